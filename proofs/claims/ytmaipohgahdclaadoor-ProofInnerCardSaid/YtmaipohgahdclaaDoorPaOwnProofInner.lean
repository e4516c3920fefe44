/- The law's own part of the proof. No conditions. -/
import Derived.Shelf.SlicesG.Cmp
import Derived.WalkKit
import Derived.WalkSpells
import Derived.Lib.Hide
import Derived.StillTailTactics
import Derived.Sort.Grow
import Derived.KernelRfl
import Derived.Lib.SlicesS
import Derived.Shelf.SlicesE.Clone
import Derived.Ground.SlgcProg
import Derived.Test.YtmaipohgahdclaaDoorProg
import Derived.Shelf.SlSortCmp.WholeK
import Derived.Shelf.SlSortCmp.NoneTotal
import Derived.Ground.SlsfProg
import Derived.Ground.SlgnProg
import Derived.Laws.StructEq
import Derived.Below
import Derived.Deep.Draws
import Derived.Deep.AppendLies
import Derived.Maps.AppendAt
import Derived.OwnWalk
import Derived.Laws.BytesArg
import Derived.Laws.MakeOwn
import Derived.Laws.OwnMore
import Derived.Tactics
import Derived.Lib.ConvBytes
import Derived.Laws.Slices
import Derived.RowKit3
import Derived.Deep.LoopGhost
import Derived.Deep.QuietTactic
import Derived.BigQuiet
import Derived.WideLaws
import Derived.Deep.DeepCutAuto
import Derived.Deep.CutBlock
import Derived.Deep.RegionHeld3
import Derived.Lib.AppendStr
import Derived.ArgAppend
import Derived.Laws.IdiomCopy
import Derived.RowKit
import Derived.Sort.Walk0
import Derived.Laws.Strings
import Derived.Maps.OwnSet
import Derived.Maps.RangeRun
import Derived.Maps.Range
import Derived.Carry
import Derived.OrdersHeld
import Derived.Laws.BitsLemmas
import Derived.Sort.LotA
import Derived.ProofKit
import Derived.OpenShut
import Derived.ShutString
import Derived.ChangeOld
import Derived.SizedLaws
import Derived.LaidMore
import Derived.Stop.Joined
import Derived.SevenTiedAt
import Derived.DeepKeys4
import Derived.ChangeSlices
import Derived.DataElems
import Derived.WalkLawsBesides
import Derived.Outline
import Derived.Deep.RegionWith
import Derived.RegionTactic
import Derived.ChangeAlike
import Derived.Deep.RegionLaw
import Derived.Lib.SmallJoins
import Derived.Laws.RangeAny
import Derived.Laws.Closers25
import Derived.Shelf.GgSortFunc.InsertionK
import Derived.Test.YtmaipohgahdclaaDoorPa0
import Derived.Test.YtmaipohgahdclaaDoorPa1
import Derived.Test.YtmaipohgahdclaaDoorPa2
import Derived.Test.YtmaipohgahdclaaDoorPa3
import Derived.Test.YtmaipohgahdclaaDoorPa4
import Derived.Test.YtmaipohgahdclaaDoorPa5
import Derived.Test.YtmaipohgahdclaaDoorPa6
import Derived.Test.YtmaipohgahdclaaDoorPa7
import Derived.Test.YtmaipohgahdclaaDoorPa8
import Derived.Test.YtmaipohgahdclaaDoorPa9
import Derived.Test.YtmaipohgahdclaaDoorPa10
import Derived.Test.YtmaipohgahdclaaDoorPa11
import Derived.Test.YtmaipohgahdclaaDoorPa12
section
namespace Go.Proofs.YtmaipohgahdclaaDoor.Pr
open Go.RowKit Go.Proofs.YtmaipohgahdclaaDoorW.PrintWords Go.Proofs.YtmaipohgahdclaaDoorW.PrintLast Go.Proofs.YtmaipohgahdclaaDoorW.PrintMore
attribute [local go_sem] max2_int min2_int max_two min_two Qbj Qbi max_four min_four
set_option linter.unusedVariables false
set_option linter.unusedSimpArgs false
mutual
def Qaz.j0 : Nat → List (S44) → Bool → ByteArray → ByteArray → ByteArray → Int → Int → List (S29) → Option (Bool)
 | 0, _, _, _, _, _, _, _, _ => none
 | k + 1, x0, x18, x102000, x102001, x102002, x102003, x102004, x102005 => if x18 = true then ((Qao.f k).bind fun t107 => (some t107)) else (Qaz.l0 k x0 0 x102000 x102001 x102002 x102003 x102004 x102005)
def Qaz.l0 : Nat → List (S44) → Int → ByteArray → ByteArray → ByteArray → Int → Int → List (S29) → Option (Bool)
 | 0, _, _, _, _, _, _, _, _ => none
 | k + 1, x0, x6, x102000, x102001, x102002, x102003, x102004, x102005 => if x6 < (x102005.length : Int) then (if 0 ≤ x6 then ((QaB.f x0 ((Qat x102005 x6).f0.f0) ((Qat x102005 x6).f0.f1) ((Qat x102005 x6).f1) ((Qat x102005 x6).f2.f0) ((Qat x102005 x6).f2.f1) ((Qat x102005 x6).f3)).bind fun t110 => (if t110 = 0 then ((Qbl.f k ((Qat x102005 x6).f0.f0) ((Qat x102005 x6).f0.f1) ((Qat x102005 x6).f1) ((Qat x102005 x6).f2.f0) ((Qat x102005 x6).f2.f1) ((Qat x102005 x6).f3)).bind fun t112 => ((Qbl.f k x102000 x102001 x102002 x102003 x102004 x102005).bind fun t113 => (if t112 ≥ t113 then (some false) else (Qaz.l0 k x0 (wrap64 (x6 + 1)) x102000 x102001 x102002 x102003 x102004 x102005)))) else (some false))) else (none)) else ((Qao.f k).bind fun t108 => (some t108))
end
def Qaz.f (k : Nat) (l0 : List (S44)) (a1_0 : ByteArray) (a1_1 : ByteArray) (a1_2 : ByteArray) (a1_3 : Int) (a1_4 : Int) (l1_5 : List (S29)) : Option (Bool) := (Qa0.f l0).bind fun t102 => ((QaE.f k a1_0 a1_1 a1_2 a1_3 a1_4 l1_5).bind fun t105 => (if t105 = true then ((QaB.f t102 a1_0 a1_1 a1_2 a1_3 a1_4 l1_5).bind fun t106 => (Qaz.j0 k t102 (t106 != 0) a1_0 a1_1 a1_2 a1_3 a1_4 l1_5)) else (Qaz.j0 k t102 true a1_0 a1_1 a1_2 a1_3 a1_4 l1_5)))
def Qaz.T8 : Bool × List (List Nat × List Nat) := (true, [([], []), ([], []), ([1], [1]), ([], []), ([2, 3], [2, 3]), ([4], [4]), ([0, 5], [0, 5]), ([6], [6]), ([7, 6], [7]), ([8], [8]), ([9, 8], [8, 9]), ([8], [8]), ([10, 11, 8], [8, 10, 11]), ([12, 8], [8, 12]), ([13, 8, 8], [8, 13]), ([8], [8]), ([15, 14, 8], [8, 15]), ([14, 16, 8], [8, 14, 16]), ([8, 17], [8, 17])])
def Qaz.B8 : List Nat := [0, 0, 2, 0, 14, 30, 63, 127, 255, 511, 1023, 511, 4095, 8191, 16383, 511, 65535, 131071, 262143]
theorem Qaz.tab8 : rtab .any (opsOf Tryd.f6 8) = Qaz.T8 := by kernel_rfl
theorem Qaz.bits8 : waitsOk Qaz.T8.2 Qaz.B8 = true := by kernel_rfl
set_option maxHeartbeats 8000000 in
set_option maxRecDepth 100000 in
theorem Qaz.calls (k : Nat) (A0 : Option Addr) (c0 : Nat) (l0 : List (S44)) (a1_0 : ByteArray) (a1_1 : ByteArray) (a1_2 : ByteArray) (a1_3 : Int) (a1_4 : Int) (A1_5 : Option Addr) (c1_5 : Nat) (l1_5 : List (S29)) (r : Bool) (w : World) (hr0 : Kd.C k44 w A0 l0.length l0) (hc0 : l0.length ≤ c0) (hr1_5 : Kd.C k29 w A1_5 l1_5.length l1_5) (hc1_5 : l1_5.length ≤ c1_5) (h : Qaz.f k l0 a1_0 a1_1 a1_2 a1_3 a1_4 l1_5 = some r) :
  Calls Tryd.prog 6 #[.slice A0 l0.length c0, .agg #[.string a1_0, .string a1_1, .string a1_2, .int .i64 a1_3, .int .i64 a1_4, .slice A1_5 l1_5.length c1_5]] w fun e w' => e = .returned (.bool r) ∧ Below w.heap.size w w' := by
 have hu29 := Tryd.underlying29; have HR0 := Qab.mk hr0; have HC0 := Qab.mk hc0; clear hr0 hc0; have HR1_5 := Qab.mk hr1_5; have HC1_5 := Qab.mk hc1_5; clear hr1_5 hc1_5; have HB := Qab.mk (Below.refl w.heap.size w); have H : ((Qa0.f l0).bind fun t102 => ((QaE.f k a1_0 a1_1 a1_2 a1_3 a1_4 l1_5).bind fun t105 => (if t105 = true then ((QaB.f t102 a1_0 a1_1 a1_2 a1_3 a1_4 l1_5).bind fun t106 => (Qaz.j0 k t102 (t106 != 0) a1_0 a1_1 a1_2 a1_3 a1_4 l1_5)) else (Qaz.j0 k t102 true a1_0 a1_1 a1_2 a1_3 a1_4 l1_5)))) = some r := h; clear h; replace H := Option.bind_eq_some_iff.mp H; obtain ⟨t102, A30, H⟩ := H; replace H : ((QaE.f k a1_0 a1_1 a1_2 a1_3 a1_4 l1_5).bind fun t105 => (if t105 = true then ((QaB.f t102 a1_0 a1_1 a1_2 a1_3 a1_4 l1_5).bind fun t106 => (Qaz.j0 k t102 (t106 != 0) a1_0 a1_1 a1_2 a1_3 a1_4 l1_5)) else (Qaz.j0 k t102 true a1_0 a1_1 a1_2 a1_3 a1_4 l1_5))) = some r := H; have A3 := Qab.mk A30; clear A30; replace H := Option.bind_eq_some_iff.mp H; obtain ⟨t105, A40, H⟩ := H; replace H : (if t105 = true then ((QaB.f t102 a1_0 a1_1 a1_2 a1_3 a1_4 l1_5).bind fun t106 => (Qaz.j0 k t102 (t106 != 0) a1_0 a1_1 a1_2 a1_3 a1_4 l1_5)) else (Qaz.j0 k t102 true a1_0 a1_1 a1_2 a1_3 a1_4 l1_5)) = some r := H; have A4 := Qab.mk A40; clear A40; have HC5 := Qab.mk H; clear H; go_enter Tryd.func6, Tryd.ntmps6
 go_upto_region 3 with (first | ((with_reducible refine Qa2 (N := 3) rfl ?_); refine QaV ?hg (N := 3) ?hd (cs := #[.string a1_0, .string a1_1, .string a1_2, .int .i64 a1_3, .int .i64 a1_4, .slice A1_5 l1_5.length c1_5]) (t := 29) ?hr ?_; (case hd => rfl); (case hg => rfl); (case hr => first | (go_simp; done) | (go_simp; rfl)); intro gb101 hg w6 hbox hb; have n0_ := Qab.mk (Qak (by repeat (first | (with_reducible first | exact HB.out | apply Qad | apply Qaa | apply Qac) | exact HB.out)) hb); have n1_ := Qab.mk (hbox); have n2_ := Qab.mk ((by rw [hg]; exact (Qar (by repeat (first | (with_reducible first | exact HB.out | apply Qad | apply Qaa | apply Qac) | exact HB.out))) : w.heap.size ≤ gb101)); have n3_ := n2_; clear HB; have HB := n0_; have BK101 := n1_; have GW101 := n2_; have GE101 := n3_; clear n0_ n1_ n2_ n3_; clear hb hbox hg) | ((with_reducible refine QaT (f := 8) rfl ?_); refine goesL_ (some 8) rfl rfl Tryd.func8 (by kernel_rfl) rfl #[.slice A0 l0.length c0] rfl (by (try simp only [List.map_toArray, List.map_cons, List.map_nil]); first | done | rfl | (simp only [List.length_drop, List.length_take]; rfl)) ?_; (with_reducible refine (Qa0.calls (fun k_ => k_ < w.heap.size) _ _ l0 t102 _ ?side1 A3.out).mono ?_); (case side1 => exact Kd.V_mk HC0.out (Kd.F_below (Kd.C_F k44_heap HR0.out) (by repeat (first | (with_reducible first | exact HB.out | apply Qad | apply Qaa | apply Qac | refine Qah ?_ GE101.out) | exact HB.out)))); rintro e w7 ⟨v103, rfl, ho0, hb⟩; refine ⟨_, rfl, ?_⟩; have n0_ := Qab.mk (Kd.V_lower (Kd.V_mono (ok' := fun k_ => k_ ≠ gb101) ho0 (fun k_ hk_ => Or.elim hk_ (fun hs_ => fun e_ => Nat.not_le.2 hs_ (by rw [e_]; exact GW101.out)) (fun hn_ => (Kd.freshB (g := gb101) (o := Qap a1_0 a1_1 a1_2 a1_3 a1_4 (.slice A1_5 l1_5.length c1_5) 29) (by (with_reducible repeat (first | refine Qag ?_ _ | refine Qai ?_ | refine Qae ?_ _)); exact BK101.out) k_ hn_)))) (Qar (by repeat (first | (with_reducible first | exact HB.out | apply Qad | apply Qaa | apply Qac | refine Qah ?_ GE101.out) | exact HB.out)))); have n1_ := Qab.mk (Qal (g := gb101) (o := Qap a1_0 a1_1 a1_2 a1_3 a1_4 (.slice A1_5 l1_5.length c1_5) 29) (by (with_reducible repeat (first | refine Qag ?_ _ | refine Qai ?_ | refine Qae ?_ _)); exact BK101.out) hb); have n2_ := Qab.mk (Qak (by repeat (first | (with_reducible first | exact HB.out | apply Qad | apply Qaa | apply Qac | refine Qah ?_ GE101.out) | exact HB.out)) hb); clear BK101; clear HB; have HO104 := n0_; have BK101 := n1_; have HB := n2_; clear n0_ n1_ n2_; (try clear hb); (try clear hb2); (try clear hk); (try clear hi); (try clear ho0); obtain ⟨hcz8_0, hcz8_1, hcz8_2, hcz8_3, hcz8_4, hcz8_5⟩ := QaZ BK101.out; obtain ⟨hfz8_0, hfz8_1, hfz8_2, hfz8_3, hfz8_4, hfz8_5⟩ := fz_6 BK101.out) | ((with_reducible refine QaT (f := 9) rfl ?_); refine goesL_ (some 10) rfl rfl Tryd.func9 (by kernel_rfl) rfl #[.agg #[.string a1_0, .string a1_1, .string a1_2, .int .i64 a1_3, .int .i64 a1_4, .slice A1_5 l1_5.length c1_5]] rfl (by (try simp only [List.map_toArray, List.map_cons, List.map_nil]); first | done | rfl | (simp only [List.length_drop, List.length_take]; rfl)) ?_; (with_reducible refine (QaE.calls k a1_0 a1_1 a1_2 a1_3 a1_4 _ _ l1_5 t105 _ ?side1 ?side2 A4.out).mono ?_); (case side1 => repeat (first | exact (Kd.QaJ HR1_5.out HB.out) | (with_reducible refine Kd.QaF ?_ _) | (with_reducible refine Kd.QaH ?_ _) | (with_reducible refine Kd.QaW ?_))); (case side2 => exact HC1_5.out); rintro e w9 ⟨rfl, hb⟩; refine ⟨_, rfl, ?_⟩; have n0_ := Qab.mk (Kd.Qbf (by (with_reducible repeat (first | apply Kd.QaO | apply Kd.QaN | apply Kd.Qa1)); exact HO104.out) hb); have n1_ := Qab.mk (Qal (g := gb101) (o := Qap a1_0 a1_1 a1_2 a1_3 a1_4 (.slice A1_5 l1_5.length c1_5) 29) (by (with_reducible repeat (first | refine Qag ?_ _ | refine Qai ?_ | refine Qae ?_ _)); exact BK101.out) hb); have n2_ := Qab.mk (Qak (by repeat (first | (with_reducible first | exact HB.out | apply Qad | apply Qaa | apply Qac | refine Qah ?_ GE101.out) | exact HB.out)) hb); clear HO104; clear BK101; clear HB; have HO104 := n0_; have BK101 := n1_; have HB := n2_; clear n0_ n1_ n2_; (try clear hb); (try clear hb2); (try clear hk); (try clear hi)))
 (try simp only [Act.put, put_])
 go_cut [18] (fun v18 wc => ∃ (kq : Nat) (x18_4 : Bool), v18 = .bool x18_4 ∧ Qab (Qaz.j0 kq t102 x18_4 a1_0 a1_1 a1_2 a1_3 a1_4 l1_5 = some r) ∧ Qab (kq ≤ k) ∧ Qab (Kd.V k44 44 wc w.heap.size (fun k_ => k_ ≠ gb101) v103 t102) ∧ Qab (wc.heap[gb101]? = some (.cells #[.string a1_0, .string a1_1, .string a1_2, .int .i64 a1_3, .int .i64 a1_4, (.slice A1_5 l1_5.length c1_5)] 29 (0, 0))) ∧ Qab (Below w.heap.size w wc))
 case first =>
  have H := HC5.out; clear HC5
  by_cases c10 : t105 = true
  ·subst c10
   have H1 : ((QaB.f t102 a1_0 a1_1 a1_2 a1_3 a1_4 l1_5).bind fun t106 => (Qaz.j0 k t102 (t106 != 0) a1_0 a1_1 a1_2 a1_3 a1_4 l1_5)) = some r := by rw [if_pos rfl] at H; exact H
   clear H; have H := H1; clear H1; replace H := Option.bind_eq_some_iff.mp H; obtain ⟨t106, A110, H⟩ := H; replace H : (Qaz.j0 k t102 (t106 != 0) a1_0 a1_1 a1_2 a1_3 a1_4 l1_5) = some r := H; have A11 := Qab.mk A110; clear A110; have H' := Qab.mk H; clear H; obtain ⟨hcz12_0, hcz12_1, hcz12_2, hcz12_3, hcz12_4, hcz12_5⟩ := QaZ BK101.out; obtain ⟨hfz12_0, hfz12_1, hfz12_2, hfz12_3, hfz12_4, hfz12_5⟩ := fz_6 BK101.out; obtain ⟨Ao13, co13, eo13⟩ := Kd.V_slice HO104.out; subst eo13
   go_wp2_with (first | (go_at_call 11; (with_reducible refine (QaB.calls _ _ t102 a1_0 a1_1 a1_2 a1_3 a1_4 _ _ l1_5 t106 _ ?side1 ?side2 ?side3 ?side4 A11.out).mono ?_); (case side1 => repeat (first | exact (Kd.Qbb HO104.out).2.2 | (with_reducible refine Kd.QaF ?_ _) | (with_reducible refine Kd.QaH ?_ _) | (with_reducible refine Kd.QaW ?_))); (case side2 => exact (Kd.Qbb HO104.out).2.1); (case side3 => repeat (first | exact (Kd.QaJ HR1_5.out HB.out) | (with_reducible refine Kd.QaF ?_ _) | (with_reducible refine Kd.QaH ?_ _) | (with_reducible refine Kd.QaW ?_))); (case side4 => exact HC1_5.out); rintro e w14 ⟨rfl, hb⟩; have n0_ := Qab.mk (Kd.Qbf (by (with_reducible repeat (first | apply Kd.QaO | apply Kd.QaN | apply Kd.Qa1)); exact HO104.out) hb); have n1_ := Qab.mk (Qal (g := gb101) (o := Qap a1_0 a1_1 a1_2 a1_3 a1_4 (.slice A1_5 l1_5.length c1_5) 29) (by (with_reducible repeat (first | refine Qag ?_ _ | refine Qai ?_ | refine Qae ?_ _)); exact BK101.out) hb); have n2_ := Qab.mk (Qak (by repeat (first | (with_reducible first | exact HB.out | apply Qad | apply Qaa | apply Qac | refine Qah ?_ GE101.out) | exact HB.out)) hb); clear HO104; clear BK101; clear HB; have HO104 := n0_; have BK101 := n1_; have HB := n2_; clear n0_ n1_ n2_; (try clear hb); (try clear hb2); (try clear hk); (try clear hi)))
   go_meet
   case rel => exact ⟨_, ((t106 != 0)), (by first | rfl | (simp; done) | (simp [*]; done)), H', ⟨by first | omega | exact Nat.le_refl _⟩, ⟨by (with_reducible repeat (first | apply Kd.QaO | apply Kd.QaN | apply Kd.Qa1)); exact HO104.out⟩, ⟨by (with_reducible repeat (first | refine Qag ?_ _ | refine Qai ?_ | refine Qae ?_ _)); exact BK101.out⟩, ⟨by repeat (first | (with_reducible first | exact HB.out | apply Qad | apply Qaa | apply Qac | refine Qah ?_ GE101.out) | exact HB.out)⟩⟩
  ·replace c10 := Bool.eq_false_iff.mpr c10; subst c10
   have H1 : (Qaz.j0 k t102 true a1_0 a1_1 a1_2 a1_3 a1_4 l1_5) = some r := by rw [if_neg (show ¬ (false = true) by decide)] at H; exact H
   clear H; have H := H1; clear H1; have H' := Qab.mk H; clear H; go_wp2
   go_meet
   case rel => exact ⟨_, (true), (by first | rfl | (simp; done) | (simp [*]; done)), H', ⟨by first | omega | exact Nat.le_refl _⟩, ⟨by (with_reducible repeat (first | apply Kd.QaO | apply Kd.QaN | apply Kd.Qa1)); exact HO104.out⟩, ⟨by (with_reducible repeat (first | refine Qag ?_ _ | refine Qai ?_ | refine Qae ?_ _)); exact BK101.out⟩, ⟨by repeat (first | (with_reducible first | exact HB.out | apply Qad | apply Qaa | apply Qac | refine Qah ?_ GE101.out) | exact HB.out)⟩⟩
 case rest =>
  clear HC5; (try clear c1); (try clear p2); (try clear c6); (try clear c8); (try clear c9); (try clear c10); (try clear hcz12_0); (try clear hcz12_1); (try clear hcz12_2); (try clear hcz12_3); (try clear hcz12_4); (try clear hcz12_5); (try clear hcz8_0); (try clear hcz8_1); (try clear hcz8_2); (try clear hcz8_3); (try clear hcz8_4); (try clear hcz8_5); (try clear hfz12_0); (try clear hfz12_1); (try clear hfz12_2); (try clear hfz12_3); (try clear hfz12_4); (try clear hfz12_5); (try clear hfz8_0); (try clear hfz8_1); (try clear hfz8_2); (try clear hfz8_3); (try clear hfz8_4); (try clear hfz8_5); obtain ⟨kq, x18_4, rfl, HA, HJ4, HO_0, BK101, HB⟩ := hcut
  cases kq with
  | zero => exact absurd HA.out (by simp [Qaz.j0])
  | succ kj4 =>
   have H := HA.out; clear HA; simp only [Qaz.j0] at H
   by_cases c15 : x18_4 = true
   ·subst c15
    have H1 : ((Qao.f kj4).bind fun t107 => (some t107)) = some r := by rw [if_pos rfl] at H; exact H
    clear H; have H := H1; clear H1; replace H := Option.bind_eq_some_iff.mp H; obtain ⟨t107, A160, H⟩ := H; replace H : (some t107) = some r := H; have A16 := Qab.mk A160; clear A160; obtain rfl := Option.some.inj H
    go_wp2_with (first | ((with_reducible refine QaT (f := 10) rfl ?_); refine goesL_ (some 19) rfl rfl Tryd.func10 (by kernel_rfl) rfl #[] rfl (by (try simp only [List.map_toArray, List.map_cons, List.map_nil]); first | done | rfl | (simp only [List.length_drop, List.length_take]; rfl)) ?_; (with_reducible refine (Qao.calls kj4  t107 _ A16.out).mono ?_); rintro e w17 ⟨rfl, hb⟩; refine ⟨_, rfl, ?_⟩; have n0_ := Qab.mk (Kd.Qbf (by (with_reducible repeat (first | apply Kd.QaO | apply Kd.QaN | apply Kd.Qa1)); exact HO_0.out) hb); have n1_ := Qab.mk (Qal (g := gb101) (o := Qap a1_0 a1_1 a1_2 a1_3 a1_4 (.slice A1_5 l1_5.length c1_5) 29) (by (with_reducible repeat (first | refine Qag ?_ _ | refine Qai ?_ | refine Qae ?_ _)); exact BK101.out) hb); have n2_ := Qab.mk (Qak (by repeat (first | (with_reducible first | exact HB.out | apply Qad | apply Qaa | apply Qac | refine Qah ?_ GE101.out) | exact HB.out)) hb); clear HO_0; clear BK101; clear HB; have HO_0 := n0_; have BK101 := n1_; have HB := n2_; clear n0_ n1_ n2_; (try clear hb); (try clear hb2); (try clear hk); (try clear hi)))
    go_ret; exact ⟨by first | rfl | (simp [Qax, Qaw] <;> rfl) | (simp [*, Qax, Qaw] <;> rfl), by repeat (first | (with_reducible first | exact HB.out | apply Qad | apply Qaa | apply Qac | refine Qah ?_ GE101.out) | exact HB.out)⟩
   ·replace c15 := Bool.eq_false_iff.mpr c15; subst c15
    have H1 : (Qaz.l0 kj4 t102 0 a1_0 a1_1 a1_2 a1_3 a1_4 l1_5) = some r := by rw [if_neg (show ¬ (false = true) by decide)] at H; exact H
    clear H; have H := H1; clear H1; have H' := Qab.mk H; clear H; go_wp2
    go_loopg [6] kj4 (fun kq v6 w' => ∃ (x6_2 : Int), v6 = .int .i64 x6_2 ∧ Qab (Qaz.l0 kq t102 x6_2 a1_0 a1_1 a1_2 a1_3 a1_4 l1_5 = some r) ∧ Qab (kq ≤ kj4) ∧ Qab (Kd.V k44 44 w' w.heap.size (fun k_ => k_ ≠ gb101) v103 t102) ∧ Qab (w'.heap[gb101]? = some (.cells #[.string a1_0, .string a1_1, .string a1_2, .int .i64 a1_3, .int .i64 a1_4, (.slice A1_5 l1_5.length c1_5)] 29 (0, 0))) ∧ Qab (Below w.heap.size w w'))
    case atStart => exact ⟨(0), (by first | rfl | (simp; done) | (simp [*]; done)), H', ⟨Nat.le_refl _⟩, ⟨by (with_reducible repeat (first | apply Kd.QaO | apply Kd.QaN | apply Kd.Qa1)); exact HO_0.out⟩, ⟨by (with_reducible repeat (first | refine Qag ?_ _ | refine Qai ?_ | refine Qae ?_ _)); exact BK101.out⟩, ⟨by repeat (first | (with_reducible first | exact HB.out | apply Qad | apply Qaa | apply Qac | refine Qah ?_ GE101.out) | exact HB.out)⟩⟩
    case round =>
     clear H'; (try clear c1); (try clear p2); (try clear c6); (try clear c8); (try clear c9); (try clear c10); (try clear c15); (try clear hcz12_0); (try clear hcz12_1); (try clear hcz12_2); (try clear hcz12_3); (try clear hcz12_4); (try clear hcz12_5); (try clear hcz8_0); (try clear hcz8_1); (try clear hcz8_2); (try clear hcz8_3); (try clear hcz8_4); (try clear hcz8_5); (try clear hfz12_0); (try clear hfz12_1); (try clear hfz12_2); (try clear hfz12_3); (try clear hfz12_4); (try clear hfz12_5); (try clear hfz8_0); (try clear hfz8_1); (try clear hfz8_2); (try clear hfz8_3); (try clear hfz8_4); (try clear hfz8_5); (try clear p2); obtain ⟨x6_2, rfl, HA, HK2, HO_0, BK101, HB⟩ := hrel
     cases gk with
     | zero => exact absurd HA.out (by simp [Qaz.l0])
     | succ k2 =>
      have H := HA.out; clear HA; simp only [Qaz.l0] at H
      by_cases c18 : x6_2 < (l1_5.length : Int)
      ·rw [if_pos c18] at H; have c18b0 : decide (x6_2 < (l1_5.length : Int)) = true := decide_eq_true c18; clear c18
       by_cases c19 : 0 ≤ x6_2
       ·rw [if_pos c19] at H; have c19b0 : decide (0 ≤ x6_2) = true := decide_eq_true c19; clear c19; replace H := Option.bind_eq_some_iff.mp H; obtain ⟨t110, A200, H⟩ := H; replace H : (if t110 = 0 then ((Qbl.f k2 ((Qat l1_5 x6_2).f0.f0) ((Qat l1_5 x6_2).f0.f1) ((Qat l1_5 x6_2).f1) ((Qat l1_5 x6_2).f2.f0) ((Qat l1_5 x6_2).f2.f1) ((Qat l1_5 x6_2).f3)).bind fun t112 => ((Qbl.f k2 a1_0 a1_1 a1_2 a1_3 a1_4 l1_5).bind fun t113 => (if t112 ≥ t113 then (some false) else (Qaz.l0 k2 t102 (wrap64 (x6_2 + 1)) a1_0 a1_1 a1_2 a1_3 a1_4 l1_5)))) else (some false)) = some r := H; have A20 := Qab.mk A200; clear A200
        by_cases c21 : t110 = 0
        ·rw [if_pos c21] at H; have c21b0 : (t110 == 0) = true := beq_iff_eq.mpr c21; have c21b1 : (t110 != 0) = false := bne_eq_false_iff_eq.mpr c21; clear c21; replace H := Option.bind_eq_some_iff.mp H; obtain ⟨t112, A220, H⟩ := H; replace H : ((Qbl.f k2 a1_0 a1_1 a1_2 a1_3 a1_4 l1_5).bind fun t113 => (if t112 ≥ t113 then (some false) else (Qaz.l0 k2 t102 (wrap64 (x6_2 + 1)) a1_0 a1_1 a1_2 a1_3 a1_4 l1_5))) = some r := H; have A22 := Qab.mk A220; clear A220; replace H := Option.bind_eq_some_iff.mp H; obtain ⟨t113, A230, H⟩ := H; replace H : (if t112 ≥ t113 then (some false) else (Qaz.l0 k2 t102 (wrap64 (x6_2 + 1)) a1_0 a1_1 a1_2 a1_3 a1_4 l1_5)) = some r := H; have A23 := Qab.mk A230; clear A230
         by_cases c24 : t112 ≥ t113
         ·rw [if_pos c24] at H; have c24b0 : decide (t113 ≤ t112) = true := decide_eq_true c24; clear c24; obtain rfl := Option.some.inj H; have hcz25_0 : wr.cell? ⟨gb101, 0, none⟩ = some (.string a1_0) := (Qaj BK101.out 0).trans rfl; have hcz25_1 : wr.cell? ⟨gb101, 1, none⟩ = some (.string a1_1) := (Qaj BK101.out 1).trans rfl; have hcz25_2 : wr.cell? ⟨gb101, 2, none⟩ = some (.string a1_2) := (Qaj BK101.out 2).trans rfl; have hcz25_3 : wr.cell? ⟨gb101, 3, none⟩ = some (.int .i64 a1_3) := (Qaj BK101.out 3).trans rfl; have hcz25_4 : wr.cell? ⟨gb101, 4, none⟩ = some (.int .i64 a1_4) := (Qaj BK101.out 4).trans rfl; have hcz25_5 : wr.cell? ⟨gb101, 5, none⟩ = some (.slice A1_5 l1_5.length c1_5) := (Qaj BK101.out 5).trans rfl; obtain ⟨hfz25_0, hfz25_1, hfz25_2, hfz25_3, hfz25_4, hfz25_5⟩ := fz_6 BK101.out
          try go_wp2
          have n0_ := Qab.mk (Kd.Qa1 HO_0.out); have n1_ := Qab.mk (Qai BK101.out); have n2_ := Qab.mk (Qac HB.out); clear HO_0; clear BK101; clear HB; have HO_0 := n0_; have BK101 := n1_; have HB := n2_; clear n0_ n1_ n2_; have p109 : 0 ≤ (x6_2 : Int) := of_decide_eq_true (by first | (with_reducible assumption) | assumption); have q109 : x6_2 < (l1_5.length : Int) := of_decide_eq_true (by first | (with_reducible assumption) | assumption); obtain ⟨ad109, A109_5, c109_5, e109, hx109_0, hx109_1, hx109_2, hx109_3, hx109_4, hx109_5, hl109_5, hi109_5⟩ := at_T29 HR1_5.out x6_2 p109 q109; have hw109_5 := hx109_5; have hw109_4 := hx109_4; have hw109_3 := hx109_3; have hw109_2 := hx109_2; have hw109_1 := hx109_1; have hw109_0 := hx109_0; cases e109; replace hx109_0 := (HB.out.cell (World.block_lt_of_cell? w _ hx109_0)).trans hx109_0; replace hx109_1 := (HB.out.cell (World.block_lt_of_cell? w _ hx109_1)).trans hx109_1; replace hx109_2 := (HB.out.cell (World.block_lt_of_cell? w _ hx109_2)).trans hx109_2; replace hx109_3 := (HB.out.cell (World.block_lt_of_cell? w _ hx109_3)).trans hx109_3; replace hx109_4 := (HB.out.cell (World.block_lt_of_cell? w _ hx109_4)).trans hx109_4; replace hx109_5 := (HB.out.cell (World.block_lt_of_cell? w _ hx109_5)).trans hx109_5; have HR109_5 := Qab.mk hi109_5; have HC109_5 := Qab.mk hl109_5; clear hi109_5 hl109_5; replace p109 := eq_true p109; replace q109 := eq_true q109; obtain ⟨Ao27, co27, eo27⟩ := Kd.V_slice HO_0.out
          (first | subst eo27 | (injection eo27 with f1_ f2_ f3_; have f4_ := f1_.symm; have f5_ := f3_.symm; clear f1_ f2_ f3_; subst f4_; subst f5_))
          have p111 : 0 ≤ (x6_2 : Int) := of_decide_eq_true (by first | (with_reducible assumption) | assumption); have q111 : x6_2 < (l1_5.length : Int) := of_decide_eq_true (by first | (with_reducible assumption) | assumption); obtain ⟨ad111, A111_5, c111_5, e111, hx111_0, hx111_1, hx111_2, hx111_3, hx111_4, hx111_5, hl111_5, hi111_5⟩ := at_T29 HR1_5.out x6_2 p111 q111; have hw111_5 := hx111_5; have hw111_4 := hx111_4; have hw111_3 := hx111_3; have hw111_2 := hx111_2; have hw111_1 := hx111_1; have hw111_0 := hx111_0
          obtain rfl : ad109 = ad111 := (by injection e111); obtain ⟨rfl, rfl⟩ : A109_5 = A111_5 ∧ c109_5 = c111_5 := (by have e_ := hw109_5.symm.trans hw111_5; injection e_ with e_; injection e_ with e1_ _ e2_; exact ⟨e1_, e2_⟩)
          replace hx111_0 := (HB.out.cell (World.block_lt_of_cell? w _ hx111_0)).trans hx111_0; replace hx111_1 := (HB.out.cell (World.block_lt_of_cell? w _ hx111_1)).trans hx111_1; replace hx111_2 := (HB.out.cell (World.block_lt_of_cell? w _ hx111_2)).trans hx111_2; replace hx111_3 := (HB.out.cell (World.block_lt_of_cell? w _ hx111_3)).trans hx111_3; replace hx111_4 := (HB.out.cell (World.block_lt_of_cell? w _ hx111_4)).trans hx111_4; replace hx111_5 := (HB.out.cell (World.block_lt_of_cell? w _ hx111_5)).trans hx111_5; have HR111_5 := Qab.mk hi111_5; have HC111_5 := Qab.mk hl111_5; clear hi111_5 hl111_5; replace p111 := eq_true p111; replace q111 := eq_true q111; refine start_ (n := 19) (S := fun w' => w'.cell? ⟨gb101, 0, none⟩ = some (.string a1_0) ∧ w'.cell? ⟨gb101, 1, none⟩ = some (.string a1_1) ∧ w'.cell? ⟨gb101, 2, none⟩ = some (.string a1_2) ∧ w'.cell? ⟨gb101, 3, none⟩ = some (.int .i64 a1_3) ∧ w'.cell? ⟨gb101, 4, none⟩ = some (.int .i64 a1_4) ∧ w'.cell? ⟨gb101, 5, none⟩ = some (.slice (some ad109) l1_5.length c1_5) ∧ w'.cell? (ad109.add ((x6_2).toNat * 6)) = some (.string ((Qat l1_5 x6_2).f0.f0)) ∧ w'.cell? ⟨(ad109.add ((x6_2).toNat * 6)).block, (ad109.add ((x6_2).toNat * 6)).off + 1, none⟩ = some (.string ((Qat l1_5 x6_2).f0.f1)) ∧ w'.cell? ⟨(ad109.add ((x6_2).toNat * 6)).block, (ad109.add ((x6_2).toNat * 6)).off + 2, none⟩ = some (.string ((Qat l1_5 x6_2).f1)) ∧ w'.cell? ⟨(ad109.add ((x6_2).toNat * 6)).block, (ad109.add ((x6_2).toNat * 6)).off + 3, none⟩ = some (.int .i64 ((Qat l1_5 x6_2).f2.f0)) ∧ w'.cell? ⟨(ad109.add ((x6_2).toNat * 6)).block, (ad109.add ((x6_2).toNat * 6)).off + 4, none⟩ = some (.int .i64 ((Qat l1_5 x6_2).f2.f1)) ∧ w'.cell? ⟨(ad109.add ((x6_2).toNat * 6)).block, (ad109.add ((x6_2).toNat * 6)).off + 5, none⟩ = some (.slice A109_5 ((Qat l1_5 x6_2).f3).length c109_5) ∧ w'.cell? (ad109.add ((x6_2).toNat * 6)) = some (.string ((Qat l1_5 x6_2).f0.f0)) ∧ w'.cell? ⟨(ad109.add ((x6_2).toNat * 6)).block, (ad109.add ((x6_2).toNat * 6)).off + 1, none⟩ = some (.string ((Qat l1_5 x6_2).f0.f1)) ∧ w'.cell? ⟨(ad109.add ((x6_2).toNat * 6)).block, (ad109.add ((x6_2).toNat * 6)).off + 2, none⟩ = some (.string ((Qat l1_5 x6_2).f1)) ∧ w'.cell? ⟨(ad109.add ((x6_2).toNat * 6)).block, (ad109.add ((x6_2).toNat * 6)).off + 3, none⟩ = some (.int .i64 ((Qat l1_5 x6_2).f2.f0)) ∧ w'.cell? ⟨(ad109.add ((x6_2).toNat * 6)).block, (ad109.add ((x6_2).toNat * 6)).off + 4, none⟩ = some (.int .i64 ((Qat l1_5 x6_2).f2.f1)) ∧ w'.cell? ⟨(ad109.add ((x6_2).toNat * 6)).block, (ad109.add ((x6_2).toNat * 6)).off + 5, none⟩ = some (.slice A109_5 ((Qat l1_5 x6_2).f3).length c109_5)) (ds := []) #[ff,ff,ff,ff,ff,ff,ff,ff,ff,ff,ff,ff,ff,ff,ff,ff,ff,ff,ff] (by kernel_rfl) rfl rfl ⟨(Qaj BK101.out 0).trans rfl, (Qaj BK101.out 1).trans rfl, (Qaj BK101.out 2).trans rfl, (Qaj BK101.out 3).trans rfl, (Qaj BK101.out 4).trans rfl, (Qaj BK101.out 5).trans rfl, ((HB.out.cell (World.block_lt_of_cell? w _ hw109_0)).trans hw109_0), ((HB.out.cell (World.block_lt_of_cell? w _ hw109_1)).trans hw109_1), ((HB.out.cell (World.block_lt_of_cell? w _ hw109_2)).trans hw109_2), ((HB.out.cell (World.block_lt_of_cell? w _ hw109_3)).trans hw109_3), ((HB.out.cell (World.block_lt_of_cell? w _ hw109_4)).trans hw109_4), ((HB.out.cell (World.block_lt_of_cell? w _ hw109_5)).trans hw109_5), ((HB.out.cell (World.block_lt_of_cell? w _ hw111_0)).trans hw111_0), ((HB.out.cell (World.block_lt_of_cell? w _ hw111_1)).trans hw111_1), ((HB.out.cell (World.block_lt_of_cell? w _ hw111_2)).trans hw111_2), ((HB.out.cell (World.block_lt_of_cell? w _ hw111_3)).trans hw111_3), ((HB.out.cell (World.block_lt_of_cell? w _ hw111_4)).trans hw111_4), ((HB.out.cell (World.block_lt_of_cell? w _ hw111_5)).trans hw111_5)⟩ (fun hHeld => ?_); refine with_tabW Qaz.tab8 Qaz.bits8 (fun HT_ HW_ => ?_)
          generalize wr.drew = w26 at HO_0 BK101 HB HR109_5 HR111_5 hx109_0 hx109_1 hx109_2 hx109_3 hx109_4 hx109_5 hx111_0 hx111_1 hx111_2 hx111_3 hx111_4 hx111_5 hHeld ⊢
          refine Qa6 (i := 0) (N := some 27) (v := ?_) (a' := ?_) #[tt,ff,ff,ff,ff,ff,ff,ff,ff,ff,ff,ff,ff,ff,ff,ff,ff,ff,ff] rfl rfl (QaK HT_.out (by kernel_rfl)) (fun _ _ _ h => h) (Or.inl ⟨by rfl, ?_⟩) ?_ ?_; rotate_left
          ·intro w'; go_simp; (with_reducible rfl)
          rotate_left
          ·simp only [Act.put, put_, QaG, QaI]; rfl
          refine Qa6 (i := 1) (N := some 28) (v := ?_) (a' := ?_) #[tt,tt,ff,ff,ff,ff,ff,ff,ff,ff,ff,ff,ff,ff,ff,ff,ff,ff,ff] rfl rfl (QaK HT_.out (by kernel_rfl)) (fun _ _ _ h => h) (Or.inl ⟨by rfl, ?_⟩) ?_ ?_; rotate_left
          ·intro w'; go_simp; (with_reducible rfl)
          rotate_left
          ·simp only [Act.put, put_, QaG, QaI]; rfl
          refine Qa6 (i := 3) (N := some 30) (v := ?_) (a' := ?_) #[tt,tt,ff,tt,ff,ff,ff,ff,ff,ff,ff,ff,ff,ff,ff,ff,ff,ff,ff] rfl rfl (QaK HT_.out (by kernel_rfl)) (fun _ _ _ h => h) (Or.inl ⟨by rfl, ?_⟩) ?_ ?_; rotate_left
          ·intro w'; go_simp; (with_reducible rfl)
          rotate_left
          ·simp only [Act.put, put_, QaG, QaI]; rfl
          refine take_ (i := 2) (N := some 29) (v := ?_) (a' := ?_) #[tt,tt,tt,tt,ff,ff,ff,ff,ff,ff,ff,ff,ff,ff,ff,ff,ff,ff,ff] rfl rfl (Qbh HT_.out HW_.out (by kernel_rfl)) (fun _ _ _ h => h) (Or.inl ⟨by rfl, ?_⟩) hHeld ?_ ?_; rotate_left
          ·rintro w' ⟨s0, s1, s2, s3, s4, s5, s6, s7, s8, s9, s10, s11, s12, s13, s14, s15, s16, s17⟩; go_simp; (with_reducible rfl)
          rotate_left
          ·simp only [Act.put, put_, QaG, QaI]; rfl
          refine Qa6 (i := 4) (N := some 31) (v := ?_) (a' := ?_) #[tt,tt,tt,tt,tt,ff,ff,ff,ff,ff,ff,ff,ff,ff,ff,ff,ff,ff,ff] rfl rfl (QaK HT_.out (by kernel_rfl)) (fun _ _ _ h => h) (Or.inl ⟨by rfl, ?_⟩) ?_ ?_; rotate_left
          ·intro w'; go_simp; (with_reducible rfl)
          rotate_left
          ·simp only [Act.put, put_, QaG, QaI]; rfl
          refine take_ (i := 5) (N := some 32) (v := ?_) (a' := ?_) #[tt,tt,tt,tt,tt,tt,ff,ff,ff,ff,ff,ff,ff,ff,ff,ff,ff,ff,ff] rfl rfl (Qbh HT_.out HW_.out (by kernel_rfl)) (fun _ _ _ h => h) (Or.inl ⟨by rfl, ?_⟩) hHeld ?_ ?_; rotate_left
          ·rintro w' ⟨s0, s1, s2, s3, s4, s5, s6, s7, s8, s9, s10, s11, s12, s13, s14, s15, s16, s17⟩; go_simp; (with_reducible rfl)
          rotate_left
          ·simp only [Act.put, put_, QaG, QaI]; rfl
          refine one_ (i := 6) (N := some 33) #[tt,tt,tt,tt,tt,tt,tt,ff,ff,ff,ff,ff,ff,ff,ff,ff,ff,ff,ff] rfl rfl (one_of HT_.out (by kernel_rfl)) (by decide) (fun K hK => ?_); refine goes_ Tryd.func11 (by kernel_rfl) rfl #[.slice Ao27 t102.length co27, .agg #[.string ((Qat l1_5 x6_2).f0.f0), .string ((Qat l1_5 x6_2).f0.f1), .string ((Qat l1_5 x6_2).f1), .int .i64 ((Qat l1_5 x6_2).f2.f0), .int .i64 ((Qat l1_5 x6_2).f2.f1), .slice A109_5 ((Qat l1_5 x6_2).f3).length c109_5]] (by rfl) rfl rfl (by (try simp only [List.map_toArray, List.map_cons, List.map_nil]); first | done | rfl | (simp only [List.length_drop, List.length_take]; rfl)) ?_
          with_reducible refine (QaB.calls _ _ t102 ((Qat l1_5 x6_2).f0.f0) ((Qat l1_5 x6_2).f0.f1) ((Qat l1_5 x6_2).f1) ((Qat l1_5 x6_2).f2.f0) ((Qat l1_5 x6_2).f2.f1) _ _ ((Qat l1_5 x6_2).f3) t110 _ ?side1 ?side2 ?side3 ?side4 A20.out).mono ?_
          (case side1 => repeat (first | exact (Kd.Qbb HO_0.out).2.2 | (with_reducible refine Kd.QaF ?_ _) | (with_reducible refine Kd.QaH ?_ _) | (with_reducible refine Kd.QaW ?_)))
          (case side2 => exact (Kd.Qbb HO_0.out).2.1)
          (case side3 => repeat (first | exact (Kd.QaJ HR109_5.out HB.out) | (with_reducible refine Kd.QaF ?_ _) | (with_reducible refine Kd.QaH ?_ _) | (with_reducible refine Kd.QaW ?_)))
          (case side4 => exact HC109_5.out)
          rintro e w28 ⟨rfl, hb⟩; refine ⟨_, rfl, ?_⟩; have n0_ := Qab.mk (Kd.Qbf (by (with_reducible repeat (first | apply Kd.QaO | apply Kd.QaN | apply Kd.Qa1)); exact HO_0.out) hb); have n1_ := Qab.mk (Qal (g := gb101) (o := Qap a1_0 a1_1 a1_2 a1_3 a1_4 (.slice (some ad109) l1_5.length c1_5) 29) (by (with_reducible repeat (first | refine Qag ?_ _ | refine Qai ?_ | refine Qae ?_ _)); exact BK101.out) hb); have n2_ := Qab.mk (Qak (by repeat (first | (with_reducible first | exact HB.out | apply Qad | apply Qaa | apply Qac | refine Qah ?_ GE101.out) | exact HB.out)) hb); clear HO_0; clear BK101; clear HB; have HO_0 := n0_; have BK101 := n1_; have HB := n2_; clear n0_ n1_ n2_
          (try clear hb)
          (try clear hb2)
          (try clear hk)
          (try clear hi)
          refine hK.out _ _ ⟨(Qaj BK101.out 0).trans rfl, (Qaj BK101.out 1).trans rfl, (Qaj BK101.out 2).trans rfl, (Qaj BK101.out 3).trans rfl, (Qaj BK101.out 4).trans rfl, (Qaj BK101.out 5).trans rfl, ((HB.out.cell (World.block_lt_of_cell? w _ hw109_0)).trans hw109_0), ((HB.out.cell (World.block_lt_of_cell? w _ hw109_1)).trans hw109_1), ((HB.out.cell (World.block_lt_of_cell? w _ hw109_2)).trans hw109_2), ((HB.out.cell (World.block_lt_of_cell? w _ hw109_3)).trans hw109_3), ((HB.out.cell (World.block_lt_of_cell? w _ hw109_4)).trans hw109_4), ((HB.out.cell (World.block_lt_of_cell? w _ hw109_5)).trans hw109_5), ((HB.out.cell (World.block_lt_of_cell? w _ hw111_0)).trans hw111_0), ((HB.out.cell (World.block_lt_of_cell? w _ hw111_1)).trans hw111_1), ((HB.out.cell (World.block_lt_of_cell? w _ hw111_2)).trans hw111_2), ((HB.out.cell (World.block_lt_of_cell? w _ hw111_3)).trans hw111_3), ((HB.out.cell (World.block_lt_of_cell? w _ hw111_4)).trans hw111_4), ((HB.out.cell (World.block_lt_of_cell? w _ hw111_5)).trans hw111_5)⟩ (fun hHeld => ?_); clear hK K; refine norm_ (a' := ?_) ?_ ?_; rotate_left
          ·show Act.put _ (some 33) _ = _
           simp only [Act.put, put_, QaG, QaI]; rfl
          refine Qa6 (i := 7) (N := some 34) (v := ?_) (a' := ?_) #[tt,tt,tt,tt,tt,tt,tt,tt,ff,ff,ff,ff,ff,ff,ff,ff,ff,ff,ff] rfl rfl (QaK HT_.out (by kernel_rfl)) (fun _ _ _ h => h) (Or.inl ⟨by rfl, ?_⟩) ?_ ?_; rotate_left
          ·intro w'; go_simp; (with_reducible rfl)
          rotate_left
          ·simp only [Act.put, put_, QaG, QaI]; rfl
          refine Qa6 (i := 8) (N := some 35) (v := ?_) (a' := ?_) #[tt,tt,tt,tt,tt,tt,tt,tt,tt,ff,ff,ff,ff,ff,ff,ff,ff,ff,ff] rfl rfl (QaK HT_.out (by kernel_rfl)) (fun _ _ _ h => h) (Or.inl ⟨by rfl, ?_⟩) ?_ ?_; rotate_left
          ·intro w'; go_simp; (with_reducible rfl)
          rotate_left
          ·simp only [Act.put, put_, QaG, QaI]; rfl
          refine Qa6 (i := 9) (N := some 36) (v := ?_) (a' := ?_) #[tt,tt,tt,tt,tt,tt,tt,tt,tt,tt,ff,ff,ff,ff,ff,ff,ff,ff,ff] rfl rfl (QaK HT_.out (by kernel_rfl)) (fun _ _ _ h => h) (Or.inl ⟨by rfl, ?_⟩) ?_ ?_; rotate_left
          ·intro w'; go_simp; (with_reducible rfl)
          rotate_left
          ·simp only [Act.put, put_, QaG, QaI]; rfl
          refine Qa6 (i := 11) (N := some 38) (v := ?_) (a' := ?_) #[tt,tt,tt,tt,tt,tt,tt,tt,tt,tt,ff,tt,ff,ff,ff,ff,ff,ff,ff] rfl rfl (QaK HT_.out (by kernel_rfl)) (fun _ _ _ h => h) (Or.inl ⟨by rfl, ?_⟩) ?_ ?_; rotate_left
          ·intro w'; go_simp; (with_reducible rfl)
          rotate_left
          ·simp only [Act.put, put_, QaG, QaI]; rfl
          refine take_ (i := 10) (N := some 37) (v := ?_) (a' := ?_) #[tt,tt,tt,tt,tt,tt,tt,tt,tt,tt,tt,tt,ff,ff,ff,ff,ff,ff,ff] rfl rfl (Qbh HT_.out HW_.out (by kernel_rfl)) (fun _ _ _ h => h) (Or.inl ⟨by rfl, ?_⟩) hHeld ?_ ?_; rotate_left
          ·rintro w' ⟨s0, s1, s2, s3, s4, s5, s6, s7, s8, s9, s10, s11, s12, s13, s14, s15, s16, s17⟩; go_simp; (with_reducible rfl)
          rotate_left
          ·simp only [Act.put, put_, QaG, QaI]; rfl
          refine Qa6 (i := 12) (N := some 39) (v := ?_) (a' := ?_) #[tt,tt,tt,tt,tt,tt,tt,tt,tt,tt,tt,tt,tt,ff,ff,ff,ff,ff,ff] rfl rfl (QaK HT_.out (by kernel_rfl)) (fun _ _ _ h => h) (Or.inl ⟨by rfl, ?_⟩) ?_ ?_; rotate_left
          ·intro w'; go_simp; (with_reducible rfl)
          rotate_left
          ·simp only [Act.put, put_, QaG, QaI]; rfl
          refine take_ (i := 13) (N := some 40) (v := ?_) (a' := ?_) #[tt,tt,tt,tt,tt,tt,tt,tt,tt,tt,tt,tt,tt,tt,ff,ff,ff,ff,ff] rfl rfl (Qbh HT_.out HW_.out (by kernel_rfl)) (fun _ _ _ h => h) (Or.inl ⟨by rfl, ?_⟩) hHeld ?_ ?_; rotate_left
          ·rintro w' ⟨s0, s1, s2, s3, s4, s5, s6, s7, s8, s9, s10, s11, s12, s13, s14, s15, s16, s17⟩; go_simp; (with_reducible rfl)
          rotate_left
          ·simp only [Act.put, put_, QaG, QaI]; rfl
          refine take_ (i := 15) (N := some 42) (v := ?_) (a' := ?_) #[tt,tt,tt,tt,tt,tt,tt,tt,tt,tt,tt,tt,tt,tt,ff,tt,ff,ff,ff] rfl rfl (Qbh HT_.out HW_.out (by kernel_rfl)) (fun _ _ _ h => h) (Or.inl ⟨by rfl, ?_⟩) hHeld ?_ ?_; rotate_left
          ·rintro w' ⟨s0, s1, s2, s3, s4, s5, s6, s7, s8, s9, s10, s11, s12, s13, s14, s15, s16, s17⟩; go_simp; (with_reducible rfl)
          rotate_left
          ·simp only [Act.put, put_, QaG, QaI]; rfl
          refine one_ (i := 14) (N := some 41) #[tt,tt,tt,tt,tt,tt,tt,tt,tt,tt,tt,tt,tt,tt,tt,tt,ff,ff,ff] rfl rfl (one_of HT_.out (by kernel_rfl)) (by decide) (fun K hK => ?_); refine goes_ Tryd.func16 (by kernel_rfl) rfl #[.agg #[.string ((Qat l1_5 x6_2).f0.f0), .string ((Qat l1_5 x6_2).f0.f1), .string ((Qat l1_5 x6_2).f1), .int .i64 ((Qat l1_5 x6_2).f2.f0), .int .i64 ((Qat l1_5 x6_2).f2.f1), .slice A109_5 ((Qat l1_5 x6_2).f3).length c109_5]] (by rfl) rfl rfl (by (try simp only [List.map_toArray, List.map_cons, List.map_nil]); first | done | rfl | (simp only [List.length_drop, List.length_take]; rfl)) ?_
          with_reducible refine (Qbl.calls k2 ((Qat l1_5 x6_2).f0.f0) ((Qat l1_5 x6_2).f0.f1) ((Qat l1_5 x6_2).f1) ((Qat l1_5 x6_2).f2.f0) ((Qat l1_5 x6_2).f2.f1) _ _ ((Qat l1_5 x6_2).f3) t112 _ ?side1 ?side2 A22.out).mono ?_
          (case side1 => repeat (first | exact (Kd.QaJ HR111_5.out HB.out) | (with_reducible refine Kd.QaF ?_ _) | (with_reducible refine Kd.QaH ?_ _) | (with_reducible refine Kd.QaW ?_)))
          (case side2 => exact HC111_5.out)
          rintro e w29 ⟨rfl, hb⟩; refine ⟨_, rfl, ?_⟩; have n0_ := Qab.mk (Kd.Qbf (by (with_reducible repeat (first | apply Kd.QaO | apply Kd.QaN | apply Kd.Qa1)); exact HO_0.out) hb); have n1_ := Qab.mk (Qal (g := gb101) (o := Qap a1_0 a1_1 a1_2 a1_3 a1_4 (.slice (some ad109) l1_5.length c1_5) 29) (by (with_reducible repeat (first | refine Qag ?_ _ | refine Qai ?_ | refine Qae ?_ _)); exact BK101.out) hb); have n2_ := Qab.mk (Qak (by repeat (first | (with_reducible first | exact HB.out | apply Qad | apply Qaa | apply Qac | refine Qah ?_ GE101.out) | exact HB.out)) hb); clear HO_0; clear BK101; clear HB; have HO_0 := n0_; have BK101 := n1_; have HB := n2_; clear n0_ n1_ n2_
          (try clear hb)
          (try clear hb2)
          (try clear hk)
          (try clear hi)
          refine hK.out _ _ ⟨(Qaj BK101.out 0).trans rfl, (Qaj BK101.out 1).trans rfl, (Qaj BK101.out 2).trans rfl, (Qaj BK101.out 3).trans rfl, (Qaj BK101.out 4).trans rfl, (Qaj BK101.out 5).trans rfl, ((HB.out.cell (World.block_lt_of_cell? w _ hw109_0)).trans hw109_0), ((HB.out.cell (World.block_lt_of_cell? w _ hw109_1)).trans hw109_1), ((HB.out.cell (World.block_lt_of_cell? w _ hw109_2)).trans hw109_2), ((HB.out.cell (World.block_lt_of_cell? w _ hw109_3)).trans hw109_3), ((HB.out.cell (World.block_lt_of_cell? w _ hw109_4)).trans hw109_4), ((HB.out.cell (World.block_lt_of_cell? w _ hw109_5)).trans hw109_5), ((HB.out.cell (World.block_lt_of_cell? w _ hw111_0)).trans hw111_0), ((HB.out.cell (World.block_lt_of_cell? w _ hw111_1)).trans hw111_1), ((HB.out.cell (World.block_lt_of_cell? w _ hw111_2)).trans hw111_2), ((HB.out.cell (World.block_lt_of_cell? w _ hw111_3)).trans hw111_3), ((HB.out.cell (World.block_lt_of_cell? w _ hw111_4)).trans hw111_4), ((HB.out.cell (World.block_lt_of_cell? w _ hw111_5)).trans hw111_5)⟩ (fun hHeld => ?_); clear hK K; refine norm_ (a' := ?_) ?_ ?_; rotate_left
          ·show Act.put _ (some 41) _ = _
           simp only [Act.put, put_, QaG, QaI]; rfl
          refine one_ (i := 16) (N := some 43) #[tt,tt,tt,tt,tt,tt,tt,tt,tt,tt,tt,tt,tt,tt,tt,tt,tt,ff,ff] rfl rfl (one_of HT_.out (by kernel_rfl)) (by decide) (fun K hK => ?_); refine goes_ Tryd.func16 (by kernel_rfl) rfl #[.agg #[.string a1_0, .string a1_1, .string a1_2, .int .i64 a1_3, .int .i64 a1_4, .slice (some ad109) l1_5.length c1_5]] (by rfl) rfl rfl (by (try simp only [List.map_toArray, List.map_cons, List.map_nil]); first | done | rfl | (simp only [List.length_drop, List.length_take]; rfl)) ?_
          with_reducible refine (Qbl.calls k2 a1_0 a1_1 a1_2 a1_3 a1_4 _ _ l1_5 t113 _ ?side1 ?side2 A23.out).mono ?_
          (case side1 => repeat (first | exact (Kd.QaJ HR1_5.out HB.out) | (with_reducible refine Kd.QaF ?_ _) | (with_reducible refine Kd.QaH ?_ _) | (with_reducible refine Kd.QaW ?_)))
          (case side2 => exact HC1_5.out)
          rintro e w30 ⟨rfl, hb⟩; refine ⟨_, rfl, ?_⟩; have n0_ := Qab.mk (Kd.Qbf (by (with_reducible repeat (first | apply Kd.QaO | apply Kd.QaN | apply Kd.Qa1)); exact HO_0.out) hb); have n1_ := Qab.mk (Qal (g := gb101) (o := Qap a1_0 a1_1 a1_2 a1_3 a1_4 (.slice (some ad109) l1_5.length c1_5) 29) (by (with_reducible repeat (first | refine Qag ?_ _ | refine Qai ?_ | refine Qae ?_ _)); exact BK101.out) hb); have n2_ := Qab.mk (Qak (by repeat (first | (with_reducible first | exact HB.out | apply Qad | apply Qaa | apply Qac | refine Qah ?_ GE101.out) | exact HB.out)) hb); clear HO_0; clear BK101; clear HB; have HO_0 := n0_; have BK101 := n1_; have HB := n2_; clear n0_ n1_ n2_
          (try clear hb)
          (try clear hb2)
          (try clear hk)
          (try clear hi)
          refine hK.out _ _ ⟨(Qaj BK101.out 0).trans rfl, (Qaj BK101.out 1).trans rfl, (Qaj BK101.out 2).trans rfl, (Qaj BK101.out 3).trans rfl, (Qaj BK101.out 4).trans rfl, (Qaj BK101.out 5).trans rfl, ((HB.out.cell (World.block_lt_of_cell? w _ hw109_0)).trans hw109_0), ((HB.out.cell (World.block_lt_of_cell? w _ hw109_1)).trans hw109_1), ((HB.out.cell (World.block_lt_of_cell? w _ hw109_2)).trans hw109_2), ((HB.out.cell (World.block_lt_of_cell? w _ hw109_3)).trans hw109_3), ((HB.out.cell (World.block_lt_of_cell? w _ hw109_4)).trans hw109_4), ((HB.out.cell (World.block_lt_of_cell? w _ hw109_5)).trans hw109_5), ((HB.out.cell (World.block_lt_of_cell? w _ hw111_0)).trans hw111_0), ((HB.out.cell (World.block_lt_of_cell? w _ hw111_1)).trans hw111_1), ((HB.out.cell (World.block_lt_of_cell? w _ hw111_2)).trans hw111_2), ((HB.out.cell (World.block_lt_of_cell? w _ hw111_3)).trans hw111_3), ((HB.out.cell (World.block_lt_of_cell? w _ hw111_4)).trans hw111_4), ((HB.out.cell (World.block_lt_of_cell? w _ hw111_5)).trans hw111_5)⟩ (fun hHeld => ?_); clear hK K; refine norm_ (a' := ?_) ?_ ?_; rotate_left
          ·show Act.put _ (some 43) _ = _
           simp only [Act.put, put_, QaG, QaI]; rfl
          refine Qa6 (i := 17) (N := some 44) (v := ?_) (a' := ?_) #[tt,tt,tt,tt,tt,tt,tt,tt,tt,tt,tt,tt,tt,tt,tt,tt,tt,tt,ff] rfl rfl (QaK HT_.out (by kernel_rfl)) (fun _ _ _ h => h) (Or.inl ⟨by rfl, ?_⟩) ?_ ?_; rotate_left
          ·intro w'; go_simp; (with_reducible rfl)
          rotate_left
          ·simp only [Act.put, put_, QaG, QaI]; rfl
          refine Qa6 (i := 18) (N := some 45) (v := ?_) (a' := ?_) #[tt,tt,tt,tt,tt,tt,tt,tt,tt,tt,tt,tt,tt,tt,tt,tt,tt,tt,tt] rfl rfl (QaK HT_.out (by kernel_rfl)) (fun _ _ _ h => h) (Or.inl ⟨by rfl, ?_⟩) ?_ ?_; rotate_left
          ·intro w'; go_simp; (with_reducible rfl)
          rotate_left
          ·simp only [Act.put, put_, QaG, QaI]; rfl
          refine done_ (done_of HT_.out (by kernel_rfl)) ?_
          try go_wp2
          go_ret; exact ⟨by first | rfl | (simp [Qax, Qaw] <;> rfl) | (simp [*, Qax, Qaw] <;> rfl), by repeat (first | (with_reducible first | exact HB.out | apply Qad | apply Qaa | apply Qac | refine Qah ?_ GE101.out) | exact HB.out)⟩
         ·rw [if_neg c24] at H; have c24b0 : decide (t113 ≤ t112) = false := decide_eq_false c24; clear c24; have H' := Qab.mk H; clear H; have hcz31_0 : wr.cell? ⟨gb101, 0, none⟩ = some (.string a1_0) := (Qaj BK101.out 0).trans rfl; have hcz31_1 : wr.cell? ⟨gb101, 1, none⟩ = some (.string a1_1) := (Qaj BK101.out 1).trans rfl; have hcz31_2 : wr.cell? ⟨gb101, 2, none⟩ = some (.string a1_2) := (Qaj BK101.out 2).trans rfl; have hcz31_3 : wr.cell? ⟨gb101, 3, none⟩ = some (.int .i64 a1_3) := (Qaj BK101.out 3).trans rfl; have hcz31_4 : wr.cell? ⟨gb101, 4, none⟩ = some (.int .i64 a1_4) := (Qaj BK101.out 4).trans rfl; have hcz31_5 : wr.cell? ⟨gb101, 5, none⟩ = some (.slice A1_5 l1_5.length c1_5) := (Qaj BK101.out 5).trans rfl; obtain ⟨hfz31_0, hfz31_1, hfz31_2, hfz31_3, hfz31_4, hfz31_5⟩ := fz_6 BK101.out
          try go_wp2
          have n0_ := Qab.mk (Kd.Qa1 HO_0.out); have n1_ := Qab.mk (Qai BK101.out); have n2_ := Qab.mk (Qac HB.out); clear HO_0; clear BK101; clear HB; have HO_0 := n0_; have BK101 := n1_; have HB := n2_; clear n0_ n1_ n2_; have p109 : 0 ≤ (x6_2 : Int) := of_decide_eq_true (by first | (with_reducible assumption) | assumption); have q109 : x6_2 < (l1_5.length : Int) := of_decide_eq_true (by first | (with_reducible assumption) | assumption); obtain ⟨ad109, A109_5, c109_5, e109, hx109_0, hx109_1, hx109_2, hx109_3, hx109_4, hx109_5, hl109_5, hi109_5⟩ := at_T29 HR1_5.out x6_2 p109 q109; have hw109_5 := hx109_5; have hw109_4 := hx109_4; have hw109_3 := hx109_3; have hw109_2 := hx109_2; have hw109_1 := hx109_1; have hw109_0 := hx109_0; cases e109; replace hx109_0 := (HB.out.cell (World.block_lt_of_cell? w _ hx109_0)).trans hx109_0; replace hx109_1 := (HB.out.cell (World.block_lt_of_cell? w _ hx109_1)).trans hx109_1; replace hx109_2 := (HB.out.cell (World.block_lt_of_cell? w _ hx109_2)).trans hx109_2; replace hx109_3 := (HB.out.cell (World.block_lt_of_cell? w _ hx109_3)).trans hx109_3; replace hx109_4 := (HB.out.cell (World.block_lt_of_cell? w _ hx109_4)).trans hx109_4; replace hx109_5 := (HB.out.cell (World.block_lt_of_cell? w _ hx109_5)).trans hx109_5; have HR109_5 := Qab.mk hi109_5; have HC109_5 := Qab.mk hl109_5; clear hi109_5 hl109_5; replace p109 := eq_true p109; replace q109 := eq_true q109; obtain ⟨Ao33, co33, eo33⟩ := Kd.V_slice HO_0.out
          (first | subst eo33 | (injection eo33 with f1_ f2_ f3_; have f4_ := f1_.symm; have f5_ := f3_.symm; clear f1_ f2_ f3_; subst f4_; subst f5_))
          have p111 : 0 ≤ (x6_2 : Int) := of_decide_eq_true (by first | (with_reducible assumption) | assumption); have q111 : x6_2 < (l1_5.length : Int) := of_decide_eq_true (by first | (with_reducible assumption) | assumption); obtain ⟨ad111, A111_5, c111_5, e111, hx111_0, hx111_1, hx111_2, hx111_3, hx111_4, hx111_5, hl111_5, hi111_5⟩ := at_T29 HR1_5.out x6_2 p111 q111; have hw111_5 := hx111_5; have hw111_4 := hx111_4; have hw111_3 := hx111_3; have hw111_2 := hx111_2; have hw111_1 := hx111_1; have hw111_0 := hx111_0
          obtain rfl : ad109 = ad111 := (by injection e111); obtain ⟨rfl, rfl⟩ : A109_5 = A111_5 ∧ c109_5 = c111_5 := (by have e_ := hw109_5.symm.trans hw111_5; injection e_ with e_; injection e_ with e1_ _ e2_; exact ⟨e1_, e2_⟩)
          replace hx111_0 := (HB.out.cell (World.block_lt_of_cell? w _ hx111_0)).trans hx111_0; replace hx111_1 := (HB.out.cell (World.block_lt_of_cell? w _ hx111_1)).trans hx111_1; replace hx111_2 := (HB.out.cell (World.block_lt_of_cell? w _ hx111_2)).trans hx111_2; replace hx111_3 := (HB.out.cell (World.block_lt_of_cell? w _ hx111_3)).trans hx111_3; replace hx111_4 := (HB.out.cell (World.block_lt_of_cell? w _ hx111_4)).trans hx111_4; replace hx111_5 := (HB.out.cell (World.block_lt_of_cell? w _ hx111_5)).trans hx111_5; have HR111_5 := Qab.mk hi111_5; have HC111_5 := Qab.mk hl111_5; clear hi111_5 hl111_5; replace p111 := eq_true p111; replace q111 := eq_true q111; refine start_ (n := 19) (S := fun w' => w'.cell? ⟨gb101, 0, none⟩ = some (.string a1_0) ∧ w'.cell? ⟨gb101, 1, none⟩ = some (.string a1_1) ∧ w'.cell? ⟨gb101, 2, none⟩ = some (.string a1_2) ∧ w'.cell? ⟨gb101, 3, none⟩ = some (.int .i64 a1_3) ∧ w'.cell? ⟨gb101, 4, none⟩ = some (.int .i64 a1_4) ∧ w'.cell? ⟨gb101, 5, none⟩ = some (.slice (some ad109) l1_5.length c1_5) ∧ w'.cell? (ad109.add ((x6_2).toNat * 6)) = some (.string ((Qat l1_5 x6_2).f0.f0)) ∧ w'.cell? ⟨(ad109.add ((x6_2).toNat * 6)).block, (ad109.add ((x6_2).toNat * 6)).off + 1, none⟩ = some (.string ((Qat l1_5 x6_2).f0.f1)) ∧ w'.cell? ⟨(ad109.add ((x6_2).toNat * 6)).block, (ad109.add ((x6_2).toNat * 6)).off + 2, none⟩ = some (.string ((Qat l1_5 x6_2).f1)) ∧ w'.cell? ⟨(ad109.add ((x6_2).toNat * 6)).block, (ad109.add ((x6_2).toNat * 6)).off + 3, none⟩ = some (.int .i64 ((Qat l1_5 x6_2).f2.f0)) ∧ w'.cell? ⟨(ad109.add ((x6_2).toNat * 6)).block, (ad109.add ((x6_2).toNat * 6)).off + 4, none⟩ = some (.int .i64 ((Qat l1_5 x6_2).f2.f1)) ∧ w'.cell? ⟨(ad109.add ((x6_2).toNat * 6)).block, (ad109.add ((x6_2).toNat * 6)).off + 5, none⟩ = some (.slice A109_5 ((Qat l1_5 x6_2).f3).length c109_5) ∧ w'.cell? (ad109.add ((x6_2).toNat * 6)) = some (.string ((Qat l1_5 x6_2).f0.f0)) ∧ w'.cell? ⟨(ad109.add ((x6_2).toNat * 6)).block, (ad109.add ((x6_2).toNat * 6)).off + 1, none⟩ = some (.string ((Qat l1_5 x6_2).f0.f1)) ∧ w'.cell? ⟨(ad109.add ((x6_2).toNat * 6)).block, (ad109.add ((x6_2).toNat * 6)).off + 2, none⟩ = some (.string ((Qat l1_5 x6_2).f1)) ∧ w'.cell? ⟨(ad109.add ((x6_2).toNat * 6)).block, (ad109.add ((x6_2).toNat * 6)).off + 3, none⟩ = some (.int .i64 ((Qat l1_5 x6_2).f2.f0)) ∧ w'.cell? ⟨(ad109.add ((x6_2).toNat * 6)).block, (ad109.add ((x6_2).toNat * 6)).off + 4, none⟩ = some (.int .i64 ((Qat l1_5 x6_2).f2.f1)) ∧ w'.cell? ⟨(ad109.add ((x6_2).toNat * 6)).block, (ad109.add ((x6_2).toNat * 6)).off + 5, none⟩ = some (.slice A109_5 ((Qat l1_5 x6_2).f3).length c109_5)) (ds := []) #[ff,ff,ff,ff,ff,ff,ff,ff,ff,ff,ff,ff,ff,ff,ff,ff,ff,ff,ff] (by kernel_rfl) rfl rfl ⟨(Qaj BK101.out 0).trans rfl, (Qaj BK101.out 1).trans rfl, (Qaj BK101.out 2).trans rfl, (Qaj BK101.out 3).trans rfl, (Qaj BK101.out 4).trans rfl, (Qaj BK101.out 5).trans rfl, ((HB.out.cell (World.block_lt_of_cell? w _ hw109_0)).trans hw109_0), ((HB.out.cell (World.block_lt_of_cell? w _ hw109_1)).trans hw109_1), ((HB.out.cell (World.block_lt_of_cell? w _ hw109_2)).trans hw109_2), ((HB.out.cell (World.block_lt_of_cell? w _ hw109_3)).trans hw109_3), ((HB.out.cell (World.block_lt_of_cell? w _ hw109_4)).trans hw109_4), ((HB.out.cell (World.block_lt_of_cell? w _ hw109_5)).trans hw109_5), ((HB.out.cell (World.block_lt_of_cell? w _ hw111_0)).trans hw111_0), ((HB.out.cell (World.block_lt_of_cell? w _ hw111_1)).trans hw111_1), ((HB.out.cell (World.block_lt_of_cell? w _ hw111_2)).trans hw111_2), ((HB.out.cell (World.block_lt_of_cell? w _ hw111_3)).trans hw111_3), ((HB.out.cell (World.block_lt_of_cell? w _ hw111_4)).trans hw111_4), ((HB.out.cell (World.block_lt_of_cell? w _ hw111_5)).trans hw111_5)⟩ (fun hHeld => ?_); refine with_tabW Qaz.tab8 Qaz.bits8 (fun HT_ HW_ => ?_)
          generalize wr.drew = w32 at HO_0 BK101 HB HR109_5 HR111_5 hx109_0 hx109_1 hx109_2 hx109_3 hx109_4 hx109_5 hx111_0 hx111_1 hx111_2 hx111_3 hx111_4 hx111_5 hHeld ⊢
          refine Qa6 (i := 0) (N := some 27) (v := ?_) (a' := ?_) #[tt,ff,ff,ff,ff,ff,ff,ff,ff,ff,ff,ff,ff,ff,ff,ff,ff,ff,ff] rfl rfl (QaK HT_.out (by kernel_rfl)) (fun _ _ _ h => h) (Or.inl ⟨by rfl, ?_⟩) ?_ ?_; rotate_left
          ·intro w'; go_simp; (with_reducible rfl)
          rotate_left
          ·simp only [Act.put, put_, QaG, QaI]; rfl
          refine Qa6 (i := 1) (N := some 28) (v := ?_) (a' := ?_) #[tt,tt,ff,ff,ff,ff,ff,ff,ff,ff,ff,ff,ff,ff,ff,ff,ff,ff,ff] rfl rfl (QaK HT_.out (by kernel_rfl)) (fun _ _ _ h => h) (Or.inl ⟨by rfl, ?_⟩) ?_ ?_; rotate_left
          ·intro w'; go_simp; (with_reducible rfl)
          rotate_left
          ·simp only [Act.put, put_, QaG, QaI]; rfl
          refine Qa6 (i := 3) (N := some 30) (v := ?_) (a' := ?_) #[tt,tt,ff,tt,ff,ff,ff,ff,ff,ff,ff,ff,ff,ff,ff,ff,ff,ff,ff] rfl rfl (QaK HT_.out (by kernel_rfl)) (fun _ _ _ h => h) (Or.inl ⟨by rfl, ?_⟩) ?_ ?_; rotate_left
          ·intro w'; go_simp; (with_reducible rfl)
          rotate_left
          ·simp only [Act.put, put_, QaG, QaI]; rfl
          refine take_ (i := 2) (N := some 29) (v := ?_) (a' := ?_) #[tt,tt,tt,tt,ff,ff,ff,ff,ff,ff,ff,ff,ff,ff,ff,ff,ff,ff,ff] rfl rfl (Qbh HT_.out HW_.out (by kernel_rfl)) (fun _ _ _ h => h) (Or.inl ⟨by rfl, ?_⟩) hHeld ?_ ?_; rotate_left
          ·rintro w' ⟨s0, s1, s2, s3, s4, s5, s6, s7, s8, s9, s10, s11, s12, s13, s14, s15, s16, s17⟩; go_simp; (with_reducible rfl)
          rotate_left
          ·simp only [Act.put, put_, QaG, QaI]; rfl
          refine Qa6 (i := 4) (N := some 31) (v := ?_) (a' := ?_) #[tt,tt,tt,tt,tt,ff,ff,ff,ff,ff,ff,ff,ff,ff,ff,ff,ff,ff,ff] rfl rfl (QaK HT_.out (by kernel_rfl)) (fun _ _ _ h => h) (Or.inl ⟨by rfl, ?_⟩) ?_ ?_; rotate_left
          ·intro w'; go_simp; (with_reducible rfl)
          rotate_left
          ·simp only [Act.put, put_, QaG, QaI]; rfl
          refine take_ (i := 5) (N := some 32) (v := ?_) (a' := ?_) #[tt,tt,tt,tt,tt,tt,ff,ff,ff,ff,ff,ff,ff,ff,ff,ff,ff,ff,ff] rfl rfl (Qbh HT_.out HW_.out (by kernel_rfl)) (fun _ _ _ h => h) (Or.inl ⟨by rfl, ?_⟩) hHeld ?_ ?_; rotate_left
          ·rintro w' ⟨s0, s1, s2, s3, s4, s5, s6, s7, s8, s9, s10, s11, s12, s13, s14, s15, s16, s17⟩; go_simp; (with_reducible rfl)
          rotate_left
          ·simp only [Act.put, put_, QaG, QaI]; rfl
          refine one_ (i := 6) (N := some 33) #[tt,tt,tt,tt,tt,tt,tt,ff,ff,ff,ff,ff,ff,ff,ff,ff,ff,ff,ff] rfl rfl (one_of HT_.out (by kernel_rfl)) (by decide) (fun K hK => ?_); refine goes_ Tryd.func11 (by kernel_rfl) rfl #[.slice Ao33 t102.length co33, .agg #[.string ((Qat l1_5 x6_2).f0.f0), .string ((Qat l1_5 x6_2).f0.f1), .string ((Qat l1_5 x6_2).f1), .int .i64 ((Qat l1_5 x6_2).f2.f0), .int .i64 ((Qat l1_5 x6_2).f2.f1), .slice A109_5 ((Qat l1_5 x6_2).f3).length c109_5]] (by rfl) rfl rfl (by (try simp only [List.map_toArray, List.map_cons, List.map_nil]); first | done | rfl | (simp only [List.length_drop, List.length_take]; rfl)) ?_
          with_reducible refine (QaB.calls _ _ t102 ((Qat l1_5 x6_2).f0.f0) ((Qat l1_5 x6_2).f0.f1) ((Qat l1_5 x6_2).f1) ((Qat l1_5 x6_2).f2.f0) ((Qat l1_5 x6_2).f2.f1) _ _ ((Qat l1_5 x6_2).f3) t110 _ ?side1 ?side2 ?side3 ?side4 A20.out).mono ?_
          (case side1 => repeat (first | exact (Kd.Qbb HO_0.out).2.2 | (with_reducible refine Kd.QaF ?_ _) | (with_reducible refine Kd.QaH ?_ _) | (with_reducible refine Kd.QaW ?_)))
          (case side2 => exact (Kd.Qbb HO_0.out).2.1)
          (case side3 => repeat (first | exact (Kd.QaJ HR109_5.out HB.out) | (with_reducible refine Kd.QaF ?_ _) | (with_reducible refine Kd.QaH ?_ _) | (with_reducible refine Kd.QaW ?_)))
          (case side4 => exact HC109_5.out)
          rintro e w34 ⟨rfl, hb⟩; refine ⟨_, rfl, ?_⟩; have n0_ := Qab.mk (Kd.Qbf (by (with_reducible repeat (first | apply Kd.QaO | apply Kd.QaN | apply Kd.Qa1)); exact HO_0.out) hb); have n1_ := Qab.mk (Qal (g := gb101) (o := Qap a1_0 a1_1 a1_2 a1_3 a1_4 (.slice (some ad109) l1_5.length c1_5) 29) (by (with_reducible repeat (first | refine Qag ?_ _ | refine Qai ?_ | refine Qae ?_ _)); exact BK101.out) hb); have n2_ := Qab.mk (Qak (by repeat (first | (with_reducible first | exact HB.out | apply Qad | apply Qaa | apply Qac | refine Qah ?_ GE101.out) | exact HB.out)) hb); clear HO_0; clear BK101; clear HB; have HO_0 := n0_; have BK101 := n1_; have HB := n2_; clear n0_ n1_ n2_
          (try clear hb)
          (try clear hb2)
          (try clear hk)
          (try clear hi)
          refine hK.out _ _ ⟨(Qaj BK101.out 0).trans rfl, (Qaj BK101.out 1).trans rfl, (Qaj BK101.out 2).trans rfl, (Qaj BK101.out 3).trans rfl, (Qaj BK101.out 4).trans rfl, (Qaj BK101.out 5).trans rfl, ((HB.out.cell (World.block_lt_of_cell? w _ hw109_0)).trans hw109_0), ((HB.out.cell (World.block_lt_of_cell? w _ hw109_1)).trans hw109_1), ((HB.out.cell (World.block_lt_of_cell? w _ hw109_2)).trans hw109_2), ((HB.out.cell (World.block_lt_of_cell? w _ hw109_3)).trans hw109_3), ((HB.out.cell (World.block_lt_of_cell? w _ hw109_4)).trans hw109_4), ((HB.out.cell (World.block_lt_of_cell? w _ hw109_5)).trans hw109_5), ((HB.out.cell (World.block_lt_of_cell? w _ hw111_0)).trans hw111_0), ((HB.out.cell (World.block_lt_of_cell? w _ hw111_1)).trans hw111_1), ((HB.out.cell (World.block_lt_of_cell? w _ hw111_2)).trans hw111_2), ((HB.out.cell (World.block_lt_of_cell? w _ hw111_3)).trans hw111_3), ((HB.out.cell (World.block_lt_of_cell? w _ hw111_4)).trans hw111_4), ((HB.out.cell (World.block_lt_of_cell? w _ hw111_5)).trans hw111_5)⟩ (fun hHeld => ?_); clear hK K; refine norm_ (a' := ?_) ?_ ?_; rotate_left
          ·show Act.put _ (some 33) _ = _
           simp only [Act.put, put_, QaG, QaI]; rfl
          refine Qa6 (i := 7) (N := some 34) (v := ?_) (a' := ?_) #[tt,tt,tt,tt,tt,tt,tt,tt,ff,ff,ff,ff,ff,ff,ff,ff,ff,ff,ff] rfl rfl (QaK HT_.out (by kernel_rfl)) (fun _ _ _ h => h) (Or.inl ⟨by rfl, ?_⟩) ?_ ?_; rotate_left
          ·intro w'; go_simp; (with_reducible rfl)
          rotate_left
          ·simp only [Act.put, put_, QaG, QaI]; rfl
          refine Qa6 (i := 8) (N := some 35) (v := ?_) (a' := ?_) #[tt,tt,tt,tt,tt,tt,tt,tt,tt,ff,ff,ff,ff,ff,ff,ff,ff,ff,ff] rfl rfl (QaK HT_.out (by kernel_rfl)) (fun _ _ _ h => h) (Or.inl ⟨by rfl, ?_⟩) ?_ ?_; rotate_left
          ·intro w'; go_simp; (with_reducible rfl)
          rotate_left
          ·simp only [Act.put, put_, QaG, QaI]; rfl
          refine Qa6 (i := 9) (N := some 36) (v := ?_) (a' := ?_) #[tt,tt,tt,tt,tt,tt,tt,tt,tt,tt,ff,ff,ff,ff,ff,ff,ff,ff,ff] rfl rfl (QaK HT_.out (by kernel_rfl)) (fun _ _ _ h => h) (Or.inl ⟨by rfl, ?_⟩) ?_ ?_; rotate_left
          ·intro w'; go_simp; (with_reducible rfl)
          rotate_left
          ·simp only [Act.put, put_, QaG, QaI]; rfl
          refine Qa6 (i := 11) (N := some 38) (v := ?_) (a' := ?_) #[tt,tt,tt,tt,tt,tt,tt,tt,tt,tt,ff,tt,ff,ff,ff,ff,ff,ff,ff] rfl rfl (QaK HT_.out (by kernel_rfl)) (fun _ _ _ h => h) (Or.inl ⟨by rfl, ?_⟩) ?_ ?_; rotate_left
          ·intro w'; go_simp; (with_reducible rfl)
          rotate_left
          ·simp only [Act.put, put_, QaG, QaI]; rfl
          refine take_ (i := 10) (N := some 37) (v := ?_) (a' := ?_) #[tt,tt,tt,tt,tt,tt,tt,tt,tt,tt,tt,tt,ff,ff,ff,ff,ff,ff,ff] rfl rfl (Qbh HT_.out HW_.out (by kernel_rfl)) (fun _ _ _ h => h) (Or.inl ⟨by rfl, ?_⟩) hHeld ?_ ?_; rotate_left
          ·rintro w' ⟨s0, s1, s2, s3, s4, s5, s6, s7, s8, s9, s10, s11, s12, s13, s14, s15, s16, s17⟩; go_simp; (with_reducible rfl)
          rotate_left
          ·simp only [Act.put, put_, QaG, QaI]; rfl
          refine Qa6 (i := 12) (N := some 39) (v := ?_) (a' := ?_) #[tt,tt,tt,tt,tt,tt,tt,tt,tt,tt,tt,tt,tt,ff,ff,ff,ff,ff,ff] rfl rfl (QaK HT_.out (by kernel_rfl)) (fun _ _ _ h => h) (Or.inl ⟨by rfl, ?_⟩) ?_ ?_; rotate_left
          ·intro w'; go_simp; (with_reducible rfl)
          rotate_left
          ·simp only [Act.put, put_, QaG, QaI]; rfl
          refine take_ (i := 13) (N := some 40) (v := ?_) (a' := ?_) #[tt,tt,tt,tt,tt,tt,tt,tt,tt,tt,tt,tt,tt,tt,ff,ff,ff,ff,ff] rfl rfl (Qbh HT_.out HW_.out (by kernel_rfl)) (fun _ _ _ h => h) (Or.inl ⟨by rfl, ?_⟩) hHeld ?_ ?_; rotate_left
          ·rintro w' ⟨s0, s1, s2, s3, s4, s5, s6, s7, s8, s9, s10, s11, s12, s13, s14, s15, s16, s17⟩; go_simp; (with_reducible rfl)
          rotate_left
          ·simp only [Act.put, put_, QaG, QaI]; rfl
          refine take_ (i := 15) (N := some 42) (v := ?_) (a' := ?_) #[tt,tt,tt,tt,tt,tt,tt,tt,tt,tt,tt,tt,tt,tt,ff,tt,ff,ff,ff] rfl rfl (Qbh HT_.out HW_.out (by kernel_rfl)) (fun _ _ _ h => h) (Or.inl ⟨by rfl, ?_⟩) hHeld ?_ ?_; rotate_left
          ·rintro w' ⟨s0, s1, s2, s3, s4, s5, s6, s7, s8, s9, s10, s11, s12, s13, s14, s15, s16, s17⟩; go_simp; (with_reducible rfl)
          rotate_left
          ·simp only [Act.put, put_, QaG, QaI]; rfl
          refine one_ (i := 14) (N := some 41) #[tt,tt,tt,tt,tt,tt,tt,tt,tt,tt,tt,tt,tt,tt,tt,tt,ff,ff,ff] rfl rfl (one_of HT_.out (by kernel_rfl)) (by decide) (fun K hK => ?_); refine goes_ Tryd.func16 (by kernel_rfl) rfl #[.agg #[.string ((Qat l1_5 x6_2).f0.f0), .string ((Qat l1_5 x6_2).f0.f1), .string ((Qat l1_5 x6_2).f1), .int .i64 ((Qat l1_5 x6_2).f2.f0), .int .i64 ((Qat l1_5 x6_2).f2.f1), .slice A109_5 ((Qat l1_5 x6_2).f3).length c109_5]] (by rfl) rfl rfl (by (try simp only [List.map_toArray, List.map_cons, List.map_nil]); first | done | rfl | (simp only [List.length_drop, List.length_take]; rfl)) ?_
          with_reducible refine (Qbl.calls k2 ((Qat l1_5 x6_2).f0.f0) ((Qat l1_5 x6_2).f0.f1) ((Qat l1_5 x6_2).f1) ((Qat l1_5 x6_2).f2.f0) ((Qat l1_5 x6_2).f2.f1) _ _ ((Qat l1_5 x6_2).f3) t112 _ ?side1 ?side2 A22.out).mono ?_
          (case side1 => repeat (first | exact (Kd.QaJ HR111_5.out HB.out) | (with_reducible refine Kd.QaF ?_ _) | (with_reducible refine Kd.QaH ?_ _) | (with_reducible refine Kd.QaW ?_)))
          (case side2 => exact HC111_5.out)
          rintro e w35 ⟨rfl, hb⟩; refine ⟨_, rfl, ?_⟩; have n0_ := Qab.mk (Kd.Qbf (by (with_reducible repeat (first | apply Kd.QaO | apply Kd.QaN | apply Kd.Qa1)); exact HO_0.out) hb); have n1_ := Qab.mk (Qal (g := gb101) (o := Qap a1_0 a1_1 a1_2 a1_3 a1_4 (.slice (some ad109) l1_5.length c1_5) 29) (by (with_reducible repeat (first | refine Qag ?_ _ | refine Qai ?_ | refine Qae ?_ _)); exact BK101.out) hb); have n2_ := Qab.mk (Qak (by repeat (first | (with_reducible first | exact HB.out | apply Qad | apply Qaa | apply Qac | refine Qah ?_ GE101.out) | exact HB.out)) hb); clear HO_0; clear BK101; clear HB; have HO_0 := n0_; have BK101 := n1_; have HB := n2_; clear n0_ n1_ n2_
          (try clear hb)
          (try clear hb2)
          (try clear hk)
          (try clear hi)
          refine hK.out _ _ ⟨(Qaj BK101.out 0).trans rfl, (Qaj BK101.out 1).trans rfl, (Qaj BK101.out 2).trans rfl, (Qaj BK101.out 3).trans rfl, (Qaj BK101.out 4).trans rfl, (Qaj BK101.out 5).trans rfl, ((HB.out.cell (World.block_lt_of_cell? w _ hw109_0)).trans hw109_0), ((HB.out.cell (World.block_lt_of_cell? w _ hw109_1)).trans hw109_1), ((HB.out.cell (World.block_lt_of_cell? w _ hw109_2)).trans hw109_2), ((HB.out.cell (World.block_lt_of_cell? w _ hw109_3)).trans hw109_3), ((HB.out.cell (World.block_lt_of_cell? w _ hw109_4)).trans hw109_4), ((HB.out.cell (World.block_lt_of_cell? w _ hw109_5)).trans hw109_5), ((HB.out.cell (World.block_lt_of_cell? w _ hw111_0)).trans hw111_0), ((HB.out.cell (World.block_lt_of_cell? w _ hw111_1)).trans hw111_1), ((HB.out.cell (World.block_lt_of_cell? w _ hw111_2)).trans hw111_2), ((HB.out.cell (World.block_lt_of_cell? w _ hw111_3)).trans hw111_3), ((HB.out.cell (World.block_lt_of_cell? w _ hw111_4)).trans hw111_4), ((HB.out.cell (World.block_lt_of_cell? w _ hw111_5)).trans hw111_5)⟩ (fun hHeld => ?_); clear hK K; refine norm_ (a' := ?_) ?_ ?_; rotate_left
          ·show Act.put _ (some 41) _ = _
           simp only [Act.put, put_, QaG, QaI]; rfl
          refine one_ (i := 16) (N := some 43) #[tt,tt,tt,tt,tt,tt,tt,tt,tt,tt,tt,tt,tt,tt,tt,tt,tt,ff,ff] rfl rfl (one_of HT_.out (by kernel_rfl)) (by decide) (fun K hK => ?_); refine goes_ Tryd.func16 (by kernel_rfl) rfl #[.agg #[.string a1_0, .string a1_1, .string a1_2, .int .i64 a1_3, .int .i64 a1_4, .slice (some ad109) l1_5.length c1_5]] (by rfl) rfl rfl (by (try simp only [List.map_toArray, List.map_cons, List.map_nil]); first | done | rfl | (simp only [List.length_drop, List.length_take]; rfl)) ?_
          with_reducible refine (Qbl.calls k2 a1_0 a1_1 a1_2 a1_3 a1_4 _ _ l1_5 t113 _ ?side1 ?side2 A23.out).mono ?_
          (case side1 => repeat (first | exact (Kd.QaJ HR1_5.out HB.out) | (with_reducible refine Kd.QaF ?_ _) | (with_reducible refine Kd.QaH ?_ _) | (with_reducible refine Kd.QaW ?_)))
          (case side2 => exact HC1_5.out)
          rintro e w36 ⟨rfl, hb⟩; refine ⟨_, rfl, ?_⟩; have n0_ := Qab.mk (Kd.Qbf (by (with_reducible repeat (first | apply Kd.QaO | apply Kd.QaN | apply Kd.Qa1)); exact HO_0.out) hb); have n1_ := Qab.mk (Qal (g := gb101) (o := Qap a1_0 a1_1 a1_2 a1_3 a1_4 (.slice (some ad109) l1_5.length c1_5) 29) (by (with_reducible repeat (first | refine Qag ?_ _ | refine Qai ?_ | refine Qae ?_ _)); exact BK101.out) hb); have n2_ := Qab.mk (Qak (by repeat (first | (with_reducible first | exact HB.out | apply Qad | apply Qaa | apply Qac | refine Qah ?_ GE101.out) | exact HB.out)) hb); clear HO_0; clear BK101; clear HB; have HO_0 := n0_; have BK101 := n1_; have HB := n2_; clear n0_ n1_ n2_
          (try clear hb)
          (try clear hb2)
          (try clear hk)
          (try clear hi)
          refine hK.out _ _ ⟨(Qaj BK101.out 0).trans rfl, (Qaj BK101.out 1).trans rfl, (Qaj BK101.out 2).trans rfl, (Qaj BK101.out 3).trans rfl, (Qaj BK101.out 4).trans rfl, (Qaj BK101.out 5).trans rfl, ((HB.out.cell (World.block_lt_of_cell? w _ hw109_0)).trans hw109_0), ((HB.out.cell (World.block_lt_of_cell? w _ hw109_1)).trans hw109_1), ((HB.out.cell (World.block_lt_of_cell? w _ hw109_2)).trans hw109_2), ((HB.out.cell (World.block_lt_of_cell? w _ hw109_3)).trans hw109_3), ((HB.out.cell (World.block_lt_of_cell? w _ hw109_4)).trans hw109_4), ((HB.out.cell (World.block_lt_of_cell? w _ hw109_5)).trans hw109_5), ((HB.out.cell (World.block_lt_of_cell? w _ hw111_0)).trans hw111_0), ((HB.out.cell (World.block_lt_of_cell? w _ hw111_1)).trans hw111_1), ((HB.out.cell (World.block_lt_of_cell? w _ hw111_2)).trans hw111_2), ((HB.out.cell (World.block_lt_of_cell? w _ hw111_3)).trans hw111_3), ((HB.out.cell (World.block_lt_of_cell? w _ hw111_4)).trans hw111_4), ((HB.out.cell (World.block_lt_of_cell? w _ hw111_5)).trans hw111_5)⟩ (fun hHeld => ?_); clear hK K; refine norm_ (a' := ?_) ?_ ?_; rotate_left
          ·show Act.put _ (some 43) _ = _
           simp only [Act.put, put_, QaG, QaI]; rfl
          refine Qa6 (i := 17) (N := some 44) (v := ?_) (a' := ?_) #[tt,tt,tt,tt,tt,tt,tt,tt,tt,tt,tt,tt,tt,tt,tt,tt,tt,tt,ff] rfl rfl (QaK HT_.out (by kernel_rfl)) (fun _ _ _ h => h) (Or.inl ⟨by rfl, ?_⟩) ?_ ?_; rotate_left
          ·intro w'; go_simp; (with_reducible rfl)
          rotate_left
          ·simp only [Act.put, put_, QaG, QaI]; rfl
          refine Qa6 (i := 18) (N := some 45) (v := ?_) (a' := ?_) #[tt,tt,tt,tt,tt,tt,tt,tt,tt,tt,tt,tt,tt,tt,tt,tt,tt,tt,tt] rfl rfl (QaK HT_.out (by kernel_rfl)) (fun _ _ _ h => h) (Or.inl ⟨by rfl, ?_⟩) ?_ ?_; rotate_left
          ·intro w'; go_simp; (with_reducible rfl)
          rotate_left
          ·simp only [Act.put, put_, QaG, QaI]; rfl
          refine done_ (done_of HT_.out (by kernel_rfl)) ?_
          try go_wp2
          go_roundg k2
          case measure => have := HJ4.out; have := HK2.out; omega
          case rel => exact ⟨(wrap64 (x6_2 + 1)), (by first | rfl | (simp; done) | (simp [*]; done)), H', ⟨by have := HJ4.out; have := HK2.out; omega⟩, ⟨by (with_reducible repeat (first | apply Kd.QaO | apply Kd.QaN | apply Kd.Qa1)); exact HO_0.out⟩, ⟨by (with_reducible repeat (first | refine Qag ?_ _ | refine Qai ?_ | refine Qae ?_ _)); exact BK101.out⟩, ⟨by repeat (first | (with_reducible first | exact HB.out | apply Qad | apply Qaa | apply Qac | refine Qah ?_ GE101.out) | exact HB.out)⟩⟩
        ·rw [if_neg c21] at H; have c21b0 : (t110 == 0) = false := beq_eq_false_iff_ne.mpr c21; have c21b1 : (t110 != 0) = true := bne_iff_ne.mpr c21; obtain rfl := Option.some.inj H; have hcz37_0 : wr.cell? ⟨gb101, 0, none⟩ = some (.string a1_0) := (Qaj BK101.out 0).trans rfl; have hcz37_1 : wr.cell? ⟨gb101, 1, none⟩ = some (.string a1_1) := (Qaj BK101.out 1).trans rfl; have hcz37_2 : wr.cell? ⟨gb101, 2, none⟩ = some (.string a1_2) := (Qaj BK101.out 2).trans rfl; have hcz37_3 : wr.cell? ⟨gb101, 3, none⟩ = some (.int .i64 a1_3) := (Qaj BK101.out 3).trans rfl; have hcz37_4 : wr.cell? ⟨gb101, 4, none⟩ = some (.int .i64 a1_4) := (Qaj BK101.out 4).trans rfl; have hcz37_5 : wr.cell? ⟨gb101, 5, none⟩ = some (.slice A1_5 l1_5.length c1_5) := (Qaj BK101.out 5).trans rfl; obtain ⟨hfz37_0, hfz37_1, hfz37_2, hfz37_3, hfz37_4, hfz37_5⟩ := fz_6 BK101.out
         try go_wp2
         have n0_ := Qab.mk (Kd.Qa1 HO_0.out); have n1_ := Qab.mk (Qai BK101.out); have n2_ := Qab.mk (Qac HB.out); clear HO_0; clear BK101; clear HB; have HO_0 := n0_; have BK101 := n1_; have HB := n2_; clear n0_ n1_ n2_; have p109 : 0 ≤ (x6_2 : Int) := of_decide_eq_true (by first | (with_reducible assumption) | assumption); have q109 : x6_2 < (l1_5.length : Int) := of_decide_eq_true (by first | (with_reducible assumption) | assumption); obtain ⟨ad109, A109_5, c109_5, e109, hx109_0, hx109_1, hx109_2, hx109_3, hx109_4, hx109_5, hl109_5, hi109_5⟩ := at_T29 HR1_5.out x6_2 p109 q109; have hw109_5 := hx109_5; have hw109_4 := hx109_4; have hw109_3 := hx109_3; have hw109_2 := hx109_2; have hw109_1 := hx109_1; have hw109_0 := hx109_0; cases e109; replace hx109_0 := (HB.out.cell (World.block_lt_of_cell? w _ hx109_0)).trans hx109_0; replace hx109_1 := (HB.out.cell (World.block_lt_of_cell? w _ hx109_1)).trans hx109_1; replace hx109_2 := (HB.out.cell (World.block_lt_of_cell? w _ hx109_2)).trans hx109_2; replace hx109_3 := (HB.out.cell (World.block_lt_of_cell? w _ hx109_3)).trans hx109_3; replace hx109_4 := (HB.out.cell (World.block_lt_of_cell? w _ hx109_4)).trans hx109_4; replace hx109_5 := (HB.out.cell (World.block_lt_of_cell? w _ hx109_5)).trans hx109_5; have HR109_5 := Qab.mk hi109_5; have HC109_5 := Qab.mk hl109_5; clear hi109_5 hl109_5; replace p109 := eq_true p109; replace q109 := eq_true q109; obtain ⟨Ao39, co39, eo39⟩ := Kd.V_slice HO_0.out
         (first | subst eo39 | (injection eo39 with f1_ f2_ f3_; have f4_ := f1_.symm; have f5_ := f3_.symm; clear f1_ f2_ f3_; subst f4_; subst f5_))
         refine start_ (n := 19) (S := fun w' => w'.cell? ⟨gb101, 0, none⟩ = some (.string a1_0) ∧ w'.cell? ⟨gb101, 1, none⟩ = some (.string a1_1) ∧ w'.cell? ⟨gb101, 2, none⟩ = some (.string a1_2) ∧ w'.cell? ⟨gb101, 3, none⟩ = some (.int .i64 a1_3) ∧ w'.cell? ⟨gb101, 4, none⟩ = some (.int .i64 a1_4) ∧ w'.cell? ⟨gb101, 5, none⟩ = some (.slice (some ad109) l1_5.length c1_5) ∧ w'.cell? (ad109.add ((x6_2).toNat * 6)) = some (.string ((Qat l1_5 x6_2).f0.f0)) ∧ w'.cell? ⟨(ad109.add ((x6_2).toNat * 6)).block, (ad109.add ((x6_2).toNat * 6)).off + 1, none⟩ = some (.string ((Qat l1_5 x6_2).f0.f1)) ∧ w'.cell? ⟨(ad109.add ((x6_2).toNat * 6)).block, (ad109.add ((x6_2).toNat * 6)).off + 2, none⟩ = some (.string ((Qat l1_5 x6_2).f1)) ∧ w'.cell? ⟨(ad109.add ((x6_2).toNat * 6)).block, (ad109.add ((x6_2).toNat * 6)).off + 3, none⟩ = some (.int .i64 ((Qat l1_5 x6_2).f2.f0)) ∧ w'.cell? ⟨(ad109.add ((x6_2).toNat * 6)).block, (ad109.add ((x6_2).toNat * 6)).off + 4, none⟩ = some (.int .i64 ((Qat l1_5 x6_2).f2.f1)) ∧ w'.cell? ⟨(ad109.add ((x6_2).toNat * 6)).block, (ad109.add ((x6_2).toNat * 6)).off + 5, none⟩ = some (.slice A109_5 ((Qat l1_5 x6_2).f3).length c109_5)) (ds := []) #[ff,ff,ff,ff,ff,ff,ff,ff,ff,ff,ff,ff,ff,ff,ff,ff,ff,ff,ff] (by kernel_rfl) rfl rfl ⟨(Qaj BK101.out 0).trans rfl, (Qaj BK101.out 1).trans rfl, (Qaj BK101.out 2).trans rfl, (Qaj BK101.out 3).trans rfl, (Qaj BK101.out 4).trans rfl, (Qaj BK101.out 5).trans rfl, ((HB.out.cell (World.block_lt_of_cell? w _ hw109_0)).trans hw109_0), ((HB.out.cell (World.block_lt_of_cell? w _ hw109_1)).trans hw109_1), ((HB.out.cell (World.block_lt_of_cell? w _ hw109_2)).trans hw109_2), ((HB.out.cell (World.block_lt_of_cell? w _ hw109_3)).trans hw109_3), ((HB.out.cell (World.block_lt_of_cell? w _ hw109_4)).trans hw109_4), ((HB.out.cell (World.block_lt_of_cell? w _ hw109_5)).trans hw109_5)⟩ (fun hHeld => ?_); refine with_tabW Qaz.tab8 Qaz.bits8 (fun HT_ HW_ => ?_)
         generalize wr.drew = w38 at HO_0 BK101 HB HR109_5 hx109_0 hx109_1 hx109_2 hx109_3 hx109_4 hx109_5 hHeld ⊢
         refine Qa6 (i := 0) (N := some 27) (v := ?_) (a' := ?_) #[tt,ff,ff,ff,ff,ff,ff,ff,ff,ff,ff,ff,ff,ff,ff,ff,ff,ff,ff] rfl rfl (QaK HT_.out (by kernel_rfl)) (fun _ _ _ h => h) (Or.inl ⟨by rfl, ?_⟩) ?_ ?_; rotate_left
         ·intro w'; go_simp; (with_reducible rfl)
         rotate_left
         ·simp only [Act.put, put_, QaG, QaI]; rfl
         refine Qa6 (i := 1) (N := some 28) (v := ?_) (a' := ?_) #[tt,tt,ff,ff,ff,ff,ff,ff,ff,ff,ff,ff,ff,ff,ff,ff,ff,ff,ff] rfl rfl (QaK HT_.out (by kernel_rfl)) (fun _ _ _ h => h) (Or.inl ⟨by rfl, ?_⟩) ?_ ?_; rotate_left
         ·intro w'; go_simp; (with_reducible rfl)
         rotate_left
         ·simp only [Act.put, put_, QaG, QaI]; rfl
         refine Qa6 (i := 3) (N := some 30) (v := ?_) (a' := ?_) #[tt,tt,ff,tt,ff,ff,ff,ff,ff,ff,ff,ff,ff,ff,ff,ff,ff,ff,ff] rfl rfl (QaK HT_.out (by kernel_rfl)) (fun _ _ _ h => h) (Or.inl ⟨by rfl, ?_⟩) ?_ ?_; rotate_left
         ·intro w'; go_simp; (with_reducible rfl)
         rotate_left
         ·simp only [Act.put, put_, QaG, QaI]; rfl
         refine take_ (i := 2) (N := some 29) (v := ?_) (a' := ?_) #[tt,tt,tt,tt,ff,ff,ff,ff,ff,ff,ff,ff,ff,ff,ff,ff,ff,ff,ff] rfl rfl (Qbh HT_.out HW_.out (by kernel_rfl)) (fun _ _ _ h => h) (Or.inl ⟨by rfl, ?_⟩) hHeld ?_ ?_; rotate_left
         ·rintro w' ⟨s0, s1, s2, s3, s4, s5, s6, s7, s8, s9, s10, s11⟩; go_simp; (with_reducible rfl)
         rotate_left
         ·simp only [Act.put, put_, QaG, QaI]; rfl
         refine Qa6 (i := 4) (N := some 31) (v := ?_) (a' := ?_) #[tt,tt,tt,tt,tt,ff,ff,ff,ff,ff,ff,ff,ff,ff,ff,ff,ff,ff,ff] rfl rfl (QaK HT_.out (by kernel_rfl)) (fun _ _ _ h => h) (Or.inl ⟨by rfl, ?_⟩) ?_ ?_; rotate_left
         ·intro w'; go_simp; (with_reducible rfl)
         rotate_left
         ·simp only [Act.put, put_, QaG, QaI]; rfl
         refine take_ (i := 5) (N := some 32) (v := ?_) (a' := ?_) #[tt,tt,tt,tt,tt,tt,ff,ff,ff,ff,ff,ff,ff,ff,ff,ff,ff,ff,ff] rfl rfl (Qbh HT_.out HW_.out (by kernel_rfl)) (fun _ _ _ h => h) (Or.inl ⟨by rfl, ?_⟩) hHeld ?_ ?_; rotate_left
         ·rintro w' ⟨s0, s1, s2, s3, s4, s5, s6, s7, s8, s9, s10, s11⟩; go_simp; (with_reducible rfl)
         rotate_left
         ·simp only [Act.put, put_, QaG, QaI]; rfl
         refine one_ (i := 6) (N := some 33) #[tt,tt,tt,tt,tt,tt,tt,ff,ff,ff,ff,ff,ff,ff,ff,ff,ff,ff,ff] rfl rfl (one_of HT_.out (by kernel_rfl)) (by decide) (fun K hK => ?_); refine goes_ Tryd.func11 (by kernel_rfl) rfl #[.slice Ao39 t102.length co39, .agg #[.string ((Qat l1_5 x6_2).f0.f0), .string ((Qat l1_5 x6_2).f0.f1), .string ((Qat l1_5 x6_2).f1), .int .i64 ((Qat l1_5 x6_2).f2.f0), .int .i64 ((Qat l1_5 x6_2).f2.f1), .slice A109_5 ((Qat l1_5 x6_2).f3).length c109_5]] (by rfl) rfl rfl (by (try simp only [List.map_toArray, List.map_cons, List.map_nil]); first | done | rfl | (simp only [List.length_drop, List.length_take]; rfl)) ?_
         with_reducible refine (QaB.calls _ _ t102 ((Qat l1_5 x6_2).f0.f0) ((Qat l1_5 x6_2).f0.f1) ((Qat l1_5 x6_2).f1) ((Qat l1_5 x6_2).f2.f0) ((Qat l1_5 x6_2).f2.f1) _ _ ((Qat l1_5 x6_2).f3) t110 _ ?side1 ?side2 ?side3 ?side4 A20.out).mono ?_
         (case side1 => repeat (first | exact (Kd.Qbb HO_0.out).2.2 | (with_reducible refine Kd.QaF ?_ _) | (with_reducible refine Kd.QaH ?_ _) | (with_reducible refine Kd.QaW ?_)))
         (case side2 => exact (Kd.Qbb HO_0.out).2.1)
         (case side3 => repeat (first | exact (Kd.QaJ HR109_5.out HB.out) | (with_reducible refine Kd.QaF ?_ _) | (with_reducible refine Kd.QaH ?_ _) | (with_reducible refine Kd.QaW ?_)))
         (case side4 => exact HC109_5.out)
         rintro e w40 ⟨rfl, hb⟩; refine ⟨_, rfl, ?_⟩; have n0_ := Qab.mk (Kd.Qbf (by (with_reducible repeat (first | apply Kd.QaO | apply Kd.QaN | apply Kd.Qa1)); exact HO_0.out) hb); have n1_ := Qab.mk (Qal (g := gb101) (o := Qap a1_0 a1_1 a1_2 a1_3 a1_4 (.slice (some ad109) l1_5.length c1_5) 29) (by (with_reducible repeat (first | refine Qag ?_ _ | refine Qai ?_ | refine Qae ?_ _)); exact BK101.out) hb); have n2_ := Qab.mk (Qak (by repeat (first | (with_reducible first | exact HB.out | apply Qad | apply Qaa | apply Qac | refine Qah ?_ GE101.out) | exact HB.out)) hb); clear HO_0; clear BK101; clear HB; have HO_0 := n0_; have BK101 := n1_; have HB := n2_; clear n0_ n1_ n2_
         (try clear hb)
         (try clear hb2)
         (try clear hk)
         (try clear hi)
         refine hK.out _ _ ⟨(Qaj BK101.out 0).trans rfl, (Qaj BK101.out 1).trans rfl, (Qaj BK101.out 2).trans rfl, (Qaj BK101.out 3).trans rfl, (Qaj BK101.out 4).trans rfl, (Qaj BK101.out 5).trans rfl, ((HB.out.cell (World.block_lt_of_cell? w _ hw109_0)).trans hw109_0), ((HB.out.cell (World.block_lt_of_cell? w _ hw109_1)).trans hw109_1), ((HB.out.cell (World.block_lt_of_cell? w _ hw109_2)).trans hw109_2), ((HB.out.cell (World.block_lt_of_cell? w _ hw109_3)).trans hw109_3), ((HB.out.cell (World.block_lt_of_cell? w _ hw109_4)).trans hw109_4), ((HB.out.cell (World.block_lt_of_cell? w _ hw109_5)).trans hw109_5)⟩ (fun hHeld => ?_); clear hK K; refine norm_ (a' := ?_) ?_ ?_; rotate_left
         ·show Act.put _ (some 33) _ = _
          simp only [Act.put, put_, QaG, QaI]; rfl
         refine Qa6 (i := 7) (N := some 34) (v := ?_) (a' := ?_) #[tt,tt,tt,tt,tt,tt,tt,tt,ff,ff,ff,ff,ff,ff,ff,ff,ff,ff,ff] rfl rfl (QaK HT_.out (by kernel_rfl)) (fun _ _ _ h => h) (Or.inl ⟨by rfl, ?_⟩) ?_ ?_; rotate_left
         ·intro w'; go_simp; (with_reducible rfl)
         rotate_left
         ·simp only [Act.put, put_, QaG, QaI]; rfl
         refine Qa6 (i := 8) (N := some 35) (v := ?_) (a' := ?_) #[tt,tt,tt,tt,tt,tt,tt,tt,tt,ff,ff,ff,ff,ff,ff,ff,ff,ff,ff] rfl rfl (QaK HT_.out (by kernel_rfl)) (fun _ _ _ h => h) (Or.inl ⟨by rfl, ?_⟩) ?_ ?_; rotate_left
         ·intro w'; go_simp; (with_reducible rfl)
         rotate_left
         ·simp only [Act.put, put_, QaG, QaI]; rfl
         refine Qa6 (i := 9) (N := some 36) (v := undef) (a' := ?_) #[tt,tt,tt,tt,tt,tt,tt,tt,tt,tt,ff,ff,ff,ff,ff,ff,ff,ff,ff] rfl rfl (QaK HT_.out (by kernel_rfl)) (fun _ _ _ h => h) (Or.inr ⟨by rfl, rfl⟩) ?_ ?_; rotate_left
         ·simp only [Act.put, put_, QaG, QaI]; rfl
         refine Qa6 (i := 10) (N := some 37) (v := undef) (a' := ?_) #[tt,tt,tt,tt,tt,tt,tt,tt,tt,tt,tt,ff,ff,ff,ff,ff,ff,ff,ff] rfl rfl (QaK HT_.out (by kernel_rfl)) (fun _ _ _ h => h) (Or.inr ⟨by rfl, rfl⟩) ?_ ?_; rotate_left
         ·simp only [Act.put, put_, QaG, QaI]; rfl
         refine Qa6 (i := 11) (N := some 38) (v := undef) (a' := ?_) #[tt,tt,tt,tt,tt,tt,tt,tt,tt,tt,tt,tt,ff,ff,ff,ff,ff,ff,ff] rfl rfl (QaK HT_.out (by kernel_rfl)) (fun _ _ _ h => h) (Or.inr ⟨by rfl, rfl⟩) ?_ ?_; rotate_left
         ·simp only [Act.put, put_, QaG, QaI]; rfl
         refine Qa6 (i := 12) (N := some 39) (v := undef) (a' := ?_) #[tt,tt,tt,tt,tt,tt,tt,tt,tt,tt,tt,tt,tt,ff,ff,ff,ff,ff,ff] rfl rfl (QaK HT_.out (by kernel_rfl)) (fun _ _ _ h => h) (Or.inr ⟨by rfl, rfl⟩) ?_ ?_; rotate_left
         ·simp only [Act.put, put_, QaG, QaI]; rfl
         refine Qa6 (i := 13) (N := some 40) (v := undef) (a' := ?_) #[tt,tt,tt,tt,tt,tt,tt,tt,tt,tt,tt,tt,tt,tt,ff,ff,ff,ff,ff] rfl rfl (QaK HT_.out (by kernel_rfl)) (fun _ _ _ h => h) (Or.inr ⟨by rfl, rfl⟩) ?_ ?_; rotate_left
         ·simp only [Act.put, put_, QaG, QaI]; rfl
         refine Qa6 (i := 14) (N := some 41) (v := undef) (a' := ?_) #[tt,tt,tt,tt,tt,tt,tt,tt,tt,tt,tt,tt,tt,tt,tt,ff,ff,ff,ff] rfl rfl (QaK HT_.out (by kernel_rfl)) (fun _ _ _ h => h) (Or.inr ⟨by rfl, rfl⟩) ?_ ?_; rotate_left
         ·simp only [Act.put, put_, QaG, QaI]; rfl
         refine Qa6 (i := 15) (N := some 42) (v := undef) (a' := ?_) #[tt,tt,tt,tt,tt,tt,tt,tt,tt,tt,tt,tt,tt,tt,tt,tt,ff,ff,ff] rfl rfl (QaK HT_.out (by kernel_rfl)) (fun _ _ _ h => h) (Or.inr ⟨by rfl, rfl⟩) ?_ ?_; rotate_left
         ·simp only [Act.put, put_, QaG, QaI]; rfl
         refine Qa6 (i := 16) (N := some 43) (v := undef) (a' := ?_) #[tt,tt,tt,tt,tt,tt,tt,tt,tt,tt,tt,tt,tt,tt,tt,tt,tt,ff,ff] rfl rfl (QaK HT_.out (by kernel_rfl)) (fun _ _ _ h => h) (Or.inr ⟨by rfl, rfl⟩) ?_ ?_; rotate_left
         ·simp only [Act.put, put_, QaG, QaI]; rfl
         refine Qa6 (i := 17) (N := some 44) (v := undef) (a' := ?_) #[tt,tt,tt,tt,tt,tt,tt,tt,tt,tt,tt,tt,tt,tt,tt,tt,tt,tt,ff] rfl rfl (QaK HT_.out (by kernel_rfl)) (fun _ _ _ h => h) (Or.inr ⟨by rfl, rfl⟩) ?_ ?_; rotate_left
         ·simp only [Act.put, put_, QaG, QaI]; rfl
         refine Qa6 (i := 18) (N := some 45) (v := ?_) (a' := ?_) #[tt,tt,tt,tt,tt,tt,tt,tt,tt,tt,tt,tt,tt,tt,tt,tt,tt,tt,tt] rfl rfl (QaK HT_.out (by kernel_rfl)) (fun _ _ _ h => h) (Or.inl ⟨by rfl, ?_⟩) ?_ ?_; rotate_left
         ·intro w'; go_simp; (with_reducible rfl)
         rotate_left
         ·simp only [Act.put, put_, QaG, QaI]; rfl
         refine done_ (done_of HT_.out (by kernel_rfl)) ?_
         try go_wp2
         go_ret; exact ⟨by first | rfl | (simp [Qax, Qaw] <;> rfl) | (simp [*, Qax, Qaw] <;> rfl), by repeat (first | (with_reducible first | exact HB.out | apply Qad | apply Qaa | apply Qac | refine Qah ?_ GE101.out) | exact HB.out)⟩
       ·rw [if_neg c19] at H; exact absurd H (by simp)
      ·rw [if_neg c18] at H; have c18b0 : decide (x6_2 < (l1_5.length : Int)) = false := decide_eq_false c18; clear c18; replace H := Option.bind_eq_some_iff.mp H; obtain ⟨t108, A410, H⟩ := H; replace H : (some t108) = some r := H; have A41 := Qab.mk A410; clear A410; obtain rfl := Option.some.inj H; have hcz42_0 : wr.cell? ⟨gb101, 0, none⟩ = some (.string a1_0) := (Qaj BK101.out 0).trans rfl; have hcz42_1 : wr.cell? ⟨gb101, 1, none⟩ = some (.string a1_1) := (Qaj BK101.out 1).trans rfl; have hcz42_2 : wr.cell? ⟨gb101, 2, none⟩ = some (.string a1_2) := (Qaj BK101.out 2).trans rfl; have hcz42_3 : wr.cell? ⟨gb101, 3, none⟩ = some (.int .i64 a1_3) := (Qaj BK101.out 3).trans rfl; have hcz42_4 : wr.cell? ⟨gb101, 4, none⟩ = some (.int .i64 a1_4) := (Qaj BK101.out 4).trans rfl; have hcz42_5 : wr.cell? ⟨gb101, 5, none⟩ = some (.slice A1_5 l1_5.length c1_5) := (Qaj BK101.out 5).trans rfl; obtain ⟨hfz42_0, hfz42_1, hfz42_2, hfz42_3, hfz42_4, hfz42_5⟩ := fz_6 BK101.out
       go_wp2_with (first | ((with_reducible refine QaT (f := 10) rfl ?_); refine goesL_ (some 46) rfl rfl Tryd.func10 (by kernel_rfl) rfl #[] rfl (by (try simp only [List.map_toArray, List.map_cons, List.map_nil]); first | done | rfl | (simp only [List.length_drop, List.length_take]; rfl)) ?_; (with_reducible refine (Qao.calls k2  t108 _ A41.out).mono ?_); rintro e w43 ⟨rfl, hb⟩; refine ⟨_, rfl, ?_⟩; have n0_ := Qab.mk (Kd.Qbf (by (with_reducible repeat (first | apply Kd.QaO | apply Kd.QaN | apply Kd.Qa1)); exact HO_0.out) hb); have n1_ := Qab.mk (Qal (g := gb101) (o := Qap a1_0 a1_1 a1_2 a1_3 a1_4 (.slice A1_5 l1_5.length c1_5) 29) (by (with_reducible repeat (first | refine Qag ?_ _ | refine Qai ?_ | refine Qae ?_ _)); exact BK101.out) hb); have n2_ := Qab.mk (Qak (by repeat (first | (with_reducible first | exact HB.out | apply Qad | apply Qaa | apply Qac | refine Qah ?_ GE101.out) | exact HB.out)) hb); clear HO_0; clear BK101; clear HB; have HO_0 := n0_; have BK101 := n1_; have HB := n2_; clear n0_ n1_ n2_; (try clear hb); (try clear hb2); (try clear hk); (try clear hi)))
       go_ret; exact ⟨by first | rfl | (simp [Qax, Qaw] <;> rfl) | (simp [*, Qax, Qaw] <;> rfl), by repeat (first | (with_reducible first | exact HB.out | apply Qad | apply Qaa | apply Qac | refine Qah ?_ GE101.out) | exact HB.out)⟩
end Go.Proofs.YtmaipohgahdclaaDoor.Pr
end
section
namespace Go.Proofs.YtmaipohgahdclaaDoor.Pr
open Go.RowKit Go.Proofs.YtmaipohgahdclaaDoorW.PrintWords Go.Proofs.YtmaipohgahdclaaDoorW.PrintLast Go.Proofs.YtmaipohgahdclaaDoorW.PrintMore
theorem few_is (l : List Cred) : Qa0.f l = some (l.take 14) := by
  unfold Qa0.f
  by_cases h : (l.length : Int) > 14
  · rw [if_pos h, if_pos (by omega)]
  · rw [if_neg h, List.take_of_length_le (by omega)]
theorem take_len (l : List Cred) : (l.take 14).length ≤ 14 := by simp; omega
theorem take_ok {l : List Cred} (h : ∀ c ∈ l, okCred c) : ∀ c ∈ l.take 14, okCred c := fun c hc => h c (List.mem_of_mem_take hc)
theorem small_ev (p : Proof) : Ev (fun k => QaE.f k p.f0.f0 p.f0.f1 p.f1 p.f2.f0 p.f2.f1 p.f3) (decide (cnt p ≤ 60)) := by
  refine Ev.bind (few_ev p 60 (by omega)) ?_; have h := cnt_pos p
  rw [show decide (fewV (cnt p : Int) 60 > 0) = decide (cnt p ≤ 60) by
    unfold fewV
    by_cases e : cnt p ≤ 60
    · rw [if_pos (by omega), decide_eq_true e]
      exact decide_eq_true (by omega)
    · rw [if_neg (by omega), decide_eq_false e]
      exact decide_eq_false (by omega)]
  exact Ev.pure _
theorem counts_may {l : List Cred} {c : Cred} (h : c ∈ counts l) : credMay c = true := ((counts_spec l).mem c |>.mp h).may
theorem counts_apart (l : List Cred) : Apart (counts l) := (counts_spec l).sorted.imp fun {a b} h e => by
  unfold credLess at h; rw [e] at h; omega
theorem okID_of {i : ID} (h0 : -9223372036854775808 ≤ i.f0 ∧ i.f0 ≤ 9223372036854775807) (h1 : -9223372036854775808 ≤ i.f1 ∧ i.f1 ≤ 9223372036854775807) : okID i := by
  have e1 : IntKind.i64.min = -9223372036854775808 := by decide
  have e2 : IntKind.i64.max = 9223372036854775807 := by decide
  constructor
  · show (decide (IntKind.i64.min ≤ i.f0) && decide (i.f0 ≤ IntKind.i64.max)) = true
    rw [e1, e2, decide_eq_true h0.1, decide_eq_true h0.2]; rfl
  · show (decide (IntKind.i64.min ≤ i.f1) && decide (i.f1 ≤ IntKind.i64.max)) = true
    rw [e1, e2, decide_eq_true h1.1, decide_eq_true h1.2]; rfl
theorem counts_good (l : List Cred) : goodIDs (counts l) := fun c h => by
  have := counts_may h; unfold credMay at this; simp only [Bool.and_eq_true, decide_eq_true_eq] at this; obtain ⟨⟨⟨h0, h1⟩, _⟩, _⟩ := this; exact okID_of (by omega) (by omega)
theorem counts_length (l : List Cred) : (counts l).length ≤ l.length := by
  unfold counts; have := firsts_length (sortCreds l) []; have h2 := sortCreds_length l; simp at this; omega
def errOf (b : Bool) : Int := if b = true then 0 else 15
theorem progCheck_is (l : List Cred) (p : Proof) (hl : l.length < 21) (hok : ∀ c ∈ l, okCred c) (hd : dep p < 200) (ho : okTree p) : QaB.f l p.f0.f0 p.f0.f1 p.f1 p.f2.f0 p.f2.f1 p.f3 = some (errOf (chk (counts l) 200 p)) := by
  have h1 := counts_length l; unfold QaB.f; rw [progCounts_is l hl hok 200 (by omega), Option.bind_some, if_pos ⟨by omega, counts_good l⟩]; rw [show (⟨⟨p.f0.f0, p.f0.f1⟩, p.f1, ⟨p.f2.f0, p.f2.f1⟩, p.f3⟩ : Proof) = p by cases p; rfl, check_is (counts_apart l) 200 p hd ho]; rfl
theorem progSupport_is (p : Proof) (hd : dep p < 200) (ho : okTree p) (hc : cnt p ≤ 1000) : QaQ.f p.f0.f0 p.f0.f1 p.f1 p.f2.f0 p.f2.f1 p.f3 = some (support p) := by
  unfold QaQ.f; rw [show (⟨⟨p.f0.f0, p.f0.f1⟩, p.f1, ⟨p.f2.f0, p.f2.f1⟩, p.f3⟩ : Proof) = p by cases p; rfl, gather_is 200 p hd ho [] (by simp; omega), Option.bind_some]; have := fold_length (ids p) []; have h2 : (ids p).length = cnt p := rfl; simp at this; rw [if_pos (by omega)]; rfl
theorem progSame_is (a b : Proof) (hd : dep a < 200) (hc : cnt a < 1000000) : Qa7.f a.f0.f0 a.f0.f1 a.f1 a.f2.f0 a.f2.f1 a.f3 b.f0.f0 b.f0.f1 b.f1 b.f2.f0 b.f2.f1 b.f3 = some (eqT a b) := by
  unfold Qa7.f; rw [show (⟨⟨a.f0.f0, a.f0.f1⟩, a.f1, ⟨a.f2.f0, a.f2.f1⟩, a.f3⟩ : Proof) = a by cases a; rfl, show (⟨⟨b.f0.f0, b.f0.f1⟩, b.f1, ⟨b.f2.f0, b.f2.f1⟩, b.f3⟩ : Proof) = b by cases b; rfl]; exact same_is 200 a b hd hc
def exA : Cred := ⟨⟨1, 1⟩, ⟨#[97]⟩, 2, ⟨#[]⟩, ⟨⟨#[100, 50]⟩, ⟨#[98]⟩⟩, ⟨⟨#[]⟩, ⟨#[]⟩⟩⟩
def exB : Cred := ⟨⟨2, 1⟩, ⟨#[98]⟩, 1, ⟨#[97, 110, 110]⟩, ⟨⟨#[]⟩, ⟨#[]⟩⟩, ⟨⟨#[]⟩, ⟨#[]⟩⟩⟩
def exQ : Proof := ⟨⟨⟨#[100, 50]⟩, ⟨#[98]⟩⟩, ⟨#[97, 110, 110]⟩, ⟨2, 1⟩, []⟩
def exP : Proof := ⟨⟨⟨#[100, 49]⟩, ⟨#[97]⟩⟩, ⟨#[97, 110, 110]⟩, ⟨1, 1⟩, [exQ]⟩
def exR : Proof := ⟨⟨⟨#[100, 49]⟩, ⟨#[97]⟩⟩, ⟨#[97, 110, 110]⟩, ⟨1, 1⟩, []⟩
theorem noText_dec (s : ByteArray) : noText s = decide (s = ⟨#[]⟩) := by
  unfold noText; rw [Bool.eq_iff_iff, beq_iff_eq, empty_iff, decide_eq_true_eq]
theorem exA_may : credMay exA = true := by
  unfold credMay roleOk bareOk noRole; simp only [noText_dec]
  decide
theorem exB_may : credMay exB = true := by
  unfold credMay roleOk bareOk noRole; simp only [noText_dec]
  decide
theorem ex_counts : counts [exA, exB] = [exA, exB] := by
  refine (counts_spec [exA, exB]).unique ⟨?_, fun c => ?_⟩
  · rw [List.pairwise_cons]
    exact ⟨fun b hb => by rw [List.mem_singleton] at hb; subst hb; exact .inl (by decide), List.pairwise_singleton _ _⟩
  · constructor
    · intro h
      rcases List.mem_cons.mp h with rfl | h
      · unfold First
        rw [List.find?_cons, exA_may, show sameID exA exA = true by decide]; rfl
      · rw [List.mem_singleton] at h
        subst h; unfold First; rw [List.find?_cons, show sameID exA exB = false by decide, Bool.and_false, List.find?_cons, exB_may, show sameID exB exB = true by decide]; rfl
    · intro h
      exact h.mem
theorem exP_ids : ids exP = [⟨1, 1⟩, ⟨2, 1⟩] := by
  rw [ids_eq, show exP.f3 = [exQ] from rfl, idsL_cons, ids_eq, show exQ.f3 = [] from rfl, idsL_nil]; rfl
theorem exR_ids : ids exR = [⟨1, 1⟩] := by
  rw [ids_eq, show exR.f3 = [] from rfl, idsL_nil]; rfl
theorem exP_dep : dep exP = 1 := by
  rw [dep_eq, show exP.f3 = [exQ] from rfl, depL_cons, depL_nil, dep_eq, show exQ.f3 = [] from rfl, depL_nil]; rfl
theorem exR_dep : dep exR = 0 := by rw [dep_eq, show exR.f3 = [] from rfl, depL_nil]
theorem exP_cnt : cnt exP = 2 := by unfold cnt; rw [exP_ids]; rfl
theorem exP_ok : okTree exP := fun i hi => by
  rw [exP_ids] at hi
  rcases List.mem_cons.mp hi with rfl | hi
  · exact okID_of (by decide) (by decide)
  · rw [List.mem_singleton] at hi
    subst hi; exact okID_of (by decide) (by decide)
theorem exR_ok : okTree exR := fun i hi => by
  rw [exR_ids, List.mem_singleton] at hi; subst hi; exact okID_of (by decide) (by decide)
theorem exP_support : support exP = [⟨1, 1⟩, ⟨2, 1⟩] := by
  refine strict_unique (support_strict exP) ?_ (fun x => by rw [support_mem, exP_ids]); rw [List.pairwise_cons]; exact ⟨fun b hb => by rw [List.mem_singleton] at hb; subst hb; decide, List.pairwise_singleton _ _⟩
theorem exP_chk : chk [exA, exB] 200 exP = true := by decide +kernel
theorem exR_chk : chk [exA, exB] 200 exR = false := by decide +kernel
theorem exPP : eqT exP exP = true := eqT_refl _
theorem exPR : eqT exP exR = false := by
  rw [eqT_eq, show exP.f3 = [exQ] from rfl, show exR.f3 = [] from rfl, eqTL_len _ _ (by simp)]; simp
theorem ex_ok : ∀ c ∈ [exA, exB], okCred c := by
  intro c hc
  have : c = exA ∨ c = exB := by simpa using hc
  rcases this with rfl | rfl <;> exact ⟨by decide, by decide, ⟨by decide, by decide⟩, by decide, by decide⟩
theorem lives_ev : Ev (fun k => Qao.f k) true := by
  have h1 := progSupport_is exP (by rw [exP_dep]; omega) exP_ok (by rw [exP_cnt]; omega); have h2 := progCheck_is [exA, exB] exP (by decide) ex_ok (by rw [exP_dep]; omega) exP_ok; have h3 := progCheck_is [exA, exB] exR (by decide) ex_ok (by rw [exR_dep]; omega) exR_ok; have h4 := size_ev exP (by rw [exP_cnt]; omega); have h5 := progSame_is exP exP (by rw [exP_dep]; omega) (by rw [exP_cnt]; omega); have h6 := progSame_is exP exR (by rw [exP_dep]; omega) (by rw [exP_cnt]; omega); have h7 := within_ev exP 1 (by rw [exP_cnt]; omega) (by omega); have h8 := within_ev exP 0 (by rw [exP_cnt]; omega) (by omega); rw [exP_support] at h1; rw [ex_counts, exP_chk] at h2; rw [ex_counts, exR_chk] at h3; rw [exP_cnt] at h4; rw [exPP] at h5; rw [exPR] at h6; rw [exP_dep] at h7 h8; have g1 : QaQ.f (⟨#[100, 49]⟩ : ByteArray) (⟨#[97]⟩ : ByteArray) (⟨#[97, 110, 110]⟩ : ByteArray) 1 1 [exQ] = some [⟨1, 1⟩, ⟨2, 1⟩] := h1; have g2 : QaB.f [exA, exB] (⟨#[100, 49]⟩ : ByteArray) (⟨#[97]⟩ : ByteArray) (⟨#[97, 110, 110]⟩ : ByteArray) 1 1 [exQ] = some 0 := h2; have g3 : QaB.f [exA, exB] (⟨#[100, 49]⟩ : ByteArray) (⟨#[97]⟩ : ByteArray) (⟨#[97, 110, 110]⟩ : ByteArray) 1 1 [] = some 15 := h3; have g5 : Qa7.f (⟨#[100, 49]⟩ : ByteArray) (⟨#[97]⟩ : ByteArray) (⟨#[97, 110, 110]⟩ : ByteArray) 1 1 [exQ] (⟨#[100, 49]⟩ : ByteArray) (⟨#[97]⟩ : ByteArray) (⟨#[97, 110, 110]⟩ : ByteArray) 1 1 [exQ] = some true := h5; have g6 : Qa7.f (⟨#[100, 49]⟩ : ByteArray) (⟨#[97]⟩ : ByteArray) (⟨#[97, 110, 110]⟩ : ByteArray) 1 1 [exQ] (⟨#[100, 49]⟩ : ByteArray) (⟨#[97]⟩ : ByteArray) (⟨#[97, 110, 110]⟩ : ByteArray) 1 1 [] = some false := h6
  unfold Qao.f; refine Ev.bind (Ev.pure [exA, exB]) (Ev.bind (Ev.pure [exQ]) ?_); simp only [g1, g2, g3, g5, g6, Option.bind_some]; exact Ev.bind h4 (Ev.bind h7 (Ev.bind h8 (Ev.pure _)))
theorem livesB : Ev (fun k => (Qao.f k).bind fun t => some t) true := Ev.bind lives_ev (Ev.pure _)
end Go.Proofs.YtmaipohgahdclaaDoor.Pr
end
section
namespace Go.Proofs.YtmaipohgahdclaaDoor.Pr
open Go.RowKit Go.Proofs.YtmaipohgahdclaaDoorW.PrintWords Go.Proofs.YtmaipohgahdclaaDoorW.PrintLast Go.Proofs.YtmaipohgahdclaaDoorW.PrintMore
theorem chkPart_sub {F G : Proof → Bool} {q : Proof} {role : Role} {who : ByteArray} (h : chkPart F q role who = true) (hFG : F q = true → G q = true) : F q = true ∧ chkPart G q role who = true := by
  unfold chkPart at *; rw [Bool.and_eq_true, Bool.and_eq_true] at h; exact ⟨h.2.2, by rw [h.1, h.2.1, hFG h.2.2]; rfl⟩
theorem parts_one {p : Proof} (h : p.f3.length = 1) : ∀ q ∈ p.f3, q = pt p 0 := by
  intro q hq; obtain ⟨i, hi, rfl⟩ := List.getElem_of_mem hq; have := rdP p.f3 0 (by omega); unfold pt; rw [show ((0 : Nat) : Int) = 0 from rfl] at this; rw [this]
  congr
  omega
theorem parts_two {p : Proof} (h : p.f3.length = 2) : ∀ q ∈ p.f3, q = pt p 0 ∨ q = pt p 1 := by
  intro q hq; obtain ⟨i, hi, rfl⟩ := List.getElem_of_mem hq; have h0 := rdP p.f3 0 (by omega); have h1 := rdP p.f3 1 (by omega); rw [show ((0 : Nat) : Int) = 0 from rfl] at h0; rw [show ((1 : Nat) : Int) = 1 from rfl] at h1; unfold pt; rw [h0, h1]
  by_cases e : i = 0
  · subst e; exact .inl rfl
  · obtain rfl : i = 1 := by omega
    exact .inr rfl
theorem chkBy_sub {F G : Proof → Bool} {c : Cred} {p : Proof} (h : chkBy F c p = true) (hFG : ∀ q ∈ p.f3, F q = true → G q = true) : (∀ q ∈ p.f3, F q = true) ∧ chkBy G c p = true := by
  unfold chkBy at *
  by_cases k1 : c.f2 = 1
  · rw [if_pos k1] at h ⊢
    refine ⟨fun q hq => ?_, h⟩; rw [Bool.and_eq_true, decide_eq_true_eq, decide_eq_true_eq] at h; rw [List.eq_nil_of_length_eq_zero h.2] at hq; cases hq
  · rw [if_neg k1] at h ⊢
    by_cases k3 : c.f2 = 3
    · rw [if_pos k3] at h ⊢
      rw [Bool.and_eq_true, Bool.and_eq_true, Bool.and_eq_true, decide_eq_true_eq] at h; obtain ⟨hl, hn, ha, hb⟩ := h; have ha' := chkPart_sub ha (hFG _ (pt_mem0 (by omega))); have hb' := chkPart_sub hb (hFG _ (pt_mem1 (by omega))); refine ⟨fun q hq => ?_, by rw [decide_eq_true hl, hn, ha'.2, hb'.2]; rfl⟩
      rcases parts_two hl q hq with rfl | rfl
      · exact ha'.1
      · exact hb'.1
    · rw [if_neg k3] at h ⊢
      by_cases k4 : c.f2 = 4
      · rw [if_pos k4] at h ⊢
        rw [Bool.and_eq_true, Bool.and_eq_true, decide_eq_true_eq] at h; obtain ⟨hl, ha, hb⟩ := h; have ha' := chkPart_sub ha (hFG _ (pt_mem0 (by omega))); have hb' := chkPart_sub hb (hFG _ (pt_mem1 (by omega))); refine ⟨fun q hq => ?_, by rw [decide_eq_true hl, ha'.2, hb'.2]; rfl⟩
        rcases parts_two hl q hq with rfl | rfl
        · exact ha'.1
        · exact hb'.1
      · rw [if_neg k4] at h ⊢
        rw [Bool.and_eq_true, decide_eq_true_eq] at h; obtain ⟨hl, ha⟩ := h; have ha' := chkPart_sub ha (hFG _ (pt_mem0 (by omega))); refine ⟨fun q hq => ?_, by rw [decide_eq_true hl, ha'.2]; rfl⟩; rw [parts_one hl q hq]; exact ha'.1
theorem chk_some {cs : List Cred} {n : Nat} {p : Proof} (h : chk cs (n + 1) p = true) : ∃ c, cs.find? (fun c => decide (c.f0 = p.f2)) = some c ∧ credRole c = p.f0 ∧ chkBy (chk cs n) c p = true := by
  rw [chk] at h
  cases hf : cs.find? fun c => decide (c.f0 = p.f2) with
  | none => rw [hf] at h; cases h
  | some c =>
    rw [hf] at h; rw [Bool.and_eq_true, decide_eq_true_eq] at h; exact ⟨c, rfl, h.1, h.2⟩
theorem chk_mk {cs : List Cred} {n : Nat} {p : Proof} {c : Cred} (hf : cs.find? (fun c => decide (c.f0 = p.f2)) = some c) (hr : credRole c = p.f0) (hb : chkBy (chk cs n) c p = true) : chk cs (n + 1) p = true := by
  rw [chk, hf]
  show (decide (credRole c = p.f0) && _) = true
  rw [decide_eq_true hr, hb]; rfl
theorem chk_mono (cs : List Cred) : ∀ (n : Nat) (p : Proof), chk cs n p = true → chk cs (n + 1) p = true
  | 0, p, h => by rw [chk] at h; cases h
  | n + 1, p, h => by
    obtain ⟨c, hf, hr, hb⟩ := chk_some h; exact chk_mk hf hr (chkBy_sub hb (fun q _ hq => chk_mono cs n q hq)).2
theorem chk_inner {cs : List Cred} {n : Nat} {p : Proof} (h : chk cs n p = true) : ∀ q ∈ p.f3, chk cs n q = true := by
  intro q hq
  cases n with
  | zero => rw [chk] at h; cases h
  | succ n =>
    obtain ⟨c, _, _, hb⟩ := chk_some h; exact chk_mono cs n q ((chkBy_sub hb (fun _ _ h => h)).1 q hq)
theorem inner_l0 (l : List Cred) (hl : l.length < 21) (hok : ∀ c ∈ l, okCred c) (p : Proof) (hp : okTree p) (hc : cnt p ≤ 60) (h : chk (counts l) 200 p = true) : ∀ (n i : Nat), n + i = p.f3.length → Ev (fun k => Qaz.l0 k l (i : Int) p.f0.f0 p.f0.f1 p.f1 p.f2.f0 p.f2.f1 p.f3) true
  | 0, i, hn => by
    refine Ev.step (fun k => ?_) livesB; rw [Qaz.l0, if_neg (by omega)]
  | n + 1, i, hn => by
    have hi : i < p.f3.length := by omega
    have hmem : p.f3[i] ∈ p.f3 := List.getElem_mem hi; have hlt := parts_lt p; have hcq := cnt_mem hmem; have hdq := dep_lt p.f3[i]; have g := progCheck_is l p.f3[i] hl hok (by omega) (hp.mem hmem); rw [chk_inner h _ hmem] at g; refine Ev.step (fun k => by rw [Qaz.l0, if_pos (by omega), if_pos (by omega), rdP p.f3 i hi, g, Option.bind_some, show errOf true = 0 from rfl, if_pos rfl, wrapN (by omega)]) ?_; refine Ev.bind (size_ev p.f3[i] (by omega)) (Ev.bind (size_ev p (by omega)) ?_); simp only [if_neg (show ¬ ((cnt p.f3[i] : Int) ≥ (cnt p : Int)) by omega)]; exact inner_l0 l hl hok p hp hc h n (i + 1) (by omega)
theorem proofInner_true (l : List Cred) (p : Proof) (hok : ∀ c ∈ l, okCred c) (hp : okTree p) : Ev (fun k => Qaz.f k l p.f0.f0 p.f0.f1 p.f1 p.f2.f0 p.f2.f1 p.f3) true := by
  have hlen := take_len l
  have no : Ev (fun k => Qaz.j0 k (l.take 14) true p.f0.f0 p.f0.f1 p.f1 p.f2.f0 p.f2.f1 p.f3) true := by
    refine Ev.step (fun k => ?_) livesB; rw [Qaz.j0, if_pos rfl]
  unfold Qaz.f; rw [few_is]; refine Ev.bind (Ev.pure _) (Ev.bind (small_ev p) ?_)
  by_cases h : cnt p ≤ 60
  · have hd := dep_lt p
    have g := progCheck_is (l.take 14) p (by omega) (take_ok hok) (by omega) hp; simp only [decide_eq_true h, if_true, g, Option.bind_some]
    by_cases hk : chk (counts (l.take 14)) 200 p = true
    · rw [hk]
      have := inner_l0 (l.take 14) (by omega) (take_ok hok) p hp h hk p.f3.length 0 (by omega); refine Ev.step (fun k => ?_) this; rw [Qaz.j0, if_neg (by decide)]; rfl
    · rw [Bool.not_eq_true] at hk
      rw [hk]; exact no
  · simp only [decide_eq_false h, Bool.false_eq_true, if_false]
    exact no
end Go.Proofs.YtmaipohgahdclaaDoor.Pr
end
section
namespace Go.Proofs.YtmaipohgahdclaaDoor.Pr
open Go.RowKit Go.Proofs.YtmaipohgahdclaaDoorW.PrintWords Go.Proofs.YtmaipohgahdclaaDoorW.PrintLast Go.Proofs.YtmaipohgahdclaaDoorW.PrintMore
set_option linter.unusedVariables false
theorem First.append {l m : List Cred} {c : Cred} (h : First l c) : First (l ++ m) c := by
  unfold First at *; rw [List.find?_append, h]; rfl
end Go.Proofs.YtmaipohgahdclaaDoor.Pr
end
