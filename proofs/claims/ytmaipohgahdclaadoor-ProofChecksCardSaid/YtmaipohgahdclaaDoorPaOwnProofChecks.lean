/- The law's own part of the proof. No conditions. -/
import Derived.Shelf.SlicesG.Cmp
import Derived.WalkKit
import Derived.WalkSpells
import Derived.Lib.Hide
import Derived.StillTailTactics
import Derived.Sort.Grow
import Derived.KernelRfl
import Derived.Lib.SlicesS
import Derived.Shelf.SlicesE.Clone
import Derived.Ground.SlgcProg
import Derived.Test.YtmaipohgahdclaaDoorProg
import Derived.Shelf.SlSortCmp.WholeK
import Derived.Shelf.SlSortCmp.NoneTotal
import Derived.Ground.SlsfProg
import Derived.Ground.SlgnProg
import Derived.Laws.StructEq
import Derived.Below
import Derived.Deep.Draws
import Derived.Deep.AppendLies
import Derived.Maps.AppendAt
import Derived.OwnWalk
import Derived.Laws.BytesArg
import Derived.Laws.MakeOwn
import Derived.Laws.OwnMore
import Derived.Tactics
import Derived.Lib.ConvBytes
import Derived.Laws.Slices
import Derived.RowKit3
import Derived.Deep.LoopGhost
import Derived.Deep.QuietTactic
import Derived.BigQuiet
import Derived.WideLaws
import Derived.Deep.DeepCutAuto
import Derived.Deep.CutBlock
import Derived.Deep.RegionHeld3
import Derived.Lib.AppendStr
import Derived.ArgAppend
import Derived.Laws.IdiomCopy
import Derived.RowKit
import Derived.Sort.Walk0
import Derived.Laws.Strings
import Derived.Maps.OwnSet
import Derived.Maps.RangeRun
import Derived.Maps.Range
import Derived.Carry
import Derived.OrdersHeld
import Derived.Laws.BitsLemmas
import Derived.Sort.LotA
import Derived.DeepKeys4
import Derived.ProofKit
import Derived.ChangeSlices
import Derived.DataElems
import Derived.WalkLawsBesides
import Derived.Outline
import Derived.Deep.RegionWith
import Derived.RegionTactic
import Derived.ChangeAlike
import Derived.Deep.RegionLaw
import Derived.Lib.SmallJoins
import Derived.OpenShut
import Derived.ShutString
import Derived.ChangeOld
import Derived.SizedLaws
import Derived.LaidMore
import Derived.Stop.Joined
import Derived.SevenTiedAt
import Derived.Laws.RangeAny
import Derived.Laws.Closers25
import Derived.Shelf.GgSortFunc.InsertionK
import Derived.Test.YtmaipohgahdclaaDoorPa0
import Derived.Test.YtmaipohgahdclaaDoorPa1
import Derived.Test.YtmaipohgahdclaaDoorPa2
import Derived.Test.YtmaipohgahdclaaDoorPa3
import Derived.Test.YtmaipohgahdclaaDoorPa4
import Derived.Test.YtmaipohgahdclaaDoorPa5
import Derived.Test.YtmaipohgahdclaaDoorPa6
import Derived.Test.YtmaipohgahdclaaDoorPa7
import Derived.Test.YtmaipohgahdclaaDoorPa8
import Derived.Test.YtmaipohgahdclaaDoorPa9
import Derived.Test.YtmaipohgahdclaaDoorPa10
import Derived.Test.YtmaipohgahdclaaDoorPa11
import Derived.Test.YtmaipohgahdclaaDoorPa12
section
namespace Go.Proofs.YtmaipohgahdclaaDoor.Pr
open Go.RowKit Go.Proofs.YtmaipohgahdclaaDoorW.PrintWords Go.Proofs.YtmaipohgahdclaaDoorW.PrintLast Go.Proofs.YtmaipohgahdclaaDoorW.PrintMore
attribute [local go_sem] max2_int min2_int max_two min_two Qbj Qbi max_four min_four
set_option linter.unusedVariables false
set_option linter.unusedSimpArgs false
def Qbo.f (k : Nat) (l0 : List (S44)) (a1_0 : ByteArray) (a1_1 : ByteArray) (a1_2 : ByteArray) (a1_3 : Int) (a1_4 : Int) (l1_5 : List (S29)) : Option (Bool) := (Qa0.f l0).bind fun t102 => ((QaE.f k a1_0 a1_1 a1_2 a1_3 a1_4 l1_5).bind fun t105 => (if t105 = true then ((QaB.f t102 a1_0 a1_1 a1_2 a1_3 a1_4 l1_5).bind fun t106 => ((Qbm.f k t102 a1_0 a1_1 a1_2 a1_3 a1_4 l1_5).bind fun t107 => (if t106 = t107 then ((Qao.f k).bind fun t108 => (some t108)) else (none)))) else ((Qao.f k).bind fun t109 => (some t109))))
def Qbo.T5 : Bool × List (List Nat × List Nat) := (true, [([], []), ([], []), ([0, 1], [0, 1]), ([], []), ([], []), ([3, 4, 2], [3, 4]), ([2, 5], [2, 5]), ([6, 5], [6]), ([7, 7], [7]), ([7, 8], [7, 8]), ([9, 8, 0, 1, 2, 3, 4, 5, 6, 7, 8, 9], [9])])
def Qbo.B5 : List Nat := [0, 0, 3, 0, 0, 31, 63, 127, 255, 511, 1023]
theorem Qbo.tab5 : rtab .any (opsOf Tryd.f3 5) = Qbo.T5 := by kernel_rfl
theorem Qbo.bits5 : waitsOk Qbo.T5.2 Qbo.B5 = true := by kernel_rfl
set_option maxHeartbeats 8000000 in
set_option maxRecDepth 100000 in
theorem Qbo.calls (k : Nat) (A0 : Option Addr) (c0 : Nat) (l0 : List (S44)) (a1_0 : ByteArray) (a1_1 : ByteArray) (a1_2 : ByteArray) (a1_3 : Int) (a1_4 : Int) (A1_5 : Option Addr) (c1_5 : Nat) (l1_5 : List (S29)) (r : Bool) (w : World) (hr0 : Kd.C k44 w A0 l0.length l0) (hc0 : l0.length ≤ c0) (hr1_5 : Kd.C k29 w A1_5 l1_5.length l1_5) (hc1_5 : l1_5.length ≤ c1_5) (h : Qbo.f k l0 a1_0 a1_1 a1_2 a1_3 a1_4 l1_5 = some r) :
  Calls Tryd.prog 3 #[.slice A0 l0.length c0, .agg #[.string a1_0, .string a1_1, .string a1_2, .int .i64 a1_3, .int .i64 a1_4, .slice A1_5 l1_5.length c1_5]] w fun e w' => e = .returned (.bool r) ∧ Below w.heap.size w w' := by
 have hu29 := Tryd.underlying29; have HR0 := Qab.mk hr0; have HC0 := Qab.mk hc0; clear hr0 hc0; have HR1_5 := Qab.mk hr1_5; have HC1_5 := Qab.mk hc1_5; clear hr1_5 hc1_5; have HB := Qab.mk (Below.refl w.heap.size w); have H : ((Qa0.f l0).bind fun t102 => ((QaE.f k a1_0 a1_1 a1_2 a1_3 a1_4 l1_5).bind fun t105 => (if t105 = true then ((QaB.f t102 a1_0 a1_1 a1_2 a1_3 a1_4 l1_5).bind fun t106 => ((Qbm.f k t102 a1_0 a1_1 a1_2 a1_3 a1_4 l1_5).bind fun t107 => (if t106 = t107 then ((Qao.f k).bind fun t108 => (some t108)) else (none)))) else ((Qao.f k).bind fun t109 => (some t109))))) = some r := h; clear h; replace H := Option.bind_eq_some_iff.mp H; obtain ⟨t102, A30, H⟩ := H; replace H : ((QaE.f k a1_0 a1_1 a1_2 a1_3 a1_4 l1_5).bind fun t105 => (if t105 = true then ((QaB.f t102 a1_0 a1_1 a1_2 a1_3 a1_4 l1_5).bind fun t106 => ((Qbm.f k t102 a1_0 a1_1 a1_2 a1_3 a1_4 l1_5).bind fun t107 => (if t106 = t107 then ((Qao.f k).bind fun t108 => (some t108)) else (none)))) else ((Qao.f k).bind fun t109 => (some t109)))) = some r := H; have A3 := Qab.mk A30; clear A30; replace H := Option.bind_eq_some_iff.mp H; obtain ⟨t105, A40, H⟩ := H; replace H : (if t105 = true then ((QaB.f t102 a1_0 a1_1 a1_2 a1_3 a1_4 l1_5).bind fun t106 => ((Qbm.f k t102 a1_0 a1_1 a1_2 a1_3 a1_4 l1_5).bind fun t107 => (if t106 = t107 then ((Qao.f k).bind fun t108 => (some t108)) else (none)))) else ((Qao.f k).bind fun t109 => (some t109))) = some r := H
 have A4 := Qab.mk A40; clear A40
 by_cases c5 : t105 = true
 ·subst c5
  have H1 : ((QaB.f t102 a1_0 a1_1 a1_2 a1_3 a1_4 l1_5).bind fun t106 => ((Qbm.f k t102 a1_0 a1_1 a1_2 a1_3 a1_4 l1_5).bind fun t107 => (if t106 = t107 then ((Qao.f k).bind fun t108 => (some t108)) else (none)))) = some r := by rw [if_pos rfl] at H; exact H
  clear H; have H := H1; clear H1; replace H := Option.bind_eq_some_iff.mp H; obtain ⟨t106, A60, H⟩ := H; replace H : ((Qbm.f k t102 a1_0 a1_1 a1_2 a1_3 a1_4 l1_5).bind fun t107 => (if t106 = t107 then ((Qao.f k).bind fun t108 => (some t108)) else (none))) = some r := H; have A6 := Qab.mk A60; clear A60; replace H := Option.bind_eq_some_iff.mp H; obtain ⟨t107, A70, H⟩ := H; replace H : (if t106 = t107 then ((Qao.f k).bind fun t108 => (some t108)) else (none)) = some r := H; have A7 := Qab.mk A70; clear A70
  by_cases c8 : t106 = t107
  ·rw [if_pos c8] at H; have c8b0 : (t106 == t107) = true := beq_iff_eq.mpr c8; have c8b1 : (t106 != t107) = false := bne_eq_false_iff_eq.mpr c8; clear c8; replace H := Option.bind_eq_some_iff.mp H; obtain ⟨t108, A90, H⟩ := H; replace H : (some t108) = some r := H; have A9 := Qab.mk A90; clear A90; obtain rfl := Option.some.inj H; go_enter Tryd.func3, Tryd.ntmps3
   try go_wp2_with (first | ((with_reducible refine Qa2 (N := 3) rfl ?_); refine QaV ?hg (N := 3) ?hd (cs := #[.string a1_0, .string a1_1, .string a1_2, .int .i64 a1_3, .int .i64 a1_4, .slice A1_5 l1_5.length c1_5]) (t := 29) ?hr ?_; (case hd => rfl); (case hg => rfl); (case hr => first | (go_simp; done) | (go_simp; rfl)); intro gb101 hg w10 hbox hb; have n0_ := Qab.mk (Qak (by repeat (first | (with_reducible first | exact HB.out | apply Qad | apply Qaa | apply Qac) | exact HB.out)) hb); have n1_ := Qab.mk (hbox); have n2_ := Qab.mk ((by rw [hg]; exact (Qar (by repeat (first | (with_reducible first | exact HB.out | apply Qad | apply Qaa | apply Qac) | exact HB.out))) : w.heap.size ≤ gb101)); have n3_ := n2_; clear HB; have HB := n0_; have BK101 := n1_; have GW101 := n2_; have GE101 := n3_; clear n0_ n1_ n2_ n3_; clear hb hbox hg) | ((with_reducible refine QaT (f := 8) rfl ?_); refine goesL_ (some 7) rfl rfl Tryd.func8 (by kernel_rfl) rfl #[.slice A0 l0.length c0] rfl (by (try simp only [List.map_toArray, List.map_cons, List.map_nil]); first | done | rfl | (simp only [List.length_drop, List.length_take]; rfl)) ?_; (with_reducible refine (Qa0.calls (fun k_ => k_ < w.heap.size) _ _ l0 t102 _ ?side1 A3.out).mono ?_); (case side1 => exact Kd.V_mk HC0.out (Kd.F_below (Kd.C_F k44_heap HR0.out) (by repeat (first | (with_reducible first | exact HB.out | apply Qad | apply Qaa | apply Qac | refine Qah ?_ GE101.out) | exact HB.out)))); rintro e w11 ⟨v103, rfl, ho0, hb⟩; refine ⟨_, rfl, ?_⟩; have n0_ := Qab.mk (Kd.V_lower (Kd.V_mono (ok' := fun k_ => k_ ≠ gb101) ho0 (fun k_ hk_ => Or.elim hk_ (fun hs_ => fun e_ => Nat.not_le.2 hs_ (by rw [e_]; exact GW101.out)) (fun hn_ => (Kd.freshB (g := gb101) (o := Qap a1_0 a1_1 a1_2 a1_3 a1_4 (.slice A1_5 l1_5.length c1_5) 29) (by (with_reducible repeat (first | refine Qag ?_ _ | refine Qai ?_ | refine Qae ?_ _)); exact BK101.out) k_ hn_)))) (Qar (by repeat (first | (with_reducible first | exact HB.out | apply Qad | apply Qaa | apply Qac | refine Qah ?_ GE101.out) | exact HB.out)))); have n1_ := Qab.mk (Qal (g := gb101) (o := Qap a1_0 a1_1 a1_2 a1_3 a1_4 (.slice A1_5 l1_5.length c1_5) 29) (by (with_reducible repeat (first | refine Qag ?_ _ | refine Qai ?_ | refine Qae ?_ _)); exact BK101.out) hb); have n2_ := Qab.mk (Qak (by repeat (first | (with_reducible first | exact HB.out | apply Qad | apply Qaa | apply Qac | refine Qah ?_ GE101.out) | exact HB.out)) hb); clear BK101; clear HB; have HO104 := n0_; have BK101 := n1_; have HB := n2_; clear n0_ n1_ n2_; (try clear hb); (try clear hb2); (try clear hk); (try clear hi); (try clear ho0); obtain ⟨hcz12_0, hcz12_1, hcz12_2, hcz12_3, hcz12_4, hcz12_5⟩ := QaZ BK101.out; obtain ⟨hfz12_0, hfz12_1, hfz12_2, hfz12_3, hfz12_4, hfz12_5⟩ := fz_6 BK101.out) | ((with_reducible refine QaT (f := 9) rfl ?_); refine goesL_ (some 9) rfl rfl Tryd.func9 (by kernel_rfl) rfl #[.agg #[.string a1_0, .string a1_1, .string a1_2, .int .i64 a1_3, .int .i64 a1_4, .slice A1_5 l1_5.length c1_5]] rfl (by (try simp only [List.map_toArray, List.map_cons, List.map_nil]); first | done | rfl | (simp only [List.length_drop, List.length_take]; rfl)) ?_; (with_reducible refine (QaE.calls k a1_0 a1_1 a1_2 a1_3 a1_4 _ _ l1_5 true _ ?side1 ?side2 A4.out).mono ?_); (case side1 => repeat (first | exact (Kd.QaJ HR1_5.out HB.out) | (with_reducible refine Kd.QaF ?_ _) | (with_reducible refine Kd.QaH ?_ _) | (with_reducible refine Kd.QaW ?_))); (case side2 => exact HC1_5.out); rintro e w13 ⟨rfl, hb⟩; refine ⟨_, rfl, ?_⟩; have n0_ := Qab.mk (Kd.Qbf (by (with_reducible repeat (first | apply Kd.QaO | apply Kd.QaN | apply Kd.Qa1)); exact HO104.out) hb); have n1_ := Qab.mk (Qal (g := gb101) (o := Qap a1_0 a1_1 a1_2 a1_3 a1_4 (.slice A1_5 l1_5.length c1_5) 29) (by (with_reducible repeat (first | refine Qag ?_ _ | refine Qai ?_ | refine Qae ?_ _)); exact BK101.out) hb); have n2_ := Qab.mk (Qak (by repeat (first | (with_reducible first | exact HB.out | apply Qad | apply Qaa | apply Qac | refine Qah ?_ GE101.out) | exact HB.out)) hb); clear HO104; clear BK101; clear HB; have HO104 := n0_; have BK101 := n1_; have HB := n2_; clear n0_ n1_ n2_; (try clear hb); (try clear hb2); (try clear hk); (try clear hi)))
   have n0_ := Qab.mk (Kd.Qa1 HO104.out); have n1_ := Qab.mk (Qai BK101.out); have n2_ := Qab.mk (Qac HB.out); clear HO104; clear BK101; clear HB; have HO104 := n0_; have BK101 := n1_; have HB := n2_; clear n0_ n1_ n2_; obtain ⟨Ao15, co15, eo15⟩ := Kd.V_slice HO104.out
   (first | subst eo15 | (injection eo15 with f1_ f2_ f3_; have f4_ := f1_.symm; have f5_ := f3_.symm; clear f1_ f2_ f3_; subst f4_; subst f5_))
   refine start_ (n := 11) (S := fun w' => w'.cell? ⟨gb101, 0, none⟩ = some (.string a1_0) ∧ w'.cell? ⟨gb101, 1, none⟩ = some (.string a1_1) ∧ w'.cell? ⟨gb101, 2, none⟩ = some (.string a1_2) ∧ w'.cell? ⟨gb101, 3, none⟩ = some (.int .i64 a1_3) ∧ w'.cell? ⟨gb101, 4, none⟩ = some (.int .i64 a1_4) ∧ w'.cell? ⟨gb101, 5, none⟩ = some (.slice A1_5 l1_5.length c1_5)) (ds := []) #[ff,ff,ff,ff,ff,ff,ff,ff,ff,ff,ff] (by kernel_rfl) rfl rfl ⟨(Qaj BK101.out 0).trans rfl, (Qaj BK101.out 1).trans rfl, (Qaj BK101.out 2).trans rfl, (Qaj BK101.out 3).trans rfl, (Qaj BK101.out 4).trans rfl, (Qaj BK101.out 5).trans rfl⟩ (fun hHeld => ?_); refine with_tabW Qbo.tab5 Qbo.bits5 (fun HT_ HW_ => ?_)
   generalize w13.drew = w14 at HO104 BK101 HB hHeld ⊢
   refine Qa6 (i := 0) (N := some 13) (v := ?_) (a' := ?_) #[tt,ff,ff,ff,ff,ff,ff,ff,ff,ff,ff] rfl rfl (QaK HT_.out (by kernel_rfl)) (fun _ _ _ h => h) (Or.inl ⟨by rfl, ?_⟩) ?_ ?_; rotate_left
   ·intro w'; go_simp; (with_reducible rfl)
   rotate_left
   ·simp only [Act.put, put_, QaG, QaI]; rfl
   refine Qa6 (i := 3) (N := some 16) (v := ?_) (a' := ?_) #[tt,ff,ff,tt,ff,ff,ff,ff,ff,ff,ff] rfl rfl (QaK HT_.out (by kernel_rfl)) (fun _ _ _ h => h) (Or.inl ⟨by rfl, ?_⟩) ?_ ?_; rotate_left
   ·intro w'; go_simp; (with_reducible rfl)
   rotate_left
   ·simp only [Act.put, put_, QaG, QaI]; rfl
   refine take_ (i := 1) (N := some 14) (v := ?_) (a' := ?_) #[tt,tt,ff,tt,ff,ff,ff,ff,ff,ff,ff] rfl rfl (Qbh HT_.out HW_.out (by kernel_rfl)) (fun _ _ _ h => h) (Or.inl ⟨by rfl, ?_⟩) hHeld ?_ ?_; rotate_left
   ·rintro w' ⟨s0, s1, s2, s3, s4, s5⟩; go_simp; (with_reducible rfl)
   rotate_left
   ·simp only [Act.put, put_, QaG, QaI]; rfl
   refine take_ (i := 4) (N := some 17) (v := ?_) (a' := ?_) #[tt,tt,ff,tt,tt,ff,ff,ff,ff,ff,ff] rfl rfl (Qbh HT_.out HW_.out (by kernel_rfl)) (fun _ _ _ h => h) (Or.inl ⟨by rfl, ?_⟩) hHeld ?_ ?_; rotate_left
   ·rintro w' ⟨s0, s1, s2, s3, s4, s5⟩; go_simp; (with_reducible rfl)
   rotate_left
   ·simp only [Act.put, put_, QaG, QaI]; rfl
   refine one_ (i := 2) (N := some 15) #[tt,tt,tt,tt,tt,ff,ff,ff,ff,ff,ff] rfl rfl (one_of HT_.out (by kernel_rfl)) (by decide) (fun K hK => ?_); refine goes_ Tryd.func11 (by kernel_rfl) rfl #[.slice Ao15 t102.length co15, .agg #[.string a1_0, .string a1_1, .string a1_2, .int .i64 a1_3, .int .i64 a1_4, .slice A1_5 l1_5.length c1_5]] (by rfl) rfl rfl (by (try simp only [List.map_toArray, List.map_cons, List.map_nil]); first | done | rfl | (simp only [List.length_drop, List.length_take]; rfl)) ?_
   with_reducible refine (QaB.calls _ _ t102 a1_0 a1_1 a1_2 a1_3 a1_4 _ _ l1_5 t106 _ ?side1 ?side2 ?side3 ?side4 A6.out).mono ?_
   (case side1 => repeat (first | exact (Kd.Qbb HO104.out).2.2 | (with_reducible refine Kd.QaF ?_ _) | (with_reducible refine Kd.QaH ?_ _) | (with_reducible refine Kd.QaW ?_)))
   (case side2 => exact (Kd.Qbb HO104.out).2.1)
   (case side3 => repeat (first | exact (Kd.QaJ HR1_5.out HB.out) | (with_reducible refine Kd.QaF ?_ _) | (with_reducible refine Kd.QaH ?_ _) | (with_reducible refine Kd.QaW ?_)))
   (case side4 => exact HC1_5.out)
   rintro e w16 ⟨rfl, hb⟩; refine ⟨_, rfl, ?_⟩; have n0_ := Qab.mk (Kd.Qbf (by (with_reducible repeat (first | apply Kd.QaO | apply Kd.QaN | apply Kd.Qa1)); exact HO104.out) hb); have n1_ := Qab.mk (Qal (g := gb101) (o := Qap a1_0 a1_1 a1_2 a1_3 a1_4 (.slice A1_5 l1_5.length c1_5) 29) (by (with_reducible repeat (first | refine Qag ?_ _ | refine Qai ?_ | refine Qae ?_ _)); exact BK101.out) hb); have n2_ := Qab.mk (Qak (by repeat (first | (with_reducible first | exact HB.out | apply Qad | apply Qaa | apply Qac | refine Qah ?_ GE101.out) | exact HB.out)) hb); clear HO104; clear BK101; clear HB; have HO104 := n0_; have BK101 := n1_; have HB := n2_; clear n0_ n1_ n2_
   (try clear hb)
   (try clear hb2)
   (try clear hk)
   (try clear hi)
   refine hK.out _ _ ⟨(Qaj BK101.out 0).trans rfl, (Qaj BK101.out 1).trans rfl, (Qaj BK101.out 2).trans rfl, (Qaj BK101.out 3).trans rfl, (Qaj BK101.out 4).trans rfl, (Qaj BK101.out 5).trans rfl⟩ (fun hHeld => ?_); clear hK K; refine norm_ (a' := ?_) ?_ ?_; rotate_left
   ·show Act.put _ (some 15) _ = _
    simp only [Act.put, put_, QaG, QaI]; rfl
   refine one_ (i := 5) (N := some 18) #[tt,tt,tt,tt,tt,tt,ff,ff,ff,ff,ff] rfl rfl (one_of HT_.out (by kernel_rfl)) (by decide) (fun K hK => ?_); refine goes_ Tryd.func12 (by kernel_rfl) rfl #[.slice Ao15 t102.length co15, .agg #[.string a1_0, .string a1_1, .string a1_2, .int .i64 a1_3, .int .i64 a1_4, .slice A1_5 l1_5.length c1_5]] (by rfl) rfl rfl (by (try simp only [List.map_toArray, List.map_cons, List.map_nil]); first | done | rfl | (simp only [List.length_drop, List.length_take]; rfl)) ?_
   with_reducible refine (Qbm.calls k _ _ t102 a1_0 a1_1 a1_2 a1_3 a1_4 _ _ l1_5 t107 _ ?side1 ?side2 ?side3 ?side4 A7.out).mono ?_
   (case side1 => repeat (first | exact (Kd.Qbb HO104.out).2.2 | (with_reducible refine Kd.QaF ?_ _) | (with_reducible refine Kd.QaH ?_ _) | (with_reducible refine Kd.QaW ?_)))
   (case side2 => exact (Kd.Qbb HO104.out).2.1)
   (case side3 => repeat (first | exact (Kd.QaJ HR1_5.out HB.out) | (with_reducible refine Kd.QaF ?_ _) | (with_reducible refine Kd.QaH ?_ _) | (with_reducible refine Kd.QaW ?_)))
   (case side4 => exact HC1_5.out)
   rintro e w17 ⟨rfl, hb⟩; refine ⟨_, rfl, ?_⟩; have n0_ := Qab.mk (Kd.Qbf (by (with_reducible repeat (first | apply Kd.QaO | apply Kd.QaN | apply Kd.Qa1)); exact HO104.out) hb); have n1_ := Qab.mk (Qal (g := gb101) (o := Qap a1_0 a1_1 a1_2 a1_3 a1_4 (.slice A1_5 l1_5.length c1_5) 29) (by (with_reducible repeat (first | refine Qag ?_ _ | refine Qai ?_ | refine Qae ?_ _)); exact BK101.out) hb); have n2_ := Qab.mk (Qak (by repeat (first | (with_reducible first | exact HB.out | apply Qad | apply Qaa | apply Qac | refine Qah ?_ GE101.out) | exact HB.out)) hb); clear HO104; clear BK101; clear HB; have HO104 := n0_; have BK101 := n1_; have HB := n2_; clear n0_ n1_ n2_
   (try clear hb)
   (try clear hb2)
   (try clear hk)
   (try clear hi)
   refine hK.out _ _ ⟨(Qaj BK101.out 0).trans rfl, (Qaj BK101.out 1).trans rfl, (Qaj BK101.out 2).trans rfl, (Qaj BK101.out 3).trans rfl, (Qaj BK101.out 4).trans rfl, (Qaj BK101.out 5).trans rfl⟩ (fun hHeld => ?_); clear hK K; refine norm_ (a' := ?_) ?_ ?_; rotate_left
   ·show Act.put _ (some 18) _ = _
    simp only [Act.put, put_, QaG, QaI]; rfl
   refine Qa6 (i := 6) (N := some 19) (v := ?_) (a' := ?_) #[tt,tt,tt,tt,tt,tt,tt,ff,ff,ff,ff] rfl rfl (QaK HT_.out (by kernel_rfl)) (fun _ _ _ h => h) (Or.inl ⟨by rfl, ?_⟩) ?_ ?_; rotate_left
   ·intro w'; go_simp; (with_reducible rfl)
   rotate_left
   ·simp only [Act.put, put_, QaG, QaI]; rfl
   refine Qa6 (i := 7) (N := some 20) (v := ?_) (a' := ?_) #[tt,tt,tt,tt,tt,tt,tt,tt,ff,ff,ff] rfl rfl (QaK HT_.out (by kernel_rfl)) (fun _ _ _ h => h) (Or.inl ⟨by rfl, ?_⟩) ?_ ?_; rotate_left
   ·intro w'; go_simp; (with_reducible rfl)
   rotate_left
   ·simp only [Act.put, put_, QaG, QaI]; rfl
   refine one_ (i := 8) (N := some 21) #[tt,tt,tt,tt,tt,tt,tt,tt,tt,ff,ff] rfl rfl (one_of HT_.out (by kernel_rfl)) (by decide) (fun K hK => ?_); refine goes_ Tryd.func10 (by kernel_rfl) rfl #[] (by rfl) rfl rfl (by (try simp only [List.map_toArray, List.map_cons, List.map_nil]); first | done | rfl | (simp only [List.length_drop, List.length_take]; rfl)) ?_
   with_reducible refine (Qao.calls k  t108 _ A9.out).mono ?_
   rintro e w18 ⟨rfl, hb⟩; refine ⟨_, rfl, ?_⟩; have n0_ := Qab.mk (Kd.Qbf (by (with_reducible repeat (first | apply Kd.QaO | apply Kd.QaN | apply Kd.Qa1)); exact HO104.out) hb); have n1_ := Qab.mk (Qal (g := gb101) (o := Qap a1_0 a1_1 a1_2 a1_3 a1_4 (.slice A1_5 l1_5.length c1_5) 29) (by (with_reducible repeat (first | refine Qag ?_ _ | refine Qai ?_ | refine Qae ?_ _)); exact BK101.out) hb); have n2_ := Qab.mk (Qak (by repeat (first | (with_reducible first | exact HB.out | apply Qad | apply Qaa | apply Qac | refine Qah ?_ GE101.out) | exact HB.out)) hb); clear HO104; clear BK101; clear HB; have HO104 := n0_; have BK101 := n1_; have HB := n2_; clear n0_ n1_ n2_
   (try clear hb)
   (try clear hb2)
   (try clear hk)
   (try clear hi)
   refine hK.out _ _ ⟨(Qaj BK101.out 0).trans rfl, (Qaj BK101.out 1).trans rfl, (Qaj BK101.out 2).trans rfl, (Qaj BK101.out 3).trans rfl, (Qaj BK101.out 4).trans rfl, (Qaj BK101.out 5).trans rfl⟩ (fun hHeld => ?_); clear hK K; refine norm_ (a' := ?_) ?_ ?_; rotate_left
   ·show Act.put _ (some 21) _ = _
    simp only [Act.put, put_, QaG, QaI]; rfl
   refine Qa6 (i := 9) (N := some 22) (v := ?_) (a' := ?_) #[tt,tt,tt,tt,tt,tt,tt,tt,tt,tt,ff] rfl rfl (QaK HT_.out (by kernel_rfl)) (fun _ _ _ h => h) (Or.inl ⟨by rfl, ?_⟩) ?_ ?_; rotate_left
   ·intro w'; go_simp; (with_reducible rfl)
   rotate_left
   ·simp only [Act.put, put_, QaG, QaI]; rfl
   refine Qa6 (i := 10) (N := some 4) (v := ?_) (a' := ?_) #[tt,tt,tt,tt,tt,tt,tt,tt,tt,tt,tt] rfl rfl (QaK HT_.out (by kernel_rfl)) (fun _ _ _ h => h) (Or.inl ⟨by rfl, ?_⟩) ?_ ?_; rotate_left
   ·intro w'; go_simp; (with_reducible rfl)
   rotate_left
   ·simp only [Act.put, put_, QaG, QaI]; rfl
   refine done_ (done_of HT_.out (by kernel_rfl)) ?_
   try go_wp2
   go_ret; exact ⟨by first | rfl | (simp [Qax, Qaw] <;> rfl) | (simp [*, Qax, Qaw] <;> rfl), by repeat (first | (with_reducible first | exact HB.out | apply Qad | apply Qaa | apply Qac | refine Qah ?_ GE101.out) | exact HB.out)⟩
  ·rw [if_neg c8] at H; have c8b0 : (t106 == t107) = false := beq_eq_false_iff_ne.mpr c8; have c8b1 : (t106 != t107) = true := bne_iff_ne.mpr c8; cases H
 ·replace c5 := Bool.eq_false_iff.mpr c5; subst c5
  have H1 : ((Qao.f k).bind fun t109 => (some t109)) = some r := by rw [if_neg (show ¬ (false = true) by decide)] at H; exact H
  clear H; have H := H1; clear H1; replace H := Option.bind_eq_some_iff.mp H; obtain ⟨t109, A270, H⟩ := H; replace H : (some t109) = some r := H; have A27 := Qab.mk A270; clear A270; obtain rfl := Option.some.inj H; go_enter Tryd.func3, Tryd.ntmps3
  go_wp2_with (first | ((with_reducible refine Qa2 (N := 3) rfl ?_); refine QaV ?hg (N := 3) ?hd (cs := #[.string a1_0, .string a1_1, .string a1_2, .int .i64 a1_3, .int .i64 a1_4, .slice A1_5 l1_5.length c1_5]) (t := 29) ?hr ?_; (case hd => rfl); (case hg => rfl); (case hr => first | (go_simp; done) | (go_simp; rfl)); intro gb101 hg w28 hbox hb; have n0_ := Qab.mk (Qak (by repeat (first | (with_reducible first | exact HB.out | apply Qad | apply Qaa | apply Qac) | exact HB.out)) hb); have n1_ := Qab.mk (hbox); have n2_ := Qab.mk ((by rw [hg]; exact (Qar (by repeat (first | (with_reducible first | exact HB.out | apply Qad | apply Qaa | apply Qac) | exact HB.out))) : w.heap.size ≤ gb101)); have n3_ := n2_; clear HB; have HB := n0_; have BK101 := n1_; have GW101 := n2_; have GE101 := n3_; clear n0_ n1_ n2_ n3_; clear hb hbox hg) | ((with_reducible refine QaT (f := 8) rfl ?_); refine goesL_ (some 7) rfl rfl Tryd.func8 (by kernel_rfl) rfl #[.slice A0 l0.length c0] rfl (by (try simp only [List.map_toArray, List.map_cons, List.map_nil]); first | done | rfl | (simp only [List.length_drop, List.length_take]; rfl)) ?_; (with_reducible refine (Qa0.calls (fun k_ => k_ < w.heap.size) _ _ l0 t102 _ ?side1 A3.out).mono ?_); (case side1 => exact Kd.V_mk HC0.out (Kd.F_below (Kd.C_F k44_heap HR0.out) (by repeat (first | (with_reducible first | exact HB.out | apply Qad | apply Qaa | apply Qac | refine Qah ?_ GE101.out) | exact HB.out)))); rintro e w29 ⟨v103, rfl, ho0, hb⟩; refine ⟨_, rfl, ?_⟩; have n0_ := Qab.mk (Kd.V_lower (Kd.V_mono (ok' := fun k_ => k_ ≠ gb101) ho0 (fun k_ hk_ => Or.elim hk_ (fun hs_ => fun e_ => Nat.not_le.2 hs_ (by rw [e_]; exact GW101.out)) (fun hn_ => (Kd.freshB (g := gb101) (o := Qap a1_0 a1_1 a1_2 a1_3 a1_4 (.slice A1_5 l1_5.length c1_5) 29) (by (with_reducible repeat (first | refine Qag ?_ _ | refine Qai ?_ | refine Qae ?_ _)); exact BK101.out) k_ hn_)))) (Qar (by repeat (first | (with_reducible first | exact HB.out | apply Qad | apply Qaa | apply Qac | refine Qah ?_ GE101.out) | exact HB.out)))); have n1_ := Qab.mk (Qal (g := gb101) (o := Qap a1_0 a1_1 a1_2 a1_3 a1_4 (.slice A1_5 l1_5.length c1_5) 29) (by (with_reducible repeat (first | refine Qag ?_ _ | refine Qai ?_ | refine Qae ?_ _)); exact BK101.out) hb); have n2_ := Qab.mk (Qak (by repeat (first | (with_reducible first | exact HB.out | apply Qad | apply Qaa | apply Qac | refine Qah ?_ GE101.out) | exact HB.out)) hb); clear BK101; clear HB; have HO104 := n0_; have BK101 := n1_; have HB := n2_; clear n0_ n1_ n2_; (try clear hb); (try clear hb2); (try clear hk); (try clear hi); (try clear ho0); obtain ⟨hcz30_0, hcz30_1, hcz30_2, hcz30_3, hcz30_4, hcz30_5⟩ := QaZ BK101.out; obtain ⟨hfz30_0, hfz30_1, hfz30_2, hfz30_3, hfz30_4, hfz30_5⟩ := fz_6 BK101.out) | ((with_reducible refine QaT (f := 9) rfl ?_); refine goesL_ (some 9) rfl rfl Tryd.func9 (by kernel_rfl) rfl #[.agg #[.string a1_0, .string a1_1, .string a1_2, .int .i64 a1_3, .int .i64 a1_4, .slice A1_5 l1_5.length c1_5]] rfl (by (try simp only [List.map_toArray, List.map_cons, List.map_nil]); first | done | rfl | (simp only [List.length_drop, List.length_take]; rfl)) ?_; (with_reducible refine (QaE.calls k a1_0 a1_1 a1_2 a1_3 a1_4 _ _ l1_5 false _ ?side1 ?side2 A4.out).mono ?_); (case side1 => repeat (first | exact (Kd.QaJ HR1_5.out HB.out) | (with_reducible refine Kd.QaF ?_ _) | (with_reducible refine Kd.QaH ?_ _) | (with_reducible refine Kd.QaW ?_))); (case side2 => exact HC1_5.out); rintro e w31 ⟨rfl, hb⟩; refine ⟨_, rfl, ?_⟩; have n0_ := Qab.mk (Kd.Qbf (by (with_reducible repeat (first | apply Kd.QaO | apply Kd.QaN | apply Kd.Qa1)); exact HO104.out) hb); have n1_ := Qab.mk (Qal (g := gb101) (o := Qap a1_0 a1_1 a1_2 a1_3 a1_4 (.slice A1_5 l1_5.length c1_5) 29) (by (with_reducible repeat (first | refine Qag ?_ _ | refine Qai ?_ | refine Qae ?_ _)); exact BK101.out) hb); have n2_ := Qab.mk (Qak (by repeat (first | (with_reducible first | exact HB.out | apply Qad | apply Qaa | apply Qac | refine Qah ?_ GE101.out) | exact HB.out)) hb); clear HO104; clear BK101; clear HB; have HO104 := n0_; have BK101 := n1_; have HB := n2_; clear n0_ n1_ n2_; (try clear hb); (try clear hb2); (try clear hk); (try clear hi)) | ((with_reducible refine QaT (f := 10) rfl ?_); refine goesL_ (some 12) rfl rfl Tryd.func10 (by kernel_rfl) rfl #[] rfl (by (try simp only [List.map_toArray, List.map_cons, List.map_nil]); first | done | rfl | (simp only [List.length_drop, List.length_take]; rfl)) ?_; (with_reducible refine (Qao.calls k  t109 _ A27.out).mono ?_); rintro e w32 ⟨rfl, hb⟩; refine ⟨_, rfl, ?_⟩; have n0_ := Qab.mk (Kd.Qbf (by (with_reducible repeat (first | apply Kd.QaO | apply Kd.QaN | apply Kd.Qa1)); exact HO104.out) hb); have n1_ := Qab.mk (Qal (g := gb101) (o := Qap a1_0 a1_1 a1_2 a1_3 a1_4 (.slice A1_5 l1_5.length c1_5) 29) (by (with_reducible repeat (first | refine Qag ?_ _ | refine Qai ?_ | refine Qae ?_ _)); exact BK101.out) hb); have n2_ := Qab.mk (Qak (by repeat (first | (with_reducible first | exact HB.out | apply Qad | apply Qaa | apply Qac | refine Qah ?_ GE101.out) | exact HB.out)) hb); clear HO104; clear BK101; clear HB; have HO104 := n0_; have BK101 := n1_; have HB := n2_; clear n0_ n1_ n2_; (try clear hb); (try clear hb2); (try clear hk); (try clear hi)))
  go_ret; exact ⟨by first | rfl | (simp [Qax, Qaw] <;> rfl) | (simp [*, Qax, Qaw] <;> rfl), by repeat (first | (with_reducible first | exact HB.out | apply Qad | apply Qaa | apply Qac | refine Qah ?_ GE101.out) | exact HB.out)⟩
end Go.Proofs.YtmaipohgahdclaaDoor.Pr
end
section
namespace Go.Proofs.YtmaipohgahdclaaDoor.Pr
open Go.RowKit Go.Proofs.YtmaipohgahdclaaDoorW.PrintWords Go.Proofs.YtmaipohgahdclaaDoorW.PrintLast Go.Proofs.YtmaipohgahdclaaDoorW.PrintMore
theorem few_is (l : List Cred) : Qa0.f l = some (l.take 14) := by
  unfold Qa0.f
  by_cases h : (l.length : Int) > 14
  · rw [if_pos h, if_pos (by omega)]
  · rw [if_neg h, List.take_of_length_le (by omega)]
theorem take_len (l : List Cred) : (l.take 14).length ≤ 14 := by simp; omega
theorem take_ok {l : List Cred} (h : ∀ c ∈ l, okCred c) : ∀ c ∈ l.take 14, okCred c := fun c hc => h c (List.mem_of_mem_take hc)
theorem small_ev (p : Proof) : Ev (fun k => QaE.f k p.f0.f0 p.f0.f1 p.f1 p.f2.f0 p.f2.f1 p.f3) (decide (cnt p ≤ 60)) := by
  refine Ev.bind (few_ev p 60 (by omega)) ?_; have h := cnt_pos p
  rw [show decide (fewV (cnt p : Int) 60 > 0) = decide (cnt p ≤ 60) by
    unfold fewV
    by_cases e : cnt p ≤ 60
    · rw [if_pos (by omega), decide_eq_true e]
      exact decide_eq_true (by omega)
    · rw [if_neg (by omega), decide_eq_false e]
      exact decide_eq_false (by omega)]
  exact Ev.pure _
theorem counts_may {l : List Cred} {c : Cred} (h : c ∈ counts l) : credMay c = true := ((counts_spec l).mem c |>.mp h).may
theorem counts_apart (l : List Cred) : Apart (counts l) := (counts_spec l).sorted.imp fun {a b} h e => by
  unfold credLess at h; rw [e] at h; omega
theorem counts_kind {l : List Cred} : ∀ c ∈ counts l, c.f2 = 1 ∨ c.f2 = 2 ∨ c.f2 = 3 ∨ c.f2 = 4 := fun c h => by
  have := counts_may h; unfold credMay at this; rw [Bool.and_eq_true] at this; have h2 := this.2
  by_cases k1 : c.f2 = 1
  · exact .inl k1
  by_cases k2 : c.f2 = 2
  · exact .inr (.inl k2)
  by_cases k3 : c.f2 = 3
  · exact .inr (.inr (.inl k3))
  by_cases k4 : c.f2 = 4
  · exact .inr (.inr (.inr k4))
  · rw [if_neg k1, if_neg k2, if_neg k3, if_neg k4] at h2
    cases h2
theorem okID_of {i : ID} (h0 : -9223372036854775808 ≤ i.f0 ∧ i.f0 ≤ 9223372036854775807) (h1 : -9223372036854775808 ≤ i.f1 ∧ i.f1 ≤ 9223372036854775807) : okID i := by
  have e1 : IntKind.i64.min = -9223372036854775808 := by decide
  have e2 : IntKind.i64.max = 9223372036854775807 := by decide
  constructor
  · show (decide (IntKind.i64.min ≤ i.f0) && decide (i.f0 ≤ IntKind.i64.max)) = true
    rw [e1, e2, decide_eq_true h0.1, decide_eq_true h0.2]; rfl
  · show (decide (IntKind.i64.min ≤ i.f1) && decide (i.f1 ≤ IntKind.i64.max)) = true
    rw [e1, e2, decide_eq_true h1.1, decide_eq_true h1.2]; rfl
theorem counts_good (l : List Cred) : goodIDs (counts l) := fun c h => by
  have := counts_may h; unfold credMay at this; simp only [Bool.and_eq_true, decide_eq_true_eq] at this; obtain ⟨⟨⟨h0, h1⟩, _⟩, _⟩ := this; exact okID_of (by omega) (by omega)
theorem counts_length (l : List Cred) : (counts l).length ≤ l.length := by
  unfold counts; have := firsts_length (sortCreds l) []; have h2 := sortCreds_length l; simp at this; omega
def errOf (b : Bool) : Int := if b = true then 0 else 15
theorem progCheck_is (l : List Cred) (p : Proof) (hl : l.length < 21) (hok : ∀ c ∈ l, okCred c) (hd : dep p < 200) (ho : okTree p) : QaB.f l p.f0.f0 p.f0.f1 p.f1 p.f2.f0 p.f2.f1 p.f3 = some (errOf (chk (counts l) 200 p)) := by
  have h1 := counts_length l; unfold QaB.f; rw [progCounts_is l hl hok 200 (by omega), Option.bind_some, if_pos ⟨by omega, counts_good l⟩]; rw [show (⟨⟨p.f0.f0, p.f0.f1⟩, p.f1, ⟨p.f2.f0, p.f2.f1⟩, p.f3⟩ : Proof) = p by cases p; rfl, check_is (counts_apart l) 200 p hd ho]; rfl
theorem refCheck_ev (l : List Cred) (p : Proof) (hl : l.length < 21) (hd : dep p < 200) : Ev (fun k => Qbm.f k l p.f0.f0 p.f0.f1 p.f1 p.f2.f0 p.f2.f1 p.f3) (errOf (chk (counts l) 200 p)) := by
  have h1 := counts_length l; refine Ev.bind (refCounts_is l (by omega)) ?_; have h := ofN_is (counts_kind (l := l)) 200 p hd p.f0 p.f1; unfold chkPart at h; rw [decide_eq_true rfl, decide_eq_true rfl, Bool.true_and, Bool.true_and] at h; refine Ev.bind (a := chk (counts l) 200 p) ⟨0, fun _ _ => ?_⟩ ?_
  · unfold liveryref07_of.f
    rw [if_pos (by omega)]; exact h
  unfold errOf; cases chk (counts l) 200 p
  · exact Ev.pure _
  · exact Ev.pure _
theorem progSupport_is (p : Proof) (hd : dep p < 200) (ho : okTree p) (hc : cnt p ≤ 1000) : QaQ.f p.f0.f0 p.f0.f1 p.f1 p.f2.f0 p.f2.f1 p.f3 = some (support p) := by
  unfold QaQ.f; rw [show (⟨⟨p.f0.f0, p.f0.f1⟩, p.f1, ⟨p.f2.f0, p.f2.f1⟩, p.f3⟩ : Proof) = p by cases p; rfl, gather_is 200 p hd ho [] (by simp; omega), Option.bind_some]; have := fold_length (ids p) []; have h2 : (ids p).length = cnt p := rfl; simp at this; rw [if_pos (by omega)]; rfl
theorem progSame_is (a b : Proof) (hd : dep a < 200) (hc : cnt a < 1000000) : Qa7.f a.f0.f0 a.f0.f1 a.f1 a.f2.f0 a.f2.f1 a.f3 b.f0.f0 b.f0.f1 b.f1 b.f2.f0 b.f2.f1 b.f3 = some (eqT a b) := by
  unfold Qa7.f; rw [show (⟨⟨a.f0.f0, a.f0.f1⟩, a.f1, ⟨a.f2.f0, a.f2.f1⟩, a.f3⟩ : Proof) = a by cases a; rfl, show (⟨⟨b.f0.f0, b.f0.f1⟩, b.f1, ⟨b.f2.f0, b.f2.f1⟩, b.f3⟩ : Proof) = b by cases b; rfl]; exact same_is 200 a b hd hc
def exA : Cred := ⟨⟨1, 1⟩, ⟨#[97]⟩, 2, ⟨#[]⟩, ⟨⟨#[100, 50]⟩, ⟨#[98]⟩⟩, ⟨⟨#[]⟩, ⟨#[]⟩⟩⟩
def exB : Cred := ⟨⟨2, 1⟩, ⟨#[98]⟩, 1, ⟨#[97, 110, 110]⟩, ⟨⟨#[]⟩, ⟨#[]⟩⟩, ⟨⟨#[]⟩, ⟨#[]⟩⟩⟩
def exQ : Proof := ⟨⟨⟨#[100, 50]⟩, ⟨#[98]⟩⟩, ⟨#[97, 110, 110]⟩, ⟨2, 1⟩, []⟩
def exP : Proof := ⟨⟨⟨#[100, 49]⟩, ⟨#[97]⟩⟩, ⟨#[97, 110, 110]⟩, ⟨1, 1⟩, [exQ]⟩
def exR : Proof := ⟨⟨⟨#[100, 49]⟩, ⟨#[97]⟩⟩, ⟨#[97, 110, 110]⟩, ⟨1, 1⟩, []⟩
theorem noText_dec (s : ByteArray) : noText s = decide (s = ⟨#[]⟩) := by
  unfold noText; rw [Bool.eq_iff_iff, beq_iff_eq, empty_iff, decide_eq_true_eq]
theorem exA_may : credMay exA = true := by
  unfold credMay roleOk bareOk noRole; simp only [noText_dec]
  decide
theorem exB_may : credMay exB = true := by
  unfold credMay roleOk bareOk noRole; simp only [noText_dec]
  decide
theorem ex_counts : counts [exA, exB] = [exA, exB] := by
  refine (counts_spec [exA, exB]).unique ⟨?_, fun c => ?_⟩
  · rw [List.pairwise_cons]
    exact ⟨fun b hb => by rw [List.mem_singleton] at hb; subst hb; exact .inl (by decide), List.pairwise_singleton _ _⟩
  · constructor
    · intro h
      rcases List.mem_cons.mp h with rfl | h
      · unfold First
        rw [List.find?_cons, exA_may, show sameID exA exA = true by decide]; rfl
      · rw [List.mem_singleton] at h
        subst h; unfold First; rw [List.find?_cons, show sameID exA exB = false by decide, Bool.and_false, List.find?_cons, exB_may, show sameID exB exB = true by decide]; rfl
    · intro h
      exact h.mem
theorem exP_ids : ids exP = [⟨1, 1⟩, ⟨2, 1⟩] := by
  rw [ids_eq, show exP.f3 = [exQ] from rfl, idsL_cons, ids_eq, show exQ.f3 = [] from rfl, idsL_nil]; rfl
theorem exR_ids : ids exR = [⟨1, 1⟩] := by
  rw [ids_eq, show exR.f3 = [] from rfl, idsL_nil]; rfl
theorem exP_dep : dep exP = 1 := by
  rw [dep_eq, show exP.f3 = [exQ] from rfl, depL_cons, depL_nil, dep_eq, show exQ.f3 = [] from rfl, depL_nil]; rfl
theorem exR_dep : dep exR = 0 := by rw [dep_eq, show exR.f3 = [] from rfl, depL_nil]
theorem exP_cnt : cnt exP = 2 := by unfold cnt; rw [exP_ids]; rfl
theorem exP_ok : okTree exP := fun i hi => by
  rw [exP_ids] at hi
  rcases List.mem_cons.mp hi with rfl | hi
  · exact okID_of (by decide) (by decide)
  · rw [List.mem_singleton] at hi
    subst hi; exact okID_of (by decide) (by decide)
theorem exR_ok : okTree exR := fun i hi => by
  rw [exR_ids, List.mem_singleton] at hi; subst hi; exact okID_of (by decide) (by decide)
theorem exP_support : support exP = [⟨1, 1⟩, ⟨2, 1⟩] := by
  refine strict_unique (support_strict exP) ?_ (fun x => by rw [support_mem, exP_ids]); rw [List.pairwise_cons]; exact ⟨fun b hb => by rw [List.mem_singleton] at hb; subst hb; decide, List.pairwise_singleton _ _⟩
theorem exP_chk : chk [exA, exB] 200 exP = true := by decide +kernel
theorem exR_chk : chk [exA, exB] 200 exR = false := by decide +kernel
theorem exPP : eqT exP exP = true := eqT_refl _
theorem exPR : eqT exP exR = false := by
  rw [eqT_eq, show exP.f3 = [exQ] from rfl, show exR.f3 = [] from rfl, eqTL_len _ _ (by simp)]; simp
theorem ex_ok : ∀ c ∈ [exA, exB], okCred c := by
  intro c hc
  have : c = exA ∨ c = exB := by simpa using hc
  rcases this with rfl | rfl <;> exact ⟨by decide, by decide, ⟨by decide, by decide⟩, by decide, by decide⟩
theorem lives_ev : Ev (fun k => Qao.f k) true := by
  have h1 := progSupport_is exP (by rw [exP_dep]; omega) exP_ok (by rw [exP_cnt]; omega); have h2 := progCheck_is [exA, exB] exP (by decide) ex_ok (by rw [exP_dep]; omega) exP_ok; have h3 := progCheck_is [exA, exB] exR (by decide) ex_ok (by rw [exR_dep]; omega) exR_ok; have h4 := size_ev exP (by rw [exP_cnt]; omega); have h5 := progSame_is exP exP (by rw [exP_dep]; omega) (by rw [exP_cnt]; omega); have h6 := progSame_is exP exR (by rw [exP_dep]; omega) (by rw [exP_cnt]; omega); have h7 := within_ev exP 1 (by rw [exP_cnt]; omega) (by omega); have h8 := within_ev exP 0 (by rw [exP_cnt]; omega) (by omega); rw [exP_support] at h1; rw [ex_counts, exP_chk] at h2; rw [ex_counts, exR_chk] at h3; rw [exP_cnt] at h4; rw [exPP] at h5; rw [exPR] at h6; rw [exP_dep] at h7 h8; have g1 : QaQ.f (⟨#[100, 49]⟩ : ByteArray) (⟨#[97]⟩ : ByteArray) (⟨#[97, 110, 110]⟩ : ByteArray) 1 1 [exQ] = some [⟨1, 1⟩, ⟨2, 1⟩] := h1; have g2 : QaB.f [exA, exB] (⟨#[100, 49]⟩ : ByteArray) (⟨#[97]⟩ : ByteArray) (⟨#[97, 110, 110]⟩ : ByteArray) 1 1 [exQ] = some 0 := h2; have g3 : QaB.f [exA, exB] (⟨#[100, 49]⟩ : ByteArray) (⟨#[97]⟩ : ByteArray) (⟨#[97, 110, 110]⟩ : ByteArray) 1 1 [] = some 15 := h3; have g5 : Qa7.f (⟨#[100, 49]⟩ : ByteArray) (⟨#[97]⟩ : ByteArray) (⟨#[97, 110, 110]⟩ : ByteArray) 1 1 [exQ] (⟨#[100, 49]⟩ : ByteArray) (⟨#[97]⟩ : ByteArray) (⟨#[97, 110, 110]⟩ : ByteArray) 1 1 [exQ] = some true := h5; have g6 : Qa7.f (⟨#[100, 49]⟩ : ByteArray) (⟨#[97]⟩ : ByteArray) (⟨#[97, 110, 110]⟩ : ByteArray) 1 1 [exQ] (⟨#[100, 49]⟩ : ByteArray) (⟨#[97]⟩ : ByteArray) (⟨#[97, 110, 110]⟩ : ByteArray) 1 1 [] = some false := h6
  unfold Qao.f; refine Ev.bind (Ev.pure [exA, exB]) (Ev.bind (Ev.pure [exQ]) ?_); simp only [g1, g2, g3, g5, g6, Option.bind_some]; exact Ev.bind h4 (Ev.bind h7 (Ev.bind h8 (Ev.pure _)))
theorem livesB : Ev (fun k => (Qao.f k).bind fun t => some t) true := Ev.bind lives_ev (Ev.pure _)
theorem proofChecks_true (l : List Cred) (p : Proof) (hok : ∀ c ∈ l, okCred c) (hp : okTree p) : Ev (fun k => Qbo.f k l p.f0.f0 p.f0.f1 p.f1 p.f2.f0 p.f2.f1 p.f3) true := by
  unfold Qbo.f; rw [few_is]; have hlen := take_len l; refine Ev.bind (Ev.pure _) (Ev.bind (small_ev p) ?_)
  by_cases h : cnt p ≤ 60
  · have hd := dep_lt p
    simp only [decide_eq_true h, if_true]; refine Ev.bind ⟨0, fun _ _ => progCheck_is (l.take 14) p (by omega) (take_ok hok) (by omega) hp⟩ (Ev.bind (refCheck_ev (l.take 14) p (by omega) (by omega)) ?_); simp only [if_true]; exact livesB
  · simp only [decide_eq_false h, Bool.false_eq_true, if_false]
    exact livesB
end Go.Proofs.YtmaipohgahdclaaDoor.Pr
end
section
namespace Go.Proofs.YtmaipohgahdclaaDoor.Pr
open Go.RowKit Go.Proofs.YtmaipohgahdclaaDoorW.PrintWords Go.Proofs.YtmaipohgahdclaaDoorW.PrintLast Go.Proofs.YtmaipohgahdclaaDoorW.PrintMore
set_option linter.unusedVariables false
theorem First.append {l m : List Cred} {c : Cred} (h : First l c) : First (l ++ m) c := by
  unfold First at *; rw [List.find?_append, h]; rfl
end Go.Proofs.YtmaipohgahdclaaDoor.Pr
end
