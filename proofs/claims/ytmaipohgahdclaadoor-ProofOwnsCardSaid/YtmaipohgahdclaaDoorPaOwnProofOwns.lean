/- The law's own part of the proof. No conditions. -/
import Derived.Shelf.SlicesG.Cmp
import Derived.WalkKit
import Derived.WalkSpells
import Derived.Lib.Hide
import Derived.StillTailTactics
import Derived.Sort.Grow
import Derived.KernelRfl
import Derived.Lib.SlicesS
import Derived.Shelf.SlicesE.Clone
import Derived.Ground.SlgcProg
import Derived.Test.YtmaipohgahdclaaDoorProg
import Derived.Shelf.SlSortCmp.WholeK
import Derived.Shelf.SlSortCmp.NoneTotal
import Derived.Ground.SlsfProg
import Derived.Ground.SlgnProg
import Derived.Laws.StructEq
import Derived.Below
import Derived.Deep.Draws
import Derived.Deep.AppendLies
import Derived.Maps.AppendAt
import Derived.OwnWalk
import Derived.Laws.BytesArg
import Derived.Laws.MakeOwn
import Derived.Laws.OwnMore
import Derived.Tactics
import Derived.Lib.ConvBytes
import Derived.Laws.Slices
import Derived.RowKit3
import Derived.Deep.LoopGhost
import Derived.Deep.QuietTactic
import Derived.BigQuiet
import Derived.WideLaws
import Derived.Deep.DeepCutAuto
import Derived.Deep.CutBlock
import Derived.Deep.RegionHeld3
import Derived.Lib.AppendStr
import Derived.ArgAppend
import Derived.Laws.IdiomCopy
import Derived.RowKit
import Derived.Sort.Walk0
import Derived.Laws.Strings
import Derived.Maps.OwnSet
import Derived.Maps.RangeRun
import Derived.Maps.Range
import Derived.Carry
import Derived.OrdersHeld
import Derived.Laws.BitsLemmas
import Derived.Sort.LotA
import Derived.DeepKeys4
import Derived.ProofKit
import Derived.ChangeSlices
import Derived.DataElems
import Derived.WalkLawsBesides
import Derived.Outline
import Derived.Deep.RegionWith
import Derived.RegionTactic
import Derived.ChangeAlike
import Derived.Deep.RegionLaw
import Derived.Lib.SmallJoins
import Derived.OpenShut
import Derived.ShutString
import Derived.ChangeOld
import Derived.SizedLaws
import Derived.LaidMore
import Derived.Stop.Joined
import Derived.SevenTiedAt
import Derived.Laws.RangeAny
import Derived.Laws.Closers25
import Derived.Shelf.GgSortFunc.InsertionK
import Derived.Test.YtmaipohgahdclaaDoorPa0
import Derived.Test.YtmaipohgahdclaaDoorPa1
import Derived.Test.YtmaipohgahdclaaDoorPa2
import Derived.Test.YtmaipohgahdclaaDoorPa3
import Derived.Test.YtmaipohgahdclaaDoorPa4
import Derived.Test.YtmaipohgahdclaaDoorPa5
import Derived.Test.YtmaipohgahdclaaDoorPa6
import Derived.Test.YtmaipohgahdclaaDoorPa7
import Derived.Test.YtmaipohgahdclaaDoorPa8
import Derived.Test.YtmaipohgahdclaaDoorPa9
import Derived.Test.YtmaipohgahdclaaDoorPa10
import Derived.Test.YtmaipohgahdclaaDoorPa11
import Derived.Test.YtmaipohgahdclaaDoorPa12
section
namespace Go.Proofs.YtmaipohgahdclaaDoor.Pr
open Go.RowKit Go.Proofs.YtmaipohgahdclaaDoorW.PrintWords Go.Proofs.YtmaipohgahdclaaDoorW.PrintLast Go.Proofs.YtmaipohgahdclaaDoorW.PrintMore
attribute [local go_sem] max2_int min2_int max_two min_two Qbj Qbi max_four min_four
set_option linter.unusedVariables false
set_option linter.unusedSimpArgs false
def Qba.l0 : Nat → List (S44) → List (S44) → List (S26) → Int → ByteArray → ByteArray → ByteArray → Int → Int → List (S29) → Option (Bool)
 | 0, _, _, _, _, _, _, _, _, _, _ => none
 | k + 1, x0, x6, x7, x8, x102000, x102001, x102002, x102003, x102004, x102005 => if x8 < (x7.length : Int) then (if 0 ≤ x8 then (Qba.l0 k x0 x6 (x7.set (x8 : Int).toNat (⟨0, 0⟩ : S26)) (wrap64 (x8 + 1)) x102000 x102001 x102002 x102003 x102004 x102005) else (none)) else ((QaB.f x0 x102000 x102001 x102002 x102003 x102004 x102005).bind fun t114 => ((liveryref05_Same.f k x6 x0).bind fun t115 => ((QaQ.f x102000 x102001 x102002 x102003 x102004 x102005).bind fun t116 => ((liveryref07_Support.f k x102000 x102001 x102002 x102003 x102004 x102005).bind fun t119 => ((QaY.f k t116 t119).bind fun t122 => (if t115 = true then (if t122 = true then ((Qao.f k).bind fun t123 => (some t123)) else (some false)) else (some false)))))))
def Qba.f (k : Nat) (l0 : List (S44)) (a1_0 : ByteArray) (a1_1 : ByteArray) (a1_2 : ByteArray) (a1_3 : Int) (a1_4 : Int) (l1_5 : List (S29)) : Option (Bool) := (Qa0.f l0).bind fun t102 => ((QaE.f k a1_0 a1_1 a1_2 a1_3 a1_4 l1_5).bind fun t105 => (if t105 = true then (if ([] : List (S44)).length + t102.length < 1172812402961 then ((QaQ.f a1_0 a1_1 a1_2 a1_3 a1_4 l1_5).bind fun t110 => (Qba.l0 k t102 (([] : List (S44)) ++ t102) t110 0 a1_0 a1_1 a1_2 a1_3 a1_4 l1_5)) else (none)) else ((Qao.f k).bind fun t106 => (some t106))))
set_option maxHeartbeats 8000000 in
set_option maxRecDepth 100000 in
theorem Qba.calls (k : Nat) (A0 : Option Addr) (c0 : Nat) (l0 : List (S44)) (a1_0 : ByteArray) (a1_1 : ByteArray) (a1_2 : ByteArray) (a1_3 : Int) (a1_4 : Int) (A1_5 : Option Addr) (c1_5 : Nat) (l1_5 : List (S29)) (r : Bool) (w : World) (hr0 : Kd.C k44 w A0 l0.length l0) (hc0 : l0.length ≤ c0) (hr1_5 : Kd.C k29 w A1_5 l1_5.length l1_5) (hc1_5 : l1_5.length ≤ c1_5) (h : Qba.f k l0 a1_0 a1_1 a1_2 a1_3 a1_4 l1_5 = some r) :
  Calls Tryd.prog 7 #[.slice A0 l0.length c0, .agg #[.string a1_0, .string a1_1, .string a1_2, .int .i64 a1_3, .int .i64 a1_4, .slice A1_5 l1_5.length c1_5]] w fun e w' => e = .returned (.bool r) ∧ Below w.heap.size w w' := by
 have hu29 := Tryd.underlying29; have hu26 := Tryd.underlying26; have HR0 := Qab.mk hr0; have HC0 := Qab.mk hc0; clear hr0 hc0; have HR1_5 := Qab.mk hr1_5; have HC1_5 := Qab.mk hc1_5; clear hr1_5 hc1_5; have HB := Qab.mk (Below.refl w.heap.size w); have H : ((Qa0.f l0).bind fun t102 => ((QaE.f k a1_0 a1_1 a1_2 a1_3 a1_4 l1_5).bind fun t105 => (if t105 = true then (if ([] : List (S44)).length + t102.length < 1172812402961 then ((QaQ.f a1_0 a1_1 a1_2 a1_3 a1_4 l1_5).bind fun t110 => (Qba.l0 k t102 (([] : List (S44)) ++ t102) t110 0 a1_0 a1_1 a1_2 a1_3 a1_4 l1_5)) else (none)) else ((Qao.f k).bind fun t106 => (some t106))))) = some r := h; clear h; replace H := Option.bind_eq_some_iff.mp H; obtain ⟨t102, A30, H⟩ := H; replace H : ((QaE.f k a1_0 a1_1 a1_2 a1_3 a1_4 l1_5).bind fun t105 => (if t105 = true then (if ([] : List (S44)).length + t102.length < 1172812402961 then ((QaQ.f a1_0 a1_1 a1_2 a1_3 a1_4 l1_5).bind fun t110 => (Qba.l0 k t102 (([] : List (S44)) ++ t102) t110 0 a1_0 a1_1 a1_2 a1_3 a1_4 l1_5)) else (none)) else ((Qao.f k).bind fun t106 => (some t106)))) = some r := H; have A3 := Qab.mk A30; clear A30; replace H := Option.bind_eq_some_iff.mp H; obtain ⟨t105, A40, H⟩ := H; replace H : (if t105 = true then (if ([] : List (S44)).length + t102.length < 1172812402961 then ((QaQ.f a1_0 a1_1 a1_2 a1_3 a1_4 l1_5).bind fun t110 => (Qba.l0 k t102 (([] : List (S44)) ++ t102) t110 0 a1_0 a1_1 a1_2 a1_3 a1_4 l1_5)) else (none)) else ((Qao.f k).bind fun t106 => (some t106))) = some r := H
 have A4 := Qab.mk A40; clear A40
 by_cases c5 : t105 = true
 ·subst c5
  have H1 : (if ([] : List (S44)).length + t102.length < 1172812402961 then ((QaQ.f a1_0 a1_1 a1_2 a1_3 a1_4 l1_5).bind fun t110 => (Qba.l0 k t102 (([] : List (S44)) ++ t102) t110 0 a1_0 a1_1 a1_2 a1_3 a1_4 l1_5)) else (none)) = some r := by rw [if_pos rfl] at H; exact H
  clear H; have H := H1; clear H1
  by_cases c6 : ([] : List (S44)).length + t102.length < 1172812402961
  ·rw [if_pos c6] at H; have LMc6 := Qab.mk c6; clear c6
   obtain ⟨y107, hy107⟩ : ∃ y_ : List (S44), y_ = (([] : List (S44)) ++ t102) := ⟨_, rfl⟩
   replace H : ((QaQ.f a1_0 a1_1 a1_2 a1_3 a1_4 l1_5).bind fun t110 => (Qba.l0 k t102 y107 t110 0 a1_0 a1_1 a1_2 a1_3 a1_4 l1_5)) = some r := by first | (rw [hy107]; with_reducible exact H) | (have H2_ := (Option.bind_some _ _).symm.trans H; rw [hy107]; with_reducible exact H2_) | (have H2_ := (Option.bind_some _ _).symm.trans H; with_reducible exact H2_) | with_reducible exact H | (rw [hy107]; exact H) | exact H
   have Ny107 := Qab.mk hy107; clear hy107; replace H := Option.bind_eq_some_iff.mp H; obtain ⟨t110, A70, H⟩ := H; replace H : (Qba.l0 k t102 y107 t110 0 a1_0 a1_1 a1_2 a1_3 a1_4 l1_5) = some r := H; have A7 := Qab.mk A70; clear A70; have H' := Qab.mk H; clear H; go_enter Tryd.func7, Tryd.ntmps7
   go_wp2_with (first | ((with_reducible refine Qa2 (N := 3) rfl ?_); refine QaV ?hg (N := 3) ?hd (cs := #[.string a1_0, .string a1_1, .string a1_2, .int .i64 a1_3, .int .i64 a1_4, .slice A1_5 l1_5.length c1_5]) (t := 29) ?hr ?_; (case hd => rfl); (case hg => rfl); (case hr => first | (go_simp; done) | (go_simp; rfl)); intro gb101 hg w8 hbox hb; have n0_ := Qab.mk (Qak (by repeat (first | (with_reducible first | exact HB.out | apply Qad | apply Qaa | apply Qac) | exact HB.out)) hb); have n1_ := Qab.mk (hbox); have n2_ := Qab.mk ((by rw [hg]; exact (Qar (by repeat (first | (with_reducible first | exact HB.out | apply Qad | apply Qaa | apply Qac) | exact HB.out))) : w.heap.size ≤ gb101)); have n3_ := n2_; clear HB; have HB := n0_; have BK101 := n1_; have GW101 := n2_; have GE101 := n3_; clear n0_ n1_ n2_ n3_; clear hb hbox hg) | ((with_reducible refine QaT (f := 8) rfl ?_); refine goesL_ (some 12) rfl rfl Tryd.func8 (by kernel_rfl) rfl #[.slice A0 l0.length c0] rfl (by (try simp only [List.map_toArray, List.map_cons, List.map_nil]); first | done | rfl | (simp only [List.length_drop, List.length_take]; rfl)) ?_; (with_reducible refine (Qa0.calls (fun k_ => k_ < w.heap.size) _ _ l0 t102 _ ?side1 A3.out).mono ?_); (case side1 => exact Kd.V_mk HC0.out (Kd.F_below (Kd.C_F k44_heap HR0.out) (by repeat (first | (with_reducible first | exact HB.out | apply Qad | apply Qaa | apply Qac | refine Qah ?_ GE101.out) | exact HB.out)))); rintro e w9 ⟨v103, rfl, ho0, hb⟩; refine ⟨_, rfl, ?_⟩; have n0_ := Qab.mk (Kd.V_lower (Kd.V_mono (ok' := fun k_ => k_ ≠ gb101) ho0 (fun k_ hk_ => Or.elim hk_ (fun hs_ => fun e_ => Nat.not_le.2 hs_ (by rw [e_]; exact GW101.out)) (fun hn_ => (Kd.freshB (g := gb101) (o := Qap a1_0 a1_1 a1_2 a1_3 a1_4 (.slice A1_5 l1_5.length c1_5) 29) (by (with_reducible repeat (first | refine Qag ?_ _ | refine Qai ?_ | refine Qae ?_ _)); exact BK101.out) k_ hn_)))) (Qar (by repeat (first | (with_reducible first | exact HB.out | apply Qad | apply Qaa | apply Qac | refine Qah ?_ GE101.out) | exact HB.out)))); have n1_ := Qab.mk (Qal (g := gb101) (o := Qap a1_0 a1_1 a1_2 a1_3 a1_4 (.slice A1_5 l1_5.length c1_5) 29) (by (with_reducible repeat (first | refine Qag ?_ _ | refine Qai ?_ | refine Qae ?_ _)); exact BK101.out) hb); have n2_ := Qab.mk (Qak (by repeat (first | (with_reducible first | exact HB.out | apply Qad | apply Qaa | apply Qac | refine Qah ?_ GE101.out) | exact HB.out)) hb); clear BK101; clear HB; have HO104 := n0_; have BK101 := n1_; have HB := n2_; clear n0_ n1_ n2_; (try clear hb); (try clear hb2); (try clear hk); (try clear hi); (try clear ho0); obtain ⟨hcz10_0, hcz10_1, hcz10_2, hcz10_3, hcz10_4, hcz10_5⟩ := QaZ BK101.out; obtain ⟨hfz10_0, hfz10_1, hfz10_2, hfz10_3, hfz10_4, hfz10_5⟩ := fz_6 BK101.out) | ((with_reducible refine QaT (f := 9) rfl ?_); refine goesL_ (some 14) rfl rfl Tryd.func9 (by kernel_rfl) rfl #[.agg #[.string a1_0, .string a1_1, .string a1_2, .int .i64 a1_3, .int .i64 a1_4, .slice A1_5 l1_5.length c1_5]] rfl (by (try simp only [List.map_toArray, List.map_cons, List.map_nil]); first | done | rfl | (simp only [List.length_drop, List.length_take]; rfl)) ?_; (with_reducible refine (QaE.calls k a1_0 a1_1 a1_2 a1_3 a1_4 _ _ l1_5 true _ ?side1 ?side2 A4.out).mono ?_); (case side1 => repeat (first | exact (Kd.QaJ HR1_5.out HB.out) | (with_reducible refine Kd.QaF ?_ _) | (with_reducible refine Kd.QaH ?_ _) | (with_reducible refine Kd.QaW ?_))); (case side2 => exact HC1_5.out); rintro e w11 ⟨rfl, hb⟩; refine ⟨_, rfl, ?_⟩; have n0_ := Qab.mk (Kd.Qbf (by (with_reducible repeat (first | apply Kd.QaO | apply Kd.QaN | apply Kd.Qa1)); exact HO104.out) hb); have n1_ := Qab.mk (Qal (g := gb101) (o := Qap a1_0 a1_1 a1_2 a1_3 a1_4 (.slice A1_5 l1_5.length c1_5) 29) (by (with_reducible repeat (first | refine Qag ?_ _ | refine Qai ?_ | refine Qae ?_ _)); exact BK101.out) hb); have n2_ := Qab.mk (Qak (by repeat (first | (with_reducible first | exact HB.out | apply Qad | apply Qaa | apply Qac | refine Qah ?_ GE101.out) | exact HB.out)) hb); clear HO104; clear BK101; clear HB; have HO104 := n0_; have BK101 := n1_; have HB := n2_; clear n0_ n1_ n2_; (try clear hb); (try clear hb2); (try clear hk); (try clear hi); obtain ⟨Ao13, co13, eo13⟩ := Kd.V_slice HO104.out; subst eo13) | ((with_reducible refine Qbg (b := .append) (xs := #[.tmp 18, .tmp 19]) rfl ?_); at_builtin; refine Kd.R_append_rows k44 (w0 := w) w.heap.size rfl (.tmp 18) (.tmp 19) 22 44 (.agg #[(.int .i64 0), (.int .i64 0), (.string ⟨#[]⟩), (.int .i64 0), (.string ⟨#[]⟩), (.string ⟨#[]⟩), (.string ⟨#[]⟩), (.string ⟨#[]⟩), (.string ⟨#[]⟩)]) 120 rfl Tryd.underlying22 info44 rfl (by decide) (by omega) (.slice none 0 0) ([] : List (S44)) t102 _ _ _ (fun _ => True) (fun _ => False) rfl rfl ?aO ?aR (fun _ _ h => h) (fun _ h => h.elim) ?aF ?aB ?aS ?aL ?_; (case aR => repeat (first | exact (Kd.Qbb HO104.out).2.2 | (with_reducible refine Kd.QaF ?_ _) | (with_reducible refine Kd.QaH ?_ _) | (with_reducible refine Kd.QaW ?_))); (case aB => exact (by repeat (first | (with_reducible first | exact HB.out | apply Qad | apply Qaa | apply Qac | refine Qah ?_ GE101.out) | exact HB.out))); (case aF => exact (fun _ _ => trivial)); (case aO => exact ((Kd.R_nil _ _ _ _ (fun _ => True)))); (case aS => exact (Qar (by repeat (first | (with_reducible first | exact HB.out | apply Qad | apply Qaa | apply Qac | refine Qah ?_ GE101.out) | exact HB.out)))); (case aL => have := LMc6.out; omega); intro v108 w12 ho hb hg hat; rw [← Ny107.out] at ho; have n0_ := Qab.mk (blk_grown (g := gb101) (o := Qap a1_0 a1_1 a1_2 a1_3 a1_4 (.slice A1_5 l1_5.length c1_5) 29) (by (with_reducible repeat (first | refine Qag ?_ _ | refine Qai ?_ | refine Qae ?_ _)); exact BK101.out) hg (by simp [Value.ownBlock])); have n1_ := Qab.mk (Kd.V_afterv (Kd.V_apart_nil (by (with_reducible repeat (first | apply Kd.QaO | apply Kd.QaN | apply Kd.Qa1)); exact HO104.out)) hg hat); have n2_ := Qab.mk (hb); have n3_ := Qab.mk (ho); clear BK101; clear HO104; clear HB; have BK101 := n0_; have HO104 := n1_; have HB := n2_; have HO109 := n3_; clear n0_ n1_ n2_ n3_; clear ho hb hg hat; obtain ⟨hcz14_0, hcz14_1, hcz14_2, hcz14_3, hcz14_4, hcz14_5⟩ := QaZ BK101.out; obtain ⟨hfz14_0, hfz14_1, hfz14_2, hfz14_3, hfz14_4, hfz14_5⟩ := fz_6 BK101.out) | ((with_reducible refine QaT (f := 14) rfl ?_); refine goesL_ (some 22) rfl rfl Tryd.func14 (by kernel_rfl) rfl #[.agg #[.string a1_0, .string a1_1, .string a1_2, .int .i64 a1_3, .int .i64 a1_4, .slice A1_5 l1_5.length c1_5]] rfl (by (try simp only [List.map_toArray, List.map_cons, List.map_nil]); first | done | rfl | (simp only [List.length_drop, List.length_take]; rfl)) ?_; (with_reducible refine (QaQ.calls a1_0 a1_1 a1_2 a1_3 a1_4 _ _ l1_5 t110 _ ?side1 ?side2 A7.out).mono ?_); (case side1 => repeat (first | exact (Kd.QaJ HR1_5.out HB.out) | (with_reducible refine Kd.QaF ?_ _) | (with_reducible refine Kd.QaH ?_ _) | (with_reducible refine Kd.QaW ?_))); (case side2 => exact HC1_5.out); rintro e w15 ⟨v111, rfl, ho0, hb⟩; refine ⟨_, rfl, ?_⟩; have n0_ := Qab.mk (Kd.V_elder' (by (with_reducible repeat (first | apply Kd.QaO | apply Kd.QaN | apply Kd.Qa1)); exact HO104.out) (Kd.R_base ho0) hb); have n1_ := Qab.mk (Kd.QaL (by (with_reducible repeat (first | apply Kd.Qam | apply Kd.Qan | apply Kd.Qaq)); exact HO109.out) hb); have n2_ := Qab.mk (Kd.R_lower ho0 (Qar (by repeat (first | (with_reducible first | exact HB.out | apply Qad | apply Qaa | apply Qac | refine Qah ?_ GE101.out) | exact HB.out)))); have n3_ := Qab.mk (Qal (g := gb101) (o := Qap a1_0 a1_1 a1_2 a1_3 a1_4 (.slice A1_5 l1_5.length c1_5) 29) (by (with_reducible repeat (first | refine Qag ?_ _ | refine Qai ?_ | refine Qae ?_ _)); exact BK101.out) hb); have n4_ := Qab.mk (Qak (by repeat (first | (with_reducible first | exact HB.out | apply Qad | apply Qaa | apply Qac | refine Qah ?_ GE101.out) | exact HB.out)) hb); clear HO104; clear HO109; clear BK101; clear HB; have HO104 := n0_; have HO109 := n1_; have HO112 := n2_; have BK101 := n3_; have HB := n4_; clear n0_ n1_ n2_ n3_ n4_; (try clear hb); (try clear hb2); (try clear hk); (try clear hi); (try clear ho0)))
   go_loopg [8] k (fun kq v8 w' => ∃ (x7_1 : List (S26)) (x8_1 : Int), v8 = .int .i64 x8_1 ∧ Qab (Qba.l0 kq t102 y107 x7_1 x8_1 a1_0 a1_1 a1_2 a1_3 a1_4 l1_5 = some r) ∧ Qab (kq ≤ k) ∧ Qab (Kd.V k44 44 w' w.heap.size (fun k_ => some k_ ≠ (v108 : Value).ownBlock ∧ some k_ ≠ (v111 : Value).ownBlock ∧ k_ ≠ gb101) (.slice Ao13 t102.length co13) t102) ∧ Qab (Kd.R k44 44 w' w.heap.size (fun _ => True) v108 y107) ∧ Qab (Kd.R k26 26 w' w.heap.size (fun _ => True) v111 x7_1) ∧ Qab (w'.heap[gb101]? = some (.cells #[.string a1_0, .string a1_1, .string a1_2, .int .i64 a1_3, .int .i64 a1_4, (.slice A1_5 l1_5.length c1_5)] 29 (0, 0))) ∧ Qab (Below w.heap.size w w'))
   case atStart => exact ⟨(t110), (0), (by first | rfl | (simp; done) | (simp [*]; done)), H', ⟨Nat.le_refl _⟩, ⟨by (with_reducible repeat (first | apply Kd.QaO | apply Kd.QaN | apply Kd.Qa1)); exact Kd.V_mono HO104.out (fun _ hk => ⟨hk.1.2, ⟨hk.2, hk.1.1⟩⟩)⟩, ⟨by (with_reducible repeat (first | apply Kd.Qam | apply Kd.Qan | apply Kd.Qaq)); exact HO109.out⟩, ⟨by (with_reducible repeat (first | apply Kd.Qam | apply Kd.Qan | apply Kd.Qaq)); exact HO112.out⟩, ⟨by (with_reducible repeat (first | refine Qag ?_ _ | refine Qai ?_ | refine Qae ?_ _)); exact BK101.out⟩, ⟨by repeat (first | (with_reducible first | exact HB.out | apply Qad | apply Qaa | apply Qac | refine Qah ?_ GE101.out) | exact HB.out)⟩⟩
   case round =>
    clear H'; (try clear c1); (try clear p2); (try clear c5); (try clear c6); (try clear c7); (try clear c8); (try clear c9); (try clear c14); (try clear hcz10_0); (try clear hcz10_1); (try clear hcz10_2); (try clear hcz10_3); (try clear hcz10_4); (try clear hcz10_5); (try clear hcz14_0); (try clear hcz14_1); (try clear hcz14_2); (try clear hcz14_3); (try clear hcz14_4); (try clear hcz14_5); (try clear hfz10_0); (try clear hfz10_1); (try clear hfz10_2); (try clear hfz10_3); (try clear hfz10_4); (try clear hfz10_5); (try clear hfz14_0); (try clear hfz14_1); (try clear hfz14_2); (try clear hfz14_3); (try clear hfz14_4); (try clear hfz14_5); obtain ⟨x7_1, x8_1, rfl, HA, HK1, HO_0, HO_6, HO_7, BK101, HB⟩ := hrel
    cases gk with
    | zero => exact absurd HA.out (by simp [Qba.l0])
    | succ k1 =>
     have H := HA.out; clear HA; simp only [Qba.l0] at H
     by_cases c16 : x8_1 < (x7_1.length : Int)
     ·rw [if_pos c16] at H; have c16b0 : decide (x8_1 < (x7_1.length : Int)) = true := decide_eq_true c16; clear c16
      by_cases c17 : 0 ≤ x8_1
      ·rw [if_pos c17] at H; have c17b0 : decide (0 ≤ x8_1) = true := decide_eq_true c17; clear c17
       obtain ⟨y113, hy113⟩ : ∃ y_ : List (S26), y_ = (x7_1.set (x8_1 : Int).toNat (⟨0, 0⟩ : S26)) := ⟨_, rfl⟩
       replace H : (Qba.l0 k1 t102 y107 y113 (wrap64 (x8_1 + 1)) a1_0 a1_1 a1_2 a1_3 a1_4 l1_5) = some r := by first | (rw [hy113]; with_reducible exact H) | (have H2_ := (Option.bind_some _ _).symm.trans H; rw [hy113]; with_reducible exact H2_) | (have H2_ := (Option.bind_some _ _).symm.trans H; with_reducible exact H2_) | with_reducible exact H | (rw [hy113]; exact H) | exact H
       have Ny113 := Qab.mk hy113; clear hy113; have H' := Qab.mk H; clear H; obtain ⟨Ao19, co19, eo19⟩ := Kd.R_slice HO_7.out; subst eo19; have p18 : 0 ≤ (x8_1 : Int) := of_decide_eq_true (by first | (with_reducible assumption) | assumption); have q18 : (x8_1 : Int) < ((x7_1.length : Int) : Int) := of_decide_eq_true (by first | (with_reducible assumption) | assumption); obtain ⟨go18, co18, eo18, gb18, gl18, cl18, HG18⟩ := Kd.R_form HO_7.out (by omega)
       (first | cases eo18 | (injection eo18 with ea_ en_ ec_; (first | subst ea_ | (injection ea_ with ea_; subst ea_)); subst ec_; clear en_))
       have GB18 := Qab.mk gb18; have GG18 := Qab.mk HG18; clear gb18 gl18 HG18; obtain ⟨ce18, hcl18, hM18, hcc18, hfr18⟩ := Kd.R_elem HO_7.out z26 (x8_1 : Int) p18 q18; obtain rfl := k26_openM hM18; have hx18_0 : wr.cell? ⟨go18, (x8_1 : Int).toNat * 2, none⟩ = some (.int .i64 ((QaA x7_1 x8_1).f0)) := hcc18 0 _ rfl; have hx18_1 : wr.cell? ⟨go18, (x8_1 : Int).toNat * 2 + 1, none⟩ = some (.int .i64 ((QaA x7_1 x8_1).f1)) := hcc18 1 _ rfl; have hf18_0 : wr.frozen? ⟨go18, (x8_1 : Int).toNat * 2, none⟩ = false := hfr18 0; have hf18_1 : wr.frozen? ⟨go18, (x8_1 : Int).toNat * 2 + 1, none⟩ = false := hfr18 1; clear hcl18 hcc18 hfr18 hM18; replace p18 := eq_true p18; replace q18 := eq_true q18; have HX20 := Qab.mk (show Kd.R k26 26 wr w.heap.size (fun _ => True) (.slice (some ⟨go18, 0, none⟩) x7_1.length co19) x7_1 from (by (with_reducible repeat (first | apply Kd.Qam | apply Kd.Qan | apply Kd.Qaq)); exact HO_7.out)); obtain ⟨ce20, hcl20, hM20, hcc20, hfr20⟩ := Kd.R_elem HX20.out z26 (x8_1 : Int) (of_decide_eq_true (by first | (with_reducible assumption) | assumption)) (by have h_ : (x8_1 : Int) < ((x7_1.length : Int) : Int) := of_decide_eq_true (by first | (with_reducible assumption) | assumption); first | exact h_ | (have e_ := (Kd.QaX HO_7.out).1; omega) | simpa using h_); obtain rfl := k26_openM hM20; have HP20 := Kd.R_seg HX20.out (x8_1 : Int) (of_decide_eq_true (by first | (with_reducible assumption) | assumption)) (by have h_ : (x8_1 : Int) < ((x7_1.length : Int) : Int) := of_decide_eq_true (by first | (with_reducible assumption) | assumption); first | exact h_ | (have e_ := (Kd.QaX HO_7.out).1; omega) | simpa using h_) (seg := [.int .i64 0, .int .i64 0]) (j := 0) hcl20 hcc20 (show 2 ≤ 2 from by decide) (x' := (⟨0, 0⟩ : S26)) (k26_mkM _ _ _ (⟨0, 0⟩ : S26) ) (fun _ hk => hk)
       have hx20_0 := hcc20 0 _ rfl
       (try simp only [show (k26).sz = 2 from rfl, Nat.mul_one, Nat.add_zero] at hx20_0)
       have hf20_0 := hfr20 0
       (try simp only [show (k26).sz = 2 from rfl, Nat.mul_one, Nat.add_zero] at hf20_0)
       have hx20_1 := hcc20 1 _ rfl
       (try simp only [show (k26).sz = 2 from rfl, Nat.mul_one, Nat.add_zero] at hx20_1)
       have hf20_1 := hfr20 1
       (try simp only [show (k26).sz = 2 from rfl, Nat.mul_one, Nat.add_zero] at hf20_1)
       clear hcl20 hcc20 hfr20 hM20
       go_wp2_with (first | ((with_reducible refine gate_store (t := 26) (p := 32) rfl ?_); refine store_event (t := 26) (p := 32) (v := ?vo_w21) (w1 := ((wr.setCell ⟨go18, (x8_1 : Int).toNat * 2, none⟩ (.int .i64 0)).setCell ⟨go18, (x8_1 : Int).toNat * 2 + 1, none⟩ (.int .i64 0))) ?hg ?ho ?hn ?hr ?_; (case ho => rfl); (case hg => rfl); (case hn => rfl); (case hr => first | (go_simp; done) | (go_simp; rfl)); intro w21 hw; have hg : wr.grownBy w21 (some go18) := (by rw [hw]; exact HP20.2); have hp_ : Kd.R k26 26 w21 w.heap.size (fun _ => True) (.slice (some ⟨go18, 0, none⟩) x7_1.length co19) y113 := (by rw [hw, Ny113.out]; exact HP20.1); clear HP20; have n0_ := Qab.mk (Kd.V_afterv (v := (.slice (some ⟨go18, 0, none⟩) x7_1.length co19)) (v1 := (.slice (some ⟨go18, 0, none⟩) x7_1.length co19)) (ok := (fun k_ => some k_ ≠ (v108 : Value).ownBlock ∧ k_ ≠ gb101)) (by (with_reducible repeat (first | apply Kd.QaO | apply Kd.QaN | apply Kd.Qa1)); exact Kd.V_mono HO_0.out (fun _ hk => ⟨⟨hk.1, hk.2.2⟩, hk.2.1⟩)) hg (.inl rfl)); have n1_ := Qab.mk (Kd.R_over' (v := (.slice (some ⟨go18, 0, none⟩) x7_1.length co19)) (by (with_reducible repeat (first | apply Kd.Qam | apply Kd.Qan | apply Kd.Qaq)); exact HO_6.out) (Kd.R_typed HO_7.out) (by decide) hg); have n2_ := Qab.mk (hp_); have n3_ := Qab.mk (blk_grown (g := gb101) (o := Qap a1_0 a1_1 a1_2 a1_3 a1_4 (.slice A1_5 l1_5.length c1_5) 29) (by (with_reducible repeat (first | refine Qag ?_ _ | refine Qai ?_ | refine Qae ?_ _)); exact BK101.out) hg (Kd.R_ne HO_7.out BK101.out (by decide))); have n4_ := Qab.mk ((by rw [hw]; exact Qah (Qah (HB.out) GB18.out) GB18.out : Below w.heap.size w w21)); clear HO_0; clear HO_6; clear HO_7; clear BK101; clear HB; have HO_0 := n0_; have HO_6 := n1_; have HO_7 := n2_; have BK101 := n3_; have HB := n4_; clear n0_ n1_ n2_ n3_ n4_; clear hg hw hp_))
       go_roundg k1
       case measure => have := HK1.out; omega
       case rel => exact ⟨(y113), (wrap64 (x8_1 + 1)), (by first | rfl | (simp; done) | (simp [*]; done)), H', ⟨by have := HK1.out; omega⟩, ⟨by (with_reducible repeat (first | apply Kd.QaO | apply Kd.QaN | apply Kd.Qa1)); exact Kd.V_mono HO_0.out (fun _ hk => ⟨hk.1.1, ⟨hk.2, hk.1.2⟩⟩)⟩, ⟨by (with_reducible repeat (first | apply Kd.Qam | apply Kd.Qan | apply Kd.Qaq)); exact HO_6.out⟩, ⟨by (with_reducible repeat (first | apply Kd.Qam | apply Kd.Qan | apply Kd.Qaq)); exact HO_7.out⟩, ⟨by (with_reducible repeat (first | refine Qag ?_ _ | refine Qai ?_ | refine Qae ?_ _)); exact BK101.out⟩, ⟨by repeat (first | (with_reducible first | exact HB.out | apply Qad | apply Qaa | apply Qac | refine Qah ?_ GE101.out) | exact HB.out)⟩⟩
      ·rw [if_neg c17] at H; exact absurd H (by simp)
     ·rw [if_neg c16] at H; have c16b0 : decide (x8_1 < (x7_1.length : Int)) = false := decide_eq_false c16; clear c16; replace H := Option.bind_eq_some_iff.mp H; obtain ⟨t114, A220, H⟩ := H; replace H : ((liveryref05_Same.f k1 y107 t102).bind fun t115 => ((QaQ.f a1_0 a1_1 a1_2 a1_3 a1_4 l1_5).bind fun t116 => ((liveryref07_Support.f k1 a1_0 a1_1 a1_2 a1_3 a1_4 l1_5).bind fun t119 => ((QaY.f k1 t116 t119).bind fun t122 => (if t115 = true then (if t122 = true then ((Qao.f k1).bind fun t123 => (some t123)) else (some false)) else (some false)))))) = some r := H; have A22 := Qab.mk A220; clear A220; replace H := Option.bind_eq_some_iff.mp H; obtain ⟨t115, A230, H⟩ := H; replace H : ((QaQ.f a1_0 a1_1 a1_2 a1_3 a1_4 l1_5).bind fun t116 => ((liveryref07_Support.f k1 a1_0 a1_1 a1_2 a1_3 a1_4 l1_5).bind fun t119 => ((QaY.f k1 t116 t119).bind fun t122 => (if t115 = true then (if t122 = true then ((Qao.f k1).bind fun t123 => (some t123)) else (some false)) else (some false))))) = some r := H; have A23 := Qab.mk A230; clear A230; replace H := Option.bind_eq_some_iff.mp H; obtain ⟨t116, A240, H⟩ := H; replace H : ((liveryref07_Support.f k1 a1_0 a1_1 a1_2 a1_3 a1_4 l1_5).bind fun t119 => ((QaY.f k1 t116 t119).bind fun t122 => (if t115 = true then (if t122 = true then ((Qao.f k1).bind fun t123 => (some t123)) else (some false)) else (some false)))) = some r := H; have A24 := Qab.mk A240
      clear A240; replace H := Option.bind_eq_some_iff.mp H; obtain ⟨t119, A250, H⟩ := H; replace H : ((QaY.f k1 t116 t119).bind fun t122 => (if t115 = true then (if t122 = true then ((Qao.f k1).bind fun t123 => (some t123)) else (some false)) else (some false))) = some r := H; have A25 := Qab.mk A250; clear A250; replace H := Option.bind_eq_some_iff.mp H; obtain ⟨t122, A260, H⟩ := H; replace H : (if t115 = true then (if t122 = true then ((Qao.f k1).bind fun t123 => (some t123)) else (some false)) else (some false)) = some r := H; have A26 := Qab.mk A260; clear A260
      by_cases c27 : t115 = true
      ·subst c27
       have H1 : (if t122 = true then ((Qao.f k1).bind fun t123 => (some t123)) else (some false)) = some r := by rw [if_pos rfl] at H; exact H
       clear H; have H := H1; clear H1
       by_cases c28 : t122 = true
       ·subst c28
        have H1 : ((Qao.f k1).bind fun t123 => (some t123)) = some r := by rw [if_pos rfl] at H; exact H
        clear H; have H := H1; clear H1; replace H := Option.bind_eq_some_iff.mp H; obtain ⟨t123, A290, H⟩ := H; replace H : (some t123) = some r := H; have A29 := Qab.mk A290; clear A290; obtain rfl := Option.some.inj H; obtain ⟨Ao30, co30, eo30⟩ := Kd.R_slice HO_7.out; subst eo30; have hcz31_0 : wr.cell? ⟨gb101, 0, none⟩ = some (.string a1_0) := (Qaj BK101.out 0).trans rfl; have hcz31_1 : wr.cell? ⟨gb101, 1, none⟩ = some (.string a1_1) := (Qaj BK101.out 1).trans rfl; have hcz31_2 : wr.cell? ⟨gb101, 2, none⟩ = some (.string a1_2) := (Qaj BK101.out 2).trans rfl; have hcz31_3 : wr.cell? ⟨gb101, 3, none⟩ = some (.int .i64 a1_3) := (Qaj BK101.out 3).trans rfl; have hcz31_4 : wr.cell? ⟨gb101, 4, none⟩ = some (.int .i64 a1_4) := (Qaj BK101.out 4).trans rfl; have hcz31_5 : wr.cell? ⟨gb101, 5, none⟩ = some (.slice A1_5 l1_5.length c1_5) := (Qaj BK101.out 5).trans rfl; obtain ⟨hfz31_0, hfz31_1, hfz31_2, hfz31_3, hfz31_4, hfz31_5⟩ := fz_6 BK101.out
        try go_wp2_with (first | ((with_reducible refine QaT (f := 11) rfl ?_); refine goesL_ (some 35) rfl rfl Tryd.func11 (by kernel_rfl) rfl #[.slice Ao13 t102.length co13, .agg #[.string a1_0, .string a1_1, .string a1_2, .int .i64 a1_3, .int .i64 a1_4, .slice A1_5 l1_5.length c1_5]] rfl (by (try simp only [List.map_toArray, List.map_cons, List.map_nil]); first | done | rfl | (simp only [List.length_drop, List.length_take]; rfl)) ?_; (with_reducible refine (QaB.calls _ _ t102 a1_0 a1_1 a1_2 a1_3 a1_4 _ _ l1_5 t114 _ ?side1 ?side2 ?side3 ?side4 A22.out).mono ?_); (case side1 => repeat (first | exact (Kd.Qbb HO_0.out).2.2 | (with_reducible refine Kd.QaF ?_ _) | (with_reducible refine Kd.QaH ?_ _) | (with_reducible refine Kd.QaW ?_))); (case side2 => exact (Kd.Qbb HO_0.out).2.1); (case side3 => repeat (first | exact (Kd.QaJ HR1_5.out HB.out) | (with_reducible refine Kd.QaF ?_ _) | (with_reducible refine Kd.QaH ?_ _) | (with_reducible refine Kd.QaW ?_))); (case side4 => exact HC1_5.out); rintro e w32 ⟨rfl, hb⟩; refine ⟨_, rfl, ?_⟩; have n0_ := Qab.mk (Kd.Qbf (by (with_reducible repeat (first | apply Kd.QaO | apply Kd.QaN | apply Kd.Qa1)); exact HO_0.out) hb); have n1_ := Qab.mk (Kd.QaL (by (with_reducible repeat (first | apply Kd.Qam | apply Kd.Qan | apply Kd.Qaq)); exact HO_6.out) hb); have n2_ := Qab.mk (Kd.QaL (by (with_reducible repeat (first | apply Kd.Qam | apply Kd.Qan | apply Kd.Qaq)); exact HO_7.out) hb); have n3_ := Qab.mk (Qal (g := gb101) (o := Qap a1_0 a1_1 a1_2 a1_3 a1_4 (.slice A1_5 l1_5.length c1_5) 29) (by (with_reducible repeat (first | refine Qag ?_ _ | refine Qai ?_ | refine Qae ?_ _)); exact BK101.out) hb); have n4_ := Qab.mk (Qak (by repeat (first | (with_reducible first | exact HB.out | apply Qad | apply Qaa | apply Qac | refine Qah ?_ GE101.out) | exact HB.out)) hb); clear HO_0; clear HO_6; clear HO_7; clear BK101; clear HB; have HO_0 := n0_; have HO_6 := n1_; have HO_7 := n2_; have BK101 := n3_; have HB := n4_; clear n0_ n1_ n2_ n3_ n4_; (try clear hb); (try clear hb2); (try clear hk); (try clear hi); obtain ⟨Ao33, co33, eo33⟩ := Kd.R_slice HO_6.out; subst eo33) | ((with_reducible refine QaT (f := 23) rfl ?_); refine goesL_ (some 38) rfl rfl Tryd.func23 (by kernel_rfl) rfl #[.slice Ao33 y107.length co33, .slice Ao13 t102.length co13] rfl (by (try simp only [List.map_toArray, List.map_cons, List.map_nil]); first | done | rfl | (simp only [List.length_drop, List.length_take]; rfl)) ?_; (with_reducible refine (liveryref05_Same.calls k1 _ _ y107 _ _ t102 true _ ?side1 ?side2 ?side3 ?side4 A23.out).mono ?_); (case side1 => repeat (first | exact (Kd.QaX HO_6.out).2.2 | (with_reducible refine Kd.QaF ?_ _) | (with_reducible refine Kd.QaH ?_ _) | (with_reducible refine Kd.QaW ?_))); (case side2 => exact (Kd.QaX HO_6.out).2.1); (case side3 => repeat (first | exact (Kd.Qbb HO_0.out).2.2 | (with_reducible refine Kd.QaF ?_ _) | (with_reducible refine Kd.QaH ?_ _) | (with_reducible refine Kd.QaW ?_))); (case side4 => exact (Kd.Qbb HO_0.out).2.1); rintro e w' ⟨rfl, ⟨nd, rfl⟩⟩; refine ⟨_, rfl, ?_⟩))
        (try (rw [drewN_self w32]; generalize hq_ : World.drewN w32 _ = w32; have n0_ : Qab (Kd.V k44 44 w32 w.heap.size (fun k_ => some k_ ≠ (.slice Ao33 y107.length co33 : Value).ownBlock ∧ some k_ ≠ (.slice Ao30 x7_1.length co30 : Value).ownBlock ∧ k_ ≠ gb101) (.slice Ao13 t102.length co13) t102) := ⟨by rw [← hq_]; exact (by (with_reducible repeat (first | apply Kd.QaO | apply Kd.QaN | apply Kd.Qa1)); exact HO_0.out)⟩; have n1_ : Qab (Kd.R k44 44 w32 w.heap.size (fun _ => True) (.slice Ao33 y107.length co33) y107) := ⟨by rw [← hq_]; exact (by (with_reducible repeat (first | apply Kd.Qam | apply Kd.Qan | apply Kd.Qaq)); exact HO_6.out)⟩; have n2_ : Qab (Kd.R k26 26 w32 w.heap.size (fun _ => True) (.slice Ao30 x7_1.length co30) x7_1) := ⟨by rw [← hq_]; exact (by (with_reducible repeat (first | apply Kd.Qam | apply Kd.Qan | apply Kd.Qaq)); exact HO_7.out)⟩; have n3_ : Qab (w32.heap[gb101]? = some (.cells #[.string a1_0, .string a1_1, .string a1_2, .int .i64 a1_3, .int .i64 a1_4, .slice A1_5 l1_5.length c1_5] 29 (0, 0))) := ⟨by rw [← hq_]; exact (by (with_reducible repeat (first | refine Qag ?_ _ | refine Qai ?_ | refine Qae ?_ _)); exact BK101.out)⟩; have n4_ : Qab (Below w.heap.size w w32) := ⟨by rw [← hq_]; exact (by repeat (first | (with_reducible first | exact HB.out | apply Qad | apply Qaa | apply Qac | refine Qah ?_ GE101.out) | exact HB.out))⟩; clear HO_0 HO_6 HO_7 BK101 HB hq_; have HO_0 := n0_; have HO_6 := n1_; have HO_7 := n2_; have BK101 := n3_; have HB := n4_; clear n0_ n1_ n2_ n3_ n4_))
        have n0_ := Qab.mk (Kd.Qa1 HO_0.out); have n1_ := Qab.mk (Kd.Qaq HO_6.out); have n2_ := Qab.mk (Kd.Qaq HO_7.out); have n3_ := Qab.mk (Qai BK101.out); have n4_ := Qab.mk (Qac HB.out); clear HO_0; clear HO_6; clear HO_7; clear BK101; clear HB; have HO_0 := n0_; have HO_6 := n1_; have HO_7 := n2_; have BK101 := n3_; have HB := n4_; clear n0_ n1_ n2_ n3_ n4_; refine start_ (n := 6) (S := fun w' => w'.cell? ⟨gb101, 0, none⟩ = some (.string a1_0) ∧ w'.cell? ⟨gb101, 1, none⟩ = some (.string a1_1) ∧ w'.cell? ⟨gb101, 2, none⟩ = some (.string a1_2) ∧ w'.cell? ⟨gb101, 3, none⟩ = some (.int .i64 a1_3) ∧ w'.cell? ⟨gb101, 4, none⟩ = some (.int .i64 a1_4) ∧ w'.cell? ⟨gb101, 5, none⟩ = some (.slice A1_5 l1_5.length c1_5)) (ds := []) #[ff,ff,ff,ff,ff,ff] (by kernel_rfl) rfl rfl ⟨(Qaj BK101.out 0).trans rfl, (Qaj BK101.out 1).trans rfl, (Qaj BK101.out 2).trans rfl, (Qaj BK101.out 3).trans rfl, (Qaj BK101.out 4).trans rfl, (Qaj BK101.out 5).trans rfl⟩ (fun hHeld => ?_)
        generalize w32.drew = w34 at HO_0 HO_6 HO_7 BK101 HB hHeld ⊢
        refine take_ (i := 0) (N := some 39) (v := ?_) (a' := ?_) #[tt,ff,ff,ff,ff,ff] rfl rfl (by kernel_rfl) (fun _ _ _ h => h) (Or.inl ⟨by rfl, ?_⟩) hHeld ?_ ?_; rotate_left
        ·rintro w' ⟨s0, s1, s2, s3, s4, s5⟩; go_simp; (with_reducible rfl)
        rotate_left
        ·simp only [Act.put, put_, QaG, QaI]; rfl
        refine take_ (i := 2) (N := some 41) (v := ?_) (a' := ?_) #[tt,ff,tt,ff,ff,ff] rfl rfl (by kernel_rfl) (fun _ _ _ h => h) (Or.inl ⟨by rfl, ?_⟩) hHeld ?_ ?_; rotate_left
        ·rintro w' ⟨s0, s1, s2, s3, s4, s5⟩; go_simp; (with_reducible rfl)
        rotate_left
        ·simp only [Act.put, put_, QaG, QaI]; rfl
        refine one_ (i := 1) (N := some 40) #[tt,tt,tt,ff,ff,ff] rfl rfl (by kernel_rfl) (by decide) (fun K hK => ?_); refine goes_ Tryd.func14 (by kernel_rfl) rfl #[.agg #[.string a1_0, .string a1_1, .string a1_2, .int .i64 a1_3, .int .i64 a1_4, .slice A1_5 l1_5.length c1_5]] (by rfl) rfl rfl (by (try simp only [List.map_toArray, List.map_cons, List.map_nil]); first | done | rfl | (simp only [List.length_drop, List.length_take]; rfl)) ?_
        with_reducible refine (QaQ.calls a1_0 a1_1 a1_2 a1_3 a1_4 _ _ l1_5 t116 _ ?side1 ?side2 A24.out).mono ?_
        (case side1 => repeat (first | exact (Kd.QaJ HR1_5.out HB.out) | (with_reducible refine Kd.QaF ?_ _) | (with_reducible refine Kd.QaH ?_ _) | (with_reducible refine Kd.QaW ?_)))
        (case side2 => exact HC1_5.out)
        rintro e w35 ⟨v117, rfl, ho0, hb⟩; refine ⟨_, rfl, ?_⟩; have n0_ := Qab.mk (Kd.V_elder' (by (with_reducible repeat (first | apply Kd.QaO | apply Kd.QaN | apply Kd.Qa1)); exact HO_0.out) (Kd.R_base ho0) hb); have n1_ := Qab.mk (Kd.QaL (by (with_reducible repeat (first | apply Kd.Qam | apply Kd.Qan | apply Kd.Qaq)); exact HO_6.out) hb); have n2_ := Qab.mk (Kd.R_elder' (by (with_reducible repeat (first | apply Kd.Qam | apply Kd.Qan | apply Kd.Qaq)); exact HO_7.out) (Kd.R_base ho0) hb); have n3_ := Qab.mk (Kd.R_lower (Kd.R_new' ho0 (Kd.R_lt (by (with_reducible repeat (first | apply Kd.Qam | apply Kd.Qan | apply Kd.Qaq)); exact HO_7.out))) (Qar (by repeat (first | (with_reducible first | exact HB.out | apply Qad | apply Qaa | apply Qac | refine Qah ?_ GE101.out) | exact HB.out)))); have n4_ := Qab.mk (Qal (g := gb101) (o := Qap a1_0 a1_1 a1_2 a1_3 a1_4 (.slice A1_5 l1_5.length c1_5) 29) (by (with_reducible repeat (first | refine Qag ?_ _ | refine Qai ?_ | refine Qae ?_ _)); exact BK101.out) hb); have n5_ := Qab.mk (Qak (by repeat (first | (with_reducible first | exact HB.out | apply Qad | apply Qaa | apply Qac | refine Qah ?_ GE101.out) | exact HB.out)) hb); clear HO_0; clear HO_6; clear HO_7; clear BK101; clear HB; have HO_0 := n0_; have HO_6 := n1_
        have HO_7 := n2_; have HO118 := n3_; have BK101 := n4_; have HB := n5_; clear n0_ n1_ n2_ n3_ n4_ n5_
        (try clear hb)
        (try clear hb2)
        (try clear hk)
        (try clear hi)
        (try clear ho0)
        refine hK.out _ _ ⟨(Qaj BK101.out 0).trans rfl, (Qaj BK101.out 1).trans rfl, (Qaj BK101.out 2).trans rfl, (Qaj BK101.out 3).trans rfl, (Qaj BK101.out 4).trans rfl, (Qaj BK101.out 5).trans rfl⟩ (fun hHeld => ?_); clear hK K; refine norm_ (a' := ?_) ?_ ?_; rotate_left
        ·show Act.put _ (some 40) _ = _
         simp only [Act.put, put_, QaG, QaI]; rfl
        refine one_ (i := 3) (N := some 42) #[tt,tt,tt,tt,ff,ff] rfl rfl (by kernel_rfl) (by decide) (fun K hK => ?_); refine goes_ Tryd.func15 (by kernel_rfl) rfl #[.agg #[.string a1_0, .string a1_1, .string a1_2, .int .i64 a1_3, .int .i64 a1_4, .slice A1_5 l1_5.length c1_5]] (by rfl) rfl rfl (by (try simp only [List.map_toArray, List.map_cons, List.map_nil]); first | done | rfl | (simp only [List.length_drop, List.length_take]; rfl)) ?_
        with_reducible refine (liveryref07_Support.calls k1 a1_0 a1_1 a1_2 a1_3 a1_4 _ _ l1_5 t119 _ ?side1 ?side2 A25.out).mono ?_
        (case side1 => repeat (first | exact (Kd.QaJ HR1_5.out HB.out) | (with_reducible refine Kd.QaF ?_ _) | (with_reducible refine Kd.QaH ?_ _) | (with_reducible refine Kd.QaW ?_)))
        (case side2 => exact HC1_5.out)
        rintro e w36 ⟨v120, rfl, ho0, hb⟩; refine ⟨_, rfl, ?_⟩; have n0_ := Qab.mk (Kd.V_elder' (by (with_reducible repeat (first | apply Kd.QaO | apply Kd.QaN | apply Kd.Qa1)); exact HO_0.out) (Kd.R_base ho0) hb); have n1_ := Qab.mk (Kd.QaL (by (with_reducible repeat (first | apply Kd.Qam | apply Kd.Qan | apply Kd.Qaq)); exact HO_6.out) hb); have n2_ := Qab.mk (Kd.R_elder' (by (with_reducible repeat (first | apply Kd.Qam | apply Kd.Qan | apply Kd.Qaq)); exact HO_7.out) (Kd.R_base ho0) hb); have n3_ := Qab.mk (Kd.R_elder' (by (with_reducible repeat (first | apply Kd.Qam | apply Kd.Qan | apply Kd.Qaq)); exact HO118.out) (Kd.R_base ho0) hb); have n4_ := Qab.mk (Kd.R_lower (Kd.R_new' (Kd.R_new' ho0 (Kd.R_lt (by (with_reducible repeat (first | apply Kd.Qam | apply Kd.Qan | apply Kd.Qaq)); exact HO_7.out))) (Kd.R_lt (by (with_reducible repeat (first | apply Kd.Qam | apply Kd.Qan | apply Kd.Qaq)); exact HO118.out))) (Qar (by repeat (first | (with_reducible first | exact HB.out | apply Qad | apply Qaa | apply Qac | refine Qah ?_ GE101.out) | exact HB.out)))); have n5_ := Qab.mk (Qal (g := gb101) (o := Qap a1_0 a1_1 a1_2 a1_3 a1_4 (.slice A1_5 l1_5.length c1_5) 29) (by (with_reducible repeat (first | refine Qag ?_ _ | refine Qai ?_ | refine Qae ?_ _)); exact BK101.out) hb); have n6_ := Qab.mk (Qak (by repeat (first | (with_reducible first | exact HB.out | apply Qad | apply Qaa | apply Qac | refine Qah ?_ GE101.out) | exact HB.out)) hb)
        clear HO_0; clear HO_6; clear HO_7; clear HO118; clear BK101; clear HB; have HO_0 := n0_; have HO_6 := n1_; have HO_7 := n2_; have HO118 := n3_; have HO121 := n4_; have BK101 := n5_; have HB := n6_; clear n0_ n1_ n2_ n3_ n4_ n5_ n6_
        (try clear hb)
        (try clear hb2)
        (try clear hk)
        (try clear hi)
        (try clear ho0)
        obtain ⟨Ao37, co37, eo37⟩ := Kd.R_slice HO118.out
        (first | subst eo37 | (injection eo37 with f1_ f2_ f3_; have f4_ := f1_.symm; have f5_ := f3_.symm; clear f1_ f2_ f3_; subst f4_; subst f5_))
        obtain ⟨Ao38, co38, eo38⟩ := Kd.R_slice HO121.out
        (first | subst eo38 | (injection eo38 with f1_ f2_ f3_; have f4_ := f1_.symm; have f5_ := f3_.symm; clear f1_ f2_ f3_; subst f4_; subst f5_))
        refine hK.out _ _ ⟨(Qaj BK101.out 0).trans rfl, (Qaj BK101.out 1).trans rfl, (Qaj BK101.out 2).trans rfl, (Qaj BK101.out 3).trans rfl, (Qaj BK101.out 4).trans rfl, (Qaj BK101.out 5).trans rfl⟩ (fun hHeld => ?_); clear hK K; refine norm_ (a' := ?_) ?_ ?_; rotate_left
        ·show Act.put _ (some 42) _ = _
         simp only [Act.put, put_, QaG, QaI]; rfl
        refine one_ (i := 4) (N := some 43) #[tt,tt,tt,tt,tt,ff] rfl rfl (by kernel_rfl) (by decide) (fun K hK => ?_); refine goes_ Tryd.func13 (by kernel_rfl) rfl #[.slice Ao37 t116.length co37, .slice Ao38 t119.length co38] (by rfl) rfl rfl (by (try simp only [List.map_toArray, List.map_cons, List.map_nil]); first | done | rfl | (simp only [List.length_drop, List.length_take]; rfl)) ?_
        with_reducible refine (QaY.calls k1 _ _ t116 _ _ t119 true _ ?side1 ?side2 ?side3 ?side4 A26.out).mono ?_
        (case side1 => repeat (first | exact (Kd.QaX HO118.out).2.2 | (with_reducible refine Kd.QaF ?_ _) | (with_reducible refine Kd.QaH ?_ _) | (with_reducible refine Kd.QaW ?_)))
        (case side2 => exact (Kd.QaX HO118.out).2.1)
        (case side3 => repeat (first | exact (Kd.QaX HO121.out).2.2 | (with_reducible refine Kd.QaF ?_ _) | (with_reducible refine Kd.QaH ?_ _) | (with_reducible refine Kd.QaW ?_)))
        (case side4 => exact (Kd.QaX HO121.out).2.1)
        rintro e w' ⟨rfl, ⟨nd, rfl⟩⟩; refine ⟨_, rfl, ?_⟩; refine hK.out _ _ ⟨(Qaj BK101.out 0).trans rfl, (Qaj BK101.out 1).trans rfl, (Qaj BK101.out 2).trans rfl, (Qaj BK101.out 3).trans rfl, (Qaj BK101.out 4).trans rfl, (Qaj BK101.out 5).trans rfl⟩ (fun hHeld => ?_); clear hK K; refine norm_ (a' := ?_) ?_ ?_; rotate_left
        ·show Act.put _ (some 43) _ = _
         simp only [Act.put, put_, QaG, QaI]; rfl
        refine Qa6 (i := 5) (N := some 10) (v := ?_) (a' := ?_) #[tt,tt,tt,tt,tt,tt] rfl rfl (by kernel_rfl) (fun _ _ _ h => h) (Or.inl ⟨by rfl, ?_⟩) ?_ ?_; rotate_left
        ·intro w'; go_simp; (with_reducible rfl)
        rotate_left
        ·simp only [Act.put, put_, QaG, QaI]; rfl
        refine done_ (by kernel_rfl) ?_
        try go_wp2_with (first | (go_at_call 10; (with_reducible refine (Qao.calls k1  t123 _ A29.out).mono ?_); rintro e w39 ⟨rfl, hb⟩; have n0_ := Qab.mk (Kd.Qbf (by (with_reducible repeat (first | apply Kd.QaO | apply Kd.QaN | apply Kd.Qa1)); exact HO_0.out) hb); have n1_ := Qab.mk (Kd.QaL (by (with_reducible repeat (first | apply Kd.Qam | apply Kd.Qan | apply Kd.Qaq)); exact HO_6.out) hb); have n2_ := Qab.mk (Kd.QaL (by (with_reducible repeat (first | apply Kd.Qam | apply Kd.Qan | apply Kd.Qaq)); exact HO_7.out) hb); have n3_ := Qab.mk (Kd.QaL (by (with_reducible repeat (first | apply Kd.Qam | apply Kd.Qan | apply Kd.Qaq)); exact HO118.out) hb); have n4_ := Qab.mk (Kd.QaL (by (with_reducible repeat (first | apply Kd.Qam | apply Kd.Qan | apply Kd.Qaq)); exact HO121.out) hb); have n5_ := Qab.mk (Qal (g := gb101) (o := Qap a1_0 a1_1 a1_2 a1_3 a1_4 (.slice A1_5 l1_5.length c1_5) 29) (by (with_reducible repeat (first | refine Qag ?_ _ | refine Qai ?_ | refine Qae ?_ _)); exact BK101.out) hb); have n6_ := Qab.mk (Qak (by repeat (first | (with_reducible first | exact HB.out | apply Qad | apply Qaa | apply Qac | refine Qah ?_ GE101.out) | exact HB.out)) hb); clear HO_0; clear HO_6; clear HO_7; clear HO118; clear HO121; clear BK101; clear HB; have HO_0 := n0_; have HO_6 := n1_; have HO_7 := n2_; have HO118 := n3_; have HO121 := n4_; have BK101 := n5_; have HB := n6_; clear n0_ n1_ n2_ n3_ n4_ n5_ n6_; (try clear hb); (try clear hb2); (try clear hk); (try clear hi)))
        go_ret; exact ⟨by first | rfl | (simp [Qax, Qaw] <;> rfl) | (simp [*, Qax, Qaw] <;> rfl), by repeat (first | (with_reducible first | exact HB.out | apply Qad | apply Qaa | apply Qac | refine Qah ?_ GE101.out) | exact HB.out)⟩
       ·replace c28 := Bool.eq_false_iff.mpr c28; subst c28
        have H1 : (some false) = some r := by rw [if_neg (show ¬ (false = true) by decide)] at H; exact H
        clear H; have H := H1; clear H1; obtain rfl := Option.some.inj H; obtain ⟨Ao40, co40, eo40⟩ := Kd.R_slice HO_7.out; subst eo40; have hcz41_0 : wr.cell? ⟨gb101, 0, none⟩ = some (.string a1_0) := (Qaj BK101.out 0).trans rfl; have hcz41_1 : wr.cell? ⟨gb101, 1, none⟩ = some (.string a1_1) := (Qaj BK101.out 1).trans rfl; have hcz41_2 : wr.cell? ⟨gb101, 2, none⟩ = some (.string a1_2) := (Qaj BK101.out 2).trans rfl; have hcz41_3 : wr.cell? ⟨gb101, 3, none⟩ = some (.int .i64 a1_3) := (Qaj BK101.out 3).trans rfl; have hcz41_4 : wr.cell? ⟨gb101, 4, none⟩ = some (.int .i64 a1_4) := (Qaj BK101.out 4).trans rfl; have hcz41_5 : wr.cell? ⟨gb101, 5, none⟩ = some (.slice A1_5 l1_5.length c1_5) := (Qaj BK101.out 5).trans rfl; obtain ⟨hfz41_0, hfz41_1, hfz41_2, hfz41_3, hfz41_4, hfz41_5⟩ := fz_6 BK101.out
        try go_wp2_with (first | ((with_reducible refine QaT (f := 11) rfl ?_); refine goesL_ (some 35) rfl rfl Tryd.func11 (by kernel_rfl) rfl #[.slice Ao13 t102.length co13, .agg #[.string a1_0, .string a1_1, .string a1_2, .int .i64 a1_3, .int .i64 a1_4, .slice A1_5 l1_5.length c1_5]] rfl (by (try simp only [List.map_toArray, List.map_cons, List.map_nil]); first | done | rfl | (simp only [List.length_drop, List.length_take]; rfl)) ?_; (with_reducible refine (QaB.calls _ _ t102 a1_0 a1_1 a1_2 a1_3 a1_4 _ _ l1_5 t114 _ ?side1 ?side2 ?side3 ?side4 A22.out).mono ?_); (case side1 => repeat (first | exact (Kd.Qbb HO_0.out).2.2 | (with_reducible refine Kd.QaF ?_ _) | (with_reducible refine Kd.QaH ?_ _) | (with_reducible refine Kd.QaW ?_))); (case side2 => exact (Kd.Qbb HO_0.out).2.1); (case side3 => repeat (first | exact (Kd.QaJ HR1_5.out HB.out) | (with_reducible refine Kd.QaF ?_ _) | (with_reducible refine Kd.QaH ?_ _) | (with_reducible refine Kd.QaW ?_))); (case side4 => exact HC1_5.out); rintro e w42 ⟨rfl, hb⟩; refine ⟨_, rfl, ?_⟩; have n0_ := Qab.mk (Kd.Qbf (by (with_reducible repeat (first | apply Kd.QaO | apply Kd.QaN | apply Kd.Qa1)); exact HO_0.out) hb); have n1_ := Qab.mk (Kd.QaL (by (with_reducible repeat (first | apply Kd.Qam | apply Kd.Qan | apply Kd.Qaq)); exact HO_6.out) hb); have n2_ := Qab.mk (Kd.QaL (by (with_reducible repeat (first | apply Kd.Qam | apply Kd.Qan | apply Kd.Qaq)); exact HO_7.out) hb); have n3_ := Qab.mk (Qal (g := gb101) (o := Qap a1_0 a1_1 a1_2 a1_3 a1_4 (.slice A1_5 l1_5.length c1_5) 29) (by (with_reducible repeat (first | refine Qag ?_ _ | refine Qai ?_ | refine Qae ?_ _)); exact BK101.out) hb); have n4_ := Qab.mk (Qak (by repeat (first | (with_reducible first | exact HB.out | apply Qad | apply Qaa | apply Qac | refine Qah ?_ GE101.out) | exact HB.out)) hb); clear HO_0; clear HO_6; clear HO_7; clear BK101; clear HB; have HO_0 := n0_; have HO_6 := n1_; have HO_7 := n2_; have BK101 := n3_; have HB := n4_; clear n0_ n1_ n2_ n3_ n4_; (try clear hb); (try clear hb2); (try clear hk); (try clear hi); obtain ⟨Ao43, co43, eo43⟩ := Kd.R_slice HO_6.out; subst eo43) | ((with_reducible refine QaT (f := 23) rfl ?_); refine goesL_ (some 38) rfl rfl Tryd.func23 (by kernel_rfl) rfl #[.slice Ao43 y107.length co43, .slice Ao13 t102.length co13] rfl (by (try simp only [List.map_toArray, List.map_cons, List.map_nil]); first | done | rfl | (simp only [List.length_drop, List.length_take]; rfl)) ?_; (with_reducible refine (liveryref05_Same.calls k1 _ _ y107 _ _ t102 true _ ?side1 ?side2 ?side3 ?side4 A23.out).mono ?_); (case side1 => repeat (first | exact (Kd.QaX HO_6.out).2.2 | (with_reducible refine Kd.QaF ?_ _) | (with_reducible refine Kd.QaH ?_ _) | (with_reducible refine Kd.QaW ?_))); (case side2 => exact (Kd.QaX HO_6.out).2.1); (case side3 => repeat (first | exact (Kd.Qbb HO_0.out).2.2 | (with_reducible refine Kd.QaF ?_ _) | (with_reducible refine Kd.QaH ?_ _) | (with_reducible refine Kd.QaW ?_))); (case side4 => exact (Kd.Qbb HO_0.out).2.1); rintro e w' ⟨rfl, ⟨nd, rfl⟩⟩; refine ⟨_, rfl, ?_⟩))
        (try (rw [drewN_self w42]; generalize hq_ : World.drewN w42 _ = w42; have n0_ : Qab (Kd.V k44 44 w42 w.heap.size (fun k_ => some k_ ≠ (.slice Ao43 y107.length co43 : Value).ownBlock ∧ some k_ ≠ (.slice Ao40 x7_1.length co40 : Value).ownBlock ∧ k_ ≠ gb101) (.slice Ao13 t102.length co13) t102) := ⟨by rw [← hq_]; exact (by (with_reducible repeat (first | apply Kd.QaO | apply Kd.QaN | apply Kd.Qa1)); exact HO_0.out)⟩; have n1_ : Qab (Kd.R k44 44 w42 w.heap.size (fun _ => True) (.slice Ao43 y107.length co43) y107) := ⟨by rw [← hq_]; exact (by (with_reducible repeat (first | apply Kd.Qam | apply Kd.Qan | apply Kd.Qaq)); exact HO_6.out)⟩; have n2_ : Qab (Kd.R k26 26 w42 w.heap.size (fun _ => True) (.slice Ao40 x7_1.length co40) x7_1) := ⟨by rw [← hq_]; exact (by (with_reducible repeat (first | apply Kd.Qam | apply Kd.Qan | apply Kd.Qaq)); exact HO_7.out)⟩; have n3_ : Qab (w42.heap[gb101]? = some (.cells #[.string a1_0, .string a1_1, .string a1_2, .int .i64 a1_3, .int .i64 a1_4, .slice A1_5 l1_5.length c1_5] 29 (0, 0))) := ⟨by rw [← hq_]; exact (by (with_reducible repeat (first | refine Qag ?_ _ | refine Qai ?_ | refine Qae ?_ _)); exact BK101.out)⟩; have n4_ : Qab (Below w.heap.size w w42) := ⟨by rw [← hq_]; exact (by repeat (first | (with_reducible first | exact HB.out | apply Qad | apply Qaa | apply Qac | refine Qah ?_ GE101.out) | exact HB.out))⟩; clear HO_0 HO_6 HO_7 BK101 HB hq_; have HO_0 := n0_; have HO_6 := n1_; have HO_7 := n2_; have BK101 := n3_; have HB := n4_; clear n0_ n1_ n2_ n3_ n4_))
        have n0_ := Qab.mk (Kd.Qa1 HO_0.out); have n1_ := Qab.mk (Kd.Qaq HO_6.out); have n2_ := Qab.mk (Kd.Qaq HO_7.out); have n3_ := Qab.mk (Qai BK101.out); have n4_ := Qab.mk (Qac HB.out); clear HO_0; clear HO_6; clear HO_7; clear BK101; clear HB; have HO_0 := n0_; have HO_6 := n1_; have HO_7 := n2_; have BK101 := n3_; have HB := n4_; clear n0_ n1_ n2_ n3_ n4_; refine start_ (n := 6) (S := fun w' => w'.cell? ⟨gb101, 0, none⟩ = some (.string a1_0) ∧ w'.cell? ⟨gb101, 1, none⟩ = some (.string a1_1) ∧ w'.cell? ⟨gb101, 2, none⟩ = some (.string a1_2) ∧ w'.cell? ⟨gb101, 3, none⟩ = some (.int .i64 a1_3) ∧ w'.cell? ⟨gb101, 4, none⟩ = some (.int .i64 a1_4) ∧ w'.cell? ⟨gb101, 5, none⟩ = some (.slice A1_5 l1_5.length c1_5)) (ds := []) #[ff,ff,ff,ff,ff,ff] (by kernel_rfl) rfl rfl ⟨(Qaj BK101.out 0).trans rfl, (Qaj BK101.out 1).trans rfl, (Qaj BK101.out 2).trans rfl, (Qaj BK101.out 3).trans rfl, (Qaj BK101.out 4).trans rfl, (Qaj BK101.out 5).trans rfl⟩ (fun hHeld => ?_)
        generalize w42.drew = w44 at HO_0 HO_6 HO_7 BK101 HB hHeld ⊢
        refine take_ (i := 0) (N := some 39) (v := ?_) (a' := ?_) #[tt,ff,ff,ff,ff,ff] rfl rfl (by kernel_rfl) (fun _ _ _ h => h) (Or.inl ⟨by rfl, ?_⟩) hHeld ?_ ?_; rotate_left
        ·rintro w' ⟨s0, s1, s2, s3, s4, s5⟩; go_simp; (with_reducible rfl)
        rotate_left
        ·simp only [Act.put, put_, QaG, QaI]; rfl
        refine take_ (i := 2) (N := some 41) (v := ?_) (a' := ?_) #[tt,ff,tt,ff,ff,ff] rfl rfl (by kernel_rfl) (fun _ _ _ h => h) (Or.inl ⟨by rfl, ?_⟩) hHeld ?_ ?_; rotate_left
        ·rintro w' ⟨s0, s1, s2, s3, s4, s5⟩; go_simp; (with_reducible rfl)
        rotate_left
        ·simp only [Act.put, put_, QaG, QaI]; rfl
        refine one_ (i := 1) (N := some 40) #[tt,tt,tt,ff,ff,ff] rfl rfl (by kernel_rfl) (by decide) (fun K hK => ?_); refine goes_ Tryd.func14 (by kernel_rfl) rfl #[.agg #[.string a1_0, .string a1_1, .string a1_2, .int .i64 a1_3, .int .i64 a1_4, .slice A1_5 l1_5.length c1_5]] (by rfl) rfl rfl (by (try simp only [List.map_toArray, List.map_cons, List.map_nil]); first | done | rfl | (simp only [List.length_drop, List.length_take]; rfl)) ?_
        with_reducible refine (QaQ.calls a1_0 a1_1 a1_2 a1_3 a1_4 _ _ l1_5 t116 _ ?side1 ?side2 A24.out).mono ?_
        (case side1 => repeat (first | exact (Kd.QaJ HR1_5.out HB.out) | (with_reducible refine Kd.QaF ?_ _) | (with_reducible refine Kd.QaH ?_ _) | (with_reducible refine Kd.QaW ?_)))
        (case side2 => exact HC1_5.out)
        rintro e w45 ⟨v117, rfl, ho0, hb⟩; refine ⟨_, rfl, ?_⟩; have n0_ := Qab.mk (Kd.V_elder' (by (with_reducible repeat (first | apply Kd.QaO | apply Kd.QaN | apply Kd.Qa1)); exact HO_0.out) (Kd.R_base ho0) hb); have n1_ := Qab.mk (Kd.QaL (by (with_reducible repeat (first | apply Kd.Qam | apply Kd.Qan | apply Kd.Qaq)); exact HO_6.out) hb); have n2_ := Qab.mk (Kd.R_elder' (by (with_reducible repeat (first | apply Kd.Qam | apply Kd.Qan | apply Kd.Qaq)); exact HO_7.out) (Kd.R_base ho0) hb); have n3_ := Qab.mk (Kd.R_lower (Kd.R_new' ho0 (Kd.R_lt (by (with_reducible repeat (first | apply Kd.Qam | apply Kd.Qan | apply Kd.Qaq)); exact HO_7.out))) (Qar (by repeat (first | (with_reducible first | exact HB.out | apply Qad | apply Qaa | apply Qac | refine Qah ?_ GE101.out) | exact HB.out)))); have n4_ := Qab.mk (Qal (g := gb101) (o := Qap a1_0 a1_1 a1_2 a1_3 a1_4 (.slice A1_5 l1_5.length c1_5) 29) (by (with_reducible repeat (first | refine Qag ?_ _ | refine Qai ?_ | refine Qae ?_ _)); exact BK101.out) hb); have n5_ := Qab.mk (Qak (by repeat (first | (with_reducible first | exact HB.out | apply Qad | apply Qaa | apply Qac | refine Qah ?_ GE101.out) | exact HB.out)) hb); clear HO_0; clear HO_6; clear HO_7; clear BK101; clear HB; have HO_0 := n0_; have HO_6 := n1_
        have HO_7 := n2_; have HO118 := n3_; have BK101 := n4_; have HB := n5_; clear n0_ n1_ n2_ n3_ n4_ n5_
        (try clear hb)
        (try clear hb2)
        (try clear hk)
        (try clear hi)
        (try clear ho0)
        refine hK.out _ _ ⟨(Qaj BK101.out 0).trans rfl, (Qaj BK101.out 1).trans rfl, (Qaj BK101.out 2).trans rfl, (Qaj BK101.out 3).trans rfl, (Qaj BK101.out 4).trans rfl, (Qaj BK101.out 5).trans rfl⟩ (fun hHeld => ?_); clear hK K; refine norm_ (a' := ?_) ?_ ?_; rotate_left
        ·show Act.put _ (some 40) _ = _
         simp only [Act.put, put_, QaG, QaI]; rfl
        refine one_ (i := 3) (N := some 42) #[tt,tt,tt,tt,ff,ff] rfl rfl (by kernel_rfl) (by decide) (fun K hK => ?_); refine goes_ Tryd.func15 (by kernel_rfl) rfl #[.agg #[.string a1_0, .string a1_1, .string a1_2, .int .i64 a1_3, .int .i64 a1_4, .slice A1_5 l1_5.length c1_5]] (by rfl) rfl rfl (by (try simp only [List.map_toArray, List.map_cons, List.map_nil]); first | done | rfl | (simp only [List.length_drop, List.length_take]; rfl)) ?_
        with_reducible refine (liveryref07_Support.calls k1 a1_0 a1_1 a1_2 a1_3 a1_4 _ _ l1_5 t119 _ ?side1 ?side2 A25.out).mono ?_
        (case side1 => repeat (first | exact (Kd.QaJ HR1_5.out HB.out) | (with_reducible refine Kd.QaF ?_ _) | (with_reducible refine Kd.QaH ?_ _) | (with_reducible refine Kd.QaW ?_)))
        (case side2 => exact HC1_5.out)
        rintro e w46 ⟨v120, rfl, ho0, hb⟩; refine ⟨_, rfl, ?_⟩; have n0_ := Qab.mk (Kd.V_elder' (by (with_reducible repeat (first | apply Kd.QaO | apply Kd.QaN | apply Kd.Qa1)); exact HO_0.out) (Kd.R_base ho0) hb); have n1_ := Qab.mk (Kd.QaL (by (with_reducible repeat (first | apply Kd.Qam | apply Kd.Qan | apply Kd.Qaq)); exact HO_6.out) hb); have n2_ := Qab.mk (Kd.R_elder' (by (with_reducible repeat (first | apply Kd.Qam | apply Kd.Qan | apply Kd.Qaq)); exact HO_7.out) (Kd.R_base ho0) hb); have n3_ := Qab.mk (Kd.R_elder' (by (with_reducible repeat (first | apply Kd.Qam | apply Kd.Qan | apply Kd.Qaq)); exact HO118.out) (Kd.R_base ho0) hb); have n4_ := Qab.mk (Kd.R_lower (Kd.R_new' (Kd.R_new' ho0 (Kd.R_lt (by (with_reducible repeat (first | apply Kd.Qam | apply Kd.Qan | apply Kd.Qaq)); exact HO_7.out))) (Kd.R_lt (by (with_reducible repeat (first | apply Kd.Qam | apply Kd.Qan | apply Kd.Qaq)); exact HO118.out))) (Qar (by repeat (first | (with_reducible first | exact HB.out | apply Qad | apply Qaa | apply Qac | refine Qah ?_ GE101.out) | exact HB.out)))); have n5_ := Qab.mk (Qal (g := gb101) (o := Qap a1_0 a1_1 a1_2 a1_3 a1_4 (.slice A1_5 l1_5.length c1_5) 29) (by (with_reducible repeat (first | refine Qag ?_ _ | refine Qai ?_ | refine Qae ?_ _)); exact BK101.out) hb); have n6_ := Qab.mk (Qak (by repeat (first | (with_reducible first | exact HB.out | apply Qad | apply Qaa | apply Qac | refine Qah ?_ GE101.out) | exact HB.out)) hb)
        clear HO_0; clear HO_6; clear HO_7; clear HO118; clear BK101; clear HB; have HO_0 := n0_; have HO_6 := n1_; have HO_7 := n2_; have HO118 := n3_; have HO121 := n4_; have BK101 := n5_; have HB := n6_; clear n0_ n1_ n2_ n3_ n4_ n5_ n6_
        (try clear hb)
        (try clear hb2)
        (try clear hk)
        (try clear hi)
        (try clear ho0)
        obtain ⟨Ao47, co47, eo47⟩ := Kd.R_slice HO118.out
        (first | subst eo47 | (injection eo47 with f1_ f2_ f3_; have f4_ := f1_.symm; have f5_ := f3_.symm; clear f1_ f2_ f3_; subst f4_; subst f5_))
        obtain ⟨Ao48, co48, eo48⟩ := Kd.R_slice HO121.out
        (first | subst eo48 | (injection eo48 with f1_ f2_ f3_; have f4_ := f1_.symm; have f5_ := f3_.symm; clear f1_ f2_ f3_; subst f4_; subst f5_))
        refine hK.out _ _ ⟨(Qaj BK101.out 0).trans rfl, (Qaj BK101.out 1).trans rfl, (Qaj BK101.out 2).trans rfl, (Qaj BK101.out 3).trans rfl, (Qaj BK101.out 4).trans rfl, (Qaj BK101.out 5).trans rfl⟩ (fun hHeld => ?_); clear hK K; refine norm_ (a' := ?_) ?_ ?_; rotate_left
        ·show Act.put _ (some 42) _ = _
         simp only [Act.put, put_, QaG, QaI]; rfl
        refine one_ (i := 4) (N := some 43) #[tt,tt,tt,tt,tt,ff] rfl rfl (by kernel_rfl) (by decide) (fun K hK => ?_); refine goes_ Tryd.func13 (by kernel_rfl) rfl #[.slice Ao47 t116.length co47, .slice Ao48 t119.length co48] (by rfl) rfl rfl (by (try simp only [List.map_toArray, List.map_cons, List.map_nil]); first | done | rfl | (simp only [List.length_drop, List.length_take]; rfl)) ?_
        with_reducible refine (QaY.calls k1 _ _ t116 _ _ t119 false _ ?side1 ?side2 ?side3 ?side4 A26.out).mono ?_
        (case side1 => repeat (first | exact (Kd.QaX HO118.out).2.2 | (with_reducible refine Kd.QaF ?_ _) | (with_reducible refine Kd.QaH ?_ _) | (with_reducible refine Kd.QaW ?_)))
        (case side2 => exact (Kd.QaX HO118.out).2.1)
        (case side3 => repeat (first | exact (Kd.QaX HO121.out).2.2 | (with_reducible refine Kd.QaF ?_ _) | (with_reducible refine Kd.QaH ?_ _) | (with_reducible refine Kd.QaW ?_)))
        (case side4 => exact (Kd.QaX HO121.out).2.1)
        rintro e w' ⟨rfl, ⟨nd, rfl⟩⟩; refine ⟨_, rfl, ?_⟩; refine hK.out _ _ ⟨(Qaj BK101.out 0).trans rfl, (Qaj BK101.out 1).trans rfl, (Qaj BK101.out 2).trans rfl, (Qaj BK101.out 3).trans rfl, (Qaj BK101.out 4).trans rfl, (Qaj BK101.out 5).trans rfl⟩ (fun hHeld => ?_); clear hK K; refine norm_ (a' := ?_) ?_ ?_; rotate_left
        ·show Act.put _ (some 43) _ = _
         simp only [Act.put, put_, QaG, QaI]; rfl
        refine Qa6 (i := 5) (N := some 10) (v := ?_) (a' := ?_) #[tt,tt,tt,tt,tt,tt] rfl rfl (by kernel_rfl) (fun _ _ _ h => h) (Or.inl ⟨by rfl, ?_⟩) ?_ ?_; rotate_left
        ·intro w'; go_simp; (with_reducible rfl)
        rotate_left
        ·simp only [Act.put, put_, QaG, QaI]; rfl
        refine done_ (by kernel_rfl) ?_
        try go_wp2
        go_ret; exact ⟨by first | rfl | (simp [Qax, Qaw] <;> rfl) | (simp [*, Qax, Qaw] <;> rfl), by repeat (first | (with_reducible first | exact HB.out | apply Qad | apply Qaa | apply Qac | refine Qah ?_ GE101.out) | exact HB.out)⟩
      ·replace c27 := Bool.eq_false_iff.mpr c27; subst c27
       have H1 : (some false) = some r := by rw [if_neg (show ¬ (false = true) by decide)] at H; exact H
       clear H; have H := H1; clear H1; obtain rfl := Option.some.inj H; obtain ⟨Ao49, co49, eo49⟩ := Kd.R_slice HO_7.out; subst eo49; have hcz50_0 : wr.cell? ⟨gb101, 0, none⟩ = some (.string a1_0) := (Qaj BK101.out 0).trans rfl; have hcz50_1 : wr.cell? ⟨gb101, 1, none⟩ = some (.string a1_1) := (Qaj BK101.out 1).trans rfl; have hcz50_2 : wr.cell? ⟨gb101, 2, none⟩ = some (.string a1_2) := (Qaj BK101.out 2).trans rfl; have hcz50_3 : wr.cell? ⟨gb101, 3, none⟩ = some (.int .i64 a1_3) := (Qaj BK101.out 3).trans rfl; have hcz50_4 : wr.cell? ⟨gb101, 4, none⟩ = some (.int .i64 a1_4) := (Qaj BK101.out 4).trans rfl; have hcz50_5 : wr.cell? ⟨gb101, 5, none⟩ = some (.slice A1_5 l1_5.length c1_5) := (Qaj BK101.out 5).trans rfl; obtain ⟨hfz50_0, hfz50_1, hfz50_2, hfz50_3, hfz50_4, hfz50_5⟩ := fz_6 BK101.out
       try go_wp2_with (first | ((with_reducible refine QaT (f := 11) rfl ?_); refine goesL_ (some 35) rfl rfl Tryd.func11 (by kernel_rfl) rfl #[.slice Ao13 t102.length co13, .agg #[.string a1_0, .string a1_1, .string a1_2, .int .i64 a1_3, .int .i64 a1_4, .slice A1_5 l1_5.length c1_5]] rfl (by (try simp only [List.map_toArray, List.map_cons, List.map_nil]); first | done | rfl | (simp only [List.length_drop, List.length_take]; rfl)) ?_; (with_reducible refine (QaB.calls _ _ t102 a1_0 a1_1 a1_2 a1_3 a1_4 _ _ l1_5 t114 _ ?side1 ?side2 ?side3 ?side4 A22.out).mono ?_); (case side1 => repeat (first | exact (Kd.Qbb HO_0.out).2.2 | (with_reducible refine Kd.QaF ?_ _) | (with_reducible refine Kd.QaH ?_ _) | (with_reducible refine Kd.QaW ?_))); (case side2 => exact (Kd.Qbb HO_0.out).2.1); (case side3 => repeat (first | exact (Kd.QaJ HR1_5.out HB.out) | (with_reducible refine Kd.QaF ?_ _) | (with_reducible refine Kd.QaH ?_ _) | (with_reducible refine Kd.QaW ?_))); (case side4 => exact HC1_5.out); rintro e w51 ⟨rfl, hb⟩; refine ⟨_, rfl, ?_⟩; have n0_ := Qab.mk (Kd.Qbf (by (with_reducible repeat (first | apply Kd.QaO | apply Kd.QaN | apply Kd.Qa1)); exact HO_0.out) hb); have n1_ := Qab.mk (Kd.QaL (by (with_reducible repeat (first | apply Kd.Qam | apply Kd.Qan | apply Kd.Qaq)); exact HO_6.out) hb); have n2_ := Qab.mk (Kd.QaL (by (with_reducible repeat (first | apply Kd.Qam | apply Kd.Qan | apply Kd.Qaq)); exact HO_7.out) hb); have n3_ := Qab.mk (Qal (g := gb101) (o := Qap a1_0 a1_1 a1_2 a1_3 a1_4 (.slice A1_5 l1_5.length c1_5) 29) (by (with_reducible repeat (first | refine Qag ?_ _ | refine Qai ?_ | refine Qae ?_ _)); exact BK101.out) hb); have n4_ := Qab.mk (Qak (by repeat (first | (with_reducible first | exact HB.out | apply Qad | apply Qaa | apply Qac | refine Qah ?_ GE101.out) | exact HB.out)) hb); clear HO_0; clear HO_6; clear HO_7; clear BK101; clear HB; have HO_0 := n0_; have HO_6 := n1_; have HO_7 := n2_; have BK101 := n3_; have HB := n4_; clear n0_ n1_ n2_ n3_ n4_; (try clear hb); (try clear hb2); (try clear hk); (try clear hi); obtain ⟨Ao52, co52, eo52⟩ := Kd.R_slice HO_6.out; subst eo52) | ((with_reducible refine QaT (f := 23) rfl ?_); refine goesL_ (some 38) rfl rfl Tryd.func23 (by kernel_rfl) rfl #[.slice Ao52 y107.length co52, .slice Ao13 t102.length co13] rfl (by (try simp only [List.map_toArray, List.map_cons, List.map_nil]); first | done | rfl | (simp only [List.length_drop, List.length_take]; rfl)) ?_; (with_reducible refine (liveryref05_Same.calls k1 _ _ y107 _ _ t102 false _ ?side1 ?side2 ?side3 ?side4 A23.out).mono ?_); (case side1 => repeat (first | exact (Kd.QaX HO_6.out).2.2 | (with_reducible refine Kd.QaF ?_ _) | (with_reducible refine Kd.QaH ?_ _) | (with_reducible refine Kd.QaW ?_))); (case side2 => exact (Kd.QaX HO_6.out).2.1); (case side3 => repeat (first | exact (Kd.Qbb HO_0.out).2.2 | (with_reducible refine Kd.QaF ?_ _) | (with_reducible refine Kd.QaH ?_ _) | (with_reducible refine Kd.QaW ?_))); (case side4 => exact (Kd.Qbb HO_0.out).2.1); rintro e w' ⟨rfl, ⟨nd, rfl⟩⟩; refine ⟨_, rfl, ?_⟩))
       (try (rw [drewN_self w51]; generalize hq_ : World.drewN w51 _ = w51; have n0_ : Qab (Kd.V k44 44 w51 w.heap.size (fun k_ => some k_ ≠ (.slice Ao52 y107.length co52 : Value).ownBlock ∧ some k_ ≠ (.slice Ao49 x7_1.length co49 : Value).ownBlock ∧ k_ ≠ gb101) (.slice Ao13 t102.length co13) t102) := ⟨by rw [← hq_]; exact (by (with_reducible repeat (first | apply Kd.QaO | apply Kd.QaN | apply Kd.Qa1)); exact HO_0.out)⟩; have n1_ : Qab (Kd.R k44 44 w51 w.heap.size (fun _ => True) (.slice Ao52 y107.length co52) y107) := ⟨by rw [← hq_]; exact (by (with_reducible repeat (first | apply Kd.Qam | apply Kd.Qan | apply Kd.Qaq)); exact HO_6.out)⟩; have n2_ : Qab (Kd.R k26 26 w51 w.heap.size (fun _ => True) (.slice Ao49 x7_1.length co49) x7_1) := ⟨by rw [← hq_]; exact (by (with_reducible repeat (first | apply Kd.Qam | apply Kd.Qan | apply Kd.Qaq)); exact HO_7.out)⟩; have n3_ : Qab (w51.heap[gb101]? = some (.cells #[.string a1_0, .string a1_1, .string a1_2, .int .i64 a1_3, .int .i64 a1_4, .slice A1_5 l1_5.length c1_5] 29 (0, 0))) := ⟨by rw [← hq_]; exact (by (with_reducible repeat (first | refine Qag ?_ _ | refine Qai ?_ | refine Qae ?_ _)); exact BK101.out)⟩; have n4_ : Qab (Below w.heap.size w w51) := ⟨by rw [← hq_]; exact (by repeat (first | (with_reducible first | exact HB.out | apply Qad | apply Qaa | apply Qac | refine Qah ?_ GE101.out) | exact HB.out))⟩; clear HO_0 HO_6 HO_7 BK101 HB hq_; have HO_0 := n0_; have HO_6 := n1_; have HO_7 := n2_; have BK101 := n3_; have HB := n4_; clear n0_ n1_ n2_ n3_ n4_))
       have n0_ := Qab.mk (Kd.Qa1 HO_0.out); have n1_ := Qab.mk (Kd.Qaq HO_6.out); have n2_ := Qab.mk (Kd.Qaq HO_7.out); have n3_ := Qab.mk (Qai BK101.out); have n4_ := Qab.mk (Qac HB.out); clear HO_0; clear HO_6; clear HO_7; clear BK101; clear HB; have HO_0 := n0_; have HO_6 := n1_; have HO_7 := n2_; have BK101 := n3_; have HB := n4_; clear n0_ n1_ n2_ n3_ n4_; refine start_ (n := 6) (S := fun w' => w'.cell? ⟨gb101, 0, none⟩ = some (.string a1_0) ∧ w'.cell? ⟨gb101, 1, none⟩ = some (.string a1_1) ∧ w'.cell? ⟨gb101, 2, none⟩ = some (.string a1_2) ∧ w'.cell? ⟨gb101, 3, none⟩ = some (.int .i64 a1_3) ∧ w'.cell? ⟨gb101, 4, none⟩ = some (.int .i64 a1_4) ∧ w'.cell? ⟨gb101, 5, none⟩ = some (.slice A1_5 l1_5.length c1_5)) (ds := []) #[ff,ff,ff,ff,ff,ff] (by kernel_rfl) rfl rfl ⟨(Qaj BK101.out 0).trans rfl, (Qaj BK101.out 1).trans rfl, (Qaj BK101.out 2).trans rfl, (Qaj BK101.out 3).trans rfl, (Qaj BK101.out 4).trans rfl, (Qaj BK101.out 5).trans rfl⟩ (fun hHeld => ?_)
       generalize w51.drew = w53 at HO_0 HO_6 HO_7 BK101 HB hHeld ⊢
       refine take_ (i := 0) (N := some 39) (v := ?_) (a' := ?_) #[tt,ff,ff,ff,ff,ff] rfl rfl (by kernel_rfl) (fun _ _ _ h => h) (Or.inl ⟨by rfl, ?_⟩) hHeld ?_ ?_; rotate_left
       ·rintro w' ⟨s0, s1, s2, s3, s4, s5⟩; go_simp; (with_reducible rfl)
       rotate_left
       ·simp only [Act.put, put_, QaG, QaI]; rfl
       refine take_ (i := 2) (N := some 41) (v := ?_) (a' := ?_) #[tt,ff,tt,ff,ff,ff] rfl rfl (by kernel_rfl) (fun _ _ _ h => h) (Or.inl ⟨by rfl, ?_⟩) hHeld ?_ ?_; rotate_left
       ·rintro w' ⟨s0, s1, s2, s3, s4, s5⟩; go_simp; (with_reducible rfl)
       rotate_left
       ·simp only [Act.put, put_, QaG, QaI]; rfl
       refine one_ (i := 1) (N := some 40) #[tt,tt,tt,ff,ff,ff] rfl rfl (by kernel_rfl) (by decide) (fun K hK => ?_); refine goes_ Tryd.func14 (by kernel_rfl) rfl #[.agg #[.string a1_0, .string a1_1, .string a1_2, .int .i64 a1_3, .int .i64 a1_4, .slice A1_5 l1_5.length c1_5]] (by rfl) rfl rfl (by (try simp only [List.map_toArray, List.map_cons, List.map_nil]); first | done | rfl | (simp only [List.length_drop, List.length_take]; rfl)) ?_
       with_reducible refine (QaQ.calls a1_0 a1_1 a1_2 a1_3 a1_4 _ _ l1_5 t116 _ ?side1 ?side2 A24.out).mono ?_
       (case side1 => repeat (first | exact (Kd.QaJ HR1_5.out HB.out) | (with_reducible refine Kd.QaF ?_ _) | (with_reducible refine Kd.QaH ?_ _) | (with_reducible refine Kd.QaW ?_)))
       (case side2 => exact HC1_5.out)
       rintro e w54 ⟨v117, rfl, ho0, hb⟩; refine ⟨_, rfl, ?_⟩; have n0_ := Qab.mk (Kd.V_elder' (by (with_reducible repeat (first | apply Kd.QaO | apply Kd.QaN | apply Kd.Qa1)); exact HO_0.out) (Kd.R_base ho0) hb); have n1_ := Qab.mk (Kd.QaL (by (with_reducible repeat (first | apply Kd.Qam | apply Kd.Qan | apply Kd.Qaq)); exact HO_6.out) hb); have n2_ := Qab.mk (Kd.R_elder' (by (with_reducible repeat (first | apply Kd.Qam | apply Kd.Qan | apply Kd.Qaq)); exact HO_7.out) (Kd.R_base ho0) hb); have n3_ := Qab.mk (Kd.R_lower (Kd.R_new' ho0 (Kd.R_lt (by (with_reducible repeat (first | apply Kd.Qam | apply Kd.Qan | apply Kd.Qaq)); exact HO_7.out))) (Qar (by repeat (first | (with_reducible first | exact HB.out | apply Qad | apply Qaa | apply Qac | refine Qah ?_ GE101.out) | exact HB.out)))); have n4_ := Qab.mk (Qal (g := gb101) (o := Qap a1_0 a1_1 a1_2 a1_3 a1_4 (.slice A1_5 l1_5.length c1_5) 29) (by (with_reducible repeat (first | refine Qag ?_ _ | refine Qai ?_ | refine Qae ?_ _)); exact BK101.out) hb); have n5_ := Qab.mk (Qak (by repeat (first | (with_reducible first | exact HB.out | apply Qad | apply Qaa | apply Qac | refine Qah ?_ GE101.out) | exact HB.out)) hb); clear HO_0; clear HO_6; clear HO_7; clear BK101; clear HB; have HO_0 := n0_; have HO_6 := n1_
       have HO_7 := n2_; have HO118 := n3_; have BK101 := n4_; have HB := n5_; clear n0_ n1_ n2_ n3_ n4_ n5_
       (try clear hb)
       (try clear hb2)
       (try clear hk)
       (try clear hi)
       (try clear ho0)
       refine hK.out _ _ ⟨(Qaj BK101.out 0).trans rfl, (Qaj BK101.out 1).trans rfl, (Qaj BK101.out 2).trans rfl, (Qaj BK101.out 3).trans rfl, (Qaj BK101.out 4).trans rfl, (Qaj BK101.out 5).trans rfl⟩ (fun hHeld => ?_); clear hK K; refine norm_ (a' := ?_) ?_ ?_; rotate_left
       ·show Act.put _ (some 40) _ = _
        simp only [Act.put, put_, QaG, QaI]; rfl
       refine one_ (i := 3) (N := some 42) #[tt,tt,tt,tt,ff,ff] rfl rfl (by kernel_rfl) (by decide) (fun K hK => ?_); refine goes_ Tryd.func15 (by kernel_rfl) rfl #[.agg #[.string a1_0, .string a1_1, .string a1_2, .int .i64 a1_3, .int .i64 a1_4, .slice A1_5 l1_5.length c1_5]] (by rfl) rfl rfl (by (try simp only [List.map_toArray, List.map_cons, List.map_nil]); first | done | rfl | (simp only [List.length_drop, List.length_take]; rfl)) ?_
       with_reducible refine (liveryref07_Support.calls k1 a1_0 a1_1 a1_2 a1_3 a1_4 _ _ l1_5 t119 _ ?side1 ?side2 A25.out).mono ?_
       (case side1 => repeat (first | exact (Kd.QaJ HR1_5.out HB.out) | (with_reducible refine Kd.QaF ?_ _) | (with_reducible refine Kd.QaH ?_ _) | (with_reducible refine Kd.QaW ?_)))
       (case side2 => exact HC1_5.out)
       rintro e w55 ⟨v120, rfl, ho0, hb⟩; refine ⟨_, rfl, ?_⟩; have n0_ := Qab.mk (Kd.V_elder' (by (with_reducible repeat (first | apply Kd.QaO | apply Kd.QaN | apply Kd.Qa1)); exact HO_0.out) (Kd.R_base ho0) hb); have n1_ := Qab.mk (Kd.QaL (by (with_reducible repeat (first | apply Kd.Qam | apply Kd.Qan | apply Kd.Qaq)); exact HO_6.out) hb); have n2_ := Qab.mk (Kd.R_elder' (by (with_reducible repeat (first | apply Kd.Qam | apply Kd.Qan | apply Kd.Qaq)); exact HO_7.out) (Kd.R_base ho0) hb); have n3_ := Qab.mk (Kd.R_elder' (by (with_reducible repeat (first | apply Kd.Qam | apply Kd.Qan | apply Kd.Qaq)); exact HO118.out) (Kd.R_base ho0) hb); have n4_ := Qab.mk (Kd.R_lower (Kd.R_new' (Kd.R_new' ho0 (Kd.R_lt (by (with_reducible repeat (first | apply Kd.Qam | apply Kd.Qan | apply Kd.Qaq)); exact HO_7.out))) (Kd.R_lt (by (with_reducible repeat (first | apply Kd.Qam | apply Kd.Qan | apply Kd.Qaq)); exact HO118.out))) (Qar (by repeat (first | (with_reducible first | exact HB.out | apply Qad | apply Qaa | apply Qac | refine Qah ?_ GE101.out) | exact HB.out)))); have n5_ := Qab.mk (Qal (g := gb101) (o := Qap a1_0 a1_1 a1_2 a1_3 a1_4 (.slice A1_5 l1_5.length c1_5) 29) (by (with_reducible repeat (first | refine Qag ?_ _ | refine Qai ?_ | refine Qae ?_ _)); exact BK101.out) hb); have n6_ := Qab.mk (Qak (by repeat (first | (with_reducible first | exact HB.out | apply Qad | apply Qaa | apply Qac | refine Qah ?_ GE101.out) | exact HB.out)) hb)
       clear HO_0; clear HO_6; clear HO_7; clear HO118; clear BK101; clear HB; have HO_0 := n0_; have HO_6 := n1_; have HO_7 := n2_; have HO118 := n3_; have HO121 := n4_; have BK101 := n5_; have HB := n6_; clear n0_ n1_ n2_ n3_ n4_ n5_ n6_
       (try clear hb)
       (try clear hb2)
       (try clear hk)
       (try clear hi)
       (try clear ho0)
       obtain ⟨Ao56, co56, eo56⟩ := Kd.R_slice HO118.out
       (first | subst eo56 | (injection eo56 with f1_ f2_ f3_; have f4_ := f1_.symm; have f5_ := f3_.symm; clear f1_ f2_ f3_; subst f4_; subst f5_))
       obtain ⟨Ao57, co57, eo57⟩ := Kd.R_slice HO121.out
       (first | subst eo57 | (injection eo57 with f1_ f2_ f3_; have f4_ := f1_.symm; have f5_ := f3_.symm; clear f1_ f2_ f3_; subst f4_; subst f5_))
       refine hK.out _ _ ⟨(Qaj BK101.out 0).trans rfl, (Qaj BK101.out 1).trans rfl, (Qaj BK101.out 2).trans rfl, (Qaj BK101.out 3).trans rfl, (Qaj BK101.out 4).trans rfl, (Qaj BK101.out 5).trans rfl⟩ (fun hHeld => ?_); clear hK K; refine norm_ (a' := ?_) ?_ ?_; rotate_left
       ·show Act.put _ (some 42) _ = _
        simp only [Act.put, put_, QaG, QaI]; rfl
       refine one_ (i := 4) (N := some 43) #[tt,tt,tt,tt,tt,ff] rfl rfl (by kernel_rfl) (by decide) (fun K hK => ?_); refine goes_ Tryd.func13 (by kernel_rfl) rfl #[.slice Ao56 t116.length co56, .slice Ao57 t119.length co57] (by rfl) rfl rfl (by (try simp only [List.map_toArray, List.map_cons, List.map_nil]); first | done | rfl | (simp only [List.length_drop, List.length_take]; rfl)) ?_
       with_reducible refine (QaY.calls k1 _ _ t116 _ _ t119 t122 _ ?side1 ?side2 ?side3 ?side4 A26.out).mono ?_
       (case side1 => repeat (first | exact (Kd.QaX HO118.out).2.2 | (with_reducible refine Kd.QaF ?_ _) | (with_reducible refine Kd.QaH ?_ _) | (with_reducible refine Kd.QaW ?_)))
       (case side2 => exact (Kd.QaX HO118.out).2.1)
       (case side3 => repeat (first | exact (Kd.QaX HO121.out).2.2 | (with_reducible refine Kd.QaF ?_ _) | (with_reducible refine Kd.QaH ?_ _) | (with_reducible refine Kd.QaW ?_)))
       (case side4 => exact (Kd.QaX HO121.out).2.1)
       rintro e w' ⟨rfl, ⟨nd, rfl⟩⟩; refine ⟨_, rfl, ?_⟩; refine hK.out _ _ ⟨(Qaj BK101.out 0).trans rfl, (Qaj BK101.out 1).trans rfl, (Qaj BK101.out 2).trans rfl, (Qaj BK101.out 3).trans rfl, (Qaj BK101.out 4).trans rfl, (Qaj BK101.out 5).trans rfl⟩ (fun hHeld => ?_); clear hK K; refine norm_ (a' := ?_) ?_ ?_; rotate_left
       ·show Act.put _ (some 43) _ = _
        simp only [Act.put, put_, QaG, QaI]; rfl
       refine Qa6 (i := 5) (N := some 10) (v := ?_) (a' := ?_) #[tt,tt,tt,tt,tt,tt] rfl rfl (by kernel_rfl) (fun _ _ _ h => h) (Or.inl ⟨by rfl, ?_⟩) ?_ ?_; rotate_left
       ·intro w'; go_simp; (with_reducible rfl)
       rotate_left
       ·simp only [Act.put, put_, QaG, QaI]; rfl
       refine done_ (by kernel_rfl) ?_
       try go_wp2
       go_ret; exact ⟨by first | rfl | (simp [Qax, Qaw] <;> rfl) | (simp [*, Qax, Qaw] <;> rfl), by repeat (first | (with_reducible first | exact HB.out | apply Qad | apply Qaa | apply Qac | refine Qah ?_ GE101.out) | exact HB.out)⟩
  ·rw [if_neg c6] at H; exact absurd H (by simp)
 ·replace c5 := Bool.eq_false_iff.mpr c5; subst c5
  have H1 : ((Qao.f k).bind fun t106 => (some t106)) = some r := by rw [if_neg (show ¬ (false = true) by decide)] at H; exact H
  clear H; have H := H1; clear H1; replace H := Option.bind_eq_some_iff.mp H; obtain ⟨t106, A580, H⟩ := H; replace H : (some t106) = some r := H; have A58 := Qab.mk A580; clear A580; obtain rfl := Option.some.inj H; go_enter Tryd.func7, Tryd.ntmps7
  go_wp2_with (first | ((with_reducible refine Qa2 (N := 3) rfl ?_); refine QaV ?hg (N := 3) ?hd (cs := #[.string a1_0, .string a1_1, .string a1_2, .int .i64 a1_3, .int .i64 a1_4, .slice A1_5 l1_5.length c1_5]) (t := 29) ?hr ?_; (case hd => rfl); (case hg => rfl); (case hr => first | (go_simp; done) | (go_simp; rfl)); intro gb101 hg w59 hbox hb; have n0_ := Qab.mk (Qak (by repeat (first | (with_reducible first | exact HB.out | apply Qad | apply Qaa | apply Qac) | exact HB.out)) hb); have n1_ := Qab.mk (hbox); have n2_ := Qab.mk ((by rw [hg]; exact (Qar (by repeat (first | (with_reducible first | exact HB.out | apply Qad | apply Qaa | apply Qac) | exact HB.out))) : w.heap.size ≤ gb101)); have n3_ := n2_; clear HB; have HB := n0_; have BK101 := n1_; have GW101 := n2_; have GE101 := n3_; clear n0_ n1_ n2_ n3_; clear hb hbox hg) | ((with_reducible refine QaT (f := 8) rfl ?_); refine goesL_ (some 12) rfl rfl Tryd.func8 (by kernel_rfl) rfl #[.slice A0 l0.length c0] rfl (by (try simp only [List.map_toArray, List.map_cons, List.map_nil]); first | done | rfl | (simp only [List.length_drop, List.length_take]; rfl)) ?_; (with_reducible refine (Qa0.calls (fun k_ => k_ < w.heap.size) _ _ l0 t102 _ ?side1 A3.out).mono ?_); (case side1 => exact Kd.V_mk HC0.out (Kd.F_below (Kd.C_F k44_heap HR0.out) (by repeat (first | (with_reducible first | exact HB.out | apply Qad | apply Qaa | apply Qac | refine Qah ?_ GE101.out) | exact HB.out)))); rintro e w60 ⟨v103, rfl, ho0, hb⟩; refine ⟨_, rfl, ?_⟩; have n0_ := Qab.mk (Kd.V_lower (Kd.V_mono (ok' := fun k_ => k_ ≠ gb101) ho0 (fun k_ hk_ => Or.elim hk_ (fun hs_ => fun e_ => Nat.not_le.2 hs_ (by rw [e_]; exact GW101.out)) (fun hn_ => (Kd.freshB (g := gb101) (o := Qap a1_0 a1_1 a1_2 a1_3 a1_4 (.slice A1_5 l1_5.length c1_5) 29) (by (with_reducible repeat (first | refine Qag ?_ _ | refine Qai ?_ | refine Qae ?_ _)); exact BK101.out) k_ hn_)))) (Qar (by repeat (first | (with_reducible first | exact HB.out | apply Qad | apply Qaa | apply Qac | refine Qah ?_ GE101.out) | exact HB.out)))); have n1_ := Qab.mk (Qal (g := gb101) (o := Qap a1_0 a1_1 a1_2 a1_3 a1_4 (.slice A1_5 l1_5.length c1_5) 29) (by (with_reducible repeat (first | refine Qag ?_ _ | refine Qai ?_ | refine Qae ?_ _)); exact BK101.out) hb); have n2_ := Qab.mk (Qak (by repeat (first | (with_reducible first | exact HB.out | apply Qad | apply Qaa | apply Qac | refine Qah ?_ GE101.out) | exact HB.out)) hb); clear BK101; clear HB; have HO104 := n0_; have BK101 := n1_; have HB := n2_; clear n0_ n1_ n2_; (try clear hb); (try clear hb2); (try clear hk); (try clear hi); (try clear ho0); obtain ⟨hcz61_0, hcz61_1, hcz61_2, hcz61_3, hcz61_4, hcz61_5⟩ := QaZ BK101.out; obtain ⟨hfz61_0, hfz61_1, hfz61_2, hfz61_3, hfz61_4, hfz61_5⟩ := fz_6 BK101.out) | ((with_reducible refine QaT (f := 9) rfl ?_); refine goesL_ (some 14) rfl rfl Tryd.func9 (by kernel_rfl) rfl #[.agg #[.string a1_0, .string a1_1, .string a1_2, .int .i64 a1_3, .int .i64 a1_4, .slice A1_5 l1_5.length c1_5]] rfl (by (try simp only [List.map_toArray, List.map_cons, List.map_nil]); first | done | rfl | (simp only [List.length_drop, List.length_take]; rfl)) ?_; (with_reducible refine (QaE.calls k a1_0 a1_1 a1_2 a1_3 a1_4 _ _ l1_5 false _ ?side1 ?side2 A4.out).mono ?_); (case side1 => repeat (first | exact (Kd.QaJ HR1_5.out HB.out) | (with_reducible refine Kd.QaF ?_ _) | (with_reducible refine Kd.QaH ?_ _) | (with_reducible refine Kd.QaW ?_))); (case side2 => exact HC1_5.out); rintro e w62 ⟨rfl, hb⟩; refine ⟨_, rfl, ?_⟩; have n0_ := Qab.mk (Kd.Qbf (by (with_reducible repeat (first | apply Kd.QaO | apply Kd.QaN | apply Kd.Qa1)); exact HO104.out) hb); have n1_ := Qab.mk (Qal (g := gb101) (o := Qap a1_0 a1_1 a1_2 a1_3 a1_4 (.slice A1_5 l1_5.length c1_5) 29) (by (with_reducible repeat (first | refine Qag ?_ _ | refine Qai ?_ | refine Qae ?_ _)); exact BK101.out) hb); have n2_ := Qab.mk (Qak (by repeat (first | (with_reducible first | exact HB.out | apply Qad | apply Qaa | apply Qac | refine Qah ?_ GE101.out) | exact HB.out)) hb); clear HO104; clear BK101; clear HB; have HO104 := n0_; have BK101 := n1_; have HB := n2_; clear n0_ n1_ n2_; (try clear hb); (try clear hb2); (try clear hk); (try clear hi)) | ((with_reducible refine QaT (f := 10) rfl ?_); refine goesL_ (some 17) rfl rfl Tryd.func10 (by kernel_rfl) rfl #[] rfl (by (try simp only [List.map_toArray, List.map_cons, List.map_nil]); first | done | rfl | (simp only [List.length_drop, List.length_take]; rfl)) ?_; (with_reducible refine (Qao.calls k  t106 _ A58.out).mono ?_); rintro e w63 ⟨rfl, hb⟩; refine ⟨_, rfl, ?_⟩; have n0_ := Qab.mk (Kd.Qbf (by (with_reducible repeat (first | apply Kd.QaO | apply Kd.QaN | apply Kd.Qa1)); exact HO104.out) hb); have n1_ := Qab.mk (Qal (g := gb101) (o := Qap a1_0 a1_1 a1_2 a1_3 a1_4 (.slice A1_5 l1_5.length c1_5) 29) (by (with_reducible repeat (first | refine Qag ?_ _ | refine Qai ?_ | refine Qae ?_ _)); exact BK101.out) hb); have n2_ := Qab.mk (Qak (by repeat (first | (with_reducible first | exact HB.out | apply Qad | apply Qaa | apply Qac | refine Qah ?_ GE101.out) | exact HB.out)) hb); clear HO104; clear BK101; clear HB; have HO104 := n0_; have BK101 := n1_; have HB := n2_; clear n0_ n1_ n2_; (try clear hb); (try clear hb2); (try clear hk); (try clear hi)))
  go_ret; exact ⟨by first | rfl | (simp [Qax, Qaw] <;> rfl) | (simp [*, Qax, Qaw] <;> rfl), by repeat (first | (with_reducible first | exact HB.out | apply Qad | apply Qaa | apply Qac | refine Qah ?_ GE101.out) | exact HB.out)⟩
end Go.Proofs.YtmaipohgahdclaaDoor.Pr
end
section
namespace Go.Proofs.YtmaipohgahdclaaDoor.Pr
open Go.RowKit Go.Proofs.YtmaipohgahdclaaDoorW.PrintWords Go.Proofs.YtmaipohgahdclaaDoorW.PrintLast Go.Proofs.YtmaipohgahdclaaDoorW.PrintMore
theorem few_is (l : List Cred) : Qa0.f l = some (l.take 14) := by
  unfold Qa0.f
  by_cases h : (l.length : Int) > 14
  · rw [if_pos h, if_pos (by omega)]
  · rw [if_neg h, List.take_of_length_le (by omega)]
theorem take_len (l : List Cred) : (l.take 14).length ≤ 14 := by simp; omega
theorem take_ok {l : List Cred} (h : ∀ c ∈ l, okCred c) : ∀ c ∈ l.take 14, okCred c := fun c hc => h c (List.mem_of_mem_take hc)
theorem small_ev (p : Proof) : Ev (fun k => QaE.f k p.f0.f0 p.f0.f1 p.f1 p.f2.f0 p.f2.f1 p.f3) (decide (cnt p ≤ 60)) := by
  refine Ev.bind (few_ev p 60 (by omega)) ?_; have h := cnt_pos p
  rw [show decide (fewV (cnt p : Int) 60 > 0) = decide (cnt p ≤ 60) by
    unfold fewV
    by_cases e : cnt p ≤ 60
    · rw [if_pos (by omega), decide_eq_true e]
      exact decide_eq_true (by omega)
    · rw [if_neg (by omega), decide_eq_false e]
      exact decide_eq_false (by omega)]
  exact Ev.pure _
theorem counts_may {l : List Cred} {c : Cred} (h : c ∈ counts l) : credMay c = true := ((counts_spec l).mem c |>.mp h).may
theorem counts_apart (l : List Cred) : Apart (counts l) := (counts_spec l).sorted.imp fun {a b} h e => by
  unfold credLess at h; rw [e] at h; omega
theorem okID_of {i : ID} (h0 : -9223372036854775808 ≤ i.f0 ∧ i.f0 ≤ 9223372036854775807) (h1 : -9223372036854775808 ≤ i.f1 ∧ i.f1 ≤ 9223372036854775807) : okID i := by
  have e1 : IntKind.i64.min = -9223372036854775808 := by decide
  have e2 : IntKind.i64.max = 9223372036854775807 := by decide
  constructor
  · show (decide (IntKind.i64.min ≤ i.f0) && decide (i.f0 ≤ IntKind.i64.max)) = true
    rw [e1, e2, decide_eq_true h0.1, decide_eq_true h0.2]; rfl
  · show (decide (IntKind.i64.min ≤ i.f1) && decide (i.f1 ≤ IntKind.i64.max)) = true
    rw [e1, e2, decide_eq_true h1.1, decide_eq_true h1.2]; rfl
theorem counts_good (l : List Cred) : goodIDs (counts l) := fun c h => by
  have := counts_may h; unfold credMay at this; simp only [Bool.and_eq_true, decide_eq_true_eq] at this; obtain ⟨⟨⟨h0, h1⟩, _⟩, _⟩ := this; exact okID_of (by omega) (by omega)
theorem counts_length (l : List Cred) : (counts l).length ≤ l.length := by
  unfold counts; have := firsts_length (sortCreds l) []; have h2 := sortCreds_length l; simp at this; omega
def errOf (b : Bool) : Int := if b = true then 0 else 15
theorem progCheck_is (l : List Cred) (p : Proof) (hl : l.length < 21) (hok : ∀ c ∈ l, okCred c) (hd : dep p < 200) (ho : okTree p) : QaB.f l p.f0.f0 p.f0.f1 p.f1 p.f2.f0 p.f2.f1 p.f3 = some (errOf (chk (counts l) 200 p)) := by
  have h1 := counts_length l; unfold QaB.f; rw [progCounts_is l hl hok 200 (by omega), Option.bind_some, if_pos ⟨by omega, counts_good l⟩]; rw [show (⟨⟨p.f0.f0, p.f0.f1⟩, p.f1, ⟨p.f2.f0, p.f2.f1⟩, p.f3⟩ : Proof) = p by cases p; rfl, check_is (counts_apart l) 200 p hd ho]; rfl
theorem progSupport_is (p : Proof) (hd : dep p < 200) (ho : okTree p) (hc : cnt p ≤ 1000) : QaQ.f p.f0.f0 p.f0.f1 p.f1 p.f2.f0 p.f2.f1 p.f3 = some (support p) := by
  unfold QaQ.f; rw [show (⟨⟨p.f0.f0, p.f0.f1⟩, p.f1, ⟨p.f2.f0, p.f2.f1⟩, p.f3⟩ : Proof) = p by cases p; rfl, gather_is 200 p hd ho [] (by simp; omega), Option.bind_some]; have := fold_length (ids p) []; have h2 : (ids p).length = cnt p := rfl; simp at this; rw [if_pos (by omega)]; rfl
theorem refSupport_ev (p : Proof) (hc : cnt p < 1000000) : Ev (fun k => liveryref07_Support.f k p.f0.f0 p.f0.f1 p.f1 p.f2.f0 p.f2.f1 p.f3) (support p) := Ev.bind (ids_ev p hc) (Ev.bind (once_ev p hc) (Ev.pure _))
theorem progSame_is (a b : Proof) (hd : dep a < 200) (hc : cnt a < 1000000) : Qa7.f a.f0.f0 a.f0.f1 a.f1 a.f2.f0 a.f2.f1 a.f3 b.f0.f0 b.f0.f1 b.f1 b.f2.f0 b.f2.f1 b.f3 = some (eqT a b) := by
  unfold Qa7.f; rw [show (⟨⟨a.f0.f0, a.f0.f1⟩, a.f1, ⟨a.f2.f0, a.f2.f1⟩, a.f3⟩ : Proof) = a by cases a; rfl, show (⟨⟨b.f0.f0, b.f0.f1⟩, b.f1, ⟨b.f2.f0, b.f2.f1⟩, b.f3⟩ : Proof) = b by cases b; rfl]; exact same_is 200 a b hd hc
theorem sameIDs_l0 (X : List ID) (hX : X.length < 1000000) : ∀ (n i : Nat), n + i = X.length → Ev (fun k => QaY.l0 k X X (i : Int)) true
  | 0, i, hn => by
    refine Ev.step (fun k => ?_) (Ev.pure _); rw [QaY.l0, if_neg (by omega)]
  | n + 1, i, hn => by
    refine Ev.step (fun k => ?_) (sameIDs_l0 X hX n (i + 1) (by omega)); rw [QaY.l0, if_pos (by omega), if_pos (by omega), if_pos (by omega), wrapN (by omega), if_neg (by simp)]
theorem sameIDs_ev (X : List ID) (hX : X.length < 1000000) : Ev (fun k => QaY.f k X X) true := by
  unfold QaY.f; simp only [if_true]; exact sameIDs_l0 X hX X.length 0 (by omega)
theorem credSame_l0 (X : List Cred) (hX : X.length < 1000000) : ∀ (n i : Nat), n + i = X.length → Ev (fun k => liveryref05_Same.l0 k X X (i : Int)) true
  | 0, i, hn => by
    refine Ev.step (fun k => ?_) (Ev.pure _); rw [liveryref05_Same.l0, if_neg (by omega)]
  | n + 1, i, hn => by
    refine Ev.step (fun k => ?_) (credSame_l0 X hX n (i + 1) (by omega)); rw [liveryref05_Same.l0, if_pos (by omega), if_pos (by omega), if_pos (by omega), wrap_succ (by omega), if_neg (by simp)]
theorem credSame_ev (X : List Cred) (hX : X.length < 1000000) : Ev (fun k => liveryref05_Same.f k X X) true := by
  unfold liveryref05_Same.f; simp only [if_true]; exact credSame_l0 X hX X.length 0 (by omega)
def exA : Cred := ⟨⟨1, 1⟩, ⟨#[97]⟩, 2, ⟨#[]⟩, ⟨⟨#[100, 50]⟩, ⟨#[98]⟩⟩, ⟨⟨#[]⟩, ⟨#[]⟩⟩⟩
def exB : Cred := ⟨⟨2, 1⟩, ⟨#[98]⟩, 1, ⟨#[97, 110, 110]⟩, ⟨⟨#[]⟩, ⟨#[]⟩⟩, ⟨⟨#[]⟩, ⟨#[]⟩⟩⟩
def exQ : Proof := ⟨⟨⟨#[100, 50]⟩, ⟨#[98]⟩⟩, ⟨#[97, 110, 110]⟩, ⟨2, 1⟩, []⟩
def exP : Proof := ⟨⟨⟨#[100, 49]⟩, ⟨#[97]⟩⟩, ⟨#[97, 110, 110]⟩, ⟨1, 1⟩, [exQ]⟩
def exR : Proof := ⟨⟨⟨#[100, 49]⟩, ⟨#[97]⟩⟩, ⟨#[97, 110, 110]⟩, ⟨1, 1⟩, []⟩
theorem noText_dec (s : ByteArray) : noText s = decide (s = ⟨#[]⟩) := by
  unfold noText; rw [Bool.eq_iff_iff, beq_iff_eq, empty_iff, decide_eq_true_eq]
theorem exA_may : credMay exA = true := by
  unfold credMay roleOk bareOk noRole; simp only [noText_dec]
  decide
theorem exB_may : credMay exB = true := by
  unfold credMay roleOk bareOk noRole; simp only [noText_dec]
  decide
theorem ex_counts : counts [exA, exB] = [exA, exB] := by
  refine (counts_spec [exA, exB]).unique ⟨?_, fun c => ?_⟩
  · rw [List.pairwise_cons]
    exact ⟨fun b hb => by rw [List.mem_singleton] at hb; subst hb; exact .inl (by decide), List.pairwise_singleton _ _⟩
  · constructor
    · intro h
      rcases List.mem_cons.mp h with rfl | h
      · unfold First
        rw [List.find?_cons, exA_may, show sameID exA exA = true by decide]; rfl
      · rw [List.mem_singleton] at h
        subst h; unfold First; rw [List.find?_cons, show sameID exA exB = false by decide, Bool.and_false, List.find?_cons, exB_may, show sameID exB exB = true by decide]; rfl
    · intro h
      exact h.mem
theorem exP_ids : ids exP = [⟨1, 1⟩, ⟨2, 1⟩] := by
  rw [ids_eq, show exP.f3 = [exQ] from rfl, idsL_cons, ids_eq, show exQ.f3 = [] from rfl, idsL_nil]; rfl
theorem exR_ids : ids exR = [⟨1, 1⟩] := by
  rw [ids_eq, show exR.f3 = [] from rfl, idsL_nil]; rfl
theorem exP_dep : dep exP = 1 := by
  rw [dep_eq, show exP.f3 = [exQ] from rfl, depL_cons, depL_nil, dep_eq, show exQ.f3 = [] from rfl, depL_nil]; rfl
theorem exR_dep : dep exR = 0 := by rw [dep_eq, show exR.f3 = [] from rfl, depL_nil]
theorem exP_cnt : cnt exP = 2 := by unfold cnt; rw [exP_ids]; rfl
theorem exP_ok : okTree exP := fun i hi => by
  rw [exP_ids] at hi
  rcases List.mem_cons.mp hi with rfl | hi
  · exact okID_of (by decide) (by decide)
  · rw [List.mem_singleton] at hi
    subst hi; exact okID_of (by decide) (by decide)
theorem exR_ok : okTree exR := fun i hi => by
  rw [exR_ids, List.mem_singleton] at hi; subst hi; exact okID_of (by decide) (by decide)
theorem exP_support : support exP = [⟨1, 1⟩, ⟨2, 1⟩] := by
  refine strict_unique (support_strict exP) ?_ (fun x => by rw [support_mem, exP_ids]); rw [List.pairwise_cons]; exact ⟨fun b hb => by rw [List.mem_singleton] at hb; subst hb; decide, List.pairwise_singleton _ _⟩
theorem exP_chk : chk [exA, exB] 200 exP = true := by decide +kernel
theorem exR_chk : chk [exA, exB] 200 exR = false := by decide +kernel
theorem exPP : eqT exP exP = true := eqT_refl _
theorem exPR : eqT exP exR = false := by
  rw [eqT_eq, show exP.f3 = [exQ] from rfl, show exR.f3 = [] from rfl, eqTL_len _ _ (by simp)]; simp
theorem ex_ok : ∀ c ∈ [exA, exB], okCred c := by
  intro c hc
  have : c = exA ∨ c = exB := by simpa using hc
  rcases this with rfl | rfl <;> exact ⟨by decide, by decide, ⟨by decide, by decide⟩, by decide, by decide⟩
theorem lives_ev : Ev (fun k => Qao.f k) true := by
  have h1 := progSupport_is exP (by rw [exP_dep]; omega) exP_ok (by rw [exP_cnt]; omega); have h2 := progCheck_is [exA, exB] exP (by decide) ex_ok (by rw [exP_dep]; omega) exP_ok; have h3 := progCheck_is [exA, exB] exR (by decide) ex_ok (by rw [exR_dep]; omega) exR_ok; have h4 := size_ev exP (by rw [exP_cnt]; omega); have h5 := progSame_is exP exP (by rw [exP_dep]; omega) (by rw [exP_cnt]; omega); have h6 := progSame_is exP exR (by rw [exP_dep]; omega) (by rw [exP_cnt]; omega); have h7 := within_ev exP 1 (by rw [exP_cnt]; omega) (by omega); have h8 := within_ev exP 0 (by rw [exP_cnt]; omega) (by omega); rw [exP_support] at h1; rw [ex_counts, exP_chk] at h2; rw [ex_counts, exR_chk] at h3; rw [exP_cnt] at h4; rw [exPP] at h5; rw [exPR] at h6; rw [exP_dep] at h7 h8; have g1 : QaQ.f (⟨#[100, 49]⟩ : ByteArray) (⟨#[97]⟩ : ByteArray) (⟨#[97, 110, 110]⟩ : ByteArray) 1 1 [exQ] = some [⟨1, 1⟩, ⟨2, 1⟩] := h1; have g2 : QaB.f [exA, exB] (⟨#[100, 49]⟩ : ByteArray) (⟨#[97]⟩ : ByteArray) (⟨#[97, 110, 110]⟩ : ByteArray) 1 1 [exQ] = some 0 := h2; have g3 : QaB.f [exA, exB] (⟨#[100, 49]⟩ : ByteArray) (⟨#[97]⟩ : ByteArray) (⟨#[97, 110, 110]⟩ : ByteArray) 1 1 [] = some 15 := h3; have g5 : Qa7.f (⟨#[100, 49]⟩ : ByteArray) (⟨#[97]⟩ : ByteArray) (⟨#[97, 110, 110]⟩ : ByteArray) 1 1 [exQ] (⟨#[100, 49]⟩ : ByteArray) (⟨#[97]⟩ : ByteArray) (⟨#[97, 110, 110]⟩ : ByteArray) 1 1 [exQ] = some true := h5; have g6 : Qa7.f (⟨#[100, 49]⟩ : ByteArray) (⟨#[97]⟩ : ByteArray) (⟨#[97, 110, 110]⟩ : ByteArray) 1 1 [exQ] (⟨#[100, 49]⟩ : ByteArray) (⟨#[97]⟩ : ByteArray) (⟨#[97, 110, 110]⟩ : ByteArray) 1 1 [] = some false := h6
  unfold Qao.f; refine Ev.bind (Ev.pure [exA, exB]) (Ev.bind (Ev.pure [exQ]) ?_); simp only [g1, g2, g3, g5, g6, Option.bind_some]; exact Ev.bind h4 (Ev.bind h7 (Ev.bind h8 (Ev.pure _)))
theorem livesB : Ev (fun k => (Qao.f k).bind fun t => some t) true := Ev.bind lives_ev (Ev.pure _)
end Go.Proofs.YtmaipohgahdclaaDoor.Pr
end
section
namespace Go.Proofs.YtmaipohgahdclaaDoor.Pr
open Go.RowKit Go.Proofs.YtmaipohgahdclaaDoorW.PrintWords Go.Proofs.YtmaipohgahdclaaDoorW.PrintLast Go.Proofs.YtmaipohgahdclaaDoorW.PrintMore
theorem owns_l0 (l : List Cred) (hl : l.length < 21) (hok : ∀ c ∈ l, okCred c) (p : Proof) (hp : okTree p) (hc : cnt p ≤ 60) : ∀ (n i : Nat) (x : List ID), n + i = x.length → x.length ≤ 60 → Ev (fun k => Qba.l0 k l l x (i : Int) p.f0.f0 p.f0.f1 p.f1 p.f2.f0 p.f2.f1 p.f3) true
  | 0, i, x, hn, hx => by
    have hd := dep_lt p; have hsl := support_length p; have g := progCheck_is l p hl hok (by omega) hp; have g1 := progSupport_is p (by omega) hp (by omega); refine Ev.step (fun k => by rw [Qba.l0, if_neg (by omega), g, Option.bind_some]) ?_; refine Ev.bind (credSame_ev l (by omega)) ?_; simp only [g1, Option.bind_some]; refine Ev.bind (refSupport_ev p (by omega)) (Ev.bind (sameIDs_ev _ (by omega)) ?_); simp only [if_true]; exact livesB
  | n + 1, i, x, hn, hx => by
    refine Ev.step (fun k => ?_) (owns_l0 l hl hok p hp hc n (i + 1) (x.set i ⟨0, 0⟩) (by rw [List.length_set]; omega) (by rw [List.length_set]; omega)); rw [Qba.l0, if_pos (by omega), if_pos (by omega), wrapN (by omega), Int.toNat_natCast]
theorem proofOwns_true (l : List Cred) (p : Proof) (hok : ∀ c ∈ l, okCred c) (hp : okTree p) : Ev (fun k => Qba.f k l p.f0.f0 p.f0.f1 p.f1 p.f2.f0 p.f2.f1 p.f3) true := by
  have hlen := take_len l; unfold Qba.f; rw [few_is]; refine Ev.bind (Ev.pure _) (Ev.bind (small_ev p) ?_)
  by_cases h : cnt p ≤ 60
  · have hd := dep_lt p
    have hsl := support_length p; have g1 := progSupport_is p (by omega) hp (by omega); simp only [decide_eq_true h, if_true, g1, Option.bind_some, List.nil_append, List.length_nil]; simp only [if_pos (show 0 + (l.take 14).length < 1172812402961 by omega)]; exact owns_l0 (l.take 14) (by omega) (take_ok hok) p hp h (support p).length 0 (support p) (by omega) (by omega)
  · simp only [decide_eq_false h, Bool.false_eq_true, if_false]
    exact livesB
end Go.Proofs.YtmaipohgahdclaaDoor.Pr
end
section
namespace Go.Proofs.YtmaipohgahdclaaDoor.Pr
open Go.RowKit Go.Proofs.YtmaipohgahdclaaDoorW.PrintWords Go.Proofs.YtmaipohgahdclaaDoorW.PrintLast Go.Proofs.YtmaipohgahdclaaDoorW.PrintMore
set_option linter.unusedVariables false
theorem First.append {l m : List Cred} {c : Cred} (h : First l c) : First (l ++ m) c := by
  unfold First at *; rw [List.find?_append, h]; rfl
end Go.Proofs.YtmaipohgahdclaaDoor.Pr
end
