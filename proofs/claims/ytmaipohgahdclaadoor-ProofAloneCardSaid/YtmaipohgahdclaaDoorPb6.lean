/- The proof's own texts, joined: part 6. No conditions. -/
import Derived.OrdersHeld
import Derived.Deep.RegionHeld3
import Derived.Laws.BitsLemmas
import Derived.RowKit
import Derived.Laws.StructEq
import Derived.Test.YtmaipohgahdclaaDoorProg
import Derived.Below
import Derived.Deep.Draws
import Derived.Deep.AppendLies
import Derived.Maps.AppendAt
import Derived.OwnWalk
import Derived.Laws.BytesArg
import Derived.Laws.MakeOwn
import Derived.Laws.OwnMore
import Derived.Deep.OwnRows
import Derived.Tactics
import Derived.Lib.ConvBytes
import Derived.Laws.Slices
import Derived.WalkKit
import Derived.KernelRfl
import Derived.RowKit3
import Derived.Deep.LoopGhost
import Derived.Deep.QuietTactic
import Derived.BigQuiet
import Derived.WideLaws
import Derived.Deep.DeepCutAuto
import Derived.Deep.CutBlock
import Derived.Laws.Rows
import Derived.Lib.AppendStr
import Derived.ArgAppend
import Derived.Laws.IdiomCopy
import Derived.Shelf.SlicesG.Cmp
import Derived.WalkSpells
import Derived.Lib.Hide
import Derived.StillTailTactics
import Derived.Sort.Grow
import Derived.Lib.SlicesS
import Derived.Ground.SlgcProg
import Derived.Maps.OwnSet
import Derived.Maps.RangeRun
import Derived.Maps.Range
import Derived.Carry
import Derived.WalkLawsBesides
import Derived.Deep.RegionWith
import Derived.RegionTactic
import Derived.ChangeAlike
import Derived.Deep.RegionLaw
import Derived.Lib.SmallJoins
import Derived.DeepKeys4
import Derived.Outline
import Derived.Shelf.GgSortFunc.InsertionK
import Derived.Sort.Walk0
import Derived.Laws.Strings
import Derived.Shelf.SlicesE.Clone
import Derived.Shelf.SlSortCmp.NoneTotal
import Derived.Shelf.SlSortCmp.WholeK
import Derived.Ground.SlsfProg
import Derived.Ground.SlgnProg
import Derived.Laws.RangeAny
import Derived.Laws.Closers25
import Derived.Test.YtmaipohgahdclaaDoorPb0
import Derived.Test.YtmaipohgahdclaaDoorPb1
import Derived.Test.YtmaipohgahdclaaDoorPb2
import Derived.Test.YtmaipohgahdclaaDoorPb3
import Derived.Test.YtmaipohgahdclaaDoorPb4
import Derived.Test.YtmaipohgahdclaaDoorPb5
section
namespace Go.Proofs.YtmaipohgahdclaaDoor.Pr
open Go.RowKit Go.Proofs.YtmaipohgahdclaaDoorW.PrintWords Go.Proofs.YtmaipohgahdclaaDoorW.PrintLast Go.Proofs.YtmaipohgahdclaaDoorW.PrintMore
attribute [local go_sem] max2_int min2_int max_two min_two QaQ QaP max_four min_four
set_option linter.unusedVariables false
set_option linter.unusedSimpArgs false
attribute [local go_sem high] eqA26
mutual
def Qap.l0 : Nat → List (S44) → List (S44) → Int → Option ((List (S44)))
 | 0, _, _, _ => none
 | k + 1, x0, x3, x4 => if x4 < (x0.length : Int) then (if 0 ≤ x4 then ((Qav.f k ((Qaj x0 x4).f0.f0) ((Qaj x0 x4).f0.f1) ((Qaj x0 x4).f1) ((Qaj x0 x4).f2) ((Qaj x0 x4).f3) ((Qaj x0 x4).f4.f0) ((Qaj x0 x4).f4.f1) ((Qaj x0 x4).f5.f0) ((Qaj x0 x4).f5.f1)).bind fun t105 => (Qap.l1 k x0 x3 x4 t105 false 0)) else (none)) else ((Qat.f k x3).bind fun t101 => (some t101))
def Qap.l1 : Nat → List (S44) → List (S44) → Int → Bool → Bool → Int → Option ((List (S44)))
 | 0, _, _, _, _, _, _ => none
 | k + 1, x0, x3, x4, x5, x6, x7 => if x7 < (x3.length : Int) then (if x6 = true then (Qap.l1 k x0 x3 x4 x5 true (wrap64 (x7 + 1))) else (if 0 ≤ x7 then (if 0 ≤ x4 then (if x4 < (x0.length : Int) then (Qap.l1 k x0 x3 x4 x5 (((Qaj x3 x7).f0.f0) == ((Qaj x0 x4).f0.f0) && (((Qaj x3 x7).f0.f1) == ((Qaj x0 x4).f0.f1))) (wrap64 (x7 + 1))) else (none)) else (none)) else (none))) else (if x5 = true then (if x6 = true then (Qap.l0 k x0 x3 (wrap64 (x4 + 1))) else (if 0 ≤ x4 then (if x4 < (x0.length : Int) then (if x3.length < 1172812402961 then (Qap.l0 k x0 (x3 ++ [(⟨(⟨(Qaj x0 x4).f0.f0, (Qaj x0 x4).f0.f1⟩ : S26), (Qaj x0 x4).f1, (Qaj x0 x4).f2, (Qaj x0 x4).f3, (⟨(Qaj x0 x4).f4.f0, (Qaj x0 x4).f4.f1⟩ : S24), (⟨(Qaj x0 x4).f5.f0, (Qaj x0 x4).f5.f1⟩ : S24)⟩ : S44)]) (wrap64 (x4 + 1))) else (none)) else (none)) else (none))) else (Qap.l0 k x0 x3 (wrap64 (x4 + 1))))
end
def Qap.f (k : Nat) (l0 : List (S44)) : Option ((List (S44))) := Qap.l0 k l0 ([] : List (S44)) 0
set_option maxHeartbeats 8000000 in
set_option maxRecDepth 100000 in
theorem Qap.calls (k : Nat) (A0 : Option Addr) (c0 : Nat) (l0 : List (S44)) (r : List (S44)) (w : World) (hr0 : Kd.C k44 w A0 l0.length l0) (hc0 : l0.length ≤ c0) (h : Qap.f k l0 = some r) :
  Calls Tryd.prog 22 #[.slice A0 l0.length c0] w fun e w' => ∃ v0_ : Value, e = .returned (v0_) ∧ Kd.R k44 44 w' w.heap.size (fun _ => True) v0_ r ∧ Below w.heap.size w w' := by
 have hu44 := Tryd.underlying44; have hu26 := Tryd.underlying26; have HR0 := Qad.mk hr0; have HC0 := Qad.mk hc0; clear hr0 hc0; have HB := Qad.mk (Below.refl w.heap.size w); have H : (Qap.l0 k l0 ([] : List (S44)) 0) = some r := h; clear h; have H' := Qad.mk H; clear H; go_enter Tryd.func22, Tryd.ntmps22; go_wp2
 repeat (go_quiet (fail); try go_wp2)
 go_loopg [3, 4] k (fun kq v3 v4 w' => ∃ (x3_1 : List (S44)) (x4_1 : Int), v4 = .int .i64 x4_1 ∧ Qad (Qap.l0 kq l0 x3_1 x4_1 = some r) ∧ Qad (kq ≤ k) ∧ Qad (Kd.R k44 44 w' w.heap.size (fun _ => True) v3 x3_1) ∧ Qad (Below w.heap.size w w'))
 case atStart => exact ⟨(([] : List (S44))), (0), (by first | rfl | (simp; done) | (simp [*]; done)), H', ⟨Nat.le_refl _⟩, ⟨by first | exact Kd.R_nil _ _ _ _ _ | exact Kd.N_nil _ _ _ _ _ | exact Kd.V_nil _ _ _ _ _ | exact Kd.Q_nil _ _ _ _ _ | exact Kd.S_nil _ _ _ _ _⟩, ⟨by repeat (first | (with_reducible first | exact HB.out | apply Qab | apply Qaa | apply Qac) | exact HB.out)⟩⟩
 case round =>
  clear H'; obtain ⟨x3_1, x4_1, rfl, HA, HK1, HO_3, HB⟩ := hrel
  cases gk with
  | zero => exact absurd HA.out (by simp [Qap.l0])
  | succ k1 =>
   have H := HA.out; clear HA; simp only [Qap.l0] at H
   by_cases c2 : x4_1 < (l0.length : Int)
   ·rw [if_pos c2] at H; have c2b0 : decide (x4_1 < (l0.length : Int)) = true := decide_eq_true c2; clear c2
    by_cases c3 : 0 ≤ x4_1
    ·rw [if_pos c3] at H; have c3b0 : decide (0 ≤ x4_1) = true := decide_eq_true c3; clear c3; replace H := Option.bind_eq_some_iff.mp H; obtain ⟨t105, A40, H⟩ := H; replace H : (Qap.l1 k1 l0 x3_1 x4_1 t105 false 0) = some r := H; have A4 := Qad.mk A40; clear A40; have H' := Qad.mk H; clear H; have p104 : 0 ≤ (x4_1 : Int) := of_decide_eq_true (by first | (with_reducible assumption) | assumption); have q104 : x4_1 < (l0.length : Int) := of_decide_eq_true (by first | (with_reducible assumption) | assumption); obtain ⟨ad104, e104, hx104_0, hx104_1, hx104_2, hx104_3, hx104_4, hx104_5, hx104_6, hx104_7, hx104_8⟩ := at_T44 HR0.out x4_1 p104 q104; cases e104; replace hx104_0 := (HB.out.cell (World.block_lt_of_cell? w _ hx104_0)).trans hx104_0; replace hx104_1 := (HB.out.cell (World.block_lt_of_cell? w _ hx104_1)).trans hx104_1; replace hx104_2 := (HB.out.cell (World.block_lt_of_cell? w _ hx104_2)).trans hx104_2; replace hx104_3 := (HB.out.cell (World.block_lt_of_cell? w _ hx104_3)).trans hx104_3; replace hx104_4 := (HB.out.cell (World.block_lt_of_cell? w _ hx104_4)).trans hx104_4; replace hx104_5 := (HB.out.cell (World.block_lt_of_cell? w _ hx104_5)).trans hx104_5; replace hx104_6 := (HB.out.cell (World.block_lt_of_cell? w _ hx104_6)).trans hx104_6; replace hx104_7 := (HB.out.cell (World.block_lt_of_cell? w _ hx104_7)).trans hx104_7; replace hx104_8 := (HB.out.cell (World.block_lt_of_cell? w _ hx104_8)).trans hx104_8; replace p104 := eq_true p104; replace q104 := eq_true q104
     go_wp2_with (first | (go_at_call 35; (with_reducible refine (Qav.calls k1 ((Qaj l0 x4_1).f0.f0) ((Qaj l0 x4_1).f0.f1) ((Qaj l0 x4_1).f1) ((Qaj l0 x4_1).f2) ((Qaj l0 x4_1).f3) ((Qaj l0 x4_1).f4.f0) ((Qaj l0 x4_1).f4.f1) ((Qaj l0 x4_1).f5.f0) ((Qaj l0 x4_1).f5.f1) t105 _ A4.out).mono ?_); rintro e w5 ⟨rfl, hb⟩; have n0_ := Qad.mk (Kd.QaA (by (with_reducible repeat (first | apply Kd.Qam | apply Kd.Qan | apply Kd.Qar)); exact HO_3.out) hb); have n1_ := Qad.mk (Qai (by repeat (first | (with_reducible first | exact HB.out | apply Qab | apply Qaa | apply Qac) | exact HB.out)) hb); clear HO_3; clear HB; have HO_3 := n0_; have HB := n1_; clear n0_ n1_; (try clear hb); (try clear hb2); (try clear hk); (try clear hi)))
     repeat (go_quiet (first | (go_at_call 35; (with_reducible refine (Qav.calls k1 ((Qaj l0 x4_1).f0.f0) ((Qaj l0 x4_1).f0.f1) ((Qaj l0 x4_1).f1) ((Qaj l0 x4_1).f2) ((Qaj l0 x4_1).f3) ((Qaj l0 x4_1).f4.f0) ((Qaj l0 x4_1).f4.f1) ((Qaj l0 x4_1).f5.f0) ((Qaj l0 x4_1).f5.f1) t105 _ A4.out).mono ?_); rintro e w5 ⟨rfl, hb⟩; have n0_ := Qad.mk (Kd.QaA (by (with_reducible repeat (first | apply Kd.Qam | apply Kd.Qan | apply Kd.Qar)); exact HO_3.out) hb); have n1_ := Qad.mk (Qai (by repeat (first | (with_reducible first | exact HB.out | apply Qab | apply Qaa | apply Qac) | exact HB.out)) hb); clear HO_3; clear HB; have HO_3 := n0_; have HB := n1_; clear n0_ n1_; (try clear hb); (try clear hb2); (try clear hk); (try clear hi))); try go_wp2_with (first | (go_at_call 35; (with_reducible refine (Qav.calls k1 ((Qaj l0 x4_1).f0.f0) ((Qaj l0 x4_1).f0.f1) ((Qaj l0 x4_1).f1) ((Qaj l0 x4_1).f2) ((Qaj l0 x4_1).f3) ((Qaj l0 x4_1).f4.f0) ((Qaj l0 x4_1).f4.f1) ((Qaj l0 x4_1).f5.f0) ((Qaj l0 x4_1).f5.f1) t105 _ A4.out).mono ?_); rintro e w5 ⟨rfl, hb⟩; have n0_ := Qad.mk (Kd.QaA (by (with_reducible repeat (first | apply Kd.Qam | apply Kd.Qan | apply Kd.Qar)); exact HO_3.out) hb); have n1_ := Qad.mk (Qai (by repeat (first | (with_reducible first | exact HB.out | apply Qab | apply Qaa | apply Qac) | exact HB.out)) hb); clear HO_3; clear HB; have HO_3 := n0_; have HB := n1_; clear n0_ n1_; (try clear hb); (try clear hb2); (try clear hk); (try clear hi))))
     go_loopg [6, 7] k1 (fun kq v6 v7 w' => ∃ (x6_2 : Bool) (x7_2 : Int), v6 = .bool x6_2 ∧ v7 = .int .i64 x7_2 ∧ Qad (Qap.l1 kq l0 x3_1 x4_1 t105 x6_2 x7_2 = some r) ∧ Qad (kq ≤ k1) ∧ Qad (Kd.R k44 44 w' w.heap.size (fun _ => True) u3 x3_1) ∧ Qad (Below w.heap.size w w'))
     case atStart => exact ⟨(false), (0), (by first | rfl | (simp; done) | (simp [*]; done)), (by first | rfl | (simp; done) | (simp [*]; done)), H', ⟨Nat.le_refl _⟩, ⟨by (with_reducible repeat (first | apply Kd.Qam | apply Kd.Qan | apply Kd.Qar)); exact HO_3.out⟩, ⟨by repeat (first | (with_reducible first | exact HB.out | apply Qab | apply Qaa | apply Qac) | exact HB.out)⟩⟩
     case round =>
      clear H'; (try clear p1); (try clear q1); (try clear hx1); (try clear c2); (try clear c2b0); (try clear p2); (try clear c3); (try clear c3b0); (try clear hx104_0); (try clear hx104_1); (try clear hx104_2); (try clear hx104_3); (try clear hx104_4); (try clear hx104_5); (try clear hx104_6); (try clear hx104_7); (try clear hx104_8); (try clear p104); (try clear q104); obtain ⟨x6_2, x7_2, rfl, rfl, HA, HK2, HO_3, HB⟩ := hrel
      cases gk with
      | zero => exact absurd HA.out (by simp [Qap.l1])
      | succ k2 =>
       have H := HA.out; clear HA; simp only [Qap.l1] at H
       by_cases c6 : x7_2 < (x3_1.length : Int)
       ·rw [if_pos c6] at H; have c6b0 : decide (x7_2 < (x3_1.length : Int)) = true := decide_eq_true c6; clear c6
        by_cases c7 : x6_2 = true
        ·subst c7
         have H1 : (Qap.l1 k2 l0 x3_1 x4_1 t105 true (wrap64 (x7_2 + 1))) = some r := by rw [if_pos rfl] at H; exact H
         clear H; have H := H1; clear H1; have H' := Qad.mk H; clear H; obtain ⟨Ao8, co8, eo8⟩ := Kd.R_slice HO_3.out; subst eo8; go_wp2
         repeat (go_quiet (fail); try go_wp2)
         go_roundg k2
         case measure => have := HK1.out; have := HK2.out; omega
         case rel => exact ⟨(true), (wrap64 (x7_2 + 1)), (by first | rfl | (simp; done) | (simp [*]; done)), (by first | rfl | (simp; done) | (simp [*]; done)), H', ⟨by have := HK1.out; have := HK2.out; omega⟩, ⟨by (with_reducible repeat (first | apply Kd.Qam | apply Kd.Qan | apply Kd.Qar)); exact HO_3.out⟩, ⟨by repeat (first | (with_reducible first | exact HB.out | apply Qab | apply Qaa | apply Qac) | exact HB.out)⟩⟩
        ·replace c7 := Bool.eq_false_iff.mpr c7; subst c7
         have H1 : (if 0 ≤ x7_2 then (if 0 ≤ x4_1 then (if x4_1 < (l0.length : Int) then (Qap.l1 k2 l0 x3_1 x4_1 t105 (((Qaj x3_1 x7_2).f0.f0) == ((Qaj l0 x4_1).f0.f0) && (((Qaj x3_1 x7_2).f0.f1) == ((Qaj l0 x4_1).f0.f1))) (wrap64 (x7_2 + 1))) else (none)) else (none)) else (none)) = some r := by rw [if_neg (show ¬ (false = true) by decide)] at H; exact H
         clear H; have H := H1; clear H1
         by_cases c9 : 0 ≤ x7_2
         ·rw [if_pos c9] at H; have c9b0 : decide (0 ≤ x7_2) = true := decide_eq_true c9; clear c9
          by_cases c10 : 0 ≤ x4_1
          ·rw [if_pos c10] at H; have c10b0 : decide (0 ≤ x4_1) = true := decide_eq_true c10; clear c10
           by_cases c11 : x4_1 < (l0.length : Int)
           ·rw [if_pos c11] at H; have c11b0 : decide (x4_1 < (l0.length : Int)) = true := decide_eq_true c11; clear c11; have H' := Qad.mk H; clear H; obtain ⟨Ao12, co12, eo12⟩ := Kd.R_slice HO_3.out; subst eo12; have p106 : 0 ≤ (x7_2 : Int) := of_decide_eq_true (by first | (with_reducible assumption) | assumption); have q106 : x7_2 < (x3_1.length : Int) := of_decide_eq_true (by first | (with_reducible assumption) | assumption); obtain ⟨ad106, e106, hx106_0, hx106_1, hx106_2, hx106_3, hx106_4, hx106_5, hx106_6, hx106_7, hx106_8⟩ := at_T44 (Kd.QaS HO_3.out).2.2 x7_2 p106 q106; cases e106; replace p106 := eq_true p106; replace q106 := eq_true q106; have p107 : 0 ≤ (x4_1 : Int) := of_decide_eq_true (by first | (with_reducible assumption) | assumption); have q107 : x4_1 < (l0.length : Int) := of_decide_eq_true (by first | (with_reducible assumption) | assumption); obtain ⟨ad107, e107, hx107_0, hx107_1, hx107_2, hx107_3, hx107_4, hx107_5, hx107_6, hx107_7, hx107_8⟩ := at_T44 HR0.out x4_1 p107 q107
            obtain rfl : ad104 = ad107 := (by injection e107)
            replace hx107_0 := (HB.out.cell (World.block_lt_of_cell? w _ hx107_0)).trans hx107_0; replace hx107_1 := (HB.out.cell (World.block_lt_of_cell? w _ hx107_1)).trans hx107_1; replace hx107_2 := (HB.out.cell (World.block_lt_of_cell? w _ hx107_2)).trans hx107_2; replace hx107_3 := (HB.out.cell (World.block_lt_of_cell? w _ hx107_3)).trans hx107_3; replace hx107_4 := (HB.out.cell (World.block_lt_of_cell? w _ hx107_4)).trans hx107_4; replace hx107_5 := (HB.out.cell (World.block_lt_of_cell? w _ hx107_5)).trans hx107_5; replace hx107_6 := (HB.out.cell (World.block_lt_of_cell? w _ hx107_6)).trans hx107_6; replace hx107_7 := (HB.out.cell (World.block_lt_of_cell? w _ hx107_7)).trans hx107_7; replace hx107_8 := (HB.out.cell (World.block_lt_of_cell? w _ hx107_8)).trans hx107_8; replace p107 := eq_true p107; replace q107 := eq_true q107; go_wp2
            repeat (go_quiet (fail); try go_wp2)
            go_roundg k2
            case measure => have := HK1.out; have := HK2.out; omega
            case rel => exact ⟨((((Qaj x3_1 x7_2).f0.f0) == ((Qaj l0 x4_1).f0.f0) && (((Qaj x3_1 x7_2).f0.f1) == ((Qaj l0 x4_1).f0.f1)))), (wrap64 (x7_2 + 1)), (by first | rfl | (simp; done) | (simp [*]; done)), (by first | rfl | (simp; done) | (simp [*]; done)), H', ⟨by have := HK1.out; have := HK2.out; omega⟩, ⟨by (with_reducible repeat (first | apply Kd.Qam | apply Kd.Qan | apply Kd.Qar)); exact HO_3.out⟩, ⟨by repeat (first | (with_reducible first | exact HB.out | apply Qab | apply Qaa | apply Qac) | exact HB.out)⟩⟩
           ·rw [if_neg c11] at H; exact absurd H (by simp)
          ·rw [if_neg c10] at H; exact absurd H (by simp)
         ·rw [if_neg c9] at H; exact absurd H (by simp)
       ·rw [if_neg c6] at H; have c6b0 : decide (x7_2 < (x3_1.length : Int)) = false := decide_eq_false c6; clear c6
        by_cases c13 : t105 = true
        ·subst c13
         have H1 : (if x6_2 = true then (Qap.l0 k2 l0 x3_1 (wrap64 (x4_1 + 1))) else (if 0 ≤ x4_1 then (if x4_1 < (l0.length : Int) then (if x3_1.length < 1172812402961 then (Qap.l0 k2 l0 (x3_1 ++ [(⟨(⟨(Qaj l0 x4_1).f0.f0, (Qaj l0 x4_1).f0.f1⟩ : S26), (Qaj l0 x4_1).f1, (Qaj l0 x4_1).f2, (Qaj l0 x4_1).f3, (⟨(Qaj l0 x4_1).f4.f0, (Qaj l0 x4_1).f4.f1⟩ : S24), (⟨(Qaj l0 x4_1).f5.f0, (Qaj l0 x4_1).f5.f1⟩ : S24)⟩ : S44)]) (wrap64 (x4_1 + 1))) else (none)) else (none)) else (none))) = some r := by rw [if_pos rfl] at H; exact H
         clear H; have H := H1; clear H1
         by_cases c14 : x6_2 = true
         ·subst c14
          have H1 : (Qap.l0 k2 l0 x3_1 (wrap64 (x4_1 + 1))) = some r := by rw [if_pos rfl] at H; exact H
          clear H; have H := H1; clear H1; have H' := Qad.mk H; clear H; obtain ⟨Ao15, co15, eo15⟩ := Kd.R_slice HO_3.out; subst eo15; go_wp2
          repeat (go_quiet (fail); try go_wp2)
          go_roundg k2
          case measure => have := HK1.out; have := HK2.out; omega
          case rel => exact ⟨(x3_1), (wrap64 (x4_1 + 1)), (by first | rfl | (simp; done) | (simp [*]; done)), H', ⟨by have := HK1.out; have := HK2.out; omega⟩, ⟨by (with_reducible repeat (first | apply Kd.Qam | apply Kd.Qan | apply Kd.Qar)); exact HO_3.out⟩, ⟨by repeat (first | (with_reducible first | exact HB.out | apply Qab | apply Qaa | apply Qac) | exact HB.out)⟩⟩
         ·replace c14 := Bool.eq_false_iff.mpr c14; subst c14
          have H1 : (if 0 ≤ x4_1 then (if x4_1 < (l0.length : Int) then (if x3_1.length < 1172812402961 then (Qap.l0 k2 l0 (x3_1 ++ [(⟨(⟨(Qaj l0 x4_1).f0.f0, (Qaj l0 x4_1).f0.f1⟩ : S26), (Qaj l0 x4_1).f1, (Qaj l0 x4_1).f2, (Qaj l0 x4_1).f3, (⟨(Qaj l0 x4_1).f4.f0, (Qaj l0 x4_1).f4.f1⟩ : S24), (⟨(Qaj l0 x4_1).f5.f0, (Qaj l0 x4_1).f5.f1⟩ : S24)⟩ : S44)]) (wrap64 (x4_1 + 1))) else (none)) else (none)) else (none)) = some r := by rw [if_neg (show ¬ (false = true) by decide)] at H; exact H
          clear H; have H := H1; clear H1
          by_cases c16 : 0 ≤ x4_1
          ·rw [if_pos c16] at H; have c16b0 : decide (0 ≤ x4_1) = true := decide_eq_true c16; clear c16
           by_cases c17 : x4_1 < (l0.length : Int)
           ·rw [if_pos c17] at H; have c17b0 : decide (x4_1 < (l0.length : Int)) = true := decide_eq_true c17; clear c17
            by_cases c18 : x3_1.length < 1172812402961
            ·rw [if_pos c18] at H; have LMc18 := Qad.mk c18; clear c18
             obtain ⟨y109, hy109⟩ : ∃ y_ : List (S44), y_ = (x3_1 ++ [(⟨(⟨(Qaj l0 x4_1).f0.f0, (Qaj l0 x4_1).f0.f1⟩ : S26), (Qaj l0 x4_1).f1, (Qaj l0 x4_1).f2, (Qaj l0 x4_1).f3, (⟨(Qaj l0 x4_1).f4.f0, (Qaj l0 x4_1).f4.f1⟩ : S24), (⟨(Qaj l0 x4_1).f5.f0, (Qaj l0 x4_1).f5.f1⟩ : S24)⟩ : S44)]) := ⟨_, rfl⟩
             replace H : (Qap.l0 k2 l0 y109 (wrap64 (x4_1 + 1))) = some r := by first | (rw [hy109]; with_reducible exact H) | (have H2_ := (Option.bind_some _ _).symm.trans H; rw [hy109]; with_reducible exact H2_) | (have H2_ := (Option.bind_some _ _).symm.trans H; with_reducible exact H2_) | with_reducible exact H | (rw [hy109]; exact H) | exact H
             have Ny109 := Qad.mk hy109; clear hy109; have H' := Qad.mk H; clear H; obtain ⟨Ao19, co19, eo19⟩ := Kd.R_slice HO_3.out; subst eo19; have p108 : 0 ≤ (x4_1 : Int) := of_decide_eq_true (by first | (with_reducible assumption) | assumption); have q108 : x4_1 < (l0.length : Int) := of_decide_eq_true (by first | (with_reducible assumption) | assumption); obtain ⟨ad108, e108, hx108_0, hx108_1, hx108_2, hx108_3, hx108_4, hx108_5, hx108_6, hx108_7, hx108_8⟩ := at_T44 HR0.out x4_1 p108 q108
             obtain rfl : ad104 = ad108 := (by injection e108)
             replace hx108_0 := (HB.out.cell (World.block_lt_of_cell? w _ hx108_0)).trans hx108_0; replace hx108_1 := (HB.out.cell (World.block_lt_of_cell? w _ hx108_1)).trans hx108_1; replace hx108_2 := (HB.out.cell (World.block_lt_of_cell? w _ hx108_2)).trans hx108_2; replace hx108_3 := (HB.out.cell (World.block_lt_of_cell? w _ hx108_3)).trans hx108_3; replace hx108_4 := (HB.out.cell (World.block_lt_of_cell? w _ hx108_4)).trans hx108_4; replace hx108_5 := (HB.out.cell (World.block_lt_of_cell? w _ hx108_5)).trans hx108_5; replace hx108_6 := (HB.out.cell (World.block_lt_of_cell? w _ hx108_6)).trans hx108_6; replace hx108_7 := (HB.out.cell (World.block_lt_of_cell? w _ hx108_7)).trans hx108_7; replace hx108_8 := (HB.out.cell (World.block_lt_of_cell? w _ hx108_8)).trans hx108_8; replace p108 := eq_true p108; replace q108 := eq_true q108
             go_wp2_with (first | ((with_reducible refine gate_builtin (b := .append) (xs := #[.tmp 44, .tmp 49]) rfl ?_); at_builtin; refine Kd.R_append k44 (w0 := w) w.heap.size rfl (.tmp 44) (.tmp 49) 22 44 (.agg #[(.int .i64 0), (.int .i64 0), (.string ⟨#[]⟩), (.int .i64 0), (.string ⟨#[]⟩), (.string ⟨#[]⟩), (.string ⟨#[]⟩), (.string ⟨#[]⟩), (.string ⟨#[]⟩)]) 120 rfl Tryd.underlying22 info44 rfl (by decide) (by omega) (.slice Ao19 x3_1.length co19) x3_1 (⟨(⟨(Qaj l0 x4_1).f0.f0, (Qaj l0 x4_1).f0.f1⟩ : S26), (Qaj l0 x4_1).f1, (Qaj l0 x4_1).f2, (Qaj l0 x4_1).f3, (⟨(Qaj l0 x4_1).f4.f0, (Qaj l0 x4_1).f4.f1⟩ : S24), (⟨(Qaj l0 x4_1).f5.f0, (Qaj l0 x4_1).f5.f1⟩ : S24)⟩ : S44) [.int .i64 ((Qaj l0 x4_1).f0.f0), .int .i64 ((Qaj l0 x4_1).f0.f1), .string ((Qaj l0 x4_1).f1), .int .i64 ((Qaj l0 x4_1).f2), .string ((Qaj l0 x4_1).f3), .string ((Qaj l0 x4_1).f4.f0), .string ((Qaj l0 x4_1).f4.f1), .string ((Qaj l0 x4_1).f5.f0), .string ((Qaj l0 x4_1).f5.f1)] (fun _ => True) (fun _ => False) rfl rfl ?aP (fun _ hk => hk.elim) ?aF ?aO ?aB ?aS ?aL ?_; (case aP => exact k44_mkM _ _ _ (⟨(⟨(Qaj l0 x4_1).f0.f0, (Qaj l0 x4_1).f0.f1⟩ : S26), (Qaj l0 x4_1).f1, (Qaj l0 x4_1).f2, (Qaj l0 x4_1).f3, (⟨(Qaj l0 x4_1).f4.f0, (Qaj l0 x4_1).f4.f1⟩ : S24), (⟨(Qaj l0 x4_1).f5.f0, (Qaj l0 x4_1).f5.f1⟩ : S24)⟩ : S44)); (case aB => exact (by repeat (first | (with_reducible first | exact HB.out | apply Qab | apply Qaa | apply Qac) | exact HB.out))); (case aF => exact (fun _ _ => trivial)); (case aO => exact (by (with_reducible repeat (first | apply Kd.Qam | apply Kd.Qan | apply Kd.Qar)); exact HO_3.out)); (case aS => exact (Qaq (by repeat (first | (with_reducible first | exact HB.out | apply Qab | apply Qaa | apply Qac) | exact HB.out)))); (case aL => have := LMc18.out; omega); intro v110 w20 ho hb hg hat; rw [← Ny109.out] at ho; have n0_ := Qad.mk (hb); have n1_ := Qad.mk (ho); clear HB; clear HO_3; have HB := n0_; have HO111 := n1_; clear n0_ n1_; clear ho hb hg hat))
             repeat (go_quiet (first | ((with_reducible refine gate_builtin (b := .append) (xs := #[.tmp 44, .tmp 49]) rfl ?_); at_builtin; refine Kd.R_append k44 (w0 := w) w.heap.size rfl (.tmp 44) (.tmp 49) 22 44 (.agg #[(.int .i64 0), (.int .i64 0), (.string ⟨#[]⟩), (.int .i64 0), (.string ⟨#[]⟩), (.string ⟨#[]⟩), (.string ⟨#[]⟩), (.string ⟨#[]⟩), (.string ⟨#[]⟩)]) 120 rfl Tryd.underlying22 info44 rfl (by decide) (by omega) (.slice Ao19 x3_1.length co19) x3_1 (⟨(⟨(Qaj l0 x4_1).f0.f0, (Qaj l0 x4_1).f0.f1⟩ : S26), (Qaj l0 x4_1).f1, (Qaj l0 x4_1).f2, (Qaj l0 x4_1).f3, (⟨(Qaj l0 x4_1).f4.f0, (Qaj l0 x4_1).f4.f1⟩ : S24), (⟨(Qaj l0 x4_1).f5.f0, (Qaj l0 x4_1).f5.f1⟩ : S24)⟩ : S44) [.int .i64 ((Qaj l0 x4_1).f0.f0), .int .i64 ((Qaj l0 x4_1).f0.f1), .string ((Qaj l0 x4_1).f1), .int .i64 ((Qaj l0 x4_1).f2), .string ((Qaj l0 x4_1).f3), .string ((Qaj l0 x4_1).f4.f0), .string ((Qaj l0 x4_1).f4.f1), .string ((Qaj l0 x4_1).f5.f0), .string ((Qaj l0 x4_1).f5.f1)] (fun _ => True) (fun _ => False) rfl rfl ?aP (fun _ hk => hk.elim) ?aF ?aO ?aB ?aS ?aL ?_; (case aP => exact k44_mkM _ _ _ (⟨(⟨(Qaj l0 x4_1).f0.f0, (Qaj l0 x4_1).f0.f1⟩ : S26), (Qaj l0 x4_1).f1, (Qaj l0 x4_1).f2, (Qaj l0 x4_1).f3, (⟨(Qaj l0 x4_1).f4.f0, (Qaj l0 x4_1).f4.f1⟩ : S24), (⟨(Qaj l0 x4_1).f5.f0, (Qaj l0 x4_1).f5.f1⟩ : S24)⟩ : S44)); (case aB => exact (by repeat (first | (with_reducible first | exact HB.out | apply Qab | apply Qaa | apply Qac) | exact HB.out))); (case aF => exact (fun _ _ => trivial)); (case aO => exact (by (with_reducible repeat (first | apply Kd.Qam | apply Kd.Qan | apply Kd.Qar)); exact HO_3.out)); (case aS => exact (Qaq (by repeat (first | (with_reducible first | exact HB.out | apply Qab | apply Qaa | apply Qac) | exact HB.out)))); (case aL => have := LMc18.out; omega); intro v110 w20 ho hb hg hat; rw [← Ny109.out] at ho; have n0_ := Qad.mk (hb); have n1_ := Qad.mk (ho); clear HB; clear HO_3; have HB := n0_; have HO111 := n1_; clear n0_ n1_; clear ho hb hg hat)); try go_wp2_with (first | ((with_reducible refine gate_builtin (b := .append) (xs := #[.tmp 44, .tmp 49]) rfl ?_); at_builtin; refine Kd.R_append k44 (w0 := w) w.heap.size rfl (.tmp 44) (.tmp 49) 22 44 (.agg #[(.int .i64 0), (.int .i64 0), (.string ⟨#[]⟩), (.int .i64 0), (.string ⟨#[]⟩), (.string ⟨#[]⟩), (.string ⟨#[]⟩), (.string ⟨#[]⟩), (.string ⟨#[]⟩)]) 120 rfl Tryd.underlying22 info44 rfl (by decide) (by omega) (.slice Ao19 x3_1.length co19) x3_1 (⟨(⟨(Qaj l0 x4_1).f0.f0, (Qaj l0 x4_1).f0.f1⟩ : S26), (Qaj l0 x4_1).f1, (Qaj l0 x4_1).f2, (Qaj l0 x4_1).f3, (⟨(Qaj l0 x4_1).f4.f0, (Qaj l0 x4_1).f4.f1⟩ : S24), (⟨(Qaj l0 x4_1).f5.f0, (Qaj l0 x4_1).f5.f1⟩ : S24)⟩ : S44) [.int .i64 ((Qaj l0 x4_1).f0.f0), .int .i64 ((Qaj l0 x4_1).f0.f1), .string ((Qaj l0 x4_1).f1), .int .i64 ((Qaj l0 x4_1).f2), .string ((Qaj l0 x4_1).f3), .string ((Qaj l0 x4_1).f4.f0), .string ((Qaj l0 x4_1).f4.f1), .string ((Qaj l0 x4_1).f5.f0), .string ((Qaj l0 x4_1).f5.f1)] (fun _ => True) (fun _ => False) rfl rfl ?aP (fun _ hk => hk.elim) ?aF ?aO ?aB ?aS ?aL ?_; (case aP => exact k44_mkM _ _ _ (⟨(⟨(Qaj l0 x4_1).f0.f0, (Qaj l0 x4_1).f0.f1⟩ : S26), (Qaj l0 x4_1).f1, (Qaj l0 x4_1).f2, (Qaj l0 x4_1).f3, (⟨(Qaj l0 x4_1).f4.f0, (Qaj l0 x4_1).f4.f1⟩ : S24), (⟨(Qaj l0 x4_1).f5.f0, (Qaj l0 x4_1).f5.f1⟩ : S24)⟩ : S44)); (case aB => exact (by repeat (first | (with_reducible first | exact HB.out | apply Qab | apply Qaa | apply Qac) | exact HB.out))); (case aF => exact (fun _ _ => trivial)); (case aO => exact (by (with_reducible repeat (first | apply Kd.Qam | apply Kd.Qan | apply Kd.Qar)); exact HO_3.out)); (case aS => exact (Qaq (by repeat (first | (with_reducible first | exact HB.out | apply Qab | apply Qaa | apply Qac) | exact HB.out)))); (case aL => have := LMc18.out; omega); intro v110 w20 ho hb hg hat; rw [← Ny109.out] at ho; have n0_ := Qad.mk (hb); have n1_ := Qad.mk (ho); clear HB; clear HO_3; have HB := n0_; have HO111 := n1_; clear n0_ n1_; clear ho hb hg hat)))
             go_roundg k2
             case measure => have := HK1.out; have := HK2.out; omega
             case rel => exact ⟨(y109), (wrap64 (x4_1 + 1)), (by first | rfl | (simp; done) | (simp [*]; done)), H', ⟨by have := HK1.out; have := HK2.out; omega⟩, ⟨by (with_reducible repeat (first | apply Kd.Qam | apply Kd.Qan | apply Kd.Qar)); exact HO111.out⟩, ⟨by repeat (first | (with_reducible first | exact HB.out | apply Qab | apply Qaa | apply Qac) | exact HB.out)⟩⟩
            ·rw [if_neg c18] at H; exact absurd H (by simp)
           ·rw [if_neg c17] at H; exact absurd H (by simp)
          ·rw [if_neg c16] at H; exact absurd H (by simp)
        ·replace c13 := Bool.eq_false_iff.mpr c13; subst c13
         have H1 : (Qap.l0 k2 l0 x3_1 (wrap64 (x4_1 + 1))) = some r := by rw [if_neg (show ¬ (false = true) by decide)] at H; exact H
         clear H; have H := H1; clear H1; have H' := Qad.mk H; clear H; obtain ⟨Ao21, co21, eo21⟩ := Kd.R_slice HO_3.out; subst eo21; go_wp2
         repeat (go_quiet (fail); try go_wp2)
         go_roundg k2
         case measure => have := HK1.out; have := HK2.out; omega
         case rel => exact ⟨(x3_1), (wrap64 (x4_1 + 1)), (by first | rfl | (simp; done) | (simp [*]; done)), H', ⟨by have := HK1.out; have := HK2.out; omega⟩, ⟨by (with_reducible repeat (first | apply Kd.Qam | apply Kd.Qan | apply Kd.Qar)); exact HO_3.out⟩, ⟨by repeat (first | (with_reducible first | exact HB.out | apply Qab | apply Qaa | apply Qac) | exact HB.out)⟩⟩
    ·rw [if_neg c3] at H; exact absurd H (by simp)
   ·rw [if_neg c2] at H; have c2b0 : decide (x4_1 < (l0.length : Int)) = false := decide_eq_false c2; clear c2; replace H := Option.bind_eq_some_iff.mp H; obtain ⟨t101, A220, H⟩ := H; replace H : (some t101) = some r := H; have A22 := Qad.mk A220; clear A220; obtain rfl := Option.some.inj H; obtain ⟨Ao23, co23, eo23⟩ := Kd.R_slice HO_3.out; subst eo23
    go_wp2_with (first | (go_at_call 36; (with_reducible refine (Qat.calls k1 (fun k_ => some k_ = (.slice Ao23 x3_1.length co23 : Value).ownBlock) _ _ x3_1 t101 _ ?side1 A22.out).mono ?_); (case side1 => exact Kd.R_V (Kd.R_tight rfl (HO_3.out))); rintro e w24 ⟨v102, rfl, ho0, hb⟩; have n0_ := Qad.mk (Kd.R_elder' (by (with_reducible repeat (first | apply Kd.Qam | apply Kd.Qan | apply Kd.Qar)); exact HO_3.out) (Kd.R_base ho0) hb); have n1_ := Qad.mk (Kd.R_lower (Kd.R_new' (Kd.R_mono (ok' := fun k_ => True) ho0 (fun _ hk_ => trivial)) (Kd.R_lt (by (with_reducible repeat (first | apply Kd.Qam | apply Kd.Qan | apply Kd.Qar)); exact HO_3.out))) (Qaq (by repeat (first | (with_reducible first | exact HB.out | apply Qab | apply Qaa | apply Qac) | exact HB.out)))); have n2_ := Qad.mk (Qai (by repeat (first | (with_reducible first | exact HB.out | apply Qab | apply Qaa | apply Qac) | exact HB.out)) hb); clear HO_3; clear HB; have HO_3 := n0_; have HO103 := n1_; have HB := n2_; clear n0_ n1_ n2_; (try clear hb); (try clear hb2); (try clear hk); (try clear hi); (try clear ho0)))
    repeat (go_quiet (first | (go_at_call 36; (with_reducible refine (Qat.calls k1 (fun k_ => some k_ = (.slice Ao23 x3_1.length co23 : Value).ownBlock) _ _ x3_1 t101 _ ?side1 A22.out).mono ?_); (case side1 => exact Kd.R_V (Kd.R_tight rfl (HO_3.out))); rintro e w24 ⟨v102, rfl, ho0, hb⟩; have n0_ := Qad.mk (Kd.R_elder' (by (with_reducible repeat (first | apply Kd.Qam | apply Kd.Qan | apply Kd.Qar)); exact HO_3.out) (Kd.R_base ho0) hb); have n1_ := Qad.mk (Kd.R_lower (Kd.R_new' (Kd.R_mono (ok' := fun k_ => True) ho0 (fun _ hk_ => trivial)) (Kd.R_lt (by (with_reducible repeat (first | apply Kd.Qam | apply Kd.Qan | apply Kd.Qar)); exact HO_3.out))) (Qaq (by repeat (first | (with_reducible first | exact HB.out | apply Qab | apply Qaa | apply Qac) | exact HB.out)))); have n2_ := Qad.mk (Qai (by repeat (first | (with_reducible first | exact HB.out | apply Qab | apply Qaa | apply Qac) | exact HB.out)) hb); clear HO_3; clear HB; have HO_3 := n0_; have HO103 := n1_; have HB := n2_; clear n0_ n1_ n2_; (try clear hb); (try clear hb2); (try clear hk); (try clear hi); (try clear ho0))); try go_wp2_with (first | (go_at_call 36; (with_reducible refine (Qat.calls k1 (fun k_ => some k_ = (.slice Ao23 x3_1.length co23 : Value).ownBlock) _ _ x3_1 t101 _ ?side1 A22.out).mono ?_); (case side1 => exact Kd.R_V (Kd.R_tight rfl (HO_3.out))); rintro e w24 ⟨v102, rfl, ho0, hb⟩; have n0_ := Qad.mk (Kd.R_elder' (by (with_reducible repeat (first | apply Kd.Qam | apply Kd.Qan | apply Kd.Qar)); exact HO_3.out) (Kd.R_base ho0) hb); have n1_ := Qad.mk (Kd.R_lower (Kd.R_new' (Kd.R_mono (ok' := fun k_ => True) ho0 (fun _ hk_ => trivial)) (Kd.R_lt (by (with_reducible repeat (first | apply Kd.Qam | apply Kd.Qan | apply Kd.Qar)); exact HO_3.out))) (Qaq (by repeat (first | (with_reducible first | exact HB.out | apply Qab | apply Qaa | apply Qac) | exact HB.out)))); have n2_ := Qad.mk (Qai (by repeat (first | (with_reducible first | exact HB.out | apply Qab | apply Qaa | apply Qac) | exact HB.out)) hb); clear HO_3; clear HB; have HO_3 := n0_; have HO103 := n1_; have HB := n2_; clear n0_ n1_ n2_; (try clear hb); (try clear hb2); (try clear hk); (try clear hi); (try clear ho0))))
    go_ret; exact ⟨_, by first | rfl | (simp [Qaz, Qay] <;> rfl) | (simp [*, Qaz, Qay] <;> rfl), by (with_reducible repeat (first | apply Kd.Qam | apply Kd.Qan | apply Kd.Qar)); exact Kd.R_mono HO103.out (fun _ hk => trivial), by repeat (first | (with_reducible first | exact HB.out | apply Qab | apply Qaa | apply Qac) | exact HB.out)⟩
end Go.Proofs.YtmaipohgahdclaaDoor.Pr
end
section
namespace Go.Proofs.YtmaipohgahdclaaDoor.Pr
open Go.RowKit Go.Proofs.YtmaipohgahdclaaDoorW.PrintWords Go.Proofs.YtmaipohgahdclaaDoorW.PrintLast Go.Proofs.YtmaipohgahdclaaDoorW.PrintMore
attribute [local go_sem] max2_int min2_int max_two min_two QaQ QaP max_four min_four
set_option linter.unusedVariables false
set_option linter.unusedSimpArgs false





end Go.Proofs.YtmaipohgahdclaaDoor.Pr
end
