/- The proof's own texts, joined: part 8. No conditions. -/
import Derived.Test.YtbjjgaahdnfflaaGreatDoorProg
import Derived.Below
import Derived.Deep.Draws
import Derived.Deep.AppendLies
import Derived.Maps.AppendAt
import Derived.OwnWalk
import Derived.Laws.BytesArg
import Derived.Laws.MakeOwn
import Derived.Laws.OwnMore
import Derived.Deep.OwnRows
import Derived.Tactics
import Derived.Lib.ConvBytes
import Derived.Laws.Slices
import Derived.WalkKit
import Derived.KernelRfl
import Derived.RowKit3
import Derived.Deep.LoopGhost
import Derived.Deep.QuietTactic
import Derived.BigQuiet
import Derived.WideLaws
import Derived.Deep.DeepCutAuto
import Derived.Deep.CutBlock
import Derived.Deep.RegionHeld3
import Derived.Laws.Rows
import Derived.Lib.AppendStr
import Derived.ArgAppend
import Derived.Laws.IdiomCopy
import Derived.OrdersHeld
import Derived.Laws.BitsLemmas
import Derived.RowKit
import Derived.Laws.StructEq
import Derived.WalkSpells
import Derived.WalkLawsBesides
import Derived.Lib.Hide
import Derived.Deep.RegionWith
import Derived.RegionTactic
import Derived.ChangeAlike
import Derived.Deep.RegionLaw
import Derived.Lib.SmallJoins
import Derived.Lib.SlicesS
import Derived.StillTailTactics
import Derived.Outline
import Derived.Deep.DrawnRows
import Derived.DeepKeys4
import Derived.Laws.RangeAny
import Derived.Laws.Closers25
import Derived.Sort.Walk0
import Derived.Laws.Strings
import Derived.Shelf.SlicesE.Clone
import Derived.Shelf.SlSortCmp.NoneTotal
import Derived.Shelf.SlicesG.Cmp
import Derived.Sort.Grow
import Derived.Shelf.GgSortFunc.InsertionK
import Derived.Shelf.SlSortCmp.WholeK
import Derived.Ground.SlsfProg
import Derived.Ground.SlgnProg
import Derived.Ground.SlgcProg
import Derived.Maps.OwnSet
import Derived.Maps.RangeRun
import Derived.Maps.Range
import Derived.Carry
import Derived.Sort.LotA
import Derived.Test.YtbjjgaahdnfflaaGreatDoorPAlone0
import Derived.Test.YtbjjgaahdnfflaaGreatDoorPAlone1
import Derived.Test.YtbjjgaahdnfflaaGreatDoorPAlone2
import Derived.Test.YtbjjgaahdnfflaaGreatDoorPAlone3
import Derived.Test.YtbjjgaahdnfflaaGreatDoorPAlone4
import Derived.Test.YtbjjgaahdnfflaaGreatDoorPAlone5
import Derived.Test.YtbjjgaahdnfflaaGreatDoorPAlone6
import Derived.Test.YtbjjgaahdnfflaaGreatDoorPAlone7
section
namespace Go.Proofs.YtbjjgaahdnfflaaGreatDoor.Pr
open Go.RowKit Go.Proofs.YtbjjgaahdnfflaaGreatDoorW.PrintWords Go.Proofs.YtbjjgaahdnfflaaGreatDoorW.PrintLast Go.Proofs.YtbjjgaahdnfflaaGreatDoorW.PrintMore
set_option linter.unusedVariables false
set_option linter.unusedSimpArgs false
section
attribute [local go_sem] QaQ QaO QaZ QaY QaJ QaI QaP QaN
mutual
def QaB.l0 : Nat → List (S46) → List (S51) → List (S51) → Int → Option ((List (S51)))
 | 0, _, _, _, _ => none
 | k + 1, x0, x1, x5, x6 => if x6 < (x0.length : Int) then (if 0 ≤ x6 then ((Qab.f k ((Qae x0 x6).f0.f0) ((Qae x0 x6).f0.f1) ((Qae x0 x6).f1) ((Qae x0 x6).f2) ((Qae x0 x6).f3) ((Qae x0 x6).f4.f0) ((Qae x0 x6).f4.f1) ((Qae x0 x6).f5.f0) ((Qae x0 x6).f5.f1) x1).bind fun t105 => (QaB.l1 k x0 x1 x5 x6 t105 0)) else (none)) else (some x5)
def QaB.l1 : Nat → List (S46) → List (S51) → List (S51) → Int → List (S51) → Int → Option ((List (S51)))
 | 0, _, _, _, _, _, _ => none
 | k + 1, x0, x1, x5, x6, x7, x8 => if x8 < (x7.length : Int) then (if 0 ≤ x8 then ((QaT.f k x5 ((Qaq x7 x8).f0.f0) ((Qaq x7 x8).f0.f1) ((Qaq x7 x8).f1)).bind fun t109 => (if t109 = true then (QaB.l1 k x0 x1 x5 x6 x7 (wrap64 (x8 + 1))) else (if x5.length < 2932031007402 then (QaB.l1 k x0 x1 (x5 ++ [(⟨(⟨(Qaq x7 x8).f0.f0, (Qaq x7 x8).f0.f1⟩ : S24), (Qaq x7 x8).f1⟩ : S51)]) x6 x7 (wrap64 (x8 + 1))) else (none)))) else (none)) else (QaB.l0 k x0 x1 x5 (wrap64 (x6 + 1)))
end
def QaB.f (k : Nat) (l0 : List (S46)) (l1 : List (S51)) : Option ((List (S51))) := if ([] : List (S51)).length + l1.length < 2932031007402 then (QaB.l0 k l0 l1 (([] : List (S51)) ++ l1) 0) else (none)
set_option maxHeartbeats 8000000 in
set_option maxRecDepth 100000 in
theorem QaB.calls (k : Nat) (A0 : Option Addr) (c0 : Nat) (l0 : List (S46)) (A1 : Option Addr) (c1 : Nat) (l1 : List (S51)) (r : List (S51)) (w : World) (hr0 : Kd.C k46 w A0 l0.length l0) (hc0 : l0.length ≤ c0) (hr1 : Kd.C k51 w A1 l1.length l1) (hc1 : l1.length ≤ c1) (h : QaB.f k l0 l1 = some r) :
  Calls Tryz.prog 27 #[.slice A0 l0.length c0, .slice A1 l1.length c1] w fun e w' => ∃ v0_ : Value, e = .returned (v0_) ∧ Kd.R k51 51 w' w.heap.size (fun _ => True) v0_ r ∧ Below w.heap.size w w' := by
 have hu46 := Tryz.underlying46; have hu51 := Tryz.underlying51; have HR0 := Qaa.mk hr0; have HC0 := Qaa.mk hc0; clear hr0 hc0; have HR1 := Qaa.mk hr1; have HC1 := Qaa.mk hc1; clear hr1 hc1; have HB := Qaa.mk (Below.refl w.heap.size w); have H : (if ([] : List (S51)).length + l1.length < 2932031007402 then (QaB.l0 k l0 l1 (([] : List (S51)) ++ l1) 0) else (none)) = some r := h; clear h
 by_cases c3 : ([] : List (S51)).length + l1.length < 2932031007402
 ·rw [if_pos c3] at H; have LMc3 := Qaa.mk c3; clear c3
  obtain ⟨y101, hy101⟩ : ∃ y_ : List (S51), y_ = (([] : List (S51)) ++ l1) := ⟨_, rfl⟩
  replace H : (QaB.l0 k l0 l1 y101 0) = some r := by first | (rw [hy101]; with_reducible exact H) | (have H2_ := (Option.bind_some _ _).symm.trans H; rw [hy101]; with_reducible exact H2_) | (have H2_ := (Option.bind_some _ _).symm.trans H; with_reducible exact H2_) | with_reducible exact H | (rw [hy101]; exact H) | exact H
  have Ny101 := Qaa.mk hy101; clear hy101; have H' := Qaa.mk H; clear H; go_enter Tryz.func27, Tryz.ntmps27
  go_wp2_with (first | ((with_reducible refine Qa3 (b := .append) (xs := #[.tmp 10, .tmp 11]) rfl ?_); at_builtin; refine Kd.Qb6 k51 (w0 := w) w.heap.size rfl (.tmp 10) (.tmp 11) 48 51 (.agg #[(.string ⟨#[]⟩), (.string ⟨#[]⟩), (.string ⟨#[]⟩)]) 48 rfl Tryz.underlying48 info51 rfl (by decide) (by omega) (.slice none 0 0) ([] : List (S51)) l1 _ _ _ (fun _ => True) (fun _ => False) rfl rfl ?aO ?aR (fun _ _ h => h) (fun _ h => h.elim) ?aF ?aB ?aS ?aL ?_; (case aR => repeat (first | exact HR1.out | (with_reducible refine Kd.C_alloc ?_ _) | (with_reducible refine Kd.C_drewN ?_ _) | (with_reducible refine Kd.C_drew ?_))); (case aB => exact bw_); (case aF => exact (fun _ _ => trivial)); (case aO => exact ((Kd.R_nil _ _ _ _ (fun _ => True)))); (case aS => exact (QaD bw_)); (case aL => have := LMc3.out; omega); intro v102 w4 ho hb hg hat; rw [← Ny101.out] at ho; have HO103 := Qaa.mk (ho); replace HB := Qaa.mk (hb); clear ho hb hg hat))
  go_loopg [5, 6] k (fun kq v5 v6 w' => ∃ (x5_1 : List (S51)) (x6_1 : Int), v6 = .int .i64 x6_1 ∧ Qaa (QaB.l0 kq l0 l1 x5_1 x6_1 = some r) ∧ Qaa (kq ≤ k) ∧ Qaa (Kd.R k51 51 w' w.heap.size (fun _ => True) v5 x5_1) ∧ Qaa (Below w.heap.size w w'))
  case atStart => exact ⟨(y101), (0), (by first | rfl | (simp; done) | (simp [*]; done)), H', ⟨Nat.le_refl _⟩, ⟨by (with_reducible repeat (first | apply Kd.Qax | apply Kd.Qay | apply Kd.QaE)); exact HO103.out⟩, ⟨bw_⟩⟩
  case round =>
   clear H'; (try clear c1); (try clear c2); (try clear p2); (try clear c3); obtain ⟨x5_1, x6_1, rfl, HA, HK1, HO_5, HB⟩ := hrel
   cases gk with
   | zero => exact absurd HA.out (by simp [QaB.l0])
   | succ k1 =>
    have H := HA.out; clear HA; simp only [QaB.l0] at H
    by_cases c5 : x6_1 < (l0.length : Int)
    ·rw [if_pos c5] at H; have c5b0 : decide (x6_1 < (l0.length : Int)) = true := decide_eq_true c5; clear c5
     by_cases c6 : 0 ≤ x6_1
     ·rw [if_pos c6] at H; have c6b0 : decide (0 ≤ x6_1) = true := decide_eq_true c6; clear c6; replace H := Option.bind_eq_some_iff.mp H; obtain ⟨t105, A70, H⟩ := H; replace H : (QaB.l1 k1 l0 l1 x5_1 x6_1 t105 0) = some r := H; have A7 := Qaa.mk A70; clear A70; have H' := Qaa.mk H; clear H; have p104 : 0 ≤ (x6_1 : Int) := dd_; have q104 : x6_1 < (l0.length : Int) := dd_; obtain ⟨ad104, e104, hx104_0, hx104_1, hx104_2, hx104_3, hx104_4, hx104_5, hx104_6, hx104_7, hx104_8⟩ := Qcr HR0.out x6_1 p104 q104; cases e104; replace hx104_0 := cb_ HB hx104_0; replace hx104_1 := cb_ HB hx104_1; replace hx104_2 := cb_ HB hx104_2; replace hx104_3 := cb_ HB hx104_3; replace hx104_4 := cb_ HB hx104_4; replace hx104_5 := cb_ HB hx104_5; replace hx104_6 := cb_ HB hx104_6; replace hx104_7 := cb_ HB hx104_7; replace hx104_8 := cb_ HB hx104_8; replace p104 := eq_true p104; replace q104 := eq_true q104
      go_wp2_with (first | ((with_reducible refine Qa5 (f := 41) rfl ?_); refine gL 24 Tryz.func41 #[.agg #[.int .i64 ((Qae l0 x6_1).f0.f0), .int .i64 ((Qae l0 x6_1).f0.f1), .string ((Qae l0 x6_1).f1), .int .i64 ((Qae l0 x6_1).f2), .string ((Qae l0 x6_1).f3), .string ((Qae l0 x6_1).f4.f0), .string ((Qae l0 x6_1).f4.f1), .string ((Qae l0 x6_1).f5.f0), .string ((Qae l0 x6_1).f5.f1)], .slice A1 l1.length c1] ?_; (with_reducible refine (Qab.calls k1 ((Qae l0 x6_1).f0.f0) ((Qae l0 x6_1).f0.f1) ((Qae l0 x6_1).f1) ((Qae l0 x6_1).f2) ((Qae l0 x6_1).f3) ((Qae l0 x6_1).f4.f0) ((Qae l0 x6_1).f4.f1) ((Qae l0 x6_1).f5.f0) ((Qae l0 x6_1).f5.f1) _ _ l1 t105 _ ?side1 ?side2 A7.out).mono ?_); (case side1 => exact kd_ (Kd.Qbc HR1.out HB.out)); (case side2 => exact HC1.out); rintro e w8 ⟨v106, rfl, ho0, hb⟩; refine ⟨_, rfl, ?_⟩; have HO107 := Qaa.mk (Kd.Qa7 (Kd.R_new' ho0 (Kd.R_lt (ro_ HO_5))) (QaD bw_)); replace HO_5 := Qaa.mk (Kd.Qch (ro_ HO_5) (Kd.Qb0 ho0) hb); replace HB := Qaa.mk (Qad bw_ hb); (try clear hb); (try clear hb2); (try clear hk); (try clear hi); (try clear ho0)))
      go_loopg [5, 8] k1 (fun kq v5 v8 w' => ∃ (x5_2 : List (S51)) (x8_2 : Int), v8 = .int .i64 x8_2 ∧ Qaa (QaB.l1 kq l0 l1 x5_2 x6_1 t105 x8_2 = some r) ∧ Qaa (kq ≤ k1) ∧ Qaa (Kd.R k51 51 w' w.heap.size (fun k_ => some k_ ≠ (v106 : Value).ownBlock) v5 x5_2) ∧ Qaa (Kd.R k51 51 w' w.heap.size (fun k_ => some k_ ≠ (v5 : Value).ownBlock) v106 t105) ∧ Qaa (Below w.heap.size w w'))
      case atStart => exact ⟨(x5_1), (0), (by first | rfl | (simp; done) | (simp [*]; done)), H', ⟨Nat.le_refl _⟩, ⟨by (with_reducible repeat (first | apply Kd.Qax | apply Kd.Qay | apply Kd.QaE)); exact Kd.QaL HO_5.out (fun _ hk => hk.2)⟩, ⟨by (with_reducible repeat (first | apply Kd.Qax | apply Kd.Qay | apply Kd.QaE)); exact Kd.QaL HO107.out (fun _ hk => hk.2)⟩, ⟨bw_⟩⟩
      case round =>
       clear H'; (try clear c1); (try clear p1); (try clear q1); (try clear hx1); (try clear c2); (try clear p2); (try clear c3); (try clear c4); (try clear c5); (try clear c5b0); (try clear c6); (try clear c6b0); (try clear hx104_0); (try clear hx104_1); (try clear hx104_2); (try clear hx104_3); (try clear hx104_4); (try clear hx104_5); (try clear hx104_6); (try clear hx104_7); (try clear hx104_8); (try clear p104); (try clear p2); (try clear q104); obtain ⟨x5_2, x8_2, rfl, HA, HK2, HO_5, HO_7, HB⟩ := hrel
       cases gk with
       | zero => exact absurd HA.out (by simp [QaB.l1])
       | succ k2 =>
        have H := HA.out; clear HA; simp only [QaB.l1] at H
        by_cases c9 : x8_2 < (t105.length : Int)
        ·rw [if_pos c9] at H; have c9b0 : decide (x8_2 < (t105.length : Int)) = true := decide_eq_true c9; clear c9
         by_cases c10 : 0 ≤ x8_2
         ·rw [if_pos c10] at H; have c10b0 : decide (0 ≤ x8_2) = true := decide_eq_true c10; clear c10; replace H := Option.bind_eq_some_iff.mp H; obtain ⟨t109, A110, H⟩ := H; replace H : (if t109 = true then (QaB.l1 k2 l0 l1 x5_2 x6_1 t105 (wrap64 (x8_2 + 1))) else (if x5_2.length < 2932031007402 then (QaB.l1 k2 l0 l1 (x5_2 ++ [(⟨(⟨(Qaq t105 x8_2).f0.f0, (Qaq t105 x8_2).f0.f1⟩ : S24), (Qaq t105 x8_2).f1⟩ : S51)]) x6_1 t105 (wrap64 (x8_2 + 1))) else (none))) = some r := H; have A11 := Qaa.mk A110; clear A110
          by_cases c12 : t109 = true
          ·subst c12
           have H1 : (QaB.l1 k2 l0 l1 x5_2 x6_1 t105 (wrap64 (x8_2 + 1))) = some r := by rw [if_pos rfl] at H; exact H
           clear H; have H := H1; clear H1; have H' := Qaa.mk H; clear H; obtain ⟨Ao13, co13, eo13⟩ := Kd.Qa2 HO_7.out; subst eo13; have p108 : 0 ≤ (x8_2 : Int) := dd_; have q108 : x8_2 < (t105.length : Int) := dd_; obtain ⟨ad108, e108, hx108_0, hx108_1, hx108_2⟩ := Qcd (Kd.QaF HO_7.out).2.2 x8_2 p108 q108; cases e108; replace p108 := eq_true p108; replace q108 := eq_true q108; obtain ⟨Ao14, co14, eo14⟩ := Kd.Qa2 HO_5.out; subst eo14
           go_wp2_with (first | ((with_reducible refine Qa5 (f := 23) rfl ?_); refine gL 36 Tryz.func23 #[.slice Ao14 x5_2.length co14, .agg #[.string ((Qaq t105 x8_2).f0.f0), .string ((Qaq t105 x8_2).f0.f1), .string ((Qaq t105 x8_2).f1)]] ?_; (with_reducible refine (QaT.calls k2 _ _ x5_2 ((Qaq t105 x8_2).f0.f0) ((Qaq t105 x8_2).f0.f1) ((Qaq t105 x8_2).f1) true _ ?side1 ?side2 A11.out).mono ?_); (case side1 => exact kd_ ((Kd.QaF HO_5.out).2.2)); (case side2 => exact (Kd.QaF HO_5.out).2.1); rintro e w15 ⟨rfl, hb⟩; refine ⟨_, rfl, ?_⟩; replace HO_5 := Qaa.mk (Kd.Qau (ro_ HO_5) hb); replace HO_7 := Qaa.mk (Kd.Qau (ro_ HO_7) hb); replace HB := Qaa.mk (Qad bw_ hb); (try clear hb); (try clear hb2); (try clear hk); (try clear hi)))
           go_roundg k2
           case measure => have := HK1.out; have := HK2.out; omega
           case rel => exact ⟨(x5_2), (wrap64 (x8_2 + 1)), (by first | rfl | (simp; done) | (simp [*]; done)), H', ⟨by have := HK1.out; have := HK2.out; omega⟩, ⟨by (with_reducible repeat (first | apply Kd.Qax | apply Kd.Qay | apply Kd.QaE)); exact HO_5.out⟩, ⟨by (with_reducible repeat (first | apply Kd.Qax | apply Kd.Qay | apply Kd.QaE)); exact HO_7.out⟩, ⟨bw_⟩⟩
          ·replace c12 := Bool.eq_false_iff.mpr c12; subst c12
           have H1 : (if x5_2.length < 2932031007402 then (QaB.l1 k2 l0 l1 (x5_2 ++ [(⟨(⟨(Qaq t105 x8_2).f0.f0, (Qaq t105 x8_2).f0.f1⟩ : S24), (Qaq t105 x8_2).f1⟩ : S51)]) x6_1 t105 (wrap64 (x8_2 + 1))) else (none)) = some r := by rw [if_neg (show ¬ (false = true) by decide)] at H; exact H
           clear H; have H := H1; clear H1
           by_cases c16 : x5_2.length < 2932031007402
           ·rw [if_pos c16] at H; have LMc16 := Qaa.mk c16; clear c16
            obtain ⟨y111, hy111⟩ : ∃ y_ : List (S51), y_ = (x5_2 ++ [(⟨(⟨(Qaq t105 x8_2).f0.f0, (Qaq t105 x8_2).f0.f1⟩ : S24), (Qaq t105 x8_2).f1⟩ : S51)]) := ⟨_, rfl⟩
            replace H : (QaB.l1 k2 l0 l1 y111 x6_1 t105 (wrap64 (x8_2 + 1))) = some r := by first | (rw [hy111]; with_reducible exact H) | (have H2_ := (Option.bind_some _ _).symm.trans H; rw [hy111]; with_reducible exact H2_) | (have H2_ := (Option.bind_some _ _).symm.trans H; with_reducible exact H2_) | with_reducible exact H | (rw [hy111]; exact H) | exact H
            have Ny111 := Qaa.mk hy111; clear hy111; have H' := Qaa.mk H; clear H; obtain ⟨Ao17, co17, eo17⟩ := Kd.Qa2 HO_7.out; subst eo17; have p108 : 0 ≤ (x8_2 : Int) := dd_; have q108 : x8_2 < (t105.length : Int) := dd_; obtain ⟨ad108, e108, hx108_0, hx108_1, hx108_2⟩ := Qcd (Kd.QaF HO_7.out).2.2 x8_2 p108 q108; cases e108; replace p108 := eq_true p108; replace q108 := eq_true q108; obtain ⟨Ao18, co18, eo18⟩ := Kd.Qa2 HO_5.out; subst eo18
            go_wp2_with (first | ((with_reducible refine Qa5 (f := 23) rfl ?_); refine gL 36 Tryz.func23 #[.slice Ao18 x5_2.length co18, .agg #[.string ((Qaq t105 x8_2).f0.f0), .string ((Qaq t105 x8_2).f0.f1), .string ((Qaq t105 x8_2).f1)]] ?_; (with_reducible refine (QaT.calls k2 _ _ x5_2 ((Qaq t105 x8_2).f0.f0) ((Qaq t105 x8_2).f0.f1) ((Qaq t105 x8_2).f1) false _ ?side1 ?side2 A11.out).mono ?_); (case side1 => exact kd_ ((Kd.QaF HO_5.out).2.2)); (case side2 => exact (Kd.QaF HO_5.out).2.1); rintro e w19 ⟨rfl, hb⟩; refine ⟨_, rfl, ?_⟩; replace HO_5 := Qaa.mk (Kd.Qau (ro_ HO_5) hb); replace HO_7 := Qaa.mk (Kd.Qau (ro_ HO_7) hb); replace HB := Qaa.mk (Qad bw_ hb); (try clear hb); (try clear hb2); (try clear hk); (try clear hi); have p110 : 0 ≤ (x8_2 : Int) := dd_; have q110 : x8_2 < (t105.length : Int) := dd_; obtain ⟨ad110, e110, hx110_0, hx110_1, hx110_2⟩ := Qcd (Kd.QaF HO_7.out).2.2 x8_2 p110 q110; obtain rfl : ad108 = ad110 := (by injection e110); replace p110 := eq_true p110; replace q110 := eq_true q110) | ((with_reducible refine Qa3 (b := .append) (xs := #[.tmp 39, .tmp 44]) rfl ?_); at_builtin; refine Kd.QbB k51 (w0 := w) w.heap.size rfl (.tmp 39) (.tmp 44) 48 51 (.agg #[(.string ⟨#[]⟩), (.string ⟨#[]⟩), (.string ⟨#[]⟩)]) 48 rfl Tryz.underlying48 info51 rfl (by decide) (by omega) (.slice Ao18 x5_2.length co18) x5_2 (⟨(⟨(Qaq t105 x8_2).f0.f0, (Qaq t105 x8_2).f0.f1⟩ : S24), (Qaq t105 x8_2).f1⟩ : S51) [.string ((Qaq t105 x8_2).f0.f0), .string ((Qaq t105 x8_2).f0.f1), .string ((Qaq t105 x8_2).f1)] (fun k_ => some k_ ≠ (.slice (some ad108) t105.length co17 : Value).ownBlock) (fun _ => False) rfl rfl ?aP (fun _ hk => hk.elim) ?aF ?aO ?aB ?aS ?aL ?_; (case aP => exact k51_mkM _ _ _ (⟨(⟨(Qaq t105 x8_2).f0.f0, (Qaq t105 x8_2).f0.f1⟩ : S24), (Qaq t105 x8_2).f1⟩ : S51)); (case aB => exact bw_); (case aF => exact (fun k_ hk => Kd.fresh' (Kd.R_lt (ro_ HO_7)) k_ hk)); (case aO => exact (ro_ HO_5)); (case aS => exact (QaD bw_)); (case aL => have := LMc16.out; omega); intro v112 w20 ho hb hg hat; rw [← Ny111.out] at ho; have n0_ := Qaa.mk (Kd.QbJ (ok := (fun _ => True)) (by (with_reducible repeat (first | apply Kd.Qax | apply Kd.Qay | apply Kd.QaE)); exact Kd.QaL HO_7.out (fun _ hk => ⟨trivial, hk⟩)) hg hat); have n1_ := Qaa.mk (hb); have n2_ := Qaa.mk (ho); clear HO_7; clear HB; clear HO_5; have HO_7 := n0_; have HB := n1_; have HO113 := n2_; clear n0_ n1_ n2_; clear ho hb hg hat))
            go_roundg k2
            case measure => have := HK1.out; have := HK2.out; omega
            case rel => exact ⟨(y111), (wrap64 (x8_2 + 1)), (by first | rfl | (simp; done) | (simp [*]; done)), H', ⟨by have := HK1.out; have := HK2.out; omega⟩, ⟨by (with_reducible repeat (first | apply Kd.Qax | apply Kd.Qay | apply Kd.QaE)); exact HO113.out⟩, ⟨by (with_reducible repeat (first | apply Kd.Qax | apply Kd.Qay | apply Kd.QaE)); exact Kd.QaL HO_7.out (fun _ hk => hk.2)⟩, ⟨bw_⟩⟩
           ·rw [if_neg c16] at H; exact absurd H (by simp)
         ·rw [if_neg c10] at H; exact absurd H (by simp)
        ·rw [if_neg c9] at H; have c9b0 : decide (x8_2 < (t105.length : Int)) = false := decide_eq_false c9; clear c9; have H' := Qaa.mk H; clear H; obtain ⟨Ao21, co21, eo21⟩ := Kd.Qa2 HO_7.out; subst eo21; go_wp2
         go_roundg k2
         case measure => have := HK1.out; have := HK2.out; omega
         case rel => exact ⟨(x5_2), (wrap64 (x6_1 + 1)), (by first | rfl | (simp; done) | (simp [*]; done)), H', ⟨by have := HK1.out; have := HK2.out; omega⟩, ⟨by (with_reducible repeat (first | apply Kd.Qax | apply Kd.Qay | apply Kd.QaE)); exact Kd.QaL HO_5.out (fun _ hk => trivial)⟩, ⟨bw_⟩⟩
     ·rw [if_neg c6] at H; exact absurd H (by simp)
    ·rw [if_neg c5] at H; have c5b0 : decide (x6_1 < (l0.length : Int)) = false := decide_eq_false c5; clear c5; obtain rfl := Option.some.inj H; go_wp2; go_ret; exact ⟨_, by first | rfl | (simp [Qaw, Qav] <;> rfl) | (simp [*, Qaw, Qav] <;> rfl), by (with_reducible repeat (first | apply Kd.Qax | apply Kd.Qay | apply Kd.QaE)); exact HO_5.out, bw_⟩
 ·rw [if_neg c3] at H; exact absurd H (by simp)

mutual
def Qal.l0 : Nat → List (S46) → List (S51) → Option ((List (S51)))
 | 0, _, _ => none
 | k + 1, x3, x4 => (QaB.f k x3 x4).bind fun t104 => (if (t104.length : Int) = (x4.length : Int) then (Qal.l1 k x4 ([] : List (S51))) else (Qal.l0 k x3 t104))
def Qal.l1 : Nat → List (S51) → List (S51) → Option ((List (S51)))
 | 0, _, _ => none
 | k + 1, x4, x6 => if (x4.length : Int) > 0 then (Qal.l2 k x4 x6 0 1) else (some x6)
def Qal.l2 : Nat → List (S51) → List (S51) → Int → Int → Option ((List (S51)))
 | 0, _, _, _, _ => none
 | k + 1, x4, x6, x7, x8 => if x8 < (x4.length : Int) then (if 0 ≤ x8 then (if 0 ≤ x7 then (if x7 < (x4.length : Int) then ((QbC.f ((Qaq x4 x8).f0.f0) ((Qaq x4 x8).f0.f1) ((Qaq x4 x8).f1) ((Qaq x4 x7).f0.f0) ((Qaq x4 x7).f0.f1) ((Qaq x4 x7).f1)).bind fun t109 => (if t109 = true then (Qal.l2 k x4 x6 x8 (wrap64 (x8 + 1))) else (Qal.l2 k x4 x6 x7 (wrap64 (x8 + 1))))) else (none)) else (none)) else (none)) else (if 0 ≤ x7 then (if x7 < (x4.length : Int) then (if x6.length < 2932031007402 then (if x7 ≤ (x4.length : Int) then ((some (x4.take (x7 : Int).toNat : List (S51))).bind fun y114 => (if ([] : List (S51)).length + y114.length < 2932031007402 then ((some (([] : List (S51)) ++ y114 : List (S51))).bind fun y118 => (if 0 ≤ (wrap64 (x7 + 1)) then (if (wrap64 (x7 + 1)) ≤ (x4.length : Int) then ((some (x4.drop ((wrap64 (x7 + 1)) : Int).toNat : List (S51))).bind fun y121 => (if y118.length + y121.length < 2932031007402 then (Qal.l1 k (y118 ++ y121) (x6 ++ [(⟨(⟨(Qaq x4 x7).f0.f0, (Qaq x4 x7).f0.f1⟩ : S24), (Qaq x4 x7).f1⟩ : S51)])) else (none))) else (none)) else (none))) else (none))) else (none)) else (none)) else (none)) else (none))
end
def Qal.f (k : Nat) (l0 : List (S46)) : Option ((List (S51))) := (Qao.f k l0).bind fun t101 => (Qal.l0 k t101 ([] : List (S51)))
def Qal.T12 : Bool × List (List Nat × List Nat) := (true, [([], []), ([], []), ([0, 1], [0, 1]), ([2], [2]), ([], []), ([], []), ([4, 5], [4, 5]), ([6], [6]), ([3, 7], [3, 7])])
def Qal.B12 : List Nat := [0, 0, 3, 7, 0, 0, 48, 112, 255]
theorem Qal.tab12 : rtab .any (opsOf Tryz.f21 12) = Qal.T12 := by kernel_rfl
theorem Qal.bits12 : waitsOk Qal.T12.2 Qal.B12 = true := by kernel_rfl
set_option maxHeartbeats 8000000 in
set_option maxRecDepth 100000 in
theorem Qal.calls (k : Nat) (A0 : Option Addr) (c0 : Nat) (l0 : List (S46)) (r : List (S51)) (w : World) (hr0 : Kd.C k46 w A0 l0.length l0) (hc0 : l0.length ≤ c0) (h : Qal.f k l0 = some r) :
  Calls Tryz.prog 21 #[.slice A0 l0.length c0] w fun e w' => ∃ v0_ : Value, e = .returned (v0_) ∧ Kd.R k51 51 w' w.heap.size (fun _ => True) v0_ r ∧ Below w.heap.size w w' := by
 have hu51 := Tryz.underlying51; have HR0 := Qaa.mk hr0; have HC0 := Qaa.mk hc0; clear hr0 hc0; have HB := Qaa.mk (Below.refl w.heap.size w); have H : ((Qao.f k l0).bind fun t101 => (Qal.l0 k t101 ([] : List (S51)))) = some r := h; clear h; replace H := Option.bind_eq_some_iff.mp H; obtain ⟨t101, A20, H⟩ := H; replace H : (Qal.l0 k t101 ([] : List (S51))) = some r := H; have A2 := Qaa.mk A20; clear A20; have H' := Qaa.mk H; clear H; go_enter Tryz.func21, Tryz.ntmps21
 go_wp2_with (first | ((with_reducible refine Qa5 (f := 18) rfl ?_); refine gL 11 Tryz.func18 #[.slice A0 l0.length c0] ?_; (with_reducible refine (Qao.calls k _ _ l0 t101 _ ?side1 ?side2 A2.out).mono ?_); (case side1 => repeat (first | exact HR0.out | (with_reducible refine Kd.C_alloc ?_ _) | (with_reducible refine Kd.C_drewN ?_ _) | (with_reducible refine Kd.C_drew ?_))); (case side2 => exact HC0.out); rintro e w3 ⟨v102, rfl, ho0, hb⟩; refine ⟨_, rfl, ?_⟩; have HO103 := Qaa.mk (Kd.Qa7 ho0 (QaD bw_)); replace HB := Qaa.mk (Qad bw_ hb); (try clear hb); (try clear hb2); (try clear hk); (try clear hi); (try clear ho0)))
 go_loopg [4] k (fun kq v4 w' => ∃ (x4_1 : List (S51)), Qaa (Qal.l0 kq t101 x4_1 = some r) ∧ Qaa (kq ≤ k) ∧ Qaa (Kd.R k46 46 w' w.heap.size (fun _ => True) v102 t101) ∧ Qaa (Kd.R k51 51 w' w.heap.size (fun _ => True) v4 x4_1) ∧ Qaa (Below w.heap.size w w'))
 case atStart => exact ⟨(([] : List (S51))), H', ⟨Nat.le_refl _⟩, ⟨by (with_reducible repeat (first | apply Kd.Qax | apply Kd.Qay | apply Kd.QaE)); exact HO103.out⟩, ⟨by first | exact Kd.R_nil _ _ _ _ _ | exact Kd.N_nil _ _ _ _ _ | exact Kd.V_nil _ _ _ _ _ | exact Kd.Q_nil _ _ _ _ _ | exact Kd.S_nil _ _ _ _ _⟩, ⟨bw_⟩⟩
 case round =>
  clear H'; (try clear c1); (try clear c2); (try clear p2); obtain ⟨x4_1, HA, HK1, HO_3, HO_4, HB⟩ := hrel
  cases gk with
  | zero => exact absurd HA.out (by simp [Qal.l0])
  | succ k1 =>
   have H := HA.out; clear HA; simp only [Qal.l0] at H; replace H := Option.bind_eq_some_iff.mp H; obtain ⟨t104, A40, H⟩ := H; replace H : (if (t104.length : Int) = (x4_1.length : Int) then (Qal.l1 k1 x4_1 ([] : List (S51))) else (Qal.l0 k1 t101 t104)) = some r := H; have A4 := Qaa.mk A40; clear A40
   by_cases c5 : (t104.length : Int) = (x4_1.length : Int)
   ·rw [if_pos c5] at H; have c5b0 : ((t104.length : Int) == (x4_1.length : Int)) = true := beq_iff_eq.mpr c5; have c5b1 : ((t104.length : Int) != (x4_1.length : Int)) = false := bne_eq_false_iff_eq.mpr c5
    have c5b2 : (t104.length == x4_1.length) = true := by first | simpa using c5 | (simp at c5 ⊢; omega)
    clear c5; have H' := Qaa.mk H; clear H; obtain ⟨Ao6, co6, eo6⟩ := Kd.Qa2 HO_3.out; subst eo6; obtain ⟨Ao7, co7, eo7⟩ := Kd.Qa2 HO_4.out; subst eo7
    go_wp2_with (first | ((with_reducible refine Qa5 (f := 27) rfl ?_); refine gL 14 Tryz.func27 #[.slice Ao6 t101.length co6, .slice Ao7 x4_1.length co7] ?_; (with_reducible refine (QaB.calls k1 _ _ t101 _ _ x4_1 t104 _ ?side1 ?side2 ?side3 ?side4 A4.out).mono ?_); (case side1 => exact kd_ ((Kd.QaF HO_3.out).2.2)); (case side2 => exact (Kd.QaF HO_3.out).2.1); (case side3 => exact kd_ ((Kd.QaF HO_4.out).2.2)); (case side4 => exact (Kd.QaF HO_4.out).2.1); rintro e w8 ⟨v105, rfl, ho0, hb⟩; refine ⟨_, rfl, ?_⟩; have HO106 := Qaa.mk (Kd.Qa7 (Kd.R_new' ho0 (Kd.R_lt (ro_ HO_4))) (QaD bw_)); replace HO_3 := Qaa.mk (Kd.Qau (ro_ HO_3) hb); replace HO_4 := Qaa.mk (Kd.Qch (ro_ HO_4) (Kd.Qb0 ho0) hb); replace HB := Qaa.mk (Qad bw_ hb); (try clear hb); (try clear hb2); (try clear hk); (try clear hi); (try clear ho0); obtain ⟨Ao9, co9, eo9⟩ := Kd.Qa2 HO106.out; subst eo9))
    go_loopg [4, 6] k1 (fun kq v4 v6 w' => ∃ (x4_2 : List (S51)) (x6_2 : List (S51)), Qaa (Qal.l1 kq x4_2 x6_2 = some r) ∧ Qaa (kq ≤ k1) ∧ Qaa (Kd.R k51 51 w' w.heap.size (fun k_ => some k_ ≠ (v6 : Value).ownBlock) v4 x4_2) ∧ Qaa (Kd.R k51 51 w' w.heap.size (fun k_ => some k_ ≠ (v4 : Value).ownBlock) v6 x6_2) ∧ Qaa (Below w.heap.size w w'))
    case atStart => exact ⟨(x4_1), (([] : List (S51))), H', ⟨Nat.le_refl _⟩, ⟨by (with_reducible repeat (first | apply Kd.Qax | apply Kd.Qay | apply Kd.QaE)); exact Kd.QaL HO_4.out (fun _ hk => (by simp [Value.ownBlock]))⟩, ⟨by first | exact Kd.R_nil _ _ _ _ _ | exact Kd.N_nil _ _ _ _ _ | exact Kd.V_nil _ _ _ _ _ | exact Kd.Q_nil _ _ _ _ _ | exact Kd.S_nil _ _ _ _ _⟩, ⟨bw_⟩⟩
    case round =>
     clear H'; (try clear c1); (try clear c2); (try clear p2); (try clear c5); (try clear c5b0); (try clear c5b1); (try clear c5b2); (try clear p2); obtain ⟨x4_2, x6_2, HA, HK2, HO_4, HO_6, HB⟩ := hrel
     cases gk with
     | zero => exact absurd HA.out (by simp [Qal.l1])
     | succ k2 =>
      have H := HA.out; clear HA; simp only [Qal.l1] at H
      by_cases c10 : (x4_2.length : Int) > 0
      ·rw [if_pos c10] at H; have c10b0 : decide (0 < (x4_2.length : Int)) = true := decide_eq_true c10; have c10b1 : decide (0 < x4_2.length) = true := decide_eq_true (by omega); clear c10; have H' := Qaa.mk H; clear H; obtain ⟨Ao11, co11, eo11⟩ := Kd.Qa2 HO_4.out; subst eo11; go_wp2
       go_loopg [7, 8] k2 (fun kq v7 v8 w' => ∃ (x7_3 : Int) (x8_3 : Int), v7 = .int .i64 x7_3 ∧ v8 = .int .i64 x8_3 ∧ Qaa (Qal.l2 kq x4_2 x6_2 x7_3 x8_3 = some r) ∧ Qaa (kq ≤ k2) ∧ Qaa (Kd.R k51 51 w' w.heap.size (fun k_ => some k_ ≠ (u6 : Value).ownBlock) (.slice Ao11 x4_2.length co11) x4_2) ∧ Qaa (Kd.R k51 51 w' w.heap.size (fun k_ => some k_ ≠ ((.slice Ao11 x4_2.length co11) : Value).ownBlock) u6 x6_2) ∧ Qaa (Below w.heap.size w w'))
       case atStart => exact ⟨(0), (1), (by first | rfl | (simp; done) | (simp [*]; done)), (by first | rfl | (simp; done) | (simp [*]; done)), H', ⟨Nat.le_refl _⟩, ⟨by (with_reducible repeat (first | apply Kd.Qax | apply Kd.Qay | apply Kd.QaE)); exact HO_4.out⟩, ⟨by (with_reducible repeat (first | apply Kd.Qax | apply Kd.Qay | apply Kd.QaE)); exact HO_6.out⟩, ⟨bw_⟩⟩
       case round =>
        clear H'; (try clear c1); (try clear c2); (try clear p2); (try clear c5); (try clear c5b0); (try clear c5b1); (try clear c5b2); (try clear c10); (try clear c10b0); (try clear c10b1); (try clear p2); obtain ⟨x7_3, x8_3, rfl, rfl, HA, HK3, HO_4, HO_6, HB⟩ := hrel
        cases gk with
        | zero => exact absurd HA.out (by simp [Qal.l2])
        | succ k3 =>
         have H := HA.out; clear HA; simp only [Qal.l2] at H
         by_cases c12 : x8_3 < (x4_2.length : Int)
         ·rw [if_pos c12] at H; have c12b0 : decide (x8_3 < (x4_2.length : Int)) = true := decide_eq_true c12; clear c12
          by_cases c13 : 0 ≤ x8_3
          ·rw [if_pos c13] at H; have c13b0 : decide (0 ≤ x8_3) = true := decide_eq_true c13; clear c13
           by_cases c14 : 0 ≤ x7_3
           ·rw [if_pos c14] at H; have c14b0 : decide (0 ≤ x7_3) = true := decide_eq_true c14; clear c14
            by_cases c15 : x7_3 < (x4_2.length : Int)
            ·rw [if_pos c15] at H; have c15b0 : decide (x7_3 < (x4_2.length : Int)) = true := decide_eq_true c15; clear c15; replace H := Option.bind_eq_some_iff.mp H; obtain ⟨t109, A160, H⟩ := H; replace H : (if t109 = true then (Qal.l2 k3 x4_2 x6_2 x8_3 (wrap64 (x8_3 + 1))) else (Qal.l2 k3 x4_2 x6_2 x7_3 (wrap64 (x8_3 + 1)))) = some r := H; have A16 := Qaa.mk A160; clear A160
             by_cases c17 : t109 = true
             ·subst c17
              have H1 : (Qal.l2 k3 x4_2 x6_2 x8_3 (wrap64 (x8_3 + 1))) = some r := by rw [if_pos rfl] at H; exact H
              clear H; have H := H1; clear H1; have H' := Qaa.mk H; clear H
              try go_wp2
              replace HO_4 := Qaa.mk (Kd.QaE HO_4.out); replace HO_6 := Qaa.mk (Kd.QaE HO_6.out); replace HB := Qaa.mk (Qan HB.out); have p107 : 0 ≤ (x8_3 : Int) := dd_; have q107 : x8_3 < (x4_2.length : Int) := dd_; obtain ⟨ad107, e107, hx107_0, hx107_1, hx107_2⟩ := Qcd (Kd.QaF HO_4.out).2.2 x8_3 p107 q107; cases e107; replace p107 := eq_true p107; replace q107 := eq_true q107; have p108 : 0 ≤ (x7_3 : Int) := dd_; have q108 : x7_3 < (x4_2.length : Int) := dd_; obtain ⟨ad108, e108, hx108_0, hx108_1, hx108_2⟩ := Qcd (Kd.QaF HO_4.out).2.2 x7_3 p108 q108
              obtain rfl : ad107 = ad108 := (by injection e108)
              replace p108 := eq_true p108; replace q108 := eq_true q108; refine Qby (n := 9) (S := fun w' => cr_sss w' (ad107.add ((x8_3).toNat * 3)) ((Qaq x4_2 x8_3).f0.f0) ((Qaq x4_2 x8_3).f0.f1) ((Qaq x4_2 x8_3).f1) (crl_sss w' (ad107.add ((x7_3).toNat * 3)) ((Qaq x4_2 x7_3).f0.f0) ((Qaq x4_2 x7_3).f0.f1) ((Qaq x4_2 x7_3).f1))) (ds := []) #[ff,ff,ff,ff,ff,ff,ff,ff,ff] (by kernel_rfl) rfl rfl ⟨hx107_0, hx107_1, hx107_2, hx108_0, hx108_1, hx108_2⟩ (fun hHeld => ?_); refine Qbe Qal.tab12 Qal.bits12 (fun HT_ HW_ => ?_)
              generalize wr.drew = w18 at HO_4 HO_6 HB hx107_0 hx107_1 hx107_2 hx108_0 hx108_1 hx108_2 hHeld ⊢
              refine pz 0 30 ?_; refine pz 1 31 ?_; refine pz 2 32 ?_; refine pz 4 34 ?_; refine pz 5 35 ?_; refine pz 6 36 ?_; refine tk6 3 33 ?_; refine tk6 7 37 ?_; refine one_ (i := 8) (N := some 38) #[tt,tt,tt,tt,tt,tt,tt,tt,tt] rfl rfl (QbO HT_.out (by kernel_rfl)) (by decide) (fun K hK => ?_); refine Qcs Tryz.func35 (by kernel_rfl) rfl #[.agg #[.string ((Qaq x4_2 x8_3).f0.f0), .string ((Qaq x4_2 x8_3).f0.f1), .string ((Qaq x4_2 x8_3).f1)], .agg #[.string ((Qaq x4_2 x7_3).f0.f0), .string ((Qaq x4_2 x7_3).f0.f1), .string ((Qaq x4_2 x7_3).f1)]] (by rfl) rfl rfl (by (try simp only [List.map_toArray, List.map_cons, List.map_nil]); first | done | rfl | (simp only [List.length_drop, List.length_take]; rfl)) ?_
              with_reducible refine (QbC.calls ((Qaq x4_2 x8_3).f0.f0) ((Qaq x4_2 x8_3).f0.f1) ((Qaq x4_2 x8_3).f1) ((Qaq x4_2 x7_3).f0.f0) ((Qaq x4_2 x7_3).f0.f1) ((Qaq x4_2 x7_3).f1) true _ A16.out).mono ?_
              rintro e w19 ⟨rfl, hb⟩; have HS0_ := cc_ hb hHeld.1; have HS1_ := cc_ hb hHeld.2.1; have HS2_ := cc_ hb hHeld.2.2.1; have HS3_ := cc_ hb hHeld.2.2.2.1; have HS4_ := cc_ hb hHeld.2.2.2.2.1; have HS5_ := cc_ hb hHeld.2.2.2.2.2; refine ⟨_, rfl, ?_⟩; replace HO_4 := Qaa.mk (Kd.Qau (ro_ HO_4) hb); replace HO_6 := Qaa.mk (Kd.Qau (ro_ HO_6) hb); replace HB := Qaa.mk (Qad bw_ hb)
              (try clear hb)
              (try clear hb2)
              (try clear hk)
              (try clear hi)
              refine hK.out _ _ ⟨HS0_, HS1_, HS2_, HS3_, HS4_, HS5_⟩ (fun hHeld => ?_); clear hK K; refine QbF (a' := ?_) ?_ ?_; rotate_left
              ·show Act.put _ (some 38) _ = _
               simp only [Act.put, put_, Qbt, Qbw]; rfl
              refine QbW (Qbx HT_.out (by kernel_rfl)) ?_
              try go_wp2
              go_roundg k3
              case measure => have := HK1.out; have := HK2.out; have := HK3.out; omega
              case rel => exact ⟨(x8_3), (wrap64 (x8_3 + 1)), (by first | rfl | (simp; done) | (simp [*]; done)), (by first | rfl | (simp; done) | (simp [*]; done)), H', ⟨by have := HK1.out; have := HK2.out; have := HK3.out; omega⟩, ⟨by (with_reducible repeat (first | apply Kd.Qax | apply Kd.Qay | apply Kd.QaE)); exact HO_4.out⟩, ⟨by (with_reducible repeat (first | apply Kd.Qax | apply Kd.Qay | apply Kd.QaE)); exact HO_6.out⟩, ⟨bw_⟩⟩
             ·replace c17 := Bool.eq_false_iff.mpr c17; subst c17
              have H1 : (Qal.l2 k3 x4_2 x6_2 x7_3 (wrap64 (x8_3 + 1))) = some r := by rw [if_neg (show ¬ (false = true) by decide)] at H; exact H
              clear H; have H := H1; clear H1; have H' := Qaa.mk H; clear H
              try go_wp2
              replace HO_4 := Qaa.mk (Kd.QaE HO_4.out); replace HO_6 := Qaa.mk (Kd.QaE HO_6.out); replace HB := Qaa.mk (Qan HB.out); have p107 : 0 ≤ (x8_3 : Int) := dd_; have q107 : x8_3 < (x4_2.length : Int) := dd_; obtain ⟨ad107, e107, hx107_0, hx107_1, hx107_2⟩ := Qcd (Kd.QaF HO_4.out).2.2 x8_3 p107 q107; cases e107; replace p107 := eq_true p107; replace q107 := eq_true q107; have p108 : 0 ≤ (x7_3 : Int) := dd_; have q108 : x7_3 < (x4_2.length : Int) := dd_; obtain ⟨ad108, e108, hx108_0, hx108_1, hx108_2⟩ := Qcd (Kd.QaF HO_4.out).2.2 x7_3 p108 q108
              obtain rfl : ad107 = ad108 := (by injection e108)
              replace p108 := eq_true p108; replace q108 := eq_true q108; refine Qby (n := 9) (S := fun w' => cr_sss w' (ad107.add ((x8_3).toNat * 3)) ((Qaq x4_2 x8_3).f0.f0) ((Qaq x4_2 x8_3).f0.f1) ((Qaq x4_2 x8_3).f1) (crl_sss w' (ad107.add ((x7_3).toNat * 3)) ((Qaq x4_2 x7_3).f0.f0) ((Qaq x4_2 x7_3).f0.f1) ((Qaq x4_2 x7_3).f1))) (ds := []) #[ff,ff,ff,ff,ff,ff,ff,ff,ff] (by kernel_rfl) rfl rfl ⟨hx107_0, hx107_1, hx107_2, hx108_0, hx108_1, hx108_2⟩ (fun hHeld => ?_); refine Qbe Qal.tab12 Qal.bits12 (fun HT_ HW_ => ?_)
              generalize wr.drew = w20 at HO_4 HO_6 HB hx107_0 hx107_1 hx107_2 hx108_0 hx108_1 hx108_2 hHeld ⊢
              refine pz 0 30 ?_; refine pz 1 31 ?_; refine pz 2 32 ?_; refine pz 4 34 ?_; refine pz 5 35 ?_; refine pz 6 36 ?_; refine tk6 3 33 ?_; refine tk6 7 37 ?_; refine one_ (i := 8) (N := some 38) #[tt,tt,tt,tt,tt,tt,tt,tt,tt] rfl rfl (QbO HT_.out (by kernel_rfl)) (by decide) (fun K hK => ?_); refine Qcs Tryz.func35 (by kernel_rfl) rfl #[.agg #[.string ((Qaq x4_2 x8_3).f0.f0), .string ((Qaq x4_2 x8_3).f0.f1), .string ((Qaq x4_2 x8_3).f1)], .agg #[.string ((Qaq x4_2 x7_3).f0.f0), .string ((Qaq x4_2 x7_3).f0.f1), .string ((Qaq x4_2 x7_3).f1)]] (by rfl) rfl rfl (by (try simp only [List.map_toArray, List.map_cons, List.map_nil]); first | done | rfl | (simp only [List.length_drop, List.length_take]; rfl)) ?_
              with_reducible refine (QbC.calls ((Qaq x4_2 x8_3).f0.f0) ((Qaq x4_2 x8_3).f0.f1) ((Qaq x4_2 x8_3).f1) ((Qaq x4_2 x7_3).f0.f0) ((Qaq x4_2 x7_3).f0.f1) ((Qaq x4_2 x7_3).f1) false _ A16.out).mono ?_
              rintro e w21 ⟨rfl, hb⟩; have HS0_ := cc_ hb hHeld.1; have HS1_ := cc_ hb hHeld.2.1; have HS2_ := cc_ hb hHeld.2.2.1; have HS3_ := cc_ hb hHeld.2.2.2.1; have HS4_ := cc_ hb hHeld.2.2.2.2.1; have HS5_ := cc_ hb hHeld.2.2.2.2.2; refine ⟨_, rfl, ?_⟩; replace HO_4 := Qaa.mk (Kd.Qau (ro_ HO_4) hb); replace HO_6 := Qaa.mk (Kd.Qau (ro_ HO_6) hb); replace HB := Qaa.mk (Qad bw_ hb)
              (try clear hb)
              (try clear hb2)
              (try clear hk)
              (try clear hi)
              refine hK.out _ _ ⟨HS0_, HS1_, HS2_, HS3_, HS4_, HS5_⟩ (fun hHeld => ?_); clear hK K; refine QbF (a' := ?_) ?_ ?_; rotate_left
              ·show Act.put _ (some 38) _ = _
               simp only [Act.put, put_, Qbt, Qbw]; rfl
              refine QbW (Qbx HT_.out (by kernel_rfl)) ?_
              try go_wp2
              go_roundg k3
              case measure => have := HK1.out; have := HK2.out; have := HK3.out; omega
              case rel => exact ⟨(x7_3), (wrap64 (x8_3 + 1)), (by first | rfl | (simp; done) | (simp [*]; done)), (by first | rfl | (simp; done) | (simp [*]; done)), H', ⟨by have := HK1.out; have := HK2.out; have := HK3.out; omega⟩, ⟨by (with_reducible repeat (first | apply Kd.Qax | apply Kd.Qay | apply Kd.QaE)); exact HO_4.out⟩, ⟨by (with_reducible repeat (first | apply Kd.Qax | apply Kd.Qay | apply Kd.QaE)); exact HO_6.out⟩, ⟨bw_⟩⟩
            ·rw [if_neg c15] at H; exact absurd H (by simp)
           ·rw [if_neg c14] at H; exact absurd H (by simp)
          ·rw [if_neg c13] at H; exact absurd H (by simp)
         ·rw [if_neg c12] at H; have c12b0 : decide (x8_3 < (x4_2.length : Int)) = false := decide_eq_false c12; clear c12
          by_cases c22 : 0 ≤ x7_3
          ·rw [if_pos c22] at H; have c22b0 : decide (0 ≤ x7_3) = true := decide_eq_true c22; clear c22
           by_cases c23 : x7_3 < (x4_2.length : Int)
           ·rw [if_pos c23] at H; have c23b0 : decide (x7_3 < (x4_2.length : Int)) = true := decide_eq_true c23; clear c23
            by_cases c24 : x6_2.length < 2932031007402
            ·rw [if_pos c24] at H; have LMc24 := Qaa.mk c24; clear c24
             obtain ⟨y111, hy111⟩ : ∃ y_ : List (S51), y_ = (x6_2 ++ [(⟨(⟨(Qaq x4_2 x7_3).f0.f0, (Qaq x4_2 x7_3).f0.f1⟩ : S24), (Qaq x4_2 x7_3).f1⟩ : S51)]) := ⟨_, rfl⟩
             replace H : (if x7_3 ≤ (x4_2.length : Int) then ((some (x4_2.take (x7_3 : Int).toNat : List (S51))).bind fun y114 => (if ([] : List (S51)).length + y114.length < 2932031007402 then ((some (([] : List (S51)) ++ y114 : List (S51))).bind fun y118 => (if 0 ≤ (wrap64 (x7_3 + 1)) then (if (wrap64 (x7_3 + 1)) ≤ (x4_2.length : Int) then ((some (x4_2.drop ((wrap64 (x7_3 + 1)) : Int).toNat : List (S51))).bind fun y121 => (if y118.length + y121.length < 2932031007402 then (Qal.l1 k3 (y118 ++ y121) y111) else (none))) else (none)) else (none))) else (none))) else (none)) = some r := by first | (rw [hy111]; with_reducible exact H) | (have H2_ := (Option.bind_some _ _).symm.trans H; rw [hy111]; with_reducible exact H2_) | (have H2_ := (Option.bind_some _ _).symm.trans H; with_reducible exact H2_) | with_reducible exact H | (rw [hy111]; exact H) | exact H
             have Ny111 := Qaa.mk hy111; clear hy111; have c25b0 := eq_true (dd_ : 0 ≤ x7_3)
             by_cases c26 : x7_3 ≤ (x4_2.length : Int)
             ·rw [if_pos c26] at H; have c26b0 := eq_true c26; have c26b1 : decide (x7_3 ≤ (x4_2.length : Int)) = true := decide_eq_true c26; clear c26
              obtain ⟨y114, hy114⟩ : ∃ y_ : List (S51), y_ = (x4_2.take (x7_3 : Int).toNat) := ⟨_, rfl⟩
              replace H : (if ([] : List (S51)).length + y114.length < 2932031007402 then ((some (([] : List (S51)) ++ y114 : List (S51))).bind fun y118 => (if 0 ≤ (wrap64 (x7_3 + 1)) then (if (wrap64 (x7_3 + 1)) ≤ (x4_2.length : Int) then ((some (x4_2.drop ((wrap64 (x7_3 + 1)) : Int).toNat : List (S51))).bind fun y121 => (if y118.length + y121.length < 2932031007402 then (Qal.l1 k3 (y118 ++ y121) y111) else (none))) else (none)) else (none))) else (none)) = some r := by first | (rw [hy114]; with_reducible exact H) | (have H2_ := (Option.bind_some _ _).symm.trans H; rw [hy114]; with_reducible exact H2_) | (have H2_ := (Option.bind_some _ _).symm.trans H; with_reducible exact H2_) | with_reducible exact H | (rw [hy114]; exact H) | exact H
              have Ny114 := Qaa.mk hy114; clear hy114
              by_cases c27 : ([] : List (S51)).length + y114.length < 2932031007402
              ·rw [if_pos c27] at H; have LMc27 := Qaa.mk c27; clear c27
               obtain ⟨y118, hy118⟩ : ∃ y_ : List (S51), y_ = (([] : List (S51)) ++ y114) := ⟨_, rfl⟩
               replace H : (if 0 ≤ (wrap64 (x7_3 + 1)) then (if (wrap64 (x7_3 + 1)) ≤ (x4_2.length : Int) then ((some (x4_2.drop ((wrap64 (x7_3 + 1)) : Int).toNat : List (S51))).bind fun y121 => (if y118.length + y121.length < 2932031007402 then (Qal.l1 k3 (y118 ++ y121) y111) else (none))) else (none)) else (none)) = some r := by first | (rw [hy118]; with_reducible exact H) | (have H2_ := (Option.bind_some _ _).symm.trans H; rw [hy118]; with_reducible exact H2_) | (have H2_ := (Option.bind_some _ _).symm.trans H; with_reducible exact H2_) | with_reducible exact H | (rw [hy118]; exact H) | exact H
               have Ny118 := Qaa.mk hy118; clear hy118
               obtain ⟨ji28, hji28⟩ : ∃ j_ : Int, (wrap64 (x7_3 + 1)) = j_ := ⟨_, rfl⟩
               replace H : (if 0 ≤ (ji28) then (if (ji28) ≤ (x4_2.length : Int) then ((some (x4_2.drop ((ji28) : Int).toNat : List (S51))).bind fun y121 => (if y118.length + y121.length < 2932031007402 then (Qal.l1 k3 (y118 ++ y121) y111) else (none))) else (none)) else (none)) = some r := by first | (rw [hji28] at H; exact H) | (simp only [hji28] at H ⊢; exact H)
               have hji28w : (IntKind.i64.wrap (x7_3 + 1)) = ji28 := (Qbt _).trans hji28
               by_cases c29 : 0 ≤ (ji28)
               ·rw [if_pos c29] at H; have c29b0 := eq_true c29; have c29b1 : decide (0 ≤ (ji28)) = true := decide_eq_true c29; clear c29
                by_cases c30 : (ji28) ≤ (x4_2.length : Int)
                ·rw [if_pos c30] at H; have c30b0 := eq_true c30; have c30b1 : decide ((ji28) ≤ (x4_2.length : Int)) = true := decide_eq_true c30; clear c30
                 obtain ⟨y121, hy121⟩ : ∃ y_ : List (S51), y_ = (x4_2.drop ((ji28) : Int).toNat) := ⟨_, rfl⟩
                 replace H : (if y118.length + y121.length < 2932031007402 then (Qal.l1 k3 (y118 ++ y121) y111) else (none)) = some r := by first | (rw [hy121]; with_reducible exact H) | (have H2_ := (Option.bind_some _ _).symm.trans H; rw [hy121]; with_reducible exact H2_) | (have H2_ := (Option.bind_some _ _).symm.trans H; with_reducible exact H2_) | with_reducible exact H | (rw [hy121]; exact H) | exact H
                 have Ny121 := Qaa.mk hy121; clear hy121
                 by_cases c31 : y118.length + y121.length < 2932031007402
                 ·rw [if_pos c31] at H; have LMc31 := Qaa.mk c31; clear c31
                  obtain ⟨y125, hy125⟩ : ∃ y_ : List (S51), y_ = (y118 ++ y121) := ⟨_, rfl⟩
                  replace H : (Qal.l1 k3 y125 y111) = some r := by first | (rw [hy125]; with_reducible exact H) | (have H2_ := (Option.bind_some _ _).symm.trans H; rw [hy125]; with_reducible exact H2_) | (have H2_ := (Option.bind_some _ _).symm.trans H; with_reducible exact H2_) | with_reducible exact H | (rw [hy125]; exact H) | exact H
                  have Ny125 := Qaa.mk hy125; clear hy125; have H' := Qaa.mk H; clear H; have p110 : 0 ≤ (x7_3 : Int) := dd_; have q110 : x7_3 < (x4_2.length : Int) := dd_; obtain ⟨ad110, e110, hx110_0, hx110_1, hx110_2⟩ := Qcd (Kd.QaF HO_4.out).2.2 x7_3 p110 q110; cases e110; replace p110 := eq_true p110; replace q110 := eq_true q110
                  go_wp2_with (first | ((with_reducible refine Qa3 (b := .append) (xs := #[.tmp 40, .tmp 45]) rfl ?_); at_builtin; refine Kd.QbB k51 (w0 := w) w.heap.size rfl (.tmp 40) (.tmp 45) 48 51 (.agg #[(.string ⟨#[]⟩), (.string ⟨#[]⟩), (.string ⟨#[]⟩)]) 48 rfl Tryz.underlying48 info51 rfl (by decide) (by omega) u6 x6_2 (⟨(⟨(Qaq x4_2 x7_3).f0.f0, (Qaq x4_2 x7_3).f0.f1⟩ : S24), (Qaq x4_2 x7_3).f1⟩ : S51) [.string ((Qaq x4_2 x7_3).f0.f0), .string ((Qaq x4_2 x7_3).f0.f1), .string ((Qaq x4_2 x7_3).f1)] (fun k_ => some k_ ≠ (.slice (some ad110) x4_2.length co11 : Value).ownBlock) (fun _ => False) rfl rfl ?aP (fun _ hk => hk.elim) ?aF ?aO ?aB ?aS ?aL ?_; (case aP => exact k51_mkM _ _ _ (⟨(⟨(Qaq x4_2 x7_3).f0.f0, (Qaq x4_2 x7_3).f0.f1⟩ : S24), (Qaq x4_2 x7_3).f1⟩ : S51)); (case aB => exact bw_); (case aF => exact (fun k_ hk => Kd.fresh' (Kd.R_lt (ro_ HO_4)) k_ hk)); (case aO => exact (ro_ HO_6)); (case aS => exact (QaD bw_)); (case aL => have := LMc24.out; omega); intro v112 w32 ho hb hg hat; rw [← Ny111.out] at ho; have n0_ := Qaa.mk (Kd.QbJ (ok := (fun _ => True)) (by (with_reducible repeat (first | apply Kd.Qax | apply Kd.Qay | apply Kd.QaE)); exact Kd.QaL HO_4.out (fun _ hk => ⟨trivial, hk⟩)) hg hat); have n1_ := Qaa.mk (hb); have n2_ := Qaa.mk (ho); clear HO_4; clear HB; clear HO_6; have HO_4 := n0_; have HB := n1_; have HO113 := n2_; clear n0_ n1_ n2_; clear ho hb hg hat; have q33 : (x7_3 : Int) ≤ ((x4_2.length : Int) : Int) := dd_; obtain ⟨i033, hi033, _, hsz33, _⟩ := info_parts info51; have hroom33 : x4_2.length ≤ co11 := (Kd.QaF HO_4.out).2.1; have hC33 : Kd.C k51 _ (some ad110) x4_2.length x4_2 := (Kd.QaF HO_4.out).2.2; have hcut33 := cut_to (P := Tryz.prog) 48 51 .i64 Tryz.underlying48 hi033 (some ad110) x4_2.length co11 x7_3 (dd_) q33 hroom33; have hr33 := Kd.C_take (m := (x7_3 : Int).toNat) hC33 (by omega); have hy33 : y114.length = (x7_3 : Int).toNat := (by rw [Ny114.out, List.length_take]; omega); rw [← Ny114.out] at hr33; rw [← hy33] at hcut33; have HR117 := Qaa.mk hr33; have HC117 := Qaa.mk (show y114.length ≤ co11 from by omega); clear hr33 hC33 hroom33 hi033 hsz33; have KY33 := Qaa.mk hy33; clear hy33; have KL33 := Qaa.mk (show (x7_3 : Int).toNat ≤ x4_2.length from by omega); replace q33 := eq_true q33) | ((with_reducible refine Qa3 (b := .append) (xs := #[.tmp 47, .tmp 50]) rfl ?_); at_builtin; refine Kd.Qb6 k51 (w0 := w) w.heap.size rfl (.tmp 47) (.tmp 50) 48 51 (.agg #[(.string ⟨#[]⟩), (.string ⟨#[]⟩), (.string ⟨#[]⟩)]) 48 rfl Tryz.underlying48 info51 rfl (by decide) (by omega) (.slice none 0 0) ([] : List (S51)) y114 _ _ _ (fun k_ => some k_ ≠ (.slice (some ad110) x4_2.length co11 : Value).ownBlock ∧ some k_ ≠ (v112 : Value).ownBlock) (fun _ => False) rfl rfl ?aO ?aR (fun _ _ h => h) (fun _ h => h.elim) ?aF ?aB ?aS ?aL ?_; (case aR => repeat (first | exact (by repeat (first | (with_reducible exact HR117.out) | (with_reducible refine Kd.C_alloc ?_ _) | (with_reducible refine Kd.C_drewN ?_ _) | (with_reducible refine Kd.C_drew ?_) | exact HR117.out)) | (with_reducible refine Kd.C_alloc ?_ _) | (with_reducible refine Kd.C_drewN ?_ _) | (with_reducible refine Kd.C_drew ?_))); (case aB => exact bw_); (case aF => exact (fun k_ hk => ⟨Kd.fresh' (Kd.R_lt (ro_ HO_4)) k_ hk, Kd.fresh' (Kd.R_lt (ro_ HO113)) k_ hk⟩)); (case aO => exact ((Kd.R_nil _ _ _ _ (fun k_ => some k_ ≠ (.slice (some ad110) x4_2.length co11 : Value).ownBlock ∧ some k_ ≠ (v112 : Value).ownBlock)))); (case aS => exact (QaD bw_)); (case aL => have := LMc27.out; omega); intro v119 w34 ho hb hg hat; rw [← Ny118.out] at ho; have n0_ := Qaa.mk (Kd.QbJ (Kd.R_apart_nil (ro_ HO_4)) hg hat); have n1_ := Qaa.mk (Kd.QbJ (Kd.R_apart_nil (ro_ HO113)) hg hat); have n2_ := Qaa.mk (hb); have n3_ := Qaa.mk ((show Kd.C k51 w34 (some ad110) y114.length y114 from by rw [Ny114.out]; exact Kd.C_take (m := (x7_3 : Int).toNat) ((Kd.QaF (Kd.QbJ (Kd.R_apart_nil (ro_ HO_4)) hg hat)).2.2) KL33.out)); have n4_ := Qaa.mk (ho); clear HO_4; clear HO113; clear HB; clear HR117; have HO_4 := n0_; have HO113 := n1_; have HB := n2_; have HR117 := n3_; have HO120 := n4_; clear n0_ n1_ n2_ n3_ n4_; clear ho hb hg hat; have q35 : ((ji28) : Int) ≤ ((x4_2.length : Int) : Int) := dd_; obtain ⟨i035, hi035, _, hsz35, _⟩ := info_parts info51; have hroom35 : x4_2.length ≤ co11 := (Kd.QaF HO_4.out).2.1; have hC35 : Kd.C k51 _ (some ad110) x4_2.length x4_2 := (Kd.QaF HO_4.out).2.2; have q035 : (0 : Int) ≤ ((ji28) : Int) := dd_; have hcut35 := cut_from (P := Tryz.prog) 48 51 .i64 Tryz.underlying48 hi035 3 hsz35 (some ad110) x4_2.length co11 (ji28) q035 q35; have hr35 := Kd.C_drop (m := ((ji28) : Int).toNat) (c := co11) hC35 (by omega) hroom35; obtain ⟨A35, hA35⟩ : ∃ A1, A1 = (if co11 = ((ji28) : Int).toNat then (some ad110) else ((some ad110) : Option Addr).map (·.add (((ji28) : Int).toNat * 3))) := ⟨_, rfl⟩; obtain ⟨c35, hc35⟩ : ∃ c1, c1 = co11 - ((ji28) : Int).toNat := ⟨_, rfl⟩; have hy35 : y121.length = x4_2.length - ((ji28) : Int).toNat := (by rw [Ny121.out, List.length_drop] <;> omega); rw [show (x4_2).drop ((ji28) : Int).toNat = y121 from Ny121.out.symm] at hr35; replace hr35 : Kd.C k51 _ A35 y121.length y121 := (by rw [hA35]; exact hr35); rw [← hy35, ← hA35, ← hc35] at hcut35; have HR124 := Qaa.mk hr35; have HC124 := Qaa.mk (show y121.length ≤ c35 from by rw [hy35, hc35]; exact Nat.sub_le_sub_right hroom35 _); clear hr35 hC35 hroom35 hi035 hsz35 hc35; have KY35 := Qaa.mk hy35; have KA35 := Qaa.mk hA35; clear hy35 hA35; have KL35 := Qaa.mk (show ((ji28) : Int).toNat ≤ x4_2.length from by omega); replace q35 := eq_true q35) | ((with_reducible refine Qa3 (b := .append) (xs := #[.tmp 52, .tmp 56]) rfl ?_); at_builtin; refine Kd.Qb6 k51 (w0 := w) w.heap.size rfl (.tmp 52) (.tmp 56) 48 51 (.agg #[(.string ⟨#[]⟩), (.string ⟨#[]⟩), (.string ⟨#[]⟩)]) 48 rfl Tryz.underlying48 info51 rfl (by decide) (by omega) v119 y118 y121 _ _ _ (fun k_ => some k_ ≠ (.slice (some ad110) x4_2.length co11 : Value).ownBlock ∧ some k_ ≠ (v112 : Value).ownBlock) (fun _ => False) rfl rfl ?aO ?aR (fun _ _ h => h) (fun _ h => h.elim) ?aF ?aB ?aS ?aL ?_; (case aR => repeat (first | exact (by repeat (first | (with_reducible exact HR124.out) | (with_reducible refine Kd.C_alloc ?_ _) | (with_reducible refine Kd.C_drewN ?_ _) | (with_reducible refine Kd.C_drew ?_) | exact HR124.out)) | (with_reducible refine Kd.C_alloc ?_ _) | (with_reducible refine Kd.C_drewN ?_ _) | (with_reducible refine Kd.C_drew ?_))); (case aB => exact bw_); (case aF => exact (fun k_ hk => ⟨Kd.fresh' (Kd.R_lt (ro_ HO_4)) k_ hk, Kd.fresh' (Kd.R_lt (ro_ HO113)) k_ hk⟩)); (case aO => exact (ro_ HO120)); (case aS => exact (QaD bw_)); (case aL => have := LMc31.out; omega); intro v126 w36 ho hb hg hat; rw [← Ny125.out] at ho; have n0_ := Qaa.mk (Kd.QbJ (ok := (fun k_ => some k_ ≠ (v112 : Value).ownBlock)) (by (with_reducible repeat (first | apply Kd.Qax | apply Kd.Qay | apply Kd.QaE)); exact Kd.QaL HO_4.out (fun _ hk => ⟨hk.1.2, hk.2⟩)) hg hat); have n1_ := Qaa.mk (Kd.QbJ (ok := (fun k_ => some k_ ≠ (.slice (some ad110) x4_2.length co11 : Value).ownBlock)) (ro_ HO113) hg hat); have n2_ := Qaa.mk (hb); have n3_ := Qaa.mk ((show Kd.C k51 w36 (some ad110) y114.length y114 from by rw [Ny114.out]; exact Kd.C_take (m := (x7_3 : Int).toNat) ((Kd.QaF (Kd.QbJ (ok := (fun k_ => some k_ ≠ (v112 : Value).ownBlock)) (by (with_reducible repeat (first | apply Kd.Qax | apply Kd.Qay | apply Kd.QaE)); exact Kd.QaL HO_4.out (fun _ hk => ⟨hk.1.2, hk.2⟩)) hg hat)).2.2) KL33.out)); have n4_ := Qaa.mk ((show Kd.C k51 w36 A35 y121.length y121 from by rw [Ny121.out, KA35.out]; exact Kd.C_drop (m := ((ji28) : Int).toNat) (c := co11) ((Kd.QaF (Kd.QbJ (ok := (fun k_ => some k_ ≠ (v112 : Value).ownBlock)) (by (with_reducible repeat (first | apply Kd.Qax | apply Kd.Qay | apply Kd.QaE)); exact Kd.QaL HO_4.out (fun _ hk => ⟨hk.1.2, hk.2⟩)) hg hat)).2.2) KL35.out ((Kd.QaF (Kd.QbJ (ok := (fun k_ => some k_ ≠ (v112 : Value).ownBlock)) (by (with_reducible repeat (first | apply Kd.Qax | apply Kd.Qay | apply Kd.QaE)); exact Kd.QaL HO_4.out (fun _ hk => ⟨hk.1.2, hk.2⟩)) hg hat)).2.1))); have n5_ := Qaa.mk (ho); clear HO_4; clear HO113; clear HB; clear HR117; clear HR124; clear HO120; have HO_4 := n0_; have HO113 := n1_; have HB := n2_; have HR117 := n3_; have HR124 := n4_; have HO127 := n5_; clear n0_ n1_ n2_ n3_ n4_ n5_; clear ho hb hg hat))
                  go_roundg k3
                  case measure => have := HK1.out; have := HK2.out; have := HK3.out; omega
                  case rel => exact ⟨(y125), (y111), H', ⟨by have := HK1.out; have := HK2.out; have := HK3.out; omega⟩, ⟨by (with_reducible repeat (first | apply Kd.Qax | apply Kd.Qay | apply Kd.QaE)); exact Kd.QaL HO127.out (fun _ hk => hk.2)⟩, ⟨by (with_reducible repeat (first | apply Kd.Qax | apply Kd.Qay | apply Kd.QaE)); exact Kd.QaL HO113.out (fun _ hk => hk.2)⟩, ⟨bw_⟩⟩
                 ·rw [if_neg c31] at H; exact absurd H (by simp)
                ·rw [if_neg c30] at H; exact absurd H (by simp)
               ·rw [if_neg c29] at H; exact absurd H (by simp)
              ·rw [if_neg c27] at H; exact absurd H (by simp)
             ·rw [if_neg c26] at H; exact absurd H (by simp)
            ·rw [if_neg c24] at H; exact absurd H (by simp)
           ·rw [if_neg c23] at H; exact absurd H (by simp)
          ·rw [if_neg c22] at H; exact absurd H (by simp)
      ·rw [if_neg c10] at H; have c10b0 : decide (0 < (x4_2.length : Int)) = false := decide_eq_false c10; have c10b1 : decide (0 < x4_2.length) = false := decide_eq_false (by omega); clear c10; obtain rfl := Option.some.inj H; obtain ⟨Ao37, co37, eo37⟩ := Kd.Qa2 HO_4.out; subst eo37; go_wp2; go_ret; exact ⟨_, by first | rfl | (simp [Qaw, Qav] <;> rfl) | (simp [*, Qaw, Qav] <;> rfl), by (with_reducible repeat (first | apply Kd.Qax | apply Kd.Qay | apply Kd.QaE)); exact Kd.QaL HO_6.out (fun _ hk => trivial), bw_⟩
   ·rw [if_neg c5] at H; have c5b0 : ((t104.length : Int) == (x4_1.length : Int)) = false := beq_eq_false_iff_ne.mpr c5; have c5b1 : ((t104.length : Int) != (x4_1.length : Int)) = true := bne_iff_ne.mpr c5
    have c5b2 : (t104.length == x4_1.length) = false := by first | simpa using c5 | (simp at c5 ⊢; omega)
    have H' := Qaa.mk H; clear H; obtain ⟨Ao38, co38, eo38⟩ := Kd.Qa2 HO_3.out; subst eo38; obtain ⟨Ao39, co39, eo39⟩ := Kd.Qa2 HO_4.out; subst eo39
    go_wp2_with (first | ((with_reducible refine Qa5 (f := 27) rfl ?_); refine gL 14 Tryz.func27 #[.slice Ao38 t101.length co38, .slice Ao39 x4_1.length co39] ?_; (with_reducible refine (QaB.calls k1 _ _ t101 _ _ x4_1 t104 _ ?side1 ?side2 ?side3 ?side4 A4.out).mono ?_); (case side1 => exact kd_ ((Kd.QaF HO_3.out).2.2)); (case side2 => exact (Kd.QaF HO_3.out).2.1); (case side3 => exact kd_ ((Kd.QaF HO_4.out).2.2)); (case side4 => exact (Kd.QaF HO_4.out).2.1); rintro e w40 ⟨v105, rfl, ho0, hb⟩; refine ⟨_, rfl, ?_⟩; have HO106 := Qaa.mk (Kd.Qa7 (Kd.R_new' ho0 (Kd.R_lt (ro_ HO_4))) (QaD bw_)); replace HO_3 := Qaa.mk (Kd.Qau (ro_ HO_3) hb); replace HO_4 := Qaa.mk (Kd.Qch (ro_ HO_4) (Kd.Qb0 ho0) hb); replace HB := Qaa.mk (Qad bw_ hb); (try clear hb); (try clear hb2); (try clear hk); (try clear hi); (try clear ho0); obtain ⟨Ao41, co41, eo41⟩ := Kd.Qa2 HO106.out; subst eo41))
    go_roundg k1
    case measure => have := HK1.out; omega
    case rel => exact ⟨(t104), H', ⟨by have := HK1.out; omega⟩, ⟨by (with_reducible repeat (first | apply Kd.Qax | apply Kd.Qay | apply Kd.QaE)); exact HO_3.out⟩, ⟨by (with_reducible repeat (first | apply Kd.Qax | apply Kd.Qay | apply Kd.QaE)); exact Kd.QaL HO106.out (fun _ hk => trivial)⟩, ⟨bw_⟩⟩















def Qbi.f (k : Nat) (a0_0 : ByteArray) (a0_1 : ByteArray) (a0_2 : ByteArray) (a0_3 : Int) (a0_4 : Int) (l0_5 : List (S30)) : Option ((List (S27))) := (QaU.f k a0_0 a0_1 a0_2 a0_3 a0_4 l0_5).bind fun t102 => ((Qaf.f k t102).bind fun t105 => (some t105))
set_option maxHeartbeats 8000000 in
set_option maxRecDepth 100000 in
theorem Qbi.calls (k : Nat) (a0_0 : ByteArray) (a0_1 : ByteArray) (a0_2 : ByteArray) (a0_3 : Int) (a0_4 : Int) (A0_5 : Option Addr) (c0_5 : Nat) (l0_5 : List (S30)) (r : List (S27)) (w : World) (hr0_5 : Kd.C k30 w A0_5 l0_5.length l0_5) (hc0_5 : l0_5.length ≤ c0_5) (h : Qbi.f k a0_0 a0_1 a0_2 a0_3 a0_4 l0_5 = some r) :
  Calls Tryz.prog 17 #[.agg #[.string a0_0, .string a0_1, .string a0_2, .int .i64 a0_3, .int .i64 a0_4, .slice A0_5 l0_5.length c0_5]] w fun e w' => ∃ v0_ : Value, e = .returned (v0_) ∧ Kd.R k27 27 w' w.heap.size (fun _ => True) v0_ r ∧ Below w.heap.size w w' := by
 have hu30 := Tryz.underlying30; have HR0_5 := Qaa.mk hr0_5; have HC0_5 := Qaa.mk hc0_5; clear hr0_5 hc0_5; have HB := Qaa.mk (Below.refl w.heap.size w); have H : ((QaU.f k a0_0 a0_1 a0_2 a0_3 a0_4 l0_5).bind fun t102 => ((Qaf.f k t102).bind fun t105 => (some t105))) = some r := h; clear h; replace H := Option.bind_eq_some_iff.mp H; obtain ⟨t102, A20, H⟩ := H; replace H : ((Qaf.f k t102).bind fun t105 => (some t105)) = some r := H; have A2 := Qaa.mk A20; clear A20; replace H := Option.bind_eq_some_iff.mp H; obtain ⟨t105, A30, H⟩ := H; replace H : (some t105) = some r := H; have A3 := Qaa.mk A30; clear A30; obtain rfl := Option.some.inj H; go_enter Tryz.func17, Tryz.ntmps17
 go_wp2_with (first | ((with_reducible refine QaM (N := 1) rfl ?_); refine QaK ?hg (N := 1) ?hd (cs := #[.string a0_0, .string a0_1, .string a0_2, .int .i64 a0_3, .int .i64 a0_4, .slice A0_5 l0_5.length c0_5]) (t := 30) ?hr ?_; (case hd => rfl); (case hg => rfl); (case hr => first | (go_simp; done) | (go_simp; rfl)); intro gb101 hg w4 hbox hb; have BK101 := Qaa.mk (hbox); have GW101 := (gz_ hg : Qaa (w.heap.size ≤ gb101)); have GE101 := (gz_ hg : Qaa (w.heap.size ≤ gb101)); replace HB := Qaa.mk (Qad bw_ hb); clear hb hbox hg; obtain ⟨c5_0, c5_1, c5_2, c5_3, c5_4, c5_5⟩ := QbP BK101.out; obtain ⟨f5_0, f5_1, f5_2, f5_3, f5_4, f5_5⟩ := fz_6 BK101.out) | ((with_reducible refine Qa5 (f := 31) rfl ?_); refine gL 4 Tryz.func31 #[.agg #[.string a0_0, .string a0_1, .string a0_2, .int .i64 a0_3, .int .i64 a0_4, .slice A0_5 l0_5.length c0_5]] ?_; (with_reducible refine (QaU.calls k a0_0 a0_1 a0_2 a0_3 a0_4 _ _ l0_5 t102 _ ?side1 ?side2 A2.out).mono ?_); (case side1 => exact kd_ (Kd.Qbc HR0_5.out HB.out)); (case side2 => exact HC0_5.out); rintro e w6 ⟨v103, rfl, ho0, hb⟩; refine ⟨_, rfl, ?_⟩; have HO104 := Qaa.mk (Kd.Qa7 ho0 (QaD bw_)); replace BK101 := Qaa.mk (Qac (g := gb101) bk_ hb); replace HB := Qaa.mk (Qad bw_ hb); (try clear hb); (try clear hb2); (try clear hk); (try clear hi); (try clear ho0); obtain ⟨Ao7, co7, eo7⟩ := Kd.Qa2 HO104.out; subst eo7) | ((with_reducible refine Qa5 (f := 30) rfl ?_); refine gL 5 Tryz.func30 #[.slice Ao7 t102.length co7] ?_; (with_reducible refine (Qaf.calls k _ _ t102 t105 _ ?side1 ?side2 A3.out).mono ?_); (case side1 => exact kd_ ((Kd.QaF HO104.out).2.2)); (case side2 => exact (Kd.QaF HO104.out).2.1); rintro e w8 ⟨v106, rfl, ho0, hb⟩; refine ⟨_, rfl, ?_⟩; have HO107 := Qaa.mk (Kd.Qa7 (Kd.R_new' ho0 (Kd.R_lt (ro_ HO104))) (QaD bw_)); replace HO104 := Qaa.mk (Kd.Qch (ro_ HO104) (Kd.Qb0 ho0) hb); replace BK101 := Qaa.mk (Qac (g := gb101) bk_ hb); replace HB := Qaa.mk (Qad bw_ hb); (try clear hb); (try clear hb2); (try clear hk); (try clear hi); (try clear ho0)))
 go_ret; exact ⟨_, by first | rfl | (simp [Qaw, Qav] <;> rfl) | (simp [*, Qaw, Qav] <;> rfl), by (with_reducible repeat (first | apply Kd.Qax | apply Kd.Qay | apply Kd.QaE)); exact Kd.QaL HO107.out (fun _ hk => trivial), bw_⟩

def Qbq.f (k : Nat) (l0 : List (S46)) (a1 : ByteArray) (a2_0 : ByteArray) (a2_1 : ByteArray) : Option (Bool) := (Qal.f k l0).bind fun t102 => ((QaT.f k t102 a2_0 a2_1 a1).bind fun t105 => (some t105))
set_option maxHeartbeats 8000000 in
set_option maxRecDepth 100000 in
theorem Qbq.calls (k : Nat) (A0 : Option Addr) (c0 : Nat) (l0 : List (S46)) (a1 : ByteArray) (a2_0 : ByteArray) (a2_1 : ByteArray) (r : Bool) (w : World) (hr0 : Kd.C k46 w A0 l0.length l0) (hc0 : l0.length ≤ c0) (h : Qbq.f k l0 a1 a2_0 a2_1 = some r) :
  Calls Tryz.prog 20 #[.slice A0 l0.length c0, .string a1, .agg #[.string a2_0, .string a2_1]] w fun e w' => e = .returned (.bool r) ∧ Below w.heap.size w w' := by
 have hu24 := Tryz.underlying24; have hu51 := Tryz.underlying51; have HR0 := Qaa.mk hr0; have HC0 := Qaa.mk hc0; clear hr0 hc0; have HB := Qaa.mk (Below.refl w.heap.size w); have H : ((Qal.f k l0).bind fun t102 => ((QaT.f k t102 a2_0 a2_1 a1).bind fun t105 => (some t105))) = some r := h; clear h; replace H := Option.bind_eq_some_iff.mp H; obtain ⟨t102, A40, H⟩ := H; replace H : ((QaT.f k t102 a2_0 a2_1 a1).bind fun t105 => (some t105)) = some r := H; have A4 := Qaa.mk A40; clear A40; replace H := Option.bind_eq_some_iff.mp H; obtain ⟨t105, A50, H⟩ := H; replace H : (some t105) = some r := H; have A5 := Qaa.mk A50; clear A50; obtain rfl := Option.some.inj H; go_enter Tryz.func20, Tryz.ntmps20
 try go_wp2_with (first | ((with_reducible refine QaM (N := 5) rfl ?_); refine QaK ?hg (N := 5) ?hd (cs := #[.string a2_0, .string a2_1]) (t := 24) ?hr ?_; (case hd => rfl); (case hg => rfl); (case hr => first | (go_simp; done) | (go_simp; rfl)); intro gb101 hg w6 hbox hb; have BK101 := Qaa.mk (hbox); have GW101 := (gz_ hg : Qaa (w.heap.size ≤ gb101)); have GE101 := (gz_ hg : Qaa (w.heap.size ≤ gb101)); replace HB := Qaa.mk (Qad bw_ hb); clear hb hbox hg))
 replace BK101 := Qaa.mk (Qah BK101.out); replace HB := Qaa.mk (Qan HB.out); refine Qby (n := 7) (S := fun w' => cgl_ss w' gb101 a2_0 a2_1) (ds := []) #[ff,ff,ff,ff,ff,ff,ff] (by kernel_rfl) rfl rfl (cl_2 BK101.out) (fun hHeld => ?_)
 generalize w6.drew = w7 at BK101 HB hHeld ⊢
 refine kz 0 7 ?_; refine kz 3 10 ?_; refine kk2 2 9 ?_; refine kz 4 11 ?_; refine one_ (i := 1) (N := some 8) #[tt,tt,tt,tt,tt,ff,ff] rfl rfl (by kernel_rfl) (by decide) (fun K hK => ?_); refine Qcs Tryz.func21 (by kernel_rfl) rfl #[.slice A0 l0.length c0] (by rfl) rfl rfl (by (try simp only [List.map_toArray, List.map_cons, List.map_nil]); first | done | rfl | (simp only [List.length_drop, List.length_take]; rfl)) ?_
 with_reducible refine (Qal.calls k _ _ l0 t102 _ ?side1 ?side2 A4.out).mono ?_
 (case side1 => exact kd_ (Kd.Qbc HR0.out HB.out))
 (case side2 => exact HC0.out)
 rintro e w8 ⟨v103, rfl, ho0, hb⟩; refine ⟨_, rfl, ?_⟩; have HO104 := Qaa.mk (Kd.Qa7 ho0 (QaD bw_)); replace BK101 := Qaa.mk (Qac (g := gb101) bk_ hb); replace HB := Qaa.mk (Qad bw_ hb)
 (try clear hb)
 (try clear hb2)
 (try clear hk)
 (try clear hi)
 (try clear ho0)
 obtain ⟨Ao9, co9, eo9⟩ := Kd.Qa2 HO104.out
 (first | subst eo9 | (injection eo9 with f1_ f2_ f3_; have f4_ := f1_.symm; have f5_ := f3_.symm; clear f1_ f2_ f3_; subst f4_; subst f5_))
 refine hK.out _ _ (cl_2 BK101.out) (fun hHeld => ?_); clear hK K; refine QbF (a' := ?_) ?_ ?_; rotate_left
 ·show Act.put _ (some 8) _ = _
  simp only [Act.put, put_, Qbt, Qbw]; rfl
 refine one_ (i := 5) (N := some 12) #[tt,tt,tt,tt,tt,tt,ff] rfl rfl (by kernel_rfl) (by decide) (fun K hK => ?_); refine Qcs Tryz.func23 (by kernel_rfl) rfl #[.slice Ao9 t102.length co9, .agg #[.string a2_0, .string a2_1, .string a1]] (by rfl) rfl rfl (by (try simp only [List.map_toArray, List.map_cons, List.map_nil]); first | done | rfl | (simp only [List.length_drop, List.length_take]; rfl)) ?_
 with_reducible refine (QaT.calls k _ _ t102 a2_0 a2_1 a1 t105 _ ?side1 ?side2 A5.out).mono ?_
 (case side1 => exact kd_ ((Kd.QaF HO104.out).2.2))
 (case side2 => exact (Kd.QaF HO104.out).2.1)
 rintro e w10 ⟨rfl, hb⟩; refine ⟨_, rfl, ?_⟩; replace HO104 := Qaa.mk (Kd.Qau (ro_ HO104) hb); replace BK101 := Qaa.mk (Qac (g := gb101) bk_ hb); replace HB := Qaa.mk (Qad bw_ hb)
 (try clear hb)
 (try clear hb2)
 (try clear hk)
 (try clear hi)
 refine hK.out _ _ (cl_2 BK101.out) (fun hHeld => ?_); clear hK K; refine QbF (a' := ?_) ?_ ?_; rotate_left
 ·show Act.put _ (some 12) _ = _
  simp only [Act.put, put_, Qbt, Qbw]; rfl
 refine kz 6 6 ?_; refine QbW (by kernel_rfl) ?_
 try go_wp2
 go_ret; exact ⟨by first | rfl | (simp [Qaw, Qav] <;> rfl) | (simp [*, Qaw, Qav] <;> rfl), bw_⟩
end
section
attribute [local go_sem] QaQ QaO QaZ QaY QaJ QaI QaP QaN
attribute [local go_sem high] eqA24

end
def idLess (a b : ID) : Bool := decide (a.f0 < b.f0) || (decide (a.f0 = b.f0) && decide (a.f1 < b.f1))
theorem idLess_iff (a b : ID) : idLess a b = true ↔ a.f0 < b.f0 ∨ (a.f0 = b.f0 ∧ a.f1 < b.f1) := by
  unfold idLess; rw [Bool.or_eq_true, Bool.and_eq_true, decide_eq_true_eq, decide_eq_true_eq, decide_eq_true_eq]
theorem idLess_irrefl (a : ID) : ¬ idLess a a = true := by rw [idLess_iff]; omega
theorem idLess_trans {a b c : ID} (h1 : idLess a b = true) (h2 : idLess b c = true) : idLess a c = true := by
  rw [idLess_iff] at *; omega
theorem idLess_total {a b : ID} (h1 : ¬ idLess a b = true) (h2 : ¬ idLess b a = true) : a = b := by
  rw [idLess_iff] at *; exact id_ext (by omega) (by omega)
theorem strict_unique {a b : List ID} (ha : a.Pairwise (fun x y => idLess x y = true)) (hb : b.Pairwise (fun x y => idLess x y = true)) (h : ∀ x, x ∈ a ↔ x ∈ b) : a = b := sorted_eq (R := fun x y => idLess x y = true) idLess_irrefl (fun _ _ _ => idLess_trans) ha hb h
theorem rdI (l : List ID) (i : Nat) (h : i < l.length) : Qas l (i : Int) = l[i] := by
  unfold Qas; rw [Int.toNat_natCast, List.getD_eq_getElem?_getD, List.getElem?_eq_getElem h]; rfl
theorem idEta (a : ID) : (⟨a.f0, a.f1⟩ : ID) = a := by cases a; rfl
def insG (x : ID) : List ID → Bool → List ID
  | [], put => if put = true then [] else [x]
  | y :: ys, put => if put = true then y :: insG x ys true else if idLess x y = true then x :: y :: insG x ys true else if y = x then y :: insG x ys true else y :: insG x ys false
theorem insG_true (x : ID) : ∀ ys, insG x ys true = ys
  | [] => rfl
  | y :: ys => by rw [insG, if_pos rfl, insG_true x ys]
theorem insG_mem (x z : ID) : ∀ ys, (∀ y ∈ ys, True) → (z ∈ insG x ys false ↔ z = x ∨ z ∈ ys)
  | [], _ => by rw [insG, if_neg (by decide)]; simp
  | y :: ys, _ => by
    rw [insG, if_neg (by decide)]
    by_cases h : idLess x y = true
    · rw [if_pos h, insG_true]
      simp
    · rw [if_neg h]
      by_cases e : y = x
      · rw [if_pos e, insG_true, e]
        simp
      · rw [if_neg e, List.mem_cons, insG_mem x z ys (fun _ _ => trivial), List.mem_cons]
        constructor
        · rintro (h | h | h)
          · exact .inr (.inl h)
          · exact .inl h
          · exact .inr (.inr h)
        · rintro (h | h | h)
          · exact .inr (.inl h)
          · exact .inl h
          · exact .inr (.inr h)
theorem insG_strict (x : ID) : ∀ ys : List ID, ys.Pairwise (fun a b => idLess a b = true) → (insG x ys false).Pairwise (fun a b => idLess a b = true)
  | [], _ => by rw [insG, if_neg (by decide)]; exact List.pairwise_singleton _ _
  | y :: ys, hs => by
    rw [List.pairwise_cons] at hs; rw [insG, if_neg (by decide)]
    by_cases h : idLess x y = true
    · rw [if_pos h, insG_true, List.pairwise_cons]
      refine ⟨fun z hz => ?_, List.pairwise_cons.mpr hs⟩
      rcases List.mem_cons.mp hz with rfl | hz
      · exact h
      · exact idLess_trans h (hs.1 z hz)
    · rw [if_neg h]
      by_cases e : y = x
      · rw [if_pos e, insG_true]
        exact List.pairwise_cons.mpr hs
      · rw [if_neg e, List.pairwise_cons]
        refine ⟨fun z hz => ?_, insG_strict x ys hs.2⟩
        rcases (insG_mem x z ys (fun _ _ => trivial)).mp hz with rfl | hz
        · by_cases h2 : idLess y z = true
          · exact h2
          · exact absurd (idLess_total h2 h) e
        · exact hs.1 z hz
theorem insG_length (x : ID) : ∀ (ys : List ID) (b : Bool), (insG x ys b).length ≤ ys.length + 1
  | [], b => by cases b <;> simp [insG]
  | y :: ys, b => by
    have h1 := insG_length x ys b; have h2 := insG_true x ys; cases b
    · rw [insG, if_neg (by decide), h2]
      split
      · simp
      · split
        · simp
        · simp only [List.length_cons]; omega
    · rw [insG_true]; omega
theorem before_id (a b : ID) : Qba.f a.f0 a.f1 b.f0 b.f1 = some (idLess a b) := by
  unfold Qba.f idLess
  by_cases h : a.f0 = b.f0
  · rw [if_pos h, decide_eq_false (show ¬ a.f0 < b.f0 by omega), decide_eq_true h]
    rfl
  · rw [if_neg h, decide_eq_false h]
    simp
theorem once_l1 (X out : List ID) (i : Nat) (hi : i < X.length) (hX : X.length < 1000000000) (ho : out.length ≤ i) (v : List ID) : ∀ (n j : Nat) (acc : List ID) (put : Bool), n + j = out.length → acc.length ≤ j + 1 → (put = false → acc.length ≤ j) → Ev (fun k => Qaf.l0 k X (acc ++ insG X[i] (out.drop j) put) ((i + 1 : Nat) : Int)) v → Ev (fun k => Qaf.l1 k X out (i : Int) acc put (j : Int)) v
  | 0, j, acc, put, hn, ha, hp, hv => by
    rw [List.drop_eq_nil_of_le (by omega)] at hv; refine Ev.step (fun k => ?_) hv; cases put
    · rw [Qaf.l1, if_neg (by omega), if_neg (by decide), if_pos (by omega), if_pos (by omega), if_pos (by omega), rdI X i hi, idEta, wrapN (by omega), insG, if_neg (by decide)]
    · rw [Qaf.l1, if_neg (by omega), if_pos rfl, wrapN (by omega), insG, if_pos rfl, List.append_nil]
  | n + 1, j, acc, put, hn, ha, hp, hv => by
    have hj : j < out.length := by omega
    rw [List.drop_eq_getElem_cons hj] at hv; have hx := rdI X i hi; have hy := rdI out j hj
    have hnext := fun (acc' : List ID) (put' : Bool) h1 h2 hv' => once_l1 X out i hi hX ho v n (j + 1) acc' put' (by omega) h1 h2 hv'
    cases put
    · by_cases h : idLess X[i] out[j] = true
      · rw [insG, if_neg (by decide), if_pos h, show acc ++ X[i] :: out[j] :: insG X[i] (out.drop (j + 1)) true = (acc ++ [X[i]] ++ [out[j]]) ++ insG X[i] (out.drop (j + 1)) true by simp] at hv
        have := hnext _ true (by have := hp rfl; simp; omega) (by intro e; cases e) hv; have hp' := hp rfl; refine Ev.step (g := fun k => Qaf.j2 k X out (i : Int) acc false (j : Int) true) (fun k => ?_) (Ev.step (fun k => ?_) this)
        · rw [Qaf.l1, if_pos (by omega), if_neg (by decide), if_pos (by omega), if_pos (by omega), if_pos (by omega), hx, hy, before_id, h, Option.bind_some]
        · rw [Qaf.j2, if_pos rfl, if_pos (by omega), if_pos (by omega), if_pos (by omega), hx, hy, idEta, idEta, Option.bind_some, if_pos (by omega), if_pos (by omega), wrapN (by omega)]
          split <;> rw [if_pos (by simp; omega)]
      · have hf : idLess X[i] out[j] = false := by simpa using h
        rw [insG, if_neg (by decide), if_neg h] at hv
        by_cases e : out[j] = X[i]
        · rw [if_pos e, show acc ++ out[j] :: insG X[i] (out.drop (j + 1)) true = (acc ++ [out[j]]) ++ insG X[i] (out.drop (j + 1)) true by simp] at hv
          have hp' := hp rfl; have := hnext _ true (by simp; omega) (by intro e; cases e) hv; refine Ev.step (g := fun k => Qaf.j2 k X out (i : Int) acc false (j : Int) false) (fun k => ?_) (Ev.step (fun k => ?_) this)
          · rw [Qaf.l1, if_pos (by omega), if_neg (by decide), if_pos (by omega), if_pos (by omega), if_pos (by omega), hx, hy, before_id, hf, Option.bind_some]
          · rw [Qaf.j2, if_neg (by decide), if_pos (by omega), if_pos (by omega), if_pos (by omega), if_pos (by omega), hx, hy, idBeq, decide_eq_true e, if_pos rfl, if_pos (by omega), idEta, wrapN (by omega)]
        · rw [if_neg e, show acc ++ out[j] :: insG X[i] (out.drop (j + 1)) false = (acc ++ [out[j]]) ++ insG X[i] (out.drop (j + 1)) false by simp] at hv
          have hp' := hp rfl; have := hnext _ false (by simp; omega) (by intro _; simp; omega) hv; refine Ev.step (g := fun k => Qaf.j2 k X out (i : Int) acc false (j : Int) false) (fun k => ?_) (Ev.step (fun k => ?_) this)
          · rw [Qaf.l1, if_pos (by omega), if_neg (by decide), if_pos (by omega), if_pos (by omega), if_pos (by omega), hx, hy, before_id, hf, Option.bind_some]
          · rw [Qaf.j2, if_neg (by decide), if_pos (by omega), if_pos (by omega), if_pos (by omega), if_pos (by omega), hx, hy, idBeq, decide_eq_false e, if_neg (by decide), if_pos (by omega), idEta, wrapN (by omega)]
    · rw [insG, if_pos rfl, show acc ++ out[j] :: insG X[i] (out.drop (j + 1)) true = (acc ++ [out[j]]) ++ insG X[i] (out.drop (j + 1)) true by simp] at hv
      have := hnext _ true (by simp; omega) (by intro e; cases e) hv; refine Ev.step (g := fun k => Qaf.j2 k X out (i : Int) acc true (j : Int) false) (fun k => ?_) (Ev.step (fun k => ?_) this)
      · rw [Qaf.l1, if_pos (by omega), if_pos rfl]
      · rw [Qaf.j2, if_neg (by decide), if_pos (by omega), if_pos (by omega), if_pos (by omega), if_pos (by omega), hx, hy, idEta, wrapN (by omega)]
        split <;> rw [if_pos (by omega)]
theorem once_l0 (X : List ID) (hX : X.length < 1000000000) : ∀ (n i : Nat) (out : List ID), n + i = X.length → out.length ≤ i → Ev (fun k => Qaf.l0 k X out (i : Int)) ((X.drop i).foldl (fun o x => insG x o false) out)
  | 0, i, out, hn, ho => by
    rw [List.drop_eq_nil_of_le (by omega)]; refine Ev.step (fun k => ?_) (Ev.pure _); rw [Qaf.l0, if_neg (by omega)]; rfl
  | n + 1, i, out, hn, ho => by
    have hi : i < X.length := by omega
    rw [List.drop_eq_getElem_cons hi, List.foldl_cons]; have h1 := once_l0 X hX n (i + 1) (insG X[i] out false) (by omega) (by have := insG_length X[i] out false; omega); have h2 := once_l1 X out i hi hX ho _ out.length 0 [] false (by omega) (by simp) (by simp) (by rw [List.drop_zero, List.nil_append]; exact h1); refine Ev.step (fun k => ?_) h2; rw [Qaf.l0, if_pos (by omega)]; rfl
theorem once_fold : ∀ (X out : List ID), out.Pairwise (fun a b => idLess a b = true) → (X.foldl (fun o x => insG x o false) out).Pairwise (fun a b => idLess a b = true) ∧ ∀ z, z ∈ X.foldl (fun o x => insG x o false) out ↔ z ∈ out ∨ z ∈ X
  | [], out, h => ⟨h, fun z => by simp⟩
  | x :: X, out, h => by
    have := once_fold X (insG x out false) (insG_strict x out h); refine ⟨this.1, fun z => ?_⟩; rw [List.foldl_cons, this.2, insG_mem x z out (fun _ _ => trivial), List.mem_cons]; constructor
    · rintro ((h | h) | h)
      · exact .inr (.inl h)
      · exact .inl h
      · exact .inr (.inr h)
    · rintro (h | h | h)
      · exact .inl (.inr h)
      · exact .inl (.inl h)
      · exact .inr h
theorem once_evL (X R : List ID) (hX : X.length < 1000000000) (hR : R.Pairwise fun a b => idLess a b = true) (hm : ∀ x, x ∈ R ↔ x ∈ X) : Ev (fun k => Qaf.f k X) R := by
  have h := once_l0 X hX X.length 0 [] (by omega) (by simp); rw [List.drop_zero] at h; have h2 := once_fold X [] List.Pairwise.nil; rw [strict_unique hR h2.1 (fun x => by rw [hm, h2.2]; simp)]; exact h
end Go.Proofs.YtbjjgaahdnfflaaGreatDoor.Pr
end
