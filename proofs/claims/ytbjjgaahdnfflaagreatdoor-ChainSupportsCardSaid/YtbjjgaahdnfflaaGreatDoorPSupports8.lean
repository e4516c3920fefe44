/- The proof's own texts, joined: part 8. No conditions. -/
import Derived.Laws.StructEq
import Derived.Test.YtbjjgaahdnfflaaGreatDoorProg
import Derived.Below
import Derived.Deep.Draws
import Derived.Deep.AppendLies
import Derived.Maps.AppendAt
import Derived.OwnWalk
import Derived.Laws.BytesArg
import Derived.Laws.MakeOwn
import Derived.Laws.OwnMore
import Derived.Deep.OwnRows
import Derived.Tactics
import Derived.Lib.ConvBytes
import Derived.Laws.Slices
import Derived.WalkKit
import Derived.KernelRfl
import Derived.RowKit3
import Derived.Deep.LoopGhost
import Derived.Deep.QuietTactic
import Derived.BigQuiet
import Derived.WideLaws
import Derived.Deep.DeepCutAuto
import Derived.Deep.CutBlock
import Derived.Deep.RegionHeld3
import Derived.Laws.Rows
import Derived.Lib.AppendStr
import Derived.ArgAppend
import Derived.Laws.IdiomCopy
import Derived.OrdersHeld
import Derived.Laws.BitsLemmas
import Derived.RowKit
import Derived.Shelf.SlicesG.Cmp
import Derived.Ground.SlgcProg
import Derived.Shelf.SlSortCmp.NoneTotal
import Derived.WalkSpells
import Derived.Lib.Hide
import Derived.StillTailTactics
import Derived.DeepKeys4
import Derived.Sort.Grow
import Derived.Lib.SlicesS
import Derived.WalkLawsBesides
import Derived.Deep.RegionWith
import Derived.RegionTactic
import Derived.ChangeAlike
import Derived.Deep.RegionLaw
import Derived.Lib.SmallJoins
import Derived.Deep.DrawnRows
import Derived.Shelf.SlicesE.Clone
import Derived.Laws.RangeAny
import Derived.Laws.Closers25
import Derived.Outline
import Derived.Shelf.SlSortCmp.WholeK
import Derived.Ground.SlsfProg
import Derived.Ground.SlgnProg
import Derived.Sort.Walk0
import Derived.Laws.Strings
import Derived.Maps.OwnSet
import Derived.Maps.RangeRun
import Derived.Maps.Range
import Derived.Carry
import Derived.Shelf.GgSortFunc.InsertionK
import Derived.Sort.LotA
import Derived.Test.YtbjjgaahdnfflaaGreatDoorPSupports0
import Derived.Test.YtbjjgaahdnfflaaGreatDoorPSupports1
import Derived.Test.YtbjjgaahdnfflaaGreatDoorPSupports2
import Derived.Test.YtbjjgaahdnfflaaGreatDoorPSupports3
import Derived.Test.YtbjjgaahdnfflaaGreatDoorPSupports4
import Derived.Test.YtbjjgaahdnfflaaGreatDoorPSupports5
import Derived.Test.YtbjjgaahdnfflaaGreatDoorPSupports6
import Derived.Test.YtbjjgaahdnfflaaGreatDoorPSupports7
section
namespace Go.Proofs.YtbjjgaahdnfflaaGreatDoor.Pr
open Go.RowKit Go.Proofs.YtbjjgaahdnfflaaGreatDoorW.PrintWords Go.Proofs.YtbjjgaahdnfflaaGreatDoorW.PrintLast Go.Proofs.YtbjjgaahdnfflaaGreatDoorW.PrintMore
set_option linter.unusedVariables false
set_option linter.unusedSimpArgs false
section
attribute [local go_sem] QaX QaV Qa4 Qa3 QaP QaO QaW QaU
mutual
def Qaw.l0 : Nat → List (S46) → List (S51) → List (S51) → Int → Option ((List (S51)))
 | 0, _, _, _, _ => none
 | k + 1, x0, x1, x5, x6 => if x6 < (x0.length : Int) then (if 0 ≤ x6 then ((Qab.f k ((Qah x0 x6).f0.f0) ((Qah x0 x6).f0.f1) ((Qah x0 x6).f1) ((Qah x0 x6).f2) ((Qah x0 x6).f3) ((Qah x0 x6).f4.f0) ((Qah x0 x6).f4.f1) ((Qah x0 x6).f5.f0) ((Qah x0 x6).f5.f1) x1).bind fun t105 => (Qaw.l1 k x0 x1 x5 x6 t105 0)) else (none)) else (some x5)
def Qaw.l1 : Nat → List (S46) → List (S51) → List (S51) → Int → List (S51) → Int → Option ((List (S51)))
 | 0, _, _, _, _, _, _ => none
 | k + 1, x0, x1, x5, x6, x7, x8 => if x8 < (x7.length : Int) then (if 0 ≤ x8 then ((Qaq.f k x5 ((Qam x7 x8).f0.f0) ((Qam x7 x8).f0.f1) ((Qam x7 x8).f1)).bind fun t109 => (if t109 = true then (Qaw.l1 k x0 x1 x5 x6 x7 (wrap64 (x8 + 1))) else (if x5.length < 2932031007402 then (Qaw.l1 k x0 x1 (x5 ++ [(⟨(⟨(Qam x7 x8).f0.f0, (Qam x7 x8).f0.f1⟩ : S24), (Qam x7 x8).f1⟩ : S51)]) x6 x7 (wrap64 (x8 + 1))) else (none)))) else (none)) else (Qaw.l0 k x0 x1 x5 (wrap64 (x6 + 1)))
end
def Qaw.f (k : Nat) (l0 : List (S46)) (l1 : List (S51)) : Option ((List (S51))) := if ([] : List (S51)).length + l1.length < 2932031007402 then (Qaw.l0 k l0 l1 (([] : List (S51)) ++ l1) 0) else (none)
set_option maxHeartbeats 8000000 in
set_option maxRecDepth 100000 in
theorem Qaw.calls (k : Nat) (A0 : Option Addr) (c0 : Nat) (l0 : List (S46)) (A1 : Option Addr) (c1 : Nat) (l1 : List (S51)) (r : List (S51)) (w : World) (hr0 : Kd.C k46 w A0 l0.length l0) (hc0 : l0.length ≤ c0) (hr1 : Kd.C k51 w A1 l1.length l1) (hc1 : l1.length ≤ c1) (h : Qaw.f k l0 l1 = some r) :
  Calls Tryz.prog 27 #[.slice A0 l0.length c0, .slice A1 l1.length c1] w fun e w' => ∃ v0_ : Value, e = .returned (v0_) ∧ Kd.R k51 51 w' w.heap.size (fun _ => True) v0_ r ∧ Below w.heap.size w w' := by
 have hu46 := Tryz.underlying46; have hu51 := Tryz.underlying51; have HR0 := Qaa.mk hr0; have HC0 := Qaa.mk hc0; clear hr0 hc0; have HR1 := Qaa.mk hr1; have HC1 := Qaa.mk hc1; clear hr1 hc1; have HB := Qaa.mk (Below.refl w.heap.size w); have H : (if ([] : List (S51)).length + l1.length < 2932031007402 then (Qaw.l0 k l0 l1 (([] : List (S51)) ++ l1) 0) else (none)) = some r := h; clear h
 by_cases c3 : ([] : List (S51)).length + l1.length < 2932031007402
 ·rw [if_pos c3] at H; have LMc3 := Qaa.mk c3; clear c3
  obtain ⟨y101, hy101⟩ : ∃ y_ : List (S51), y_ = (([] : List (S51)) ++ l1) := ⟨_, rfl⟩
  replace H : (Qaw.l0 k l0 l1 y101 0) = some r := by first | (rw [hy101]; with_reducible exact H) | (have H2_ := (Option.bind_some _ _).symm.trans H; rw [hy101]; with_reducible exact H2_) | (have H2_ := (Option.bind_some _ _).symm.trans H; with_reducible exact H2_) | with_reducible exact H | (rw [hy101]; exact H) | exact H
  have Ny101 := Qaa.mk hy101; clear hy101; have H' := Qaa.mk H; clear H; go_enter Tryz.func27, Tryz.ntmps27
  go_wp2_with (first | ((with_reducible refine Qa8 (b := .append) (xs := #[.tmp 10, .tmp 11]) rfl ?_); at_builtin; refine Kd.Qcc k51 (w0 := w) w.heap.size rfl (.tmp 10) (.tmp 11) 48 51 (.agg #[(.string ⟨#[]⟩), (.string ⟨#[]⟩), (.string ⟨#[]⟩)]) 48 rfl Tryz.underlying48 info51 rfl (by decide) (by omega) (.slice none 0 0) ([] : List (S51)) l1 _ _ _ (fun _ => True) (fun _ => False) rfl rfl ?aO ?aR (fun _ _ h => h) (fun _ h => h.elim) ?aF ?aB ?aS ?aL ?_; (case aR => repeat (first | exact HR1.out | (with_reducible refine Kd.C_alloc ?_ _) | (with_reducible refine Kd.C_drewN ?_ _) | (with_reducible refine Kd.C_drew ?_))); (case aB => exact bw_); (case aF => exact (fun _ _ => trivial)); (case aO => exact ((Kd.Qcb _ _ _ _ (fun _ => True)))); (case aS => exact (QaJ bw_)); (case aL => have := LMc3.out; omega); intro v102 w4 ho hb hg hat; rw [← Ny101.out] at ho; have HO103 := Qaa.mk (ho); replace HB := Qaa.mk (hb); clear ho hb hg hat))
  go_loopg [5, 6] k (fun kq v5 v6 w' => ∃ (x5_1 : List (S51)) (x6_1 : Int), v6 = .int .i64 x6_1 ∧ Qaa (Qaw.l0 kq l0 l1 x5_1 x6_1 = some r) ∧ Qaa (kq ≤ k) ∧ Qaa (Kd.R k51 51 w' w.heap.size (fun _ => True) v5 x5_1) ∧ Qaa (Below w.heap.size w w'))
  case atStart => exact ⟨(y101), (0), (by first | rfl | (simp; done) | (simp [*]; done)), H', ⟨Nat.le_refl _⟩, ⟨by (with_reducible repeat (first | apply Kd.QaC | apply Kd.QaF | apply Kd.QaI)); exact HO103.out⟩, ⟨bw_⟩⟩
  case round =>
   clear H'; (try clear c1); (try clear c2); (try clear p2); (try clear c3); obtain ⟨x5_1, x6_1, rfl, HA, HK1, HO_5, HB⟩ := hrel
   cases gk with
   | zero => exact absurd HA.out (by simp [Qaw.l0])
   | succ k1 =>
    have H := HA.out; clear HA; simp only [Qaw.l0] at H
    by_cases c5 : x6_1 < (l0.length : Int)
    ·rw [if_pos c5] at H; have c5b0 : decide (x6_1 < (l0.length : Int)) = true := decide_eq_true c5; clear c5
     by_cases c6 : 0 ≤ x6_1
     ·rw [if_pos c6] at H; have c6b0 : decide (0 ≤ x6_1) = true := decide_eq_true c6; clear c6; replace H := Option.bind_eq_some_iff.mp H; obtain ⟨t105, A70, H⟩ := H; replace H : (Qaw.l1 k1 l0 l1 x5_1 x6_1 t105 0) = some r := H; have A7 := Qaa.mk A70; clear A70; have H' := Qaa.mk H; clear H; have p104 : 0 ≤ (x6_1 : Int) := dd_; have q104 : x6_1 < (l0.length : Int) := dd_; obtain ⟨ad104, e104, hx104_0, hx104_1, hx104_2, hx104_3, hx104_4, hx104_5, hx104_6, hx104_7, hx104_8⟩ := Qcv HR0.out x6_1 p104 q104; cases e104; replace hx104_0 := cb_ HB hx104_0; replace hx104_1 := cb_ HB hx104_1; replace hx104_2 := cb_ HB hx104_2; replace hx104_3 := cb_ HB hx104_3; replace hx104_4 := cb_ HB hx104_4; replace hx104_5 := cb_ HB hx104_5; replace hx104_6 := cb_ HB hx104_6; replace hx104_7 := cb_ HB hx104_7; replace hx104_8 := cb_ HB hx104_8; replace p104 := eq_true p104; replace q104 := eq_true q104
      go_wp2_with (first | ((with_reducible refine QaB (f := 41) rfl ?_); refine gL 24 Tryz.func41 #[.agg #[.int .i64 ((Qah l0 x6_1).f0.f0), .int .i64 ((Qah l0 x6_1).f0.f1), .string ((Qah l0 x6_1).f1), .int .i64 ((Qah l0 x6_1).f2), .string ((Qah l0 x6_1).f3), .string ((Qah l0 x6_1).f4.f0), .string ((Qah l0 x6_1).f4.f1), .string ((Qah l0 x6_1).f5.f0), .string ((Qah l0 x6_1).f5.f1)], .slice A1 l1.length c1] ?_; (with_reducible refine (Qab.calls k1 ((Qah l0 x6_1).f0.f0) ((Qah l0 x6_1).f0.f1) ((Qah l0 x6_1).f1) ((Qah l0 x6_1).f2) ((Qah l0 x6_1).f3) ((Qah l0 x6_1).f4.f0) ((Qah l0 x6_1).f4.f1) ((Qah l0 x6_1).f5.f0) ((Qah l0 x6_1).f5.f1) _ _ l1 t105 _ ?side1 ?side2 A7.out).mono ?_); (case side1 => exact kd_ (Kd.Qbf HR1.out HB.out)); (case side2 => exact HC1.out); rintro e w8 ⟨v106, rfl, ho0, hb⟩; refine ⟨_, rfl, ?_⟩; have HO107 := Qaa.mk (Kd.Qa9 (Kd.Qcw ho0 (Kd.R_lt (ro_ HO_5))) (QaJ bw_)); replace HO_5 := Qaa.mk (Kd.QbE (ro_ HO_5) (Kd.Qb9 ho0) hb); replace HB := Qaa.mk (Qad bw_ hb); (try clear hb); (try clear hb2); (try clear hk); (try clear hi); (try clear ho0)))
      go_loopg [5, 8] k1 (fun kq v5 v8 w' => ∃ (x5_2 : List (S51)) (x8_2 : Int), v8 = .int .i64 x8_2 ∧ Qaa (Qaw.l1 kq l0 l1 x5_2 x6_1 t105 x8_2 = some r) ∧ Qaa (kq ≤ k1) ∧ Qaa (Kd.R k51 51 w' w.heap.size (fun k_ => some k_ ≠ (v106 : Value).ownBlock) v5 x5_2) ∧ Qaa (Kd.R k51 51 w' w.heap.size (fun k_ => some k_ ≠ (v5 : Value).ownBlock) v106 t105) ∧ Qaa (Below w.heap.size w w'))
      case atStart => exact ⟨(x5_1), (0), (by first | rfl | (simp; done) | (simp [*]; done)), H', ⟨Nat.le_refl _⟩, ⟨by (with_reducible repeat (first | apply Kd.QaC | apply Kd.QaF | apply Kd.QaI)); exact Kd.QaZ HO_5.out (fun _ hk => hk.2)⟩, ⟨by (with_reducible repeat (first | apply Kd.QaC | apply Kd.QaF | apply Kd.QaI)); exact Kd.QaZ HO107.out (fun _ hk => hk.2)⟩, ⟨bw_⟩⟩
      case round =>
       clear H'; (try clear c1); (try clear p1); (try clear q1); (try clear hx1); (try clear c2); (try clear p2); (try clear c3); (try clear c4); (try clear c5); (try clear c5b0); (try clear c6); (try clear c6b0); (try clear hx104_0); (try clear hx104_1); (try clear hx104_2); (try clear hx104_3); (try clear hx104_4); (try clear hx104_5); (try clear hx104_6); (try clear hx104_7); (try clear hx104_8); (try clear p104); (try clear p2); (try clear q104); obtain ⟨x5_2, x8_2, rfl, HA, HK2, HO_5, HO_7, HB⟩ := hrel
       cases gk with
       | zero => exact absurd HA.out (by simp [Qaw.l1])
       | succ k2 =>
        have H := HA.out; clear HA; simp only [Qaw.l1] at H
        by_cases c9 : x8_2 < (t105.length : Int)
        ·rw [if_pos c9] at H; have c9b0 : decide (x8_2 < (t105.length : Int)) = true := decide_eq_true c9; clear c9
         by_cases c10 : 0 ≤ x8_2
         ·rw [if_pos c10] at H; have c10b0 : decide (0 ≤ x8_2) = true := decide_eq_true c10; clear c10; replace H := Option.bind_eq_some_iff.mp H; obtain ⟨t109, A110, H⟩ := H; replace H : (if t109 = true then (Qaw.l1 k2 l0 l1 x5_2 x6_1 t105 (wrap64 (x8_2 + 1))) else (if x5_2.length < 2932031007402 then (Qaw.l1 k2 l0 l1 (x5_2 ++ [(⟨(⟨(Qam t105 x8_2).f0.f0, (Qam t105 x8_2).f0.f1⟩ : S24), (Qam t105 x8_2).f1⟩ : S51)]) x6_1 t105 (wrap64 (x8_2 + 1))) else (none))) = some r := H; have A11 := Qaa.mk A110; clear A110
          by_cases c12 : t109 = true
          ·subst c12
           have H1 : (Qaw.l1 k2 l0 l1 x5_2 x6_1 t105 (wrap64 (x8_2 + 1))) = some r := by rw [if_pos rfl] at H; exact H
           clear H; have H := H1; clear H1; have H' := Qaa.mk H; clear H; obtain ⟨Ao13, co13, eo13⟩ := Kd.Qa1 HO_7.out; subst eo13; have p108 : 0 ≤ (x8_2 : Int) := dd_; have q108 : x8_2 < (t105.length : Int) := dd_; obtain ⟨ad108, e108, hx108_0, hx108_1, hx108_2⟩ := QbP (Kd.QaA HO_7.out).2.2 x8_2 p108 q108; cases e108; replace p108 := eq_true p108; replace q108 := eq_true q108; obtain ⟨Ao14, co14, eo14⟩ := Kd.Qa1 HO_5.out; subst eo14
           go_wp2_with (first | ((with_reducible refine QaB (f := 23) rfl ?_); refine gL 36 Tryz.func23 #[.slice Ao14 x5_2.length co14, .agg #[.string ((Qam t105 x8_2).f0.f0), .string ((Qam t105 x8_2).f0.f1), .string ((Qam t105 x8_2).f1)]] ?_; (with_reducible refine (Qaq.calls k2 _ _ x5_2 ((Qam t105 x8_2).f0.f0) ((Qam t105 x8_2).f0.f1) ((Qam t105 x8_2).f1) true _ ?side1 ?side2 A11.out).mono ?_); (case side1 => exact kd_ ((Kd.QaA HO_5.out).2.2)); (case side2 => exact (Kd.QaA HO_5.out).2.1); rintro e w15 ⟨rfl, hb⟩; refine ⟨_, rfl, ?_⟩; replace HO_5 := Qaa.mk (Kd.QaK (ro_ HO_5) hb); replace HO_7 := Qaa.mk (Kd.QaK (ro_ HO_7) hb); replace HB := Qaa.mk (Qad bw_ hb); (try clear hb); (try clear hb2); (try clear hk); (try clear hi)))
           go_roundg k2
           case measure => have := HK1.out; have := HK2.out; omega
           case rel => exact ⟨(x5_2), (wrap64 (x8_2 + 1)), (by first | rfl | (simp; done) | (simp [*]; done)), H', ⟨by have := HK1.out; have := HK2.out; omega⟩, ⟨by (with_reducible repeat (first | apply Kd.QaC | apply Kd.QaF | apply Kd.QaI)); exact HO_5.out⟩, ⟨by (with_reducible repeat (first | apply Kd.QaC | apply Kd.QaF | apply Kd.QaI)); exact HO_7.out⟩, ⟨bw_⟩⟩
          ·replace c12 := Bool.eq_false_iff.mpr c12; subst c12
           have H1 : (if x5_2.length < 2932031007402 then (Qaw.l1 k2 l0 l1 (x5_2 ++ [(⟨(⟨(Qam t105 x8_2).f0.f0, (Qam t105 x8_2).f0.f1⟩ : S24), (Qam t105 x8_2).f1⟩ : S51)]) x6_1 t105 (wrap64 (x8_2 + 1))) else (none)) = some r := by rw [if_neg (show ¬ (false = true) by decide)] at H; exact H
           clear H; have H := H1; clear H1
           by_cases c16 : x5_2.length < 2932031007402
           ·rw [if_pos c16] at H; have LMc16 := Qaa.mk c16; clear c16
            obtain ⟨y111, hy111⟩ : ∃ y_ : List (S51), y_ = (x5_2 ++ [(⟨(⟨(Qam t105 x8_2).f0.f0, (Qam t105 x8_2).f0.f1⟩ : S24), (Qam t105 x8_2).f1⟩ : S51)]) := ⟨_, rfl⟩
            replace H : (Qaw.l1 k2 l0 l1 y111 x6_1 t105 (wrap64 (x8_2 + 1))) = some r := by first | (rw [hy111]; with_reducible exact H) | (have H2_ := (Option.bind_some _ _).symm.trans H; rw [hy111]; with_reducible exact H2_) | (have H2_ := (Option.bind_some _ _).symm.trans H; with_reducible exact H2_) | with_reducible exact H | (rw [hy111]; exact H) | exact H
            have Ny111 := Qaa.mk hy111; clear hy111; have H' := Qaa.mk H; clear H; obtain ⟨Ao17, co17, eo17⟩ := Kd.Qa1 HO_7.out; subst eo17; have p108 : 0 ≤ (x8_2 : Int) := dd_; have q108 : x8_2 < (t105.length : Int) := dd_; obtain ⟨ad108, e108, hx108_0, hx108_1, hx108_2⟩ := QbP (Kd.QaA HO_7.out).2.2 x8_2 p108 q108; cases e108; replace p108 := eq_true p108; replace q108 := eq_true q108; obtain ⟨Ao18, co18, eo18⟩ := Kd.Qa1 HO_5.out; subst eo18
            go_wp2_with (first | ((with_reducible refine QaB (f := 23) rfl ?_); refine gL 36 Tryz.func23 #[.slice Ao18 x5_2.length co18, .agg #[.string ((Qam t105 x8_2).f0.f0), .string ((Qam t105 x8_2).f0.f1), .string ((Qam t105 x8_2).f1)]] ?_; (with_reducible refine (Qaq.calls k2 _ _ x5_2 ((Qam t105 x8_2).f0.f0) ((Qam t105 x8_2).f0.f1) ((Qam t105 x8_2).f1) false _ ?side1 ?side2 A11.out).mono ?_); (case side1 => exact kd_ ((Kd.QaA HO_5.out).2.2)); (case side2 => exact (Kd.QaA HO_5.out).2.1); rintro e w19 ⟨rfl, hb⟩; refine ⟨_, rfl, ?_⟩; replace HO_5 := Qaa.mk (Kd.QaK (ro_ HO_5) hb); replace HO_7 := Qaa.mk (Kd.QaK (ro_ HO_7) hb); replace HB := Qaa.mk (Qad bw_ hb); (try clear hb); (try clear hb2); (try clear hk); (try clear hi); have p110 : 0 ≤ (x8_2 : Int) := dd_; have q110 : x8_2 < (t105.length : Int) := dd_; obtain ⟨ad110, e110, hx110_0, hx110_1, hx110_2⟩ := QbP (Kd.QaA HO_7.out).2.2 x8_2 p110 q110; obtain rfl : ad108 = ad110 := (by injection e110); replace p110 := eq_true p110; replace q110 := eq_true q110) | ((with_reducible refine Qa8 (b := .append) (xs := #[.tmp 39, .tmp 44]) rfl ?_); at_builtin; refine Kd.Qbx k51 (w0 := w) w.heap.size rfl (.tmp 39) (.tmp 44) 48 51 (.agg #[(.string ⟨#[]⟩), (.string ⟨#[]⟩), (.string ⟨#[]⟩)]) 48 rfl Tryz.underlying48 info51 rfl (by decide) (by omega) (.slice Ao18 x5_2.length co18) x5_2 (⟨(⟨(Qam t105 x8_2).f0.f0, (Qam t105 x8_2).f0.f1⟩ : S24), (Qam t105 x8_2).f1⟩ : S51) [.string ((Qam t105 x8_2).f0.f0), .string ((Qam t105 x8_2).f0.f1), .string ((Qam t105 x8_2).f1)] (fun k_ => some k_ ≠ (.slice (some ad108) t105.length co17 : Value).ownBlock) (fun _ => False) rfl rfl ?aP (fun _ hk => hk.elim) ?aF ?aO ?aB ?aS ?aL ?_; (case aP => exact Qcj _ _ _ (⟨(⟨(Qam t105 x8_2).f0.f0, (Qam t105 x8_2).f0.f1⟩ : S24), (Qam t105 x8_2).f1⟩ : S51)); (case aB => exact bw_); (case aF => exact (fun k_ hk => Kd.fresh' (Kd.R_lt (ro_ HO_7)) k_ hk)); (case aO => exact (ro_ HO_5)); (case aS => exact (QaJ bw_)); (case aL => have := LMc16.out; omega); intro v112 w20 ho hb hg hat; rw [← Ny111.out] at ho; have n0_ := Qaa.mk (Kd.QbY (ok := (fun _ => True)) (by (with_reducible repeat (first | apply Kd.QaC | apply Kd.QaF | apply Kd.QaI)); exact Kd.QaZ HO_7.out (fun _ hk => ⟨trivial, hk⟩)) hg hat); have n1_ := Qaa.mk (hb); have n2_ := Qaa.mk (ho); clear HO_7; clear HB; clear HO_5; have HO_7 := n0_; have HB := n1_; have HO113 := n2_; clear n0_ n1_ n2_; clear ho hb hg hat))
            go_roundg k2
            case measure => have := HK1.out; have := HK2.out; omega
            case rel => exact ⟨(y111), (wrap64 (x8_2 + 1)), (by first | rfl | (simp; done) | (simp [*]; done)), H', ⟨by have := HK1.out; have := HK2.out; omega⟩, ⟨by (with_reducible repeat (first | apply Kd.QaC | apply Kd.QaF | apply Kd.QaI)); exact HO113.out⟩, ⟨by (with_reducible repeat (first | apply Kd.QaC | apply Kd.QaF | apply Kd.QaI)); exact Kd.QaZ HO_7.out (fun _ hk => hk.2)⟩, ⟨bw_⟩⟩
           ·rw [if_neg c16] at H; exact absurd H (by simp)
         ·rw [if_neg c10] at H; exact absurd H (by simp)
        ·rw [if_neg c9] at H; have c9b0 : decide (x8_2 < (t105.length : Int)) = false := decide_eq_false c9; clear c9; have H' := Qaa.mk H; clear H; obtain ⟨Ao21, co21, eo21⟩ := Kd.Qa1 HO_7.out; subst eo21; go_wp2
         go_roundg k2
         case measure => have := HK1.out; have := HK2.out; omega
         case rel => exact ⟨(x5_2), (wrap64 (x6_1 + 1)), (by first | rfl | (simp; done) | (simp [*]; done)), H', ⟨by have := HK1.out; have := HK2.out; omega⟩, ⟨by (with_reducible repeat (first | apply Kd.QaC | apply Kd.QaF | apply Kd.QaI)); exact Kd.QaZ HO_5.out (fun _ hk => trivial)⟩, ⟨bw_⟩⟩
     ·rw [if_neg c6] at H; exact absurd H (by simp)
    ·rw [if_neg c5] at H; have c5b0 : decide (x6_1 < (l0.length : Int)) = false := decide_eq_false c5; clear c5; obtain rfl := Option.some.inj H; go_wp2; go_ret; exact ⟨_, by first | rfl | (simp [Qav, Qau] <;> rfl) | (simp [*, Qav, Qau] <;> rfl), by (with_reducible repeat (first | apply Kd.QaC | apply Kd.QaF | apply Kd.QaI)); exact HO_5.out, bw_⟩
 ·rw [if_neg c3] at H; exact absurd H (by simp)

mutual
def Qao.l0 : Nat → List (S46) → List (S51) → Option ((List (S51)))
 | 0, _, _ => none
 | k + 1, x3, x4 => (Qaw.f k x3 x4).bind fun t104 => (if (t104.length : Int) = (x4.length : Int) then (Qao.l1 k x4 ([] : List (S51))) else (Qao.l0 k x3 t104))
def Qao.l1 : Nat → List (S51) → List (S51) → Option ((List (S51)))
 | 0, _, _ => none
 | k + 1, x4, x6 => if (x4.length : Int) > 0 then (Qao.l2 k x4 x6 0 1) else (some x6)
def Qao.l2 : Nat → List (S51) → List (S51) → Int → Int → Option ((List (S51)))
 | 0, _, _, _, _ => none
 | k + 1, x4, x6, x7, x8 => if x8 < (x4.length : Int) then (if 0 ≤ x8 then (if 0 ≤ x7 then (if x7 < (x4.length : Int) then ((QbA.f ((Qam x4 x8).f0.f0) ((Qam x4 x8).f0.f1) ((Qam x4 x8).f1) ((Qam x4 x7).f0.f0) ((Qam x4 x7).f0.f1) ((Qam x4 x7).f1)).bind fun t109 => (if t109 = true then (Qao.l2 k x4 x6 x8 (wrap64 (x8 + 1))) else (Qao.l2 k x4 x6 x7 (wrap64 (x8 + 1))))) else (none)) else (none)) else (none)) else (if 0 ≤ x7 then (if x7 < (x4.length : Int) then (if x6.length < 2932031007402 then (if x7 ≤ (x4.length : Int) then ((some (x4.take (x7 : Int).toNat : List (S51))).bind fun y114 => (if ([] : List (S51)).length + y114.length < 2932031007402 then ((some (([] : List (S51)) ++ y114 : List (S51))).bind fun y118 => (if 0 ≤ (wrap64 (x7 + 1)) then (if (wrap64 (x7 + 1)) ≤ (x4.length : Int) then ((some (x4.drop ((wrap64 (x7 + 1)) : Int).toNat : List (S51))).bind fun y121 => (if y118.length + y121.length < 2932031007402 then (Qao.l1 k (y118 ++ y121) (x6 ++ [(⟨(⟨(Qam x4 x7).f0.f0, (Qam x4 x7).f0.f1⟩ : S24), (Qam x4 x7).f1⟩ : S51)])) else (none))) else (none)) else (none))) else (none))) else (none)) else (none)) else (none)) else (none))
end
def Qao.f (k : Nat) (l0 : List (S46)) : Option ((List (S51))) := (Qat.f k l0).bind fun t101 => (Qao.l0 k t101 ([] : List (S51)))
def Qao.T12 : Bool × List (List Nat × List Nat) := (true, [([], []), ([], []), ([0, 1], [0, 1]), ([2], [2]), ([], []), ([], []), ([4, 5], [4, 5]), ([6], [6]), ([3, 7], [3, 7])])
def Qao.B12 : List Nat := [0, 0, 3, 7, 0, 0, 48, 112, 255]
theorem Qao.tab12 : rtab .any (opsOf Tryz.f21 12) = Qao.T12 := by kernel_rfl
theorem Qao.bits12 : waitsOk Qao.T12.2 Qao.B12 = true := by kernel_rfl
set_option maxHeartbeats 8000000 in
set_option maxRecDepth 100000 in
theorem Qao.calls (k : Nat) (A0 : Option Addr) (c0 : Nat) (l0 : List (S46)) (r : List (S51)) (w : World) (hr0 : Kd.C k46 w A0 l0.length l0) (hc0 : l0.length ≤ c0) (h : Qao.f k l0 = some r) :
  Calls Tryz.prog 21 #[.slice A0 l0.length c0] w fun e w' => ∃ v0_ : Value, e = .returned (v0_) ∧ Kd.R k51 51 w' w.heap.size (fun _ => True) v0_ r ∧ Below w.heap.size w w' := by
 have hu51 := Tryz.underlying51; have HR0 := Qaa.mk hr0; have HC0 := Qaa.mk hc0; clear hr0 hc0; have HB := Qaa.mk (Below.refl w.heap.size w); have H : ((Qat.f k l0).bind fun t101 => (Qao.l0 k t101 ([] : List (S51)))) = some r := h; clear h; replace H := Option.bind_eq_some_iff.mp H; obtain ⟨t101, A20, H⟩ := H; replace H : (Qao.l0 k t101 ([] : List (S51))) = some r := H; have A2 := Qaa.mk A20; clear A20; have H' := Qaa.mk H; clear H; go_enter Tryz.func21, Tryz.ntmps21
 go_wp2_with (first | ((with_reducible refine QaB (f := 18) rfl ?_); refine gL 11 Tryz.func18 #[.slice A0 l0.length c0] ?_; (with_reducible refine (Qat.calls k _ _ l0 t101 _ ?side1 ?side2 A2.out).mono ?_); (case side1 => repeat (first | exact HR0.out | (with_reducible refine Kd.C_alloc ?_ _) | (with_reducible refine Kd.C_drewN ?_ _) | (with_reducible refine Kd.C_drew ?_))); (case side2 => exact HC0.out); rintro e w3 ⟨v102, rfl, ho0, hb⟩; refine ⟨_, rfl, ?_⟩; have HO103 := Qaa.mk (Kd.Qa9 ho0 (QaJ bw_)); replace HB := Qaa.mk (Qad bw_ hb); (try clear hb); (try clear hb2); (try clear hk); (try clear hi); (try clear ho0)))
 go_loopg [4] k (fun kq v4 w' => ∃ (x4_1 : List (S51)), Qaa (Qao.l0 kq t101 x4_1 = some r) ∧ Qaa (kq ≤ k) ∧ Qaa (Kd.R k46 46 w' w.heap.size (fun _ => True) v102 t101) ∧ Qaa (Kd.R k51 51 w' w.heap.size (fun _ => True) v4 x4_1) ∧ Qaa (Below w.heap.size w w'))
 case atStart => exact ⟨(([] : List (S51))), H', ⟨Nat.le_refl _⟩, ⟨by (with_reducible repeat (first | apply Kd.QaC | apply Kd.QaF | apply Kd.QaI)); exact HO103.out⟩, ⟨by first | exact Kd.Qcb _ _ _ _ _ | exact Kd.N_nil _ _ _ _ _ | exact Kd.V_nil _ _ _ _ _ | exact Kd.Q_nil _ _ _ _ _ | exact Kd.S_nil _ _ _ _ _⟩, ⟨bw_⟩⟩
 case round =>
  clear H'; (try clear c1); (try clear c2); (try clear p2); obtain ⟨x4_1, HA, HK1, HO_3, HO_4, HB⟩ := hrel
  cases gk with
  | zero => exact absurd HA.out (by simp [Qao.l0])
  | succ k1 =>
   have H := HA.out; clear HA; simp only [Qao.l0] at H; replace H := Option.bind_eq_some_iff.mp H; obtain ⟨t104, A40, H⟩ := H; replace H : (if (t104.length : Int) = (x4_1.length : Int) then (Qao.l1 k1 x4_1 ([] : List (S51))) else (Qao.l0 k1 t101 t104)) = some r := H; have A4 := Qaa.mk A40; clear A40
   by_cases c5 : (t104.length : Int) = (x4_1.length : Int)
   ·rw [if_pos c5] at H; have c5b0 : ((t104.length : Int) == (x4_1.length : Int)) = true := beq_iff_eq.mpr c5; have c5b1 : ((t104.length : Int) != (x4_1.length : Int)) = false := bne_eq_false_iff_eq.mpr c5
    have c5b2 : (t104.length == x4_1.length) = true := by first | simpa using c5 | (simp at c5 ⊢; omega)
    clear c5; have H' := Qaa.mk H; clear H; obtain ⟨Ao6, co6, eo6⟩ := Kd.Qa1 HO_3.out; subst eo6; obtain ⟨Ao7, co7, eo7⟩ := Kd.Qa1 HO_4.out; subst eo7
    go_wp2_with (first | ((with_reducible refine QaB (f := 27) rfl ?_); refine gL 14 Tryz.func27 #[.slice Ao6 t101.length co6, .slice Ao7 x4_1.length co7] ?_; (with_reducible refine (Qaw.calls k1 _ _ t101 _ _ x4_1 t104 _ ?side1 ?side2 ?side3 ?side4 A4.out).mono ?_); (case side1 => exact kd_ ((Kd.QaA HO_3.out).2.2)); (case side2 => exact (Kd.QaA HO_3.out).2.1); (case side3 => exact kd_ ((Kd.QaA HO_4.out).2.2)); (case side4 => exact (Kd.QaA HO_4.out).2.1); rintro e w8 ⟨v105, rfl, ho0, hb⟩; refine ⟨_, rfl, ?_⟩; have HO106 := Qaa.mk (Kd.Qa9 (Kd.Qcw ho0 (Kd.R_lt (ro_ HO_4))) (QaJ bw_)); replace HO_3 := Qaa.mk (Kd.QaK (ro_ HO_3) hb); replace HO_4 := Qaa.mk (Kd.QbE (ro_ HO_4) (Kd.Qb9 ho0) hb); replace HB := Qaa.mk (Qad bw_ hb); (try clear hb); (try clear hb2); (try clear hk); (try clear hi); (try clear ho0); obtain ⟨Ao9, co9, eo9⟩ := Kd.Qa1 HO106.out; subst eo9))
    go_loopg [4, 6] k1 (fun kq v4 v6 w' => ∃ (x4_2 : List (S51)) (x6_2 : List (S51)), Qaa (Qao.l1 kq x4_2 x6_2 = some r) ∧ Qaa (kq ≤ k1) ∧ Qaa (Kd.R k51 51 w' w.heap.size (fun k_ => some k_ ≠ (v6 : Value).ownBlock) v4 x4_2) ∧ Qaa (Kd.R k51 51 w' w.heap.size (fun k_ => some k_ ≠ (v4 : Value).ownBlock) v6 x6_2) ∧ Qaa (Below w.heap.size w w'))
    case atStart => exact ⟨(x4_1), (([] : List (S51))), H', ⟨Nat.le_refl _⟩, ⟨by (with_reducible repeat (first | apply Kd.QaC | apply Kd.QaF | apply Kd.QaI)); exact Kd.QaZ HO_4.out (fun _ hk => (by simp [Value.ownBlock]))⟩, ⟨by first | exact Kd.Qcb _ _ _ _ _ | exact Kd.N_nil _ _ _ _ _ | exact Kd.V_nil _ _ _ _ _ | exact Kd.Q_nil _ _ _ _ _ | exact Kd.S_nil _ _ _ _ _⟩, ⟨bw_⟩⟩
    case round =>
     clear H'; (try clear c1); (try clear c2); (try clear p2); (try clear c5); (try clear c5b0); (try clear c5b1); (try clear c5b2); (try clear p2); obtain ⟨x4_2, x6_2, HA, HK2, HO_4, HO_6, HB⟩ := hrel
     cases gk with
     | zero => exact absurd HA.out (by simp [Qao.l1])
     | succ k2 =>
      have H := HA.out; clear HA; simp only [Qao.l1] at H
      by_cases c10 : (x4_2.length : Int) > 0
      ·rw [if_pos c10] at H; have c10b0 : decide (0 < (x4_2.length : Int)) = true := decide_eq_true c10; have c10b1 : decide (0 < x4_2.length) = true := decide_eq_true (by omega); clear c10; have H' := Qaa.mk H; clear H; obtain ⟨Ao11, co11, eo11⟩ := Kd.Qa1 HO_4.out; subst eo11; go_wp2
       go_loopg [7, 8] k2 (fun kq v7 v8 w' => ∃ (x7_3 : Int) (x8_3 : Int), v7 = .int .i64 x7_3 ∧ v8 = .int .i64 x8_3 ∧ Qaa (Qao.l2 kq x4_2 x6_2 x7_3 x8_3 = some r) ∧ Qaa (kq ≤ k2) ∧ Qaa (Kd.R k51 51 w' w.heap.size (fun k_ => some k_ ≠ (u6 : Value).ownBlock) (.slice Ao11 x4_2.length co11) x4_2) ∧ Qaa (Kd.R k51 51 w' w.heap.size (fun k_ => some k_ ≠ ((.slice Ao11 x4_2.length co11) : Value).ownBlock) u6 x6_2) ∧ Qaa (Below w.heap.size w w'))
       case atStart => exact ⟨(0), (1), (by first | rfl | (simp; done) | (simp [*]; done)), (by first | rfl | (simp; done) | (simp [*]; done)), H', ⟨Nat.le_refl _⟩, ⟨by (with_reducible repeat (first | apply Kd.QaC | apply Kd.QaF | apply Kd.QaI)); exact HO_4.out⟩, ⟨by (with_reducible repeat (first | apply Kd.QaC | apply Kd.QaF | apply Kd.QaI)); exact HO_6.out⟩, ⟨bw_⟩⟩
       case round =>
        clear H'; (try clear c1); (try clear c2); (try clear p2); (try clear c5); (try clear c5b0); (try clear c5b1); (try clear c5b2); (try clear c10); (try clear c10b0); (try clear c10b1); (try clear p2); obtain ⟨x7_3, x8_3, rfl, rfl, HA, HK3, HO_4, HO_6, HB⟩ := hrel
        cases gk with
        | zero => exact absurd HA.out (by simp [Qao.l2])
        | succ k3 =>
         have H := HA.out; clear HA; simp only [Qao.l2] at H
         by_cases c12 : x8_3 < (x4_2.length : Int)
         ·rw [if_pos c12] at H; have c12b0 : decide (x8_3 < (x4_2.length : Int)) = true := decide_eq_true c12; clear c12
          by_cases c13 : 0 ≤ x8_3
          ·rw [if_pos c13] at H; have c13b0 : decide (0 ≤ x8_3) = true := decide_eq_true c13; clear c13
           by_cases c14 : 0 ≤ x7_3
           ·rw [if_pos c14] at H; have c14b0 : decide (0 ≤ x7_3) = true := decide_eq_true c14; clear c14
            by_cases c15 : x7_3 < (x4_2.length : Int)
            ·rw [if_pos c15] at H; have c15b0 : decide (x7_3 < (x4_2.length : Int)) = true := decide_eq_true c15; clear c15; replace H := Option.bind_eq_some_iff.mp H; obtain ⟨t109, A160, H⟩ := H; replace H : (if t109 = true then (Qao.l2 k3 x4_2 x6_2 x8_3 (wrap64 (x8_3 + 1))) else (Qao.l2 k3 x4_2 x6_2 x7_3 (wrap64 (x8_3 + 1)))) = some r := H; have A16 := Qaa.mk A160; clear A160
             by_cases c17 : t109 = true
             ·subst c17
              have H1 : (Qao.l2 k3 x4_2 x6_2 x8_3 (wrap64 (x8_3 + 1))) = some r := by rw [if_pos rfl] at H; exact H
              clear H; have H := H1; clear H1; have H' := Qaa.mk H; clear H
              try go_wp2
              replace HO_4 := Qaa.mk (Kd.QaI HO_4.out); replace HO_6 := Qaa.mk (Kd.QaI HO_6.out); replace HB := Qaa.mk (Qap HB.out); have p107 : 0 ≤ (x8_3 : Int) := dd_; have q107 : x8_3 < (x4_2.length : Int) := dd_; obtain ⟨ad107, e107, hx107_0, hx107_1, hx107_2⟩ := QbP (Kd.QaA HO_4.out).2.2 x8_3 p107 q107; cases e107; replace p107 := eq_true p107; replace q107 := eq_true q107; have p108 : 0 ≤ (x7_3 : Int) := dd_; have q108 : x7_3 < (x4_2.length : Int) := dd_; obtain ⟨ad108, e108, hx108_0, hx108_1, hx108_2⟩ := QbP (Kd.QaA HO_4.out).2.2 x7_3 p108 q108
              obtain rfl : ad107 = ad108 := (by injection e108)
              replace p108 := eq_true p108; replace q108 := eq_true q108; refine Qbt (n := 9) (S := fun w' => cr_sss w' (ad107.add ((x8_3).toNat * 3)) ((Qam x4_2 x8_3).f0.f0) ((Qam x4_2 x8_3).f0.f1) ((Qam x4_2 x8_3).f1) (crl_sss w' (ad107.add ((x7_3).toNat * 3)) ((Qam x4_2 x7_3).f0.f0) ((Qam x4_2 x7_3).f0.f1) ((Qam x4_2 x7_3).f1))) (ds := []) #[ff,ff,ff,ff,ff,ff,ff,ff,ff] (by kernel_rfl) rfl rfl ⟨hx107_0, hx107_1, hx107_2, hx108_0, hx108_1, hx108_2⟩ (fun hHeld => ?_); refine Qbh Qao.tab12 Qao.bits12 (fun HT_ HW_ => ?_)
              generalize wr.drew = w18 at HO_4 HO_6 HB hx107_0 hx107_1 hx107_2 hx108_0 hx108_1 hx108_2 hHeld ⊢
              refine pz 0 30 ?_; refine pz 1 31 ?_; refine pz 2 32 ?_; refine pz 4 34 ?_; refine pz 5 35 ?_; refine pz 6 36 ?_; refine tk6 3 33 ?_; refine tk6 7 37 ?_; refine one_ (i := 8) (N := some 38) #[tt,tt,tt,tt,tt,tt,tt,tt,tt] rfl rfl (QbU HT_.out (by kernel_rfl)) (by decide) (fun K hK => ?_); refine Qce Tryz.func35 (by kernel_rfl) rfl #[.agg #[.string ((Qam x4_2 x8_3).f0.f0), .string ((Qam x4_2 x8_3).f0.f1), .string ((Qam x4_2 x8_3).f1)], .agg #[.string ((Qam x4_2 x7_3).f0.f0), .string ((Qam x4_2 x7_3).f0.f1), .string ((Qam x4_2 x7_3).f1)]] (by rfl) rfl rfl (by (try simp only [List.map_toArray, List.map_cons, List.map_nil]); first | done | rfl | (simp only [List.length_drop, List.length_take]; rfl)) ?_
              with_reducible refine (QbA.calls ((Qam x4_2 x8_3).f0.f0) ((Qam x4_2 x8_3).f0.f1) ((Qam x4_2 x8_3).f1) ((Qam x4_2 x7_3).f0.f0) ((Qam x4_2 x7_3).f0.f1) ((Qam x4_2 x7_3).f1) true _ A16.out).mono ?_
              rintro e w19 ⟨rfl, hb⟩; have HS0_ := cc_ hb hHeld.1; have HS1_ := cc_ hb hHeld.2.1; have HS2_ := cc_ hb hHeld.2.2.1; have HS3_ := cc_ hb hHeld.2.2.2.1; have HS4_ := cc_ hb hHeld.2.2.2.2.1; have HS5_ := cc_ hb hHeld.2.2.2.2.2; refine ⟨_, rfl, ?_⟩; replace HO_4 := Qaa.mk (Kd.QaK (ro_ HO_4) hb); replace HO_6 := Qaa.mk (Kd.QaK (ro_ HO_6) hb); replace HB := Qaa.mk (Qad bw_ hb)
              (try clear hb)
              (try clear hb2)
              (try clear hk)
              (try clear hi)
              refine hK.out _ _ ⟨HS0_, HS1_, HS2_, HS3_, HS4_, HS5_⟩ (fun hHeld => ?_); clear hK K; refine Qbz (a' := ?_) ?_ ?_; rotate_left
              ·show Act.put _ (some 38) _ = _
               simp only [Act.put, put_, Qbq, Qbr]; rfl
              refine QbH (Qbw HT_.out (by kernel_rfl)) ?_
              try go_wp2
              go_roundg k3
              case measure => have := HK1.out; have := HK2.out; have := HK3.out; omega
              case rel => exact ⟨(x8_3), (wrap64 (x8_3 + 1)), (by first | rfl | (simp; done) | (simp [*]; done)), (by first | rfl | (simp; done) | (simp [*]; done)), H', ⟨by have := HK1.out; have := HK2.out; have := HK3.out; omega⟩, ⟨by (with_reducible repeat (first | apply Kd.QaC | apply Kd.QaF | apply Kd.QaI)); exact HO_4.out⟩, ⟨by (with_reducible repeat (first | apply Kd.QaC | apply Kd.QaF | apply Kd.QaI)); exact HO_6.out⟩, ⟨bw_⟩⟩
             ·replace c17 := Bool.eq_false_iff.mpr c17; subst c17
              have H1 : (Qao.l2 k3 x4_2 x6_2 x7_3 (wrap64 (x8_3 + 1))) = some r := by rw [if_neg (show ¬ (false = true) by decide)] at H; exact H
              clear H; have H := H1; clear H1; have H' := Qaa.mk H; clear H
              try go_wp2
              replace HO_4 := Qaa.mk (Kd.QaI HO_4.out); replace HO_6 := Qaa.mk (Kd.QaI HO_6.out); replace HB := Qaa.mk (Qap HB.out); have p107 : 0 ≤ (x8_3 : Int) := dd_; have q107 : x8_3 < (x4_2.length : Int) := dd_; obtain ⟨ad107, e107, hx107_0, hx107_1, hx107_2⟩ := QbP (Kd.QaA HO_4.out).2.2 x8_3 p107 q107; cases e107; replace p107 := eq_true p107; replace q107 := eq_true q107; have p108 : 0 ≤ (x7_3 : Int) := dd_; have q108 : x7_3 < (x4_2.length : Int) := dd_; obtain ⟨ad108, e108, hx108_0, hx108_1, hx108_2⟩ := QbP (Kd.QaA HO_4.out).2.2 x7_3 p108 q108
              obtain rfl : ad107 = ad108 := (by injection e108)
              replace p108 := eq_true p108; replace q108 := eq_true q108; refine Qbt (n := 9) (S := fun w' => cr_sss w' (ad107.add ((x8_3).toNat * 3)) ((Qam x4_2 x8_3).f0.f0) ((Qam x4_2 x8_3).f0.f1) ((Qam x4_2 x8_3).f1) (crl_sss w' (ad107.add ((x7_3).toNat * 3)) ((Qam x4_2 x7_3).f0.f0) ((Qam x4_2 x7_3).f0.f1) ((Qam x4_2 x7_3).f1))) (ds := []) #[ff,ff,ff,ff,ff,ff,ff,ff,ff] (by kernel_rfl) rfl rfl ⟨hx107_0, hx107_1, hx107_2, hx108_0, hx108_1, hx108_2⟩ (fun hHeld => ?_); refine Qbh Qao.tab12 Qao.bits12 (fun HT_ HW_ => ?_)
              generalize wr.drew = w20 at HO_4 HO_6 HB hx107_0 hx107_1 hx107_2 hx108_0 hx108_1 hx108_2 hHeld ⊢
              refine pz 0 30 ?_; refine pz 1 31 ?_; refine pz 2 32 ?_; refine pz 4 34 ?_; refine pz 5 35 ?_; refine pz 6 36 ?_; refine tk6 3 33 ?_; refine tk6 7 37 ?_; refine one_ (i := 8) (N := some 38) #[tt,tt,tt,tt,tt,tt,tt,tt,tt] rfl rfl (QbU HT_.out (by kernel_rfl)) (by decide) (fun K hK => ?_); refine Qce Tryz.func35 (by kernel_rfl) rfl #[.agg #[.string ((Qam x4_2 x8_3).f0.f0), .string ((Qam x4_2 x8_3).f0.f1), .string ((Qam x4_2 x8_3).f1)], .agg #[.string ((Qam x4_2 x7_3).f0.f0), .string ((Qam x4_2 x7_3).f0.f1), .string ((Qam x4_2 x7_3).f1)]] (by rfl) rfl rfl (by (try simp only [List.map_toArray, List.map_cons, List.map_nil]); first | done | rfl | (simp only [List.length_drop, List.length_take]; rfl)) ?_
              with_reducible refine (QbA.calls ((Qam x4_2 x8_3).f0.f0) ((Qam x4_2 x8_3).f0.f1) ((Qam x4_2 x8_3).f1) ((Qam x4_2 x7_3).f0.f0) ((Qam x4_2 x7_3).f0.f1) ((Qam x4_2 x7_3).f1) false _ A16.out).mono ?_
              rintro e w21 ⟨rfl, hb⟩; have HS0_ := cc_ hb hHeld.1; have HS1_ := cc_ hb hHeld.2.1; have HS2_ := cc_ hb hHeld.2.2.1; have HS3_ := cc_ hb hHeld.2.2.2.1; have HS4_ := cc_ hb hHeld.2.2.2.2.1; have HS5_ := cc_ hb hHeld.2.2.2.2.2; refine ⟨_, rfl, ?_⟩; replace HO_4 := Qaa.mk (Kd.QaK (ro_ HO_4) hb); replace HO_6 := Qaa.mk (Kd.QaK (ro_ HO_6) hb); replace HB := Qaa.mk (Qad bw_ hb)
              (try clear hb)
              (try clear hb2)
              (try clear hk)
              (try clear hi)
              refine hK.out _ _ ⟨HS0_, HS1_, HS2_, HS3_, HS4_, HS5_⟩ (fun hHeld => ?_); clear hK K; refine Qbz (a' := ?_) ?_ ?_; rotate_left
              ·show Act.put _ (some 38) _ = _
               simp only [Act.put, put_, Qbq, Qbr]; rfl
              refine QbH (Qbw HT_.out (by kernel_rfl)) ?_
              try go_wp2
              go_roundg k3
              case measure => have := HK1.out; have := HK2.out; have := HK3.out; omega
              case rel => exact ⟨(x7_3), (wrap64 (x8_3 + 1)), (by first | rfl | (simp; done) | (simp [*]; done)), (by first | rfl | (simp; done) | (simp [*]; done)), H', ⟨by have := HK1.out; have := HK2.out; have := HK3.out; omega⟩, ⟨by (with_reducible repeat (first | apply Kd.QaC | apply Kd.QaF | apply Kd.QaI)); exact HO_4.out⟩, ⟨by (with_reducible repeat (first | apply Kd.QaC | apply Kd.QaF | apply Kd.QaI)); exact HO_6.out⟩, ⟨bw_⟩⟩
            ·rw [if_neg c15] at H; exact absurd H (by simp)
           ·rw [if_neg c14] at H; exact absurd H (by simp)
          ·rw [if_neg c13] at H; exact absurd H (by simp)
         ·rw [if_neg c12] at H; have c12b0 : decide (x8_3 < (x4_2.length : Int)) = false := decide_eq_false c12; clear c12
          by_cases c22 : 0 ≤ x7_3
          ·rw [if_pos c22] at H; have c22b0 : decide (0 ≤ x7_3) = true := decide_eq_true c22; clear c22
           by_cases c23 : x7_3 < (x4_2.length : Int)
           ·rw [if_pos c23] at H; have c23b0 : decide (x7_3 < (x4_2.length : Int)) = true := decide_eq_true c23; clear c23
            by_cases c24 : x6_2.length < 2932031007402
            ·rw [if_pos c24] at H; have LMc24 := Qaa.mk c24; clear c24
             obtain ⟨y111, hy111⟩ : ∃ y_ : List (S51), y_ = (x6_2 ++ [(⟨(⟨(Qam x4_2 x7_3).f0.f0, (Qam x4_2 x7_3).f0.f1⟩ : S24), (Qam x4_2 x7_3).f1⟩ : S51)]) := ⟨_, rfl⟩
             replace H : (if x7_3 ≤ (x4_2.length : Int) then ((some (x4_2.take (x7_3 : Int).toNat : List (S51))).bind fun y114 => (if ([] : List (S51)).length + y114.length < 2932031007402 then ((some (([] : List (S51)) ++ y114 : List (S51))).bind fun y118 => (if 0 ≤ (wrap64 (x7_3 + 1)) then (if (wrap64 (x7_3 + 1)) ≤ (x4_2.length : Int) then ((some (x4_2.drop ((wrap64 (x7_3 + 1)) : Int).toNat : List (S51))).bind fun y121 => (if y118.length + y121.length < 2932031007402 then (Qao.l1 k3 (y118 ++ y121) y111) else (none))) else (none)) else (none))) else (none))) else (none)) = some r := by first | (rw [hy111]; with_reducible exact H) | (have H2_ := (Option.bind_some _ _).symm.trans H; rw [hy111]; with_reducible exact H2_) | (have H2_ := (Option.bind_some _ _).symm.trans H; with_reducible exact H2_) | with_reducible exact H | (rw [hy111]; exact H) | exact H
             have Ny111 := Qaa.mk hy111; clear hy111; have c25b0 := eq_true (dd_ : 0 ≤ x7_3)
             by_cases c26 : x7_3 ≤ (x4_2.length : Int)
             ·rw [if_pos c26] at H; have c26b0 := eq_true c26; have c26b1 : decide (x7_3 ≤ (x4_2.length : Int)) = true := decide_eq_true c26; clear c26
              obtain ⟨y114, hy114⟩ : ∃ y_ : List (S51), y_ = (x4_2.take (x7_3 : Int).toNat) := ⟨_, rfl⟩
              replace H : (if ([] : List (S51)).length + y114.length < 2932031007402 then ((some (([] : List (S51)) ++ y114 : List (S51))).bind fun y118 => (if 0 ≤ (wrap64 (x7_3 + 1)) then (if (wrap64 (x7_3 + 1)) ≤ (x4_2.length : Int) then ((some (x4_2.drop ((wrap64 (x7_3 + 1)) : Int).toNat : List (S51))).bind fun y121 => (if y118.length + y121.length < 2932031007402 then (Qao.l1 k3 (y118 ++ y121) y111) else (none))) else (none)) else (none))) else (none)) = some r := by first | (rw [hy114]; with_reducible exact H) | (have H2_ := (Option.bind_some _ _).symm.trans H; rw [hy114]; with_reducible exact H2_) | (have H2_ := (Option.bind_some _ _).symm.trans H; with_reducible exact H2_) | with_reducible exact H | (rw [hy114]; exact H) | exact H
              have Ny114 := Qaa.mk hy114; clear hy114
              by_cases c27 : ([] : List (S51)).length + y114.length < 2932031007402
              ·rw [if_pos c27] at H; have LMc27 := Qaa.mk c27; clear c27
               obtain ⟨y118, hy118⟩ : ∃ y_ : List (S51), y_ = (([] : List (S51)) ++ y114) := ⟨_, rfl⟩
               replace H : (if 0 ≤ (wrap64 (x7_3 + 1)) then (if (wrap64 (x7_3 + 1)) ≤ (x4_2.length : Int) then ((some (x4_2.drop ((wrap64 (x7_3 + 1)) : Int).toNat : List (S51))).bind fun y121 => (if y118.length + y121.length < 2932031007402 then (Qao.l1 k3 (y118 ++ y121) y111) else (none))) else (none)) else (none)) = some r := by first | (rw [hy118]; with_reducible exact H) | (have H2_ := (Option.bind_some _ _).symm.trans H; rw [hy118]; with_reducible exact H2_) | (have H2_ := (Option.bind_some _ _).symm.trans H; with_reducible exact H2_) | with_reducible exact H | (rw [hy118]; exact H) | exact H
               have Ny118 := Qaa.mk hy118; clear hy118
               obtain ⟨ji28, hji28⟩ : ∃ j_ : Int, (wrap64 (x7_3 + 1)) = j_ := ⟨_, rfl⟩
               replace H : (if 0 ≤ (ji28) then (if (ji28) ≤ (x4_2.length : Int) then ((some (x4_2.drop ((ji28) : Int).toNat : List (S51))).bind fun y121 => (if y118.length + y121.length < 2932031007402 then (Qao.l1 k3 (y118 ++ y121) y111) else (none))) else (none)) else (none)) = some r := by first | (rw [hji28] at H; exact H) | (simp only [hji28] at H ⊢; exact H)
               have hji28w : (IntKind.i64.wrap (x7_3 + 1)) = ji28 := (Qbq _).trans hji28
               by_cases c29 : 0 ≤ (ji28)
               ·rw [if_pos c29] at H; have c29b0 := eq_true c29; have c29b1 : decide (0 ≤ (ji28)) = true := decide_eq_true c29; clear c29
                by_cases c30 : (ji28) ≤ (x4_2.length : Int)
                ·rw [if_pos c30] at H; have c30b0 := eq_true c30; have c30b1 : decide ((ji28) ≤ (x4_2.length : Int)) = true := decide_eq_true c30; clear c30
                 obtain ⟨y121, hy121⟩ : ∃ y_ : List (S51), y_ = (x4_2.drop ((ji28) : Int).toNat) := ⟨_, rfl⟩
                 replace H : (if y118.length + y121.length < 2932031007402 then (Qao.l1 k3 (y118 ++ y121) y111) else (none)) = some r := by first | (rw [hy121]; with_reducible exact H) | (have H2_ := (Option.bind_some _ _).symm.trans H; rw [hy121]; with_reducible exact H2_) | (have H2_ := (Option.bind_some _ _).symm.trans H; with_reducible exact H2_) | with_reducible exact H | (rw [hy121]; exact H) | exact H
                 have Ny121 := Qaa.mk hy121; clear hy121
                 by_cases c31 : y118.length + y121.length < 2932031007402
                 ·rw [if_pos c31] at H; have LMc31 := Qaa.mk c31; clear c31
                  obtain ⟨y125, hy125⟩ : ∃ y_ : List (S51), y_ = (y118 ++ y121) := ⟨_, rfl⟩
                  replace H : (Qao.l1 k3 y125 y111) = some r := by first | (rw [hy125]; with_reducible exact H) | (have H2_ := (Option.bind_some _ _).symm.trans H; rw [hy125]; with_reducible exact H2_) | (have H2_ := (Option.bind_some _ _).symm.trans H; with_reducible exact H2_) | with_reducible exact H | (rw [hy125]; exact H) | exact H
                  have Ny125 := Qaa.mk hy125; clear hy125; have H' := Qaa.mk H; clear H; have p110 : 0 ≤ (x7_3 : Int) := dd_; have q110 : x7_3 < (x4_2.length : Int) := dd_; obtain ⟨ad110, e110, hx110_0, hx110_1, hx110_2⟩ := QbP (Kd.QaA HO_4.out).2.2 x7_3 p110 q110; cases e110; replace p110 := eq_true p110; replace q110 := eq_true q110
                  go_wp2_with (first | ((with_reducible refine Qa8 (b := .append) (xs := #[.tmp 40, .tmp 45]) rfl ?_); at_builtin; refine Kd.Qbx k51 (w0 := w) w.heap.size rfl (.tmp 40) (.tmp 45) 48 51 (.agg #[(.string ⟨#[]⟩), (.string ⟨#[]⟩), (.string ⟨#[]⟩)]) 48 rfl Tryz.underlying48 info51 rfl (by decide) (by omega) u6 x6_2 (⟨(⟨(Qam x4_2 x7_3).f0.f0, (Qam x4_2 x7_3).f0.f1⟩ : S24), (Qam x4_2 x7_3).f1⟩ : S51) [.string ((Qam x4_2 x7_3).f0.f0), .string ((Qam x4_2 x7_3).f0.f1), .string ((Qam x4_2 x7_3).f1)] (fun k_ => some k_ ≠ (.slice (some ad110) x4_2.length co11 : Value).ownBlock) (fun _ => False) rfl rfl ?aP (fun _ hk => hk.elim) ?aF ?aO ?aB ?aS ?aL ?_; (case aP => exact Qcj _ _ _ (⟨(⟨(Qam x4_2 x7_3).f0.f0, (Qam x4_2 x7_3).f0.f1⟩ : S24), (Qam x4_2 x7_3).f1⟩ : S51)); (case aB => exact bw_); (case aF => exact (fun k_ hk => Kd.fresh' (Kd.R_lt (ro_ HO_4)) k_ hk)); (case aO => exact (ro_ HO_6)); (case aS => exact (QaJ bw_)); (case aL => have := LMc24.out; omega); intro v112 w32 ho hb hg hat; rw [← Ny111.out] at ho; have n0_ := Qaa.mk (Kd.QbY (ok := (fun _ => True)) (by (with_reducible repeat (first | apply Kd.QaC | apply Kd.QaF | apply Kd.QaI)); exact Kd.QaZ HO_4.out (fun _ hk => ⟨trivial, hk⟩)) hg hat); have n1_ := Qaa.mk (hb); have n2_ := Qaa.mk (ho); clear HO_4; clear HB; clear HO_6; have HO_4 := n0_; have HB := n1_; have HO113 := n2_; clear n0_ n1_ n2_; clear ho hb hg hat; have q33 : (x7_3 : Int) ≤ ((x4_2.length : Int) : Int) := dd_; obtain ⟨i033, hi033, _, hsz33, _⟩ := info_parts info51; have hroom33 : x4_2.length ≤ co11 := (Kd.QaA HO_4.out).2.1; have hC33 : Kd.C k51 _ (some ad110) x4_2.length x4_2 := (Kd.QaA HO_4.out).2.2; have hcut33 := cut_to (P := Tryz.prog) 48 51 .i64 Tryz.underlying48 hi033 (some ad110) x4_2.length co11 x7_3 (dd_) q33 hroom33; have hr33 := Kd.C_take (m := (x7_3 : Int).toNat) hC33 (by omega); have hy33 : y114.length = (x7_3 : Int).toNat := (by rw [Ny114.out, List.length_take]; omega); rw [← Ny114.out] at hr33; rw [← hy33] at hcut33; have HR117 := Qaa.mk hr33; have HC117 := Qaa.mk (show y114.length ≤ co11 from by omega); clear hr33 hC33 hroom33 hi033 hsz33; have KY33 := Qaa.mk hy33; clear hy33; have KL33 := Qaa.mk (show (x7_3 : Int).toNat ≤ x4_2.length from by omega); replace q33 := eq_true q33) | ((with_reducible refine Qa8 (b := .append) (xs := #[.tmp 47, .tmp 50]) rfl ?_); at_builtin; refine Kd.Qcc k51 (w0 := w) w.heap.size rfl (.tmp 47) (.tmp 50) 48 51 (.agg #[(.string ⟨#[]⟩), (.string ⟨#[]⟩), (.string ⟨#[]⟩)]) 48 rfl Tryz.underlying48 info51 rfl (by decide) (by omega) (.slice none 0 0) ([] : List (S51)) y114 _ _ _ (fun k_ => some k_ ≠ (.slice (some ad110) x4_2.length co11 : Value).ownBlock ∧ some k_ ≠ (v112 : Value).ownBlock) (fun _ => False) rfl rfl ?aO ?aR (fun _ _ h => h) (fun _ h => h.elim) ?aF ?aB ?aS ?aL ?_; (case aR => repeat (first | exact (by repeat (first | (with_reducible exact HR117.out) | (with_reducible refine Kd.C_alloc ?_ _) | (with_reducible refine Kd.C_drewN ?_ _) | (with_reducible refine Kd.C_drew ?_) | exact HR117.out)) | (with_reducible refine Kd.C_alloc ?_ _) | (with_reducible refine Kd.C_drewN ?_ _) | (with_reducible refine Kd.C_drew ?_))); (case aB => exact bw_); (case aF => exact (fun k_ hk => ⟨Kd.fresh' (Kd.R_lt (ro_ HO_4)) k_ hk, Kd.fresh' (Kd.R_lt (ro_ HO113)) k_ hk⟩)); (case aO => exact ((Kd.Qcb _ _ _ _ (fun k_ => some k_ ≠ (.slice (some ad110) x4_2.length co11 : Value).ownBlock ∧ some k_ ≠ (v112 : Value).ownBlock)))); (case aS => exact (QaJ bw_)); (case aL => have := LMc27.out; omega); intro v119 w34 ho hb hg hat; rw [← Ny118.out] at ho; have n0_ := Qaa.mk (Kd.QbY (Kd.R_apart_nil (ro_ HO_4)) hg hat); have n1_ := Qaa.mk (Kd.QbY (Kd.R_apart_nil (ro_ HO113)) hg hat); have n2_ := Qaa.mk (hb); have n3_ := Qaa.mk ((show Kd.C k51 w34 (some ad110) y114.length y114 from by rw [Ny114.out]; exact Kd.C_take (m := (x7_3 : Int).toNat) ((Kd.QaA (Kd.QbY (Kd.R_apart_nil (ro_ HO_4)) hg hat)).2.2) KL33.out)); have n4_ := Qaa.mk (ho); clear HO_4; clear HO113; clear HB; clear HR117; have HO_4 := n0_; have HO113 := n1_; have HB := n2_; have HR117 := n3_; have HO120 := n4_; clear n0_ n1_ n2_ n3_ n4_; clear ho hb hg hat; have q35 : ((ji28) : Int) ≤ ((x4_2.length : Int) : Int) := dd_; obtain ⟨i035, hi035, _, hsz35, _⟩ := info_parts info51; have hroom35 : x4_2.length ≤ co11 := (Kd.QaA HO_4.out).2.1; have hC35 : Kd.C k51 _ (some ad110) x4_2.length x4_2 := (Kd.QaA HO_4.out).2.2; have q035 : (0 : Int) ≤ ((ji28) : Int) := dd_; have hcut35 := cut_from (P := Tryz.prog) 48 51 .i64 Tryz.underlying48 hi035 3 hsz35 (some ad110) x4_2.length co11 (ji28) q035 q35; have hr35 := Kd.C_drop (m := ((ji28) : Int).toNat) (c := co11) hC35 (by omega) hroom35; obtain ⟨A35, hA35⟩ : ∃ A1, A1 = (if co11 = ((ji28) : Int).toNat then (some ad110) else ((some ad110) : Option Addr).map (·.add (((ji28) : Int).toNat * 3))) := ⟨_, rfl⟩; obtain ⟨c35, hc35⟩ : ∃ c1, c1 = co11 - ((ji28) : Int).toNat := ⟨_, rfl⟩; have hy35 : y121.length = x4_2.length - ((ji28) : Int).toNat := (by rw [Ny121.out, List.length_drop] <;> omega); rw [show (x4_2).drop ((ji28) : Int).toNat = y121 from Ny121.out.symm] at hr35; replace hr35 : Kd.C k51 _ A35 y121.length y121 := (by rw [hA35]; exact hr35); rw [← hy35, ← hA35, ← hc35] at hcut35; have HR124 := Qaa.mk hr35; have HC124 := Qaa.mk (show y121.length ≤ c35 from by rw [hy35, hc35]; exact Nat.sub_le_sub_right hroom35 _); clear hr35 hC35 hroom35 hi035 hsz35 hc35; have KY35 := Qaa.mk hy35; have KA35 := Qaa.mk hA35; clear hy35 hA35; have KL35 := Qaa.mk (show ((ji28) : Int).toNat ≤ x4_2.length from by omega); replace q35 := eq_true q35) | ((with_reducible refine Qa8 (b := .append) (xs := #[.tmp 52, .tmp 56]) rfl ?_); at_builtin; refine Kd.Qcc k51 (w0 := w) w.heap.size rfl (.tmp 52) (.tmp 56) 48 51 (.agg #[(.string ⟨#[]⟩), (.string ⟨#[]⟩), (.string ⟨#[]⟩)]) 48 rfl Tryz.underlying48 info51 rfl (by decide) (by omega) v119 y118 y121 _ _ _ (fun k_ => some k_ ≠ (.slice (some ad110) x4_2.length co11 : Value).ownBlock ∧ some k_ ≠ (v112 : Value).ownBlock) (fun _ => False) rfl rfl ?aO ?aR (fun _ _ h => h) (fun _ h => h.elim) ?aF ?aB ?aS ?aL ?_; (case aR => repeat (first | exact (by repeat (first | (with_reducible exact HR124.out) | (with_reducible refine Kd.C_alloc ?_ _) | (with_reducible refine Kd.C_drewN ?_ _) | (with_reducible refine Kd.C_drew ?_) | exact HR124.out)) | (with_reducible refine Kd.C_alloc ?_ _) | (with_reducible refine Kd.C_drewN ?_ _) | (with_reducible refine Kd.C_drew ?_))); (case aB => exact bw_); (case aF => exact (fun k_ hk => ⟨Kd.fresh' (Kd.R_lt (ro_ HO_4)) k_ hk, Kd.fresh' (Kd.R_lt (ro_ HO113)) k_ hk⟩)); (case aO => exact (ro_ HO120)); (case aS => exact (QaJ bw_)); (case aL => have := LMc31.out; omega); intro v126 w36 ho hb hg hat; rw [← Ny125.out] at ho; have n0_ := Qaa.mk (Kd.QbY (ok := (fun k_ => some k_ ≠ (v112 : Value).ownBlock)) (by (with_reducible repeat (first | apply Kd.QaC | apply Kd.QaF | apply Kd.QaI)); exact Kd.QaZ HO_4.out (fun _ hk => ⟨hk.1.2, hk.2⟩)) hg hat); have n1_ := Qaa.mk (Kd.QbY (ok := (fun k_ => some k_ ≠ (.slice (some ad110) x4_2.length co11 : Value).ownBlock)) (ro_ HO113) hg hat); have n2_ := Qaa.mk (hb); have n3_ := Qaa.mk ((show Kd.C k51 w36 (some ad110) y114.length y114 from by rw [Ny114.out]; exact Kd.C_take (m := (x7_3 : Int).toNat) ((Kd.QaA (Kd.QbY (ok := (fun k_ => some k_ ≠ (v112 : Value).ownBlock)) (by (with_reducible repeat (first | apply Kd.QaC | apply Kd.QaF | apply Kd.QaI)); exact Kd.QaZ HO_4.out (fun _ hk => ⟨hk.1.2, hk.2⟩)) hg hat)).2.2) KL33.out)); have n4_ := Qaa.mk ((show Kd.C k51 w36 A35 y121.length y121 from by rw [Ny121.out, KA35.out]; exact Kd.C_drop (m := ((ji28) : Int).toNat) (c := co11) ((Kd.QaA (Kd.QbY (ok := (fun k_ => some k_ ≠ (v112 : Value).ownBlock)) (by (with_reducible repeat (first | apply Kd.QaC | apply Kd.QaF | apply Kd.QaI)); exact Kd.QaZ HO_4.out (fun _ hk => ⟨hk.1.2, hk.2⟩)) hg hat)).2.2) KL35.out ((Kd.QaA (Kd.QbY (ok := (fun k_ => some k_ ≠ (v112 : Value).ownBlock)) (by (with_reducible repeat (first | apply Kd.QaC | apply Kd.QaF | apply Kd.QaI)); exact Kd.QaZ HO_4.out (fun _ hk => ⟨hk.1.2, hk.2⟩)) hg hat)).2.1))); have n5_ := Qaa.mk (ho); clear HO_4; clear HO113; clear HB; clear HR117; clear HR124; clear HO120; have HO_4 := n0_; have HO113 := n1_; have HB := n2_; have HR117 := n3_; have HR124 := n4_; have HO127 := n5_; clear n0_ n1_ n2_ n3_ n4_ n5_; clear ho hb hg hat))
                  go_roundg k3
                  case measure => have := HK1.out; have := HK2.out; have := HK3.out; omega
                  case rel => exact ⟨(y125), (y111), H', ⟨by have := HK1.out; have := HK2.out; have := HK3.out; omega⟩, ⟨by (with_reducible repeat (first | apply Kd.QaC | apply Kd.QaF | apply Kd.QaI)); exact Kd.QaZ HO127.out (fun _ hk => hk.2)⟩, ⟨by (with_reducible repeat (first | apply Kd.QaC | apply Kd.QaF | apply Kd.QaI)); exact Kd.QaZ HO113.out (fun _ hk => hk.2)⟩, ⟨bw_⟩⟩
                 ·rw [if_neg c31] at H; exact absurd H (by simp)
                ·rw [if_neg c30] at H; exact absurd H (by simp)
               ·rw [if_neg c29] at H; exact absurd H (by simp)
              ·rw [if_neg c27] at H; exact absurd H (by simp)
             ·rw [if_neg c26] at H; exact absurd H (by simp)
            ·rw [if_neg c24] at H; exact absurd H (by simp)
           ·rw [if_neg c23] at H; exact absurd H (by simp)
          ·rw [if_neg c22] at H; exact absurd H (by simp)
      ·rw [if_neg c10] at H; have c10b0 : decide (0 < (x4_2.length : Int)) = false := decide_eq_false c10; have c10b1 : decide (0 < x4_2.length) = false := decide_eq_false (by omega); clear c10; obtain rfl := Option.some.inj H; obtain ⟨Ao37, co37, eo37⟩ := Kd.Qa1 HO_4.out; subst eo37; go_wp2; go_ret; exact ⟨_, by first | rfl | (simp [Qav, Qau] <;> rfl) | (simp [*, Qav, Qau] <;> rfl), by (with_reducible repeat (first | apply Kd.QaC | apply Kd.QaF | apply Kd.QaI)); exact Kd.QaZ HO_6.out (fun _ hk => trivial), bw_⟩
   ·rw [if_neg c5] at H; have c5b0 : ((t104.length : Int) == (x4_1.length : Int)) = false := beq_eq_false_iff_ne.mpr c5; have c5b1 : ((t104.length : Int) != (x4_1.length : Int)) = true := bne_iff_ne.mpr c5
    have c5b2 : (t104.length == x4_1.length) = false := by first | simpa using c5 | (simp at c5 ⊢; omega)
    have H' := Qaa.mk H; clear H; obtain ⟨Ao38, co38, eo38⟩ := Kd.Qa1 HO_3.out; subst eo38; obtain ⟨Ao39, co39, eo39⟩ := Kd.Qa1 HO_4.out; subst eo39
    go_wp2_with (first | ((with_reducible refine QaB (f := 27) rfl ?_); refine gL 14 Tryz.func27 #[.slice Ao38 t101.length co38, .slice Ao39 x4_1.length co39] ?_; (with_reducible refine (Qaw.calls k1 _ _ t101 _ _ x4_1 t104 _ ?side1 ?side2 ?side3 ?side4 A4.out).mono ?_); (case side1 => exact kd_ ((Kd.QaA HO_3.out).2.2)); (case side2 => exact (Kd.QaA HO_3.out).2.1); (case side3 => exact kd_ ((Kd.QaA HO_4.out).2.2)); (case side4 => exact (Kd.QaA HO_4.out).2.1); rintro e w40 ⟨v105, rfl, ho0, hb⟩; refine ⟨_, rfl, ?_⟩; have HO106 := Qaa.mk (Kd.Qa9 (Kd.Qcw ho0 (Kd.R_lt (ro_ HO_4))) (QaJ bw_)); replace HO_3 := Qaa.mk (Kd.QaK (ro_ HO_3) hb); replace HO_4 := Qaa.mk (Kd.QbE (ro_ HO_4) (Kd.Qb9 ho0) hb); replace HB := Qaa.mk (Qad bw_ hb); (try clear hb); (try clear hb2); (try clear hk); (try clear hi); (try clear ho0); obtain ⟨Ao41, co41, eo41⟩ := Kd.Qa1 HO106.out; subst eo41))
    go_roundg k1
    case measure => have := HK1.out; omega
    case rel => exact ⟨(t104), H', ⟨by have := HK1.out; omega⟩, ⟨by (with_reducible repeat (first | apply Kd.QaC | apply Kd.QaF | apply Kd.QaI)); exact HO_3.out⟩, ⟨by (with_reducible repeat (first | apply Kd.QaC | apply Kd.QaF | apply Kd.QaI)); exact Kd.QaZ HO106.out (fun _ hk => trivial)⟩, ⟨bw_⟩⟩

def QaR.l0 : Nat → List (S46) → List (S51) → Int → ByteArray → ByteArray → ByteArray → Option (Int)
 | 0, _, _, _, _, _, _ => none
 | k + 1, x7, x10, x11, x106000, x106001, x106002 => (Qaw.f k x7 x10).bind fun t110 => ((Qaq.f k t110 x106000 x106001 x106002).bind fun t113 => (if t113 = true then (some x11) else (QaR.l0 k x7 t110 (wrap64 (x11 + 1)) x106000 x106001 x106002)))
def QaR.f (k : Nat) (l0 : List (S46)) (a1 : ByteArray) (a2_0 : ByteArray) (a2_1 : ByteArray) : Option (Int) := (Qat.f k l0).bind fun t102 => ((Qao.f k l0).bind fun t106 => ((Qaq.f k t106 a2_0 a2_1 a1).bind fun t109 => (if t109 = true then (QaR.l0 k t102 ([] : List (S51)) 1 a2_0 a2_1 a1) else (some 0))))
set_option maxHeartbeats 8000000 in
set_option maxRecDepth 100000 in
theorem QaR.calls (k : Nat) (A0 : Option Addr) (c0 : Nat) (l0 : List (S46)) (a1 : ByteArray) (a2_0 : ByteArray) (a2_1 : ByteArray) (r : Int) (w : World) (hr0 : Kd.C k46 w A0 l0.length l0) (hc0 : l0.length ≤ c0) (h : QaR.f k l0 a1 a2_0 a2_1 = some r) :
  Calls Tryz.prog 12 #[.slice A0 l0.length c0, .string a1, .agg #[.string a2_0, .string a2_1]] w fun e w' => e = .returned (.int .i64 r) ∧ Below w.heap.size w w' := by
 have hu24 := Tryz.underlying24; have hu51 := Tryz.underlying51; have HR0 := Qaa.mk hr0; have HC0 := Qaa.mk hc0; clear hr0 hc0; have HB := Qaa.mk (Below.refl w.heap.size w); have H : ((Qat.f k l0).bind fun t102 => ((Qao.f k l0).bind fun t106 => ((Qaq.f k t106 a2_0 a2_1 a1).bind fun t109 => (if t109 = true then (QaR.l0 k t102 ([] : List (S51)) 1 a2_0 a2_1 a1) else (some 0))))) = some r := h; clear h; replace H := Option.bind_eq_some_iff.mp H; obtain ⟨t102, A40, H⟩ := H; replace H : ((Qao.f k l0).bind fun t106 => ((Qaq.f k t106 a2_0 a2_1 a1).bind fun t109 => (if t109 = true then (QaR.l0 k t102 ([] : List (S51)) 1 a2_0 a2_1 a1) else (some 0)))) = some r := H; have A4 := Qaa.mk A40; clear A40; replace H := Option.bind_eq_some_iff.mp H; obtain ⟨t106, A50, H⟩ := H; replace H : ((Qaq.f k t106 a2_0 a2_1 a1).bind fun t109 => (if t109 = true then (QaR.l0 k t102 ([] : List (S51)) 1 a2_0 a2_1 a1) else (some 0))) = some r := H; have A5 := Qaa.mk A50; clear A50; replace H := Option.bind_eq_some_iff.mp H; obtain ⟨t109, A60, H⟩ := H; replace H : (if t109 = true then (QaR.l0 k t102 ([] : List (S51)) 1 a2_0 a2_1 a1) else (some 0)) = some r := H; have A6 := Qaa.mk A60; clear A60
 by_cases c7 : t109 = true
 ·subst c7
  have H1 : (QaR.l0 k t102 ([] : List (S51)) 1 a2_0 a2_1 a1) = some r := by rw [if_pos rfl] at H; exact H
  clear H; have H := H1; clear H1; have H' := Qaa.mk H; clear H; go_enter Tryz.func12, Tryz.ntmps12
  try go_wp2_with (first | ((with_reducible refine QaN (N := 5) rfl ?_); refine QaM ?hg (N := 5) ?hd (cs := #[.string a2_0, .string a2_1]) (t := 24) ?hr ?_; (case hd => rfl); (case hg => rfl); (case hr => first | (go_simp; done) | (go_simp; rfl)); intro gb101 hg w8 hbox hb; have BK101 := Qaa.mk (hbox); have GW101 := (gz_ hg : Qaa (w.heap.size ≤ gb101)); have GE101 := (gz_ hg : Qaa (w.heap.size ≤ gb101)); replace HB := Qaa.mk (Qad bw_ hb); clear hb hbox hg) | ((with_reducible refine QaB (f := 18) rfl ?_); refine gL 14 Tryz.func18 #[.slice A0 l0.length c0] ?_; (with_reducible refine (Qat.calls k _ _ l0 t102 _ ?side1 ?side2 A4.out).mono ?_); (case side1 => exact kd_ (Kd.Qbf HR0.out HB.out)); (case side2 => exact HC0.out); rintro e w9 ⟨v103, rfl, ho0, hb⟩; refine ⟨_, rfl, ?_⟩; have HO104 := Qaa.mk (Kd.Qa9 ho0 (QaJ bw_)); replace BK101 := Qaa.mk (Qac (g := gb101) bk_ hb); replace HB := Qaa.mk (Qad bw_ hb); (try clear hb); (try clear hb2); (try clear hk); (try clear hi); (try clear ho0); obtain ⟨c10_0, c10_1⟩ := Qch BK101.out; obtain ⟨f10_0, f10_1⟩ := fz_2 BK101.out) | ((with_reducible refine QaN (N := 8) rfl ?_); refine QaM ?hg (N := 8) ?hd (cs := #[.string (⟨#[]⟩ : ByteArray), .string (⟨#[]⟩ : ByteArray), .string (⟨#[]⟩ : ByteArray)]) (t := 51) ?hr ?_; (case hd => rfl); (case hg => rfl); (case hr => first | (go_simp; done) | (go_simp; rfl)); intro gb105 hg w11 hbox hb; have BK105 := Qaa.mk (hbox); have GW105 := (gz_ hg : Qaa (w.heap.size ≤ gb105)); have GE105 := (gz_ hg : Qaa (w.heap.size ≤ gb105)); have NB101_105 := (nl_ hg : Qaa (gb101 ≠ gb105)); have NB105_101 := (ng_ hg : Qaa (gb105 ≠ gb101)); replace HO104 := Qaa.mk (Kd.QaK (ro_ HO104) hb); replace BK101 := Qaa.mk (Qac (g := gb101) bk_ hb); replace HB := Qaa.mk (Qad bw_ hb); clear hb hbox hg; have hnb12 := NB105_101.out; have hnc12 := NB101_105.out; obtain ⟨c13_0, c13_1, c13_2⟩ := Qbk BK105.out; obtain ⟨f13_0, f13_1, f13_2⟩ := fz_3 BK105.out))
  have n0_ : Qaa (Kd.R k46 46 (((w11.setCell ⟨gb105, 0, none⟩ (.string a2_0)).setCell ⟨gb105, 1, none⟩ (.string a2_1)).setCell ⟨gb105, 2, none⟩ (.string a1)) w.heap.size (fun _ => True) v103 t102) := ⟨by (with_reducible repeat (first | apply Kd.QaC | apply Kd.QaF | apply Kd.QaI)); exact Kd.QaZ (Kd.Qbg (p := ⟨gb105, 2, none⟩) (Kd.Qbg (p := ⟨gb105, 1, none⟩) (Kd.Qbg (p := ⟨gb105, 0, none⟩) (Kd.Qcl HO104.out BK105.out (by decide)) (fun _ hk => hk.2) (.string a2_0)) (fun _ hk => hk.2) (.string a2_1)) (fun _ hk => hk.2) (.string a1)) (fun _ hk => trivial)⟩
  have n1_ : Qaa ((((w11.setCell ⟨gb105, 0, none⟩ (.string a2_0)).setCell ⟨gb105, 1, none⟩ (.string a2_1)).setCell ⟨gb105, 2, none⟩ (.string a1)).heap[gb101]? = some (.cells #[.string a2_0, .string a2_1] 24 (0, 0))) := ⟨by (with_reducible repeat (first | refine Qag ?_ _ | refine Qaf ?_ | refine Qae ?_ _)); refine Qcu ?_ NB101_105.out _; (with_reducible repeat (first | refine Qag ?_ _ | refine Qaf ?_ | refine Qae ?_ _)); refine Qcu ?_ NB101_105.out _; (with_reducible repeat (first | refine Qag ?_ _ | refine Qaf ?_ | refine Qae ?_ _)); refine Qcu ?_ NB101_105.out _; (with_reducible repeat (first | refine Qag ?_ _ | refine Qaf ?_ | refine Qae ?_ _)); exact BK101.out⟩
  have n2_ : Qaa ((((w11.setCell ⟨gb105, 0, none⟩ (.string a2_0)).setCell ⟨gb105, 1, none⟩ (.string a2_1)).setCell ⟨gb105, 2, none⟩ (.string a1)).heap[gb105]? = some (.cells #[.string a2_0, .string a2_1, .string a1] 51 (0, 0))) := ⟨by (with_reducible repeat (first | refine Qag ?_ _ | refine Qaf ?_ | refine Qae ?_ _)); refine Qaz (cs := #[.string a2_0, .string a2_1, .string (⟨#[]⟩ : ByteArray)]) ?_ 2 _ rfl; (with_reducible repeat (first | refine Qag ?_ _ | refine Qaf ?_ | refine Qae ?_ _)); refine Qaz (cs := #[.string a2_0, .string (⟨#[]⟩ : ByteArray), .string (⟨#[]⟩ : ByteArray)]) ?_ 1 _ rfl; (with_reducible repeat (first | refine Qag ?_ _ | refine Qaf ?_ | refine Qae ?_ _)); refine Qaz (cs := #[.string (⟨#[]⟩ : ByteArray), .string (⟨#[]⟩ : ByteArray), .string (⟨#[]⟩ : ByteArray)]) ?_ 0 _ rfl; (with_reducible repeat (first | refine Qag ?_ _ | refine Qaf ?_ | refine Qae ?_ _)); exact BK105.out⟩
  have n3_ : Qaa (Below w.heap.size w (((w11.setCell ⟨gb105, 0, none⟩ (.string a2_0)).setCell ⟨gb105, 1, none⟩ (.string a2_1)).setCell ⟨gb105, 2, none⟩ (.string a1))) := ⟨bw_⟩
  (try clear HO104)
  (try clear BK101)
  (try clear BK105)
  (try clear HB)
  generalize (((w11.setCell ⟨gb105, 0, none⟩ (.string a2_0)).setCell ⟨gb105, 1, none⟩ (.string a2_1)).setCell ⟨gb105, 2, none⟩ (.string a1)) = w14 at n0_ n1_ n2_ n3_ ⊢
  have HO104 := n0_; have BK101 := n1_; have BK105 := n2_; have HB := n3_; clear n0_ n1_ n2_ n3_; replace HO104 := Qaa.mk (Kd.QaI HO104.out); replace BK101 := Qaa.mk (Qaf BK101.out); replace BK105 := Qaa.mk (Qaf BK105.out); replace HB := Qaa.mk (Qap HB.out); refine Qbt (n := 5) (S := fun w' => cgl_sss w' gb105 a2_0 a2_1 a1) (ds := []) #[ff,ff,ff,ff,ff] (by kernel_rfl) rfl rfl (cl_3 BK105.out) (fun hHeld => ?_)
  generalize w14.drew = w15 at HO104 BK101 BK105 HB hHeld ⊢
  refine kz 0 18 ?_; refine kk3 2 20 ?_; refine one_ (i := 1) (N := some 19) #[tt,tt,tt,ff,ff] rfl rfl (by kernel_rfl) (by decide) (fun K hK => ?_); refine Qce Tryz.func21 (by kernel_rfl) rfl #[.slice A0 l0.length c0] (by rfl) rfl rfl (by (try simp only [List.map_toArray, List.map_cons, List.map_nil]); first | done | rfl | (simp only [List.length_drop, List.length_take]; rfl)) ?_
  with_reducible refine (Qao.calls k _ _ l0 t106 _ ?side1 ?side2 A5.out).mono ?_
  (case side1 => exact kd_ (Kd.Qbf HR0.out HB.out))
  (case side2 => exact HC0.out)
  rintro e w16 ⟨v107, rfl, ho0, hb⟩; refine ⟨_, rfl, ?_⟩; have HO108 := Qaa.mk (Kd.Qa9 (Kd.Qb8 ho0 (g := gb105) bk_) (QaJ bw_)); replace HO104 := Qaa.mk (Kd.QaK (ro_ HO104) hb); replace BK101 := Qaa.mk (Qac (g := gb101) bk_ hb); replace BK105 := Qaa.mk (Qac (g := gb105) bk_ hb); replace HB := Qaa.mk (Qad bw_ hb)
  (try clear hb)
  (try clear hb2)
  (try clear hk)
  (try clear hi)
  (try clear ho0)
  obtain ⟨Ao17, co17, eo17⟩ := Kd.Qa1 HO108.out
  (first | subst eo17 | (injection eo17 with f1_ f2_ f3_; have f4_ := f1_.symm; have f5_ := f3_.symm; clear f1_ f2_ f3_; subst f4_; subst f5_))
  refine hK.out _ _ (cl_3 BK105.out) (fun hHeld => ?_); clear hK K; refine Qbz (a' := ?_) ?_ ?_; rotate_left
  ·show Act.put _ (some 19) _ = _
   simp only [Act.put, put_, Qbq, Qbr]; rfl
  refine one_ (i := 3) (N := some 21) #[tt,tt,tt,tt,ff] rfl rfl (by kernel_rfl) (by decide) (fun K hK => ?_); refine Qce Tryz.func23 (by kernel_rfl) rfl #[.slice Ao17 t106.length co17, .agg #[.string a2_0, .string a2_1, .string a1]] (by rfl) rfl rfl (by (try simp only [List.map_toArray, List.map_cons, List.map_nil]); first | done | rfl | (simp only [List.length_drop, List.length_take]; rfl)) ?_
  with_reducible refine (Qaq.calls k _ _ t106 a2_0 a2_1 a1 true _ ?side1 ?side2 A6.out).mono ?_
  (case side1 => exact kd_ ((Kd.QaA HO108.out).2.2))
  (case side2 => exact (Kd.QaA HO108.out).2.1)
  rintro e w18 ⟨rfl, hb⟩; refine ⟨_, rfl, ?_⟩; replace HO104 := Qaa.mk (Kd.QaK (ro_ HO104) hb); replace HO108 := Qaa.mk (Kd.QaK (ro_ HO108) hb); replace BK101 := Qaa.mk (Qac (g := gb101) bk_ hb); replace BK105 := Qaa.mk (Qac (g := gb105) bk_ hb); replace HB := Qaa.mk (Qad bw_ hb)
  (try clear hb)
  (try clear hb2)
  (try clear hk)
  (try clear hi)
  refine hK.out _ _ (cl_3 BK105.out) (fun hHeld => ?_); clear hK K; refine Qbz (a' := ?_) ?_ ?_; rotate_left
  ·show Act.put _ (some 21) _ = _
   simp only [Act.put, put_, Qbq, Qbr]; rfl
  refine kz 4 9 ?_; refine QbH (by kernel_rfl) ?_
  try go_wp2
  go_loopg [10, 11] k (fun kq v10 v11 w' => ∃ (x10_1 : List (S51)) (x11_1 : Int), v11 = .int .i64 x11_1 ∧ Qaa (QaR.l0 kq t102 x10_1 x11_1 a2_0 a2_1 a1 = some r) ∧ Qaa (kq ≤ k) ∧ Qaa (Kd.R k46 46 w' w.heap.size (fun _ => True) v103 t102) ∧ Qaa (Kd.R k51 51 w' w.heap.size (fun k_ => k_ ≠ gb105) v10 x10_1) ∧ Qaa (w'.heap[gb101]? = some (.cells #[.string a2_0, .string a2_1] 24 (0, 0))) ∧ Qaa (w'.heap[gb105]? = some (.cells #[.string a2_0, .string a2_1, .string a1] 51 (0, 0))) ∧ Qaa (Below w.heap.size w w'))
  case atStart => exact ⟨(([] : List (S51))), (1), (by first | rfl | (simp; done) | (simp [*]; done)), H', ⟨Nat.le_refl _⟩, ⟨by (with_reducible repeat (first | apply Kd.QaC | apply Kd.QaF | apply Kd.QaI)); exact HO104.out⟩, ⟨by first | exact Kd.Qcb _ _ _ _ _ | exact Kd.N_nil _ _ _ _ _ | exact Kd.V_nil _ _ _ _ _ | exact Kd.Q_nil _ _ _ _ _ | exact Kd.S_nil _ _ _ _ _⟩, ⟨by (with_reducible repeat (first | refine Qag ?_ _ | refine Qaf ?_ | refine Qae ?_ _)); exact BK101.out⟩, ⟨by (with_reducible repeat (first | refine Qag ?_ _ | refine Qaf ?_ | refine Qae ?_ _)); exact BK105.out⟩, ⟨bw_⟩⟩
  case round =>
   clear H'; (try clear c1); (try clear c2); (try clear p2); (try clear c7); (try clear c12); (try clear c18); (try clear c10_0 c10_1); (try clear c13_0 c13_1 c13_2); (try clear f10_0 f10_1); (try clear f13_0 f13_1 f13_2); obtain ⟨x10_1, x11_1, rfl, HA, HK1, HO_7, HO_10, BK101, BK105, HB⟩ := hrel
   cases gk with
   | zero => exact absurd HA.out (by simp [QaR.l0])
   | succ k1 =>
    have H := HA.out; clear HA; simp only [QaR.l0] at H; replace H := Option.bind_eq_some_iff.mp H; obtain ⟨t110, A190, H⟩ := H; replace H : ((Qaq.f k1 t110 a2_0 a2_1 a1).bind fun t113 => (if t113 = true then (some x11_1) else (QaR.l0 k1 t102 t110 (wrap64 (x11_1 + 1)) a2_0 a2_1 a1))) = some r := H; have A19 := Qaa.mk A190; clear A190; replace H := Option.bind_eq_some_iff.mp H; obtain ⟨t113, A200, H⟩ := H; replace H : (if t113 = true then (some x11_1) else (QaR.l0 k1 t102 t110 (wrap64 (x11_1 + 1)) a2_0 a2_1 a1)) = some r := H; have A20 := Qaa.mk A200; clear A200
    by_cases c21 : t113 = true
    ·subst c21
     have H1 : (some x11_1) = some r := by rw [if_pos rfl] at H; exact H
     clear H; have H := H1; clear H1; obtain rfl := Option.some.inj H; obtain ⟨Ao22, co22, eo22⟩ := Kd.Qa1 HO_7.out; subst eo22; obtain ⟨Ao23, co23, eo23⟩ := Kd.Qa1 HO_10.out; subst eo23
     go_wp2_with (first | ((with_reducible refine QaB (f := 27) rfl ?_); refine gL 28 Tryz.func27 #[.slice Ao22 t102.length co22, .slice Ao23 x10_1.length co23] ?_; (with_reducible refine (Qaw.calls k1 _ _ t102 _ _ x10_1 t110 _ ?side1 ?side2 ?side3 ?side4 A19.out).mono ?_); (case side1 => exact kd_ ((Kd.QaA HO_7.out).2.2)); (case side2 => exact (Kd.QaA HO_7.out).2.1); (case side3 => exact kd_ ((Kd.QaA HO_10.out).2.2)); (case side4 => exact (Kd.QaA HO_10.out).2.1); rintro e w24 ⟨v111, rfl, ho0, hb⟩; refine ⟨_, rfl, ?_⟩; have HO112 := Qaa.mk (Kd.Qa9 (Kd.Qb8 (Kd.Qcw ho0 (Kd.R_lt (ro_ HO_10))) (g := gb105) bk_) (QaJ bw_)); replace HO_7 := Qaa.mk (Kd.QaK (ro_ HO_7) hb); replace HO_10 := Qaa.mk (Kd.QbE (ro_ HO_10) (Kd.Qb9 ho0) hb); replace BK101 := Qaa.mk (Qac (g := gb101) bk_ hb); replace BK105 := Qaa.mk (Qac (g := gb105) bk_ hb); replace HB := Qaa.mk (Qad bw_ hb); (try clear hb); (try clear hb2); (try clear hk); (try clear hi); (try clear ho0); have hnb25 := NB105_101.out; have hnc25 := NB101_105.out; obtain ⟨c26_0, c26_1, c26_2⟩ := Qbk BK105.out; obtain ⟨f26_0, f26_1, f26_2⟩ := fz_3 BK105.out; obtain ⟨Ao27, co27, eo27⟩ := Kd.Qa1 HO112.out; subst eo27) | ((with_reducible refine QaB (f := 23) rfl ?_); refine gL 31 Tryz.func23 #[.slice Ao27 t110.length co27, .agg #[.string a2_0, .string a2_1, .string a1]] ?_; (with_reducible refine (Qaq.calls k1 _ _ t110 a2_0 a2_1 a1 true _ ?side1 ?side2 A20.out).mono ?_); (case side1 => exact kd_ ((Kd.QaA HO112.out).2.2)); (case side2 => exact (Kd.QaA HO112.out).2.1); rintro e w28 ⟨rfl, hb⟩; refine ⟨_, rfl, ?_⟩; replace HO_7 := Qaa.mk (Kd.QaK (ro_ HO_7) hb); replace HO_10 := Qaa.mk (Kd.QaK (ro_ HO_10) hb); replace HO112 := Qaa.mk (Kd.QaK (ro_ HO112) hb); replace BK101 := Qaa.mk (Qac (g := gb101) bk_ hb); replace BK105 := Qaa.mk (Qac (g := gb105) bk_ hb); replace HB := Qaa.mk (Qad bw_ hb); (try clear hb); (try clear hb2); (try clear hk); (try clear hi)))
     go_ret; exact ⟨by first | rfl | (simp [Qav, Qau] <;> rfl) | (simp [*, Qav, Qau] <;> rfl), bw_⟩
    ·replace c21 := Bool.eq_false_iff.mpr c21; subst c21
     have H1 : (QaR.l0 k1 t102 t110 (wrap64 (x11_1 + 1)) a2_0 a2_1 a1) = some r := by rw [if_neg (show ¬ (false = true) by decide)] at H; exact H
     clear H; have H := H1; clear H1; have H' := Qaa.mk H; clear H; obtain ⟨Ao29, co29, eo29⟩ := Kd.Qa1 HO_7.out; subst eo29; obtain ⟨Ao30, co30, eo30⟩ := Kd.Qa1 HO_10.out; subst eo30
     go_wp2_with (first | ((with_reducible refine QaB (f := 27) rfl ?_); refine gL 28 Tryz.func27 #[.slice Ao29 t102.length co29, .slice Ao30 x10_1.length co30] ?_; (with_reducible refine (Qaw.calls k1 _ _ t102 _ _ x10_1 t110 _ ?side1 ?side2 ?side3 ?side4 A19.out).mono ?_); (case side1 => exact kd_ ((Kd.QaA HO_7.out).2.2)); (case side2 => exact (Kd.QaA HO_7.out).2.1); (case side3 => exact kd_ ((Kd.QaA HO_10.out).2.2)); (case side4 => exact (Kd.QaA HO_10.out).2.1); rintro e w31 ⟨v111, rfl, ho0, hb⟩; refine ⟨_, rfl, ?_⟩; have HO112 := Qaa.mk (Kd.Qa9 (Kd.Qb8 (Kd.Qcw ho0 (Kd.R_lt (ro_ HO_10))) (g := gb105) bk_) (QaJ bw_)); replace HO_7 := Qaa.mk (Kd.QaK (ro_ HO_7) hb); replace HO_10 := Qaa.mk (Kd.QbE (ro_ HO_10) (Kd.Qb9 ho0) hb); replace BK101 := Qaa.mk (Qac (g := gb101) bk_ hb); replace BK105 := Qaa.mk (Qac (g := gb105) bk_ hb); replace HB := Qaa.mk (Qad bw_ hb); (try clear hb); (try clear hb2); (try clear hk); (try clear hi); (try clear ho0); have hnb32 := NB105_101.out; have hnc32 := NB101_105.out; obtain ⟨c33_0, c33_1, c33_2⟩ := Qbk BK105.out; obtain ⟨f33_0, f33_1, f33_2⟩ := fz_3 BK105.out; obtain ⟨Ao34, co34, eo34⟩ := Kd.Qa1 HO112.out; subst eo34) | ((with_reducible refine QaB (f := 23) rfl ?_); refine gL 31 Tryz.func23 #[.slice Ao34 t110.length co34, .agg #[.string a2_0, .string a2_1, .string a1]] ?_; (with_reducible refine (Qaq.calls k1 _ _ t110 a2_0 a2_1 a1 false _ ?side1 ?side2 A20.out).mono ?_); (case side1 => exact kd_ ((Kd.QaA HO112.out).2.2)); (case side2 => exact (Kd.QaA HO112.out).2.1); rintro e w35 ⟨rfl, hb⟩; refine ⟨_, rfl, ?_⟩; replace HO_7 := Qaa.mk (Kd.QaK (ro_ HO_7) hb); replace HO_10 := Qaa.mk (Kd.QaK (ro_ HO_10) hb); replace HO112 := Qaa.mk (Kd.QaK (ro_ HO112) hb); replace BK101 := Qaa.mk (Qac (g := gb101) bk_ hb); replace BK105 := Qaa.mk (Qac (g := gb105) bk_ hb); replace HB := Qaa.mk (Qad bw_ hb); (try clear hb); (try clear hb2); (try clear hk); (try clear hi)))
     go_roundg k1
     case measure => have := HK1.out; omega
     case rel => exact ⟨(t110), (wrap64 (x11_1 + 1)), (by first | rfl | (simp; done) | (simp [*]; done)), H', ⟨by have := HK1.out; omega⟩, ⟨by (with_reducible repeat (first | apply Kd.QaC | apply Kd.QaF | apply Kd.QaI)); exact HO_7.out⟩, ⟨by (with_reducible repeat (first | apply Kd.QaC | apply Kd.QaF | apply Kd.QaI)); exact Kd.QaZ HO112.out (fun _ hk => hk.2)⟩, ⟨by (with_reducible repeat (first | refine Qag ?_ _ | refine Qaf ?_ | refine Qae ?_ _)); exact BK101.out⟩, ⟨by (with_reducible repeat (first | refine Qag ?_ _ | refine Qaf ?_ | refine Qae ?_ _)); exact BK105.out⟩, ⟨bw_⟩⟩
 ·replace c7 := Bool.eq_false_iff.mpr c7; subst c7
  have H1 : (some 0) = some r := by rw [if_neg (show ¬ (false = true) by decide)] at H; exact H
  clear H; have H := H1; clear H1; obtain rfl := Option.some.inj H; go_enter Tryz.func12, Tryz.ntmps12
  try go_wp2_with (first | ((with_reducible refine QaN (N := 5) rfl ?_); refine QaM ?hg (N := 5) ?hd (cs := #[.string a2_0, .string a2_1]) (t := 24) ?hr ?_; (case hd => rfl); (case hg => rfl); (case hr => first | (go_simp; done) | (go_simp; rfl)); intro gb101 hg w36 hbox hb; have BK101 := Qaa.mk (hbox); have GW101 := (gz_ hg : Qaa (w.heap.size ≤ gb101)); have GE101 := (gz_ hg : Qaa (w.heap.size ≤ gb101)); replace HB := Qaa.mk (Qad bw_ hb); clear hb hbox hg) | ((with_reducible refine QaB (f := 18) rfl ?_); refine gL 14 Tryz.func18 #[.slice A0 l0.length c0] ?_; (with_reducible refine (Qat.calls k _ _ l0 t102 _ ?side1 ?side2 A4.out).mono ?_); (case side1 => exact kd_ (Kd.Qbf HR0.out HB.out)); (case side2 => exact HC0.out); rintro e w37 ⟨v103, rfl, ho0, hb⟩; refine ⟨_, rfl, ?_⟩; have HO104 := Qaa.mk (Kd.Qa9 ho0 (QaJ bw_)); replace BK101 := Qaa.mk (Qac (g := gb101) bk_ hb); replace HB := Qaa.mk (Qad bw_ hb); (try clear hb); (try clear hb2); (try clear hk); (try clear hi); (try clear ho0); obtain ⟨c38_0, c38_1⟩ := Qch BK101.out; obtain ⟨f38_0, f38_1⟩ := fz_2 BK101.out) | ((with_reducible refine QaN (N := 8) rfl ?_); refine QaM ?hg (N := 8) ?hd (cs := #[.string (⟨#[]⟩ : ByteArray), .string (⟨#[]⟩ : ByteArray), .string (⟨#[]⟩ : ByteArray)]) (t := 51) ?hr ?_; (case hd => rfl); (case hg => rfl); (case hr => first | (go_simp; done) | (go_simp; rfl)); intro gb105 hg w39 hbox hb; have BK105 := Qaa.mk (hbox); have GW105 := (gz_ hg : Qaa (w.heap.size ≤ gb105)); have GE105 := (gz_ hg : Qaa (w.heap.size ≤ gb105)); have NB101_105 := (nl_ hg : Qaa (gb101 ≠ gb105)); have NB105_101 := (ng_ hg : Qaa (gb105 ≠ gb101)); replace HO104 := Qaa.mk (Kd.QaK (ro_ HO104) hb); replace BK101 := Qaa.mk (Qac (g := gb101) bk_ hb); replace HB := Qaa.mk (Qad bw_ hb); clear hb hbox hg; have hnb40 := NB105_101.out; have hnc40 := NB101_105.out; obtain ⟨c41_0, c41_1, c41_2⟩ := Qbk BK105.out; obtain ⟨f41_0, f41_1, f41_2⟩ := fz_3 BK105.out))
  have n0_ : Qaa (Kd.R k46 46 (((w39.setCell ⟨gb105, 0, none⟩ (.string a2_0)).setCell ⟨gb105, 1, none⟩ (.string a2_1)).setCell ⟨gb105, 2, none⟩ (.string a1)) w.heap.size (fun _ => True) v103 t102) := ⟨by (with_reducible repeat (first | apply Kd.QaC | apply Kd.QaF | apply Kd.QaI)); exact Kd.QaZ (Kd.Qbg (p := ⟨gb105, 2, none⟩) (Kd.Qbg (p := ⟨gb105, 1, none⟩) (Kd.Qbg (p := ⟨gb105, 0, none⟩) (Kd.Qcl HO104.out BK105.out (by decide)) (fun _ hk => hk.2) (.string a2_0)) (fun _ hk => hk.2) (.string a2_1)) (fun _ hk => hk.2) (.string a1)) (fun _ hk => trivial)⟩
  have n1_ : Qaa ((((w39.setCell ⟨gb105, 0, none⟩ (.string a2_0)).setCell ⟨gb105, 1, none⟩ (.string a2_1)).setCell ⟨gb105, 2, none⟩ (.string a1)).heap[gb101]? = some (.cells #[.string a2_0, .string a2_1] 24 (0, 0))) := ⟨by (with_reducible repeat (first | refine Qag ?_ _ | refine Qaf ?_ | refine Qae ?_ _)); refine Qcu ?_ NB101_105.out _; (with_reducible repeat (first | refine Qag ?_ _ | refine Qaf ?_ | refine Qae ?_ _)); refine Qcu ?_ NB101_105.out _; (with_reducible repeat (first | refine Qag ?_ _ | refine Qaf ?_ | refine Qae ?_ _)); refine Qcu ?_ NB101_105.out _; (with_reducible repeat (first | refine Qag ?_ _ | refine Qaf ?_ | refine Qae ?_ _)); exact BK101.out⟩
  have n2_ : Qaa ((((w39.setCell ⟨gb105, 0, none⟩ (.string a2_0)).setCell ⟨gb105, 1, none⟩ (.string a2_1)).setCell ⟨gb105, 2, none⟩ (.string a1)).heap[gb105]? = some (.cells #[.string a2_0, .string a2_1, .string a1] 51 (0, 0))) := ⟨by (with_reducible repeat (first | refine Qag ?_ _ | refine Qaf ?_ | refine Qae ?_ _)); refine Qaz (cs := #[.string a2_0, .string a2_1, .string (⟨#[]⟩ : ByteArray)]) ?_ 2 _ rfl; (with_reducible repeat (first | refine Qag ?_ _ | refine Qaf ?_ | refine Qae ?_ _)); refine Qaz (cs := #[.string a2_0, .string (⟨#[]⟩ : ByteArray), .string (⟨#[]⟩ : ByteArray)]) ?_ 1 _ rfl; (with_reducible repeat (first | refine Qag ?_ _ | refine Qaf ?_ | refine Qae ?_ _)); refine Qaz (cs := #[.string (⟨#[]⟩ : ByteArray), .string (⟨#[]⟩ : ByteArray), .string (⟨#[]⟩ : ByteArray)]) ?_ 0 _ rfl; (with_reducible repeat (first | refine Qag ?_ _ | refine Qaf ?_ | refine Qae ?_ _)); exact BK105.out⟩
  have n3_ : Qaa (Below w.heap.size w (((w39.setCell ⟨gb105, 0, none⟩ (.string a2_0)).setCell ⟨gb105, 1, none⟩ (.string a2_1)).setCell ⟨gb105, 2, none⟩ (.string a1))) := ⟨bw_⟩
  (try clear HO104)
  (try clear BK101)
  (try clear BK105)
  (try clear HB)
  generalize (((w39.setCell ⟨gb105, 0, none⟩ (.string a2_0)).setCell ⟨gb105, 1, none⟩ (.string a2_1)).setCell ⟨gb105, 2, none⟩ (.string a1)) = w42 at n0_ n1_ n2_ n3_ ⊢
  have HO104 := n0_; have BK101 := n1_; have BK105 := n2_; have HB := n3_; clear n0_ n1_ n2_ n3_; replace HO104 := Qaa.mk (Kd.QaI HO104.out); replace BK101 := Qaa.mk (Qaf BK101.out); replace BK105 := Qaa.mk (Qaf BK105.out); replace HB := Qaa.mk (Qap HB.out); refine Qbt (n := 5) (S := fun w' => cgl_sss w' gb105 a2_0 a2_1 a1) (ds := []) #[ff,ff,ff,ff,ff] (by kernel_rfl) rfl rfl (cl_3 BK105.out) (fun hHeld => ?_)
  generalize w42.drew = w43 at HO104 BK101 BK105 HB hHeld ⊢
  refine kz 0 18 ?_; refine kk3 2 20 ?_; refine one_ (i := 1) (N := some 19) #[tt,tt,tt,ff,ff] rfl rfl (by kernel_rfl) (by decide) (fun K hK => ?_); refine Qce Tryz.func21 (by kernel_rfl) rfl #[.slice A0 l0.length c0] (by rfl) rfl rfl (by (try simp only [List.map_toArray, List.map_cons, List.map_nil]); first | done | rfl | (simp only [List.length_drop, List.length_take]; rfl)) ?_
  with_reducible refine (Qao.calls k _ _ l0 t106 _ ?side1 ?side2 A5.out).mono ?_
  (case side1 => exact kd_ (Kd.Qbf HR0.out HB.out))
  (case side2 => exact HC0.out)
  rintro e w44 ⟨v107, rfl, ho0, hb⟩; refine ⟨_, rfl, ?_⟩; have HO108 := Qaa.mk (Kd.Qa9 (Kd.Qb8 ho0 (g := gb105) bk_) (QaJ bw_)); replace HO104 := Qaa.mk (Kd.QaK (ro_ HO104) hb); replace BK101 := Qaa.mk (Qac (g := gb101) bk_ hb); replace BK105 := Qaa.mk (Qac (g := gb105) bk_ hb); replace HB := Qaa.mk (Qad bw_ hb)
  (try clear hb)
  (try clear hb2)
  (try clear hk)
  (try clear hi)
  (try clear ho0)
  obtain ⟨Ao45, co45, eo45⟩ := Kd.Qa1 HO108.out
  (first | subst eo45 | (injection eo45 with f1_ f2_ f3_; have f4_ := f1_.symm; have f5_ := f3_.symm; clear f1_ f2_ f3_; subst f4_; subst f5_))
  refine hK.out _ _ (cl_3 BK105.out) (fun hHeld => ?_); clear hK K; refine Qbz (a' := ?_) ?_ ?_; rotate_left
  ·show Act.put _ (some 19) _ = _
   simp only [Act.put, put_, Qbq, Qbr]; rfl
  refine one_ (i := 3) (N := some 21) #[tt,tt,tt,tt,ff] rfl rfl (by kernel_rfl) (by decide) (fun K hK => ?_); refine Qce Tryz.func23 (by kernel_rfl) rfl #[.slice Ao45 t106.length co45, .agg #[.string a2_0, .string a2_1, .string a1]] (by rfl) rfl rfl (by (try simp only [List.map_toArray, List.map_cons, List.map_nil]); first | done | rfl | (simp only [List.length_drop, List.length_take]; rfl)) ?_
  with_reducible refine (Qaq.calls k _ _ t106 a2_0 a2_1 a1 false _ ?side1 ?side2 A6.out).mono ?_
  (case side1 => exact kd_ ((Kd.QaA HO108.out).2.2))
  (case side2 => exact (Kd.QaA HO108.out).2.1)
  rintro e w46 ⟨rfl, hb⟩; refine ⟨_, rfl, ?_⟩; replace HO104 := Qaa.mk (Kd.QaK (ro_ HO104) hb); replace HO108 := Qaa.mk (Kd.QaK (ro_ HO108) hb); replace BK101 := Qaa.mk (Qac (g := gb101) bk_ hb); replace BK105 := Qaa.mk (Qac (g := gb105) bk_ hb); replace HB := Qaa.mk (Qad bw_ hb)
  (try clear hb)
  (try clear hb2)
  (try clear hk)
  (try clear hi)
  refine hK.out _ _ (cl_3 BK105.out) (fun hHeld => ?_); clear hK K; refine Qbz (a' := ?_) ?_ ?_; rotate_left
  ·show Act.put _ (some 21) _ = _
   simp only [Act.put, put_, Qbq, Qbr]; rfl
  refine kz 4 9 ?_; refine QbH (by kernel_rfl) ?_
  try go_wp2
  go_ret; exact ⟨by first | rfl | (simp [Qav, Qau] <;> rfl) | (simp [*, Qav, Qau] <;> rfl), bw_⟩

mutual
def Qas.j1 : Nat → List (S46) → List (S51) → ByteArray → ByteArray → ByteArray → Option (Int × Int × (List (S51)))
 | 0, _, _, _, _, _ => none
 | k + 1, x0, x6, x102000, x102001, x102002 => Qas.l1 k x0 x6 0 x102000 x102001 x102002
def Qas.l1 : Nat → List (S46) → List (S51) → Int → ByteArray → ByteArray → ByteArray → Option (Int × Int × (List (S51)))
 | 0, _, _, _, _, _, _ => none
 | k + 1, x0, x6, x9, x102000, x102001, x102002 => if x9 < (x0.length : Int) then (if 0 ≤ x9 then ((QaG.f k ((Qah x0 x9).f0.f0) ((Qah x0 x9).f0.f1) ((Qah x0 x9).f1) ((Qah x0 x9).f2) ((Qah x0 x9).f3) ((Qah x0 x9).f4.f0) ((Qah x0 x9).f4.f1) ((Qah x0 x9).f5.f0) ((Qah x0 x9).f5.f1) x102000 x102001 x102002 x6).bind fun bt108 => (if bt108.2 = true then (some ((Qah x0 x9).f0.f0, (Qah x0 x9).f0.f1, bt108.1)) else (Qas.l1 k x0 x6 (wrap64 (x9 + 1)) x102000 x102001 x102002))) else (none)) else (some (0, 0, ([] : List (S51))))
def Qas.l0 : Nat → List (S46) → List (S51) → ByteArray → ByteArray → ByteArray → Option (Int × Int × (List (S51)))
 | 0, _, _, _, _, _ => none
 | k + 1, x0, x6, x102000, x102001, x102002 => (Qaw.f k x0 x6).bind fun t103 => ((Qaq.f k t103 x102000 x102001 x102002).bind fun t106 => (if t106 = true then (Qas.j1 k x0 x6 x102000 x102001 x102002) else (if (t103.length : Int) = (x6.length : Int) then (Qas.j1 k x0 x6 x102000 x102001 x102002) else (Qas.l0 k x0 t103 x102000 x102001 x102002))))
end
def Qas.f (k : Nat) (l0 : List (S46)) (a1_0 : ByteArray) (a1_1 : ByteArray) (a1_2 : ByteArray) : Option (Int × Int × (List (S51))) := Qas.l0 k l0 ([] : List (S51)) a1_0 a1_1 a1_2
def Qas.T9 : Bool × List (List Nat × List Nat) := (true, [([], []), ([], []), ([0, 1], [0, 1]), ([2], [2]), ([], []), ([], []), ([3, 4, 5], [3, 4, 5]), ([6], [6]), ([7], [7]), ([7], [7]), ([8, 6, 0, 1, 2, 3, 4, 5, 6, 7, 8], [8]), ([9, 10, 0, 1, 2, 3, 4, 5, 6, 7, 8, 9, 10], [9])])
def Qas.B9 : List Nat := [0, 0, 3, 7, 0, 0, 63, 127, 255, 255, 511, 2047]
theorem Qas.tab9 : rtab .any (opsOf Tryz.f29 9) = Qas.T9 := by kernel_rfl
theorem Qas.bits9 : waitsOk Qas.T9.2 Qas.B9 = true := by kernel_rfl
set_option maxHeartbeats 8000000 in
set_option maxRecDepth 100000 in
theorem Qas.calls (k : Nat) (A0 : Option Addr) (c0 : Nat) (l0 : List (S46)) (a1_0 : ByteArray) (a1_1 : ByteArray) (a1_2 : ByteArray) (r1 : Int) (r2 : Int) (r3 : List (S51)) (w : World) (hr0 : Kd.C k46 w A0 l0.length l0) (hc0 : l0.length ≤ c0) (h : Qas.f k l0 a1_0 a1_1 a1_2 = some (r1, r2, r3)) :
  Calls Tryz.prog 29 #[.slice A0 l0.length c0, .agg #[.string a1_0, .string a1_1, .string a1_2]] w fun e w' => ∃ v2_ : Value, e = .returned (.tuple #[.agg #[.int .i64 r1, .int .i64 r2], v2_]) ∧ Kd.R k51 51 w' w.heap.size (fun _ => True) v2_ r3 ∧ Below w.heap.size w w' := by
 have hu51 := Tryz.underlying51; have hu27 := Tryz.underlying27; have hu46 := Tryz.underlying46; have HR0 := Qaa.mk hr0; have HC0 := Qaa.mk hc0; clear hr0 hc0; have HB := Qaa.mk (Below.refl w.heap.size w); have H : (Qas.l0 k l0 ([] : List (S51)) a1_0 a1_1 a1_2) = some (r1, r2, r3) := h; clear h; have HC3 := Qaa.mk H; clear H; go_enter Tryz.func29, Tryz.ntmps29
 go_upto_block 0 with (first | ((with_reducible refine QaN (N := 3) rfl ?_); (try (refine gate_guard (by rfl) ?_; dsimp only)); refine QaM ?hg (N := 3) ?hd (cs := #[.string a1_0, .string a1_1, .string a1_2]) (t := 51) ?hr ?_; (case hd => rfl); (case hg => rfl); (case hr => first | (go_simp; done) | (go_simp; rfl)); intro gb101 hg w4 hbox hb; have BK101 := Qaa.mk (hbox); have GW101 := (gz_ hg : Qaa (w.heap.size ≤ gb101)); have GE101 := (gz_ hg : Qaa (w.heap.size ≤ gb101)); replace HB := Qaa.mk (Qad bw_ hb); clear hb hbox hg) | ((with_reducible refine QaN (N := 4) rfl ?_); (try (refine gate_guard (by rfl) ?_; dsimp only)); refine QaM ?hg (N := 4) ?hd (cs := #[.int .i64 0, .int .i64 0]) (t := 27) ?hr ?_; (case hd => rfl); (case hg => rfl); (case hr => first | (go_simp; done) | (go_simp; rfl)); intro gb102 hg w5 hbox hb; have BK102 := Qaa.mk (hbox); have GW102 := (gz_ hg : Qaa (w.heap.size ≤ gb102)); have GE102 := (gz_ hg : Qaa (w.heap.size ≤ gb102)); have NB101_102 := (nl_ hg : Qaa (gb101 ≠ gb102)); have NB102_101 := (ng_ hg : Qaa (gb102 ≠ gb101)); replace BK101 := Qaa.mk (Qac (g := gb101) bk_ hb); replace HB := Qaa.mk (Qad bw_ hb); clear hb hbox hg))
 (try simp only [Act.put, put_])
 go_cut [6] (fun v6 wc => ∃ (kq : Nat) (x6_2 : List (S51)), Qaa (Qas.j1 kq l0 x6_2 a1_0 a1_1 a1_2 = some (r1, r2, r3)) ∧ Qaa (kq ≤ k) ∧ Qaa (Kd.R k51 51 wc w.heap.size (fun k_ => k_ ≠ gb101) v6 x6_2) ∧ Qaa (wc.heap[gb101]? = some (.cells #[.string a1_0, .string a1_1, .string a1_2] 51 (0, 0))) ∧ Qaa (wc.heap[gb102]? = some (.cells #[.int .i64 0, .int .i64 0] 27 (0, 0))) ∧ Qaa (Below w.heap.size w wc))
 case first =>
  have H := HC3.out; clear HC3; have H' := Qaa.mk H; clear H; go_wp2
  go_loopg [6] k (fun kq v6 w' => ∃ (x6_1 : List (S51)), Qaa (Qas.l0 kq l0 x6_1 a1_0 a1_1 a1_2 = some (r1, r2, r3)) ∧ Qaa (kq ≤ k) ∧ Qaa (Kd.R k51 51 w' w.heap.size (fun k_ => k_ ≠ gb101) v6 x6_1) ∧ Qaa (w'.heap[gb101]? = some (.cells #[.string a1_0, .string a1_1, .string a1_2] 51 (0, 0))) ∧ Qaa (w'.heap[gb102]? = some (.cells #[.int .i64 0, .int .i64 0] 27 (0, 0))) ∧ Qaa (Below w.heap.size w w'))
  case atStart => exact ⟨(([] : List (S51))), H', ⟨Nat.le_refl _⟩, ⟨by first | exact Kd.Qcb _ _ _ _ _ | exact Kd.N_nil _ _ _ _ _ | exact Kd.V_nil _ _ _ _ _ | exact Kd.Q_nil _ _ _ _ _ | exact Kd.S_nil _ _ _ _ _⟩, ⟨by (with_reducible repeat (first | refine Qag ?_ _ | refine Qaf ?_ | refine Qae ?_ _)); exact BK101.out⟩, ⟨by (with_reducible repeat (first | refine Qag ?_ _ | refine Qaf ?_ | refine Qae ?_ _)); exact BK102.out⟩, ⟨bw_⟩⟩
  case round =>
   clear H'; (try clear c2); (try clear p2); obtain ⟨x6_1, HA, HK1, HO_6, BK101, BK102, HB⟩ := hrel
   cases gk with
   | zero => exact absurd HA.out (by simp [Qas.l0])
   | succ k1 =>
    have H := HA.out; clear HA; simp only [Qas.l0] at H; replace H := Option.bind_eq_some_iff.mp H; obtain ⟨t103, A60, H⟩ := H; replace H : ((Qaq.f k1 t103 a1_0 a1_1 a1_2).bind fun t106 => (if t106 = true then (Qas.j1 k1 l0 x6_1 a1_0 a1_1 a1_2) else (if (t103.length : Int) = (x6_1.length : Int) then (Qas.j1 k1 l0 x6_1 a1_0 a1_1 a1_2) else (Qas.l0 k1 l0 t103 a1_0 a1_1 a1_2)))) = some (r1, r2, r3) := H; have A6 := Qaa.mk A60; clear A60; replace H := Option.bind_eq_some_iff.mp H; obtain ⟨t106, A70, H⟩ := H; replace H : (if t106 = true then (Qas.j1 k1 l0 x6_1 a1_0 a1_1 a1_2) else (if (t103.length : Int) = (x6_1.length : Int) then (Qas.j1 k1 l0 x6_1 a1_0 a1_1 a1_2) else (Qas.l0 k1 l0 t103 a1_0 a1_1 a1_2))) = some (r1, r2, r3) := H; have A7 := Qaa.mk A70; clear A70
    by_cases c8 : t106 = true
    ·subst c8
     have H1 : (Qas.j1 k1 l0 x6_1 a1_0 a1_1 a1_2) = some (r1, r2, r3) := by rw [if_pos rfl] at H; exact H
     clear H; have H := H1; clear H1; have H' := Qaa.mk H; clear H; obtain ⟨Ao9, co9, eo9⟩ := Kd.Qa1 HO_6.out; subst eo9
     go_wp2_with (first | ((with_reducible refine QaB (f := 27) rfl ?_); refine gL 14 Tryz.func27 #[.slice A0 l0.length c0, .slice Ao9 x6_1.length co9] ?_; (with_reducible refine (Qaw.calls k1 _ _ l0 _ _ x6_1 t103 _ ?side1 ?side2 ?side3 ?side4 A6.out).mono ?_); (case side1 => exact kd_ (Kd.Qbf HR0.out HB.out)); (case side2 => exact HC0.out); (case side3 => exact kd_ ((Kd.QaA HO_6.out).2.2)); (case side4 => exact (Kd.QaA HO_6.out).2.1); rintro e w10 ⟨v104, rfl, ho0, hb⟩; refine ⟨_, rfl, ?_⟩; have HO105 := Qaa.mk (Kd.Qa9 (Kd.Qb8 (Kd.Qcw ho0 (Kd.R_lt (ro_ HO_6))) (g := gb101) bk_) (QaJ bw_)); replace HO_6 := Qaa.mk (Kd.QbE (ro_ HO_6) (Kd.Qb9 ho0) hb); replace BK101 := Qaa.mk (Qac (g := gb101) bk_ hb); replace BK102 := Qaa.mk (Qac (g := gb102) bk_ hb); replace HB := Qaa.mk (Qad bw_ hb); (try clear hb); (try clear hb2); (try clear hk); (try clear hi); (try clear ho0); have hnb11 := NB101_102.out; have hnc11 := NB102_101.out; obtain ⟨c12_0, c12_1, c12_2⟩ := Qbk BK101.out; obtain ⟨f12_0, f12_1, f12_2⟩ := fz_3 BK101.out; obtain ⟨Ao13, co13, eo13⟩ := Kd.Qa1 HO105.out; subst eo13) | ((with_reducible refine QaB (f := 23) rfl ?_); refine gL 17 Tryz.func23 #[.slice Ao13 t103.length co13, .agg #[.string a1_0, .string a1_1, .string a1_2]] ?_; (with_reducible refine (Qaq.calls k1 _ _ t103 a1_0 a1_1 a1_2 true _ ?side1 ?side2 A7.out).mono ?_); (case side1 => exact kd_ ((Kd.QaA HO105.out).2.2)); (case side2 => exact (Kd.QaA HO105.out).2.1); rintro e w14 ⟨rfl, hb⟩; refine ⟨_, rfl, ?_⟩; replace HO_6 := Qaa.mk (Kd.QaK (ro_ HO_6) hb); replace HO105 := Qaa.mk (Kd.QaK (ro_ HO105) hb); replace BK101 := Qaa.mk (Qac (g := gb101) bk_ hb); replace BK102 := Qaa.mk (Qac (g := gb102) bk_ hb); replace HB := Qaa.mk (Qad bw_ hb); (try clear hb); (try clear hb2); (try clear hk); (try clear hi)))
     go_meet
     case rel => exact ⟨_, (x6_1), H', ⟨by have := HK1.out; first | omega | exact Nat.le_refl _⟩, ⟨by (with_reducible repeat (first | apply Kd.QaC | apply Kd.QaF | apply Kd.QaI)); exact Kd.QaZ HO_6.out (fun _ hk => hk.1)⟩, ⟨by (with_reducible repeat (first | refine Qag ?_ _ | refine Qaf ?_ | refine Qae ?_ _)); exact BK101.out⟩, ⟨by (with_reducible repeat (first | refine Qag ?_ _ | refine Qaf ?_ | refine Qae ?_ _)); exact BK102.out⟩, ⟨bw_⟩⟩
    ·replace c8 := Bool.eq_false_iff.mpr c8; subst c8
     have H1 : (if (t103.length : Int) = (x6_1.length : Int) then (Qas.j1 k1 l0 x6_1 a1_0 a1_1 a1_2) else (Qas.l0 k1 l0 t103 a1_0 a1_1 a1_2)) = some (r1, r2, r3) := by rw [if_neg (show ¬ (false = true) by decide)] at H; exact H
     clear H; have H := H1; clear H1
     by_cases c15 : (t103.length : Int) = (x6_1.length : Int)
     ·rw [if_pos c15] at H; have c15b0 : ((t103.length : Int) == (x6_1.length : Int)) = true := beq_iff_eq.mpr c15; have c15b1 : ((t103.length : Int) != (x6_1.length : Int)) = false := bne_eq_false_iff_eq.mpr c15
      have c15b2 : (t103.length == x6_1.length) = true := by first | simpa using c15 | (simp at c15 ⊢; omega)
      clear c15
      (first | rw [c15b0] | (simp only [Qbq, Qbr]; rw [c15b0]) | skip)
      have H' := Qaa.mk H; clear H; obtain ⟨Ao16, co16, eo16⟩ := Kd.Qa1 HO_6.out; subst eo16
      go_wp2_with (first | ((with_reducible refine QaB (f := 27) rfl ?_); refine gL 14 Tryz.func27 #[.slice A0 l0.length c0, .slice Ao16 x6_1.length co16] ?_; (with_reducible refine (Qaw.calls k1 _ _ l0 _ _ x6_1 t103 _ ?side1 ?side2 ?side3 ?side4 A6.out).mono ?_); (case side1 => exact kd_ (Kd.Qbf HR0.out HB.out)); (case side2 => exact HC0.out); (case side3 => exact kd_ ((Kd.QaA HO_6.out).2.2)); (case side4 => exact (Kd.QaA HO_6.out).2.1); rintro e w17 ⟨v104, rfl, ho0, hb⟩; refine ⟨_, rfl, ?_⟩; have HO105 := Qaa.mk (Kd.Qa9 (Kd.Qb8 (Kd.Qcw ho0 (Kd.R_lt (ro_ HO_6))) (g := gb101) bk_) (QaJ bw_)); replace HO_6 := Qaa.mk (Kd.QbE (ro_ HO_6) (Kd.Qb9 ho0) hb); replace BK101 := Qaa.mk (Qac (g := gb101) bk_ hb); replace BK102 := Qaa.mk (Qac (g := gb102) bk_ hb); replace HB := Qaa.mk (Qad bw_ hb); (try clear hb); (try clear hb2); (try clear hk); (try clear hi); (try clear ho0); have hnb18 := NB101_102.out; have hnc18 := NB102_101.out; obtain ⟨c19_0, c19_1, c19_2⟩ := Qbk BK101.out; obtain ⟨f19_0, f19_1, f19_2⟩ := fz_3 BK101.out; obtain ⟨Ao20, co20, eo20⟩ := Kd.Qa1 HO105.out; subst eo20) | ((with_reducible refine QaB (f := 23) rfl ?_); refine gL 17 Tryz.func23 #[.slice Ao20 t103.length co20, .agg #[.string a1_0, .string a1_1, .string a1_2]] ?_; (with_reducible refine (Qaq.calls k1 _ _ t103 a1_0 a1_1 a1_2 false _ ?side1 ?side2 A7.out).mono ?_); (case side1 => exact kd_ ((Kd.QaA HO105.out).2.2)); (case side2 => exact (Kd.QaA HO105.out).2.1); rintro e w21 ⟨rfl, hb⟩; refine ⟨_, rfl, ?_⟩; replace HO_6 := Qaa.mk (Kd.QaK (ro_ HO_6) hb); replace HO105 := Qaa.mk (Kd.QaK (ro_ HO105) hb); replace BK101 := Qaa.mk (Qac (g := gb101) bk_ hb); replace BK102 := Qaa.mk (Qac (g := gb102) bk_ hb); replace HB := Qaa.mk (Qad bw_ hb); (try clear hb); (try clear hb2); (try clear hk); (try clear hi)))
      go_meet
      case rel => exact ⟨_, (x6_1), H', ⟨by have := HK1.out; first | omega | exact Nat.le_refl _⟩, ⟨by (with_reducible repeat (first | apply Kd.QaC | apply Kd.QaF | apply Kd.QaI)); exact Kd.QaZ HO_6.out (fun _ hk => hk.1)⟩, ⟨by (with_reducible repeat (first | refine Qag ?_ _ | refine Qaf ?_ | refine Qae ?_ _)); exact BK101.out⟩, ⟨by (with_reducible repeat (first | refine Qag ?_ _ | refine Qaf ?_ | refine Qae ?_ _)); exact BK102.out⟩, ⟨bw_⟩⟩
     ·rw [if_neg c15] at H; have c15b0 : ((t103.length : Int) == (x6_1.length : Int)) = false := beq_eq_false_iff_ne.mpr c15; have c15b1 : ((t103.length : Int) != (x6_1.length : Int)) = true := bne_iff_ne.mpr c15
      have c15b2 : (t103.length == x6_1.length) = false := by first | simpa using c15 | (simp at c15 ⊢; omega)
      (first | rw [c15b0] | (simp only [Qbq, Qbr]; rw [c15b0]) | skip)
      have H' := Qaa.mk H; clear H; obtain ⟨Ao22, co22, eo22⟩ := Kd.Qa1 HO_6.out; subst eo22
      go_wp2_with (first | ((with_reducible refine QaB (f := 27) rfl ?_); refine gL 14 Tryz.func27 #[.slice A0 l0.length c0, .slice Ao22 x6_1.length co22] ?_; (with_reducible refine (Qaw.calls k1 _ _ l0 _ _ x6_1 t103 _ ?side1 ?side2 ?side3 ?side4 A6.out).mono ?_); (case side1 => exact kd_ (Kd.Qbf HR0.out HB.out)); (case side2 => exact HC0.out); (case side3 => exact kd_ ((Kd.QaA HO_6.out).2.2)); (case side4 => exact (Kd.QaA HO_6.out).2.1); rintro e w23 ⟨v104, rfl, ho0, hb⟩; refine ⟨_, rfl, ?_⟩; have HO105 := Qaa.mk (Kd.Qa9 (Kd.Qb8 (Kd.Qcw ho0 (Kd.R_lt (ro_ HO_6))) (g := gb101) bk_) (QaJ bw_)); replace HO_6 := Qaa.mk (Kd.QbE (ro_ HO_6) (Kd.Qb9 ho0) hb); replace BK101 := Qaa.mk (Qac (g := gb101) bk_ hb); replace BK102 := Qaa.mk (Qac (g := gb102) bk_ hb); replace HB := Qaa.mk (Qad bw_ hb); (try clear hb); (try clear hb2); (try clear hk); (try clear hi); (try clear ho0); have hnb24 := NB101_102.out; have hnc24 := NB102_101.out; obtain ⟨c25_0, c25_1, c25_2⟩ := Qbk BK101.out; obtain ⟨f25_0, f25_1, f25_2⟩ := fz_3 BK101.out; obtain ⟨Ao26, co26, eo26⟩ := Kd.Qa1 HO105.out; subst eo26) | ((with_reducible refine QaB (f := 23) rfl ?_); refine gL 17 Tryz.func23 #[.slice Ao26 t103.length co26, .agg #[.string a1_0, .string a1_1, .string a1_2]] ?_; (with_reducible refine (Qaq.calls k1 _ _ t103 a1_0 a1_1 a1_2 false _ ?side1 ?side2 A7.out).mono ?_); (case side1 => exact kd_ ((Kd.QaA HO105.out).2.2)); (case side2 => exact (Kd.QaA HO105.out).2.1); rintro e w27 ⟨rfl, hb⟩; refine ⟨_, rfl, ?_⟩; replace HO_6 := Qaa.mk (Kd.QaK (ro_ HO_6) hb); replace HO105 := Qaa.mk (Kd.QaK (ro_ HO105) hb); replace BK101 := Qaa.mk (Qac (g := gb101) bk_ hb); replace BK102 := Qaa.mk (Qac (g := gb102) bk_ hb); replace HB := Qaa.mk (Qad bw_ hb); (try clear hb); (try clear hb2); (try clear hk); (try clear hi)))
      go_roundg k1
      case measure => have := HK1.out; omega
      case rel => exact ⟨(t103), H', ⟨by have := HK1.out; omega⟩, ⟨by (with_reducible repeat (first | apply Kd.QaC | apply Kd.QaF | apply Kd.QaI)); exact Kd.QaZ HO105.out (fun _ hk => hk.2)⟩, ⟨by (with_reducible repeat (first | refine Qag ?_ _ | refine Qaf ?_ | refine Qae ?_ _)); exact BK101.out⟩, ⟨by (with_reducible repeat (first | refine Qag ?_ _ | refine Qaf ?_ | refine Qae ?_ _)); exact BK102.out⟩, ⟨bw_⟩⟩
 case rest =>
  clear HC3; (try clear c1); (try clear c2); (try clear p2); (try clear c8); (try clear c11); (try clear c15); (try clear c15b0); (try clear c15b1); (try clear c15b2); (try clear c18); (try clear c23); (try clear c24); (try clear c27); (try clear c12_0 c12_1 c12_2); (try clear c19_0 c19_1 c19_2); (try clear c25_0 c25_1 c25_2); (try clear f12_0 f12_1 f12_2); (try clear f19_0 f19_1 f19_2); (try clear f25_0 f25_1 f25_2); (try clear p2); obtain ⟨kq, x6_2, HA, HJ2, HO_6, BK101, BK102, HB⟩ := hcut
  cases kq with
  | zero => exact absurd HA.out (by simp [Qas.j1])
  | succ kj2 =>
   have H := HA.out; clear HA; simp only [Qas.j1] at H; have H' := Qaa.mk H; clear H; go_wp2
   go_loopg [9] kj2 (fun kq v9 w' => ∃ (x9_2 : Int) (x103000_2 : Int) (x103001_2 : Int), v9 = .int .i64 x9_2 ∧ Qaa (Qas.l1 kq l0 x6_2 x9_2 a1_0 a1_1 a1_2 = some (r1, r2, r3)) ∧ Qaa (kq ≤ kj2) ∧ Qaa (Kd.R k51 51 w' w.heap.size (fun k_ => k_ ≠ gb101) u6 x6_2) ∧ Qaa (w'.heap[gb101]? = some (.cells #[.string a1_0, .string a1_1, .string a1_2] 51 (0, 0))) ∧ Qaa (w'.heap[gb102]? = some (.cells #[.int .i64 x103000_2, .int .i64 x103001_2] 27 (0, 0))) ∧ Qaa (Below w.heap.size w w'))
   case atStart => exact ⟨(0), (0), (0), (by first | rfl | (simp; done) | (simp [*]; done)), H', ⟨Nat.le_refl _⟩, ⟨by (with_reducible repeat (first | apply Kd.QaC | apply Kd.QaF | apply Kd.QaI)); exact HO_6.out⟩, ⟨by (with_reducible repeat (first | refine Qag ?_ _ | refine Qaf ?_ | refine Qae ?_ _)); exact BK101.out⟩, ⟨by (with_reducible repeat (first | refine Qag ?_ _ | refine Qaf ?_ | refine Qae ?_ _)); exact BK102.out⟩, ⟨bw_⟩⟩
   case round =>
    clear H'; (try clear c1); (try clear c2); (try clear p2); (try clear c8); (try clear c11); (try clear c15); (try clear c15b0); (try clear c15b1); (try clear c15b2); (try clear c18); (try clear c23); (try clear c24); (try clear c27); (try clear c12_0 c12_1 c12_2); (try clear c19_0 c19_1 c19_2); (try clear c25_0 c25_1 c25_2); (try clear f12_0 f12_1 f12_2); (try clear f19_0 f19_1 f19_2); (try clear f25_0 f25_1 f25_2); (try clear p2); obtain ⟨x9_2, x103000_2, x103001_2, rfl, HA, HK2, HO_6, BK101, BK102, HB⟩ := hrel
    cases gk with
    | zero => exact absurd HA.out (by simp [Qas.l1])
    | succ k2 =>
     have H := HA.out; clear HA; simp only [Qas.l1] at H
     by_cases c28 : x9_2 < (l0.length : Int)
     ·rw [if_pos c28] at H; have c28b0 : decide (x9_2 < (l0.length : Int)) = true := decide_eq_true c28; clear c28
      by_cases c29 : 0 ≤ x9_2
      ·rw [if_pos c29] at H; have c29b0 : decide (0 ≤ x9_2) = true := decide_eq_true c29; clear c29; replace H := Option.bind_eq_some_iff.mp H; obtain ⟨⟨t108, t111⟩, A300, H⟩ := H; replace H : (if t111 = true then (some ((Qah l0 x9_2).f0.f0, (Qah l0 x9_2).f0.f1, t108)) else (Qas.l1 k2 l0 x6_2 (wrap64 (x9_2 + 1)) a1_0 a1_1 a1_2)) = some (r1, r2, r3) := H; have A30 := Qaa.mk A300; clear A300
       by_cases c31 : t111 = true
       ·subst c31
        have H1 : (some ((Qah l0 x9_2).f0.f0, (Qah l0 x9_2).f0.f1, t108)) = some (r1, r2, r3) := by rw [if_pos rfl] at H; exact H
        clear H; have H := H1; clear H1; simp only [Option.some.injEq, Prod.mk.injEq] at H; obtain ⟨rfl, rfl, rfl⟩ := H
        try go_wp2
        replace HO_6 := Qaa.mk (Kd.QaI HO_6.out); replace BK101 := Qaa.mk (Qaf BK101.out); replace BK102 := Qaa.mk (Qaf BK102.out); replace HB := Qaa.mk (Qap HB.out); have p107 : 0 ≤ (x9_2 : Int) := dd_; have q107 : x9_2 < (l0.length : Int) := dd_; obtain ⟨ad107, e107, hx107_0, hx107_1, hx107_2, hx107_3, hx107_4, hx107_5, hx107_6, hx107_7, hx107_8⟩ := Qcv HR0.out x9_2 p107 q107; have hw107_8 := hx107_8; have hw107_7 := hx107_7; have hw107_6 := hx107_6; have hw107_5 := hx107_5; have hw107_4 := hx107_4; have hw107_3 := hx107_3; have hw107_2 := hx107_2; have hw107_1 := hx107_1; have hw107_0 := hx107_0; cases e107; replace hx107_0 := cb_ HB hx107_0; replace hx107_1 := cb_ HB hx107_1; replace hx107_2 := cb_ HB hx107_2; replace hx107_3 := cb_ HB hx107_3; replace hx107_4 := cb_ HB hx107_4; replace hx107_5 := cb_ HB hx107_5; replace hx107_6 := cb_ HB hx107_6
        replace hx107_7 := cb_ HB hx107_7; replace hx107_8 := cb_ HB hx107_8; replace p107 := eq_true p107; replace q107 := eq_true q107; obtain ⟨Ao33, co33, eo33⟩ := Kd.Qa1 HO_6.out
        (first | subst eo33 | (injection eo33 with f1_ f2_ f3_; have f4_ := f1_.symm; have f5_ := f3_.symm; clear f1_ f2_ f3_; subst f4_; subst f5_))
        refine Qbt (n := 12) (S := fun w' => cg_sss w' gb101 a1_0 a1_1 a1_2 (crl_iisisssss w' (ad107.add ((x9_2).toNat * 9)) ((Qah l0 x9_2).f0.f0) ((Qah l0 x9_2).f0.f1) ((Qah l0 x9_2).f1) ((Qah l0 x9_2).f2) ((Qah l0 x9_2).f3) ((Qah l0 x9_2).f4.f0) ((Qah l0 x9_2).f4.f1) ((Qah l0 x9_2).f5.f0) ((Qah l0 x9_2).f5.f1))) (ds := []) #[ff,ff,ff,ff,ff,ff,ff,ff,ff,ff,ff,ff] (by kernel_rfl) rfl rfl (cw_3 BK101.out ⟨(cb_ HB hw107_0), (cb_ HB hw107_1), (cb_ HB hw107_2), (cb_ HB hw107_3), (cb_ HB hw107_4), (cb_ HB hw107_5), (cb_ HB hw107_6), (cb_ HB hw107_7), (cb_ HB hw107_8)⟩) (fun hHeld => ?_); refine Qbh Qas.tab9 Qas.bits9 (fun HT_ HW_ => ?_)
        generalize wr.drew = w32 at HO_6 BK101 BK102 HB hx107_0 hx107_1 hx107_2 hx107_3 hx107_4 hx107_5 hx107_6 hx107_7 hx107_8 hHeld ⊢
        refine pz 0 34 ?_; refine pz 1 35 ?_; refine pz 2 36 ?_; refine pz 5 39 ?_; refine tk12 3 37 ?_; refine tk12 4 38 ?_; refine one_ (i := 6) (N := some 40) #[tt,tt,tt,tt,tt,tt,tt,ff,ff,ff,ff,ff] rfl rfl (QbU HT_.out (by kernel_rfl)) (by decide) (fun K hK => ?_); refine Qce Tryz.func42 (by kernel_rfl) rfl #[.agg #[.int .i64 ((Qah l0 x9_2).f0.f0), .int .i64 ((Qah l0 x9_2).f0.f1), .string ((Qah l0 x9_2).f1), .int .i64 ((Qah l0 x9_2).f2), .string ((Qah l0 x9_2).f3), .string ((Qah l0 x9_2).f4.f0), .string ((Qah l0 x9_2).f4.f1), .string ((Qah l0 x9_2).f5.f0), .string ((Qah l0 x9_2).f5.f1)], .agg #[.string a1_0, .string a1_1, .string a1_2], .slice Ao33 x6_2.length co33] (by rfl) rfl rfl (by (try simp only [List.map_toArray, List.map_cons, List.map_nil]); first | done | rfl | (simp only [List.length_drop, List.length_take]; rfl)) ?_
        with_reducible refine (QaG.calls k2 ((Qah l0 x9_2).f0.f0) ((Qah l0 x9_2).f0.f1) ((Qah l0 x9_2).f1) ((Qah l0 x9_2).f2) ((Qah l0 x9_2).f3) ((Qah l0 x9_2).f4.f0) ((Qah l0 x9_2).f4.f1) ((Qah l0 x9_2).f5.f0) ((Qah l0 x9_2).f5.f1) a1_0 a1_1 a1_2 _ _ x6_2 t108 true _ ?side1 ?side2 A30.out).mono ?_
        (case side1 => exact kd_ ((Kd.QaA HO_6.out).2.2))
        (case side2 => exact (Kd.QaA HO_6.out).2.1)
        rintro e w34 ⟨v109, rfl, ho0, hb⟩; refine ⟨_, rfl, ?_⟩; have HO110 := Qaa.mk (Kd.Qa9 (Kd.Qb8 (Kd.Qcw ho0 (Kd.R_lt (ro_ HO_6))) (g := gb101) bk_) (QaJ bw_)); replace HO_6 := Qaa.mk (Kd.QbE (ro_ HO_6) (Kd.Qb9 ho0) hb); replace BK101 := Qaa.mk (Qac (g := gb101) bk_ hb); replace BK102 := Qaa.mk (Qac (g := gb102) bk_ hb); replace HB := Qaa.mk (Qad bw_ hb)
        (try clear hb)
        (try clear hb2)
        (try clear hk)
        (try clear hi)
        (try clear ho0)
        refine hK.out _ _ (cw_3 BK101.out ⟨(cb_ HB hw107_0), (cb_ HB hw107_1), (cb_ HB hw107_2), (cb_ HB hw107_3), (cb_ HB hw107_4), (cb_ HB hw107_5), (cb_ HB hw107_6), (cb_ HB hw107_7), (cb_ HB hw107_8)⟩) (fun hHeld => ?_); clear hK K; refine Qbz (a' := ?_) ?_ ?_; rotate_left
        ·show Act.put _ (some 40) _ = _
         simp only [Act.put, put_, Qbq, Qbr]; rfl
        refine pz 7 33 ?_; refine pz 8 41 ?_; refine pz 9 42 ?_; refine pz 10 10 ?_; refine pz 11 11 ?_; refine QbH (Qbw HT_.out (by kernel_rfl)) ?_; have p112 : 0 ≤ (x9_2 : Int) := dd_; have q112 : x9_2 < (l0.length : Int) := dd_; obtain ⟨ad112, e112, hx112_0, hx112_1, hx112_2, hx112_3, hx112_4, hx112_5, hx112_6, hx112_7, hx112_8⟩ := Qcv HR0.out x9_2 p112 q112
        obtain rfl : ad107 = ad112 := (by injection e112)
        replace hx112_0 := cb_ HB hx112_0; replace hx112_1 := cb_ HB hx112_1; replace hx112_2 := cb_ HB hx112_2; replace hx112_3 := cb_ HB hx112_3; replace hx112_4 := cb_ HB hx112_4; replace hx112_5 := cb_ HB hx112_5; replace hx112_6 := cb_ HB hx112_6; replace hx112_7 := cb_ HB hx112_7; replace hx112_8 := cb_ HB hx112_8; replace p112 := eq_true p112; replace q112 := eq_true q112; have hnb35 := NB102_101.out; have hnc35 := NB101_102.out; obtain ⟨c36_0, c36_1⟩ := cz_ii BK102.out; obtain ⟨f36_0, f36_1⟩ := fz_2 BK102.out
        try go_wp2
        refine bodyPost_ret (results_ct rfl _ _ gb102 27 #[.int .i64 ((Qah l0 x9_2).f0.f0), .int .i64 ((Qah l0 x9_2).f0.f1)] (0, 0) _ rfl (by (with_reducible repeat (first | refine Qag ?_ _ | refine Qaf ?_ | refine Qae ?_ _)); refine Qaz (cs := #[.int .i64 ((Qah l0 x9_2).f0.f0), .int .i64 x103001_2]) ?_ 1 _ rfl; (with_reducible repeat (first | refine Qag ?_ _ | refine Qaf ?_ | refine Qae ?_ _)); refine Qaz (cs := #[.int .i64 x103000_2, .int .i64 x103001_2]) ?_ 0 _ rfl; (with_reducible repeat (first | refine Qag ?_ _ | refine Qaf ?_ | refine Qae ?_ _)); exact BK102.out) Tryz.underlying27 rfl (by kernel_rfl)) rfl ?_; exact ⟨_, by first | rfl | (simp [Qav, Qau] <;> rfl) | (simp [*, Qav, Qau] <;> rfl), by (with_reducible repeat (first | apply Kd.QaC | apply Kd.QaF | apply Kd.QaI)); exact Kd.QaZ (Kd.Qbg (p := ⟨gb102, 1, none⟩) (Kd.Qbg (p := ⟨gb102, 0, none⟩) (Kd.Qcl HO110.out BK102.out (by decide)) (fun _ hk => hk.2) (.int .i64 ((Qah l0 x9_2).f0.f0))) (fun _ hk => hk.2) (.int .i64 ((Qah l0 x9_2).f0.f1))) (fun _ hk => trivial), bw_⟩
       ·replace c31 := Bool.eq_false_iff.mpr c31; subst c31
        have H1 : (Qas.l1 k2 l0 x6_2 (wrap64 (x9_2 + 1)) a1_0 a1_1 a1_2) = some (r1, r2, r3) := by rw [if_neg (show ¬ (false = true) by decide)] at H; exact H
        clear H; have H := H1; clear H1; have H' := Qaa.mk H; clear H
        try go_wp2
        replace HO_6 := Qaa.mk (Kd.QaI HO_6.out); replace BK101 := Qaa.mk (Qaf BK101.out); replace BK102 := Qaa.mk (Qaf BK102.out); replace HB := Qaa.mk (Qap HB.out); have p107 : 0 ≤ (x9_2 : Int) := dd_; have q107 : x9_2 < (l0.length : Int) := dd_; obtain ⟨ad107, e107, hx107_0, hx107_1, hx107_2, hx107_3, hx107_4, hx107_5, hx107_6, hx107_7, hx107_8⟩ := Qcv HR0.out x9_2 p107 q107; have hw107_8 := hx107_8; have hw107_7 := hx107_7; have hw107_6 := hx107_6; have hw107_5 := hx107_5; have hw107_4 := hx107_4; have hw107_3 := hx107_3; have hw107_2 := hx107_2; have hw107_1 := hx107_1; have hw107_0 := hx107_0; cases e107; replace hx107_0 := cb_ HB hx107_0; replace hx107_1 := cb_ HB hx107_1; replace hx107_2 := cb_ HB hx107_2; replace hx107_3 := cb_ HB hx107_3; replace hx107_4 := cb_ HB hx107_4; replace hx107_5 := cb_ HB hx107_5; replace hx107_6 := cb_ HB hx107_6
        replace hx107_7 := cb_ HB hx107_7; replace hx107_8 := cb_ HB hx107_8; replace p107 := eq_true p107; replace q107 := eq_true q107; obtain ⟨Ao38, co38, eo38⟩ := Kd.Qa1 HO_6.out
        (first | subst eo38 | (injection eo38 with f1_ f2_ f3_; have f4_ := f1_.symm; have f5_ := f3_.symm; clear f1_ f2_ f3_; subst f4_; subst f5_))
        refine Qbt (n := 12) (S := fun w' => cg_sss w' gb101 a1_0 a1_1 a1_2 (crl_iisisssss w' (ad107.add ((x9_2).toNat * 9)) ((Qah l0 x9_2).f0.f0) ((Qah l0 x9_2).f0.f1) ((Qah l0 x9_2).f1) ((Qah l0 x9_2).f2) ((Qah l0 x9_2).f3) ((Qah l0 x9_2).f4.f0) ((Qah l0 x9_2).f4.f1) ((Qah l0 x9_2).f5.f0) ((Qah l0 x9_2).f5.f1))) (ds := []) #[ff,ff,ff,ff,ff,ff,ff,ff,ff,ff,ff,ff] (by kernel_rfl) rfl rfl (cw_3 BK101.out ⟨(cb_ HB hw107_0), (cb_ HB hw107_1), (cb_ HB hw107_2), (cb_ HB hw107_3), (cb_ HB hw107_4), (cb_ HB hw107_5), (cb_ HB hw107_6), (cb_ HB hw107_7), (cb_ HB hw107_8)⟩) (fun hHeld => ?_); refine Qbh Qas.tab9 Qas.bits9 (fun HT_ HW_ => ?_)
        generalize wr.drew = w37 at HO_6 BK101 BK102 HB hx107_0 hx107_1 hx107_2 hx107_3 hx107_4 hx107_5 hx107_6 hx107_7 hx107_8 hHeld ⊢
        refine pz 0 34 ?_; refine pz 1 35 ?_; refine pz 2 36 ?_; refine pz 5 39 ?_; refine tk12 3 37 ?_; refine tk12 4 38 ?_; refine one_ (i := 6) (N := some 40) #[tt,tt,tt,tt,tt,tt,tt,ff,ff,ff,ff,ff] rfl rfl (QbU HT_.out (by kernel_rfl)) (by decide) (fun K hK => ?_); refine Qce Tryz.func42 (by kernel_rfl) rfl #[.agg #[.int .i64 ((Qah l0 x9_2).f0.f0), .int .i64 ((Qah l0 x9_2).f0.f1), .string ((Qah l0 x9_2).f1), .int .i64 ((Qah l0 x9_2).f2), .string ((Qah l0 x9_2).f3), .string ((Qah l0 x9_2).f4.f0), .string ((Qah l0 x9_2).f4.f1), .string ((Qah l0 x9_2).f5.f0), .string ((Qah l0 x9_2).f5.f1)], .agg #[.string a1_0, .string a1_1, .string a1_2], .slice Ao38 x6_2.length co38] (by rfl) rfl rfl (by (try simp only [List.map_toArray, List.map_cons, List.map_nil]); first | done | rfl | (simp only [List.length_drop, List.length_take]; rfl)) ?_
        with_reducible refine (QaG.calls k2 ((Qah l0 x9_2).f0.f0) ((Qah l0 x9_2).f0.f1) ((Qah l0 x9_2).f1) ((Qah l0 x9_2).f2) ((Qah l0 x9_2).f3) ((Qah l0 x9_2).f4.f0) ((Qah l0 x9_2).f4.f1) ((Qah l0 x9_2).f5.f0) ((Qah l0 x9_2).f5.f1) a1_0 a1_1 a1_2 _ _ x6_2 t108 false _ ?side1 ?side2 A30.out).mono ?_
        (case side1 => exact kd_ ((Kd.QaA HO_6.out).2.2))
        (case side2 => exact (Kd.QaA HO_6.out).2.1)
        rintro e w39 ⟨v109, rfl, ho0, hb⟩; refine ⟨_, rfl, ?_⟩; have HO110 := Qaa.mk (Kd.Qa9 (Kd.Qb8 (Kd.Qcw ho0 (Kd.R_lt (ro_ HO_6))) (g := gb101) bk_) (QaJ bw_)); replace HO_6 := Qaa.mk (Kd.QbE (ro_ HO_6) (Kd.Qb9 ho0) hb); replace BK101 := Qaa.mk (Qac (g := gb101) bk_ hb); replace BK102 := Qaa.mk (Qac (g := gb102) bk_ hb); replace HB := Qaa.mk (Qad bw_ hb)
        (try clear hb)
        (try clear hb2)
        (try clear hk)
        (try clear hi)
        (try clear ho0)
        refine hK.out _ _ (cw_3 BK101.out ⟨(cb_ HB hw107_0), (cb_ HB hw107_1), (cb_ HB hw107_2), (cb_ HB hw107_3), (cb_ HB hw107_4), (cb_ HB hw107_5), (cb_ HB hw107_6), (cb_ HB hw107_7), (cb_ HB hw107_8)⟩) (fun hHeld => ?_); clear hK K; refine Qbz (a' := ?_) ?_ ?_; rotate_left
        ·show Act.put _ (some 40) _ = _
         simp only [Act.put, put_, Qbq, Qbr]; rfl
        refine pz 7 33 ?_; refine pz 8 41 ?_; refine pz 9 42 ?_; refine pz 10 10 ?_; refine pz 11 11 ?_; refine QbH (Qbw HT_.out (by kernel_rfl)) ?_
        try go_wp2
        go_roundg k2
        case measure => have := HJ2.out; have := HK2.out; omega
        case rel => exact ⟨(wrap64 (x9_2 + 1)), (x103000_2), (x103001_2), (by first | rfl | (simp; done) | (simp [*]; done)), H', ⟨by have := HJ2.out; have := HK2.out; omega⟩, ⟨by (with_reducible repeat (first | apply Kd.QaC | apply Kd.QaF | apply Kd.QaI)); exact Kd.QaZ HO_6.out (fun _ hk => hk.1)⟩, ⟨by (with_reducible repeat (first | refine Qag ?_ _ | refine Qaf ?_ | refine Qae ?_ _)); exact BK101.out⟩, ⟨by (with_reducible repeat (first | refine Qag ?_ _ | refine Qaf ?_ | refine Qae ?_ _)); exact BK102.out⟩, ⟨bw_⟩⟩
      ·rw [if_neg c29] at H; exact absurd H (by simp)
     ·rw [if_neg c28] at H; have c28b0 : decide (x9_2 < (l0.length : Int)) = false := decide_eq_false c28; clear c28; simp only [Option.some.injEq, Prod.mk.injEq] at H; obtain ⟨rfl, rfl, rfl⟩ := H; have hnb40 := NB102_101.out; have hnc40 := NB101_102.out; have c41_0 : wr.cell? ⟨gb102, 0, none⟩ = some (.int .i64 x103000_2) := (Qal BK102.out 0).trans rfl; have c41_1 : wr.cell? ⟨gb102, 1, none⟩ = some (.int .i64 x103001_2) := (Qal BK102.out 1).trans rfl; obtain ⟨f41_0, f41_1⟩ := fz_2 BK102.out; go_wp2; refine bodyPost_ret (results_ct rfl _ _ gb102 27 #[.int .i64 0, .int .i64 0] (0, 0) _ rfl (by (with_reducible repeat (first | refine Qag ?_ _ | refine Qaf ?_ | refine Qae ?_ _)); refine Qaz (cs := #[.int .i64 0, .int .i64 x103001_2]) ?_ 1 _ rfl; (with_reducible repeat (first | refine Qag ?_ _ | refine Qaf ?_ | refine Qae ?_ _)); refine Qaz (cs := #[.int .i64 x103000_2, .int .i64 x103001_2]) ?_ 0 _ rfl; (with_reducible repeat (first | refine Qag ?_ _ | refine Qaf ?_ | refine Qae ?_ _)); exact BK102.out) Tryz.underlying27 rfl (by kernel_rfl)) rfl ?_; exact ⟨_, by first | rfl | (simp [Qav, Qau] <;> rfl) | (simp [*, Qav, Qau] <;> rfl), by first | exact Kd.Qcb _ _ _ _ _ | exact Kd.N_nil _ _ _ _ _ | exact Kd.V_nil _ _ _ _ _ | exact Kd.Q_nil _ _ _ _ _ | exact Kd.S_nil _ _ _ _ _, bw_⟩










end
section
attribute [local go_sem] QaX QaV Qa4 Qa3 QaP QaO QaW QaU
attribute [local go_sem high] eqA27

end
section
attribute [local go_sem] QaX QaV Qa4 Qa3 QaP QaO QaW QaU
attribute [local go_sem high] eqA24

end
def idLess (a b : ID) : Bool := decide (a.f0 < b.f0) || (decide (a.f0 = b.f0) && decide (a.f1 < b.f1))
theorem idLess_iff (a b : ID) : idLess a b = true ↔ a.f0 < b.f0 ∨ (a.f0 = b.f0 ∧ a.f1 < b.f1) := by
  unfold idLess; rw [Bool.or_eq_true, Bool.and_eq_true, decide_eq_true_eq, decide_eq_true_eq, decide_eq_true_eq]
theorem idLess_irrefl (a : ID) : ¬ idLess a a = true := by rw [idLess_iff]; omega
theorem idLess_trans {a b c : ID} (h1 : idLess a b = true) (h2 : idLess b c = true) : idLess a c = true := by
  rw [idLess_iff] at *; omega
theorem idLess_total {a b : ID} (h1 : ¬ idLess a b = true) (h2 : ¬ idLess b a = true) : a = b := by
  rw [idLess_iff] at *; exact id_ext (by omega) (by omega)
theorem strict_unique {a b : List ID} (ha : a.Pairwise (fun x y => idLess x y = true)) (hb : b.Pairwise (fun x y => idLess x y = true)) (h : ∀ x, x ∈ a ↔ x ∈ b) : a = b := sorted_eq (R := fun x y => idLess x y = true) idLess_irrefl (fun _ _ _ => idLess_trans) ha hb h
theorem rdI (l : List ID) (i : Nat) (h : i < l.length) : Qay l (i : Int) = l[i] := by
  unfold Qay; rw [Int.toNat_natCast, List.getD_eq_getElem?_getD, List.getElem?_eq_getElem h]; rfl
theorem idEta (a : ID) : (⟨a.f0, a.f1⟩ : ID) = a := by cases a; rfl
def insG (x : ID) : List ID → Bool → List ID
  | [], put => if put = true then [] else [x]
  | y :: ys, put => if put = true then y :: insG x ys true else if idLess x y = true then x :: y :: insG x ys true else if y = x then y :: insG x ys true else y :: insG x ys false
theorem insG_true (x : ID) : ∀ ys, insG x ys true = ys
  | [] => rfl
  | y :: ys => by rw [insG, if_pos rfl, insG_true x ys]
theorem insG_mem (x z : ID) : ∀ ys, (∀ y ∈ ys, True) → (z ∈ insG x ys false ↔ z = x ∨ z ∈ ys)
  | [], _ => by rw [insG, if_neg (by decide)]; simp
  | y :: ys, _ => by
    rw [insG, if_neg (by decide)]
    by_cases h : idLess x y = true
    · rw [if_pos h, insG_true]
      simp
    · rw [if_neg h]
      by_cases e : y = x
      · rw [if_pos e, insG_true, e]
        simp
      · rw [if_neg e, List.mem_cons, insG_mem x z ys (fun _ _ => trivial), List.mem_cons]
        constructor
        · rintro (h | h | h)
          · exact .inr (.inl h)
          · exact .inl h
          · exact .inr (.inr h)
        · rintro (h | h | h)
          · exact .inr (.inl h)
          · exact .inl h
          · exact .inr (.inr h)
theorem insG_strict (x : ID) : ∀ ys : List ID, ys.Pairwise (fun a b => idLess a b = true) → (insG x ys false).Pairwise (fun a b => idLess a b = true)
  | [], _ => by rw [insG, if_neg (by decide)]; exact List.pairwise_singleton _ _
  | y :: ys, hs => by
    rw [List.pairwise_cons] at hs; rw [insG, if_neg (by decide)]
    by_cases h : idLess x y = true
    · rw [if_pos h, insG_true, List.pairwise_cons]
      refine ⟨fun z hz => ?_, List.pairwise_cons.mpr hs⟩
      rcases List.mem_cons.mp hz with rfl | hz
      · exact h
      · exact idLess_trans h (hs.1 z hz)
    · rw [if_neg h]
      by_cases e : y = x
      · rw [if_pos e, insG_true]
        exact List.pairwise_cons.mpr hs
      · rw [if_neg e, List.pairwise_cons]
        refine ⟨fun z hz => ?_, insG_strict x ys hs.2⟩
        rcases (insG_mem x z ys (fun _ _ => trivial)).mp hz with rfl | hz
        · by_cases h2 : idLess y z = true
          · exact h2
          · exact absurd (idLess_total h2 h) e
        · exact hs.1 z hz
theorem insG_length (x : ID) : ∀ (ys : List ID) (b : Bool), (insG x ys b).length ≤ ys.length + 1
  | [], b => by cases b <;> simp [insG]
  | y :: ys, b => by
    have h1 := insG_length x ys b; have h2 := insG_true x ys; cases b
    · rw [insG, if_neg (by decide), h2]
      split
      · simp
      · split
        · simp
        · simp only [List.length_cons]; omega
    · rw [insG_true]; omega
theorem before_id (a b : ID) : Qbc.f a.f0 a.f1 b.f0 b.f1 = some (idLess a b) := by
  unfold Qbc.f idLess
  by_cases h : a.f0 = b.f0
  · rw [if_pos h, decide_eq_false (show ¬ a.f0 < b.f0 by omega), decide_eq_true h]
    rfl
  · rw [if_neg h, decide_eq_false h]
    simp
theorem once_l1 (X out : List ID) (i : Nat) (hi : i < X.length) (hX : X.length < 1000000000) (ho : out.length ≤ i) (v : List ID) : ∀ (n j : Nat) (acc : List ID) (put : Bool), n + j = out.length → acc.length ≤ j + 1 → (put = false → acc.length ≤ j) → Ev (fun k => Qai.l0 k X (acc ++ insG X[i] (out.drop j) put) ((i + 1 : Nat) : Int)) v → Ev (fun k => Qai.l1 k X out (i : Int) acc put (j : Int)) v
  | 0, j, acc, put, hn, ha, hp, hv => by
    rw [List.drop_eq_nil_of_le (by omega)] at hv; refine Ev.step (fun k => ?_) hv; cases put
    · rw [Qai.l1, if_neg (by omega), if_neg (by decide), if_pos (by omega), if_pos (by omega), if_pos (by omega), rdI X i hi, idEta, wrapN (by omega), insG, if_neg (by decide)]
    · rw [Qai.l1, if_neg (by omega), if_pos rfl, wrapN (by omega), insG, if_pos rfl, List.append_nil]
  | n + 1, j, acc, put, hn, ha, hp, hv => by
    have hj : j < out.length := by omega
    rw [List.drop_eq_getElem_cons hj] at hv; have hx := rdI X i hi; have hy := rdI out j hj
    have hnext := fun (acc' : List ID) (put' : Bool) h1 h2 hv' => once_l1 X out i hi hX ho v n (j + 1) acc' put' (by omega) h1 h2 hv'
    cases put
    · by_cases h : idLess X[i] out[j] = true
      · rw [insG, if_neg (by decide), if_pos h, show acc ++ X[i] :: out[j] :: insG X[i] (out.drop (j + 1)) true = (acc ++ [X[i]] ++ [out[j]]) ++ insG X[i] (out.drop (j + 1)) true by simp] at hv
        have := hnext _ true (by have := hp rfl; simp; omega) (by intro e; cases e) hv; have hp' := hp rfl; refine Ev.step (g := fun k => Qai.j2 k X out (i : Int) acc false (j : Int) true) (fun k => ?_) (Ev.step (fun k => ?_) this)
        · rw [Qai.l1, if_pos (by omega), if_neg (by decide), if_pos (by omega), if_pos (by omega), if_pos (by omega), hx, hy, before_id, h, Option.bind_some]
        · rw [Qai.j2, if_pos rfl, if_pos (by omega), if_pos (by omega), if_pos (by omega), hx, hy, idEta, idEta, Option.bind_some, if_pos (by omega), if_pos (by omega), wrapN (by omega)]
          split <;> rw [if_pos (by simp; omega)]
      · have hf : idLess X[i] out[j] = false := by simpa using h
        rw [insG, if_neg (by decide), if_neg h] at hv
        by_cases e : out[j] = X[i]
        · rw [if_pos e, show acc ++ out[j] :: insG X[i] (out.drop (j + 1)) true = (acc ++ [out[j]]) ++ insG X[i] (out.drop (j + 1)) true by simp] at hv
          have hp' := hp rfl; have := hnext _ true (by simp; omega) (by intro e; cases e) hv; refine Ev.step (g := fun k => Qai.j2 k X out (i : Int) acc false (j : Int) false) (fun k => ?_) (Ev.step (fun k => ?_) this)
          · rw [Qai.l1, if_pos (by omega), if_neg (by decide), if_pos (by omega), if_pos (by omega), if_pos (by omega), hx, hy, before_id, hf, Option.bind_some]
          · rw [Qai.j2, if_neg (by decide), if_pos (by omega), if_pos (by omega), if_pos (by omega), if_pos (by omega), hx, hy, idBeq, decide_eq_true e, if_pos rfl, if_pos (by omega), idEta, wrapN (by omega)]
        · rw [if_neg e, show acc ++ out[j] :: insG X[i] (out.drop (j + 1)) false = (acc ++ [out[j]]) ++ insG X[i] (out.drop (j + 1)) false by simp] at hv
          have hp' := hp rfl; have := hnext _ false (by simp; omega) (by intro _; simp; omega) hv; refine Ev.step (g := fun k => Qai.j2 k X out (i : Int) acc false (j : Int) false) (fun k => ?_) (Ev.step (fun k => ?_) this)
          · rw [Qai.l1, if_pos (by omega), if_neg (by decide), if_pos (by omega), if_pos (by omega), if_pos (by omega), hx, hy, before_id, hf, Option.bind_some]
          · rw [Qai.j2, if_neg (by decide), if_pos (by omega), if_pos (by omega), if_pos (by omega), if_pos (by omega), hx, hy, idBeq, decide_eq_false e, if_neg (by decide), if_pos (by omega), idEta, wrapN (by omega)]
    · rw [insG, if_pos rfl, show acc ++ out[j] :: insG X[i] (out.drop (j + 1)) true = (acc ++ [out[j]]) ++ insG X[i] (out.drop (j + 1)) true by simp] at hv
      have := hnext _ true (by simp; omega) (by intro e; cases e) hv; refine Ev.step (g := fun k => Qai.j2 k X out (i : Int) acc true (j : Int) false) (fun k => ?_) (Ev.step (fun k => ?_) this)
      · rw [Qai.l1, if_pos (by omega), if_pos rfl]
      · rw [Qai.j2, if_neg (by decide), if_pos (by omega), if_pos (by omega), if_pos (by omega), if_pos (by omega), hx, hy, idEta, wrapN (by omega)]
        split <;> rw [if_pos (by omega)]
theorem once_l0 (X : List ID) (hX : X.length < 1000000000) : ∀ (n i : Nat) (out : List ID), n + i = X.length → out.length ≤ i → Ev (fun k => Qai.l0 k X out (i : Int)) ((X.drop i).foldl (fun o x => insG x o false) out)
  | 0, i, out, hn, ho => by
    rw [List.drop_eq_nil_of_le (by omega)]; refine Ev.step (fun k => ?_) (Ev.pure _); rw [Qai.l0, if_neg (by omega)]; rfl
  | n + 1, i, out, hn, ho => by
    have hi : i < X.length := by omega
    rw [List.drop_eq_getElem_cons hi, List.foldl_cons]; have h1 := once_l0 X hX n (i + 1) (insG X[i] out false) (by omega) (by have := insG_length X[i] out false; omega); have h2 := once_l1 X out i hi hX ho _ out.length 0 [] false (by omega) (by simp) (by simp) (by rw [List.drop_zero, List.nil_append]; exact h1); refine Ev.step (fun k => ?_) h2; rw [Qai.l0, if_pos (by omega)]; rfl
theorem once_fold : ∀ (X out : List ID), out.Pairwise (fun a b => idLess a b = true) → (X.foldl (fun o x => insG x o false) out).Pairwise (fun a b => idLess a b = true) ∧ ∀ z, z ∈ X.foldl (fun o x => insG x o false) out ↔ z ∈ out ∨ z ∈ X
  | [], out, h => ⟨h, fun z => by simp⟩
  | x :: X, out, h => by
    have := once_fold X (insG x out false) (insG_strict x out h); refine ⟨this.1, fun z => ?_⟩; rw [List.foldl_cons, this.2, insG_mem x z out (fun _ _ => trivial), List.mem_cons]; constructor
    · rintro ((h | h) | h)
      · exact .inr (.inl h)
      · exact .inl h
      · exact .inr (.inr h)
    · rintro (h | h | h)
      · exact .inl (.inr h)
      · exact .inl (.inl h)
      · exact .inr h
theorem once_evL (X R : List ID) (hX : X.length < 1000000000) (hR : R.Pairwise fun a b => idLess a b = true) (hm : ∀ x, x ∈ R ↔ x ∈ X) : Ev (fun k => Qai.f k X) R := by
  have h := once_l0 X hX X.length 0 [] (by omega) (by simp); rw [List.drop_zero] at h; have h2 := once_fold X [] List.Pairwise.nil; rw [strict_unique hR h2.1 (fun x => by rw [hm, h2.2]; simp)]; exact h
end Go.Proofs.YtbjjgaahdnfflaaGreatDoor.Pr
end
