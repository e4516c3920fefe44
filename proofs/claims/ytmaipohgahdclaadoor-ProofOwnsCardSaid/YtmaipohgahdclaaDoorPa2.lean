/- The proof's own texts, joined: part 2. No conditions. -/
import Derived.Laws.StructEq
import Derived.OrdersHeld
import Derived.Deep.RegionHeld3
import Derived.Laws.BitsLemmas
import Derived.RowKit
import Derived.Below
import Derived.Deep.Draws
import Derived.Deep.AppendLies
import Derived.Maps.AppendAt
import Derived.OwnWalk
import Derived.Laws.BytesArg
import Derived.Laws.MakeOwn
import Derived.Laws.OwnMore
import Derived.Deep.OwnRows
import Derived.Tactics
import Derived.Lib.ConvBytes
import Derived.Laws.Slices
import Derived.WalkKit
import Derived.KernelRfl
import Derived.RowKit3
import Derived.Deep.LoopGhost
import Derived.Deep.QuietTactic
import Derived.BigQuiet
import Derived.WideLaws
import Derived.Deep.DeepCutAuto
import Derived.Deep.CutBlock
import Derived.Laws.Rows
import Derived.Lib.AppendStr
import Derived.ArgAppend
import Derived.Laws.IdiomCopy
import Derived.Test.YtmaipohgahdclaaDoorProg
import Derived.Shelf.SlicesG.Cmp
import Derived.WalkSpells
import Derived.Lib.Hide
import Derived.StillTailTactics
import Derived.Sort.Grow
import Derived.Lib.SlicesS
import Derived.DeepKeys4
import Derived.Shelf.GgSortFunc.InsertionK
import Derived.WalkLawsBesides
import Derived.Outline
import Derived.Deep.RegionWith
import Derived.RegionTactic
import Derived.ChangeAlike
import Derived.Deep.RegionLaw
import Derived.Lib.SmallJoins
import Derived.Maps.OwnSet
import Derived.Maps.RangeRun
import Derived.Maps.Range
import Derived.Carry
import Derived.Ground.SlgcProg
import Derived.Sort.LotA
import Derived.Test.YtmaipohgahdclaaDoorPa0
import Derived.Test.YtmaipohgahdclaaDoorPa1
section
namespace Go.Proofs.YtmaipohgahdclaaDoor.Pr
open Go.RowKit Go.Proofs.YtmaipohgahdclaaDoorW.PrintWords Go.Proofs.YtmaipohgahdclaaDoorW.PrintLast Go.Proofs.YtmaipohgahdclaaDoorW.PrintMore
attribute [local go_sem] max2_int min2_int max_two min_two Qbj Qbi max_four min_four
set_option linter.unusedVariables false
set_option linter.unusedSimpArgs false
def liveryref05_Before.f (a0_0 : Int) (a0_1 : Int) (a1_0 : Int) (a1_1 : Int) : Option (Bool) := if a0_0 = a1_0 then (some (decide (a0_1 < a1_1))) else (some (decide (a0_0 < a1_0)))
set_option maxHeartbeats 8000000 in
set_option maxRecDepth 100000 in
theorem liveryref05_Before.calls (a0_0 : Int) (a0_1 : Int) (a1_0 : Int) (a1_1 : Int) (r : Bool) (w : World) (h : liveryref05_Before.f a0_0 a0_1 a1_0 a1_1 = some r) :
  Calls Tryd.prog 48 #[.agg #[.int .i64 a0_0, .int .i64 a0_1], .agg #[.int .i64 a1_0, .int .i64 a1_1]] w fun e w' => e = .returned (.bool r) ∧ Below w.heap.size w w' := by
 have hu26 := Tryd.underlying26; have HB := Qab.mk (Below.refl w.heap.size w); have H : (if a0_0 = a1_0 then (some (decide (a0_1 < a1_1))) else (some (decide (a0_0 < a1_0)))) = some r := h; clear h
 by_cases c3 : a0_0 = a1_0
 ·rw [if_pos c3] at H; have c3b0 : (a0_0 == a1_0) = true := beq_iff_eq.mpr c3; have c3b1 : (a0_0 != a1_0) = false := bne_eq_false_iff_eq.mpr c3; clear c3; obtain rfl := Option.some.inj H; go_enter Tryd.func48, Tryd.ntmps48
  go_wp2_with (first | ((with_reducible refine Qa2 (N := 2) rfl ?_); refine QaV ?hg (N := 2) ?hd (cs := #[.int .i64 a0_0, .int .i64 a0_1]) (t := 26) ?hr ?_; (case hd => rfl); (case hg => rfl); (case hr => first | (go_simp; done) | (go_simp; rfl)); intro gb101 hg w4 hbox hb; have n0_ := Qab.mk (Qak (by repeat (first | (with_reducible first | exact HB.out | apply Qad | apply Qaa | apply Qac) | exact HB.out)) hb); have n1_ := Qab.mk (hbox); have n2_ := Qab.mk ((by rw [hg]; exact (Qar (by repeat (first | (with_reducible first | exact HB.out | apply Qad | apply Qaa | apply Qac) | exact HB.out))) : w.heap.size ≤ gb101)); have n3_ := n2_; clear HB; have HB := n0_; have BK101 := n1_; have GW101 := n2_; have GE101 := n3_; clear n0_ n1_ n2_ n3_; clear hb hbox hg) | ((with_reducible refine Qa2 (N := 3) rfl ?_); refine QaV ?hg (N := 3) ?hd (cs := #[.int .i64 a1_0, .int .i64 a1_1]) (t := 26) ?hr ?_; (case hd => rfl); (case hg => rfl); (case hr => first | (go_simp; done) | (go_simp; rfl)); intro gb102 hg w5 hbox hb; have n0_ := Qab.mk (Qal (g := gb101) (o := ob_ii a0_0 a0_1 26) (by (with_reducible repeat (first | refine Qag ?_ _ | refine Qai ?_ | refine Qae ?_ _)); exact BK101.out) hb); have n1_ := Qab.mk (Qak (by repeat (first | (with_reducible first | exact HB.out | apply Qad | apply Qaa | apply Qac | refine Qah ?_ GE101.out) | exact HB.out)) hb); have n2_ := Qab.mk (hbox); have n3_ := Qab.mk ((by rw [hg]; exact (Qar (by repeat (first | (with_reducible first | exact HB.out | apply Qad | apply Qaa | apply Qac | refine Qah ?_ GE101.out) | exact HB.out))) : w.heap.size ≤ gb102)); have n4_ := n3_; have n5_ := Qab.mk ((by rw [hg]; exact Nat.ne_of_lt (blk_lt (g := gb101) (o := ob_ii a0_0 a0_1 26) (by (with_reducible repeat (first | refine Qag ?_ _ | refine Qai ?_ | refine Qae ?_ _)); exact BK101.out)) : gb101 ≠ gb102)); have n6_ := Qab.mk ((by rw [hg]; exact Nat.ne_of_gt (blk_lt (g := gb101) (o := ob_ii a0_0 a0_1 26) (by (with_reducible repeat (first | refine Qag ?_ _ | refine Qai ?_ | refine Qae ?_ _)); exact BK101.out)) : gb102 ≠ gb101)); clear BK101; clear HB; have BK101 := n0_; have HB := n1_; have BK102 := n2_; have GW102 := n3_; have GE102 := n4_; have NB101_102 := n5_; have NB102_101 := n6_; clear n0_ n1_ n2_ n3_ n4_ n5_ n6_; clear hb hbox hg; have hnb6 := NB101_102.out; have hnc6 := NB102_101.out; obtain ⟨hcz7_0, hcz7_1⟩ := cz_ii BK101.out; obtain ⟨hfz7_0, hfz7_1⟩ := fz_2 BK101.out; obtain ⟨hcz8_0, hcz8_1⟩ := cz_ii BK102.out; obtain ⟨hfz8_0, hfz8_1⟩ := fz_2 BK102.out))
  go_ret; exact ⟨by first | rfl | (simp [Qax, Qaw] <;> rfl) | (simp [*, Qax, Qaw] <;> rfl), by repeat (first | (with_reducible first | exact HB.out | apply Qad | apply Qaa | apply Qac | refine Qah ?_ GE101.out | refine Qah ?_ GE102.out) | exact HB.out)⟩
 ·rw [if_neg c3] at H; have c3b0 : (a0_0 == a1_0) = false := beq_eq_false_iff_ne.mpr c3; have c3b1 : (a0_0 != a1_0) = true := bne_iff_ne.mpr c3; obtain rfl := Option.some.inj H; go_enter Tryd.func48, Tryd.ntmps48
  go_wp2_with (first | ((with_reducible refine Qa2 (N := 2) rfl ?_); refine QaV ?hg (N := 2) ?hd (cs := #[.int .i64 a0_0, .int .i64 a0_1]) (t := 26) ?hr ?_; (case hd => rfl); (case hg => rfl); (case hr => first | (go_simp; done) | (go_simp; rfl)); intro gb101 hg w9 hbox hb; have n0_ := Qab.mk (Qak (by repeat (first | (with_reducible first | exact HB.out | apply Qad | apply Qaa | apply Qac) | exact HB.out)) hb); have n1_ := Qab.mk (hbox); have n2_ := Qab.mk ((by rw [hg]; exact (Qar (by repeat (first | (with_reducible first | exact HB.out | apply Qad | apply Qaa | apply Qac) | exact HB.out))) : w.heap.size ≤ gb101)); have n3_ := n2_; clear HB; have HB := n0_; have BK101 := n1_; have GW101 := n2_; have GE101 := n3_; clear n0_ n1_ n2_ n3_; clear hb hbox hg) | ((with_reducible refine Qa2 (N := 3) rfl ?_); refine QaV ?hg (N := 3) ?hd (cs := #[.int .i64 a1_0, .int .i64 a1_1]) (t := 26) ?hr ?_; (case hd => rfl); (case hg => rfl); (case hr => first | (go_simp; done) | (go_simp; rfl)); intro gb102 hg w10 hbox hb; have n0_ := Qab.mk (Qal (g := gb101) (o := ob_ii a0_0 a0_1 26) (by (with_reducible repeat (first | refine Qag ?_ _ | refine Qai ?_ | refine Qae ?_ _)); exact BK101.out) hb); have n1_ := Qab.mk (Qak (by repeat (first | (with_reducible first | exact HB.out | apply Qad | apply Qaa | apply Qac | refine Qah ?_ GE101.out) | exact HB.out)) hb); have n2_ := Qab.mk (hbox); have n3_ := Qab.mk ((by rw [hg]; exact (Qar (by repeat (first | (with_reducible first | exact HB.out | apply Qad | apply Qaa | apply Qac | refine Qah ?_ GE101.out) | exact HB.out))) : w.heap.size ≤ gb102)); have n4_ := n3_; have n5_ := Qab.mk ((by rw [hg]; exact Nat.ne_of_lt (blk_lt (g := gb101) (o := ob_ii a0_0 a0_1 26) (by (with_reducible repeat (first | refine Qag ?_ _ | refine Qai ?_ | refine Qae ?_ _)); exact BK101.out)) : gb101 ≠ gb102)); have n6_ := Qab.mk ((by rw [hg]; exact Nat.ne_of_gt (blk_lt (g := gb101) (o := ob_ii a0_0 a0_1 26) (by (with_reducible repeat (first | refine Qag ?_ _ | refine Qai ?_ | refine Qae ?_ _)); exact BK101.out)) : gb102 ≠ gb101)); clear BK101; clear HB; have BK101 := n0_; have HB := n1_; have BK102 := n2_; have GW102 := n3_; have GE102 := n4_; have NB101_102 := n5_; have NB102_101 := n6_; clear n0_ n1_ n2_ n3_ n4_ n5_ n6_; clear hb hbox hg; have hnb11 := NB101_102.out; have hnc11 := NB102_101.out; obtain ⟨hcz12_0, hcz12_1⟩ := cz_ii BK101.out; obtain ⟨hfz12_0, hfz12_1⟩ := fz_2 BK101.out; obtain ⟨hcz13_0, hcz13_1⟩ := cz_ii BK102.out; obtain ⟨hfz13_0, hfz13_1⟩ := fz_2 BK102.out))
  go_ret; exact ⟨by first | rfl | (simp [Qax, Qaw] <;> rfl) | (simp [*, Qax, Qaw] <;> rfl), by repeat (first | (with_reducible first | exact HB.out | apply Qad | apply Qaa | apply Qac | refine Qah ?_ GE101.out | refine Qah ?_ GE102.out) | exact HB.out)⟩
def liveryref04_Domain.j0 : Nat → Int → Bool → Option (ByteArray)
 | 0, _, _ => none
 | k + 1, x0, x8 => if x8 = true then (some (⟨#[]⟩ : ByteArray)) else (if x0 < 10 then ((some (([(wrap64 (48 + x0)) % 256] : List Int) : List Int)).bind fun y101 => (if 1 + (strOfNums y101).size ≤ 9223372036854775807 then (some ((⟨#[100]⟩ : ByteArray) ++ (strOfNums y101))) else (none))) else ((some (([(wrap64 ((wrap64 (48 + x0)) - 10)) % 256] : List Int) : List Int)).bind fun y104 => (if 2 + (strOfNums y104).size ≤ 9223372036854775807 then (some ((⟨#[100, 49]⟩ : ByteArray) ++ (strOfNums y104))) else (none))))
def liveryref04_Domain.f (k : Nat) (a0 : Int) : Option (ByteArray) := if a0 < 1 then (liveryref04_Domain.j0 k a0 true) else (liveryref04_Domain.j0 k a0 (decide (a0 > 16)))
set_option maxHeartbeats 8000000 in
set_option maxRecDepth 100000 in
theorem liveryref04_Domain.calls (k : Nat) (a0 : Int) (r : ByteArray) (w : World) (h : liveryref04_Domain.f k a0 = some r) :
  Calls Tryd.prog 63 #[.int .i64 a0] w fun e w' => e = .returned (.string r) ∧ Below w.heap.size w w' := by
 have HB := Qab.mk (Below.refl w.heap.size w); have H : (if a0 < 1 then (liveryref04_Domain.j0 k a0 true) else (liveryref04_Domain.j0 k a0 (decide (a0 > 16)))) = some r := h; clear h; have HC2 := Qab.mk H; clear H; go_enter Tryd.func63, Tryd.ntmps63
 go_upto_region 1 with (fail)
 go_cut [8] (fun v8 wc => ∃ (kq : Nat) (x8_1 : Bool), v8 = .bool x8_1 ∧ Qab (liveryref04_Domain.j0 kq a0 x8_1 = some r) ∧ Qab (kq ≤ k) ∧ Qab (Below w.heap.size w wc))
 case first =>
  have H := HC2.out; clear HC2
  by_cases c3 : a0 < 1
  ·rw [if_pos c3] at H; have c3b0 : decide (a0 < 1) = true := decide_eq_true c3; clear c3
   (first | rw [c3b0] | (simp only [QaG, QaI]; rw [c3b0]) | skip)
   have H' := Qab.mk H; clear H; go_wp2
   go_meet
   case rel => exact ⟨_, (true), (by first | rfl | (simp; done) | (simp [*]; done)), H', ⟨by first | omega | exact Nat.le_refl _⟩, ⟨by repeat (first | (with_reducible first | exact HB.out | apply Qad | apply Qaa | apply Qac) | exact HB.out)⟩⟩
  ·rw [if_neg c3] at H; have c3b0 : decide (a0 < 1) = false := decide_eq_false c3; clear c3
   (first | rw [c3b0] | (simp only [QaG, QaI]; rw [c3b0]) | skip)
   have H' := Qab.mk H; clear H; go_wp2
   go_meet
   case rel => exact ⟨_, (decide (a0 > 16)), (by first | rfl | (simp; done) | (simp [*]; done)), H', ⟨by first | omega | exact Nat.le_refl _⟩, ⟨by repeat (first | (with_reducible first | exact HB.out | apply Qad | apply Qaa | apply Qac) | exact HB.out)⟩⟩
 case rest =>
  clear HC2; (try clear p2); (try clear c3); (try clear c3b0); obtain ⟨kq, x8_1, rfl, HA, HJ1, HB⟩ := hcut
  cases kq with
  | zero => exact absurd HA.out (by simp [liveryref04_Domain.j0])
  | succ kj1 =>
   have H := HA.out; clear HA; simp only [liveryref04_Domain.j0] at H
   by_cases c4 : x8_1 = true
   ·subst c4
    have H1 : (some (⟨#[]⟩ : ByteArray)) = some r := by rw [if_pos rfl] at H; exact H
    clear H; have H := H1; clear H1; obtain rfl := Option.some.inj H; go_wp2; go_ret; exact ⟨by first | rfl | (simp [Qax, Qaw] <;> rfl) | (simp [*, Qax, Qaw] <;> rfl), by repeat (first | (with_reducible first | exact HB.out | apply Qad | apply Qaa | apply Qac) | exact HB.out)⟩
   ·replace c4 := Bool.eq_false_iff.mpr c4; subst c4
    have H1 : (if a0 < 10 then ((some (([(wrap64 (48 + a0)) % 256] : List Int) : List Int)).bind fun y101 => (if 1 + (strOfNums y101).size ≤ 9223372036854775807 then (some ((⟨#[100]⟩ : ByteArray) ++ (strOfNums y101))) else (none))) else ((some (([(wrap64 ((wrap64 (48 + a0)) - 10)) % 256] : List Int) : List Int)).bind fun y104 => (if 2 + (strOfNums y104).size ≤ 9223372036854775807 then (some ((⟨#[100, 49]⟩ : ByteArray) ++ (strOfNums y104))) else (none)))) = some r := by rw [if_neg (show ¬ (false = true) by decide)] at H; exact H
    clear H; have H := H1; clear H1
    by_cases c5 : a0 < 10
    ·rw [if_pos c5] at H; have c5b0 : decide (a0 < 10) = true := decide_eq_true c5; clear c5
     obtain ⟨y101, hy101⟩ : ∃ y_ : List Int, y_ = (([(wrap64 (48 + a0)) % 256] : List Int)) := ⟨_, rfl⟩
     replace H : (if 1 + (strOfNums y101).size ≤ 9223372036854775807 then (some ((⟨#[100]⟩ : ByteArray) ++ (strOfNums y101))) else (none)) = some r := by first | (rw [hy101]; with_reducible exact H) | (have H2_ := (Option.bind_some _ _).symm.trans H; rw [hy101]; with_reducible exact H2_) | (have H2_ := (Option.bind_some _ _).symm.trans H; with_reducible exact H2_) | with_reducible exact H | (rw [hy101]; exact H) | exact H
     have Ny101 := Qab.mk hy101; clear hy101
     by_cases c6 : 1 + (strOfNums y101).size ≤ 9223372036854775807
     ·rw [if_pos c6] at H; have c6b0 := eq_true c6; have c6b1 : decide (1 + (strOfNums y101).size ≤ 9223372036854775807) = true := decide_eq_true c6
      try have c6b2 : (9223372036854775807 < 1 + (strOfNums y101).size) = False := eq_false (Nat.not_lt.2 c6)
      obtain rfl := Option.some.inj H
      go_wp2_with (first | ((with_reducible refine Qa2 (N := 14) rfl ?_); refine Kd.R_lit (Kd.int .u8) _ 5 ?hg (N := 14) ?hd (xs := ([(wrap64 (48 + a0)) % 256] : List Int)) (inner := [.int .u8 ((wrap64 (48 + a0)) % 256)]) (ok := fun _ => True) (okp := fun _ => True) ?hr ?hp (fun _ hk => hk) trivial (Below.refl _ _) (Nat.le_refl _) (by simp) ?_; (case hd => rfl); (case hg => rfl); (case hr => first | (go_simp; done) | (go_simp; rfl)); (case hp => exact (Reps.one (show Kd.M (Kd.int .u8) _ _ _ ((wrap64 (48 + a0)) % 256) [.int .u8 ((wrap64 (48 + a0)) % 256)] from rfl) (Reps.none _ _))); intro v102 w7 ho8 hb hg_ hnew_; clear hg_ hnew_; (first | rw [← Ny101.out] at ho8 | (simp only [Int.reduceToNat] at ho8; rw [← Ny101.out] at ho8)); have n0_ := Qab.mk (Kd.R_lower ho8 (Qar (by repeat (first | (with_reducible first | exact HB.out | apply Qad | apply Qaa | apply Qac) | exact HB.out)))); have n1_ := Qab.mk (Qak (by repeat (first | (with_reducible first | exact HB.out | apply Qad | apply Qaa | apply Qac) | exact HB.out)) hb); clear HB; have HO103 := n0_; have HB := n1_; clear n0_ n1_; clear hb ho8; have hcv9 := own_string (P := Tryd.prog) Tryd.underlying90 Tryd.underlying5 Tryd.underlying9 (Kd.own_of_R HO103.out)))
      go_ret; exact ⟨by first | rfl | (simp [Qax, Qaw] <;> rfl) | (simp [*, Qax, Qaw] <;> rfl), by repeat (first | (with_reducible first | exact HB.out | apply Qad | apply Qaa | apply Qac) | exact HB.out)⟩
     ·rw [if_neg c6] at H; exact absurd H (by simp)
    ·rw [if_neg c5] at H; have c5b0 : decide (a0 < 10) = false := decide_eq_false c5; clear c5
     obtain ⟨y104, hy104⟩ : ∃ y_ : List Int, y_ = (([(wrap64 ((wrap64 (48 + a0)) - 10)) % 256] : List Int)) := ⟨_, rfl⟩
     replace H : (if 2 + (strOfNums y104).size ≤ 9223372036854775807 then (some ((⟨#[100, 49]⟩ : ByteArray) ++ (strOfNums y104))) else (none)) = some r := by first | (rw [hy104]; with_reducible exact H) | (have H2_ := (Option.bind_some _ _).symm.trans H; rw [hy104]; with_reducible exact H2_) | (have H2_ := (Option.bind_some _ _).symm.trans H; with_reducible exact H2_) | with_reducible exact H | (rw [hy104]; exact H) | exact H
     have Ny104 := Qab.mk hy104; clear hy104
     by_cases c10 : 2 + (strOfNums y104).size ≤ 9223372036854775807
     ·rw [if_pos c10] at H; have c10b0 := eq_true c10; have c10b1 : decide (2 + (strOfNums y104).size ≤ 9223372036854775807) = true := decide_eq_true c10
      try have c10b2 : (9223372036854775807 < 2 + (strOfNums y104).size) = False := eq_false (Nat.not_lt.2 c10)
      obtain rfl := Option.some.inj H
      go_wp2_with (first | ((with_reducible refine Qa2 (N := 21) rfl ?_); refine Kd.R_lit (Kd.int .u8) _ 5 ?hg (N := 21) ?hd (xs := ([(wrap64 ((wrap64 (48 + a0)) - 10)) % 256] : List Int)) (inner := [.int .u8 ((wrap64 ((wrap64 (48 + a0)) - 10)) % 256)]) (ok := fun _ => True) (okp := fun _ => True) ?hr ?hp (fun _ hk => hk) trivial (Below.refl _ _) (Nat.le_refl _) (by simp) ?_; (case hd => rfl); (case hg => rfl); (case hr => first | (go_simp; done) | (go_simp; rfl)); (case hp => exact (Reps.one (show Kd.M (Kd.int .u8) _ _ _ ((wrap64 ((wrap64 (48 + a0)) - 10)) % 256) [.int .u8 ((wrap64 ((wrap64 (48 + a0)) - 10)) % 256)] from rfl) (Reps.none _ _))); intro v105 w11 ho12 hb hg_ hnew_; clear hg_ hnew_; (first | rw [← Ny104.out] at ho12 | (simp only [Int.reduceToNat] at ho12; rw [← Ny104.out] at ho12)); have n0_ := Qab.mk (Kd.R_lower ho12 (Qar (by repeat (first | (with_reducible first | exact HB.out | apply Qad | apply Qaa | apply Qac) | exact HB.out)))); have n1_ := Qab.mk (Qak (by repeat (first | (with_reducible first | exact HB.out | apply Qad | apply Qaa | apply Qac) | exact HB.out)) hb); clear HB; have HO106 := n0_; have HB := n1_; clear n0_ n1_; clear hb ho12; have hcv13 := own_string (P := Tryd.prog) Tryd.underlying90 Tryd.underlying5 Tryd.underlying9 (Kd.own_of_R HO106.out)))
      go_ret; exact ⟨by first | rfl | (simp [Qax, Qaw] <;> rfl) | (simp [*, Qax, Qaw] <;> rfl), by repeat (first | (with_reducible first | exact HB.out | apply Qad | apply Qaa | apply Qac) | exact HB.out)⟩
     ·rw [if_neg c10] at H; exact absurd H (by simp)
def liveryref05_Role.f (k : Nat) (a0_0 : Int) (a0_1 : Int) (a0_2 : ByteArray) (a0_3 : Int) (a0_4 : ByteArray) (a0_5 : ByteArray) (a0_6 : ByteArray) (a0_7 : ByteArray) (a0_8 : ByteArray) : Option (ByteArray × ByteArray) := (liveryref04_Domain.f k a0_0).bind fun t103 => (some (t103, a0_2))
def liveryref05_Role.T1 : Bool × List (List Nat × List Nat) := (true, [([], []), ([0], [0]), ([1], [1]), ([2], [2]), ([], []), ([4], [4]), ([3, 5], [3, 5]), ([6, 3, 0, 1, 2, 3, 4, 5, 6], [6])])
def liveryref05_Role.B1 : List Nat := [0, 1, 3, 7, 0, 16, 63, 127]
theorem liveryref05_Role.tab1 : rtab .any (opsOf Tryd.f43 1) = liveryref05_Role.T1 := by kernel_rfl
theorem liveryref05_Role.bits1 : waitsOk liveryref05_Role.T1.2 liveryref05_Role.B1 = true := by kernel_rfl
set_option maxHeartbeats 8000000 in
set_option maxRecDepth 100000 in
theorem liveryref05_Role.calls (k : Nat) (a0_0 : Int) (a0_1 : Int) (a0_2 : ByteArray) (a0_3 : Int) (a0_4 : ByteArray) (a0_5 : ByteArray) (a0_6 : ByteArray) (a0_7 : ByteArray) (a0_8 : ByteArray) (r1 : ByteArray) (r2 : ByteArray) (w : World) (h : liveryref05_Role.f k a0_0 a0_1 a0_2 a0_3 a0_4 a0_5 a0_6 a0_7 a0_8 = some (r1, r2)) :
  Calls Tryd.prog 43 #[.agg #[.int .i64 a0_0, .int .i64 a0_1, .string a0_2, .int .i64 a0_3, .string a0_4, .string a0_5, .string a0_6, .string a0_7, .string a0_8]] w fun e w' => e = .returned (.agg #[.string r1, .string r2]) ∧ Below w.heap.size w w' := by
 have hu44 := Tryd.underlying44; have hu24 := Tryd.underlying24; have HB := Qab.mk (Below.refl w.heap.size w); have H : ((liveryref04_Domain.f k a0_0).bind fun t103 => (some (t103, a0_2))) = some (r1, r2) := h; clear h; replace H := Option.bind_eq_some_iff.mp H; obtain ⟨t103, A20, H⟩ := H; replace H : (some (t103, a0_2)) = some (r1, r2) := H; have A2 := Qab.mk A20; clear A20; simp only [Option.some.injEq, Prod.mk.injEq] at H; obtain ⟨rfl, rfl⟩ := H; go_enter Tryd.func43, Tryd.ntmps43
 try go_wp2_with (first | ((with_reducible refine Qa2 (N := 1) rfl ?_); refine QaV ?hg (N := 1) ?hd (cs := #[.int .i64 a0_0, .int .i64 a0_1, .string a0_2, .int .i64 a0_3, .string a0_4, .string a0_5, .string a0_6, .string a0_7, .string a0_8]) (t := 44) ?hr ?_; (case hd => rfl); (case hg => rfl); (case hr => first | (go_simp; done) | (go_simp; rfl)); intro gb101 hg w3 hbox hb; have n0_ := Qab.mk (Qak (by repeat (first | (with_reducible first | exact HB.out | apply Qad | apply Qaa | apply Qac) | exact HB.out)) hb); have n1_ := Qab.mk (hbox); have n2_ := Qab.mk ((by rw [hg]; exact (Qar (by repeat (first | (with_reducible first | exact HB.out | apply Qad | apply Qaa | apply Qac) | exact HB.out))) : w.heap.size ≤ gb101)); have n3_ := n2_; clear HB; have HB := n0_; have BK101 := n1_; have GW101 := n2_; have GE101 := n3_; clear n0_ n1_ n2_ n3_; clear hb hbox hg) | ((with_reducible refine Qa2 (N := 2) rfl ?_); refine QaV ?hg (N := 2) ?hd (cs := #[.string (⟨#[]⟩ : ByteArray), .string (⟨#[]⟩ : ByteArray)]) (t := 24) ?hr ?_; (case hd => rfl); (case hg => rfl); (case hr => first | (go_simp; done) | (go_simp; rfl)); intro gb102 hg w4 hbox hb; have n0_ := Qab.mk (Qal (g := gb101) (o := Qav a0_0 a0_1 a0_2 a0_3 a0_4 a0_5 a0_6 a0_7 a0_8 44) (by (with_reducible repeat (first | refine Qag ?_ _ | refine Qai ?_ | refine Qae ?_ _)); exact BK101.out) hb); have n1_ := Qab.mk (Qak (by repeat (first | (with_reducible first | exact HB.out | apply Qad | apply Qaa | apply Qac | refine Qah ?_ GE101.out) | exact HB.out)) hb); have n2_ := Qab.mk (hbox); have n3_ := Qab.mk ((by rw [hg]; exact (Qar (by repeat (first | (with_reducible first | exact HB.out | apply Qad | apply Qaa | apply Qac | refine Qah ?_ GE101.out) | exact HB.out))) : w.heap.size ≤ gb102)); have n4_ := n3_; have n5_ := Qab.mk ((by rw [hg]; exact Nat.ne_of_lt (blk_lt (g := gb101) (o := Qav a0_0 a0_1 a0_2 a0_3 a0_4 a0_5 a0_6 a0_7 a0_8 44) (by (with_reducible repeat (first | refine Qag ?_ _ | refine Qai ?_ | refine Qae ?_ _)); exact BK101.out)) : gb101 ≠ gb102)); have n6_ := Qab.mk ((by rw [hg]; exact Nat.ne_of_gt (blk_lt (g := gb101) (o := Qav a0_0 a0_1 a0_2 a0_3 a0_4 a0_5 a0_6 a0_7 a0_8 44) (by (with_reducible repeat (first | refine Qag ?_ _ | refine Qai ?_ | refine Qae ?_ _)); exact BK101.out)) : gb102 ≠ gb101)); clear BK101; clear HB; have BK101 := n0_; have HB := n1_; have BK102 := n2_; have GW102 := n3_; have GE102 := n4_; have NB101_102 := n5_; have NB102_101 := n6_; clear n0_ n1_ n2_ n3_ n4_ n5_ n6_; clear hb hbox hg))
 have n0_ := Qab.mk (Qai BK101.out); have n1_ := Qab.mk (Qai BK102.out); have n2_ := Qab.mk (Qac HB.out); clear BK101; clear BK102; clear HB; have BK101 := n0_; have BK102 := n1_; have HB := n2_; clear n0_ n1_ n2_; refine start_ (n := 8) (S := fun w' => w'.cell? ⟨gb101, 0, none⟩ = some (.int .i64 a0_0) ∧ w'.cell? ⟨gb101, 1, none⟩ = some (.int .i64 a0_1) ∧ w'.cell? ⟨gb101, 2, none⟩ = some (.string a0_2) ∧ w'.cell? ⟨gb101, 3, none⟩ = some (.int .i64 a0_3) ∧ w'.cell? ⟨gb101, 4, none⟩ = some (.string a0_4) ∧ w'.cell? ⟨gb101, 5, none⟩ = some (.string a0_5) ∧ w'.cell? ⟨gb101, 6, none⟩ = some (.string a0_6) ∧ w'.cell? ⟨gb101, 7, none⟩ = some (.string a0_7) ∧ w'.cell? ⟨gb101, 8, none⟩ = some (.string a0_8)) (ds := []) #[ff,ff,ff,ff,ff,ff,ff,ff] (by kernel_rfl) rfl rfl ⟨(Qaj BK101.out 0).trans rfl, (Qaj BK101.out 1).trans rfl, (Qaj BK101.out 2).trans rfl, (Qaj BK101.out 3).trans rfl, (Qaj BK101.out 4).trans rfl, (Qaj BK101.out 5).trans rfl, (Qaj BK101.out 6).trans rfl, (Qaj BK101.out 7).trans rfl, (Qaj BK101.out 8).trans rfl⟩ (fun hHeld => ?_); refine with_tabW liveryref05_Role.tab1 liveryref05_Role.bits1 (fun HT_ HW_ => ?_)
 generalize w4.drew = w5 at BK101 BK102 HB hHeld ⊢
 refine Qa6 (i := 0) (N := some 3) (v := ?_) (a' := ?_) #[tt,ff,ff,ff,ff,ff,ff,ff] rfl rfl (QaK HT_.out (by kernel_rfl)) (fun _ _ _ h => h) (Or.inl ⟨by rfl, ?_⟩) ?_ ?_; rotate_left
 ·intro w'; go_simp; (with_reducible rfl)
 rotate_left
 ·simp only [Act.put, put_, QaG, QaI]; rfl
 refine Qa6 (i := 1) (N := some 4) (v := ?_) (a' := ?_) #[tt,tt,ff,ff,ff,ff,ff,ff] rfl rfl (QaK HT_.out (by kernel_rfl)) (fun _ _ _ h => h) (Or.inl ⟨by rfl, ?_⟩) ?_ ?_; rotate_left
 ·intro w'; go_simp; (with_reducible rfl)
 rotate_left
 ·simp only [Act.put, put_, QaG, QaI]; rfl
 refine Qa6 (i := 4) (N := some 7) (v := ?_) (a' := ?_) #[tt,tt,ff,ff,tt,ff,ff,ff] rfl rfl (QaK HT_.out (by kernel_rfl)) (fun _ _ _ h => h) (Or.inl ⟨by rfl, ?_⟩) ?_ ?_; rotate_left
 ·intro w'; go_simp; (with_reducible rfl)
 rotate_left
 ·simp only [Act.put, put_, QaG, QaI]; rfl
 refine take_ (i := 2) (N := some 5) (v := ?_) (a' := ?_) #[tt,tt,tt,ff,tt,ff,ff,ff] rfl rfl (Qbh HT_.out HW_.out (by kernel_rfl)) (fun _ _ _ h => h) (Or.inl ⟨by rfl, ?_⟩) hHeld ?_ ?_; rotate_left
 ·rintro w' ⟨s0, s1, s2, s3, s4, s5, s6, s7, s8⟩; go_simp; (with_reducible rfl)
 rotate_left
 ·simp only [Act.put, put_, QaG, QaI]; rfl
 refine take_ (i := 5) (N := some 8) (v := ?_) (a' := ?_) #[tt,tt,tt,ff,tt,tt,ff,ff] rfl rfl (Qbh HT_.out HW_.out (by kernel_rfl)) (fun _ _ _ h => h) (Or.inl ⟨by rfl, ?_⟩) hHeld ?_ ?_; rotate_left
 ·rintro w' ⟨s0, s1, s2, s3, s4, s5, s6, s7, s8⟩; go_simp; (with_reducible rfl)
 rotate_left
 ·simp only [Act.put, put_, QaG, QaI]; rfl
 refine one_ (i := 3) (N := some 6) #[tt,tt,tt,tt,tt,tt,ff,ff] rfl rfl (one_of HT_.out (by kernel_rfl)) (by decide) (fun K hK => ?_); refine goes_ Tryd.func63 (by kernel_rfl) rfl #[.int .i64 a0_0] (by rfl) rfl rfl (by (try simp only [List.map_toArray, List.map_cons, List.map_nil]); first | done | rfl | (simp only [List.length_drop, List.length_take]; rfl)) ?_
 with_reducible refine (liveryref04_Domain.calls k a0_0 t103 _ A2.out).mono ?_
 rintro e w6 ⟨rfl, hb⟩; refine ⟨_, rfl, ?_⟩; have n0_ := Qab.mk (Qal (g := gb101) (o := Qav a0_0 a0_1 a0_2 a0_3 a0_4 a0_5 a0_6 a0_7 a0_8 44) (by (with_reducible repeat (first | refine Qag ?_ _ | refine Qai ?_ | refine Qae ?_ _)); exact BK101.out) hb); have n1_ := Qab.mk (Qal (g := gb102) (o := ob_ss (⟨#[]⟩ : ByteArray) (⟨#[]⟩ : ByteArray) 24) (by (with_reducible repeat (first | refine Qag ?_ _ | refine Qai ?_ | refine Qae ?_ _)); exact BK102.out) hb); have n2_ := Qab.mk (Qak (by repeat (first | (with_reducible first | exact HB.out | apply Qad | apply Qaa | apply Qac | refine Qah ?_ GE101.out | refine Qah ?_ GE102.out) | exact HB.out)) hb); clear BK101; clear BK102; clear HB; have BK101 := n0_; have BK102 := n1_; have HB := n2_; clear n0_ n1_ n2_
 (try clear hb)
 (try clear hb2)
 (try clear hk)
 (try clear hi)
 refine hK.out _ _ ⟨(Qaj BK101.out 0).trans rfl, (Qaj BK101.out 1).trans rfl, (Qaj BK101.out 2).trans rfl, (Qaj BK101.out 3).trans rfl, (Qaj BK101.out 4).trans rfl, (Qaj BK101.out 5).trans rfl, (Qaj BK101.out 6).trans rfl, (Qaj BK101.out 7).trans rfl, (Qaj BK101.out 8).trans rfl⟩ (fun hHeld => ?_); clear hK K; refine norm_ (a' := ?_) ?_ ?_; rotate_left
 ·show Act.put _ (some 6) _ = _
  simp only [Act.put, put_, QaG, QaI]; rfl
 refine Qa6 (i := 6) (N := some 9) (v := ?_) (a' := ?_) #[tt,tt,tt,tt,tt,tt,tt,ff] rfl rfl (QaK HT_.out (by kernel_rfl)) (fun _ _ _ h => h) (Or.inl ⟨by rfl, ?_⟩) ?_ ?_; rotate_left
 ·intro w'; go_simp; (with_reducible rfl)
 rotate_left
 ·simp only [Act.put, put_, QaG, QaI]; rfl
 refine one_ (i := 7) (N := none) #[tt,tt,tt,tt,tt,tt,tt,tt] rfl rfl (one_of HT_.out (by kernel_rfl)) (by decide) (fun K hK => ?_); have hs7 : w6.cell? ⟨gb102, 0, none⟩ = some (.string (⟨#[]⟩ : ByteArray)) := (Qaj BK102.out 0).trans rfl; have hfs7 := blk_frozen BK102.out 0; have hns7_0 := NB101_102.out; have hms7_0 := NB102_101.out; have hs8 : w6.cell? ⟨gb102, 1, none⟩ = some (.string (⟨#[]⟩ : ByteArray)) := (Qaj BK102.out 1).trans rfl; have hfs8 := blk_frozen BK102.out 1; have hns8_0 := NB101_102.out; have hms8_0 := NB102_101.out; refine skip_ (w1 := ?_) (by rfl) rfl ?_ ?_; rotate_left
 ·go_simp; rfl
 refine hK.out _ _ ⟨((cell_far (p := ⟨gb102, _, none⟩) NB101_102.out _).trans (((cell_far (p := ⟨gb102, _, none⟩) NB101_102.out _).trans (hHeld.1)))), ((cell_far (p := ⟨gb102, _, none⟩) NB101_102.out _).trans (((cell_far (p := ⟨gb102, _, none⟩) NB101_102.out _).trans (hHeld.2.1)))), ((cell_far (p := ⟨gb102, _, none⟩) NB101_102.out _).trans (((cell_far (p := ⟨gb102, _, none⟩) NB101_102.out _).trans (hHeld.2.2.1)))), ((cell_far (p := ⟨gb102, _, none⟩) NB101_102.out _).trans (((cell_far (p := ⟨gb102, _, none⟩) NB101_102.out _).trans (hHeld.2.2.2.1)))), ((cell_far (p := ⟨gb102, _, none⟩) NB101_102.out _).trans (((cell_far (p := ⟨gb102, _, none⟩) NB101_102.out _).trans (hHeld.2.2.2.2.1)))), ((cell_far (p := ⟨gb102, _, none⟩) NB101_102.out _).trans (((cell_far (p := ⟨gb102, _, none⟩) NB101_102.out _).trans (hHeld.2.2.2.2.2.1)))), ((cell_far (p := ⟨gb102, _, none⟩) NB101_102.out _).trans (((cell_far (p := ⟨gb102, _, none⟩) NB101_102.out _).trans (hHeld.2.2.2.2.2.2.1)))), ((cell_far (p := ⟨gb102, _, none⟩) NB101_102.out _).trans (((cell_far (p := ⟨gb102, _, none⟩) NB101_102.out _).trans (hHeld.2.2.2.2.2.2.2.1)))), ((cell_far (p := ⟨gb102, _, none⟩) NB101_102.out _).trans (((cell_far (p := ⟨gb102, _, none⟩) NB101_102.out _).trans (hHeld.2.2.2.2.2.2.2.2))))⟩ (fun hHeld => ?_); clear hK K; refine done_ (done_of HT_.out (by kernel_rfl)) ?_
 try go_wp2
 refine bodyPost_ret (results_cell_row rfl _ _ gb102 24 #[.string t103, .string a0_2] (0, 0) _ rfl (by (with_reducible repeat (first | refine Qag ?_ _ | refine Qai ?_ | refine Qae ?_ _)); refine Qa8 (cs := #[.string t103, .string (⟨#[]⟩ : ByteArray)]) ?_ 1 _ rfl; (with_reducible repeat (first | refine Qag ?_ _ | refine Qai ?_ | refine Qae ?_ _)); refine Qa8 (cs := #[.string (⟨#[]⟩ : ByteArray), .string (⟨#[]⟩ : ByteArray)]) ?_ 0 _ rfl; (with_reducible repeat (first | refine Qag ?_ _ | refine Qai ?_ | refine Qae ?_ _)); exact BK102.out) Tryd.underlying24 rfl (by kernel_rfl)) rfl ?_; exact ⟨by first | rfl | (simp [Qax, Qaw] <;> rfl) | (simp [*, Qax, Qaw] <;> rfl), by repeat (first | (with_reducible first | exact HB.out | apply Qad | apply Qaa | apply Qac | refine Qah ?_ GE101.out | refine Qah ?_ GE102.out) | exact HB.out)⟩
def liveryref06_First.f (k : Nat) (a0_0 : Int) (a0_1 : Int) (a0_2 : ByteArray) (a0_3 : Int) (a0_4 : ByteArray) (a0_5 : ByteArray) (a0_6 : ByteArray) (a0_7 : ByteArray) (a0_8 : ByteArray) : Option (ByteArray × ByteArray) := (liveryref04_Domain.f k a0_0).bind fun t103 => (some (t103, a0_6))
def liveryref06_First.T1 : Bool × List (List Nat × List Nat) := (true, [([], []), ([0], [0]), ([1], [1]), ([2], [2]), ([], []), ([4], [4]), ([5], [5]), ([3, 6], [3, 6]), ([7, 3, 0, 1, 2, 3, 4, 5, 6, 7], [7])])
def liveryref06_First.B1 : List Nat := [0, 1, 3, 7, 0, 16, 48, 127, 255]
theorem liveryref06_First.tab1 : rtab .any (opsOf Tryd.f45 1) = liveryref06_First.T1 := by kernel_rfl
theorem liveryref06_First.bits1 : waitsOk liveryref06_First.T1.2 liveryref06_First.B1 = true := by kernel_rfl
set_option maxHeartbeats 8000000 in
set_option maxRecDepth 100000 in
theorem liveryref06_First.calls (k : Nat) (a0_0 : Int) (a0_1 : Int) (a0_2 : ByteArray) (a0_3 : Int) (a0_4 : ByteArray) (a0_5 : ByteArray) (a0_6 : ByteArray) (a0_7 : ByteArray) (a0_8 : ByteArray) (r1 : ByteArray) (r2 : ByteArray) (w : World) (h : liveryref06_First.f k a0_0 a0_1 a0_2 a0_3 a0_4 a0_5 a0_6 a0_7 a0_8 = some (r1, r2)) :
  Calls Tryd.prog 45 #[.agg #[.int .i64 a0_0, .int .i64 a0_1, .string a0_2, .int .i64 a0_3, .string a0_4, .string a0_5, .string a0_6, .string a0_7, .string a0_8]] w fun e w' => e = .returned (.agg #[.string r1, .string r2]) ∧ Below w.heap.size w w' := by
 have hu44 := Tryd.underlying44; have hu24 := Tryd.underlying24; have HB := Qab.mk (Below.refl w.heap.size w); have H : ((liveryref04_Domain.f k a0_0).bind fun t103 => (some (t103, a0_6))) = some (r1, r2) := h; clear h; replace H := Option.bind_eq_some_iff.mp H; obtain ⟨t103, A20, H⟩ := H; replace H : (some (t103, a0_6)) = some (r1, r2) := H; have A2 := Qab.mk A20; clear A20; simp only [Option.some.injEq, Prod.mk.injEq] at H; obtain ⟨rfl, rfl⟩ := H; go_enter Tryd.func45, Tryd.ntmps45
 try go_wp2_with (first | ((with_reducible refine Qa2 (N := 1) rfl ?_); refine QaV ?hg (N := 1) ?hd (cs := #[.int .i64 a0_0, .int .i64 a0_1, .string a0_2, .int .i64 a0_3, .string a0_4, .string a0_5, .string a0_6, .string a0_7, .string a0_8]) (t := 44) ?hr ?_; (case hd => rfl); (case hg => rfl); (case hr => first | (go_simp; done) | (go_simp; rfl)); intro gb101 hg w3 hbox hb; have n0_ := Qab.mk (Qak (by repeat (first | (with_reducible first | exact HB.out | apply Qad | apply Qaa | apply Qac) | exact HB.out)) hb); have n1_ := Qab.mk (hbox); have n2_ := Qab.mk ((by rw [hg]; exact (Qar (by repeat (first | (with_reducible first | exact HB.out | apply Qad | apply Qaa | apply Qac) | exact HB.out))) : w.heap.size ≤ gb101)); have n3_ := n2_; clear HB; have HB := n0_; have BK101 := n1_; have GW101 := n2_; have GE101 := n3_; clear n0_ n1_ n2_ n3_; clear hb hbox hg) | ((with_reducible refine Qa2 (N := 2) rfl ?_); refine QaV ?hg (N := 2) ?hd (cs := #[.string (⟨#[]⟩ : ByteArray), .string (⟨#[]⟩ : ByteArray)]) (t := 24) ?hr ?_; (case hd => rfl); (case hg => rfl); (case hr => first | (go_simp; done) | (go_simp; rfl)); intro gb102 hg w4 hbox hb; have n0_ := Qab.mk (Qal (g := gb101) (o := Qav a0_0 a0_1 a0_2 a0_3 a0_4 a0_5 a0_6 a0_7 a0_8 44) (by (with_reducible repeat (first | refine Qag ?_ _ | refine Qai ?_ | refine Qae ?_ _)); exact BK101.out) hb); have n1_ := Qab.mk (Qak (by repeat (first | (with_reducible first | exact HB.out | apply Qad | apply Qaa | apply Qac | refine Qah ?_ GE101.out) | exact HB.out)) hb); have n2_ := Qab.mk (hbox); have n3_ := Qab.mk ((by rw [hg]; exact (Qar (by repeat (first | (with_reducible first | exact HB.out | apply Qad | apply Qaa | apply Qac | refine Qah ?_ GE101.out) | exact HB.out))) : w.heap.size ≤ gb102)); have n4_ := n3_; have n5_ := Qab.mk ((by rw [hg]; exact Nat.ne_of_lt (blk_lt (g := gb101) (o := Qav a0_0 a0_1 a0_2 a0_3 a0_4 a0_5 a0_6 a0_7 a0_8 44) (by (with_reducible repeat (first | refine Qag ?_ _ | refine Qai ?_ | refine Qae ?_ _)); exact BK101.out)) : gb101 ≠ gb102)); have n6_ := Qab.mk ((by rw [hg]; exact Nat.ne_of_gt (blk_lt (g := gb101) (o := Qav a0_0 a0_1 a0_2 a0_3 a0_4 a0_5 a0_6 a0_7 a0_8 44) (by (with_reducible repeat (first | refine Qag ?_ _ | refine Qai ?_ | refine Qae ?_ _)); exact BK101.out)) : gb102 ≠ gb101)); clear BK101; clear HB; have BK101 := n0_; have HB := n1_; have BK102 := n2_; have GW102 := n3_; have GE102 := n4_; have NB101_102 := n5_; have NB102_101 := n6_; clear n0_ n1_ n2_ n3_ n4_ n5_ n6_; clear hb hbox hg))
 have n0_ := Qab.mk (Qai BK101.out); have n1_ := Qab.mk (Qai BK102.out); have n2_ := Qab.mk (Qac HB.out); clear BK101; clear BK102; clear HB; have BK101 := n0_; have BK102 := n1_; have HB := n2_; clear n0_ n1_ n2_; refine start_ (n := 9) (S := fun w' => w'.cell? ⟨gb101, 0, none⟩ = some (.int .i64 a0_0) ∧ w'.cell? ⟨gb101, 1, none⟩ = some (.int .i64 a0_1) ∧ w'.cell? ⟨gb101, 2, none⟩ = some (.string a0_2) ∧ w'.cell? ⟨gb101, 3, none⟩ = some (.int .i64 a0_3) ∧ w'.cell? ⟨gb101, 4, none⟩ = some (.string a0_4) ∧ w'.cell? ⟨gb101, 5, none⟩ = some (.string a0_5) ∧ w'.cell? ⟨gb101, 6, none⟩ = some (.string a0_6) ∧ w'.cell? ⟨gb101, 7, none⟩ = some (.string a0_7) ∧ w'.cell? ⟨gb101, 8, none⟩ = some (.string a0_8)) (ds := []) #[ff,ff,ff,ff,ff,ff,ff,ff,ff] (by kernel_rfl) rfl rfl ⟨(Qaj BK101.out 0).trans rfl, (Qaj BK101.out 1).trans rfl, (Qaj BK101.out 2).trans rfl, (Qaj BK101.out 3).trans rfl, (Qaj BK101.out 4).trans rfl, (Qaj BK101.out 5).trans rfl, (Qaj BK101.out 6).trans rfl, (Qaj BK101.out 7).trans rfl, (Qaj BK101.out 8).trans rfl⟩ (fun hHeld => ?_); refine with_tabW liveryref06_First.tab1 liveryref06_First.bits1 (fun HT_ HW_ => ?_)
 generalize w4.drew = w5 at BK101 BK102 HB hHeld ⊢
 refine Qa6 (i := 0) (N := some 3) (v := ?_) (a' := ?_) #[tt,ff,ff,ff,ff,ff,ff,ff,ff] rfl rfl (QaK HT_.out (by kernel_rfl)) (fun _ _ _ h => h) (Or.inl ⟨by rfl, ?_⟩) ?_ ?_; rotate_left
 ·intro w'; go_simp; (with_reducible rfl)
 rotate_left
 ·simp only [Act.put, put_, QaG, QaI]; rfl
 refine Qa6 (i := 1) (N := some 4) (v := ?_) (a' := ?_) #[tt,tt,ff,ff,ff,ff,ff,ff,ff] rfl rfl (QaK HT_.out (by kernel_rfl)) (fun _ _ _ h => h) (Or.inl ⟨by rfl, ?_⟩) ?_ ?_; rotate_left
 ·intro w'; go_simp; (with_reducible rfl)
 rotate_left
 ·simp only [Act.put, put_, QaG, QaI]; rfl
 refine Qa6 (i := 4) (N := some 7) (v := ?_) (a' := ?_) #[tt,tt,ff,ff,tt,ff,ff,ff,ff] rfl rfl (QaK HT_.out (by kernel_rfl)) (fun _ _ _ h => h) (Or.inl ⟨by rfl, ?_⟩) ?_ ?_; rotate_left
 ·intro w'; go_simp; (with_reducible rfl)
 rotate_left
 ·simp only [Act.put, put_, QaG, QaI]; rfl
 refine Qa6 (i := 5) (N := some 8) (v := ?_) (a' := ?_) #[tt,tt,ff,ff,tt,tt,ff,ff,ff] rfl rfl (QaK HT_.out (by kernel_rfl)) (fun _ _ _ h => h) (Or.inl ⟨by rfl, ?_⟩) ?_ ?_; rotate_left
 ·intro w'; go_simp; (with_reducible rfl)
 rotate_left
 ·simp only [Act.put, put_, QaG, QaI]; rfl
 refine take_ (i := 2) (N := some 5) (v := ?_) (a' := ?_) #[tt,tt,tt,ff,tt,tt,ff,ff,ff] rfl rfl (Qbh HT_.out HW_.out (by kernel_rfl)) (fun _ _ _ h => h) (Or.inl ⟨by rfl, ?_⟩) hHeld ?_ ?_; rotate_left
 ·rintro w' ⟨s0, s1, s2, s3, s4, s5, s6, s7, s8⟩; go_simp; (with_reducible rfl)
 rotate_left
 ·simp only [Act.put, put_, QaG, QaI]; rfl
 refine take_ (i := 6) (N := some 9) (v := ?_) (a' := ?_) #[tt,tt,tt,ff,tt,tt,tt,ff,ff] rfl rfl (Qbh HT_.out HW_.out (by kernel_rfl)) (fun _ _ _ h => h) (Or.inl ⟨by rfl, ?_⟩) hHeld ?_ ?_; rotate_left
 ·rintro w' ⟨s0, s1, s2, s3, s4, s5, s6, s7, s8⟩; go_simp; (with_reducible rfl)
 rotate_left
 ·simp only [Act.put, put_, QaG, QaI]; rfl
 refine one_ (i := 3) (N := some 6) #[tt,tt,tt,tt,tt,tt,tt,ff,ff] rfl rfl (one_of HT_.out (by kernel_rfl)) (by decide) (fun K hK => ?_); refine goes_ Tryd.func63 (by kernel_rfl) rfl #[.int .i64 a0_0] (by rfl) rfl rfl (by (try simp only [List.map_toArray, List.map_cons, List.map_nil]); first | done | rfl | (simp only [List.length_drop, List.length_take]; rfl)) ?_
 with_reducible refine (liveryref04_Domain.calls k a0_0 t103 _ A2.out).mono ?_
 rintro e w6 ⟨rfl, hb⟩; refine ⟨_, rfl, ?_⟩; have n0_ := Qab.mk (Qal (g := gb101) (o := Qav a0_0 a0_1 a0_2 a0_3 a0_4 a0_5 a0_6 a0_7 a0_8 44) (by (with_reducible repeat (first | refine Qag ?_ _ | refine Qai ?_ | refine Qae ?_ _)); exact BK101.out) hb); have n1_ := Qab.mk (Qal (g := gb102) (o := ob_ss (⟨#[]⟩ : ByteArray) (⟨#[]⟩ : ByteArray) 24) (by (with_reducible repeat (first | refine Qag ?_ _ | refine Qai ?_ | refine Qae ?_ _)); exact BK102.out) hb); have n2_ := Qab.mk (Qak (by repeat (first | (with_reducible first | exact HB.out | apply Qad | apply Qaa | apply Qac | refine Qah ?_ GE101.out | refine Qah ?_ GE102.out) | exact HB.out)) hb); clear BK101; clear BK102; clear HB; have BK101 := n0_; have BK102 := n1_; have HB := n2_; clear n0_ n1_ n2_
 (try clear hb)
 (try clear hb2)
 (try clear hk)
 (try clear hi)
 refine hK.out _ _ ⟨(Qaj BK101.out 0).trans rfl, (Qaj BK101.out 1).trans rfl, (Qaj BK101.out 2).trans rfl, (Qaj BK101.out 3).trans rfl, (Qaj BK101.out 4).trans rfl, (Qaj BK101.out 5).trans rfl, (Qaj BK101.out 6).trans rfl, (Qaj BK101.out 7).trans rfl, (Qaj BK101.out 8).trans rfl⟩ (fun hHeld => ?_); clear hK K; refine norm_ (a' := ?_) ?_ ?_; rotate_left
 ·show Act.put _ (some 6) _ = _
  simp only [Act.put, put_, QaG, QaI]; rfl
 refine Qa6 (i := 7) (N := some 10) (v := ?_) (a' := ?_) #[tt,tt,tt,tt,tt,tt,tt,tt,ff] rfl rfl (QaK HT_.out (by kernel_rfl)) (fun _ _ _ h => h) (Or.inl ⟨by rfl, ?_⟩) ?_ ?_; rotate_left
 ·intro w'; go_simp; (with_reducible rfl)
 rotate_left
 ·simp only [Act.put, put_, QaG, QaI]; rfl
 refine one_ (i := 8) (N := none) #[tt,tt,tt,tt,tt,tt,tt,tt,tt] rfl rfl (one_of HT_.out (by kernel_rfl)) (by decide) (fun K hK => ?_); have hs7 : w6.cell? ⟨gb102, 0, none⟩ = some (.string (⟨#[]⟩ : ByteArray)) := (Qaj BK102.out 0).trans rfl; have hfs7 := blk_frozen BK102.out 0; have hns7_0 := NB101_102.out; have hms7_0 := NB102_101.out; have hs8 : w6.cell? ⟨gb102, 1, none⟩ = some (.string (⟨#[]⟩ : ByteArray)) := (Qaj BK102.out 1).trans rfl; have hfs8 := blk_frozen BK102.out 1; have hns8_0 := NB101_102.out; have hms8_0 := NB102_101.out; refine skip_ (w1 := ?_) (by rfl) rfl ?_ ?_; rotate_left
 ·go_simp; rfl
 refine hK.out _ _ ⟨((cell_far (p := ⟨gb102, _, none⟩) NB101_102.out _).trans (((cell_far (p := ⟨gb102, _, none⟩) NB101_102.out _).trans (hHeld.1)))), ((cell_far (p := ⟨gb102, _, none⟩) NB101_102.out _).trans (((cell_far (p := ⟨gb102, _, none⟩) NB101_102.out _).trans (hHeld.2.1)))), ((cell_far (p := ⟨gb102, _, none⟩) NB101_102.out _).trans (((cell_far (p := ⟨gb102, _, none⟩) NB101_102.out _).trans (hHeld.2.2.1)))), ((cell_far (p := ⟨gb102, _, none⟩) NB101_102.out _).trans (((cell_far (p := ⟨gb102, _, none⟩) NB101_102.out _).trans (hHeld.2.2.2.1)))), ((cell_far (p := ⟨gb102, _, none⟩) NB101_102.out _).trans (((cell_far (p := ⟨gb102, _, none⟩) NB101_102.out _).trans (hHeld.2.2.2.2.1)))), ((cell_far (p := ⟨gb102, _, none⟩) NB101_102.out _).trans (((cell_far (p := ⟨gb102, _, none⟩) NB101_102.out _).trans (hHeld.2.2.2.2.2.1)))), ((cell_far (p := ⟨gb102, _, none⟩) NB101_102.out _).trans (((cell_far (p := ⟨gb102, _, none⟩) NB101_102.out _).trans (hHeld.2.2.2.2.2.2.1)))), ((cell_far (p := ⟨gb102, _, none⟩) NB101_102.out _).trans (((cell_far (p := ⟨gb102, _, none⟩) NB101_102.out _).trans (hHeld.2.2.2.2.2.2.2.1)))), ((cell_far (p := ⟨gb102, _, none⟩) NB101_102.out _).trans (((cell_far (p := ⟨gb102, _, none⟩) NB101_102.out _).trans (hHeld.2.2.2.2.2.2.2.2))))⟩ (fun hHeld => ?_); clear hK K; refine done_ (done_of HT_.out (by kernel_rfl)) ?_
 try go_wp2
 refine bodyPost_ret (results_cell_row rfl _ _ gb102 24 #[.string t103, .string a0_6] (0, 0) _ rfl (by (with_reducible repeat (first | refine Qag ?_ _ | refine Qai ?_ | refine Qae ?_ _)); refine Qa8 (cs := #[.string t103, .string (⟨#[]⟩ : ByteArray)]) ?_ 1 _ rfl; (with_reducible repeat (first | refine Qag ?_ _ | refine Qai ?_ | refine Qae ?_ _)); refine Qa8 (cs := #[.string (⟨#[]⟩ : ByteArray), .string (⟨#[]⟩ : ByteArray)]) ?_ 0 _ rfl; (with_reducible repeat (first | refine Qag ?_ _ | refine Qai ?_ | refine Qae ?_ _)); exact BK102.out) Tryd.underlying24 rfl (by kernel_rfl)) rfl ?_; exact ⟨by first | rfl | (simp [Qax, Qaw] <;> rfl) | (simp [*, Qax, Qaw] <;> rfl), by repeat (first | (with_reducible first | exact HB.out | apply Qad | apply Qaa | apply Qac | refine Qah ?_ GE101.out | refine Qah ?_ GE102.out) | exact HB.out)⟩
end Go.Proofs.YtmaipohgahdclaaDoor.Pr
end
section
namespace Go.Proofs.YtmaipohgahdclaaDoor.Pr
open Go.RowKit Go.Proofs.YtmaipohgahdclaaDoorW.PrintWords Go.Proofs.YtmaipohgahdclaaDoorW.PrintLast Go.Proofs.YtmaipohgahdclaaDoorW.PrintMore
set_option linter.unusedVariables false
set_option linter.unusedSimpArgs false
attribute [local go_sem high] eqA24 eqA26
theorem neRole_f {a b : Role} (h : a = b) : (!(a.f0.toList == b.f0.toList) || (!(a.f1.toList == b.f1.toList))) = false := by subst h; simp
theorem neRole_t {a b : Role} (h : ¬ a = b) : (!(a.f0.toList == b.f0.toList) || (!(a.f1.toList == b.f1.toList))) = true := by
  have := eqRole_f h
  revert this
  cases (a.f0.toList == b.f0.toList) <;> cases (a.f1.toList == b.f1.toList) <;> simp
theorem neStr_f {a b : ByteArray} (h : a = b) : (!(a.toList == b.toList)) = false := by subst h; simp
theorem neStr_t {a b : ByteArray} (h : ¬ a = b) : (!(a.toList == b.toList)) = true := by rw [str_f h]; rfl
theorem neID_f {a b : ID} (h : a = b) : (!(a.f0 == b.f0) || (!(a.f1 == b.f1))) = false := by subst h; simp
theorem neID_t {a b : ID} (h : ¬ a = b) : (!(a.f0 == b.f0) || (!(a.f1 == b.f1))) = true := by
  by_cases e0 : a.f0 = b.f0
  · by_cases e1 : a.f1 = b.f1
    · exact absurd (by cases a; cases b; simp_all) h
    · simp [e1]
  · simp [e0]
abbrev OfT := Proof → Role → ByteArray → Option Bool
def ofLink (F : OfT) (c : Cred) (p : Proof) (who : ByteArray) : Option Bool :=
  (QaM.f 20 (pt p 0).f1).bind fun n => if n > 0 then (liveryref06_First.f 20 c.f0.f0 c.f0.f1 c.f1 c.f2 c.f3 c.f4.f0 c.f4.f1 c.f5.f0 c.f5.f1).bind (fun ff => (F (pt p 0) ⟨ff.1, ff.2⟩ (pt p 0).f1).bind fun b => if b = true then F (pt p 1) ⟨(pt p 0).f1, c.f5.f1⟩ who else some false) else some false
def ofBy (F : OfT) (c : Cred) (p : Proof) (who : ByteArray) : Option Bool :=
  if c.f2 = 1 then some (decide (c.f3 = who) && decide (p.f3.length = 0))
  else if c.f2 = 2 then (if p.f3.length = 1 then F (pt p 0) c.f4 who else some false)
  else if p.f3.length = 2 then (if c.f2 = 4 then (F (pt p 0) c.f4 who).bind fun b => if b = true then F (pt p 1) c.f5 who else some false else ofLink F c p who)
  else some false
def ofHit (F : OfT) (c : Cred) (p : Proof) (role : Role) (who : ByteArray) : Option Bool :=
  (liveryref05_Role.f 20 c.f0.f0 c.f0.f1 c.f1 c.f2 c.f3 c.f4.f0 c.f4.f1 c.f5.f0 c.f5.f1).bind fun rr => if (⟨rr.1, rr.2⟩ : Role) = role then ofBy F c p who else some false
def ofAt (F : OfT) (cs : List Cred) (p : Proof) (role : Role) (who : ByteArray) : Option Bool :=
  match cs.find? (fun c => decide (c.f0 = p.f2)) with
  | none => some false
  | some c => ofHit F c p role who
def ofStep (F : OfT) (cs : List Cred) : OfT := fun p role who => if p.f0 = role then (if p.f1 = who then ofAt F cs p role who else some false) else some false
def ofN (cs : List Cred) : Nat → OfT
  | 0 => fun _ _ _ => none
  | k + 1 => ofStep (ofN cs k) cs
def Ofs (F : OfT) (cs : List Cred) : Prop := ∀ (w : World) (A0 : Option Addr) (c0 : Nat) (p : Proof) (A : Option Addr) (c : Nat) (role : Role) (who : ByteArray) (r : Bool), Kd.C kCred w A0 cs.length cs → cs.length ≤ c0 → Kd.C kProof w A p.f3.length p.f3 → p.f3.length ≤ c → F p role who = some r →
  Calls Tryd.prog 27 #[.slice A0 cs.length c0, encProof p A c, .agg #[.string role.f0, .string role.f1], .string who] w fun e w' => e = .returned (.bool r) ∧ Below w.heap.size w w'
theorem Ofs.use {F : OfT} {cs : List Cred} (HC : Ofs F cs) (w : World) (A0 : Option Addr) (c0 : Nat) (p : Proof) (A : Option Addr) (c : Nat) (role : Role) (who : ByteArray) (r : Bool) (h0 : Kd.C kCred w A0 cs.length cs) (h1 : cs.length ≤ c0) (h2 : Kd.C kProof w A p.f3.length p.f3) (h3 : p.f3.length ≤ c) (h4 : F p role who = some r) :
    Calls Tryd.prog 27 #[.slice A0 cs.length c0, encProof p A c, .agg #[.string role.f0, .string role.f1], .string who] w fun e w' => e = .returned (.bool r) ∧ Below w.heap.size w w' := HC w A0 c0 p A c role who r h0 h1 h2 h3 h4
theorem refNumber_below (a : ByteArray) (r : Int) (w : World) (h : QaM.f 20 a = some r) : Calls Tryd.prog 44 #[.string a] w fun e w' => e = .returned (.int .i64 r) ∧ Below w.heap.size w w' :=
  (QaM.calls 20 a r w h).mono fun e w' ⟨he, ⟨nd, hw⟩⟩ => ⟨he, by subst hw; exact Qaa (Below.refl _ _) nd⟩
set_option maxRecDepth 100000 in
set_option maxHeartbeats 8000000 in
theorem of_step {F : OfT} {cs : List Cred} (HC : Ofs F cs) (hlen : cs.length ≤ 1000000) : Ofs (ofStep F cs) cs := by
  intro w A0 c0 p A c role who r hR0 hc0 hR hc h; unfold ofStep at h; go_enter Tryd.func27, Tryd.ntmps27
  go_upto_region 1 with fail
  change Code.wp _ _ _ _ ((w.alloc (proofObj p A c)).alloc (roleObj2 role))
  generalize hW : (w.alloc (proofObj p A c)).alloc (roleObj2 role) = W
  obtain ⟨HB, BP, BR, hsz⟩ := boxed2 hW; obtain ⟨p0, p1, p2, p3, p4, p5⟩ := proofCells BP; obtain ⟨r0, r1⟩ := roleCells2 BR; have HSZ := Lib.hid (show w.heap.size + 1 < W.heap.size by omega); clear hW hsz
  by_cases e1 : p.f0 = role
  · rw [if_pos e1] at h
    have hb1 := neRole_f e1; clear e1
    by_cases e2 : p.f1 = who
    · rw [if_pos e2] at h
      have hb2 := neStr_f e2; clear e2; have HF := Lib.hid h; have HP := Lib.hid BP; have HRo := Lib.hid BR; have HBh := Lib.hid HB; have HRc := Lib.hid hR0; have HRp := Lib.hid hR; have HLn := Lib.hid hlen; have HCc := Lib.hid hc0; have HCp := Lib.hid hc; have HX := Lib.hid (Ofs.use HC); clear h BP BR HB hR0 hR hlen hc0 hc HC; go_wp2; clear hb1 hb2 p0 p1 p2 p3 p4 p5 r0 r1
      go_loopg [9] (cs.length + 1) (fun kq v9 w' => ∃ i : Nat, v9 = .int .i64 i ∧ Hid (kq = cs.length + 1 - i) ∧ Hid (i ≤ cs.length) ∧ Hid (ofAt F (cs.drop i) p role who = some r) ∧ Hid (w'.heap[w.heap.size]? = some (proofObj p A c)) ∧ Hid (w'.heap[w.heap.size + 1]? = some (roleObj2 role)) ∧ Hid (Below w.heap.size w w'))
      case atStart => exact ⟨0, rfl, Lib.hid rfl, Lib.hid (Nat.zero_le _), HF, HP, HRo, HBh⟩
      case round =>
        clear HF HP HRo HBh; obtain ⟨i, rfl, HKq, HI, HF, HP, HRo, HW⟩ := hrel
        by_cases hi : i < cs.length
        · have d1 : decide ((i : Int) < (cs.length : Int)) = true := decide_eq_true (by omega)
          have d2 : decide (i < cs.length) = true := decide_eq_true hi; obtain ⟨ad, e, hx0, hx1, hx2, hx3, hx4, hx5, hx6, hx7, hx8⟩ := at_T44 (Kd.QaJ HRc.out HW.out) (i : Int) (by omega) (by omega); obtain rfl := e
          obtain ⟨x, hx⟩ : ∃ x, x = cs[i] := ⟨_, rfl⟩
          have erd : Qaf cs (i : Int) = x := by
            unfold Qaf; rw [hx, Int.toNat_natCast, List.getD_eq_getElem?_getD, List.getElem?_eq_getElem hi]; rfl
          rw [erd, Int.toNat_natCast] at hx0 hx1 hx2 hx3 hx4 hx5 hx6 hx7 hx8; have p101 : (0 ≤ (i : Int)) = True := eq_true (by omega); have q101 : ((i : Int) < (cs.length : Int)) = True := eq_true (by omega); have hF := HF.out; unfold ofAt at hF; rw [List.drop_eq_getElem_cons hi, ← hx, List.find?_cons] at hF
          have wrapI : wrap64 ((i : Int) + 1) = ((i + 1 : Nat) : Int) := by unfold wrap64; have := HLn.out; omega
          have HIL := Lib.hid hi; clear hx erd hi HF; have HF := Lib.hid hF; clear hF
          go_upto_region 7 with fail
          change Code.wp _ _ _ _ (wr.alloc (credObj x)); have HXa := Qad (Below.refl wr.heap.size wr) (credObj x); have B3 := blk_new wr (credObj x); have BP := Qal HP.out HXa; have BR := Qal HRo.out HXa; have WX := Qak HW.out HXa
          obtain ⟨kx, hkx⟩ : ∃ kx, kx = wr.heap.size := ⟨_, rfl⟩
          rw [← hkx] at B3 ⊢; clear hx0 hx1 hx2 hx3 hx4 hx5 hx6 hx7 hx8 HXa HP HRo HW hkx
          generalize wr.alloc (credObj x) = X at B3 BP BR WX ⊢
          obtain ⟨kc0, kc1, kc2, kc3, kc4, kc5, kc6, kc7, kc8⟩ := credCells B3; obtain ⟨p0, p1, p2, p3, p4, p5⟩ := proofCells BP; obtain ⟨r0, r1⟩ := roleCells2 BR; have HBX := Lib.hid B3; have HBP := Lib.hid BP; have HBR := Lib.hid BR; have HWX := Lib.hid WX; clear B3 BP BR WX
          by_cases e3 : x.f0 = p.f2
          · have hF := HF.out
            rw [decide_eq_true e3] at hF; simp only [ofHit] at hF; obtain ⟨rr, hrr, hF⟩ := Option.bind_eq_some_iff.mp hF; have hb3 := neID_f e3; have HRR := Lib.hid hrr; have HF := Lib.hid hF; clear e3 hF hrr
            go_upto_region 8 with fail
            clear hb3; have g0 := Qa4 kc0; have g1 := Qa4 kc1; have g2 := Qa4 kc2; have g3 := Qa4 kc3; have g4 := Qa4 kc4; have g5 := Qa4 kc5; have g6 := Qa4 kc6; have g7 := Qa4 kc7; have g8 := Qa4 kc8; have s0 := Qa4 r0; have s1 := Qa4 r1; clear kc0 kc1 kc2 kc3 kc4 kc5 kc6 kc7 kc8 p0 p1 p2 p3 p4 p5 r0 r1
            by_cases e4 : (⟨rr.1, rr.2⟩ : Role) = role
            · have hF := HF.out
              rw [if_pos e4] at hF; have hb4 := neRole_f e4; clear e4 HF; refine wp_region_below (by kernel_rfl) (by kernel_rfl) ?_
              repeat (go_big_quiet_step (with_reducible refine bw_call (liveryref05_Role.calls 20 _ _ _ _ _ _ _ _ _ _ _ _ HRR.out)))
              refine wpQuiet_nil ?_; rintro _ ⟨u, rfl⟩; have HW := Qak HWX.out u.ok; have BX := Qal HBX.out u.ok; have BP := Qal HBP.out u.ok; clear g0 g1 g2 g3 g4 g5 g6 g7 g8 s0 s1 HWX HBX HBP HBR
              generalize u.now = Y at HW BX BP ⊢
              clear u; unfold ofBy at hF; obtain ⟨kc0, kc1, kc2, kc3, kc4, kc5, kc6, kc7, kc8⟩ := credCells BX; obtain ⟨p0, p1, p2, p3, p4, p5⟩ := proofCells BP; have hR2 := Kd.QaJ HRp.out HW
              by_cases k1 : x.f2 = 1
              · rw [if_pos k1] at hF
                have hr := Option.some.inj hF; have d3 : (x.f2 == 1) = true := beq_iff_eq.mpr k1; clear HF hF hR2 k1
                by_cases e5 : x.f3 = who
                · have hb5 := str_t e5
                  by_cases e6 : p.f3.length = 0
                  · have hb6 : ((p.f3.length : Int) == 0) = true := beq_iff_eq.mpr (by omega)
                    have hb7 : (p.f3.length == 0) = true := beq_iff_eq.mpr e6
                    obtain rfl : true = r := by rw [← hr, decide_eq_true e5, decide_eq_true e6]; rfl
                    clear e5 hr; go_wp2; go_ret; exact ⟨rfl, HW⟩
                  · have hb6 : ((p.f3.length : Int) == 0) = false := beq_eq_false_iff_ne.mpr (by omega)
                    have hb7 : (p.f3.length == 0) = false := beq_eq_false_iff_ne.mpr e6
                    obtain rfl : false = r := by rw [← hr, decide_eq_true e5, decide_eq_false e6]; rfl
                    clear e5 hr; go_wp2; go_ret; exact ⟨rfl, HW⟩
                · have hb5 := str_f e5
                  obtain rfl : false = r := by rw [← hr, decide_eq_false e5]; rfl
                  clear e5 hr; go_wp2; go_ret; exact ⟨rfl, HW⟩
              · rw [if_neg k1] at hF
                have d3 : (x.f2 == 1) = false := beq_eq_false_iff_ne.mpr k1; clear k1
                by_cases k2 : x.f2 = 2
                · rw [if_pos k2] at hF
                  have d4 : (x.f2 == 2) = true := beq_iff_eq.mpr k2; clear k2
                  go_upto_region 13 with fail
                  clear d3 d4
                  by_cases e5 : p.f3.length = 1
                  · rw [if_pos e5] at hF
                    have n1 : 0 < p.f3.length := by omega
                    have n2 : (0 : Int) < (p.f3.length : Int) := by omega
                    have n3 : (((p.f3.length : Nat) : Int) == 1) = true := beq_iff_eq.mpr (by omega); have n4 : (p.f3.length == 1) = true := beq_iff_eq.mpr (by omega); obtain ⟨ad1, A5, cc5, hA, ⟨q0, q1, q2, q3, q4, q5⟩, ql, qR⟩ := part0 hR2 (by omega); obtain rfl := hA
                    obtain ⟨P0, hP0⟩ : ∃ P0, P0 = pt p 0 := ⟨_, rfl⟩
                    rw [← hP0] at hF q0 q1 q2 q3 q4 q5 ql qR; have HRY := Lib.hid (Kd.QaJ HRc.out HW); have HQ := Lib.hid qR; have HL := Lib.hid ql; have HH := Lib.hid hF; have t0 := Qa4 q0; have t1 := Qa4 q1; have t2 := Qa4 q2; have t3 := Qa4 q3; have t4 := Qa4 q4; have t5 := Qa4 q5; have y5 := Qa4 p5; have z5 := Qa4 kc5; have z6 := Qa4 kc6; clear hP0 hF qR ql e5 hR2 q0 q1 q2 q3 q4 q5 p0 p1 p2 p3 p4 p5 kc0 kc1 kc2 kc3 kc4 kc5 kc6 kc7 kc8; refine wp_region_below (by kernel_rfl) (by kernel_rfl) ?_
                    repeat (go_big_quiet_step ((with_reducible refine bw_call (HX.out _ (some ad) c0 P0 A5 cc5 x.f4 who r (Kd.QaJ HRY.out (BW.ok _)) HCc.out (Kd.QaJ HQ.out (BW.ok _)) HL.out HH.out))))
                    refine wpQuiet_nil ?_; rintro _ ⟨u, rfl⟩; have HBu := Qak HW u.ok
                    go_wp2_with fail
                    go_ret; exact ⟨rfl, HBu⟩
                  · rw [if_neg e5] at hF
                    obtain rfl := Option.some.inj hF; have n3 : (((p.f3.length : Nat) : Int) == 1) = false := beq_eq_false_iff_ne.mpr (by omega); have n4 : (p.f3.length == 1) = false := beq_eq_false_iff_ne.mpr (by omega); have y5 := Qa4 p5; clear hF e5 hR2 p0 p1 p2 p3 p4 p5 kc0 kc1 kc2 kc3 kc4 kc5 kc6 kc7 kc8; refine wp_region_below (by kernel_rfl) (by kernel_rfl) ?_
                    repeat (go_big_quiet_step (fail))
                    refine wpQuiet_nil ?_; rintro _ ⟨u, rfl⟩; have HBu := Qak HW u.ok
                    go_wp2_with fail
                    go_ret; exact ⟨rfl, HBu⟩
                · rw [if_neg k2] at hF
                  have d4 : (x.f2 == 2) = false := beq_eq_false_iff_ne.mpr k2; clear k2
                  by_cases e5 : p.f3.length = 2
                  · rw [if_pos e5] at hF
                    have n1 : 0 < p.f3.length := by omega
                    have n2 : (0 : Int) < (p.f3.length : Int) := by omega
                    have n3 : 1 < p.f3.length := by omega
                    have n4 : (1 : Int) < (p.f3.length : Int) := by omega
                    have n5 : (((p.f3.length : Nat) : Int) == 2) = true := beq_iff_eq.mpr (by omega); have n6 : (p.f3.length == 2) = true := beq_iff_eq.mpr (by omega)
                    have n7 : (((p.f3.length : Nat) : Int) != 2) = false := by simp; omega
                    have n8 : (p.f3.length != 2) = false := by simp; omega
                    obtain ⟨ad1, A5, cc5, hA, ⟨q0, q1, q2, q3, q4, q5⟩, ql, qR⟩ := part0 hR2 (by omega); obtain rfl := hA; obtain ⟨B5, dd5, ⟨s0, s1, s2, s3, s4, s5⟩, ⟨s6, s7, s8, s9, s10⟩, sl, sR⟩ := part1 hR2 (by omega)
                    obtain ⟨P0, hP0⟩ : ∃ P0, P0 = pt p 0 := ⟨_, rfl⟩
                    obtain ⟨P1, hP1⟩ : ∃ P1, P1 = pt p 1 := ⟨_, rfl⟩
                    rw [← hP0] at q0 q1 q2 q3 q4 q5 ql qR; rw [← hP1] at s0 s6 s7 s8 s9 s10 sl sR
                    by_cases k4 : x.f2 = 4
                    · rw [if_pos k4, ← hP0, ← hP1] at hF
                      have d5 : (x.f2 == 4) = true := beq_iff_eq.mpr k4; obtain ⟨b1, h1, hF⟩ := Option.bind_eq_some_iff.mp hF; clear k4 hP0 hP1
                      go_upto_region 17 with fail
                      clear d3 d4 d5; have t0 := Qa4 q0; have t1 := Qa4 q1; have t2 := Qa4 q2; have t3 := Qa4 q3; have t4 := Qa4 q4; have t5 := Qa4 q5; have v0 := Qa4 s0; have v6 := Qa4 s6; have v7 := Qa4 s7; have v8 := Qa4 s8; have v9 := Qa4 s9; have v10 := Qa4 s10; have y5 := Qa4 p5; have z5 := Qa4 kc5; have z6 := Qa4 kc6; have z7 := Qa4 kc7; have z8 := Qa4 kc8; have HRY := Lib.hid (Kd.QaJ HRc.out HW); have HQ := Lib.hid qR; have HL := Lib.hid ql; have HS := Lib.hid sR; have HM := Lib.hid sl; have H0 := Lib.hid h1; clear h1; clear qR ql sR sl e5 hR2 q0 q1 q2 q3 q4 q5 s0 s1 s2 s3 s4 s5 s6 s7 s8 s9 s10 p0 p1 p2 p3 p4 p5 kc0 kc1 kc2 kc3 kc4 kc5 kc6 kc7 kc8; cases b1
                      · rw [if_neg (by decide)] at hF
                        obtain rfl := Option.some.inj hF; clear hF; refine wp_region_below (by kernel_rfl) (by kernel_rfl) ?_
                        repeat (go_big_quiet_step ((with_reducible refine bw_call (HX.out _ (some ad) c0 P0 A5 cc5 x.f4 who false (Kd.QaJ HRY.out (BW.ok _)) HCc.out (Kd.QaJ HQ.out (BW.ok _)) HL.out H0.out))))
                        refine wpQuiet_nil ?_; rintro _ ⟨u, rfl⟩; have HBu := Qak HW u.ok
                        go_wp2_with fail
                        go_ret; exact ⟨rfl, HBu⟩
                      · rw [if_pos rfl] at hF
                        have H1 := Lib.hid hF; clear hF; refine wp_region_below (by kernel_rfl) (by kernel_rfl) ?_
                        repeat (go_big_quiet_step (first | (with_reducible refine bw_call (HX.out _ (some ad) c0 P0 A5 cc5 x.f4 who true (Kd.QaJ HRY.out (BW.ok _)) HCc.out (Kd.QaJ HQ.out (BW.ok _)) HL.out H0.out)) | (with_reducible refine bw_call (HX.out _ (some ad) c0 P1 B5 dd5 x.f5 who r (Kd.QaJ HRY.out (BW.ok _)) HCc.out (Kd.QaJ HS.out (BW.ok _)) HM.out H1.out))))
                        refine wpQuiet_nil ?_; rintro _ ⟨u, rfl⟩; have HBu := Qak HW u.ok
                        go_wp2_with fail
                        go_ret; exact ⟨rfl, HBu⟩
                    · rw [if_neg k4] at hF
                      have d5 : (x.f2 == 4) = false := beq_eq_false_iff_ne.mpr k4; unfold ofLink at hF; rw [← hP0, ← hP1] at hF; obtain ⟨n, hn, hF⟩ := Option.bind_eq_some_iff.mp hF; have HN := Lib.hid hn; have HH := Lib.hid hF; clear k4 hP0 hP1 hn hF
                      go_upto_region 19 with fail
                      clear d3 d4 d5; have t0 := Qa4 q0; have t1 := Qa4 q1; have t2 := Qa4 q2; have t3 := Qa4 q3; have t4 := Qa4 q4; have t5 := Qa4 q5; have v0 := Qa4 s0; have v6 := Qa4 s6; have v7 := Qa4 s7; have v8 := Qa4 s8; have v9 := Qa4 s9; have v10 := Qa4 s10; have y5 := Qa4 p5; have z0 := Qa4 kc0; have z1 := Qa4 kc1; have z2 := Qa4 kc2; have z3 := Qa4 kc3; have z4 := Qa4 kc4; have z5 := Qa4 kc5; have z6 := Qa4 kc6; have z7 := Qa4 kc7; have z8 := Qa4 kc8; have HRY := Lib.hid (Kd.QaJ HRc.out HW); have HQ := Lib.hid qR; have HL := Lib.hid ql; have HS := Lib.hid sR; have HM := Lib.hid sl; clear qR ql sR sl e5 hR2 q0 q1 q2 q3 q4 q5 s0 s1 s2 s3 s4 s5 s6 s7 s8 s9 s10 p0 p1 p2 p3 p4 p5 kc0 kc1 kc2 kc3 kc4 kc5 kc6 kc7 kc8
                      by_cases e6 : n > 0
                      · have hF := HH.out
                        rw [if_pos e6] at hF; have f1 : decide (0 < n) = true := decide_eq_true e6; have f2 : 0 < n := e6; obtain ⟨ff, hff, hF⟩ := Option.bind_eq_some_iff.mp hF; obtain ⟨b1, h1, hF⟩ := Option.bind_eq_some_iff.mp hF; have HFF := Lib.hid hff; have H0 := Lib.hid h1; clear hff h1 HH e6; cases b1
                        · rw [if_neg (by decide)] at hF
                          obtain rfl := Option.some.inj hF; clear hF; refine wp_region_below (by kernel_rfl) (by kernel_rfl) ?_
                          repeat (go_big_quiet_step (first | (with_reducible refine bw_call (refNumber_below _ _ _ HN.out)) | (with_reducible refine bw_call (liveryref06_First.calls 20 _ _ _ _ _ _ _ _ _ _ _ _ HFF.out)) | (with_reducible refine bw_call (HX.out _ (some ad) c0 P0 A5 cc5 ⟨ff.1, ff.2⟩ P0.f1 false (Kd.QaJ HRY.out (BW.ok _)) HCc.out (Kd.QaJ HQ.out (BW.ok _)) HL.out H0.out))))
                          refine wpQuiet_nil ?_; rintro _ ⟨u, rfl⟩; have HBu := Qak HW u.ok
                          go_wp2_with fail
                          go_ret; exact ⟨rfl, HBu⟩
                        · rw [if_pos rfl] at hF
                          have H1 := Lib.hid hF; clear hF; refine wp_region_below (by kernel_rfl) (by kernel_rfl) ?_
                          repeat (go_big_quiet_step (first | (with_reducible refine bw_call (refNumber_below _ _ _ HN.out)) | (with_reducible refine bw_call (liveryref06_First.calls 20 _ _ _ _ _ _ _ _ _ _ _ _ HFF.out)) | (with_reducible refine bw_call (HX.out _ (some ad) c0 P0 A5 cc5 ⟨ff.1, ff.2⟩ P0.f1 true (Kd.QaJ HRY.out (BW.ok _)) HCc.out (Kd.QaJ HQ.out (BW.ok _)) HL.out H0.out)) | (with_reducible refine bw_call (HX.out _ (some ad) c0 P1 B5 dd5 ⟨P0.f1, x.f5.f1⟩ who r (Kd.QaJ HRY.out (BW.ok _)) HCc.out (Kd.QaJ HS.out (BW.ok _)) HM.out H1.out))))
                          refine wpQuiet_nil ?_; rintro _ ⟨u, rfl⟩; have HBu := Qak HW u.ok
                          go_wp2_with fail
                          go_ret; exact ⟨rfl, HBu⟩
                      · have hF := HH.out
                        rw [if_neg e6] at hF; obtain rfl := Option.some.inj hF; have f1 : decide (0 < n) = false := decide_eq_false e6; clear hF HH e6; refine wp_region_below (by kernel_rfl) (by kernel_rfl) ?_
                        repeat (go_big_quiet_step (with_reducible refine bw_call (refNumber_below _ _ _ HN.out)))
                        refine wpQuiet_nil ?_; rintro _ ⟨u, rfl⟩; have HBu := Qak HW u.ok
                        go_wp2_with fail
                        go_ret; exact ⟨rfl, HBu⟩
                  · rw [if_neg e5] at hF
                    obtain rfl := Option.some.inj hF
                    have n7 : (((p.f3.length : Nat) : Int) != 2) = true := by simp; omega
                    have n8 : (p.f3.length != 2) = true := by simp; omega
                    clear hF hR2; go_wp2; go_ret; exact ⟨rfl, HW⟩
            · have hF := HF.out
              rw [if_neg e4] at hF; obtain rfl := Option.some.inj hF; have hb4 := neRole_t e4; clear e4 HF hF; refine wp_region_below (by kernel_rfl) (by kernel_rfl) ?_
              repeat (go_big_quiet_step (with_reducible refine bw_call (liveryref05_Role.calls 20 _ _ _ _ _ _ _ _ _ _ _ _ HRR.out)))
              refine wpQuiet_nil ?_; rintro _ ⟨u, rfl⟩; have HW := Qak HWX.out u.ok; have BX := Qal HBX.out u.ok; have BP := Qal HBP.out u.ok; clear g0 g1 g2 g3 g4 g5 g6 g7 g8 s0 s1 HWX HBX HBP HBR
              generalize u.now = Y at HW BX BP ⊢
              clear u; go_wp2; go_ret; exact ⟨rfl, HW⟩
          · have hF := HF.out
            rw [decide_eq_false e3] at hF; have hb3 := neID_t e3; have HF := Lib.hid (show ofAt F (cs.drop (i + 1)) p role who = some r from hF); clear e3 hF; go_wp2
            go_roundg (cs.length + 1 - (i + 1))
            case measure => have := HKq.out; have := HIL.out; omega
            case rel => exact ⟨i + 1, by first | rfl | exact congrArg _ wrapI, Lib.hid rfl, Lib.hid HIL.out, HF, HBP, HBR, HWX⟩
        · have d1 : decide ((i : Int) < (cs.length : Int)) = false := decide_eq_false (by omega)
          have d2 : decide (i < cs.length) = false := decide_eq_false hi; have hF := HF.out; unfold ofAt at hF; rw [List.drop_eq_nil_of_le (by omega)] at hF; obtain rfl := Option.some.inj hF; clear hF HF hi; go_wp2; go_ret; exact ⟨rfl, HW.out⟩
    · rw [if_neg e2] at h
      have hb2 := neStr_t e2; obtain rfl := Option.some.inj h; clear e2 h; go_wp2; go_ret; exact ⟨rfl, HB⟩
  · rw [if_neg e1] at h
    have hb1 := neRole_t e1; obtain rfl := Option.some.inj h; clear e1 h; go_wp2; go_ret; exact ⟨rfl, HB⟩
theorem of_calls {cs : List Cred} (hlen : cs.length ≤ 1000000) : ∀ k, Ofs (ofN cs k) cs
  | 0 => fun _ _ _ _ _ _ _ _ _ _ _ _ _ h => by cases h
  | k + 1 => of_step (of_calls hlen k) hlen
end Go.Proofs.YtmaipohgahdclaaDoor.Pr
end
section
namespace Go.Proofs.YtmaipohgahdclaaDoor.Pr
open Go.RowKit Go.Proofs.YtmaipohgahdclaaDoorW.PrintWords Go.Proofs.YtmaipohgahdclaaDoorW.PrintLast Go.Proofs.YtmaipohgahdclaaDoorW.PrintMore
attribute [local go_sem] max2_int min2_int max_two min_two Qbj Qbi max_four min_four
set_option linter.unusedVariables false
set_option linter.unusedSimpArgs false
def liveryref07_of.f (l0 : List (S44)) (a1_0 : ByteArray) (a1_1 : ByteArray) (a1_2 : ByteArray) (a1_3 : Int) (a1_4 : Int) (l1_5 : List (S29)) (a2_0 : ByteArray) (a2_1 : ByteArray) (a3 : ByteArray) : Option Bool := if l0.length ≤ 1000000 then ofN l0 200 ⟨⟨a1_0, a1_1⟩, a1_2, ⟨a1_3, a1_4⟩, l1_5⟩ ⟨a2_0, a2_1⟩ a3 else none
theorem liveryref07_of.calls (A0 : Option Addr) (c0 : Nat) (l0 : List (S44)) (a1_0 : ByteArray) (a1_1 : ByteArray) (a1_2 : ByteArray) (a1_3 : Int) (a1_4 : Int) (A1_5 : Option Addr) (c1_5 : Nat) (l1_5 : List (S29)) (a2_0 : ByteArray) (a2_1 : ByteArray) (a3 : ByteArray) (r : Bool) (w : World) (hr0 : Kd.C k44 w A0 l0.length l0) (hc0 : l0.length ≤ c0) (hr1_5 : Kd.C k29 w A1_5 l1_5.length l1_5) (hc1_5 : l1_5.length ≤ c1_5) (h : liveryref07_of.f l0 a1_0 a1_1 a1_2 a1_3 a1_4 l1_5 a2_0 a2_1 a3 = some r) :
    Calls Tryd.prog 27 #[.slice A0 l0.length c0, .agg #[.string a1_0, .string a1_1, .string a1_2, .int .i64 a1_3, .int .i64 a1_4, .slice A1_5 l1_5.length c1_5], .agg #[.string a2_0, .string a2_1], .string a3] w fun e w' => e = .returned (.bool r) ∧ Below w.heap.size w w' := by
  unfold liveryref07_of.f at h
  by_cases hl : l0.length ≤ 1000000
  · rw [if_pos hl] at h
    exact of_calls hl 200 w A0 c0 ⟨⟨a1_0, a1_1⟩, a1_2, ⟨a1_3, a1_4⟩, l1_5⟩ A1_5 c1_5 ⟨a2_0, a2_1⟩ a3 r hr0 hc0 hr1_5 hc1_5 h
  · rw [if_neg hl] at h
    cases h
end Go.Proofs.YtmaipohgahdclaaDoor.Pr
end
section
namespace Go.Proofs.YtmaipohgahdclaaDoor.Pr
open Go.RowKit Go.Proofs.YtmaipohgahdclaaDoorW.PrintWords Go.Proofs.YtmaipohgahdclaaDoorW.PrintLast Go.Proofs.YtmaipohgahdclaaDoorW.PrintMore
attribute [local go_sem] max2_int min2_int max_two min_two Qbj Qbi max_four min_four
set_option linter.unusedVariables false
set_option linter.unusedSimpArgs false
attribute [local go_sem high] eqA26
def QaY.l0 : Nat → List (S26) → List (S26) → Int → Option (Bool)
 | 0, _, _, _ => none
 | k + 1, x0, x1, x5 => if x5 < (x0.length : Int) then (if 0 ≤ x5 then (if x5 < (x1.length : Int) then (if (!(((QaA x0 x5).f0) == ((QaA x1 x5).f0)) || (!(((QaA x0 x5).f1) == ((QaA x1 x5).f1)))) = true then (some false) else (QaY.l0 k x0 x1 (wrap64 (x5 + 1)))) else (none)) else (none)) else (some true)
def QaY.f (k : Nat) (l0 : List (S26)) (l1 : List (S26)) : Option (Bool) := if (l0.length : Int) = (l1.length : Int) then (QaY.l0 k l0 l1 0) else (some false)
set_option maxHeartbeats 8000000 in
set_option maxRecDepth 100000 in
theorem QaY.calls (k : Nat) (A0 : Option Addr) (c0 : Nat) (l0 : List (S26)) (A1 : Option Addr) (c1 : Nat) (l1 : List (S26)) (r : Bool) (w : World) (hr0 : Kd.C k26 w A0 l0.length l0) (hc0 : l0.length ≤ c0) (hr1 : Kd.C k26 w A1 l1.length l1) (hc1 : l1.length ≤ c1) (h : QaY.f k l0 l1 = some r) :
  Calls Tryd.prog 13 #[.slice A0 l0.length c0, .slice A1 l1.length c1] w fun e w' => e = .returned (.bool r) ∧ Drawn0 w w' := by
 have hu26 := Tryd.underlying26; have HR0 := Qab.mk hr0; have HC0 := Qab.mk hc0; clear hr0 hc0; have HR1 := Qab.mk hr1; have HC1 := Qab.mk hc1; clear hr1 hc1; have H : (if (l0.length : Int) = (l1.length : Int) then (QaY.l0 k l0 l1 0) else (some false)) = some r := h; clear h
 by_cases c3 : (l0.length : Int) = (l1.length : Int)
 ·rw [if_pos c3] at H; have c3b0 : ((l0.length : Int) == (l1.length : Int)) = true := beq_iff_eq.mpr c3; have c3b1 : ((l0.length : Int) != (l1.length : Int)) = false := bne_eq_false_iff_eq.mpr c3
  have c3b2 : (l0.length == l1.length) = true := by first | simpa using c3 | (simp at c3 ⊢; omega)
  clear c3; have H' := Qab.mk H; clear H; go_enter Tryd.func13, Tryd.ntmps13; go_wp2
  repeat (go_quiet (fail); try go_wp2)
  go_loopg [5] k (fun kq v5 w' => ∃ (x5_1 : Int), v5 = .int .i64 x5_1 ∧ Qab (QaY.l0 kq l0 l1 x5_1 = some r) ∧ Qab (kq ≤ k) ∧ Drawn0 w w')
  case atStart => exact ⟨(0), (by first | rfl | (simp; done) | (simp [*]; done)), H', ⟨Nat.le_refl _⟩, by repeat (first | exact Drawn0.refl _ | apply Drawn0.step)⟩
  case round =>
   clear H'; (try clear c1); (try clear p2); (try clear c3); (try clear c3b0); (try clear c3b1); (try clear c3b2); obtain ⟨x5_1, rfl, HA, HK1, ⟨m1, rfl⟩⟩ := hrel
   cases gk with
   | zero => exact absurd HA.out (by simp [QaY.l0])
   | succ k1 =>
    have H := HA.out; clear HA; simp only [QaY.l0] at H
    by_cases c4 : x5_1 < (l0.length : Int)
    ·rw [if_pos c4] at H; have c4b0 : decide (x5_1 < (l0.length : Int)) = true := decide_eq_true c4; clear c4
     by_cases c5 : 0 ≤ x5_1
     ·rw [if_pos c5] at H; have c5b0 : decide (0 ≤ x5_1) = true := decide_eq_true c5; clear c5
      by_cases c6 : x5_1 < (l1.length : Int)
      ·rw [if_pos c6] at H; have c6b0 : decide (x5_1 < (l1.length : Int)) = true := decide_eq_true c6; clear c6
       by_cases c7 : (!(((QaA l0 x5_1).f0) == ((QaA l1 x5_1).f0)) || (!(((QaA l0 x5_1).f1) == ((QaA l1 x5_1).f1)))) = true
       ·rw [if_pos c7] at H; have c7b0 : (!(((QaA l0 x5_1).f0) == ((QaA l1 x5_1).f0)) || (!(((QaA l0 x5_1).f1) == ((QaA l1 x5_1).f1)))) = true := c7; clear c7; obtain rfl := Option.some.inj H; have p101 : 0 ≤ (x5_1 : Int) := of_decide_eq_true (by first | (with_reducible assumption) | assumption); have q101 : x5_1 < (l0.length : Int) := of_decide_eq_true (by first | (with_reducible assumption) | assumption); obtain ⟨ad101, e101, hx101_0, hx101_1⟩ := at_T26 HR0.out x5_1 p101 q101; cases e101; replace p101 := eq_true p101; replace q101 := eq_true q101; have p102 : 0 ≤ (x5_1 : Int) := of_decide_eq_true (by first | (with_reducible assumption) | assumption); have q102 : x5_1 < (l1.length : Int) := of_decide_eq_true (by first | (with_reducible assumption) | assumption); obtain ⟨ad102, e102, hx102_0, hx102_1⟩ := at_T26 HR1.out x5_1 p102 q102; cases e102; replace p102 := eq_true p102; replace q102 := eq_true q102; go_wp2
        repeat (go_quiet (fail); try go_wp2)
        go_ret; exact ⟨by first | rfl | (simp; done) | (simp [*]; done), by repeat (first | exact Drawn0.refl _ | apply Drawn0.step)⟩
       ·rw [if_neg c7] at H
        have c7b0 : (!(((QaA l0 x5_1).f0) == ((QaA l1 x5_1).f0)) || (!(((QaA l0 x5_1).f1) == ((QaA l1 x5_1).f1)))) = false := by simpa using c7
        clear c7; have H' := Qab.mk H; clear H; have p101 : 0 ≤ (x5_1 : Int) := of_decide_eq_true (by first | (with_reducible assumption) | assumption); have q101 : x5_1 < (l0.length : Int) := of_decide_eq_true (by first | (with_reducible assumption) | assumption); obtain ⟨ad101, e101, hx101_0, hx101_1⟩ := at_T26 HR0.out x5_1 p101 q101; cases e101; replace p101 := eq_true p101; replace q101 := eq_true q101; have p102 : 0 ≤ (x5_1 : Int) := of_decide_eq_true (by first | (with_reducible assumption) | assumption); have q102 : x5_1 < (l1.length : Int) := of_decide_eq_true (by first | (with_reducible assumption) | assumption); obtain ⟨ad102, e102, hx102_0, hx102_1⟩ := at_T26 HR1.out x5_1 p102 q102; cases e102; replace p102 := eq_true p102; replace q102 := eq_true q102; go_wp2
        repeat (go_quiet (fail); try go_wp2)
        go_roundg k1
        case measure => have := HK1.out; omega
        case rel => exact ⟨(wrap64 (x5_1 + 1)), (by first | rfl | (simp; done) | (simp [*]; done)), H', ⟨by have := HK1.out; omega⟩, by repeat (first | exact Drawn0.refl _ | apply Drawn0.step)⟩
      ·rw [if_neg c6] at H; exact absurd H (by simp)
     ·rw [if_neg c5] at H; exact absurd H (by simp)
    ·rw [if_neg c4] at H; have c4b0 : decide (x5_1 < (l0.length : Int)) = false := decide_eq_false c4; clear c4; obtain rfl := Option.some.inj H; go_wp2
     repeat (go_quiet (fail); try go_wp2)
     go_ret; exact ⟨by first | rfl | (simp; done) | (simp [*]; done), by repeat (first | exact Drawn0.refl _ | apply Drawn0.step)⟩
 ·rw [if_neg c3] at H; have c3b0 : ((l0.length : Int) == (l1.length : Int)) = false := beq_eq_false_iff_ne.mpr c3; have c3b1 : ((l0.length : Int) != (l1.length : Int)) = true := bne_iff_ne.mpr c3
  have c3b2 : (l0.length == l1.length) = false := by first | simpa using c3 | (simp at c3 ⊢; omega)
  obtain rfl := Option.some.inj H; go_enter Tryd.func13, Tryd.ntmps13; go_wp2
  repeat (go_quiet (fail); try go_wp2)
  go_ret; exact ⟨by first | rfl | (simp; done) | (simp [*]; done), by repeat (first | exact Drawn0.refl _ | apply Drawn0.step)⟩
end Go.Proofs.YtmaipohgahdclaaDoor.Pr
end
section
namespace Go.Proofs.YtmaipohgahdclaaDoor.Pr
open Go.RowKit Go.Proofs.YtmaipohgahdclaaDoorW.PrintWords Go.Proofs.YtmaipohgahdclaaDoorW.PrintLast Go.Proofs.YtmaipohgahdclaaDoorW.PrintMore
attribute [local go_sem] max2_int min2_int max_two min_two Qbj Qbi max_four min_four
set_option linter.unusedVariables false
set_option linter.unusedSimpArgs false
mutual
def Qbe.l0 : Nat → List (S26) → Int → ByteArray → ByteArray → ByteArray → Int → Int → List (S29) → Option ((List (S26)))
 | 0, _, _, _, _, _, _, _, _ => none
 | k + 1, x3, x4, x102000, x102001, x102002, x102003, x102004, x102005 => if x4 < (x102005.length : Int) then (if 0 ≤ x4 then ((Qbe.f k ((Qat x102005 x4).f0.f0) ((Qat x102005 x4).f0.f1) ((Qat x102005 x4).f1) ((Qat x102005 x4).f2.f0) ((Qat x102005 x4).f2.f1) ((Qat x102005 x4).f3)).bind fun t106 => (if x3.length + t106.length < 8796093022208 then (Qbe.l0 k (x3 ++ t106) (wrap64 (x4 + 1)) x102000 x102001 x102002 x102003 x102004 x102005) else (none))) else (none)) else (some x3)
def Qbe.f : Nat → ByteArray → ByteArray → ByteArray → Int → Int → List (S29) → Option ((List (S26)))
 | 0, _, _, _, _, _, _ => none
 | k + 1, a0_0, a0_1, a0_2, a0_3, a0_4, l0_5 => Qbe.l0 k (([(⟨a0_3, a0_4⟩ : S26)] : List (S26))) 0 a0_0 a0_1 a0_2 a0_3 a0_4 l0_5
end
set_option maxHeartbeats 8000000 in
set_option maxRecDepth 100000 in
theorem Qbe.calls (k : Nat) : ∀ (a0_0 : ByteArray) (a0_1 : ByteArray) (a0_2 : ByteArray) (a0_3 : Int) (a0_4 : Int) (A0_5 : Option Addr) (c0_5 : Nat) (l0_5 : List (S29)) (r : List (S26)) (w : World) (hr0_5 : Kd.C k29 w A0_5 l0_5.length l0_5) (hc0_5 : l0_5.length ≤ c0_5) (h : Qbe.f k a0_0 a0_1 a0_2 a0_3 a0_4 l0_5 = some r),
  Calls Tryd.prog 33 #[.agg #[.string a0_0, .string a0_1, .string a0_2, .int .i64 a0_3, .int .i64 a0_4, .slice A0_5 l0_5.length c0_5]] w fun e w' => ∃ v0_ : Value, e = .returned (v0_) ∧ Kd.R k26 26 w' w.heap.size (fun _ => True) v0_ r ∧ Below w.heap.size w w' := by
 induction k using Nat.strongRecOn with
 | _ k ih =>
 intro a0_0 a0_1 a0_2 a0_3 a0_4 A0_5 c0_5 l0_5 r w hr0_5 hc0_5 h
 cases k with
 | zero => exact absurd h (by simp [Qbe.f])
 | succ k =>
 simp only [Qbe.f] at h; have hu29 := Tryd.underlying29; have hu26 := Tryd.underlying26; have HR0_5 := Qab.mk hr0_5; have HC0_5 := Qab.mk hc0_5; clear hr0_5 hc0_5; have HB := Qab.mk (Below.refl w.heap.size w); have H : (Qbe.l0 k (([(⟨a0_3, a0_4⟩ : S26)] : List (S26))) 0 a0_0 a0_1 a0_2 a0_3 a0_4 l0_5) = some r := h; clear h
 obtain ⟨y102, hy102⟩ : ∃ y_ : List (S26), y_ = (([(⟨a0_3, a0_4⟩ : S26)] : List (S26))) := ⟨_, rfl⟩
 replace H : (Qbe.l0 k y102 0 a0_0 a0_1 a0_2 a0_3 a0_4 l0_5) = some r := by first | (rw [hy102]; with_reducible exact H) | (have H2_ := (Option.bind_some _ _).symm.trans H; rw [hy102]; with_reducible exact H2_) | (have H2_ := (Option.bind_some _ _).symm.trans H; with_reducible exact H2_) | with_reducible exact H | (rw [hy102]; exact H) | exact H
 have Ny102 := Qab.mk hy102; clear hy102; have H' := Qab.mk H; clear H; go_enter Tryd.func33, Tryd.ntmps33
 go_wp2_with (first | ((with_reducible refine Qa2 (N := 1) rfl ?_); refine QaV ?hg (N := 1) ?hd (cs := #[.string a0_0, .string a0_1, .string a0_2, .int .i64 a0_3, .int .i64 a0_4, .slice A0_5 l0_5.length c0_5]) (t := 29) ?hr ?_; (case hd => rfl); (case hg => rfl); (case hr => first | (go_simp; done) | (go_simp; rfl)); intro gb101 hg w2 hbox hb; have n0_ := Qab.mk (Qak (by repeat (first | (with_reducible first | exact HB.out | apply Qad | apply Qaa | apply Qac) | exact HB.out)) hb); have n1_ := Qab.mk (hbox); have n2_ := Qab.mk ((by rw [hg]; exact (Qar (by repeat (first | (with_reducible first | exact HB.out | apply Qad | apply Qaa | apply Qac) | exact HB.out))) : w.heap.size ≤ gb101)); have n3_ := n2_; clear HB; have HB := n0_; have BK101 := n1_; have GW101 := n2_; have GE101 := n3_; clear n0_ n1_ n2_ n3_; clear hb hbox hg; obtain ⟨hcz3_0, hcz3_1, hcz3_2, hcz3_3, hcz3_4, hcz3_5⟩ := QaZ BK101.out; obtain ⟨hfz3_0, hfz3_1, hfz3_2, hfz3_3, hfz3_4, hfz3_5⟩ := fz_6 BK101.out) | ((with_reducible refine Qa2 (N := 7) rfl ?_); refine Kd.R_lit k26 _ 26 ?hg (N := 7) ?hd (xs := ([(⟨a0_3, a0_4⟩ : S26)] : List (S26))) (inner := [.int .i64 a0_3, .int .i64 a0_4]) (ok := fun _ => True) (okp := fun _ => True) ?hr ?hp (fun _ hk => hk) trivial (Below.refl _ _) (Nat.le_refl _) (by simp) ?_; (case hd => rfl); (case hg => rfl); (case hr => first | (go_simp; done) | (go_simp; rfl)); (case hp => exact (Reps.c2 (show Kd.M k26 _ _ _ (⟨a0_3, a0_4⟩ : S26) [.int .i64 a0_3, .int .i64 a0_4] from (k26_mkM _ _ _ (⟨a0_3, a0_4⟩ : S26) )) (Reps.none _ _))); intro v103 w4 ho5 hb hg_ hnew_; clear hg_ hnew_; (first | rw [← Ny102.out] at ho5 | (simp only [Int.reduceToNat] at ho5; rw [← Ny102.out] at ho5)); have n0_ := Qab.mk (Kd.R_lower ho5 (Qar (by repeat (first | (with_reducible first | exact HB.out | apply Qad | apply Qaa | apply Qac | refine Qah ?_ GE101.out) | exact HB.out)))); have n1_ := Qab.mk (Qal (g := gb101) (o := Qap a0_0 a0_1 a0_2 a0_3 a0_4 (.slice A0_5 l0_5.length c0_5) 29) (by (with_reducible repeat (first | refine Qag ?_ _ | refine Qai ?_ | refine Qae ?_ _)); exact BK101.out) hb); have n2_ := Qab.mk (Qak (by repeat (first | (with_reducible first | exact HB.out | apply Qad | apply Qaa | apply Qac | refine Qah ?_ GE101.out) | exact HB.out)) hb); clear BK101; clear HB; have HO104 := n0_; have BK101 := n1_; have HB := n2_; clear n0_ n1_ n2_; clear hb ho5))
 go_loopg [3, 4] k (fun kq v3 v4 w' => ∃ (x3_1 : List (S26)) (x4_1 : Int), v4 = .int .i64 x4_1 ∧ Qab (Qbe.l0 kq x3_1 x4_1 a0_0 a0_1 a0_2 a0_3 a0_4 l0_5 = some r) ∧ Qab (kq ≤ k) ∧ Qab (Kd.R k26 26 w' w.heap.size (fun _ => True) v3 x3_1) ∧ Qab (w'.heap[gb101]? = some (.cells #[.string a0_0, .string a0_1, .string a0_2, .int .i64 a0_3, .int .i64 a0_4, (.slice A0_5 l0_5.length c0_5)] 29 (0, 0))) ∧ Qab (Below w.heap.size w w'))
 case atStart => exact ⟨(y102), (0), (by first | rfl | (simp; done) | (simp [*]; done)), H', ⟨Nat.le_refl _⟩, ⟨by (with_reducible repeat (first | apply Kd.Qam | apply Kd.Qan | apply Kd.Qaq)); exact HO104.out⟩, ⟨by (with_reducible repeat (first | refine Qag ?_ _ | refine Qai ?_ | refine Qae ?_ _)); exact BK101.out⟩, ⟨by repeat (first | (with_reducible first | exact HB.out | apply Qad | apply Qaa | apply Qac | refine Qah ?_ GE101.out) | exact HB.out)⟩⟩
 case round =>
  clear H'; (try clear c2); (try clear p2); (try clear c3); (try clear hcz3_0); (try clear hcz3_1); (try clear hcz3_2); (try clear hcz3_3); (try clear hcz3_4); (try clear hcz3_5); (try clear hfz3_0); (try clear hfz3_1); (try clear hfz3_2); (try clear hfz3_3); (try clear hfz3_4); (try clear hfz3_5); obtain ⟨x3_1, x4_1, rfl, HA, HK1, HO_3, BK101, HB⟩ := hrel
  cases gk with
  | zero => exact absurd HA.out (by simp [Qbe.l0])
  | succ k1 =>
   have H := HA.out; clear HA; simp only [Qbe.l0] at H
   by_cases c6 : x4_1 < (l0_5.length : Int)
   ·rw [if_pos c6] at H; have c6b0 : decide (x4_1 < (l0_5.length : Int)) = true := decide_eq_true c6; clear c6
    by_cases c7 : 0 ≤ x4_1
    ·rw [if_pos c7] at H; have c7b0 : decide (0 ≤ x4_1) = true := decide_eq_true c7; clear c7; replace H := Option.bind_eq_some_iff.mp H; obtain ⟨t106, A80, H⟩ := H; replace H : (if x3_1.length + t106.length < 8796093022208 then (Qbe.l0 k1 (x3_1 ++ t106) (wrap64 (x4_1 + 1)) a0_0 a0_1 a0_2 a0_3 a0_4 l0_5) else (none)) = some r := H; have A8 := Qab.mk A80; clear A80
     by_cases c9 : x3_1.length + t106.length < 8796093022208
     ·rw [if_pos c9] at H; have LMc9 := Qab.mk c9; clear c9
      obtain ⟨y109, hy109⟩ : ∃ y_ : List (S26), y_ = (x3_1 ++ t106) := ⟨_, rfl⟩
      replace H : (Qbe.l0 k1 y109 (wrap64 (x4_1 + 1)) a0_0 a0_1 a0_2 a0_3 a0_4 l0_5) = some r := by first | (rw [hy109]; with_reducible exact H) | (have H2_ := (Option.bind_some _ _).symm.trans H; rw [hy109]; with_reducible exact H2_) | (have H2_ := (Option.bind_some _ _).symm.trans H; with_reducible exact H2_) | with_reducible exact H | (rw [hy109]; exact H) | exact H
      have Ny109 := Qab.mk hy109; clear hy109; have H' := Qab.mk H; clear H; have hcz10_0 : wr.cell? ⟨gb101, 0, none⟩ = some (.string a0_0) := (Qaj BK101.out 0).trans rfl; have hcz10_1 : wr.cell? ⟨gb101, 1, none⟩ = some (.string a0_1) := (Qaj BK101.out 1).trans rfl; have hcz10_2 : wr.cell? ⟨gb101, 2, none⟩ = some (.string a0_2) := (Qaj BK101.out 2).trans rfl; have hcz10_3 : wr.cell? ⟨gb101, 3, none⟩ = some (.int .i64 a0_3) := (Qaj BK101.out 3).trans rfl; have hcz10_4 : wr.cell? ⟨gb101, 4, none⟩ = some (.int .i64 a0_4) := (Qaj BK101.out 4).trans rfl; have hcz10_5 : wr.cell? ⟨gb101, 5, none⟩ = some (.slice A0_5 l0_5.length c0_5) := (Qaj BK101.out 5).trans rfl; obtain ⟨hfz10_0, hfz10_1, hfz10_2, hfz10_3, hfz10_4, hfz10_5⟩ := fz_6 BK101.out; have p105 : 0 ≤ (x4_1 : Int) := of_decide_eq_true (by first | (with_reducible assumption) | assumption); have q105 : x4_1 < (l0_5.length : Int) := of_decide_eq_true (by first | (with_reducible assumption) | assumption); obtain ⟨ad105, A105_5, c105_5, e105, hx105_0, hx105_1, hx105_2, hx105_3, hx105_4, hx105_5, hl105_5, hi105_5⟩ := at_T29 HR0_5.out x4_1 p105 q105; cases e105; replace hx105_0 := (HB.out.cell (World.block_lt_of_cell? w _ hx105_0)).trans hx105_0; replace hx105_1 := (HB.out.cell (World.block_lt_of_cell? w _ hx105_1)).trans hx105_1; replace hx105_2 := (HB.out.cell (World.block_lt_of_cell? w _ hx105_2)).trans hx105_2
      replace hx105_3 := (HB.out.cell (World.block_lt_of_cell? w _ hx105_3)).trans hx105_3; replace hx105_4 := (HB.out.cell (World.block_lt_of_cell? w _ hx105_4)).trans hx105_4; replace hx105_5 := (HB.out.cell (World.block_lt_of_cell? w _ hx105_5)).trans hx105_5; have HR105_5 := Qab.mk hi105_5; have HC105_5 := Qab.mk hl105_5; clear hi105_5 hl105_5; replace p105 := eq_true p105; replace q105 := eq_true q105
      go_wp2_with (first | ((with_reducible refine QaT (f := 33) rfl ?_); refine goesL_ (some 21) rfl rfl Tryd.func33 (by kernel_rfl) rfl #[.agg #[.string ((Qat l0_5 x4_1).f0.f0), .string ((Qat l0_5 x4_1).f0.f1), .string ((Qat l0_5 x4_1).f1), .int .i64 ((Qat l0_5 x4_1).f2.f0), .int .i64 ((Qat l0_5 x4_1).f2.f1), .slice A105_5 ((Qat l0_5 x4_1).f3).length c105_5]] rfl (by (try simp only [List.map_toArray, List.map_cons, List.map_nil]); first | done | rfl | (simp only [List.length_drop, List.length_take]; rfl)) ?_; (with_reducible refine (ih k1 (by have := HK1.out; omega) ((Qat l0_5 x4_1).f0.f0) ((Qat l0_5 x4_1).f0.f1) ((Qat l0_5 x4_1).f1) ((Qat l0_5 x4_1).f2.f0) ((Qat l0_5 x4_1).f2.f1) _ _ ((Qat l0_5 x4_1).f3) t106 _ ?side1 ?side2 A8.out).mono ?_); (case side1 => repeat (first | exact (Kd.QaJ HR105_5.out HB.out) | (with_reducible refine Kd.QaF ?_ _) | (with_reducible refine Kd.QaH ?_ _) | (with_reducible refine Kd.QaW ?_))); (case side2 => exact HC105_5.out); rintro e w11 ⟨v107, rfl, ho0, hb⟩; refine ⟨_, rfl, ?_⟩; have n0_ := Qab.mk (Kd.R_elder' (by (with_reducible repeat (first | apply Kd.Qam | apply Kd.Qan | apply Kd.Qaq)); exact HO_3.out) (Kd.R_base ho0) hb); have n1_ := Qab.mk (Kd.R_lower (Kd.R_new' ho0 (Kd.R_lt (by (with_reducible repeat (first | apply Kd.Qam | apply Kd.Qan | apply Kd.Qaq)); exact HO_3.out))) (Qar (by repeat (first | (with_reducible first | exact HB.out | apply Qad | apply Qaa | apply Qac | refine Qah ?_ GE101.out) | exact HB.out)))); have n2_ := Qab.mk (Qal (g := gb101) (o := Qap a0_0 a0_1 a0_2 a0_3 a0_4 (.slice (some ad105) l0_5.length c0_5) 29) (by (with_reducible repeat (first | refine Qag ?_ _ | refine Qai ?_ | refine Qae ?_ _)); exact BK101.out) hb); have n3_ := Qab.mk (Qak (by repeat (first | (with_reducible first | exact HB.out | apply Qad | apply Qaa | apply Qac | refine Qah ?_ GE101.out) | exact HB.out)) hb); clear HO_3; clear BK101; clear HB; have HO_3 := n0_; have HO108 := n1_; have BK101 := n2_; have HB := n3_; clear n0_ n1_ n2_ n3_; (try clear hb); (try clear hb2); (try clear hk); (try clear hi); (try clear ho0); obtain ⟨Ao13, co13, eo13⟩ := Kd.R_slice HO108.out; subst eo13) | ((with_reducible refine Qbg (b := .append) (xs := #[.tmp 15, .tmp 21]) rfl ?_); at_builtin; refine Kd.R_append_rows k26 (w0 := w) w.heap.size rfl (.tmp 15) (.tmp 21) 37 26 (.agg #[(.int .i64 0), (.int .i64 0)]) 16 rfl Tryd.underlying37 info26 rfl (by decide) (by omega) u3 x3_1 t106 _ _ _ (fun k_ => some k_ ≠ (.slice Ao13 t106.length co13 : Value).ownBlock) (fun _ => False) rfl rfl ?aO ?aR (fun _ _ h => h) (fun _ h => h.elim) ?aF ?aB ?aS ?aL ?_; (case aR => repeat (first | exact (Kd.QaX HO108.out).2.2 | (with_reducible refine Kd.QaF ?_ _) | (with_reducible refine Kd.QaH ?_ _) | (with_reducible refine Kd.QaW ?_))); (case aB => exact (by repeat (first | (with_reducible first | exact HB.out | apply Qad | apply Qaa | apply Qac | refine Qah ?_ GE101.out) | exact HB.out))); (case aF => exact (fun k_ hk => Kd.fresh' (Kd.R_lt (by (with_reducible repeat (first | apply Kd.Qam | apply Kd.Qan | apply Kd.Qaq)); exact HO108.out)) k_ hk)); (case aO => exact (by (with_reducible repeat (first | apply Kd.Qam | apply Kd.Qan | apply Kd.Qaq)); exact Kd.R_mono HO_3.out (fun _ hk => hk.2))); (case aS => exact (Qar (by repeat (first | (with_reducible first | exact HB.out | apply Qad | apply Qaa | apply Qac | refine Qah ?_ GE101.out) | exact HB.out)))); (case aL => have := LMc9.out; omega); intro v110 w12 ho hb hg hat; rw [← Ny109.out] at ho; have n0_ := Qab.mk (blk_grown (g := gb101) (o := Qap a0_0 a0_1 a0_2 a0_3 a0_4 (.slice (some ad105) l0_5.length c0_5) 29) (by (with_reducible repeat (first | refine Qag ?_ _ | refine Qai ?_ | refine Qae ?_ _)); exact BK101.out) hg (Kd.R_ne HO_3.out BK101.out (by decide))); have n1_ := Qab.mk (Kd.R_after (ok := (fun _ => True)) (by (with_reducible repeat (first | apply Kd.Qam | apply Kd.Qan | apply Kd.Qaq)); exact HO108.out) hg hat); have n2_ := Qab.mk (hb); have n3_ := Qab.mk (ho); clear BK101; clear HO108; clear HB; clear HO_3; have BK101 := n0_; have HO108 := n1_; have HB := n2_; have HO111 := n3_; clear n0_ n1_ n2_ n3_; clear ho hb hg hat))
      go_roundg k1
      case measure => have := HK1.out; omega
      case rel => exact ⟨(y109), (wrap64 (x4_1 + 1)), (by first | rfl | (simp; done) | (simp [*]; done)), H', ⟨by have := HK1.out; omega⟩, ⟨by (with_reducible repeat (first | apply Kd.Qam | apply Kd.Qan | apply Kd.Qaq)); exact Kd.R_mono HO111.out (fun _ hk => trivial)⟩, ⟨by (with_reducible repeat (first | refine Qag ?_ _ | refine Qai ?_ | refine Qae ?_ _)); exact BK101.out⟩, ⟨by repeat (first | (with_reducible first | exact HB.out | apply Qad | apply Qaa | apply Qac | refine Qah ?_ GE101.out) | exact HB.out)⟩⟩
     ·rw [if_neg c9] at H; exact absurd H (by simp)
    ·rw [if_neg c7] at H; exact absurd H (by simp)
   ·rw [if_neg c6] at H; have c6b0 : decide (x4_1 < (l0_5.length : Int)) = false := decide_eq_false c6; clear c6; obtain rfl := Option.some.inj H; have hcz14_0 : wr.cell? ⟨gb101, 0, none⟩ = some (.string a0_0) := (Qaj BK101.out 0).trans rfl; have hcz14_1 : wr.cell? ⟨gb101, 1, none⟩ = some (.string a0_1) := (Qaj BK101.out 1).trans rfl; have hcz14_2 : wr.cell? ⟨gb101, 2, none⟩ = some (.string a0_2) := (Qaj BK101.out 2).trans rfl; have hcz14_3 : wr.cell? ⟨gb101, 3, none⟩ = some (.int .i64 a0_3) := (Qaj BK101.out 3).trans rfl; have hcz14_4 : wr.cell? ⟨gb101, 4, none⟩ = some (.int .i64 a0_4) := (Qaj BK101.out 4).trans rfl; have hcz14_5 : wr.cell? ⟨gb101, 5, none⟩ = some (.slice A0_5 l0_5.length c0_5) := (Qaj BK101.out 5).trans rfl; obtain ⟨hfz14_0, hfz14_1, hfz14_2, hfz14_3, hfz14_4, hfz14_5⟩ := fz_6 BK101.out; go_wp2; go_ret; exact ⟨_, by first | rfl | (simp [Qax, Qaw] <;> rfl) | (simp [*, Qax, Qaw] <;> rfl), by (with_reducible repeat (first | apply Kd.Qam | apply Kd.Qan | apply Kd.Qaq)); exact HO_3.out, by repeat (first | (with_reducible first | exact HB.out | apply Qad | apply Qaa | apply Qac | refine Qah ?_ GE101.out) | exact HB.out)⟩
def liveryref07_Size.f (k : Nat) (a0_0 : ByteArray) (a0_1 : ByteArray) (a0_2 : ByteArray) (a0_3 : Int) (a0_4 : Int) (l0_5 : List (S29)) : Option (Int) := (Qbe.f k a0_0 a0_1 a0_2 a0_3 a0_4 l0_5).bind fun t102 => (some (t102.length : Int))
set_option maxHeartbeats 8000000 in
set_option maxRecDepth 100000 in
theorem liveryref07_Size.calls (k : Nat) (a0_0 : ByteArray) (a0_1 : ByteArray) (a0_2 : ByteArray) (a0_3 : Int) (a0_4 : Int) (A0_5 : Option Addr) (c0_5 : Nat) (l0_5 : List (S29)) (r : Int) (w : World) (hr0_5 : Kd.C k29 w A0_5 l0_5.length l0_5) (hc0_5 : l0_5.length ≤ c0_5) (h : liveryref07_Size.f k a0_0 a0_1 a0_2 a0_3 a0_4 l0_5 = some r) :
  Calls Tryd.prog 17 #[.agg #[.string a0_0, .string a0_1, .string a0_2, .int .i64 a0_3, .int .i64 a0_4, .slice A0_5 l0_5.length c0_5]] w fun e w' => e = .returned (.int .i64 r) ∧ Below w.heap.size w w' := by
 have hu29 := Tryd.underlying29; have HR0_5 := Qab.mk hr0_5; have HC0_5 := Qab.mk hc0_5; clear hr0_5 hc0_5; have HB := Qab.mk (Below.refl w.heap.size w); have H : ((Qbe.f k a0_0 a0_1 a0_2 a0_3 a0_4 l0_5).bind fun t102 => (some (t102.length : Int))) = some r := h; clear h; replace H := Option.bind_eq_some_iff.mp H; obtain ⟨t102, A20, H⟩ := H; replace H : (some (t102.length : Int)) = some r := H; have A2 := Qab.mk A20; clear A20; obtain rfl := Option.some.inj H; go_enter Tryd.func17, Tryd.ntmps17
 go_wp2_with (first | ((with_reducible refine Qa2 (N := 1) rfl ?_); refine QaV ?hg (N := 1) ?hd (cs := #[.string a0_0, .string a0_1, .string a0_2, .int .i64 a0_3, .int .i64 a0_4, .slice A0_5 l0_5.length c0_5]) (t := 29) ?hr ?_; (case hd => rfl); (case hg => rfl); (case hr => first | (go_simp; done) | (go_simp; rfl)); intro gb101 hg w3 hbox hb; have n0_ := Qab.mk (Qak (by repeat (first | (with_reducible first | exact HB.out | apply Qad | apply Qaa | apply Qac) | exact HB.out)) hb); have n1_ := Qab.mk (hbox); have n2_ := Qab.mk ((by rw [hg]; exact (Qar (by repeat (first | (with_reducible first | exact HB.out | apply Qad | apply Qaa | apply Qac) | exact HB.out))) : w.heap.size ≤ gb101)); have n3_ := n2_; clear HB; have HB := n0_; have BK101 := n1_; have GW101 := n2_; have GE101 := n3_; clear n0_ n1_ n2_ n3_; clear hb hbox hg; obtain ⟨hcz4_0, hcz4_1, hcz4_2, hcz4_3, hcz4_4, hcz4_5⟩ := QaZ BK101.out; obtain ⟨hfz4_0, hfz4_1, hfz4_2, hfz4_3, hfz4_4, hfz4_5⟩ := fz_6 BK101.out) | ((with_reducible refine QaT (f := 33) rfl ?_); refine goesL_ (some 4) rfl rfl Tryd.func33 (by kernel_rfl) rfl #[.agg #[.string a0_0, .string a0_1, .string a0_2, .int .i64 a0_3, .int .i64 a0_4, .slice A0_5 l0_5.length c0_5]] rfl (by (try simp only [List.map_toArray, List.map_cons, List.map_nil]); first | done | rfl | (simp only [List.length_drop, List.length_take]; rfl)) ?_; (with_reducible refine (Qbe.calls k a0_0 a0_1 a0_2 a0_3 a0_4 _ _ l0_5 t102 _ ?side1 ?side2 A2.out).mono ?_); (case side1 => repeat (first | exact (Kd.QaJ HR0_5.out HB.out) | (with_reducible refine Kd.QaF ?_ _) | (with_reducible refine Kd.QaH ?_ _) | (with_reducible refine Kd.QaW ?_))); (case side2 => exact HC0_5.out); rintro e w5 ⟨v103, rfl, ho0, hb⟩; refine ⟨_, rfl, ?_⟩; have n0_ := Qab.mk (Kd.R_lower ho0 (Qar (by repeat (first | (with_reducible first | exact HB.out | apply Qad | apply Qaa | apply Qac | refine Qah ?_ GE101.out) | exact HB.out)))); have n1_ := Qab.mk (Qal (g := gb101) (o := Qap a0_0 a0_1 a0_2 a0_3 a0_4 (.slice A0_5 l0_5.length c0_5) 29) (by (with_reducible repeat (first | refine Qag ?_ _ | refine Qai ?_ | refine Qae ?_ _)); exact BK101.out) hb); have n2_ := Qab.mk (Qak (by repeat (first | (with_reducible first | exact HB.out | apply Qad | apply Qaa | apply Qac | refine Qah ?_ GE101.out) | exact HB.out)) hb); clear BK101; clear HB; have HO104 := n0_; have BK101 := n1_; have HB := n2_; clear n0_ n1_ n2_; (try clear hb); (try clear hb2); (try clear hk); (try clear hi); (try clear ho0); obtain ⟨Ao6, co6, eo6⟩ := Kd.R_slice HO104.out; subst eo6))
 go_ret; exact ⟨by first | rfl | (simp [Qax, Qaw] <;> rfl) | (simp [*, Qax, Qaw] <;> rfl), by repeat (first | (with_reducible first | exact HB.out | apply Qad | apply Qaa | apply Qac | refine Qah ?_ GE101.out) | exact HB.out)⟩
mutual
def Qa3.l0 : Nat → Int → Int → ByteArray → ByteArray → ByteArray → Int → Int → List (S29) → Option (Int)
 | 0, _, _, _, _, _, _, _, _ => none
 | k + 1, x3, x4, x102000, x102001, x102002, x102003, x102004, x102005 => if x4 < (x102005.length : Int) then (if 0 ≤ x4 then ((Qa3.f k ((Qat x102005 x4).f0.f0) ((Qat x102005 x4).f0.f1) ((Qat x102005 x4).f1) ((Qat x102005 x4).f2.f0) ((Qat x102005 x4).f2.f1) ((Qat x102005 x4).f3)).bind fun t103 => (if (wrap64 (t103 + 1)) > x3 then (Qa3.l0 k (wrap64 (t103 + 1)) (wrap64 (x4 + 1)) x102000 x102001 x102002 x102003 x102004 x102005) else (Qa3.l0 k x3 (wrap64 (x4 + 1)) x102000 x102001 x102002 x102003 x102004 x102005))) else (none)) else (some x3)
def Qa3.f : Nat → ByteArray → ByteArray → ByteArray → Int → Int → List (S29) → Option (Int)
 | 0, _, _, _, _, _, _ => none
 | k + 1, a0_0, a0_1, a0_2, a0_3, a0_4, l0_5 => Qa3.l0 k 0 0 a0_0 a0_1 a0_2 a0_3 a0_4 l0_5
end
set_option maxHeartbeats 8000000 in
set_option maxRecDepth 100000 in
theorem Qa3.calls (k : Nat) : ∀ (a0_0 : ByteArray) (a0_1 : ByteArray) (a0_2 : ByteArray) (a0_3 : Int) (a0_4 : Int) (A0_5 : Option Addr) (c0_5 : Nat) (l0_5 : List (S29)) (r : Int) (w : World) (hr0_5 : Kd.C k29 w A0_5 l0_5.length l0_5) (hc0_5 : l0_5.length ≤ c0_5) (h : Qa3.f k a0_0 a0_1 a0_2 a0_3 a0_4 l0_5 = some r),
  Calls Tryd.prog 21 #[.agg #[.string a0_0, .string a0_1, .string a0_2, .int .i64 a0_3, .int .i64 a0_4, .slice A0_5 l0_5.length c0_5]] w fun e w' => e = .returned (.int .i64 r) ∧ Below w.heap.size w w' := by
 induction k using Nat.strongRecOn with
 | _ k ih =>
 intro a0_0 a0_1 a0_2 a0_3 a0_4 A0_5 c0_5 l0_5 r w hr0_5 hc0_5 h
 cases k with
 | zero => exact absurd h (by simp [Qa3.f])
 | succ k =>
 simp only [Qa3.f] at h; have hu29 := Tryd.underlying29; have HR0_5 := Qab.mk hr0_5; have HC0_5 := Qab.mk hc0_5; clear hr0_5 hc0_5; have HB := Qab.mk (Below.refl w.heap.size w); have H : (Qa3.l0 k 0 0 a0_0 a0_1 a0_2 a0_3 a0_4 l0_5) = some r := h; clear h; have H' := Qab.mk H; clear H; go_enter Tryd.func21, Tryd.ntmps21
 go_wp2_with (first | ((with_reducible refine Qa2 (N := 1) rfl ?_); refine QaV ?hg (N := 1) ?hd (cs := #[.string a0_0, .string a0_1, .string a0_2, .int .i64 a0_3, .int .i64 a0_4, .slice A0_5 l0_5.length c0_5]) (t := 29) ?hr ?_; (case hd => rfl); (case hg => rfl); (case hr => first | (go_simp; done) | (go_simp; rfl)); intro gb101 hg w2 hbox hb; have n0_ := Qab.mk (Qak (by repeat (first | (with_reducible first | exact HB.out | apply Qad | apply Qaa | apply Qac) | exact HB.out)) hb); have n1_ := Qab.mk (hbox); have n2_ := Qab.mk ((by rw [hg]; exact (Qar (by repeat (first | (with_reducible first | exact HB.out | apply Qad | apply Qaa | apply Qac) | exact HB.out))) : w.heap.size ≤ gb101)); have n3_ := n2_; clear HB; have HB := n0_; have BK101 := n1_; have GW101 := n2_; have GE101 := n3_; clear n0_ n1_ n2_ n3_; clear hb hbox hg))
 go_loopg [3, 4] k (fun kq v3 v4 w' => ∃ (x3_1 : Int) (x4_1 : Int), v3 = .int .i64 x3_1 ∧ v4 = .int .i64 x4_1 ∧ Qab (Qa3.l0 kq x3_1 x4_1 a0_0 a0_1 a0_2 a0_3 a0_4 l0_5 = some r) ∧ Qab (kq ≤ k) ∧ Qab (w'.heap[gb101]? = some (.cells #[.string a0_0, .string a0_1, .string a0_2, .int .i64 a0_3, .int .i64 a0_4, (.slice A0_5 l0_5.length c0_5)] 29 (0, 0))) ∧ Qab (Below w.heap.size w w'))
 case atStart => exact ⟨(0), (0), (by first | rfl | (simp; done) | (simp [*]; done)), (by first | rfl | (simp; done) | (simp [*]; done)), H', ⟨Nat.le_refl _⟩, ⟨by (with_reducible repeat (first | refine Qag ?_ _ | refine Qai ?_ | refine Qae ?_ _)); exact BK101.out⟩, ⟨by repeat (first | (with_reducible first | exact HB.out | apply Qad | apply Qaa | apply Qac | refine Qah ?_ GE101.out) | exact HB.out)⟩⟩
 case round =>
  clear H'; (try clear c2); (try clear p2); obtain ⟨x3_1, x4_1, rfl, rfl, HA, HK1, BK101, HB⟩ := hrel
  cases gk with
  | zero => exact absurd HA.out (by simp [Qa3.l0])
  | succ k1 =>
   have H := HA.out; clear HA; simp only [Qa3.l0] at H
   by_cases c3 : x4_1 < (l0_5.length : Int)
   ·rw [if_pos c3] at H; have c3b0 : decide (x4_1 < (l0_5.length : Int)) = true := decide_eq_true c3; clear c3
    by_cases c4 : 0 ≤ x4_1
    ·rw [if_pos c4] at H; have c4b0 : decide (0 ≤ x4_1) = true := decide_eq_true c4; clear c4; replace H := Option.bind_eq_some_iff.mp H; obtain ⟨t103, A50, H⟩ := H; replace H : (if (wrap64 (t103 + 1)) > x3_1 then (Qa3.l0 k1 (wrap64 (t103 + 1)) (wrap64 (x4_1 + 1)) a0_0 a0_1 a0_2 a0_3 a0_4 l0_5) else (Qa3.l0 k1 x3_1 (wrap64 (x4_1 + 1)) a0_0 a0_1 a0_2 a0_3 a0_4 l0_5)) = some r := H; have A5 := Qab.mk A50; clear A50
     by_cases c6 : (wrap64 (t103 + 1)) > x3_1
     ·rw [if_pos c6] at H; have c6b0 : decide (x3_1 < (wrap64 (t103 + 1))) = true := decide_eq_true c6; clear c6; have H' := Qab.mk H; clear H; have hcz7_0 : wr.cell? ⟨gb101, 0, none⟩ = some (.string a0_0) := (Qaj BK101.out 0).trans rfl; have hcz7_1 : wr.cell? ⟨gb101, 1, none⟩ = some (.string a0_1) := (Qaj BK101.out 1).trans rfl; have hcz7_2 : wr.cell? ⟨gb101, 2, none⟩ = some (.string a0_2) := (Qaj BK101.out 2).trans rfl; have hcz7_3 : wr.cell? ⟨gb101, 3, none⟩ = some (.int .i64 a0_3) := (Qaj BK101.out 3).trans rfl; have hcz7_4 : wr.cell? ⟨gb101, 4, none⟩ = some (.int .i64 a0_4) := (Qaj BK101.out 4).trans rfl; have hcz7_5 : wr.cell? ⟨gb101, 5, none⟩ = some (.slice A0_5 l0_5.length c0_5) := (Qaj BK101.out 5).trans rfl; obtain ⟨hfz7_0, hfz7_1, hfz7_2, hfz7_3, hfz7_4, hfz7_5⟩ := fz_6 BK101.out; have p102 : 0 ≤ (x4_1 : Int) := of_decide_eq_true (by first | (with_reducible assumption) | assumption); have q102 : x4_1 < (l0_5.length : Int) := of_decide_eq_true (by first | (with_reducible assumption) | assumption); obtain ⟨ad102, A102_5, c102_5, e102, hx102_0, hx102_1, hx102_2, hx102_3, hx102_4, hx102_5, hl102_5, hi102_5⟩ := at_T29 HR0_5.out x4_1 p102 q102; cases e102; replace hx102_0 := (HB.out.cell (World.block_lt_of_cell? w _ hx102_0)).trans hx102_0; replace hx102_1 := (HB.out.cell (World.block_lt_of_cell? w _ hx102_1)).trans hx102_1
      replace hx102_2 := (HB.out.cell (World.block_lt_of_cell? w _ hx102_2)).trans hx102_2; replace hx102_3 := (HB.out.cell (World.block_lt_of_cell? w _ hx102_3)).trans hx102_3; replace hx102_4 := (HB.out.cell (World.block_lt_of_cell? w _ hx102_4)).trans hx102_4; replace hx102_5 := (HB.out.cell (World.block_lt_of_cell? w _ hx102_5)).trans hx102_5; have HR102_5 := Qab.mk hi102_5; have HC102_5 := Qab.mk hl102_5; clear hi102_5 hl102_5; replace p102 := eq_true p102; replace q102 := eq_true q102
      go_wp2_with (first | ((with_reducible refine QaT (f := 21) rfl ?_); refine goesL_ (some 18) rfl rfl Tryd.func21 (by kernel_rfl) rfl #[.agg #[.string ((Qat l0_5 x4_1).f0.f0), .string ((Qat l0_5 x4_1).f0.f1), .string ((Qat l0_5 x4_1).f1), .int .i64 ((Qat l0_5 x4_1).f2.f0), .int .i64 ((Qat l0_5 x4_1).f2.f1), .slice A102_5 ((Qat l0_5 x4_1).f3).length c102_5]] rfl (by (try simp only [List.map_toArray, List.map_cons, List.map_nil]); first | done | rfl | (simp only [List.length_drop, List.length_take]; rfl)) ?_; (with_reducible refine (ih k1 (by have := HK1.out; omega) ((Qat l0_5 x4_1).f0.f0) ((Qat l0_5 x4_1).f0.f1) ((Qat l0_5 x4_1).f1) ((Qat l0_5 x4_1).f2.f0) ((Qat l0_5 x4_1).f2.f1) _ _ ((Qat l0_5 x4_1).f3) t103 _ ?side1 ?side2 A5.out).mono ?_); (case side1 => repeat (first | exact (Kd.QaJ HR102_5.out HB.out) | (with_reducible refine Kd.QaF ?_ _) | (with_reducible refine Kd.QaH ?_ _) | (with_reducible refine Kd.QaW ?_))); (case side2 => exact HC102_5.out); rintro e w8 ⟨rfl, hb⟩; refine ⟨_, rfl, ?_⟩; have n0_ := Qab.mk (Qal (g := gb101) (o := Qap a0_0 a0_1 a0_2 a0_3 a0_4 (.slice (some ad102) l0_5.length c0_5) 29) (by (with_reducible repeat (first | refine Qag ?_ _ | refine Qai ?_ | refine Qae ?_ _)); exact BK101.out) hb); have n1_ := Qab.mk (Qak (by repeat (first | (with_reducible first | exact HB.out | apply Qad | apply Qaa | apply Qac | refine Qah ?_ GE101.out) | exact HB.out)) hb); clear BK101; clear HB; have BK101 := n0_; have HB := n1_; clear n0_ n1_; (try clear hb); (try clear hb2); (try clear hk); (try clear hi)))
      go_roundg k1
      case measure => have := HK1.out; omega
      case rel => exact ⟨(wrap64 (t103 + 1)), (wrap64 (x4_1 + 1)), (by first | rfl | (simp; done) | (simp [*]; done)), (by first | rfl | (simp; done) | (simp [*]; done)), H', ⟨by have := HK1.out; omega⟩, ⟨by (with_reducible repeat (first | refine Qag ?_ _ | refine Qai ?_ | refine Qae ?_ _)); exact BK101.out⟩, ⟨by repeat (first | (with_reducible first | exact HB.out | apply Qad | apply Qaa | apply Qac | refine Qah ?_ GE101.out) | exact HB.out)⟩⟩
     ·rw [if_neg c6] at H; have c6b0 : decide (x3_1 < (wrap64 (t103 + 1))) = false := decide_eq_false c6; clear c6; have H' := Qab.mk H; clear H; have hcz9_0 : wr.cell? ⟨gb101, 0, none⟩ = some (.string a0_0) := (Qaj BK101.out 0).trans rfl; have hcz9_1 : wr.cell? ⟨gb101, 1, none⟩ = some (.string a0_1) := (Qaj BK101.out 1).trans rfl; have hcz9_2 : wr.cell? ⟨gb101, 2, none⟩ = some (.string a0_2) := (Qaj BK101.out 2).trans rfl; have hcz9_3 : wr.cell? ⟨gb101, 3, none⟩ = some (.int .i64 a0_3) := (Qaj BK101.out 3).trans rfl; have hcz9_4 : wr.cell? ⟨gb101, 4, none⟩ = some (.int .i64 a0_4) := (Qaj BK101.out 4).trans rfl; have hcz9_5 : wr.cell? ⟨gb101, 5, none⟩ = some (.slice A0_5 l0_5.length c0_5) := (Qaj BK101.out 5).trans rfl; obtain ⟨hfz9_0, hfz9_1, hfz9_2, hfz9_3, hfz9_4, hfz9_5⟩ := fz_6 BK101.out; have p102 : 0 ≤ (x4_1 : Int) := of_decide_eq_true (by first | (with_reducible assumption) | assumption); have q102 : x4_1 < (l0_5.length : Int) := of_decide_eq_true (by first | (with_reducible assumption) | assumption); obtain ⟨ad102, A102_5, c102_5, e102, hx102_0, hx102_1, hx102_2, hx102_3, hx102_4, hx102_5, hl102_5, hi102_5⟩ := at_T29 HR0_5.out x4_1 p102 q102; cases e102; replace hx102_0 := (HB.out.cell (World.block_lt_of_cell? w _ hx102_0)).trans hx102_0; replace hx102_1 := (HB.out.cell (World.block_lt_of_cell? w _ hx102_1)).trans hx102_1
      replace hx102_2 := (HB.out.cell (World.block_lt_of_cell? w _ hx102_2)).trans hx102_2; replace hx102_3 := (HB.out.cell (World.block_lt_of_cell? w _ hx102_3)).trans hx102_3; replace hx102_4 := (HB.out.cell (World.block_lt_of_cell? w _ hx102_4)).trans hx102_4; replace hx102_5 := (HB.out.cell (World.block_lt_of_cell? w _ hx102_5)).trans hx102_5; have HR102_5 := Qab.mk hi102_5; have HC102_5 := Qab.mk hl102_5; clear hi102_5 hl102_5; replace p102 := eq_true p102; replace q102 := eq_true q102
      go_wp2_with (first | ((with_reducible refine QaT (f := 21) rfl ?_); refine goesL_ (some 18) rfl rfl Tryd.func21 (by kernel_rfl) rfl #[.agg #[.string ((Qat l0_5 x4_1).f0.f0), .string ((Qat l0_5 x4_1).f0.f1), .string ((Qat l0_5 x4_1).f1), .int .i64 ((Qat l0_5 x4_1).f2.f0), .int .i64 ((Qat l0_5 x4_1).f2.f1), .slice A102_5 ((Qat l0_5 x4_1).f3).length c102_5]] rfl (by (try simp only [List.map_toArray, List.map_cons, List.map_nil]); first | done | rfl | (simp only [List.length_drop, List.length_take]; rfl)) ?_; (with_reducible refine (ih k1 (by have := HK1.out; omega) ((Qat l0_5 x4_1).f0.f0) ((Qat l0_5 x4_1).f0.f1) ((Qat l0_5 x4_1).f1) ((Qat l0_5 x4_1).f2.f0) ((Qat l0_5 x4_1).f2.f1) _ _ ((Qat l0_5 x4_1).f3) t103 _ ?side1 ?side2 A5.out).mono ?_); (case side1 => repeat (first | exact (Kd.QaJ HR102_5.out HB.out) | (with_reducible refine Kd.QaF ?_ _) | (with_reducible refine Kd.QaH ?_ _) | (with_reducible refine Kd.QaW ?_))); (case side2 => exact HC102_5.out); rintro e w10 ⟨rfl, hb⟩; refine ⟨_, rfl, ?_⟩; have n0_ := Qab.mk (Qal (g := gb101) (o := Qap a0_0 a0_1 a0_2 a0_3 a0_4 (.slice (some ad102) l0_5.length c0_5) 29) (by (with_reducible repeat (first | refine Qag ?_ _ | refine Qai ?_ | refine Qae ?_ _)); exact BK101.out) hb); have n1_ := Qab.mk (Qak (by repeat (first | (with_reducible first | exact HB.out | apply Qad | apply Qaa | apply Qac | refine Qah ?_ GE101.out) | exact HB.out)) hb); clear BK101; clear HB; have BK101 := n0_; have HB := n1_; clear n0_ n1_; (try clear hb); (try clear hb2); (try clear hk); (try clear hi)))
      go_roundg k1
      case measure => have := HK1.out; omega
      case rel => exact ⟨(x3_1), (wrap64 (x4_1 + 1)), (by first | rfl | (simp; done) | (simp [*]; done)), (by first | rfl | (simp; done) | (simp [*]; done)), H', ⟨by have := HK1.out; omega⟩, ⟨by (with_reducible repeat (first | refine Qag ?_ _ | refine Qai ?_ | refine Qae ?_ _)); exact BK101.out⟩, ⟨by repeat (first | (with_reducible first | exact HB.out | apply Qad | apply Qaa | apply Qac | refine Qah ?_ GE101.out) | exact HB.out)⟩⟩
    ·rw [if_neg c4] at H; exact absurd H (by simp)
   ·rw [if_neg c3] at H; have c3b0 : decide (x4_1 < (l0_5.length : Int)) = false := decide_eq_false c3; clear c3; obtain rfl := Option.some.inj H; have hcz11_0 : wr.cell? ⟨gb101, 0, none⟩ = some (.string a0_0) := (Qaj BK101.out 0).trans rfl; have hcz11_1 : wr.cell? ⟨gb101, 1, none⟩ = some (.string a0_1) := (Qaj BK101.out 1).trans rfl; have hcz11_2 : wr.cell? ⟨gb101, 2, none⟩ = some (.string a0_2) := (Qaj BK101.out 2).trans rfl; have hcz11_3 : wr.cell? ⟨gb101, 3, none⟩ = some (.int .i64 a0_3) := (Qaj BK101.out 3).trans rfl; have hcz11_4 : wr.cell? ⟨gb101, 4, none⟩ = some (.int .i64 a0_4) := (Qaj BK101.out 4).trans rfl; have hcz11_5 : wr.cell? ⟨gb101, 5, none⟩ = some (.slice A0_5 l0_5.length c0_5) := (Qaj BK101.out 5).trans rfl; obtain ⟨hfz11_0, hfz11_1, hfz11_2, hfz11_3, hfz11_4, hfz11_5⟩ := fz_6 BK101.out; go_wp2; go_ret; exact ⟨by first | rfl | (simp [Qax, Qaw] <;> rfl) | (simp [*, Qax, Qaw] <;> rfl), by repeat (first | (with_reducible first | exact HB.out | apply Qad | apply Qaa | apply Qac | refine Qah ?_ GE101.out) | exact HB.out)⟩
end Go.Proofs.YtmaipohgahdclaaDoor.Pr
end
section
namespace Go.Proofs.YtmaipohgahdclaaDoor.Pr
open Go.RowKit Go.Proofs.YtmaipohgahdclaaDoorW.PrintWords Go.Proofs.YtmaipohgahdclaaDoorW.PrintLast Go.Proofs.YtmaipohgahdclaaDoorW.PrintMore
attribute [local go_sem] max2_int min2_int max_two min_two Qbj Qbi max_four min_four
set_option linter.unusedVariables false
set_option linter.unusedSimpArgs false
attribute [local go_sem high] eqA44
def liveryref05_Same.l0 : Nat → List (S44) → List (S44) → Int → Option (Bool)
 | 0, _, _, _ => none
 | k + 1, x0, x1, x5 => if x5 < (x0.length : Int) then (if 0 ≤ x5 then (if x5 < (x1.length : Int) then (if ((!(((Qaf x0 x5).f0.f0) == ((Qaf x1 x5).f0.f0)) || (!(((Qaf x0 x5).f0.f1) == ((Qaf x1 x5).f0.f1)))) || (!((((Qaf x0 x5).f1).toList) == (((Qaf x1 x5).f1).toList)) || (!(((Qaf x0 x5).f2) == ((Qaf x1 x5).f2)) || (!((((Qaf x0 x5).f3).toList) == (((Qaf x1 x5).f3).toList)) || ((!((((Qaf x0 x5).f4.f0).toList) == (((Qaf x1 x5).f4.f0).toList)) || (!((((Qaf x0 x5).f4.f1).toList) == (((Qaf x1 x5).f4.f1).toList)))) || ((!((((Qaf x0 x5).f5.f0).toList) == (((Qaf x1 x5).f5.f0).toList)) || (!((((Qaf x0 x5).f5.f1).toList) == (((Qaf x1 x5).f5.f1).toList)))))))))) = true then (some false) else (liveryref05_Same.l0 k x0 x1 (wrap64 (x5 + 1)))) else (none)) else (none)) else (some true)
def liveryref05_Same.f (k : Nat) (l0 : List (S44)) (l1 : List (S44)) : Option (Bool) := if (l0.length : Int) = (l1.length : Int) then (liveryref05_Same.l0 k l0 l1 0) else (some false)
set_option maxHeartbeats 8000000 in
set_option maxRecDepth 100000 in
theorem liveryref05_Same.calls (k : Nat) (A0 : Option Addr) (c0 : Nat) (l0 : List (S44)) (A1 : Option Addr) (c1 : Nat) (l1 : List (S44)) (r : Bool) (w : World) (hr0 : Kd.C k44 w A0 l0.length l0) (hc0 : l0.length ≤ c0) (hr1 : Kd.C k44 w A1 l1.length l1) (hc1 : l1.length ≤ c1) (h : liveryref05_Same.f k l0 l1 = some r) :
  Calls Tryd.prog 23 #[.slice A0 l0.length c0, .slice A1 l1.length c1] w fun e w' => e = .returned (.bool r) ∧ Drawn0 w w' := by
 have hu44 := Tryd.underlying44; have HR0 := Qab.mk hr0; have HC0 := Qab.mk hc0; clear hr0 hc0; have HR1 := Qab.mk hr1; have HC1 := Qab.mk hc1; clear hr1 hc1; have H : (if (l0.length : Int) = (l1.length : Int) then (liveryref05_Same.l0 k l0 l1 0) else (some false)) = some r := h; clear h
 by_cases c3 : (l0.length : Int) = (l1.length : Int)
 ·rw [if_pos c3] at H; have c3b0 : ((l0.length : Int) == (l1.length : Int)) = true := beq_iff_eq.mpr c3; have c3b1 : ((l0.length : Int) != (l1.length : Int)) = false := bne_eq_false_iff_eq.mpr c3
  have c3b2 : (l0.length == l1.length) = true := by first | simpa using c3 | (simp at c3 ⊢; omega)
  clear c3; have H' := Qab.mk H; clear H; go_enter Tryd.func23, Tryd.ntmps23; go_wp2
  repeat (go_quiet (fail); try go_wp2)
  go_loopg [5] k (fun kq v5 w' => ∃ (x5_1 : Int), v5 = .int .i64 x5_1 ∧ Qab (liveryref05_Same.l0 kq l0 l1 x5_1 = some r) ∧ Qab (kq ≤ k) ∧ Drawn0 w w')
  case atStart => exact ⟨(0), (by first | rfl | (simp; done) | (simp [*]; done)), H', ⟨Nat.le_refl _⟩, by repeat (first | exact Drawn0.refl _ | apply Drawn0.step)⟩
  case round =>
   clear H'; (try clear c1); (try clear c2); (try clear p2); (try clear c3); (try clear c3b0); (try clear c3b1); (try clear c3b2); obtain ⟨x5_1, rfl, HA, HK1, ⟨m1, rfl⟩⟩ := hrel
   cases gk with
   | zero => exact absurd HA.out (by simp [liveryref05_Same.l0])
   | succ k1 =>
    have H := HA.out; clear HA; simp only [liveryref05_Same.l0] at H
    by_cases c4 : x5_1 < (l0.length : Int)
    ·rw [if_pos c4] at H; have c4b0 : decide (x5_1 < (l0.length : Int)) = true := decide_eq_true c4; clear c4
     by_cases c5 : 0 ≤ x5_1
     ·rw [if_pos c5] at H; have c5b0 : decide (0 ≤ x5_1) = true := decide_eq_true c5; clear c5
      by_cases c6 : x5_1 < (l1.length : Int)
      ·rw [if_pos c6] at H; have c6b0 : decide (x5_1 < (l1.length : Int)) = true := decide_eq_true c6; clear c6
       by_cases c7 : ((!(((Qaf l0 x5_1).f0.f0) == ((Qaf l1 x5_1).f0.f0)) || (!(((Qaf l0 x5_1).f0.f1) == ((Qaf l1 x5_1).f0.f1)))) || (!((((Qaf l0 x5_1).f1).toList) == (((Qaf l1 x5_1).f1).toList)) || (!(((Qaf l0 x5_1).f2) == ((Qaf l1 x5_1).f2)) || (!((((Qaf l0 x5_1).f3).toList) == (((Qaf l1 x5_1).f3).toList)) || ((!((((Qaf l0 x5_1).f4.f0).toList) == (((Qaf l1 x5_1).f4.f0).toList)) || (!((((Qaf l0 x5_1).f4.f1).toList) == (((Qaf l1 x5_1).f4.f1).toList)))) || ((!((((Qaf l0 x5_1).f5.f0).toList) == (((Qaf l1 x5_1).f5.f0).toList)) || (!((((Qaf l0 x5_1).f5.f1).toList) == (((Qaf l1 x5_1).f5.f1).toList)))))))))) = true
       ·rw [if_pos c7] at H; have c7b0 : ((!(((Qaf l0 x5_1).f0.f0) == ((Qaf l1 x5_1).f0.f0)) || (!(((Qaf l0 x5_1).f0.f1) == ((Qaf l1 x5_1).f0.f1)))) || (!((((Qaf l0 x5_1).f1).toList) == (((Qaf l1 x5_1).f1).toList)) || (!(((Qaf l0 x5_1).f2) == ((Qaf l1 x5_1).f2)) || (!((((Qaf l0 x5_1).f3).toList) == (((Qaf l1 x5_1).f3).toList)) || ((!((((Qaf l0 x5_1).f4.f0).toList) == (((Qaf l1 x5_1).f4.f0).toList)) || (!((((Qaf l0 x5_1).f4.f1).toList) == (((Qaf l1 x5_1).f4.f1).toList)))) || ((!((((Qaf l0 x5_1).f5.f0).toList) == (((Qaf l1 x5_1).f5.f0).toList)) || (!((((Qaf l0 x5_1).f5.f1).toList) == (((Qaf l1 x5_1).f5.f1).toList)))))))))) = true := c7; clear c7; obtain rfl := Option.some.inj H; have p101 : 0 ≤ (x5_1 : Int) := of_decide_eq_true (by first | (with_reducible assumption) | assumption); have q101 : x5_1 < (l0.length : Int) := of_decide_eq_true (by first | (with_reducible assumption) | assumption); obtain ⟨ad101, e101, hx101_0, hx101_1, hx101_2, hx101_3, hx101_4, hx101_5, hx101_6, hx101_7, hx101_8⟩ := at_T44 HR0.out x5_1 p101 q101; cases e101; replace p101 := eq_true p101; replace q101 := eq_true q101; have p102 : 0 ≤ (x5_1 : Int) := of_decide_eq_true (by first | (with_reducible assumption) | assumption); have q102 : x5_1 < (l1.length : Int) := of_decide_eq_true (by first | (with_reducible assumption) | assumption); obtain ⟨ad102, e102, hx102_0, hx102_1, hx102_2, hx102_3, hx102_4, hx102_5, hx102_6, hx102_7, hx102_8⟩ := at_T44 HR1.out x5_1 p102 q102
        cases e102; replace p102 := eq_true p102; replace q102 := eq_true q102; go_wp2
        repeat (go_quiet (fail); try go_wp2)
        go_ret; exact ⟨by first | rfl | (simp; done) | (simp [*]; done), by repeat (first | exact Drawn0.refl _ | apply Drawn0.step)⟩
       ·rw [if_neg c7] at H
        have c7b0 : ((!(((Qaf l0 x5_1).f0.f0) == ((Qaf l1 x5_1).f0.f0)) || (!(((Qaf l0 x5_1).f0.f1) == ((Qaf l1 x5_1).f0.f1)))) || (!((((Qaf l0 x5_1).f1).toList) == (((Qaf l1 x5_1).f1).toList)) || (!(((Qaf l0 x5_1).f2) == ((Qaf l1 x5_1).f2)) || (!((((Qaf l0 x5_1).f3).toList) == (((Qaf l1 x5_1).f3).toList)) || ((!((((Qaf l0 x5_1).f4.f0).toList) == (((Qaf l1 x5_1).f4.f0).toList)) || (!((((Qaf l0 x5_1).f4.f1).toList) == (((Qaf l1 x5_1).f4.f1).toList)))) || ((!((((Qaf l0 x5_1).f5.f0).toList) == (((Qaf l1 x5_1).f5.f0).toList)) || (!((((Qaf l0 x5_1).f5.f1).toList) == (((Qaf l1 x5_1).f5.f1).toList)))))))))) = false := by simpa using c7
        clear c7; have H' := Qab.mk H; clear H; have p101 : 0 ≤ (x5_1 : Int) := of_decide_eq_true (by first | (with_reducible assumption) | assumption); have q101 : x5_1 < (l0.length : Int) := of_decide_eq_true (by first | (with_reducible assumption) | assumption); obtain ⟨ad101, e101, hx101_0, hx101_1, hx101_2, hx101_3, hx101_4, hx101_5, hx101_6, hx101_7, hx101_8⟩ := at_T44 HR0.out x5_1 p101 q101; cases e101; replace p101 := eq_true p101; replace q101 := eq_true q101; have p102 : 0 ≤ (x5_1 : Int) := of_decide_eq_true (by first | (with_reducible assumption) | assumption); have q102 : x5_1 < (l1.length : Int) := of_decide_eq_true (by first | (with_reducible assumption) | assumption); obtain ⟨ad102, e102, hx102_0, hx102_1, hx102_2, hx102_3, hx102_4, hx102_5, hx102_6, hx102_7, hx102_8⟩ := at_T44 HR1.out x5_1 p102 q102; cases e102; replace p102 := eq_true p102; replace q102 := eq_true q102; go_wp2
        repeat (go_quiet (fail); try go_wp2)
        go_roundg k1
        case measure => have := HK1.out; omega
        case rel => exact ⟨(wrap64 (x5_1 + 1)), (by first | rfl | (simp; done) | (simp [*]; done)), H', ⟨by have := HK1.out; omega⟩, by repeat (first | exact Drawn0.refl _ | apply Drawn0.step)⟩
      ·rw [if_neg c6] at H; exact absurd H (by simp)
     ·rw [if_neg c5] at H; exact absurd H (by simp)
    ·rw [if_neg c4] at H; have c4b0 : decide (x5_1 < (l0.length : Int)) = false := decide_eq_false c4; clear c4; obtain rfl := Option.some.inj H; go_wp2
     repeat (go_quiet (fail); try go_wp2)
     go_ret; exact ⟨by first | rfl | (simp; done) | (simp [*]; done), by repeat (first | exact Drawn0.refl _ | apply Drawn0.step)⟩
 ·rw [if_neg c3] at H; have c3b0 : ((l0.length : Int) == (l1.length : Int)) = false := beq_eq_false_iff_ne.mpr c3; have c3b1 : ((l0.length : Int) != (l1.length : Int)) = true := bne_iff_ne.mpr c3
  have c3b2 : (l0.length == l1.length) = false := by first | simpa using c3 | (simp at c3 ⊢; omega)
  obtain rfl := Option.some.inj H; go_enter Tryd.func23, Tryd.ntmps23; go_wp2
  repeat (go_quiet (fail); try go_wp2)
  go_ret; exact ⟨by first | rfl | (simp; done) | (simp [*]; done), by repeat (first | exact Drawn0.refl _ | apply Drawn0.step)⟩
end Go.Proofs.YtmaipohgahdclaaDoor.Pr
end
section
namespace Go.Proofs.YtmaipohgahdclaaDoor.Pr
theorem sorted_eq {α : Type} {R : α → α → Prop} (hi : ∀ x, ¬ R x x) (ht : ∀ x y z, R x y → R y z → R x z) : ∀ {a b : List α}, a.Pairwise R → b.Pairwise R → (∀ x, x ∈ a ↔ x ∈ b) → a = b
  | [], [], _, _, _ => rfl
  | [], y :: b, _, _, h => absurd ((h y).mpr (List.mem_cons_self ..)) (List.not_mem_nil)
  | x :: a, [], _, _, h => absurd ((h x).mp (List.mem_cons_self ..)) (List.not_mem_nil)
  | x :: a, y :: b, ha, hb, h => by
    rw [List.pairwise_cons] at ha hb
    have exy : x = y := by
      rcases List.mem_cons.mp ((h x).mp (List.mem_cons_self ..)) with e | h1
      · exact e
      · rcases List.mem_cons.mp ((h y).mpr (List.mem_cons_self ..)) with e | h2
        · exact e.symm
        · exact absurd (ht _ _ _ (ha.1 _ h2) (hb.1 _ h1)) (hi x)
    subst exy
    congr 1
    refine sorted_eq hi ht ha.2 hb.2 fun z => ⟨fun hz => ?_, fun hz => ?_⟩
    · rcases List.mem_cons.mp ((h z).mp (List.mem_cons_of_mem _ hz)) with e | h1
      · subst e; exact absurd (ha.1 _ hz) (hi z)
      · exact h1
    · rcases List.mem_cons.mp ((h z).mpr (List.mem_cons_of_mem _ hz)) with e | h1
      · subst e; exact absurd (hb.1 _ hz) (hi z)
      · exact h1
theorem sorted_nodup {α : Type} {R : α → α → Prop} (hi : ∀ x, ¬ R x x) {l : List α} (h : l.Pairwise R) : l.Nodup :=
  h.imp fun {a b} hab (e : a = b) => hi a (by subst e; exact hab)
section
variable {α : Type} [Inhabited α]
theorem swp_split (d : Array α) (j : Nat) (h : j + 1 < d.size) : ∃ a b, d.toList = a ++ d[j]! :: d[j + 1]! :: b ∧ (Go.Sort.swp d (j + 1) j).toList = a ++ d[j + 1]! :: d[j]! :: b := by
  have h1 : j < d.toList.length := by simp; omega
  have h2 : j + 1 < d.toList.length := by simp; omega
  have e : d.toList = d.toList.take j ++ d[j]! :: d[j + 1]! :: d.toList.drop (j + 2) := by
    rw [getElem!_pos d j (by omega), getElem!_pos d (j + 1) h]
    conv => lhs; rw [← List.take_append_drop j d.toList, List.drop_eq_getElem_cons h1, List.drop_eq_getElem_cons h2]
    rfl
  have hl : (d.toList.take j).length = j := by simp; omega
  generalize d.toList.take j = a at e hl
  generalize d.toList.drop (j + 2) = b at e
  refine ⟨a, b, e, ?_⟩; unfold Go.Sort.swp; rw [Array.toList_setIfInBounds, Array.toList_setIfInBounds]
  generalize d[j]! = x at *
  generalize d[j + 1]! = y at *
  rw [e]; rw [List.set_append_right _ _ (by omega), show j + 1 - a.length = 1 by omega, List.set_append_right _ _ (by omega), show j - a.length = 0 by omega]; rfl
theorem swp_size (d : Array α) (i j : Nat) : (Go.Sort.swp d i j).size = d.size := by simp [Go.Sort.swp]
theorem inner_filter (lt : α → α → Bool) (q : α → Bool) (hq : ∀ x y, lt x y = true → q x = true → q y = true → False) (a : Nat) : ∀ (j : Nat) (d : Array α), j < d.size → (Go.Sort.insInner lt a j d).toList.filter q = d.toList.filter q ∧ (Go.Sort.insInner lt a j d).size = d.size
  | 0, d, _ => ⟨rfl, rfl⟩
  | j + 1, d, h => by
    rw [Go.Sort.insInner]
    by_cases c : (decide (j + 1 > a) && lt d[j + 1]! d[j]!) = true
    · rw [if_pos c]
      rw [Bool.and_eq_true] at c; obtain ⟨l, r, e1, e2⟩ := swp_split d j h; have ih := inner_filter lt q hq a j (Go.Sort.swp d (j + 1) j) (by rw [swp_size]; omega); refine ⟨ih.1.trans ?_, ih.2.trans (swp_size _ _ _)⟩; rw [e1, e2, List.filter_append, List.filter_append]
      congr 1
      have := hq _ _ c.2; simp only [List.filter_cons]
      cases h1 : q d[j]! <;> cases h2 : q d[j + 1]! <;> simp_all
    · rw [if_neg c]
      exact ⟨rfl, rfl⟩
theorem outer_filter (lt : α → α → Bool) (q : α → Bool) (hq : ∀ x y, lt x y = true → q x = true → q y = true → False) (a b : Nat) : ∀ (n i : Nat) (d : Array α), b - i ≤ n → b ≤ d.size → (Go.Sort.insOuter lt a b i d).toList.filter q = d.toList.filter q
  | 0, i, d, h, hb => by
    rw [Go.Sort.insOuter, if_neg (by omega)]
  | n + 1, i, d, h, hb => by
    rw [Go.Sort.insOuter]
    by_cases c : i < b
    · rw [if_pos c]
      have := inner_filter lt q hq a i d (by omega); exact (outer_filter lt q hq a b n (i + 1) _ (by omega) (by rw [this.2]; exact hb)).trans this.1
    · rw [if_neg c]
theorem insertion_filter (lt : α → α → Bool) (q : α → Bool) (hq : ∀ x y, lt x y = true → q x = true → q y = true → False) (l : List α) : (Go.Sort.insertionSort lt l.toArray 0 l.length).toList.filter q = l.filter q := by
  have := outer_filter lt q hq 0 l.length l.length 1 l.toArray (by omega) (by simp)
  simpa [Go.Sort.insertionSort] using this
theorem insertion_sorted (lt : α → α → Bool) (h : Go.Sort.SWO lt) (l : List α) : (Go.Sort.insertionSort lt l.toArray 0 l.length).toList.Pairwise (fun x y => lt y x = false) := by
  obtain ⟨⟨hs, _, _⟩, hp⟩ := Go.Sort.insertionSort_holds h l.toArray 0 l.length (Nat.zero_le _) (by simp); rw [List.pairwise_iff_getElem]; intro i j hi hj hij
  have hsz : (Go.Sort.insertionSort lt l.toArray 0 l.length).size = l.length := by rw [hs]; simp
  have hj' : j < (Go.Sort.insertionSort lt l.toArray 0 l.length).size := by simpa using hj
  have := hp i j (Nat.zero_le _) hij (by omega); rw [getElem!_pos _ j hj', getElem!_pos _ i (by omega)] at this
  simpa using this
end
def Ev {α : Type} (f : Nat → Option α) (v : α) : Prop := ∃ K, ∀ k, K ≤ k → f k = some v
theorem Ev.from {α : Type} {f : Nat → Option α} {v : α} (K : Nat) (h : ∀ k, K ≤ k → f k = some v) : Ev f v := ⟨K, h⟩
theorem Ev.pure {α : Type} (v : α) : Ev (fun _ => some v) v := ⟨0, fun _ _ => rfl⟩
theorem Ev.step {α : Type} {f g : Nat → Option α} {v : α} (e : ∀ k, f (k + 1) = g k) (h : Ev g v) : Ev f v := by
  obtain ⟨K, h⟩ := h; refine ⟨K + 1, fun k hk => ?_⟩
  obtain ⟨j, rfl⟩ : ∃ j, k = j + 1 := ⟨k - 1, by omega⟩
  rw [e, h j (by omega)]
theorem Ev.congr {α : Type} {f g : Nat → Option α} {v : α} (e : ∀ k, f k = g k) (h : Ev g v) : Ev f v := by
  obtain ⟨K, h⟩ := h; exact ⟨K, fun k hk => (e k).trans (h k hk)⟩
theorem Ev.bind {α β : Type} {g : Nat → Option β} {h : Nat → β → Option α} {a : β} {v : α} (hg : Ev g a) (hh : Ev (fun k => h k a) v) : Ev (fun k => (g k).bind (h k)) v := by
  obtain ⟨K, hg⟩ := hg; obtain ⟨K', hh⟩ := hh; refine ⟨K + K', fun k hk => ?_⟩
  show (g k).bind (h k) = some v
  rw [hg k (by omega), Option.bind_some]; exact hh k (by omega)
section
variable {α : Type} [Inhabited α]
def selLeast (less : α → α → Bool) (l : List α) : Nat → Nat → Nat → Nat
  | 0, m, _ => m
  | n + 1, m, i => selLeast less l n (if less l[i]! l[m]! then i else m) (i + 1)
theorem selLeast_spec (less : α → α → Bool) (hi : ∀ x, less x x = false) (ht : ∀ x y z, less x y = true → less y z = true → less x z = true) (l : List α) : ∀ (n m i : Nat), n + i = l.length → m < i → 0 < i → (∀ j, j < i → less l[j]! l[m]! = false) →
    selLeast less l n m i < l.length ∧ ∀ j, j < l.length → less l[j]! l[selLeast less l n m i]! = false
  | 0, m, i, hn, hm, h0, h => by
    rw [selLeast]; exact ⟨by omega, fun j hj => h j (by omega)⟩
  | n + 1, m, i, hn, hm, h0, h => by
    rw [selLeast]
    by_cases c : less l[i]! l[m]! = true
    · rw [if_pos c]
      refine selLeast_spec less hi ht l n i (i + 1) (by omega) (by omega) (by omega) fun j hj => ?_
      by_cases e : j = i
      · rw [e]; exact hi _
      · rw [Bool.eq_false_iff]
        intro h2; have := h j (by omega); rw [ht _ _ _ h2 c] at this; cases this
    · rw [if_neg c]
      refine selLeast_spec less hi ht l n m (i + 1) (by omega) (by omega) (by omega) fun j hj => ?_
      by_cases e : j = i
      · rw [e]; simpa using c
      · exact h j (by omega)
def selSort (less : α → α → Bool) : Nat → List α → List α → List α
  | 0, _, out => out
  | n + 1, l, out => if l.length > 0 then selSort less n (l.take (selLeast less l (l.length - 1) 0 1) ++ l.drop (selLeast less l (l.length - 1) 0 1 + 1)) (out ++ [l[selLeast less l (l.length - 1) 0 1]!]) else out
theorem sel_split (l : List α) (m : Nat) (h : m < l.length) : l = l.take m ++ l[m]! :: l.drop (m + 1) := by
  rw [getElem!_pos l m h]
  conv => lhs; rw [← List.take_append_drop m l, List.drop_eq_getElem_cons h]
theorem selSort_spec (less : α → α → Bool) (hi : ∀ x, less x x = false) (ht : ∀ x y z, less x y = true → less y z = true → less x z = true) : ∀ (n : Nat) (l out : List α), l.length ≤ n → (out ++ l).Pairwise (fun a b => less a b = true ∨ less b a = true) → out.Pairwise (fun a b => less a b = true) → (∀ a ∈ out, ∀ b ∈ l, less a b = true) →
    (selSort less n l out).Pairwise (fun a b => less a b = true) ∧ ∀ x, x ∈ selSort less n l out ↔ x ∈ out ∨ x ∈ l
  | 0, l, out, hl, _, ho, _ => by
    have : l = [] := List.eq_nil_of_length_eq_zero (by omega); subst this; rw [selSort]; exact ⟨ho, fun x => by simp⟩
  | n + 1, l, out, hl, hd, ho, hol => by
    rw [selSort]
    by_cases c : l.length > 0
    · rw [if_pos c]
      obtain ⟨hm, hleast⟩ := selLeast_spec less hi ht l (l.length - 1) 0 1 (by omega) (by omega) (by omega) (fun j hj => by rw [show j = 0 by omega]; exact hi _)
      generalize selLeast less l (l.length - 1) 0 1 = m at hm hleast ⊢
      have hs := sel_split l m hm
      generalize hx : l[m]! = x at hs hleast ⊢
      generalize ha : l.take m = a at hs ⊢
      generalize hb : l.drop (m + 1) = b at hs ⊢
      have hmem : ∀ y, y ∈ l ↔ y = x ∨ y ∈ a ++ b := fun y => by
        rw [hs]; simp only [List.mem_append, List.mem_cons]; constructor
        · rintro (h | h | h)
          · exact .inr (.inl h)
          · exact .inl h
          · exact .inr (.inr h)
        · rintro (h | h | h)
          · exact .inr (.inl h)
          · exact .inl h
          · exact .inr (.inr h)
      have hlen : (a ++ b).length + 1 = l.length := by rw [hs]; simp; omega
      have hpx : ((out ++ [x]) ++ (a ++ b)).Pairwise (fun p q => less p q = true ∨ less q p = true) := by
        refine List.Pairwise.perm hd ?_ (fun h => h.symm); rw [hs, List.append_assoc]; refine List.Perm.append_left out ?_; exact List.perm_middle
      have hxl : ∀ y ∈ a ++ b, less x y = true := fun y hy => by
        have h1 : less x y = true ∨ less y x = true := by
          rw [List.append_assoc, List.pairwise_append] at hpx; have h2 := hpx.2.1; rw [List.singleton_append, List.pairwise_cons] at h2; exact h2.1 y hy
        rcases h1 with h1 | h1
        · exact h1
        · obtain ⟨j, hj, e⟩ := List.getElem_of_mem ((hmem y).mpr (.inr hy))
          have h3 := hleast j hj; rw [getElem!_pos l j hj, e, h1] at h3; cases h3
      obtain ⟨s1, s2⟩ := selSort_spec less hi ht n (a ++ b) (out ++ [x]) (by omega) hpx (by
        rw [List.pairwise_append]
        exact ⟨ho, List.pairwise_singleton _ _, fun p hp q hq => by rw [List.mem_singleton.mp hq]; exact hol p hp x ((hmem x).mpr (.inl rfl))⟩) (by
        intro p hp q hq
        rcases List.mem_append.mp hp with h | h
        · exact hol p h q ((hmem q).mpr (.inr hq))
        · rw [List.mem_singleton.mp h]; exact hxl q hq)
      refine ⟨s1, fun y => (s2 y).trans ?_⟩; rw [hmem y, List.mem_append, List.mem_singleton, or_assoc]
    · rw [if_neg c]
      have : l = [] := List.eq_nil_of_length_eq_zero (by omega); subst this; exact ⟨ho, fun x => by simp⟩
end
end Go.Proofs.YtmaipohgahdclaaDoor.Pr
end
section
namespace Go.Proofs.YtmaipohgahdclaaDoor.Pr
open Go.RowKit Go.Proofs.YtmaipohgahdclaaDoorW.PrintWords Go.Proofs.YtmaipohgahdclaaDoorW.PrintLast Go.Proofs.YtmaipohgahdclaaDoorW.PrintMore
mutual
def ids : S29 → List ID
  | ⟨_, _, i, ps⟩ => i :: idsL ps
def idsL : List S29 → List ID
  | [] => []
  | p :: ps => ids p ++ idsL ps
end
mutual
def dep : S29 → Nat
  | ⟨_, _, _, ps⟩ => depL ps
def depL : List S29 → Nat
  | [] => 0
  | p :: ps => Nat.max (dep p + 1) (depL ps)
end
theorem ids_eq (p : Proof) : ids p = p.f2 :: idsL p.f3 := by cases p; rw [ids]
theorem dep_eq (p : Proof) : dep p = depL p.f3 := by cases p; rw [dep]
theorem idsL_nil : idsL [] = [] := by rw [idsL]
theorem idsL_cons (p : Proof) (ps : List Proof) : idsL (p :: ps) = ids p ++ idsL ps := by rw [idsL]
theorem depL_nil : depL [] = 0 := by rw [depL]
theorem depL_cons (p : Proof) (ps : List Proof) : depL (p :: ps) = Nat.max (dep p + 1) (depL ps) := by rw [depL]
def cnt (p : Proof) : Nat := (ids p).length
theorem cnt_pos (p : Proof) : 0 < cnt p := by
  unfold cnt; rw [ids_eq]; exact Nat.zero_lt_succ _
theorem mem_idsL {q : Proof} {ps : List Proof} (h : q ∈ ps) : ∀ i ∈ ids q, i ∈ idsL ps := by
  induction ps with
  | nil => cases h
  | cons p ps ih =>
    intro i hi; rw [idsL_cons, List.mem_append]
    rcases List.mem_cons.mp h with rfl | h
    · exact .inl hi
    · exact .inr (ih h i hi)
theorem mem_ids {q p : Proof} (h : q ∈ p.f3) : ∀ i ∈ ids q, i ∈ ids p := fun i hi => by
  rw [ids_eq]; exact List.mem_cons_of_mem _ (mem_idsL h i hi)
theorem self_ids (p : Proof) : p.f2 ∈ ids p := by
  rw [ids_eq]; exact List.mem_cons_self ..
theorem cnt_memL {q : Proof} {ps : List Proof} (h : q ∈ ps) : cnt q ≤ (idsL ps).length := by
  unfold cnt
  induction ps with
  | nil => cases h
  | cons p ps ih =>
    rw [idsL_cons, List.length_append]
    rcases List.mem_cons.mp h with rfl | h
    · omega
    · have := ih h
      omega
theorem cnt_mem {q p : Proof} (h : q ∈ p.f3) : cnt q < cnt p := by
  have := cnt_memL h
  show _ < (ids p).length
  rw [ids_eq, List.length_cons]; omega
theorem dep_memL {q : Proof} {ps : List Proof} (h : q ∈ ps) : dep q < depL ps := by
  induction ps with
  | nil => cases h
  | cons p ps ih =>
    rw [depL_cons]
    rcases List.mem_cons.mp h with rfl | h
    · exact Nat.lt_of_lt_of_le (Nat.lt_succ_self _) (Nat.le_max_left _ _)
    · exact Nat.lt_of_lt_of_le (ih h) (Nat.le_max_right _ _)
theorem dep_mem {q p : Proof} (h : q ∈ p.f3) : dep q < dep p := by rw [dep_eq p]; exact dep_memL h
theorem treeInd {P : Proof → Prop} (h : ∀ p, (∀ q ∈ p.f3, P q) → P p) : ∀ p, P p := by
  have : ∀ n p, cnt p ≤ n → P p := by
    intro n
    induction n with
    | zero => intro p hp; have := cnt_pos p; omega
    | succ n ih => exact fun p hp => h p fun q hq => ih q (by have := cnt_mem hq; omega)
  exact fun p => this (cnt p) p (Nat.le_refl _)
theorem depL_le : ∀ (ps : List Proof), (∀ q ∈ ps, dep q + 1 ≤ cnt q) → depL ps ≤ (idsL ps).length
  | [], _ => by rw [depL_nil]; omega
  | p :: ps, h => by
    rw [depL_cons, idsL_cons, List.length_append]; have h1 := h p (List.mem_cons_self ..)
    have h2 := depL_le ps fun q hq => h q (List.mem_cons_of_mem _ hq)
    unfold cnt at h1; exact Nat.max_le.mpr ⟨by omega, by omega⟩
theorem dep_lt : ∀ p, dep p + 1 ≤ cnt p := treeInd fun p ih => by
  have := depL_le p.f3 ih; rw [dep_eq]; unfold cnt; rw [ids_eq, List.length_cons]; omega
theorem parts_le : ∀ ps : List Proof, ps.length ≤ (idsL ps).length
  | [] => Nat.zero_le _
  | p :: ps => by
    rw [idsL_cons, List.length_append, List.length_cons]; have h1 := cnt_pos p; have h2 := parts_le ps; unfold cnt at h1; omega
theorem parts_lt (p : Proof) : p.f3.length < cnt p := by
  unfold cnt; rw [ids_eq, List.length_cons]; have := parts_le p.f3; omega
theorem rdP (ps : List Proof) (i : Nat) (h : i < ps.length) : Qat ps (i : Int) = ps[i] := by
  unfold Qat; rw [Int.toNat_natCast, List.getD_eq_getElem?_getD, List.getElem?_eq_getElem h]; rfl
theorem dropP (ps : List Proof) (i : Nat) (h : i < ps.length) : ps.drop i = ps[i] :: ps.drop (i + 1) := List.drop_eq_getElem_cons h
def okTree (p : Proof) : Prop := ∀ i ∈ ids p, okID i
theorem okTree.mem {p q : Proof} (h : okTree p) (hq : q ∈ p.f3) : okTree q := fun i hi => h i (mem_ids hq i hi)
end Go.Proofs.YtmaipohgahdclaaDoor.Pr
end
