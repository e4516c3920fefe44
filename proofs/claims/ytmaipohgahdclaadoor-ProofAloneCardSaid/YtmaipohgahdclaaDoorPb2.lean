/- The proof's own texts, joined: part 2. No conditions. -/
import Derived.OrdersHeld
import Derived.Deep.RegionHeld3
import Derived.Laws.BitsLemmas
import Derived.RowKit
import Derived.Laws.StructEq
import Derived.Test.YtmaipohgahdclaaDoorProg
import Derived.Below
import Derived.Deep.Draws
import Derived.Deep.AppendLies
import Derived.Maps.AppendAt
import Derived.OwnWalk
import Derived.Laws.BytesArg
import Derived.Laws.MakeOwn
import Derived.Laws.OwnMore
import Derived.Deep.OwnRows
import Derived.Tactics
import Derived.Lib.ConvBytes
import Derived.Laws.Slices
import Derived.WalkKit
import Derived.KernelRfl
import Derived.RowKit3
import Derived.Deep.LoopGhost
import Derived.Deep.QuietTactic
import Derived.BigQuiet
import Derived.WideLaws
import Derived.Deep.DeepCutAuto
import Derived.Deep.CutBlock
import Derived.Laws.Rows
import Derived.Lib.AppendStr
import Derived.ArgAppend
import Derived.Laws.IdiomCopy
import Derived.Shelf.SlicesG.Cmp
import Derived.WalkSpells
import Derived.Lib.Hide
import Derived.StillTailTactics
import Derived.Sort.Grow
import Derived.Lib.SlicesS
import Derived.Ground.SlgcProg
import Derived.Maps.OwnSet
import Derived.Maps.RangeRun
import Derived.Maps.Range
import Derived.Carry
import Derived.WalkLawsBesides
import Derived.Deep.RegionWith
import Derived.RegionTactic
import Derived.ChangeAlike
import Derived.Deep.RegionLaw
import Derived.Lib.SmallJoins
import Derived.DeepKeys4
import Derived.Outline
import Derived.Shelf.GgSortFunc.InsertionK
import Derived.Sort.LotA
import Derived.Shelf.SlicesE.Clone
import Derived.Shelf.SlSortCmp.NoneTotal
import Derived.Shelf.SlSortCmp.WholeK
import Derived.Ground.SlsfProg
import Derived.Ground.SlgnProg
import Derived.Sort.Walk0
import Derived.Laws.Strings
import Derived.Laws.RangeAny
import Derived.Laws.Closers25
import Derived.Test.YtmaipohgahdclaaDoorPb0
import Derived.Test.YtmaipohgahdclaaDoorPb1
section
namespace Go.Proofs.YtmaipohgahdclaaDoor.Pr
open Go.RowKit Go.Proofs.YtmaipohgahdclaaDoorW.PrintWords Go.Proofs.YtmaipohgahdclaaDoorW.PrintLast Go.Proofs.YtmaipohgahdclaaDoorW.PrintMore
attribute [local go_sem] max2_int min2_int max_two min_two QaQ QaP max_four min_four
set_option linter.unusedVariables false
set_option linter.unusedSimpArgs false
mutual
def QaE.l0 : Nat → Int → List (S29) → Int → Int → Option (Bool)
 | 0, _, _, _, _ => none
 | k + 1, x1, x10, x11, x12 => if x12 < x11 then (if 0 ≤ x12 then (if x12 < (x10.length : Int) then ((QaE.f k ((QaB x10 x12).f0.f0) ((QaB x10 x12).f0.f1) ((QaB x10 x12).f1) ((QaB x10 x12).f2.f0) ((QaB x10 x12).f2.f1) ((QaB x10 x12).f3) (wrap64 (x1 - 1))).bind fun t104 => (if t104 = true then (QaE.l0 k x1 x10 x11 (wrap64 (x12 + 1))) else (some false))) else (none)) else (none)) else (some true)
def QaE.f : Nat → ByteArray → ByteArray → ByteArray → Int → Int → List (S29) → Int → Option (Bool)
 | 0, _, _, _, _, _, _, _ => none
 | k + 1, a0_0, a0_1, a0_2, a0_3, a0_4, l0_5, a1 => if a1 < 0 then (some false) else (QaE.l0 k a1 l0_5 (l0_5.length : Int) 0)
end
set_option maxHeartbeats 8000000 in
set_option maxRecDepth 100000 in
theorem QaE.calls (k : Nat) : ∀ (a0_0 : ByteArray) (a0_1 : ByteArray) (a0_2 : ByteArray) (a0_3 : Int) (a0_4 : Int) (A0_5 : Option Addr) (c0_5 : Nat) (l0_5 : List (S29)) (a1 : Int) (r : Bool) (w : World) (hr0_5 : Kd.C k29 w A0_5 l0_5.length l0_5) (hc0_5 : l0_5.length ≤ c0_5) (h : QaE.f k a0_0 a0_1 a0_2 a0_3 a0_4 l0_5 a1 = some r),
  Calls Tryd.prog 20 #[.agg #[.string a0_0, .string a0_1, .string a0_2, .int .i64 a0_3, .int .i64 a0_4, .slice A0_5 l0_5.length c0_5], .int .i64 a1] w fun e w' => e = .returned (.bool r) ∧ Below w.heap.size w w' := by
 induction k using Nat.strongRecOn with
 | _ k ih =>
 intro a0_0 a0_1 a0_2 a0_3 a0_4 A0_5 c0_5 l0_5 a1 r w hr0_5 hc0_5 h
 cases k with
 | zero => exact absurd h (by simp [QaE.f])
 | succ k =>
 simp only [QaE.f] at h; have hu29 := Tryd.underlying29; have HR0_5 := Qad.mk hr0_5; have HC0_5 := Qad.mk hc0_5; clear hr0_5 hc0_5; have HB := Qad.mk (Below.refl w.heap.size w); have H : (if a1 < 0 then (some false) else (QaE.l0 k a1 l0_5 (l0_5.length : Int) 0)) = some r := h; clear h
 by_cases c3 : a1 < 0
 ·rw [if_pos c3] at H; have c3b0 : decide (a1 < 0) = true := decide_eq_true c3; clear c3; obtain rfl := Option.some.inj H; go_enter Tryd.func20, Tryd.ntmps20
  go_wp2_with (first | ((with_reducible refine gate_dst (N := 2) rfl ?_); refine QaO ?hg (N := 2) ?hd (cs := #[.string a0_0, .string a0_1, .string a0_2, .int .i64 a0_3, .int .i64 a0_4, .slice A0_5 l0_5.length c0_5]) (t := 29) ?hr ?_; (case hd => rfl); (case hg => rfl); (case hr => first | (go_simp; done) | (go_simp; rfl)); intro gb101 hg w4 hbox hb; have n0_ := Qad.mk (Qai (by repeat (first | (with_reducible first | exact HB.out | apply Qab | apply Qaa | apply Qac) | exact HB.out)) hb); have n1_ := Qad.mk (hbox); have n2_ := Qad.mk ((by rw [hg]; exact (Qaq (by repeat (first | (with_reducible first | exact HB.out | apply Qab | apply Qaa | apply Qac) | exact HB.out))) : w.heap.size ≤ gb101)); have n3_ := n2_; clear HB; have HB := n0_; have BK101 := n1_; have GW101 := n2_; have GE101 := n3_; clear n0_ n1_ n2_ n3_; clear hb hbox hg))
  go_ret; exact ⟨by first | rfl | (simp [Qaz, Qay] <;> rfl) | (simp [*, Qaz, Qay] <;> rfl), by repeat (first | (with_reducible first | exact HB.out | apply Qab | apply Qaa | apply Qac | refine Qag ?_ GE101.out) | exact HB.out)⟩
 ·rw [if_neg c3] at H; have c3b0 : decide (a1 < 0) = false := decide_eq_false c3; clear c3; have H' := Qad.mk H; clear H; go_enter Tryd.func20, Tryd.ntmps20
  go_wp2_with (first | ((with_reducible refine gate_dst (N := 2) rfl ?_); refine QaO ?hg (N := 2) ?hd (cs := #[.string a0_0, .string a0_1, .string a0_2, .int .i64 a0_3, .int .i64 a0_4, .slice A0_5 l0_5.length c0_5]) (t := 29) ?hr ?_; (case hd => rfl); (case hg => rfl); (case hr => first | (go_simp; done) | (go_simp; rfl)); intro gb101 hg w5 hbox hb; have n0_ := Qad.mk (Qai (by repeat (first | (with_reducible first | exact HB.out | apply Qab | apply Qaa | apply Qac) | exact HB.out)) hb); have n1_ := Qad.mk (hbox); have n2_ := Qad.mk ((by rw [hg]; exact (Qaq (by repeat (first | (with_reducible first | exact HB.out | apply Qab | apply Qaa | apply Qac) | exact HB.out))) : w.heap.size ≤ gb101)); have n3_ := n2_; clear HB; have HB := n0_; have BK101 := n1_; have GW101 := n2_; have GE101 := n3_; clear n0_ n1_ n2_ n3_; clear hb hbox hg; obtain ⟨hcz6_0, hcz6_1, hcz6_2, hcz6_3, hcz6_4, hcz6_5⟩ := QaK BK101.out; obtain ⟨hfz6_0, hfz6_1, hfz6_2, hfz6_3, hfz6_4, hfz6_5⟩ := fz_6 BK101.out))
  go_loopg [12] k (fun kq v12 w' => ∃ (x12_1 : Int), v12 = .int .i64 x12_1 ∧ Qad (QaE.l0 kq a1 l0_5 (l0_5.length : Int) x12_1 = some r) ∧ Qad (kq ≤ k) ∧ Qad (w'.heap[gb101]? = some (.cells #[.string a0_0, .string a0_1, .string a0_2, .int .i64 a0_3, .int .i64 a0_4, (.slice A0_5 l0_5.length c0_5)] 29 (0, 0))) ∧ Qad (Below w.heap.size w w'))
  case atStart => exact ⟨(0), (by first | rfl | (simp; done) | (simp [*]; done)), H', ⟨Nat.le_refl _⟩, ⟨by (with_reducible repeat (first | refine Qaf ?_ _ | refine Qah ?_ | refine Qae ?_ _)); exact BK101.out⟩, ⟨by repeat (first | (with_reducible first | exact HB.out | apply Qab | apply Qaa | apply Qac | refine Qag ?_ GE101.out) | exact HB.out)⟩⟩
  case round =>
   clear H'; (try clear c2); (try clear p2); (try clear c3); (try clear c3b0); (try clear hcz6_0); (try clear hcz6_1); (try clear hcz6_2); (try clear hcz6_3); (try clear hcz6_4); (try clear hcz6_5); (try clear hfz6_0); (try clear hfz6_1); (try clear hfz6_2); (try clear hfz6_3); (try clear hfz6_4); (try clear hfz6_5); obtain ⟨x12_1, rfl, HA, HK1, BK101, HB⟩ := hrel
   cases gk with
   | zero => exact absurd HA.out (by simp [QaE.l0])
   | succ k1 =>
    have H := HA.out; clear HA; simp only [QaE.l0] at H
    by_cases c7 : x12_1 < (l0_5.length : Int)
    ·rw [if_pos c7] at H; have c7b0 : decide (x12_1 < (l0_5.length : Int)) = true := decide_eq_true c7; clear c7
     by_cases c8 : 0 ≤ x12_1
     ·rw [if_pos c8] at H; have c8b0 : decide (0 ≤ x12_1) = true := decide_eq_true c8; clear c8
      by_cases c9 : x12_1 < (l0_5.length : Int)
      ·rw [if_pos c9] at H; have c9b0 : decide (x12_1 < (l0_5.length : Int)) = true := decide_eq_true c9; clear c9; replace H := Option.bind_eq_some_iff.mp H; obtain ⟨t104, A100, H⟩ := H; replace H : (if t104 = true then (QaE.l0 k1 a1 l0_5 (l0_5.length : Int) (wrap64 (x12_1 + 1))) else (some false)) = some r := H; have A10 := Qad.mk A100; clear A100
       by_cases c11 : t104 = true
       ·subst c11
        have H1 : (QaE.l0 k1 a1 l0_5 (l0_5.length : Int) (wrap64 (x12_1 + 1))) = some r := by rw [if_pos rfl] at H; exact H
        clear H; have H := H1; clear H1; have H' := Qad.mk H; clear H; have p102 : 0 ≤ (x12_1 : Int) := of_decide_eq_true (by first | (with_reducible assumption) | assumption); have q102 : x12_1 < (l0_5.length : Int) := of_decide_eq_true (by first | (with_reducible assumption) | assumption); obtain ⟨ad102, A102_5, c102_5, e102, hx102_0, hx102_1, hx102_2, hx102_3, hx102_4, hx102_5, hl102_5, hi102_5⟩ := at_T29 HR0_5.out x12_1 p102 q102; cases e102; replace hx102_0 := (HB.out.cell (World.block_lt_of_cell? w _ hx102_0)).trans hx102_0; replace hx102_1 := (HB.out.cell (World.block_lt_of_cell? w _ hx102_1)).trans hx102_1; replace hx102_2 := (HB.out.cell (World.block_lt_of_cell? w _ hx102_2)).trans hx102_2; replace hx102_3 := (HB.out.cell (World.block_lt_of_cell? w _ hx102_3)).trans hx102_3; replace hx102_4 := (HB.out.cell (World.block_lt_of_cell? w _ hx102_4)).trans hx102_4; replace hx102_5 := (HB.out.cell (World.block_lt_of_cell? w _ hx102_5)).trans hx102_5; have HR102_5 := Qad.mk hi102_5; have HC102_5 := Qad.mk hl102_5; clear hi102_5 hl102_5; replace p102 := eq_true p102; replace q102 := eq_true q102
        go_wp2_with (first | ((with_reducible refine gate_dst (N := 6) rfl ?_); refine QaO ?hg (N := 6) ?hd (cs := #[.string (⟨#[]⟩ : ByteArray), .string (⟨#[]⟩ : ByteArray), .string (⟨#[]⟩ : ByteArray), .int .i64 0, .int .i64 0, .slice none 0 0]) (t := 29) ?hr ?_; (case hd => rfl); (case hg => rfl); (case hr => first | (go_simp; done) | (go_simp; rfl)); intro gb103 hg w12 hbox hb; have n0_ := Qad.mk (Qak (g := gb101) (o := Qao a0_0 a0_1 a0_2 a0_3 a0_4 (.slice (some ad102) l0_5.length c0_5) 29) (by (with_reducible repeat (first | refine Qaf ?_ _ | refine Qah ?_ | refine Qae ?_ _)); exact BK101.out) hb); have n1_ := Qad.mk (Qai (by repeat (first | (with_reducible first | exact HB.out | apply Qab | apply Qaa | apply Qac | refine Qag ?_ GE101.out) | exact HB.out)) hb); have n2_ := Qad.mk (hbox); have n3_ := Qad.mk ((by rw [hg]; exact (Qaq (by repeat (first | (with_reducible first | exact HB.out | apply Qab | apply Qaa | apply Qac | refine Qag ?_ GE101.out) | exact HB.out))) : w.heap.size ≤ gb103)); have n4_ := n3_; have n5_ := Qad.mk ((by rw [hg]; exact Nat.ne_of_lt (blk_lt (g := gb101) (o := Qao a0_0 a0_1 a0_2 a0_3 a0_4 (.slice (some ad102) l0_5.length c0_5) 29) (by (with_reducible repeat (first | refine Qaf ?_ _ | refine Qah ?_ | refine Qae ?_ _)); exact BK101.out)) : gb101 ≠ gb103)); have n6_ := Qad.mk ((by rw [hg]; exact Nat.ne_of_gt (blk_lt (g := gb101) (o := Qao a0_0 a0_1 a0_2 a0_3 a0_4 (.slice (some ad102) l0_5.length c0_5) 29) (by (with_reducible repeat (first | refine Qaf ?_ _ | refine Qah ?_ | refine Qae ?_ _)); exact BK101.out)) : gb103 ≠ gb101)); clear BK101; clear HB; have BK101 := n0_; have HB := n1_; have BK103 := n2_; have GW103 := n3_; have GE103 := n4_; have NB101_103 := n5_; have NB103_101 := n6_; clear n0_ n1_ n2_ n3_ n4_ n5_ n6_; clear hb hbox hg; have hnb13 := NB103_101.out; have hnc13 := NB101_103.out; obtain ⟨hcz14_0, hcz14_1, hcz14_2, hcz14_3, hcz14_4, hcz14_5⟩ := QaK BK103.out; obtain ⟨hfz14_0, hfz14_1, hfz14_2, hfz14_3, hfz14_4, hfz14_5⟩ := fz_6 BK103.out) | ((with_reducible refine gate_callee (f := 20) rfl ?_); refine goesL_ (some 19) rfl rfl Tryd.func20 (by kernel_rfl) rfl #[.agg #[.string ((QaB l0_5 x12_1).f0.f0), .string ((QaB l0_5 x12_1).f0.f1), .string ((QaB l0_5 x12_1).f1), .int .i64 ((QaB l0_5 x12_1).f2.f0), .int .i64 ((QaB l0_5 x12_1).f2.f1), .slice A102_5 ((QaB l0_5 x12_1).f3).length c102_5], .int .i64 (wrap64 (a1 - 1))] rfl (by (try simp only [List.map_toArray, List.map_cons, List.map_nil]); first | done | rfl | (simp only [List.length_drop, List.length_take]; rfl)) ?_; (with_reducible refine (ih k1 (by have := HK1.out; omega) ((QaB l0_5 x12_1).f0.f0) ((QaB l0_5 x12_1).f0.f1) ((QaB l0_5 x12_1).f1) ((QaB l0_5 x12_1).f2.f0) ((QaB l0_5 x12_1).f2.f1) _ _ ((QaB l0_5 x12_1).f3) (wrap64 (a1 - 1)) true _ ?side1 ?side2 A10.out).mono ?_); (case side1 => exact Kd.QaI HR102_5.out (by repeat (first | (with_reducible first | exact HB.out | apply Qab | apply Qaa | apply Qac | refine Qag ?_ GE101.out | refine Qag ?_ GE103.out) | exact HB.out))); (case side2 => exact HC102_5.out); rintro e w15 ⟨rfl, hb⟩; refine ⟨_, rfl, ?_⟩; have n0_ := Qad.mk (Qak (g := gb101) (o := Qao a0_0 a0_1 a0_2 a0_3 a0_4 (.slice (some ad102) l0_5.length c0_5) 29) (by (with_reducible repeat (first | refine Qaf ?_ _ | refine Qah ?_ | refine Qae ?_ _)); refine blk_far ?_ NB101_103.out _; (with_reducible repeat (first | refine Qaf ?_ _ | refine Qah ?_ | refine Qae ?_ _)); refine blk_far ?_ NB101_103.out _; (with_reducible repeat (first | refine Qaf ?_ _ | refine Qah ?_ | refine Qae ?_ _)); refine blk_far ?_ NB101_103.out _; (with_reducible repeat (first | refine Qaf ?_ _ | refine Qah ?_ | refine Qae ?_ _)); refine blk_far ?_ NB101_103.out _; (with_reducible repeat (first | refine Qaf ?_ _ | refine Qah ?_ | refine Qae ?_ _)); refine blk_far ?_ NB101_103.out _; (with_reducible repeat (first | refine Qaf ?_ _ | refine Qah ?_ | refine Qae ?_ _)); refine blk_far ?_ NB101_103.out _; (with_reducible repeat (first | refine Qaf ?_ _ | refine Qah ?_ | refine Qae ?_ _)); exact BK101.out) hb); have n1_ := Qad.mk (Qak (g := gb103) (o := Qao ((QaB l0_5 x12_1).f0.f0) ((QaB l0_5 x12_1).f0.f1) ((QaB l0_5 x12_1).f1) ((QaB l0_5 x12_1).f2.f0) ((QaB l0_5 x12_1).f2.f1) (.slice A102_5 ((QaB l0_5 x12_1).f3).length c102_5) 29) (by (with_reducible repeat (first | refine Qaf ?_ _ | refine Qah ?_ | refine Qae ?_ _)); refine blk_put (cs := #[.string ((QaB l0_5 x12_1).f0.f0), .string ((QaB l0_5 x12_1).f0.f1), .string ((QaB l0_5 x12_1).f1), .int .i64 ((QaB l0_5 x12_1).f2.f0), .int .i64 ((QaB l0_5 x12_1).f2.f1), .slice none 0 0]) ?_ 5 _ rfl; (with_reducible repeat (first | refine Qaf ?_ _ | refine Qah ?_ | refine Qae ?_ _)); refine blk_put (cs := #[.string ((QaB l0_5 x12_1).f0.f0), .string ((QaB l0_5 x12_1).f0.f1), .string ((QaB l0_5 x12_1).f1), .int .i64 ((QaB l0_5 x12_1).f2.f0), .int .i64 0, .slice none 0 0]) ?_ 4 _ rfl; (with_reducible repeat (first | refine Qaf ?_ _ | refine Qah ?_ | refine Qae ?_ _)); refine blk_put (cs := #[.string ((QaB l0_5 x12_1).f0.f0), .string ((QaB l0_5 x12_1).f0.f1), .string ((QaB l0_5 x12_1).f1), .int .i64 0, .int .i64 0, .slice none 0 0]) ?_ 3 _ rfl; (with_reducible repeat (first | refine Qaf ?_ _ | refine Qah ?_ | refine Qae ?_ _)); refine blk_put (cs := #[.string ((QaB l0_5 x12_1).f0.f0), .string ((QaB l0_5 x12_1).f0.f1), .string (⟨#[]⟩ : ByteArray), .int .i64 0, .int .i64 0, .slice none 0 0]) ?_ 2 _ rfl; (with_reducible repeat (first | refine Qaf ?_ _ | refine Qah ?_ | refine Qae ?_ _)); refine blk_put (cs := #[.string ((QaB l0_5 x12_1).f0.f0), .string (⟨#[]⟩ : ByteArray), .string (⟨#[]⟩ : ByteArray), .int .i64 0, .int .i64 0, .slice none 0 0]) ?_ 1 _ rfl; (with_reducible repeat (first | refine Qaf ?_ _ | refine Qah ?_ | refine Qae ?_ _)); refine blk_put (cs := #[.string (⟨#[]⟩ : ByteArray), .string (⟨#[]⟩ : ByteArray), .string (⟨#[]⟩ : ByteArray), .int .i64 0, .int .i64 0, .slice none 0 0]) ?_ 0 _ rfl; (with_reducible repeat (first | refine Qaf ?_ _ | refine Qah ?_ | refine Qae ?_ _)); exact BK103.out) hb); have n2_ := Qad.mk (Qai (by repeat (first | (with_reducible first | exact HB.out | apply Qab | apply Qaa | apply Qac | refine Qag ?_ GE101.out | refine Qag ?_ GE103.out) | exact HB.out)) hb); clear BK101; clear BK103; clear HB; have BK101 := n0_; have BK103 := n1_; have HB := n2_; clear n0_ n1_ n2_; (try clear hb); (try clear hb2); (try clear hk); (try clear hi)))
        go_roundg k1
        case measure => have := HK1.out; omega
        case rel => exact ⟨(wrap64 (x12_1 + 1)), (by first | rfl | (simp; done) | (simp [*]; done)), H', ⟨by have := HK1.out; omega⟩, ⟨by (with_reducible repeat (first | refine Qaf ?_ _ | refine Qah ?_ | refine Qae ?_ _)); exact BK101.out⟩, ⟨by repeat (first | (with_reducible first | exact HB.out | apply Qab | apply Qaa | apply Qac | refine Qag ?_ GE101.out | refine Qag ?_ GE103.out) | exact HB.out)⟩⟩
       ·replace c11 := Bool.eq_false_iff.mpr c11; subst c11
        have H1 : (some false) = some r := by rw [if_neg (show ¬ (false = true) by decide)] at H; exact H
        clear H; have H := H1; clear H1; obtain rfl := Option.some.inj H; have p102 : 0 ≤ (x12_1 : Int) := of_decide_eq_true (by first | (with_reducible assumption) | assumption); have q102 : x12_1 < (l0_5.length : Int) := of_decide_eq_true (by first | (with_reducible assumption) | assumption); obtain ⟨ad102, A102_5, c102_5, e102, hx102_0, hx102_1, hx102_2, hx102_3, hx102_4, hx102_5, hl102_5, hi102_5⟩ := at_T29 HR0_5.out x12_1 p102 q102; cases e102; replace hx102_0 := (HB.out.cell (World.block_lt_of_cell? w _ hx102_0)).trans hx102_0; replace hx102_1 := (HB.out.cell (World.block_lt_of_cell? w _ hx102_1)).trans hx102_1; replace hx102_2 := (HB.out.cell (World.block_lt_of_cell? w _ hx102_2)).trans hx102_2; replace hx102_3 := (HB.out.cell (World.block_lt_of_cell? w _ hx102_3)).trans hx102_3; replace hx102_4 := (HB.out.cell (World.block_lt_of_cell? w _ hx102_4)).trans hx102_4; replace hx102_5 := (HB.out.cell (World.block_lt_of_cell? w _ hx102_5)).trans hx102_5; have HR102_5 := Qad.mk hi102_5; have HC102_5 := Qad.mk hl102_5; clear hi102_5 hl102_5; replace p102 := eq_true p102; replace q102 := eq_true q102
        go_wp2_with (first | ((with_reducible refine gate_dst (N := 6) rfl ?_); refine QaO ?hg (N := 6) ?hd (cs := #[.string (⟨#[]⟩ : ByteArray), .string (⟨#[]⟩ : ByteArray), .string (⟨#[]⟩ : ByteArray), .int .i64 0, .int .i64 0, .slice none 0 0]) (t := 29) ?hr ?_; (case hd => rfl); (case hg => rfl); (case hr => first | (go_simp; done) | (go_simp; rfl)); intro gb103 hg w16 hbox hb; have n0_ := Qad.mk (Qak (g := gb101) (o := Qao a0_0 a0_1 a0_2 a0_3 a0_4 (.slice (some ad102) l0_5.length c0_5) 29) (by (with_reducible repeat (first | refine Qaf ?_ _ | refine Qah ?_ | refine Qae ?_ _)); exact BK101.out) hb); have n1_ := Qad.mk (Qai (by repeat (first | (with_reducible first | exact HB.out | apply Qab | apply Qaa | apply Qac | refine Qag ?_ GE101.out) | exact HB.out)) hb); have n2_ := Qad.mk (hbox); have n3_ := Qad.mk ((by rw [hg]; exact (Qaq (by repeat (first | (with_reducible first | exact HB.out | apply Qab | apply Qaa | apply Qac | refine Qag ?_ GE101.out) | exact HB.out))) : w.heap.size ≤ gb103)); have n4_ := n3_; have n5_ := Qad.mk ((by rw [hg]; exact Nat.ne_of_lt (blk_lt (g := gb101) (o := Qao a0_0 a0_1 a0_2 a0_3 a0_4 (.slice (some ad102) l0_5.length c0_5) 29) (by (with_reducible repeat (first | refine Qaf ?_ _ | refine Qah ?_ | refine Qae ?_ _)); exact BK101.out)) : gb101 ≠ gb103)); have n6_ := Qad.mk ((by rw [hg]; exact Nat.ne_of_gt (blk_lt (g := gb101) (o := Qao a0_0 a0_1 a0_2 a0_3 a0_4 (.slice (some ad102) l0_5.length c0_5) 29) (by (with_reducible repeat (first | refine Qaf ?_ _ | refine Qah ?_ | refine Qae ?_ _)); exact BK101.out)) : gb103 ≠ gb101)); clear BK101; clear HB; have BK101 := n0_; have HB := n1_; have BK103 := n2_; have GW103 := n3_; have GE103 := n4_; have NB101_103 := n5_; have NB103_101 := n6_; clear n0_ n1_ n2_ n3_ n4_ n5_ n6_; clear hb hbox hg; have hnb17 := NB103_101.out; have hnc17 := NB101_103.out; obtain ⟨hcz18_0, hcz18_1, hcz18_2, hcz18_3, hcz18_4, hcz18_5⟩ := QaK BK103.out; obtain ⟨hfz18_0, hfz18_1, hfz18_2, hfz18_3, hfz18_4, hfz18_5⟩ := fz_6 BK103.out) | ((with_reducible refine gate_callee (f := 20) rfl ?_); refine goesL_ (some 19) rfl rfl Tryd.func20 (by kernel_rfl) rfl #[.agg #[.string ((QaB l0_5 x12_1).f0.f0), .string ((QaB l0_5 x12_1).f0.f1), .string ((QaB l0_5 x12_1).f1), .int .i64 ((QaB l0_5 x12_1).f2.f0), .int .i64 ((QaB l0_5 x12_1).f2.f1), .slice A102_5 ((QaB l0_5 x12_1).f3).length c102_5], .int .i64 (wrap64 (a1 - 1))] rfl (by (try simp only [List.map_toArray, List.map_cons, List.map_nil]); first | done | rfl | (simp only [List.length_drop, List.length_take]; rfl)) ?_; (with_reducible refine (ih k1 (by have := HK1.out; omega) ((QaB l0_5 x12_1).f0.f0) ((QaB l0_5 x12_1).f0.f1) ((QaB l0_5 x12_1).f1) ((QaB l0_5 x12_1).f2.f0) ((QaB l0_5 x12_1).f2.f1) _ _ ((QaB l0_5 x12_1).f3) (wrap64 (a1 - 1)) false _ ?side1 ?side2 A10.out).mono ?_); (case side1 => exact Kd.QaI HR102_5.out (by repeat (first | (with_reducible first | exact HB.out | apply Qab | apply Qaa | apply Qac | refine Qag ?_ GE101.out | refine Qag ?_ GE103.out) | exact HB.out))); (case side2 => exact HC102_5.out); rintro e w19 ⟨rfl, hb⟩; refine ⟨_, rfl, ?_⟩; have n0_ := Qad.mk (Qak (g := gb101) (o := Qao a0_0 a0_1 a0_2 a0_3 a0_4 (.slice (some ad102) l0_5.length c0_5) 29) (by (with_reducible repeat (first | refine Qaf ?_ _ | refine Qah ?_ | refine Qae ?_ _)); refine blk_far ?_ NB101_103.out _; (with_reducible repeat (first | refine Qaf ?_ _ | refine Qah ?_ | refine Qae ?_ _)); refine blk_far ?_ NB101_103.out _; (with_reducible repeat (first | refine Qaf ?_ _ | refine Qah ?_ | refine Qae ?_ _)); refine blk_far ?_ NB101_103.out _; (with_reducible repeat (first | refine Qaf ?_ _ | refine Qah ?_ | refine Qae ?_ _)); refine blk_far ?_ NB101_103.out _; (with_reducible repeat (first | refine Qaf ?_ _ | refine Qah ?_ | refine Qae ?_ _)); refine blk_far ?_ NB101_103.out _; (with_reducible repeat (first | refine Qaf ?_ _ | refine Qah ?_ | refine Qae ?_ _)); refine blk_far ?_ NB101_103.out _; (with_reducible repeat (first | refine Qaf ?_ _ | refine Qah ?_ | refine Qae ?_ _)); exact BK101.out) hb); have n1_ := Qad.mk (Qak (g := gb103) (o := Qao ((QaB l0_5 x12_1).f0.f0) ((QaB l0_5 x12_1).f0.f1) ((QaB l0_5 x12_1).f1) ((QaB l0_5 x12_1).f2.f0) ((QaB l0_5 x12_1).f2.f1) (.slice A102_5 ((QaB l0_5 x12_1).f3).length c102_5) 29) (by (with_reducible repeat (first | refine Qaf ?_ _ | refine Qah ?_ | refine Qae ?_ _)); refine blk_put (cs := #[.string ((QaB l0_5 x12_1).f0.f0), .string ((QaB l0_5 x12_1).f0.f1), .string ((QaB l0_5 x12_1).f1), .int .i64 ((QaB l0_5 x12_1).f2.f0), .int .i64 ((QaB l0_5 x12_1).f2.f1), .slice none 0 0]) ?_ 5 _ rfl; (with_reducible repeat (first | refine Qaf ?_ _ | refine Qah ?_ | refine Qae ?_ _)); refine blk_put (cs := #[.string ((QaB l0_5 x12_1).f0.f0), .string ((QaB l0_5 x12_1).f0.f1), .string ((QaB l0_5 x12_1).f1), .int .i64 ((QaB l0_5 x12_1).f2.f0), .int .i64 0, .slice none 0 0]) ?_ 4 _ rfl; (with_reducible repeat (first | refine Qaf ?_ _ | refine Qah ?_ | refine Qae ?_ _)); refine blk_put (cs := #[.string ((QaB l0_5 x12_1).f0.f0), .string ((QaB l0_5 x12_1).f0.f1), .string ((QaB l0_5 x12_1).f1), .int .i64 0, .int .i64 0, .slice none 0 0]) ?_ 3 _ rfl; (with_reducible repeat (first | refine Qaf ?_ _ | refine Qah ?_ | refine Qae ?_ _)); refine blk_put (cs := #[.string ((QaB l0_5 x12_1).f0.f0), .string ((QaB l0_5 x12_1).f0.f1), .string (⟨#[]⟩ : ByteArray), .int .i64 0, .int .i64 0, .slice none 0 0]) ?_ 2 _ rfl; (with_reducible repeat (first | refine Qaf ?_ _ | refine Qah ?_ | refine Qae ?_ _)); refine blk_put (cs := #[.string ((QaB l0_5 x12_1).f0.f0), .string (⟨#[]⟩ : ByteArray), .string (⟨#[]⟩ : ByteArray), .int .i64 0, .int .i64 0, .slice none 0 0]) ?_ 1 _ rfl; (with_reducible repeat (first | refine Qaf ?_ _ | refine Qah ?_ | refine Qae ?_ _)); refine blk_put (cs := #[.string (⟨#[]⟩ : ByteArray), .string (⟨#[]⟩ : ByteArray), .string (⟨#[]⟩ : ByteArray), .int .i64 0, .int .i64 0, .slice none 0 0]) ?_ 0 _ rfl; (with_reducible repeat (first | refine Qaf ?_ _ | refine Qah ?_ | refine Qae ?_ _)); exact BK103.out) hb); have n2_ := Qad.mk (Qai (by repeat (first | (with_reducible first | exact HB.out | apply Qab | apply Qaa | apply Qac | refine Qag ?_ GE101.out | refine Qag ?_ GE103.out) | exact HB.out)) hb); clear BK101; clear BK103; clear HB; have BK101 := n0_; have BK103 := n1_; have HB := n2_; clear n0_ n1_ n2_; (try clear hb); (try clear hb2); (try clear hk); (try clear hi)))
        go_ret; exact ⟨by first | rfl | (simp [Qaz, Qay] <;> rfl) | (simp [*, Qaz, Qay] <;> rfl), by repeat (first | (with_reducible first | exact HB.out | apply Qab | apply Qaa | apply Qac | refine Qag ?_ GE101.out | refine Qag ?_ GE103.out) | exact HB.out)⟩
      ·rw [if_neg c9] at H; exact absurd H (by simp)
     ·rw [if_neg c8] at H; exact absurd H (by simp)
    ·rw [if_neg c7] at H; have c7b0 : decide (x12_1 < (l0_5.length : Int)) = false := decide_eq_false c7; clear c7; obtain rfl := Option.some.inj H; go_wp2; go_ret; exact ⟨by first | rfl | (simp [Qaz, Qay] <;> rfl) | (simp [*, Qaz, Qay] <;> rfl), by repeat (first | (with_reducible first | exact HB.out | apply Qab | apply Qaa | apply Qac | refine Qag ?_ GE101.out) | exact HB.out)⟩
mutual
def Qaw.j0 : Nat → ByteArray → Bool → Option (Bool)
 | 0, _, _ => none
 | k + 1, x0, x23 => if x23 = true then (some false) else (Qaw.l0 k x0 1)
def Qaw.l0 : Nat → ByteArray → Int → Option (Bool)
 | 0, _, _ => none
 | k + 1, x0, x3 => if x3 < (x0.size : Int) then (if 0 ≤ x3 then (if (bt x0 x3) ≥ 97 then (if (bt x0 x3) ≥ 48 then (if ((bt x0 x3) ≤ 122) then (Qaw.l0 k x0 (wrap64 (x3 + 1))) else (if ((bt x0 x3) ≤ 57) then (Qaw.l0 k x0 (wrap64 (x3 + 1))) else (some false))) else (if ((bt x0 x3) ≤ 122) then (Qaw.l0 k x0 (wrap64 (x3 + 1))) else (some false))) else (if (bt x0 x3) ≥ 48 then (if ((bt x0 x3) ≤ 57) then (Qaw.l0 k x0 (wrap64 (x3 + 1))) else (some false)) else (some false))) else (none)) else (some true)
end
def Qaw.f (k : Nat) (a0 : ByteArray) : Option (Bool) := if (a0.size : Int) < 1 then (Qaw.j0 k a0 true) else (if (a0.size : Int) > 8 then (Qaw.j0 k a0 true) else (if 0 < (a0.size : Int) then (if (bt a0 0) < 97 then (Qaw.j0 k a0 true) else (Qaw.j0 k a0 (decide ((bt a0 0) > 122)))) else (none)))
set_option maxHeartbeats 8000000 in
set_option maxRecDepth 100000 in
theorem Qaw.calls (k : Nat) (a0 : ByteArray) (r : Bool) (w : World) (h : Qaw.f k a0 = some r) :
  Calls Tryd.prog 49 #[.string a0] w fun e w' => e = .returned (.bool r) ∧ Drawn0 w w' := by
 have H : (if (a0.size : Int) < 1 then (Qaw.j0 k a0 true) else (if (a0.size : Int) > 8 then (Qaw.j0 k a0 true) else (if 0 < (a0.size : Int) then (if (bt a0 0) < 97 then (Qaw.j0 k a0 true) else (Qaw.j0 k a0 (decide ((bt a0 0) > 122)))) else (none)))) = some r := h; clear h; have HC2 := Qad.mk H; clear H; go_enter Tryd.func49, Tryd.ntmps49
 go_upto_region 1 with (fail)
 go_cut [23] (fun v23 wc => ∃ (kq : Nat) (x23_1 : Bool), v23 = .bool x23_1 ∧ Qad (Qaw.j0 kq a0 x23_1 = some r) ∧ Qad (kq ≤ k) ∧ Drawn0 w wc)
 case first =>
  have H := HC2.out; clear HC2
  by_cases c3 : (a0.size : Int) < 1
  ·rw [if_pos c3] at H; have c3b0 : decide ((a0.size : Int) < 1) = true := decide_eq_true c3; have c3b1 : decide (a0.size < 1) = true := decide_eq_true (by omega); clear c3
   (first | rw [c3b0] | (simp only [i64_w, i32_w]; rw [c3b0]) | skip)
   have H' := Qad.mk H; clear H; go_wp2
   go_meet
   case rel => exact ⟨_, (true), (by first | rfl | (simp; done) | (simp [*]; done)), H', ⟨by first | omega | exact Nat.le_refl _⟩, by repeat (first | exact Drawn0.refl _ | apply Drawn0.step)⟩
  ·rw [if_neg c3] at H; have c3b0 : decide ((a0.size : Int) < 1) = false := decide_eq_false c3; have c3b1 : decide (a0.size < 1) = false := decide_eq_false (by omega); clear c3
   (first | rw [c3b0] | (simp only [i64_w, i32_w]; rw [c3b0]) | skip)
   by_cases c4 : (a0.size : Int) > 8
   ·rw [if_pos c4] at H; have c4b0 : decide (8 < (a0.size : Int)) = true := decide_eq_true c4; have c4b1 : decide (8 < a0.size) = true := decide_eq_true (by omega); clear c4; have H' := Qad.mk H; clear H; go_wp2
    go_meet
    case rel => exact ⟨_, (true), (by first | rfl | (simp; done) | (simp [*]; done)), H', ⟨by first | omega | exact Nat.le_refl _⟩, by repeat (first | exact Drawn0.refl _ | apply Drawn0.step)⟩
   ·rw [if_neg c4] at H; have c4b0 : decide (8 < (a0.size : Int)) = false := decide_eq_false c4; have c4b1 : decide (8 < a0.size) = false := decide_eq_false (by omega); clear c4
    by_cases c5 : 0 < (a0.size : Int)
    ·rw [if_pos c5] at H; have c5b0 : decide (0 < (a0.size : Int)) = true := decide_eq_true c5; have c5b1 : decide (0 < a0.size) = true := decide_eq_true (by omega); clear c5
     by_cases c7 : (bt a0 0) < 97
     ·rw [if_pos c7] at H; have c7b0 : decide ((bt a0 0) < 97) = true := decide_eq_true c7; clear c7; have H' := Qad.mk H; clear H
      have p6 : 0 ≤ (0 : Int) := (by omega)
      have q6 : 0 < a0.size := (by have : (0 : Int) < (a0.size : Int) := of_decide_eq_true (by first | (with_reducible assumption) | assumption); omega)
      have hx6 : ∀ h : 0 < a0.size, ((a0[0]'h).toNat : Int) = bt a0 0 := bt_at a0 0; clear p6; have qi6 : (0 < (a0.size : Int)) = True := eq_true (of_decide_eq_true (by first | (with_reducible assumption) | assumption)); replace q6 := eq_true q6; go_wp2
      go_meet
      case rel => exact ⟨_, (true), (by first | rfl | (simp; done) | (simp [*]; done)), H', ⟨by first | omega | exact Nat.le_refl _⟩, by repeat (first | exact Drawn0.refl _ | apply Drawn0.step)⟩
     ·rw [if_neg c7] at H; have c7b0 : decide ((bt a0 0) < 97) = false := decide_eq_false c7; clear c7; have H' := Qad.mk H; clear H
      have p6 : 0 ≤ (0 : Int) := (by omega)
      have q6 : 0 < a0.size := (by have : (0 : Int) < (a0.size : Int) := of_decide_eq_true (by first | (with_reducible assumption) | assumption); omega)
      have hx6 : ∀ h : 0 < a0.size, ((a0[0]'h).toNat : Int) = bt a0 0 := bt_at a0 0; clear p6; have qi6 : (0 < (a0.size : Int)) = True := eq_true (of_decide_eq_true (by first | (with_reducible assumption) | assumption)); replace q6 := eq_true q6
      have p8 : 0 ≤ (0 : Int) := (by omega)
      have q8 : 0 < a0.size := (by have : (0 : Int) < (a0.size : Int) := of_decide_eq_true (by first | (with_reducible assumption) | assumption); omega)
      have hx8 : ∀ h : 0 < a0.size, ((a0[0]'h).toNat : Int) = bt a0 0 := bt_at a0 0; clear p8; have qi8 : (0 < (a0.size : Int)) = True := eq_true (of_decide_eq_true (by first | (with_reducible assumption) | assumption)); replace q8 := eq_true q8; go_wp2
      go_meet
      case rel => exact ⟨_, (decide ((bt a0 0) > 122)), (by first | rfl | (simp; done) | (simp [*]; done)), H', ⟨by first | omega | exact Nat.le_refl _⟩, by repeat (first | exact Drawn0.refl _ | apply Drawn0.step)⟩
    ·rw [if_neg c5] at H; exact absurd H (by simp)
 case rest =>
  clear HC2; (try clear p2); (try clear c3); (try clear c3b0); (try clear c3b1); (try clear c4); (try clear c4b0); (try clear c4b1); (try clear c5); (try clear c5b0); (try clear c5b1); (try clear p6); (try clear q6); (try clear hx6); (try clear qi6); (try clear c7); (try clear c7b0); (try clear p8); (try clear q8); (try clear hx8); (try clear qi8); (try clear p6); (try clear p8); (try clear q6); (try clear q8); obtain ⟨kq, x23_1, rfl, HA, HJ1, ⟨mc1, rfl⟩⟩ := hcut
  cases kq with
  | zero => exact absurd HA.out (by simp [Qaw.j0])
  | succ kj1 =>
   have H := HA.out; clear HA; simp only [Qaw.j0] at H
   by_cases c9 : x23_1 = true
   ·subst c9
    have H1 : (some false) = some r := by rw [if_pos rfl] at H; exact H
    clear H; have H := H1; clear H1; obtain rfl := Option.some.inj H; go_wp2; go_ret; exact ⟨by first | rfl | (simp; done) | (simp [*]; done), by repeat (first | exact Drawn0.refl _ | apply Drawn0.step)⟩
   ·replace c9 := Bool.eq_false_iff.mpr c9; subst c9
    have H1 : (Qaw.l0 kj1 a0 1) = some r := by rw [if_neg (show ¬ (false = true) by decide)] at H; exact H
    clear H; have H := H1; clear H1; have H' := Qad.mk H; clear H; go_wp2
    go_loopg [3] kj1 (fun kq v3 w' => ∃ (x3_2 : Int), v3 = .int .i64 x3_2 ∧ Qad (Qaw.l0 kq a0 x3_2 = some r) ∧ Qad (kq ≤ kj1) ∧ Drawn0 w w')
    case atStart => exact ⟨(1), (by first | rfl | (simp; done) | (simp [*]; done)), H', ⟨Nat.le_refl _⟩, by repeat (first | exact Drawn0.refl _ | apply Drawn0.step)⟩
    case round =>
     clear H'; (try clear c1); (try clear p2); (try clear c3); (try clear c3b0); (try clear c3b1); (try clear c4); (try clear c4b0); (try clear c4b1); (try clear c5); (try clear c5b0); (try clear c5b1); (try clear p6); (try clear q6); (try clear hx6); (try clear qi6); (try clear c7); (try clear c7b0); (try clear p8); (try clear q8); (try clear hx8); (try clear qi8); (try clear c9); (try clear p2); (try clear p6); (try clear p8); (try clear q6); (try clear q8); obtain ⟨x3_2, rfl, HA, HK2, ⟨m2, rfl⟩⟩ := hrel
     cases gk with
     | zero => exact absurd HA.out (by simp [Qaw.l0])
     | succ k2 =>
      have H := HA.out; clear HA; simp only [Qaw.l0] at H
      by_cases c10 : x3_2 < (a0.size : Int)
      ·rw [if_pos c10] at H; have c10b0 : decide (x3_2 < (a0.size : Int)) = true := decide_eq_true c10; clear c10
       by_cases c11 : 0 ≤ x3_2
       ·rw [if_pos c11] at H; have c11b0 : decide (0 ≤ x3_2) = true := decide_eq_true c11; clear c11
        by_cases c13 : (bt a0 x3_2) ≥ 97
        ·rw [if_pos c13] at H; have c13b0 : decide (97 ≤ (bt a0 x3_2)) = true := decide_eq_true c13; clear c13
         by_cases c16 : (bt a0 x3_2) ≥ 48
         ·rw [if_pos c16] at H; have c16b0 : decide (48 ≤ (bt a0 x3_2)) = true := decide_eq_true c16; clear c16
          by_cases c18 : ((bt a0 x3_2) ≤ 122)
          ·rw [if_pos c18] at H; have c18b0 : decide ((bt a0 x3_2) ≤ 122) = true := decide_eq_true c18; clear c18; have H' := Qad.mk H; clear H; have p12 : 0 ≤ (x3_2 : Int) := of_decide_eq_true (by first | (with_reducible assumption) | assumption); have q12 : x3_2 < (a0.size : Int) := of_decide_eq_true (by first | (with_reducible assumption) | assumption); have hx12 := bt_at a0 x3_2; replace p12 := eq_true p12; replace q12 := eq_true q12; have p14 : 0 ≤ (x3_2 : Int) := of_decide_eq_true (by first | (with_reducible assumption) | assumption); have q14 : x3_2 < (a0.size : Int) := of_decide_eq_true (by first | (with_reducible assumption) | assumption); have hx14 := bt_at a0 x3_2; replace p14 := eq_true p14; replace q14 := eq_true q14; have p15 : 0 ≤ (x3_2 : Int) := of_decide_eq_true (by first | (with_reducible assumption) | assumption); have q15 : x3_2 < (a0.size : Int) := of_decide_eq_true (by first | (with_reducible assumption) | assumption); have hx15 := bt_at a0 x3_2; replace p15 := eq_true p15; replace q15 := eq_true q15; have p17 : 0 ≤ (x3_2 : Int) := of_decide_eq_true (by first | (with_reducible assumption) | assumption); have q17 : x3_2 < (a0.size : Int) := of_decide_eq_true (by first | (with_reducible assumption) | assumption); have hx17 := bt_at a0 x3_2; replace p17 := eq_true p17; replace q17 := eq_true q17; go_wp2
           go_roundg k2
           case measure => have := HJ1.out; have := HK2.out; omega
           case rel => exact ⟨(wrap64 (x3_2 + 1)), (by first | rfl | (simp; done) | (simp [*]; done)), H', ⟨by have := HJ1.out; have := HK2.out; omega⟩, by repeat (first | exact Drawn0.refl _ | apply Drawn0.step)⟩
          ·rw [if_neg c18] at H; have c18b0 : decide ((bt a0 x3_2) ≤ 122) = false := decide_eq_false c18; clear c18
           by_cases c19 : ((bt a0 x3_2) ≤ 57)
           ·rw [if_pos c19] at H; have c19b0 : decide ((bt a0 x3_2) ≤ 57) = true := decide_eq_true c19; clear c19; have H' := Qad.mk H; clear H; have p12 : 0 ≤ (x3_2 : Int) := of_decide_eq_true (by first | (with_reducible assumption) | assumption); have q12 : x3_2 < (a0.size : Int) := of_decide_eq_true (by first | (with_reducible assumption) | assumption); have hx12 := bt_at a0 x3_2; replace p12 := eq_true p12; replace q12 := eq_true q12; have p14 : 0 ≤ (x3_2 : Int) := of_decide_eq_true (by first | (with_reducible assumption) | assumption); have q14 : x3_2 < (a0.size : Int) := of_decide_eq_true (by first | (with_reducible assumption) | assumption); have hx14 := bt_at a0 x3_2; replace p14 := eq_true p14; replace q14 := eq_true q14; have p15 : 0 ≤ (x3_2 : Int) := of_decide_eq_true (by first | (with_reducible assumption) | assumption); have q15 : x3_2 < (a0.size : Int) := of_decide_eq_true (by first | (with_reducible assumption) | assumption); have hx15 := bt_at a0 x3_2; replace p15 := eq_true p15; replace q15 := eq_true q15; have p17 : 0 ≤ (x3_2 : Int) := of_decide_eq_true (by first | (with_reducible assumption) | assumption); have q17 : x3_2 < (a0.size : Int) := of_decide_eq_true (by first | (with_reducible assumption) | assumption); have hx17 := bt_at a0 x3_2; replace p17 := eq_true p17; replace q17 := eq_true q17; go_wp2
            go_roundg k2
            case measure => have := HJ1.out; have := HK2.out; omega
            case rel => exact ⟨(wrap64 (x3_2 + 1)), (by first | rfl | (simp; done) | (simp [*]; done)), H', ⟨by have := HJ1.out; have := HK2.out; omega⟩, by repeat (first | exact Drawn0.refl _ | apply Drawn0.step)⟩
           ·rw [if_neg c19] at H; have c19b0 : decide ((bt a0 x3_2) ≤ 57) = false := decide_eq_false c19; clear c19; obtain rfl := Option.some.inj H; have p12 : 0 ≤ (x3_2 : Int) := of_decide_eq_true (by first | (with_reducible assumption) | assumption); have q12 : x3_2 < (a0.size : Int) := of_decide_eq_true (by first | (with_reducible assumption) | assumption); have hx12 := bt_at a0 x3_2; replace p12 := eq_true p12; replace q12 := eq_true q12; have p14 : 0 ≤ (x3_2 : Int) := of_decide_eq_true (by first | (with_reducible assumption) | assumption); have q14 : x3_2 < (a0.size : Int) := of_decide_eq_true (by first | (with_reducible assumption) | assumption); have hx14 := bt_at a0 x3_2; replace p14 := eq_true p14; replace q14 := eq_true q14; have p15 : 0 ≤ (x3_2 : Int) := of_decide_eq_true (by first | (with_reducible assumption) | assumption); have q15 : x3_2 < (a0.size : Int) := of_decide_eq_true (by first | (with_reducible assumption) | assumption); have hx15 := bt_at a0 x3_2; replace p15 := eq_true p15; replace q15 := eq_true q15; have p17 : 0 ≤ (x3_2 : Int) := of_decide_eq_true (by first | (with_reducible assumption) | assumption); have q17 : x3_2 < (a0.size : Int) := of_decide_eq_true (by first | (with_reducible assumption) | assumption); have hx17 := bt_at a0 x3_2; replace p17 := eq_true p17; replace q17 := eq_true q17; go_wp2; go_ret; exact ⟨by first | rfl | (simp; done) | (simp [*]; done), by repeat (first | exact Drawn0.refl _ | apply Drawn0.step)⟩
         ·rw [if_neg c16] at H; have c16b0 : decide (48 ≤ (bt a0 x3_2)) = false := decide_eq_false c16; clear c16
          by_cases c20 : ((bt a0 x3_2) ≤ 122)
          ·rw [if_pos c20] at H; have c20b0 : decide ((bt a0 x3_2) ≤ 122) = true := decide_eq_true c20; clear c20; have H' := Qad.mk H; clear H; have p12 : 0 ≤ (x3_2 : Int) := of_decide_eq_true (by first | (with_reducible assumption) | assumption); have q12 : x3_2 < (a0.size : Int) := of_decide_eq_true (by first | (with_reducible assumption) | assumption); have hx12 := bt_at a0 x3_2; replace p12 := eq_true p12; replace q12 := eq_true q12; have p14 : 0 ≤ (x3_2 : Int) := of_decide_eq_true (by first | (with_reducible assumption) | assumption); have q14 : x3_2 < (a0.size : Int) := of_decide_eq_true (by first | (with_reducible assumption) | assumption); have hx14 := bt_at a0 x3_2; replace p14 := eq_true p14; replace q14 := eq_true q14; have p15 : 0 ≤ (x3_2 : Int) := of_decide_eq_true (by first | (with_reducible assumption) | assumption); have q15 : x3_2 < (a0.size : Int) := of_decide_eq_true (by first | (with_reducible assumption) | assumption); have hx15 := bt_at a0 x3_2; replace p15 := eq_true p15; replace q15 := eq_true q15; go_wp2
           go_roundg k2
           case measure => have := HJ1.out; have := HK2.out; omega
           case rel => exact ⟨(wrap64 (x3_2 + 1)), (by first | rfl | (simp; done) | (simp [*]; done)), H', ⟨by have := HJ1.out; have := HK2.out; omega⟩, by repeat (first | exact Drawn0.refl _ | apply Drawn0.step)⟩
          ·rw [if_neg c20] at H; have c20b0 : decide ((bt a0 x3_2) ≤ 122) = false := decide_eq_false c20; clear c20; obtain rfl := Option.some.inj H; have p12 : 0 ≤ (x3_2 : Int) := of_decide_eq_true (by first | (with_reducible assumption) | assumption); have q12 : x3_2 < (a0.size : Int) := of_decide_eq_true (by first | (with_reducible assumption) | assumption); have hx12 := bt_at a0 x3_2; replace p12 := eq_true p12; replace q12 := eq_true q12; have p14 : 0 ≤ (x3_2 : Int) := of_decide_eq_true (by first | (with_reducible assumption) | assumption); have q14 : x3_2 < (a0.size : Int) := of_decide_eq_true (by first | (with_reducible assumption) | assumption); have hx14 := bt_at a0 x3_2; replace p14 := eq_true p14; replace q14 := eq_true q14; have p15 : 0 ≤ (x3_2 : Int) := of_decide_eq_true (by first | (with_reducible assumption) | assumption); have q15 : x3_2 < (a0.size : Int) := of_decide_eq_true (by first | (with_reducible assumption) | assumption); have hx15 := bt_at a0 x3_2; replace p15 := eq_true p15; replace q15 := eq_true q15; go_wp2; go_ret; exact ⟨by first | rfl | (simp; done) | (simp [*]; done), by repeat (first | exact Drawn0.refl _ | apply Drawn0.step)⟩
        ·rw [if_neg c13] at H; have c13b0 : decide (97 ≤ (bt a0 x3_2)) = false := decide_eq_false c13; clear c13
         by_cases c22 : (bt a0 x3_2) ≥ 48
         ·rw [if_pos c22] at H; have c22b0 : decide (48 ≤ (bt a0 x3_2)) = true := decide_eq_true c22; clear c22
          by_cases c24 : ((bt a0 x3_2) ≤ 57)
          ·rw [if_pos c24] at H; have c24b0 : decide ((bt a0 x3_2) ≤ 57) = true := decide_eq_true c24; clear c24; have H' := Qad.mk H; clear H; have p12 : 0 ≤ (x3_2 : Int) := of_decide_eq_true (by first | (with_reducible assumption) | assumption); have q12 : x3_2 < (a0.size : Int) := of_decide_eq_true (by first | (with_reducible assumption) | assumption); have hx12 := bt_at a0 x3_2; replace p12 := eq_true p12; replace q12 := eq_true q12; have p21 : 0 ≤ (x3_2 : Int) := of_decide_eq_true (by first | (with_reducible assumption) | assumption); have q21 : x3_2 < (a0.size : Int) := of_decide_eq_true (by first | (with_reducible assumption) | assumption); have hx21 := bt_at a0 x3_2; replace p21 := eq_true p21; replace q21 := eq_true q21; have p23 : 0 ≤ (x3_2 : Int) := of_decide_eq_true (by first | (with_reducible assumption) | assumption); have q23 : x3_2 < (a0.size : Int) := of_decide_eq_true (by first | (with_reducible assumption) | assumption); have hx23 := bt_at a0 x3_2; replace p23 := eq_true p23; replace q23 := eq_true q23; go_wp2
           go_roundg k2
           case measure => have := HJ1.out; have := HK2.out; omega
           case rel => exact ⟨(wrap64 (x3_2 + 1)), (by first | rfl | (simp; done) | (simp [*]; done)), H', ⟨by have := HJ1.out; have := HK2.out; omega⟩, by repeat (first | exact Drawn0.refl _ | apply Drawn0.step)⟩
          ·rw [if_neg c24] at H; have c24b0 : decide ((bt a0 x3_2) ≤ 57) = false := decide_eq_false c24; clear c24; obtain rfl := Option.some.inj H; have p12 : 0 ≤ (x3_2 : Int) := of_decide_eq_true (by first | (with_reducible assumption) | assumption); have q12 : x3_2 < (a0.size : Int) := of_decide_eq_true (by first | (with_reducible assumption) | assumption); have hx12 := bt_at a0 x3_2; replace p12 := eq_true p12; replace q12 := eq_true q12; have p21 : 0 ≤ (x3_2 : Int) := of_decide_eq_true (by first | (with_reducible assumption) | assumption); have q21 : x3_2 < (a0.size : Int) := of_decide_eq_true (by first | (with_reducible assumption) | assumption); have hx21 := bt_at a0 x3_2; replace p21 := eq_true p21; replace q21 := eq_true q21; have p23 : 0 ≤ (x3_2 : Int) := of_decide_eq_true (by first | (with_reducible assumption) | assumption); have q23 : x3_2 < (a0.size : Int) := of_decide_eq_true (by first | (with_reducible assumption) | assumption); have hx23 := bt_at a0 x3_2; replace p23 := eq_true p23; replace q23 := eq_true q23; go_wp2; go_ret; exact ⟨by first | rfl | (simp; done) | (simp [*]; done), by repeat (first | exact Drawn0.refl _ | apply Drawn0.step)⟩
         ·rw [if_neg c22] at H; have c22b0 : decide (48 ≤ (bt a0 x3_2)) = false := decide_eq_false c22; clear c22; obtain rfl := Option.some.inj H; have p12 : 0 ≤ (x3_2 : Int) := of_decide_eq_true (by first | (with_reducible assumption) | assumption); have q12 : x3_2 < (a0.size : Int) := of_decide_eq_true (by first | (with_reducible assumption) | assumption); have hx12 := bt_at a0 x3_2; replace p12 := eq_true p12; replace q12 := eq_true q12; have p21 : 0 ≤ (x3_2 : Int) := of_decide_eq_true (by first | (with_reducible assumption) | assumption); have q21 : x3_2 < (a0.size : Int) := of_decide_eq_true (by first | (with_reducible assumption) | assumption); have hx21 := bt_at a0 x3_2; replace p21 := eq_true p21; replace q21 := eq_true q21; go_wp2; go_ret; exact ⟨by first | rfl | (simp; done) | (simp [*]; done), by repeat (first | exact Drawn0.refl _ | apply Drawn0.step)⟩
       ·rw [if_neg c11] at H; exact absurd H (by simp)
      ·rw [if_neg c10] at H; have c10b0 : decide (x3_2 < (a0.size : Int)) = false := decide_eq_false c10; clear c10; obtain rfl := Option.some.inj H; go_wp2; go_ret; exact ⟨by first | rfl | (simp; done) | (simp [*]; done), by repeat (first | exact Drawn0.refl _ | apply Drawn0.step)⟩
mutual
def Qau.j0 : Nat → ByteArray → Bool → Option (Int)
 | 0, _, _ => none
 | k + 1, x0, x26 => if x26 = true then (some 0) else (if 1 < (x0.size : Int) then (if (x0.size : Int) = 3 then (if 2 < (x0.size : Int) then (if (bt x0 2) < 48 then (Qau.j1 k x0 (((bt x0 1) - 48) % 256) true) else (Qau.j1 k x0 (((bt x0 1) - 48) % 256) (decide ((bt x0 2) > 57)))) else (none)) else (if (((bt x0 1) - 48) % 256) > 16 then (some 0) else (some (((bt x0 1) - 48) % 256)))) else (none))
def Qau.j1 : Nat → ByteArray → Int → Bool → Option (Int)
 | 0, _, _, _ => none
 | k + 1, x0, x3, x41 => if x41 = true then (some 0) else (if 2 < (x0.size : Int) then (if (((10 * x3) + (((bt x0 2) - 48) % 256))) > 16 then (some 0) else (some (((10 * x3) + (((bt x0 2) - 48) % 256))))) else (none))
end
def Qau.f (k : Nat) (a0 : ByteArray) : Option (Int) := if (a0.size : Int) < 2 then (Qau.j0 k a0 true) else (if (a0.size : Int) > 3 then (Qau.j0 k a0 true) else (if 0 < (a0.size : Int) then (if (bt a0 0) = 100 then (if 1 < (a0.size : Int) then (if (bt a0 1) < 49 then (Qau.j0 k a0 true) else (Qau.j0 k a0 (decide ((bt a0 1) > 57)))) else (none)) else (Qau.j0 k a0 true)) else (none)))
set_option maxHeartbeats 8000000 in
set_option maxRecDepth 100000 in
theorem Qau.calls (k : Nat) (a0 : ByteArray) (r : Int) (w : World) (h : Qau.f k a0 = some r) :
  Calls Tryd.prog 44 #[.string a0] w fun e w' => e = .returned (.int .i64 r) ∧ Drawn0 w w' := by
 have H : (if (a0.size : Int) < 2 then (Qau.j0 k a0 true) else (if (a0.size : Int) > 3 then (Qau.j0 k a0 true) else (if 0 < (a0.size : Int) then (if (bt a0 0) = 100 then (if 1 < (a0.size : Int) then (if (bt a0 1) < 49 then (Qau.j0 k a0 true) else (Qau.j0 k a0 (decide ((bt a0 1) > 57)))) else (none)) else (Qau.j0 k a0 true)) else (none)))) = some r := h; clear h; have HC2 := Qad.mk H; clear H; go_enter Tryd.func44, Tryd.ntmps44
 go_upto_region 1 with (fail)
 go_cut [26] (fun v26 wc => ∃ (kq : Nat) (x26_1 : Bool), v26 = .bool x26_1 ∧ Qad (Qau.j0 kq a0 x26_1 = some r) ∧ Qad (kq ≤ k) ∧ Drawn0 w wc)
 case first =>
  have H := HC2.out; clear HC2
  by_cases c3 : (a0.size : Int) < 2
  ·rw [if_pos c3] at H; have c3b0 : decide ((a0.size : Int) < 2) = true := decide_eq_true c3; have c3b1 : decide (a0.size < 2) = true := decide_eq_true (by omega); clear c3
   (first | rw [c3b0] | (simp only [i64_w, i32_w]; rw [c3b0]) | skip)
   have H' := Qad.mk H; clear H; go_wp2
   go_meet
   case rel => exact ⟨_, (true), (by first | rfl | (simp; done) | (simp [*]; done)), H', ⟨by first | omega | exact Nat.le_refl _⟩, by repeat (first | exact Drawn0.refl _ | apply Drawn0.step)⟩
  ·rw [if_neg c3] at H; have c3b0 : decide ((a0.size : Int) < 2) = false := decide_eq_false c3; have c3b1 : decide (a0.size < 2) = false := decide_eq_false (by omega); clear c3
   (first | rw [c3b0] | (simp only [i64_w, i32_w]; rw [c3b0]) | skip)
   by_cases c4 : (a0.size : Int) > 3
   ·rw [if_pos c4] at H; have c4b0 : decide (3 < (a0.size : Int)) = true := decide_eq_true c4; have c4b1 : decide (3 < a0.size) = true := decide_eq_true (by omega); clear c4; have H' := Qad.mk H; clear H; go_wp2
    go_meet
    case rel => exact ⟨_, (true), (by first | rfl | (simp; done) | (simp [*]; done)), H', ⟨by first | omega | exact Nat.le_refl _⟩, by repeat (first | exact Drawn0.refl _ | apply Drawn0.step)⟩
   ·rw [if_neg c4] at H; have c4b0 : decide (3 < (a0.size : Int)) = false := decide_eq_false c4; have c4b1 : decide (3 < a0.size) = false := decide_eq_false (by omega); clear c4
    by_cases c5 : 0 < (a0.size : Int)
    ·rw [if_pos c5] at H; have c5b0 : decide (0 < (a0.size : Int)) = true := decide_eq_true c5; have c5b1 : decide (0 < a0.size) = true := decide_eq_true (by omega); clear c5
     by_cases c7 : (bt a0 0) = 100
     ·rw [if_pos c7] at H; have c7b0 : ((bt a0 0) == 100) = true := beq_iff_eq.mpr c7; have c7b1 : ((bt a0 0) != 100) = false := bne_eq_false_iff_eq.mpr c7; clear c7
      by_cases c8 : 1 < (a0.size : Int)
      ·rw [if_pos c8] at H; have c8b0 : decide (1 < (a0.size : Int)) = true := decide_eq_true c8; have c8b1 : decide (1 < a0.size) = true := decide_eq_true (by omega); clear c8
       by_cases c10 : (bt a0 1) < 49
       ·rw [if_pos c10] at H; have c10b0 : decide ((bt a0 1) < 49) = true := decide_eq_true c10; clear c10; have H' := Qad.mk H; clear H
        have p6 : 0 ≤ (0 : Int) := (by omega)
        have q6 : 0 < a0.size := (by have : (0 : Int) < (a0.size : Int) := of_decide_eq_true (by first | (with_reducible assumption) | assumption); omega)
        have hx6 : ∀ h : 0 < a0.size, ((a0[0]'h).toNat : Int) = bt a0 0 := bt_at a0 0; clear p6; have qi6 : (0 < (a0.size : Int)) = True := eq_true (of_decide_eq_true (by first | (with_reducible assumption) | assumption)); replace q6 := eq_true q6
        have p9 : 0 ≤ (1 : Int) := (by omega)
        have q9 : 1 < a0.size := (by have : (1 : Int) < (a0.size : Int) := of_decide_eq_true (by first | (with_reducible assumption) | assumption); omega)
        have hx9 : ∀ h : 1 < a0.size, ((a0[1]'h).toNat : Int) = bt a0 1 := bt_at a0 1; clear p9; have qi9 : (1 < (a0.size : Int)) = True := eq_true (of_decide_eq_true (by first | (with_reducible assumption) | assumption)); replace q9 := eq_true q9; go_wp2
        go_meet
        case rel => exact ⟨_, (true), (by first | rfl | (simp; done) | (simp [*]; done)), H', ⟨by first | omega | exact Nat.le_refl _⟩, by repeat (first | exact Drawn0.refl _ | apply Drawn0.step)⟩
       ·rw [if_neg c10] at H; have c10b0 : decide ((bt a0 1) < 49) = false := decide_eq_false c10; clear c10; have H' := Qad.mk H; clear H
        have p6 : 0 ≤ (0 : Int) := (by omega)
        have q6 : 0 < a0.size := (by have : (0 : Int) < (a0.size : Int) := of_decide_eq_true (by first | (with_reducible assumption) | assumption); omega)
        have hx6 : ∀ h : 0 < a0.size, ((a0[0]'h).toNat : Int) = bt a0 0 := bt_at a0 0; clear p6; have qi6 : (0 < (a0.size : Int)) = True := eq_true (of_decide_eq_true (by first | (with_reducible assumption) | assumption)); replace q6 := eq_true q6
        have p9 : 0 ≤ (1 : Int) := (by omega)
        have q9 : 1 < a0.size := (by have : (1 : Int) < (a0.size : Int) := of_decide_eq_true (by first | (with_reducible assumption) | assumption); omega)
        have hx9 : ∀ h : 1 < a0.size, ((a0[1]'h).toNat : Int) = bt a0 1 := bt_at a0 1; clear p9; have qi9 : (1 < (a0.size : Int)) = True := eq_true (of_decide_eq_true (by first | (with_reducible assumption) | assumption)); replace q9 := eq_true q9
        have p11 : 0 ≤ (1 : Int) := (by omega)
        have q11 : 1 < a0.size := (by have : (1 : Int) < (a0.size : Int) := of_decide_eq_true (by first | (with_reducible assumption) | assumption); omega)
        have hx11 : ∀ h : 1 < a0.size, ((a0[1]'h).toNat : Int) = bt a0 1 := bt_at a0 1; clear p11; have qi11 : (1 < (a0.size : Int)) = True := eq_true (of_decide_eq_true (by first | (with_reducible assumption) | assumption)); replace q11 := eq_true q11; go_wp2
        go_meet
        case rel => exact ⟨_, (decide ((bt a0 1) > 57)), (by first | rfl | (simp; done) | (simp [*]; done)), H', ⟨by first | omega | exact Nat.le_refl _⟩, by repeat (first | exact Drawn0.refl _ | apply Drawn0.step)⟩
      ·rw [if_neg c8] at H; exact absurd H (by simp)
     ·rw [if_neg c7] at H; have c7b0 : ((bt a0 0) == 100) = false := beq_eq_false_iff_ne.mpr c7; have c7b1 : ((bt a0 0) != 100) = true := bne_iff_ne.mpr c7; have H' := Qad.mk H; clear H
      have p6 : 0 ≤ (0 : Int) := (by omega)
      have q6 : 0 < a0.size := (by have : (0 : Int) < (a0.size : Int) := of_decide_eq_true (by first | (with_reducible assumption) | assumption); omega)
      have hx6 : ∀ h : 0 < a0.size, ((a0[0]'h).toNat : Int) = bt a0 0 := bt_at a0 0; clear p6; have qi6 : (0 < (a0.size : Int)) = True := eq_true (of_decide_eq_true (by first | (with_reducible assumption) | assumption)); replace q6 := eq_true q6; go_wp2
      go_meet
      case rel => exact ⟨_, (true), (by first | rfl | (simp; done) | (simp [*]; done)), H', ⟨by first | omega | exact Nat.le_refl _⟩, by repeat (first | exact Drawn0.refl _ | apply Drawn0.step)⟩
    ·rw [if_neg c5] at H; exact absurd H (by simp)
 case rest =>
  clear HC2; (try clear c1); (try clear p1); (try clear q1); (try clear hx1); (try clear qi1); (try clear p2); (try clear c3); (try clear c3b0); (try clear c3b1); (try clear c4); (try clear c4b0); (try clear c4b1); (try clear c5); (try clear c5b0); (try clear c5b1); (try clear p6); (try clear q6); (try clear hx6); (try clear qi6); (try clear c7); (try clear c7b0); (try clear c7b1); (try clear c8); (try clear c8b0); (try clear c8b1); (try clear p9); (try clear q9); (try clear hx9); (try clear qi9); (try clear c10); (try clear c10b0); (try clear p11); (try clear q11); (try clear hx11); (try clear qi11); (try clear p11); (try clear p6); (try clear p9); (try clear q11); (try clear q6); (try clear q9); obtain ⟨kq, x26_1, rfl, HA, HJ1, ⟨mc1, rfl⟩⟩ := hcut
  cases kq with
  | zero => exact absurd HA.out (by simp [Qau.j0])
  | succ kj1 =>
   have H := HA.out; clear HA; simp only [Qau.j0] at H
   by_cases c12 : x26_1 = true
   ·subst c12
    have H1 : (some 0) = some r := by rw [if_pos rfl] at H; exact H
    clear H; have H := H1; clear H1; obtain rfl := Option.some.inj H; go_wp2; go_ret; exact ⟨by first | rfl | (simp; done) | (simp [*]; done), by repeat (first | exact Drawn0.refl _ | apply Drawn0.step)⟩
   ·replace c12 := Bool.eq_false_iff.mpr c12; subst c12
    have H1 : (if 1 < (a0.size : Int) then (if (a0.size : Int) = 3 then (if 2 < (a0.size : Int) then (if (bt a0 2) < 48 then (Qau.j1 kj1 a0 (((bt a0 1) - 48) % 256) true) else (Qau.j1 kj1 a0 (((bt a0 1) - 48) % 256) (decide ((bt a0 2) > 57)))) else (none)) else (if (((bt a0 1) - 48) % 256) > 16 then (some 0) else (some (((bt a0 1) - 48) % 256)))) else (none)) = some r := by rw [if_neg (show ¬ (false = true) by decide)] at H; exact H
    clear H; have H := H1; clear H1
    by_cases c13 : 1 < (a0.size : Int)
    ·rw [if_pos c13] at H; have c13b0 : decide (1 < (a0.size : Int)) = true := decide_eq_true c13; have c13b1 : decide (1 < a0.size) = true := decide_eq_true (by omega); clear c13
     by_cases c15 : (a0.size : Int) = 3
     ·rw [if_pos c15] at H; have c15b0 : ((a0.size : Int) == 3) = true := beq_iff_eq.mpr c15; have c15b1 : ((a0.size : Int) != 3) = false := bne_eq_false_iff_eq.mpr c15; clear c15; have HC16 := Qad.mk H; clear H
      have p14 : 0 ≤ (1 : Int) := (by omega)
      have q14 : 1 < a0.size := (by have : (1 : Int) < (a0.size : Int) := of_decide_eq_true (by first | (with_reducible assumption) | assumption); omega)
      have hx14 : ∀ h : 1 < a0.size, ((a0[1]'h).toNat : Int) = bt a0 1 := bt_at a0 1; clear p14; have qi14 : (1 < (a0.size : Int)) = True := eq_true (of_decide_eq_true (by first | (with_reducible assumption) | assumption)); replace q14 := eq_true q14
      go_upto_region 5 with (fail)
      go_cut [41] (fun v41 wc => ∃ (kq : Nat) (x41_15 : Bool), v41 = .bool x41_15 ∧ Qad (Qau.j1 kq a0 (((bt a0 1) - 48) % 256) x41_15 = some r) ∧ Qad (kq ≤ kj1) ∧ Drawn0 w wc)
      case first =>
       have H := HC16.out; clear HC16
       by_cases c17 : 2 < (a0.size : Int)
       ·rw [if_pos c17] at H; have c17b0 : decide (2 < (a0.size : Int)) = true := decide_eq_true c17; have c17b1 : decide (2 < a0.size) = true := decide_eq_true (by omega); clear c17
        (first | rw [c17b0] | (simp only [i64_w, i32_w]; rw [c17b0]) | skip)
        by_cases c19 : (bt a0 2) < 48
        ·rw [if_pos c19] at H; have c19b0 : decide ((bt a0 2) < 48) = true := decide_eq_true c19; clear c19; have H' := Qad.mk H; clear H
         have p18 : 0 ≤ (2 : Int) := (by omega)
         have q18 : 2 < a0.size := (by have : (2 : Int) < (a0.size : Int) := of_decide_eq_true (by first | (with_reducible assumption) | assumption); omega)
         have hx18 : ∀ h : 2 < a0.size, ((a0[2]'h).toNat : Int) = bt a0 2 := bt_at a0 2; clear p18; have qi18 : (2 < (a0.size : Int)) = True := eq_true (of_decide_eq_true (by first | (with_reducible assumption) | assumption)); replace q18 := eq_true q18; go_wp2
         go_meet
         case rel => exact ⟨_, (true), (by first | rfl | (simp; done) | (simp [*]; done)), H', ⟨by have := HJ1.out; first | omega | exact Nat.le_refl _⟩, by repeat (first | exact Drawn0.refl _ | apply Drawn0.step)⟩
        ·rw [if_neg c19] at H; have c19b0 : decide ((bt a0 2) < 48) = false := decide_eq_false c19; clear c19; have H' := Qad.mk H; clear H
         have p18 : 0 ≤ (2 : Int) := (by omega)
         have q18 : 2 < a0.size := (by have : (2 : Int) < (a0.size : Int) := of_decide_eq_true (by first | (with_reducible assumption) | assumption); omega)
         have hx18 : ∀ h : 2 < a0.size, ((a0[2]'h).toNat : Int) = bt a0 2 := bt_at a0 2; clear p18; have qi18 : (2 < (a0.size : Int)) = True := eq_true (of_decide_eq_true (by first | (with_reducible assumption) | assumption)); replace q18 := eq_true q18
         have p20 : 0 ≤ (2 : Int) := (by omega)
         have q20 : 2 < a0.size := (by have : (2 : Int) < (a0.size : Int) := of_decide_eq_true (by first | (with_reducible assumption) | assumption); omega)
         have hx20 : ∀ h : 2 < a0.size, ((a0[2]'h).toNat : Int) = bt a0 2 := bt_at a0 2; clear p20; have qi20 : (2 < (a0.size : Int)) = True := eq_true (of_decide_eq_true (by first | (with_reducible assumption) | assumption)); replace q20 := eq_true q20; go_wp2
         go_meet
         case rel => exact ⟨_, (decide ((bt a0 2) > 57)), (by first | rfl | (simp; done) | (simp [*]; done)), H', ⟨by have := HJ1.out; first | omega | exact Nat.le_refl _⟩, by repeat (first | exact Drawn0.refl _ | apply Drawn0.step)⟩
       ·rw [if_neg c17] at H; exact absurd H (by simp)
      case rest =>
       clear HC16; (try clear c1); (try clear p1); (try clear q1); (try clear hx1); (try clear qi1); (try clear p2); (try clear q2); (try clear hx2); (try clear qi2); (try clear c3); (try clear c3b0); (try clear c3b1); (try clear c4); (try clear c4b0); (try clear c4b1); (try clear c5); (try clear c5b0); (try clear c5b1); (try clear p6); (try clear q6); (try clear hx6); (try clear qi6); (try clear c7); (try clear c7b0); (try clear c7b1); (try clear c8); (try clear c8b0); (try clear c8b1); (try clear p9); (try clear q9); (try clear hx9); (try clear qi9); (try clear c10); (try clear c10b0); (try clear p11); (try clear q11); (try clear hx11); (try clear qi11); (try clear c12); (try clear c13); (try clear c13b0); (try clear c13b1); (try clear p14); (try clear q14); (try clear hx14); (try clear qi14); (try clear c15); (try clear c15b0); (try clear c15b1); (try clear c17); (try clear c17b0); (try clear c17b1); (try clear p18); (try clear q18); (try clear hx18); (try clear qi18); (try clear c19); (try clear c19b0); (try clear p20); (try clear q20); (try clear hx20); (try clear qi20); (try clear p1); (try clear p11); (try clear p14); (try clear p18); (try clear p2); (try clear p20); (try clear p6); (try clear p9); (try clear q1); (try clear q11); (try clear q14); (try clear q18); (try clear q20); (try clear q6); (try clear q9); obtain ⟨kq, x41_15, rfl, HA, HJ15, ⟨mc15, rfl⟩⟩ := hcut
       cases kq with
       | zero => exact absurd HA.out (by simp [Qau.j1])
       | succ kj15 =>
        have H := HA.out; clear HA; simp only [Qau.j1] at H
        by_cases c21 : x41_15 = true
        ·subst c21
         have H1 : (some 0) = some r := by rw [if_pos rfl] at H; exact H
         clear H; have H := H1; clear H1; obtain rfl := Option.some.inj H; go_wp2; go_ret; exact ⟨by first | rfl | (simp; done) | (simp [*]; done), by repeat (first | exact Drawn0.refl _ | apply Drawn0.step)⟩
        ·replace c21 := Bool.eq_false_iff.mpr c21; subst c21
         have H1 : (if 2 < (a0.size : Int) then (if (((10 * (((bt a0 1) - 48) % 256)) + (((bt a0 2) - 48) % 256))) > 16 then (some 0) else (some (((10 * (((bt a0 1) - 48) % 256)) + (((bt a0 2) - 48) % 256))))) else (none)) = some r := by rw [if_neg (show ¬ (false = true) by decide)] at H; exact H
         clear H; have H := H1; clear H1
         by_cases c22 : 2 < (a0.size : Int)
         ·rw [if_pos c22] at H; have c22b0 : decide (2 < (a0.size : Int)) = true := decide_eq_true c22; have c22b1 : decide (2 < a0.size) = true := decide_eq_true (by omega); clear c22
          by_cases c24 : (((10 * (((bt a0 1) - 48) % 256)) + (((bt a0 2) - 48) % 256))) > 16
          ·rw [if_pos c24] at H; have c24b0 : decide (16 < (((10 * (((bt a0 1) - 48) % 256)) + (((bt a0 2) - 48) % 256)))) = true := decide_eq_true c24; clear c24; obtain rfl := Option.some.inj H
           have p23 : 0 ≤ (2 : Int) := (by omega)
           have q23 : 2 < a0.size := (by have : (2 : Int) < (a0.size : Int) := of_decide_eq_true (by first | (with_reducible assumption) | assumption); omega)
           have hx23 : ∀ h : 2 < a0.size, ((a0[2]'h).toNat : Int) = bt a0 2 := bt_at a0 2; clear p23; have qi23 : (2 < (a0.size : Int)) = True := eq_true (of_decide_eq_true (by first | (with_reducible assumption) | assumption)); replace q23 := eq_true q23; go_wp2; go_ret; exact ⟨by first | rfl | (simp; done) | (simp [*]; done), by repeat (first | exact Drawn0.refl _ | apply Drawn0.step)⟩
          ·rw [if_neg c24] at H; have c24b0 : decide (16 < (((10 * (((bt a0 1) - 48) % 256)) + (((bt a0 2) - 48) % 256)))) = false := decide_eq_false c24; clear c24; obtain rfl := Option.some.inj H
           have p23 : 0 ≤ (2 : Int) := (by omega)
           have q23 : 2 < a0.size := (by have : (2 : Int) < (a0.size : Int) := of_decide_eq_true (by first | (with_reducible assumption) | assumption); omega)
           have hx23 : ∀ h : 2 < a0.size, ((a0[2]'h).toNat : Int) = bt a0 2 := bt_at a0 2; clear p23; have qi23 : (2 < (a0.size : Int)) = True := eq_true (of_decide_eq_true (by first | (with_reducible assumption) | assumption)); replace q23 := eq_true q23; go_wp2; go_ret; exact ⟨by first | rfl | (simp; done) | (simp [*]; done), by repeat (first | exact Drawn0.refl _ | apply Drawn0.step)⟩
         ·rw [if_neg c22] at H; exact absurd H (by simp)
     ·rw [if_neg c15] at H; have c15b0 : ((a0.size : Int) == 3) = false := beq_eq_false_iff_ne.mpr c15; have c15b1 : ((a0.size : Int) != 3) = true := bne_iff_ne.mpr c15
      by_cases c25 : (((bt a0 1) - 48) % 256) > 16
      ·rw [if_pos c25] at H; have c25b0 : decide (16 < (((bt a0 1) - 48) % 256)) = true := decide_eq_true c25; clear c25; obtain rfl := Option.some.inj H
       have p14 : 0 ≤ (1 : Int) := (by omega)
       have q14 : 1 < a0.size := (by have : (1 : Int) < (a0.size : Int) := of_decide_eq_true (by first | (with_reducible assumption) | assumption); omega)
       have hx14 : ∀ h : 1 < a0.size, ((a0[1]'h).toNat : Int) = bt a0 1 := bt_at a0 1; clear p14; have qi14 : (1 < (a0.size : Int)) = True := eq_true (of_decide_eq_true (by first | (with_reducible assumption) | assumption)); replace q14 := eq_true q14; go_wp2; go_ret; exact ⟨by first | rfl | (simp; done) | (simp [*]; done), by repeat (first | exact Drawn0.refl _ | apply Drawn0.step)⟩
      ·rw [if_neg c25] at H; have c25b0 : decide (16 < (((bt a0 1) - 48) % 256)) = false := decide_eq_false c25; clear c25; obtain rfl := Option.some.inj H
       have p14 : 0 ≤ (1 : Int) := (by omega)
       have q14 : 1 < a0.size := (by have : (1 : Int) < (a0.size : Int) := of_decide_eq_true (by first | (with_reducible assumption) | assumption); omega)
       have hx14 : ∀ h : 1 < a0.size, ((a0[1]'h).toNat : Int) = bt a0 1 := bt_at a0 1; clear p14; have qi14 : (1 < (a0.size : Int)) = True := eq_true (of_decide_eq_true (by first | (with_reducible assumption) | assumption)); replace q14 := eq_true q14; go_wp2; go_ret; exact ⟨by first | rfl | (simp; done) | (simp [*]; done), by repeat (first | exact Drawn0.refl _ | apply Drawn0.step)⟩
    ·rw [if_neg c13] at H; exact absurd H (by simp)
def liveryref04_Role.f (k : Nat) (a0_0 : ByteArray) (a0_1 : ByteArray) : Option (Bool) := (Qaw.f k a0_1).bind fun t102 => (if t102 = true then ((Qau.f k a0_0).bind fun t103 => (some (t103 != 0))) else (some false))
set_option maxHeartbeats 8000000 in
set_option maxRecDepth 100000 in
theorem liveryref04_Role.calls (k : Nat) (a0_0 : ByteArray) (a0_1 : ByteArray) (r : Bool) (w : World) (h : liveryref04_Role.f k a0_0 a0_1 = some r) :
  Calls Tryd.prog 50 #[.agg #[.string a0_0, .string a0_1]] w fun e w' => e = .returned (.bool r) ∧ Below w.heap.size w w' := by
 have hu24 := Tryd.underlying24; have HB := Qad.mk (Below.refl w.heap.size w); have H : ((Qaw.f k a0_1).bind fun t102 => (if t102 = true then ((Qau.f k a0_0).bind fun t103 => (some (t103 != 0))) else (some false))) = some r := h; clear h; replace H := Option.bind_eq_some_iff.mp H; obtain ⟨t102, A20, H⟩ := H; replace H : (if t102 = true then ((Qau.f k a0_0).bind fun t103 => (some (t103 != 0))) else (some false)) = some r := H; have A2 := Qad.mk A20; clear A20
 by_cases c3 : t102 = true
 ·subst c3
  have H1 : ((Qau.f k a0_0).bind fun t103 => (some (t103 != 0))) = some r := by rw [if_pos rfl] at H; exact H
  clear H; have H := H1; clear H1; replace H := Option.bind_eq_some_iff.mp H; obtain ⟨t103, A40, H⟩ := H; replace H : (some (t103 != 0)) = some r := H; have A4 := Qad.mk A40; clear A40; obtain rfl := Option.some.inj H; go_enter Tryd.func50, Tryd.ntmps50
  go_wp2_with (first | ((with_reducible refine gate_dst (N := 1) rfl ?_); refine QaO ?hg (N := 1) ?hd (cs := #[.string a0_0, .string a0_1]) (t := 24) ?hr ?_; (case hd => rfl); (case hg => rfl); (case hr => first | (go_simp; done) | (go_simp; rfl)); intro gb101 hg w5 hbox hb; have n0_ := Qad.mk (Qai (by repeat (first | (with_reducible first | exact HB.out | apply Qab | apply Qaa | apply Qac) | exact HB.out)) hb); have n1_ := Qad.mk (hbox); have n2_ := Qad.mk ((by rw [hg]; exact (Qaq (by repeat (first | (with_reducible first | exact HB.out | apply Qab | apply Qaa | apply Qac) | exact HB.out))) : w.heap.size ≤ gb101)); have n3_ := n2_; clear HB; have HB := n0_; have BK101 := n1_; have GW101 := n2_; have GE101 := n3_; clear n0_ n1_ n2_ n3_; clear hb hbox hg; obtain ⟨hcz6_0, hcz6_1⟩ := cz_ss BK101.out; obtain ⟨hfz6_0, hfz6_1⟩ := fz_2 BK101.out) | ((with_reducible refine gate_callee (f := 49) rfl ?_); refine goesL_ (some 6) rfl rfl Tryd.func49 (by kernel_rfl) rfl #[.string a0_1] rfl (by (try simp only [List.map_toArray, List.map_cons, List.map_nil]); first | done | rfl | (simp only [List.length_drop, List.length_take]; rfl)) ?_; (with_reducible refine (Qaw.calls k a0_1 true _ A2.out).mono ?_); rintro e w' ⟨rfl, ⟨nd, rfl⟩⟩; refine ⟨_, rfl, ?_⟩) | (go_at_call 44; (with_reducible refine (Qau.calls k a0_0 t103 _ A4.out).mono ?_); rintro e w' ⟨rfl, ⟨nd, rfl⟩⟩))
  go_ret; exact ⟨by first | rfl | (simp [Qaz, Qay] <;> rfl) | (simp [*, Qaz, Qay] <;> rfl), by repeat (first | (with_reducible first | exact HB.out | apply Qab | apply Qaa | apply Qac | refine Qag ?_ GE101.out) | exact HB.out)⟩
 ·replace c3 := Bool.eq_false_iff.mpr c3; subst c3
  have H1 : (some false) = some r := by rw [if_neg (show ¬ (false = true) by decide)] at H; exact H
  clear H; have H := H1; clear H1; obtain rfl := Option.some.inj H; go_enter Tryd.func50, Tryd.ntmps50
  go_wp2_with (first | ((with_reducible refine gate_dst (N := 1) rfl ?_); refine QaO ?hg (N := 1) ?hd (cs := #[.string a0_0, .string a0_1]) (t := 24) ?hr ?_; (case hd => rfl); (case hg => rfl); (case hr => first | (go_simp; done) | (go_simp; rfl)); intro gb101 hg w7 hbox hb; have n0_ := Qad.mk (Qai (by repeat (first | (with_reducible first | exact HB.out | apply Qab | apply Qaa | apply Qac) | exact HB.out)) hb); have n1_ := Qad.mk (hbox); have n2_ := Qad.mk ((by rw [hg]; exact (Qaq (by repeat (first | (with_reducible first | exact HB.out | apply Qab | apply Qaa | apply Qac) | exact HB.out))) : w.heap.size ≤ gb101)); have n3_ := n2_; clear HB; have HB := n0_; have BK101 := n1_; have GW101 := n2_; have GE101 := n3_; clear n0_ n1_ n2_ n3_; clear hb hbox hg; obtain ⟨hcz8_0, hcz8_1⟩ := cz_ss BK101.out; obtain ⟨hfz8_0, hfz8_1⟩ := fz_2 BK101.out) | ((with_reducible refine gate_callee (f := 49) rfl ?_); refine goesL_ (some 6) rfl rfl Tryd.func49 (by kernel_rfl) rfl #[.string a0_1] rfl (by (try simp only [List.map_toArray, List.map_cons, List.map_nil]); first | done | rfl | (simp only [List.length_drop, List.length_take]; rfl)) ?_; (with_reducible refine (Qaw.calls k a0_1 false _ A2.out).mono ?_); rintro e w' ⟨rfl, ⟨nd, rfl⟩⟩; refine ⟨_, rfl, ?_⟩))
  go_ret; exact ⟨by first | rfl | (simp [Qaz, Qay] <;> rfl) | (simp [*, Qaz, Qay] <;> rfl), by repeat (first | (with_reducible first | exact HB.out | apply Qab | apply Qaa | apply Qac | refine Qag ?_ GE101.out) | exact HB.out)⟩
def liveryref05_bare.f (k : Nat) (a0_0 : ByteArray) (a0_1 : ByteArray) : Option (Bool) := (Qaw.f k a0_1).bind fun t102 => (if t102 = true then (some (a0_0.toList == ([] : List UInt8))) else (some false))
set_option maxHeartbeats 8000000 in
set_option maxRecDepth 100000 in
theorem liveryref05_bare.calls (k : Nat) (a0_0 : ByteArray) (a0_1 : ByteArray) (r : Bool) (w : World) (h : liveryref05_bare.f k a0_0 a0_1 = some r) :
  Calls Tryd.prog 51 #[.agg #[.string a0_0, .string a0_1]] w fun e w' => e = .returned (.bool r) ∧ Below w.heap.size w w' := by
 have hu24 := Tryd.underlying24; have HB := Qad.mk (Below.refl w.heap.size w); have H : ((Qaw.f k a0_1).bind fun t102 => (if t102 = true then (some (a0_0.toList == ([] : List UInt8))) else (some false))) = some r := h; clear h; replace H := Option.bind_eq_some_iff.mp H; obtain ⟨t102, A20, H⟩ := H; replace H : (if t102 = true then (some (a0_0.toList == ([] : List UInt8))) else (some false)) = some r := H; have A2 := Qad.mk A20; clear A20
 by_cases c3 : t102 = true
 ·subst c3
  have H1 : (some (a0_0.toList == ([] : List UInt8))) = some r := by rw [if_pos rfl] at H; exact H
  clear H; have H := H1; clear H1; obtain rfl := Option.some.inj H; go_enter Tryd.func51, Tryd.ntmps51
  go_wp2_with (first | ((with_reducible refine gate_dst (N := 1) rfl ?_); refine QaO ?hg (N := 1) ?hd (cs := #[.string a0_0, .string a0_1]) (t := 24) ?hr ?_; (case hd => rfl); (case hg => rfl); (case hr => first | (go_simp; done) | (go_simp; rfl)); intro gb101 hg w4 hbox hb; have n0_ := Qad.mk (Qai (by repeat (first | (with_reducible first | exact HB.out | apply Qab | apply Qaa | apply Qac) | exact HB.out)) hb); have n1_ := Qad.mk (hbox); have n2_ := Qad.mk ((by rw [hg]; exact (Qaq (by repeat (first | (with_reducible first | exact HB.out | apply Qab | apply Qaa | apply Qac) | exact HB.out))) : w.heap.size ≤ gb101)); have n3_ := n2_; clear HB; have HB := n0_; have BK101 := n1_; have GW101 := n2_; have GE101 := n3_; clear n0_ n1_ n2_ n3_; clear hb hbox hg; obtain ⟨hcz5_0, hcz5_1⟩ := cz_ss BK101.out; obtain ⟨hfz5_0, hfz5_1⟩ := fz_2 BK101.out) | ((with_reducible refine gate_callee (f := 49) rfl ?_); refine goesL_ (some 6) rfl rfl Tryd.func49 (by kernel_rfl) rfl #[.string a0_1] rfl (by (try simp only [List.map_toArray, List.map_cons, List.map_nil]); first | done | rfl | (simp only [List.length_drop, List.length_take]; rfl)) ?_; (with_reducible refine (Qaw.calls k a0_1 true _ A2.out).mono ?_); rintro e w' ⟨rfl, ⟨nd, rfl⟩⟩; refine ⟨_, rfl, ?_⟩))
  go_ret; exact ⟨by first | rfl | (simp [Qaz, Qay] <;> rfl) | (simp [*, Qaz, Qay] <;> rfl), by repeat (first | (with_reducible first | exact HB.out | apply Qab | apply Qaa | apply Qac | refine Qag ?_ GE101.out) | exact HB.out)⟩
 ·replace c3 := Bool.eq_false_iff.mpr c3; subst c3
  have H1 : (some false) = some r := by rw [if_neg (show ¬ (false = true) by decide)] at H; exact H
  clear H; have H := H1; clear H1; obtain rfl := Option.some.inj H; go_enter Tryd.func51, Tryd.ntmps51
  go_wp2_with (first | ((with_reducible refine gate_dst (N := 1) rfl ?_); refine QaO ?hg (N := 1) ?hd (cs := #[.string a0_0, .string a0_1]) (t := 24) ?hr ?_; (case hd => rfl); (case hg => rfl); (case hr => first | (go_simp; done) | (go_simp; rfl)); intro gb101 hg w6 hbox hb; have n0_ := Qad.mk (Qai (by repeat (first | (with_reducible first | exact HB.out | apply Qab | apply Qaa | apply Qac) | exact HB.out)) hb); have n1_ := Qad.mk (hbox); have n2_ := Qad.mk ((by rw [hg]; exact (Qaq (by repeat (first | (with_reducible first | exact HB.out | apply Qab | apply Qaa | apply Qac) | exact HB.out))) : w.heap.size ≤ gb101)); have n3_ := n2_; clear HB; have HB := n0_; have BK101 := n1_; have GW101 := n2_; have GE101 := n3_; clear n0_ n1_ n2_ n3_; clear hb hbox hg; obtain ⟨hcz7_0, hcz7_1⟩ := cz_ss BK101.out; obtain ⟨hfz7_0, hfz7_1⟩ := fz_2 BK101.out) | ((with_reducible refine gate_callee (f := 49) rfl ?_); refine goesL_ (some 6) rfl rfl Tryd.func49 (by kernel_rfl) rfl #[.string a0_1] rfl (by (try simp only [List.map_toArray, List.map_cons, List.map_nil]); first | done | rfl | (simp only [List.length_drop, List.length_take]; rfl)) ?_; (with_reducible refine (Qaw.calls k a0_1 false _ A2.out).mono ?_); rintro e w' ⟨rfl, ⟨nd, rfl⟩⟩; refine ⟨_, rfl, ?_⟩))
  go_ret; exact ⟨by first | rfl | (simp [Qaz, Qay] <;> rfl) | (simp [*, Qaz, Qay] <;> rfl), by repeat (first | (with_reducible first | exact HB.out | apply Qab | apply Qaa | apply Qac | refine Qag ?_ GE101.out) | exact HB.out)⟩
def liveryref05_Before.f (a0_0 : Int) (a0_1 : Int) (a1_0 : Int) (a1_1 : Int) : Option (Bool) := if a0_0 = a1_0 then (some (decide (a0_1 < a1_1))) else (some (decide (a0_0 < a1_0)))
set_option maxHeartbeats 8000000 in
set_option maxRecDepth 100000 in
theorem liveryref05_Before.calls (a0_0 : Int) (a0_1 : Int) (a1_0 : Int) (a1_1 : Int) (r : Bool) (w : World) (h : liveryref05_Before.f a0_0 a0_1 a1_0 a1_1 = some r) :
  Calls Tryd.prog 48 #[.agg #[.int .i64 a0_0, .int .i64 a0_1], .agg #[.int .i64 a1_0, .int .i64 a1_1]] w fun e w' => e = .returned (.bool r) ∧ Below w.heap.size w w' := by
 have hu26 := Tryd.underlying26; have HB := Qad.mk (Below.refl w.heap.size w); have H : (if a0_0 = a1_0 then (some (decide (a0_1 < a1_1))) else (some (decide (a0_0 < a1_0)))) = some r := h; clear h
 by_cases c3 : a0_0 = a1_0
 ·rw [if_pos c3] at H; have c3b0 : (a0_0 == a1_0) = true := beq_iff_eq.mpr c3; have c3b1 : (a0_0 != a1_0) = false := bne_eq_false_iff_eq.mpr c3; clear c3; obtain rfl := Option.some.inj H; go_enter Tryd.func48, Tryd.ntmps48
  go_wp2_with (first | ((with_reducible refine gate_dst (N := 2) rfl ?_); refine QaO ?hg (N := 2) ?hd (cs := #[.int .i64 a0_0, .int .i64 a0_1]) (t := 26) ?hr ?_; (case hd => rfl); (case hg => rfl); (case hr => first | (go_simp; done) | (go_simp; rfl)); intro gb101 hg w4 hbox hb; have n0_ := Qad.mk (Qai (by repeat (first | (with_reducible first | exact HB.out | apply Qab | apply Qaa | apply Qac) | exact HB.out)) hb); have n1_ := Qad.mk (hbox); have n2_ := Qad.mk ((by rw [hg]; exact (Qaq (by repeat (first | (with_reducible first | exact HB.out | apply Qab | apply Qaa | apply Qac) | exact HB.out))) : w.heap.size ≤ gb101)); have n3_ := n2_; clear HB; have HB := n0_; have BK101 := n1_; have GW101 := n2_; have GE101 := n3_; clear n0_ n1_ n2_ n3_; clear hb hbox hg) | ((with_reducible refine gate_dst (N := 3) rfl ?_); refine QaO ?hg (N := 3) ?hd (cs := #[.int .i64 a1_0, .int .i64 a1_1]) (t := 26) ?hr ?_; (case hd => rfl); (case hg => rfl); (case hr => first | (go_simp; done) | (go_simp; rfl)); intro gb102 hg w5 hbox hb; have n0_ := Qad.mk (Qak (g := gb101) (o := ob_ii a0_0 a0_1 26) (by (with_reducible repeat (first | refine Qaf ?_ _ | refine Qah ?_ | refine Qae ?_ _)); exact BK101.out) hb); have n1_ := Qad.mk (Qai (by repeat (first | (with_reducible first | exact HB.out | apply Qab | apply Qaa | apply Qac | refine Qag ?_ GE101.out) | exact HB.out)) hb); have n2_ := Qad.mk (hbox); have n3_ := Qad.mk ((by rw [hg]; exact (Qaq (by repeat (first | (with_reducible first | exact HB.out | apply Qab | apply Qaa | apply Qac | refine Qag ?_ GE101.out) | exact HB.out))) : w.heap.size ≤ gb102)); have n4_ := n3_; have n5_ := Qad.mk ((by rw [hg]; exact Nat.ne_of_lt (blk_lt (g := gb101) (o := ob_ii a0_0 a0_1 26) (by (with_reducible repeat (first | refine Qaf ?_ _ | refine Qah ?_ | refine Qae ?_ _)); exact BK101.out)) : gb101 ≠ gb102)); have n6_ := Qad.mk ((by rw [hg]; exact Nat.ne_of_gt (blk_lt (g := gb101) (o := ob_ii a0_0 a0_1 26) (by (with_reducible repeat (first | refine Qaf ?_ _ | refine Qah ?_ | refine Qae ?_ _)); exact BK101.out)) : gb102 ≠ gb101)); clear BK101; clear HB; have BK101 := n0_; have HB := n1_; have BK102 := n2_; have GW102 := n3_; have GE102 := n4_; have NB101_102 := n5_; have NB102_101 := n6_; clear n0_ n1_ n2_ n3_ n4_ n5_ n6_; clear hb hbox hg; have hnb6 := NB101_102.out; have hnc6 := NB102_101.out; obtain ⟨hcz7_0, hcz7_1⟩ := cz_ii BK101.out; obtain ⟨hfz7_0, hfz7_1⟩ := fz_2 BK101.out; obtain ⟨hcz8_0, hcz8_1⟩ := cz_ii BK102.out; obtain ⟨hfz8_0, hfz8_1⟩ := fz_2 BK102.out))
  go_ret; exact ⟨by first | rfl | (simp [Qaz, Qay] <;> rfl) | (simp [*, Qaz, Qay] <;> rfl), by repeat (first | (with_reducible first | exact HB.out | apply Qab | apply Qaa | apply Qac | refine Qag ?_ GE101.out | refine Qag ?_ GE102.out) | exact HB.out)⟩
 ·rw [if_neg c3] at H; have c3b0 : (a0_0 == a1_0) = false := beq_eq_false_iff_ne.mpr c3; have c3b1 : (a0_0 != a1_0) = true := bne_iff_ne.mpr c3; obtain rfl := Option.some.inj H; go_enter Tryd.func48, Tryd.ntmps48
  go_wp2_with (first | ((with_reducible refine gate_dst (N := 2) rfl ?_); refine QaO ?hg (N := 2) ?hd (cs := #[.int .i64 a0_0, .int .i64 a0_1]) (t := 26) ?hr ?_; (case hd => rfl); (case hg => rfl); (case hr => first | (go_simp; done) | (go_simp; rfl)); intro gb101 hg w9 hbox hb; have n0_ := Qad.mk (Qai (by repeat (first | (with_reducible first | exact HB.out | apply Qab | apply Qaa | apply Qac) | exact HB.out)) hb); have n1_ := Qad.mk (hbox); have n2_ := Qad.mk ((by rw [hg]; exact (Qaq (by repeat (first | (with_reducible first | exact HB.out | apply Qab | apply Qaa | apply Qac) | exact HB.out))) : w.heap.size ≤ gb101)); have n3_ := n2_; clear HB; have HB := n0_; have BK101 := n1_; have GW101 := n2_; have GE101 := n3_; clear n0_ n1_ n2_ n3_; clear hb hbox hg) | ((with_reducible refine gate_dst (N := 3) rfl ?_); refine QaO ?hg (N := 3) ?hd (cs := #[.int .i64 a1_0, .int .i64 a1_1]) (t := 26) ?hr ?_; (case hd => rfl); (case hg => rfl); (case hr => first | (go_simp; done) | (go_simp; rfl)); intro gb102 hg w10 hbox hb; have n0_ := Qad.mk (Qak (g := gb101) (o := ob_ii a0_0 a0_1 26) (by (with_reducible repeat (first | refine Qaf ?_ _ | refine Qah ?_ | refine Qae ?_ _)); exact BK101.out) hb); have n1_ := Qad.mk (Qai (by repeat (first | (with_reducible first | exact HB.out | apply Qab | apply Qaa | apply Qac | refine Qag ?_ GE101.out) | exact HB.out)) hb); have n2_ := Qad.mk (hbox); have n3_ := Qad.mk ((by rw [hg]; exact (Qaq (by repeat (first | (with_reducible first | exact HB.out | apply Qab | apply Qaa | apply Qac | refine Qag ?_ GE101.out) | exact HB.out))) : w.heap.size ≤ gb102)); have n4_ := n3_; have n5_ := Qad.mk ((by rw [hg]; exact Nat.ne_of_lt (blk_lt (g := gb101) (o := ob_ii a0_0 a0_1 26) (by (with_reducible repeat (first | refine Qaf ?_ _ | refine Qah ?_ | refine Qae ?_ _)); exact BK101.out)) : gb101 ≠ gb102)); have n6_ := Qad.mk ((by rw [hg]; exact Nat.ne_of_gt (blk_lt (g := gb101) (o := ob_ii a0_0 a0_1 26) (by (with_reducible repeat (first | refine Qaf ?_ _ | refine Qah ?_ | refine Qae ?_ _)); exact BK101.out)) : gb102 ≠ gb101)); clear BK101; clear HB; have BK101 := n0_; have HB := n1_; have BK102 := n2_; have GW102 := n3_; have GE102 := n4_; have NB101_102 := n5_; have NB102_101 := n6_; clear n0_ n1_ n2_ n3_ n4_ n5_ n6_; clear hb hbox hg; have hnb11 := NB101_102.out; have hnc11 := NB102_101.out; obtain ⟨hcz12_0, hcz12_1⟩ := cz_ii BK101.out; obtain ⟨hfz12_0, hfz12_1⟩ := fz_2 BK101.out; obtain ⟨hcz13_0, hcz13_1⟩ := cz_ii BK102.out; obtain ⟨hfz13_0, hfz13_1⟩ := fz_2 BK102.out))
  go_ret; exact ⟨by first | rfl | (simp [Qaz, Qay] <;> rfl) | (simp [*, Qaz, Qay] <;> rfl), by repeat (first | (with_reducible first | exact HB.out | apply Qab | apply Qaa | apply Qac | refine Qag ?_ GE101.out | refine Qag ?_ GE102.out) | exact HB.out)⟩



end Go.Proofs.YtmaipohgahdclaaDoor.Pr
end
section
namespace Go.Proofs.YtmaipohgahdclaaDoor.Pr
open Go.RowKit Go.Proofs.YtmaipohgahdclaaDoorW.PrintWords Go.Proofs.YtmaipohgahdclaaDoorW.PrintLast Go.Proofs.YtmaipohgahdclaaDoorW.PrintMore
set_option linter.unusedVariables false
set_option linter.unusedSimpArgs false
attribute [local go_sem high] eqA24 eqA26

end Go.Proofs.YtmaipohgahdclaaDoor.Pr
end
section
namespace Go.Proofs.YtmaipohgahdclaaDoor.Pr
open Go.RowKit Go.Proofs.YtmaipohgahdclaaDoorW.PrintWords Go.Proofs.YtmaipohgahdclaaDoorW.PrintLast Go.Proofs.YtmaipohgahdclaaDoorW.PrintMore
attribute [local go_sem] max2_int min2_int max_two min_two QaQ QaP max_four min_four
set_option linter.unusedVariables false
set_option linter.unusedSimpArgs false

end Go.Proofs.YtmaipohgahdclaaDoor.Pr
end
section
namespace Go.Proofs.YtmaipohgahdclaaDoor.Pr
open Go.RowKit Go.Proofs.YtmaipohgahdclaaDoorW.PrintWords Go.Proofs.YtmaipohgahdclaaDoorW.PrintLast Go.Proofs.YtmaipohgahdclaaDoorW.PrintMore
attribute [local go_sem] max2_int min2_int max_two min_two QaQ QaP max_four min_four
set_option linter.unusedVariables false
set_option linter.unusedSimpArgs false
attribute [local go_sem high] eqA26


end Go.Proofs.YtmaipohgahdclaaDoor.Pr
end
section
namespace Go.Proofs.YtmaipohgahdclaaDoor.Pr
open Go.RowKit Go.Proofs.YtmaipohgahdclaaDoorW.PrintWords Go.Proofs.YtmaipohgahdclaaDoorW.PrintLast Go.Proofs.YtmaipohgahdclaaDoorW.PrintMore
attribute [local go_sem] max2_int min2_int max_two min_two QaQ QaP max_four min_four
set_option linter.unusedVariables false
set_option linter.unusedSimpArgs false



end Go.Proofs.YtmaipohgahdclaaDoor.Pr
end
section
namespace Go.Proofs.YtmaipohgahdclaaDoor.Pr
open Go.RowKit Go.Proofs.YtmaipohgahdclaaDoorW.PrintWords Go.Proofs.YtmaipohgahdclaaDoorW.PrintLast Go.Proofs.YtmaipohgahdclaaDoorW.PrintMore
attribute [local go_sem] max2_int min2_int max_two min_two QaQ QaP max_four min_four
set_option linter.unusedVariables false
set_option linter.unusedSimpArgs false
attribute [local go_sem high] eqA24 eqA26

end Go.Proofs.YtmaipohgahdclaaDoor.Pr
end
section
namespace Go.Proofs.YtmaipohgahdclaaDoor.Pr
open Go.RowKit Go.Proofs.YtmaipohgahdclaaDoorW.PrintWords Go.Proofs.YtmaipohgahdclaaDoorW.PrintLast Go.Proofs.YtmaipohgahdclaaDoorW.PrintMore
attribute [local go_sem] max2_int min2_int max_two min_two QaQ QaP max_four min_four
set_option linter.unusedVariables false
set_option linter.unusedSimpArgs false

end Go.Proofs.YtmaipohgahdclaaDoor.Pr
end
section
namespace Go.Proofs.YtmaipohgahdclaaDoor.Pr
open Go.RowKit Go.Proofs.YtmaipohgahdclaaDoorW.PrintWords Go.Proofs.YtmaipohgahdclaaDoorW.PrintLast Go.Proofs.YtmaipohgahdclaaDoorW.PrintMore
attribute [local go_sem] max2_int min2_int max_two min_two QaQ QaP max_four min_four
set_option linter.unusedVariables false
set_option linter.unusedSimpArgs false
attribute [local go_sem high] eqA44

end Go.Proofs.YtmaipohgahdclaaDoor.Pr
end
section
namespace Go.Proofs.YtmaipohgahdclaaDoor.Pr
theorem sorted_eq {α : Type} {R : α → α → Prop} (hi : ∀ x, ¬ R x x) (ht : ∀ x y z, R x y → R y z → R x z) : ∀ {a b : List α}, a.Pairwise R → b.Pairwise R → (∀ x, x ∈ a ↔ x ∈ b) → a = b
  | [], [], _, _, _ => rfl
  | [], y :: b, _, _, h => absurd ((h y).mpr (List.mem_cons_self ..)) (List.not_mem_nil)
  | x :: a, [], _, _, h => absurd ((h x).mp (List.mem_cons_self ..)) (List.not_mem_nil)
  | x :: a, y :: b, ha, hb, h => by
    rw [List.pairwise_cons] at ha hb
    have exy : x = y := by
      rcases List.mem_cons.mp ((h x).mp (List.mem_cons_self ..)) with e | h1
      · exact e
      · rcases List.mem_cons.mp ((h y).mpr (List.mem_cons_self ..)) with e | h2
        · exact e.symm
        · exact absurd (ht _ _ _ (ha.1 _ h2) (hb.1 _ h1)) (hi x)
    subst exy
    congr 1
    refine sorted_eq hi ht ha.2 hb.2 fun z => ⟨fun hz => ?_, fun hz => ?_⟩
    · rcases List.mem_cons.mp ((h z).mp (List.mem_cons_of_mem _ hz)) with e | h1
      · subst e; exact absurd (ha.1 _ hz) (hi z)
      · exact h1
    · rcases List.mem_cons.mp ((h z).mpr (List.mem_cons_of_mem _ hz)) with e | h1
      · subst e; exact absurd (hb.1 _ hz) (hi z)
      · exact h1
theorem sorted_nodup {α : Type} {R : α → α → Prop} (hi : ∀ x, ¬ R x x) {l : List α} (h : l.Pairwise R) : l.Nodup :=
  h.imp fun {a b} hab (e : a = b) => hi a (by subst e; exact hab)
section
variable {α : Type} [Inhabited α]
theorem swp_split (d : Array α) (j : Nat) (h : j + 1 < d.size) : ∃ a b, d.toList = a ++ d[j]! :: d[j + 1]! :: b ∧ (Go.Sort.swp d (j + 1) j).toList = a ++ d[j + 1]! :: d[j]! :: b := by
  have h1 : j < d.toList.length := by simp; omega
  have h2 : j + 1 < d.toList.length := by simp; omega
  have e : d.toList = d.toList.take j ++ d[j]! :: d[j + 1]! :: d.toList.drop (j + 2) := by
    rw [getElem!_pos d j (by omega), getElem!_pos d (j + 1) h]
    conv => lhs; rw [← List.take_append_drop j d.toList, List.drop_eq_getElem_cons h1, List.drop_eq_getElem_cons h2]
    rfl
  have hl : (d.toList.take j).length = j := by simp; omega
  generalize d.toList.take j = a at e hl
  generalize d.toList.drop (j + 2) = b at e
  refine ⟨a, b, e, ?_⟩; unfold Go.Sort.swp; rw [Array.toList_setIfInBounds, Array.toList_setIfInBounds]
  generalize d[j]! = x at *
  generalize d[j + 1]! = y at *
  rw [e]; rw [List.set_append_right _ _ (by omega), show j + 1 - a.length = 1 by omega, List.set_append_right _ _ (by omega), show j - a.length = 0 by omega]; rfl
theorem swp_size (d : Array α) (i j : Nat) : (Go.Sort.swp d i j).size = d.size := by simp [Go.Sort.swp]
theorem inner_filter (lt : α → α → Bool) (q : α → Bool) (hq : ∀ x y, lt x y = true → q x = true → q y = true → False) (a : Nat) : ∀ (j : Nat) (d : Array α), j < d.size → (Go.Sort.insInner lt a j d).toList.filter q = d.toList.filter q ∧ (Go.Sort.insInner lt a j d).size = d.size
  | 0, d, _ => ⟨rfl, rfl⟩
  | j + 1, d, h => by
    rw [Go.Sort.insInner]
    by_cases c : (decide (j + 1 > a) && lt d[j + 1]! d[j]!) = true
    · rw [if_pos c]
      rw [Bool.and_eq_true] at c; obtain ⟨l, r, e1, e2⟩ := swp_split d j h; have ih := inner_filter lt q hq a j (Go.Sort.swp d (j + 1) j) (by rw [swp_size]; omega); refine ⟨ih.1.trans ?_, ih.2.trans (swp_size _ _ _)⟩; rw [e1, e2, List.filter_append, List.filter_append]
      congr 1
      have := hq _ _ c.2; simp only [List.filter_cons]
      cases h1 : q d[j]! <;> cases h2 : q d[j + 1]! <;> simp_all
    · rw [if_neg c]
      exact ⟨rfl, rfl⟩
theorem outer_filter (lt : α → α → Bool) (q : α → Bool) (hq : ∀ x y, lt x y = true → q x = true → q y = true → False) (a b : Nat) : ∀ (n i : Nat) (d : Array α), b - i ≤ n → b ≤ d.size → (Go.Sort.insOuter lt a b i d).toList.filter q = d.toList.filter q
  | 0, i, d, h, hb => by
    rw [Go.Sort.insOuter, if_neg (by omega)]
  | n + 1, i, d, h, hb => by
    rw [Go.Sort.insOuter]
    by_cases c : i < b
    · rw [if_pos c]
      have := inner_filter lt q hq a i d (by omega); exact (outer_filter lt q hq a b n (i + 1) _ (by omega) (by rw [this.2]; exact hb)).trans this.1
    · rw [if_neg c]
theorem insertion_filter (lt : α → α → Bool) (q : α → Bool) (hq : ∀ x y, lt x y = true → q x = true → q y = true → False) (l : List α) : (Go.Sort.insertionSort lt l.toArray 0 l.length).toList.filter q = l.filter q := by
  have := outer_filter lt q hq 0 l.length l.length 1 l.toArray (by omega) (by simp)
  simpa [Go.Sort.insertionSort] using this
theorem insertion_sorted (lt : α → α → Bool) (h : Go.Sort.SWO lt) (l : List α) : (Go.Sort.insertionSort lt l.toArray 0 l.length).toList.Pairwise (fun x y => lt y x = false) := by
  obtain ⟨⟨hs, _, _⟩, hp⟩ := Go.Sort.insertionSort_holds h l.toArray 0 l.length (Nat.zero_le _) (by simp); rw [List.pairwise_iff_getElem]; intro i j hi hj hij
  have hsz : (Go.Sort.insertionSort lt l.toArray 0 l.length).size = l.length := by rw [hs]; simp
  have hj' : j < (Go.Sort.insertionSort lt l.toArray 0 l.length).size := by simpa using hj
  have := hp i j (Nat.zero_le _) hij (by omega); rw [getElem!_pos _ j hj', getElem!_pos _ i (by omega)] at this
  simpa using this
end
def Ev {α : Type} (f : Nat → Option α) (v : α) : Prop := ∃ K, ∀ k, K ≤ k → f k = some v
theorem Ev.from {α : Type} {f : Nat → Option α} {v : α} (K : Nat) (h : ∀ k, K ≤ k → f k = some v) : Ev f v := ⟨K, h⟩
theorem Ev.pure {α : Type} (v : α) : Ev (fun _ => some v) v := ⟨0, fun _ _ => rfl⟩
theorem Ev.step {α : Type} {f g : Nat → Option α} {v : α} (e : ∀ k, f (k + 1) = g k) (h : Ev g v) : Ev f v := by
  obtain ⟨K, h⟩ := h; refine ⟨K + 1, fun k hk => ?_⟩
  obtain ⟨j, rfl⟩ : ∃ j, k = j + 1 := ⟨k - 1, by omega⟩
  rw [e, h j (by omega)]
theorem Ev.congr {α : Type} {f g : Nat → Option α} {v : α} (e : ∀ k, f k = g k) (h : Ev g v) : Ev f v := by
  obtain ⟨K, h⟩ := h; exact ⟨K, fun k hk => (e k).trans (h k hk)⟩
theorem Ev.bind {α β : Type} {g : Nat → Option β} {h : Nat → β → Option α} {a : β} {v : α} (hg : Ev g a) (hh : Ev (fun k => h k a) v) : Ev (fun k => (g k).bind (h k)) v := by
  obtain ⟨K, hg⟩ := hg; obtain ⟨K', hh⟩ := hh; refine ⟨K + K', fun k hk => ?_⟩
  show (g k).bind (h k) = some v
  rw [hg k (by omega), Option.bind_some]; exact hh k (by omega)
section
variable {α : Type} [Inhabited α]
def selLeast (less : α → α → Bool) (l : List α) : Nat → Nat → Nat → Nat
  | 0, m, _ => m
  | n + 1, m, i => selLeast less l n (if less l[i]! l[m]! then i else m) (i + 1)
theorem selLeast_spec (less : α → α → Bool) (hi : ∀ x, less x x = false) (ht : ∀ x y z, less x y = true → less y z = true → less x z = true) (l : List α) : ∀ (n m i : Nat), n + i = l.length → m < i → 0 < i → (∀ j, j < i → less l[j]! l[m]! = false) →
    selLeast less l n m i < l.length ∧ ∀ j, j < l.length → less l[j]! l[selLeast less l n m i]! = false
  | 0, m, i, hn, hm, h0, h => by
    rw [selLeast]; exact ⟨by omega, fun j hj => h j (by omega)⟩
  | n + 1, m, i, hn, hm, h0, h => by
    rw [selLeast]
    by_cases c : less l[i]! l[m]! = true
    · rw [if_pos c]
      refine selLeast_spec less hi ht l n i (i + 1) (by omega) (by omega) (by omega) fun j hj => ?_
      by_cases e : j = i
      · rw [e]; exact hi _
      · rw [Bool.eq_false_iff]
        intro h2; have := h j (by omega); rw [ht _ _ _ h2 c] at this; cases this
    · rw [if_neg c]
      refine selLeast_spec less hi ht l n m (i + 1) (by omega) (by omega) (by omega) fun j hj => ?_
      by_cases e : j = i
      · rw [e]; simpa using c
      · exact h j (by omega)
def selSort (less : α → α → Bool) : Nat → List α → List α → List α
  | 0, _, out => out
  | n + 1, l, out => if l.length > 0 then selSort less n (l.take (selLeast less l (l.length - 1) 0 1) ++ l.drop (selLeast less l (l.length - 1) 0 1 + 1)) (out ++ [l[selLeast less l (l.length - 1) 0 1]!]) else out
theorem sel_split (l : List α) (m : Nat) (h : m < l.length) : l = l.take m ++ l[m]! :: l.drop (m + 1) := by
  rw [getElem!_pos l m h]
  conv => lhs; rw [← List.take_append_drop m l, List.drop_eq_getElem_cons h]
theorem selSort_spec (less : α → α → Bool) (hi : ∀ x, less x x = false) (ht : ∀ x y z, less x y = true → less y z = true → less x z = true) : ∀ (n : Nat) (l out : List α), l.length ≤ n → (out ++ l).Pairwise (fun a b => less a b = true ∨ less b a = true) → out.Pairwise (fun a b => less a b = true) → (∀ a ∈ out, ∀ b ∈ l, less a b = true) →
    (selSort less n l out).Pairwise (fun a b => less a b = true) ∧ ∀ x, x ∈ selSort less n l out ↔ x ∈ out ∨ x ∈ l
  | 0, l, out, hl, _, ho, _ => by
    have : l = [] := List.eq_nil_of_length_eq_zero (by omega); subst this; rw [selSort]; exact ⟨ho, fun x => by simp⟩
  | n + 1, l, out, hl, hd, ho, hol => by
    rw [selSort]
    by_cases c : l.length > 0
    · rw [if_pos c]
      obtain ⟨hm, hleast⟩ := selLeast_spec less hi ht l (l.length - 1) 0 1 (by omega) (by omega) (by omega) (fun j hj => by rw [show j = 0 by omega]; exact hi _)
      generalize selLeast less l (l.length - 1) 0 1 = m at hm hleast ⊢
      have hs := sel_split l m hm
      generalize hx : l[m]! = x at hs hleast ⊢
      generalize ha : l.take m = a at hs ⊢
      generalize hb : l.drop (m + 1) = b at hs ⊢
      have hmem : ∀ y, y ∈ l ↔ y = x ∨ y ∈ a ++ b := fun y => by
        rw [hs]; simp only [List.mem_append, List.mem_cons]; constructor
        · rintro (h | h | h)
          · exact .inr (.inl h)
          · exact .inl h
          · exact .inr (.inr h)
        · rintro (h | h | h)
          · exact .inr (.inl h)
          · exact .inl h
          · exact .inr (.inr h)
      have hlen : (a ++ b).length + 1 = l.length := by rw [hs]; simp; omega
      have hpx : ((out ++ [x]) ++ (a ++ b)).Pairwise (fun p q => less p q = true ∨ less q p = true) := by
        refine List.Pairwise.perm hd ?_ (fun h => h.symm); rw [hs, List.append_assoc]; refine List.Perm.append_left out ?_; exact List.perm_middle
      have hxl : ∀ y ∈ a ++ b, less x y = true := fun y hy => by
        have h1 : less x y = true ∨ less y x = true := by
          rw [List.append_assoc, List.pairwise_append] at hpx; have h2 := hpx.2.1; rw [List.singleton_append, List.pairwise_cons] at h2; exact h2.1 y hy
        rcases h1 with h1 | h1
        · exact h1
        · obtain ⟨j, hj, e⟩ := List.getElem_of_mem ((hmem y).mpr (.inr hy))
          have h3 := hleast j hj; rw [getElem!_pos l j hj, e, h1] at h3; cases h3
      obtain ⟨s1, s2⟩ := selSort_spec less hi ht n (a ++ b) (out ++ [x]) (by omega) hpx (by
        rw [List.pairwise_append]
        exact ⟨ho, List.pairwise_singleton _ _, fun p hp q hq => by rw [List.mem_singleton.mp hq]; exact hol p hp x ((hmem x).mpr (.inl rfl))⟩) (by
        intro p hp q hq
        rcases List.mem_append.mp hp with h | h
        · exact hol p h q ((hmem q).mpr (.inr hq))
        · rw [List.mem_singleton.mp h]; exact hxl q hq)
      refine ⟨s1, fun y => (s2 y).trans ?_⟩; rw [hmem y, List.mem_append, List.mem_singleton, or_assoc]
    · rw [if_neg c]
      have : l = [] := List.eq_nil_of_length_eq_zero (by omega); subst this; exact ⟨ho, fun x => by simp⟩
end
end Go.Proofs.YtmaipohgahdclaaDoor.Pr
end
section
namespace Go.Proofs.YtmaipohgahdclaaDoor.Pr
open Go.RowKit Go.Proofs.YtmaipohgahdclaaDoorW.PrintWords Go.Proofs.YtmaipohgahdclaaDoorW.PrintLast Go.Proofs.YtmaipohgahdclaaDoorW.PrintMore
mutual
def ids : S29 → List ID
  | ⟨_, _, i, ps⟩ => i :: idsL ps
def idsL : List S29 → List ID
  | [] => []
  | p :: ps => ids p ++ idsL ps
end
mutual
def dep : S29 → Nat
  | ⟨_, _, _, ps⟩ => depL ps
def depL : List S29 → Nat
  | [] => 0
  | p :: ps => Nat.max (dep p + 1) (depL ps)
end
theorem ids_eq (p : Proof) : ids p = p.f2 :: idsL p.f3 := by cases p; rw [ids]
theorem dep_eq (p : Proof) : dep p = depL p.f3 := by cases p; rw [dep]
theorem idsL_nil : idsL [] = [] := by rw [idsL]
theorem idsL_cons (p : Proof) (ps : List Proof) : idsL (p :: ps) = ids p ++ idsL ps := by rw [idsL]
theorem depL_nil : depL [] = 0 := by rw [depL]
theorem depL_cons (p : Proof) (ps : List Proof) : depL (p :: ps) = Nat.max (dep p + 1) (depL ps) := by rw [depL]
def cnt (p : Proof) : Nat := (ids p).length
theorem cnt_pos (p : Proof) : 0 < cnt p := by
  unfold cnt; rw [ids_eq]; exact Nat.zero_lt_succ _
theorem mem_idsL {q : Proof} {ps : List Proof} (h : q ∈ ps) : ∀ i ∈ ids q, i ∈ idsL ps := by
  induction ps with
  | nil => cases h
  | cons p ps ih =>
    intro i hi; rw [idsL_cons, List.mem_append]
    rcases List.mem_cons.mp h with rfl | h
    · exact .inl hi
    · exact .inr (ih h i hi)
theorem mem_ids {q p : Proof} (h : q ∈ p.f3) : ∀ i ∈ ids q, i ∈ ids p := fun i hi => by
  rw [ids_eq]; exact List.mem_cons_of_mem _ (mem_idsL h i hi)
theorem self_ids (p : Proof) : p.f2 ∈ ids p := by
  rw [ids_eq]; exact List.mem_cons_self ..
theorem cnt_memL {q : Proof} {ps : List Proof} (h : q ∈ ps) : cnt q ≤ (idsL ps).length := by
  unfold cnt
  induction ps with
  | nil => cases h
  | cons p ps ih =>
    rw [idsL_cons, List.length_append]
    rcases List.mem_cons.mp h with rfl | h
    · omega
    · have := ih h
      omega
theorem cnt_mem {q p : Proof} (h : q ∈ p.f3) : cnt q < cnt p := by
  have := cnt_memL h
  show _ < (ids p).length
  rw [ids_eq, List.length_cons]; omega
theorem dep_memL {q : Proof} {ps : List Proof} (h : q ∈ ps) : dep q < depL ps := by
  induction ps with
  | nil => cases h
  | cons p ps ih =>
    rw [depL_cons]
    rcases List.mem_cons.mp h with rfl | h
    · exact Nat.lt_of_lt_of_le (Nat.lt_succ_self _) (Nat.le_max_left _ _)
    · exact Nat.lt_of_lt_of_le (ih h) (Nat.le_max_right _ _)
theorem dep_mem {q p : Proof} (h : q ∈ p.f3) : dep q < dep p := by rw [dep_eq p]; exact dep_memL h
theorem treeInd {P : Proof → Prop} (h : ∀ p, (∀ q ∈ p.f3, P q) → P p) : ∀ p, P p := by
  have : ∀ n p, cnt p ≤ n → P p := by
    intro n
    induction n with
    | zero => intro p hp; have := cnt_pos p; omega
    | succ n ih => exact fun p hp => h p fun q hq => ih q (by have := cnt_mem hq; omega)
  exact fun p => this (cnt p) p (Nat.le_refl _)
theorem depL_le : ∀ (ps : List Proof), (∀ q ∈ ps, dep q + 1 ≤ cnt q) → depL ps ≤ (idsL ps).length
  | [], _ => by rw [depL_nil]; omega
  | p :: ps, h => by
    rw [depL_cons, idsL_cons, List.length_append]; have h1 := h p (List.mem_cons_self ..)
    have h2 := depL_le ps fun q hq => h q (List.mem_cons_of_mem _ hq)
    unfold cnt at h1; exact Nat.max_le.mpr ⟨by omega, by omega⟩
theorem dep_lt : ∀ p, dep p + 1 ≤ cnt p := treeInd fun p ih => by
  have := depL_le p.f3 ih; rw [dep_eq]; unfold cnt; rw [ids_eq, List.length_cons]; omega
theorem parts_le : ∀ ps : List Proof, ps.length ≤ (idsL ps).length
  | [] => Nat.zero_le _
  | p :: ps => by
    rw [idsL_cons, List.length_append, List.length_cons]; have h1 := cnt_pos p; have h2 := parts_le ps; unfold cnt at h1; omega
theorem parts_lt (p : Proof) : p.f3.length < cnt p := by
  unfold cnt; rw [ids_eq, List.length_cons]; have := parts_le p.f3; omega
theorem rdP (ps : List Proof) (i : Nat) (h : i < ps.length) : QaB ps (i : Int) = ps[i] := by
  unfold QaB; rw [Int.toNat_natCast, List.getD_eq_getElem?_getD, List.getElem?_eq_getElem h]; rfl
theorem dropP (ps : List Proof) (i : Nat) (h : i < ps.length) : ps.drop i = ps[i] :: ps.drop (i + 1) := List.drop_eq_getElem_cons h
def okTree (p : Proof) : Prop := ∀ i ∈ ids p, okID i
theorem okTree.mem {p q : Proof} (h : okTree p) (hq : q ∈ p.f3) : okTree q := fun i hi => h i (mem_ids hq i hi)
theorem Ev.stepBind {α β : Type} {f : Nat → Option α} {g : Nat → Option β} {h : Nat → β → Option α} {a : β} {v : α} (e : ∀ k, f (k + 1) = (g k).bind (h k)) (hg : Ev g a) (hh : Ev (fun k => h k a) v) : Ev f v := Ev.step e (Ev.bind hg hh)
theorem wrapN {i : Nat} (h : i < 1000000000000) : wrap64 ((i : Int) + 1) = ((i + 1 : Nat) : Int) := by unfold wrap64; omega
theorem wrapAdd {x y : Int} (h : -1000000000000 < x + y ∧ x + y < 1000000000000) : wrap64 (x + y) = x + y := by unfold wrap64; omega
theorem size_l0 (ps : List Proof) (hl : ps.length < 1000000) (ih : ∀ q ∈ ps, Ev (fun k => proof_Size.f k q.f0.f0 q.f0.f1 q.f1 q.f2.f0 q.f2.f1 q.f3) (cnt q : Int)) : ∀ (n i : Nat) (x : Int), n + i = ps.length → 0 ≤ x → x + ((idsL (ps.drop i)).length : Int) < 2000000 → Ev (fun k => proof_Size.l0 k x ps (ps.length : Int) (i : Int)) (x + ((idsL (ps.drop i)).length : Int))
  | 0, i, x, hn, h0, hx => by
    rw [List.drop_eq_nil_of_le (by omega), idsL_nil]; refine Ev.step (fun k => ?_) (Ev.pure _); rw [proof_Size.l0, if_neg (by omega)]; simp
  | n + 1, i, x, hn, h0, hx => by
    have hi : i < ps.length := by omega
    rw [dropP ps i hi, idsL_cons, List.length_append] at hx ⊢; have h2 : (ids ps[i]).length = cnt ps[i] := rfl; refine Ev.stepBind (h := fun k t => proof_Size.l0 k (wrap64 (x + t)) ps (ps.length : Int) ((i + 1 : Nat) : Int)) (fun k => ?_) (ih _ (List.getElem_mem hi)) ?_
    · rw [proof_Size.l0, if_pos (by omega), if_pos (by omega), if_pos (by omega), wrapN (by omega), rdP ps i hi]
    · have := size_l0 ps hl ih n (i + 1) (x + (cnt ps[i] : Int)) (by omega) (by omega) (by omega)
      show Ev (fun k => proof_Size.l0 k (wrap64 (x + (cnt ps[i] : Int))) ps _ _) _
      rw [wrapAdd (by omega)]; rw [show x + (((ids ps[i]).length + (idsL (ps.drop (i + 1))).length : Nat) : Int) = x + (cnt ps[i] : Int) + ((idsL (ps.drop (i + 1))).length : Int) by omega]; exact this
theorem size_ev : ∀ p : Proof, cnt p < 1000000 → Ev (fun k => proof_Size.f k p.f0.f0 p.f0.f1 p.f1 p.f2.f0 p.f2.f1 p.f3) (cnt p : Int) := treeInd fun p ih hc => by
  have hl := parts_lt p
  have := size_l0 p.f3 (by omega) (fun q hq => ih q hq (by have := cnt_mem hq; omega)) p.f3.length 0 1 (by omega) (by omega) (by
    rw [List.drop_zero]; unfold cnt at hc; rw [ids_eq, List.length_cons] at hc
    omega)
  rw [List.drop_zero] at this; rw [show (cnt p : Int) = 1 + ((idsL p.f3).length : Int) by unfold cnt; rw [ids_eq, List.length_cons]; omega]; refine Ev.step (fun k => ?_) this; rw [proof_Size.f]; rfl
theorem within_l0 (ps : List Proof) (hl : ps.length < 1000000) (d : Int) (h0 : 0 ≤ d) (hd : d < 9223372036854775808) (ih : ∀ q ∈ ps, Ev (fun k => QaE.f k q.f0.f0 q.f0.f1 q.f1 q.f2.f0 q.f2.f1 q.f3 (d - 1)) (decide ((dep q : Int) ≤ d - 1))) : ∀ (n i : Nat), n + i = ps.length → Ev (fun k => QaE.l0 k d ps (ps.length : Int) (i : Int)) (decide ((depL (ps.drop i) : Int) ≤ d))
  | 0, i, hn => by
    rw [List.drop_eq_nil_of_le (by omega), depL_nil, decide_eq_true (by omega)]; refine Ev.step (fun k => ?_) (Ev.pure _); rw [QaE.l0, if_neg (by omega)]
  | n + 1, i, hn => by
    have hi : i < ps.length := by omega
    rw [dropP ps i hi, depL_cons]; refine Ev.stepBind (h := fun k t => if t = true then QaE.l0 k d ps (ps.length : Int) ((i + 1 : Nat) : Int) else some false) (fun k => ?_) (ih _ (List.getElem_mem hi)) ?_
    · rw [QaE.l0, if_pos (by omega), if_pos (by omega), if_pos (by omega), wrapN (by omega), rdP ps i hi, show wrap64 (d - 1) = d - 1 by unfold wrap64; omega]
    · by_cases h : (dep ps[i] : Int) ≤ d - 1
      · simp only [decide_eq_true h, if_true]
        have := within_l0 ps hl d h0 hd ih n (i + 1) (by omega)
        rw [show decide (((Nat.max (dep ps[i] + 1) (depL (ps.drop (i + 1))) : Nat) : Int) ≤ d) = decide ((depL (ps.drop (i + 1)) : Int) ≤ d) by
          rw [Bool.eq_iff_iff, decide_eq_true_eq, decide_eq_true_eq]; have e : Nat.max (dep ps[i] + 1) (depL (ps.drop (i + 1))) = max (dep ps[i] + 1) (depL (ps.drop (i + 1))) := rfl; rw [e]
          omega]
        exact this
      · simp only [decide_eq_false h, Bool.false_eq_true, if_false]
        rw [decide_eq_false (by
          have e : Nat.max (dep ps[i] + 1) (depL (ps.drop (i + 1))) = max (dep ps[i] + 1) (depL (ps.drop (i + 1))) := rfl; rw [e]
          omega)]
        exact Ev.pure _
theorem within_ev : ∀ p : Proof, ∀ d : Int, cnt p < 1000000 → d < 9223372036854775808 → Ev (fun k => QaE.f k p.f0.f0 p.f0.f1 p.f1 p.f2.f0 p.f2.f1 p.f3 d) (decide ((dep p : Int) ≤ d)) := treeInd fun p ih d hc hd => by
  have hl := parts_lt p
  by_cases h0 : d < 0
  · rw [decide_eq_false (by omega)]
    refine Ev.step (fun k => ?_) (Ev.pure _); rw [QaE.f, if_pos h0]
  · have := within_l0 p.f3 (by omega) d (by omega) hd (fun q hq => ih q hq (d - 1) (by have := cnt_mem hq; omega) (by omega)) p.f3.length 0 (by omega)
    rw [List.drop_zero, ← dep_eq] at this; refine Ev.step (fun k => ?_) this; rw [QaE.f, if_neg h0]; rfl
def fewV (n most : Int) : Int := if n ≤ most then n else -1
theorem few_l0 (p : Proof) (most : Int) (hm : -1000000 < most ∧ most < 1000000) (ih : ∀ q ∈ p.f3, ∀ m : Int, -1000000 < m ∧ m < 1000000 → Ev (fun k => QaV.f k q.f0.f0 q.f0.f1 q.f1 q.f2.f0 q.f2.f1 q.f3 m) (fewV (cnt q) m)) : ∀ (n i x : Nat), n + i = p.f3.length → i < x → ((x : Int) ≤ most ∨ x = 1) → Ev (fun k => QaV.l0 k most (x : Int) (i : Int) p.f0.f0 p.f0.f1 p.f1 p.f2.f0 p.f2.f1 p.f3) (fewV (x + (idsL (p.f3.drop i)).length) most)
  | 0, i, x, hn, h1, hx => by
    rw [List.drop_eq_nil_of_le (by omega), idsL_nil]; refine Ev.step (fun k => ?_) (Ev.pure _); rw [QaV.l0, if_neg (by omega)]; unfold fewV
    by_cases h : (x : Int) > most
    · rw [if_pos h, if_neg (by simp; omega)]
    · rw [if_neg h, if_pos (by simp; omega)]
      simp
  | n + 1, i, x, hn, h1, hx => by
    have hi : i < p.f3.length := by omega
    have hpos := cnt_pos p.f3[i]; have hcl : (ids p.f3[i]).length = cnt p.f3[i] := rfl; rw [dropP p.f3 i hi, idsL_cons, List.length_append]
    by_cases h : (x : Int) ≥ most
    · refine Ev.step (fun k => ?_) (Ev.pure _)
      rw [QaV.l0, if_pos (by omega), if_pos h]; unfold fewV; rw [if_neg (by omega)]
    · refine Ev.stepBind (h := fun k t => if t < 0 then some (-1) else QaV.l0 k most (wrap64 ((x : Int) + t)) ((i + 1 : Nat) : Int) p.f0.f0 p.f0.f1 p.f1 p.f2.f0 p.f2.f1 p.f3) (fun k => ?_) (ih _ (List.getElem_mem hi) (most - (x : Int)) (by omega)) ?_
      · rw [QaV.l0, if_pos (by omega), if_neg h, if_pos (by omega), wrapN (by omega), rdP p.f3 i hi, show wrap64 (most - (x : Int)) = most - (x : Int) by unfold wrap64; omega]
      · by_cases h2 : (cnt p.f3[i] : Int) ≤ most - (x : Int)
        · have e : fewV (cnt p.f3[i] : Int) (most - (x : Int)) = (cnt p.f3[i] : Int) := if_pos h2
          simp only [e, if_neg (show ¬ (cnt p.f3[i] : Int) < 0 by omega)]; have := few_l0 p most hm ih n (i + 1) (x + cnt p.f3[i]) (by omega) (by omega) (by omega); rw [wrapAdd (by omega)]; rw [show ((x : Int) + (((ids p.f3[i]).length + (idsL (p.f3.drop (i + 1))).length : Nat) : Int)) = ((x + cnt p.f3[i] : Nat) : Int) + ((idsL (p.f3.drop (i + 1))).length : Int) by omega]; exact this
        · have e : fewV (cnt p.f3[i] : Int) (most - (x : Int)) = -1 := if_neg h2
          simp only [e]; unfold fewV; rw [if_neg (by omega)]; exact Ev.pure _
theorem few_ev : ∀ p : Proof, ∀ most : Int, -1000000 < most ∧ most < 1000000 → Ev (fun k => QaV.f k p.f0.f0 p.f0.f1 p.f1 p.f2.f0 p.f2.f1 p.f3 most) (fewV (cnt p) most) := treeInd fun p ih most hm => by
  have := few_l0 p most hm ih p.f3.length 0 1 (by omega) (by omega) (.inr rfl); rw [List.drop_zero] at this; rw [show (cnt p : Int) = ((1 : Nat) : Int) + ((idsL p.f3).length : Int) by unfold cnt; rw [ids_eq, List.length_cons]; omega]; refine Ev.step (fun k => ?_) this; rw [QaV.f]; rfl
theorem putID_length (l : List ID) (x : ID) : (putID l x).length ≤ l.length + 1 := by
  unfold putID
  split
  · omega
  · simp
theorem gatherL_is (F : Proof → List ID → Option (List ID)) : ∀ (ps : List Proof) (l : List ID), (∀ q ∈ ps, ∀ l : List ID, l.length + cnt q < 1000000 → F q l = some ((ids q).foldl putID l)) → (∀ (xs : List ID) (l : List ID), (xs.foldl putID l).length ≤ l.length + xs.length) → l.length + (idsL ps).length < 1000000 → gatherL F ps l = some ((idsL ps).foldl putID l)
  | [], l, _, _, _ => by rw [idsL_nil]; rfl
  | p :: ps, l, h, hx, hl => by
    rw [idsL_cons, List.length_append] at hl; have h1 : (ids p).length = cnt p := rfl; have h2 := hx (ids p) l; rw [gatherL, h p (List.mem_cons_self ..) l (by omega), Option.bind_some, idsL_cons, List.foldl_append]; exact gatherL_is F ps _ (fun q hq => h q (List.mem_cons_of_mem _ hq)) hx (by omega)
theorem fold_length : ∀ (xs : List ID) (l : List ID), (xs.foldl putID l).length ≤ l.length + xs.length
  | [], l => by simp
  | x :: xs, l => by
    have h1 := fold_length xs (putID l x); have h2 := putID_length l x; rw [List.foldl_cons, List.length_cons]; omega
theorem gather_is : ∀ (k : Nat) (p : Proof), dep p < k → okTree p → ∀ l : List ID, l.length + cnt p < 1000000 → gatherF k p l = some ((ids p).foldl putID l)
  | 0, p, h, _, _, _ => by omega
  | k + 1, p, h, ho, l, hl => by
    have hp := parts_lt p; rw [gatherF, if_pos ⟨ho _ (self_ids p), by omega, by omega⟩, ids_eq, List.foldl_cons]; have h1 := putID_length l p.f2
    have hc : cnt p = (idsL p.f3).length + 1 := by unfold cnt; rw [ids_eq, List.length_cons]
    exact gatherL_is _ p.f3 _ (fun q hq l hl => gather_is k q (by have := dep_mem hq; omega) (ho.mem hq) l hl) fold_length (by omega)
theorem mem_putID (l : List ID) (x y : ID) : y ∈ putID l x ↔ y ∈ l ∨ y = x := by
  unfold putID
  split
  · exact ⟨.inl, fun h => h.elim id (fun e => e ▸ by assumption)⟩
  · simp
theorem nodup_putID {l : List ID} (h : l.Nodup) (x : ID) : (putID l x).Nodup := by
  unfold putID
  split
  · exact h
  · rename_i hx
    rw [List.nodup_append]; exact ⟨h, by simp, fun a ha b hb => by simp at hb; subst hb; exact fun e => hx (e ▸ ha)⟩
theorem mem_fold : ∀ (xs l : List ID) (y : ID), y ∈ xs.foldl putID l ↔ y ∈ l ∨ y ∈ xs
  | [], l, y => by simp
  | x :: xs, l, y => by
    rw [List.foldl_cons, mem_fold xs, mem_putID, List.mem_cons, or_assoc]
theorem nodup_fold : ∀ (xs l : List ID), l.Nodup → (xs.foldl putID l).Nodup
  | [], l, h => h
  | x :: xs, l, h => by rw [List.foldl_cons]; exact nodup_fold xs _ (nodup_putID h x)
theorem sortIDs_mem (l : List ID) (x : ID) : x ∈ sortIDs l ↔ x ∈ l := (List.mergeSort_perm l _).mem_iff
theorem sortIDs_strict {l : List ID} (h : l.Nodup) : (sortIDs l).Pairwise (fun a b => idLess a b = true) := by
  have hn : (sortIDs l).Nodup := (List.mergeSort_perm l _).nodup_iff.mpr h; have hs := sortIDs_sorted l; rw [List.Nodup] at hn
  refine (hs.and hn).imp fun {a b} hab => ?_
  have h1 := hab.1; rw [idCmp_lt] at h1
  by_cases h2 : idLess a b = true
  · exact h2
  · exact absurd (idLess_total h2 (by simpa using h1)) hab.2
theorem strict_unique {a b : List ID} (ha : a.Pairwise (fun x y => idLess x y = true)) (hb : b.Pairwise (fun x y => idLess x y = true)) (h : ∀ x, x ∈ a ↔ x ∈ b) : a = b := sorted_eq (R := fun x y => idLess x y = true) idLess_irrefl (fun _ _ _ => idLess_trans) ha hb h
def support (p : Proof) : List ID := sortIDs ((ids p).foldl putID [])
theorem support_strict (p : Proof) : (support p).Pairwise (fun a b => idLess a b = true) := sortIDs_strict (nodup_fold _ _ List.nodup_nil)
theorem support_mem (p : Proof) (x : ID) : x ∈ support p ↔ x ∈ ids p := by
  unfold support; rw [sortIDs_mem, mem_fold]; simp
theorem support_length (p : Proof) : (support p).length ≤ cnt p := by
  unfold support sortIDs; rw [List.length_mergeSort]; have := fold_length (ids p) []; simp at this; exact this
theorem rdI (l : List ID) (i : Nat) (h : i < l.length) : rd_T26 l (i : Int) = l[i] := by
  unfold rd_T26; rw [Int.toNat_natCast, List.getD_eq_getElem?_getD, List.getElem?_eq_getElem h]; rfl
theorem idBeq (a b : ID) : ((a.f0 == b.f0) && (a.f1 == b.f1)) = decide (a = b) := by
  by_cases h : a = b
  · rw [eqID_tt h, decide_eq_true h]
  · rw [eqID_ff h, decide_eq_false h]
end Go.Proofs.YtmaipohgahdclaaDoor.Pr
end
