/- The law's own part of the proof. No conditions. -/
import Derived.OrdersHeld
import Derived.Deep.RegionHeld3
import Derived.Laws.BitsLemmas
import Derived.RowKit
import Derived.Shelf.SlSortCmp.NoneTotal
import Derived.WalkKit
import Derived.WalkSpells
import Derived.Lib.Hide
import Derived.DeepKeys4
import Derived.KernelRfl
import Derived.WalkLawsBesides
import Derived.Deep.QuietTactic
import Derived.Deep.RegionWith
import Derived.BigQuiet
import Derived.RegionTactic
import Derived.ChangeAlike
import Derived.Deep.RegionLaw
import Derived.Lib.SmallJoins
import Derived.Lib.SlicesS
import Derived.Laws.StructEq
import Derived.Shelf.SlicesE.Clone
import Derived.Test.YtpjddgmdgfjlfaaDoorProg
import Derived.Below
import Derived.Deep.Draws
import Derived.Deep.AppendLies
import Derived.Maps.AppendAt
import Derived.OwnWalk
import Derived.Laws.BytesArg
import Derived.Laws.MakeOwn
import Derived.Laws.OwnMore
import Derived.Tactics
import Derived.Lib.ConvBytes
import Derived.Laws.Slices
import Derived.RowKit3
import Derived.Deep.LoopGhost
import Derived.WideLaws
import Derived.Deep.DeepCutAuto
import Derived.Deep.CutBlock
import Derived.Lib.AppendStr
import Derived.ArgAppend
import Derived.Laws.IdiomCopy
import Derived.ProofKit
import Derived.ChangeSlices
import Derived.DataElems
import Derived.Shelf.SlicesG.Cmp
import Derived.StillTailTactics
import Derived.Sort.Grow
import Derived.Outline
import Derived.Laws.RangeAny
import Derived.Laws.Closers25
import Derived.OpenShut
import Derived.ShutString
import Derived.ChangeOld
import Derived.SizedLaws
import Derived.LaidMore
import Derived.Stop.Joined
import Derived.SevenTiedAt
import Derived.Carry
import Derived.Sort.LotA
import Derived.Laws.Strings
import Derived.Shelf.SlSortCmp.WholeK
import Derived.Ground.SlsfProg
import Derived.Ground.SlgnProg
import Derived.Shelf.GgSortFunc.InsertionK
import Derived.Maps.OwnSet
import Derived.Maps.RangeRun
import Derived.Maps.Range
import Derived.Sort.Walk0
import Derived.Ground.SlgcProg
import Derived.Test.YtpjddgmdgfjlfaaDoorPb0
import Derived.Test.YtpjddgmdgfjlfaaDoorPb1
import Derived.Test.YtpjddgmdgfjlfaaDoorPb2
import Derived.Test.YtpjddgmdgfjlfaaDoorPb3
import Derived.Test.YtpjddgmdgfjlfaaDoorPb4
import Derived.Test.YtpjddgmdgfjlfaaDoorPb5
import Derived.Test.YtpjddgmdgfjlfaaDoorPb6
import Derived.Test.YtpjddgmdgfjlfaaDoorPb7
import Derived.Test.YtpjddgmdgfjlfaaDoorPb8
import Derived.Test.YtpjddgmdgfjlfaaDoorPb9
import Derived.Test.YtpjddgmdgfjlfaaDoorPb10
import Derived.Test.YtpjddgmdgfjlfaaDoorPb11
import Derived.Test.YtpjddgmdgfjlfaaDoorPb12
import Derived.Test.YtpjddgmdgfjlfaaDoorPb13
import Derived.Test.YtpjddgmdgfjlfaaDoorPb14
section
namespace Go.Proofs.YtpjddgmdgfjlfaaDoor.Pr
open Go.RowKit Go.Proofs.YtpjddgmdgfjlfaaDoorW.PrintWords Go.Proofs.YtpjddgmdgfjlfaaDoorW.PrintLast Go.Proofs.YtpjddgmdgfjlfaaDoorW.PrintMore
attribute [local go_sem] QaY QaW Qbb Qba QaP QaO QaX QaV
set_option linter.unusedVariables false
set_option linter.unusedSimpArgs false

end Go.Proofs.YtpjddgmdgfjlfaaDoor.Pr
end
section
namespace Go.Proofs.YtpjddgmdgfjlfaaDoor.Pr
open Go.RowKit Go.Proofs.YtpjddgmdgfjlfaaDoorW.PrintWords Go.Proofs.YtpjddgmdgfjlfaaDoorW.PrintLast Go.Proofs.YtpjddgmdgfjlfaaDoorW.PrintMore
attribute [local go_sem] QaY QaW Qbb Qba QaP QaO QaX QaV
set_option linter.unusedVariables false
set_option linter.unusedSimpArgs false
attribute [local go_sem high] eqA33

end Go.Proofs.YtpjddgmdgfjlfaaDoor.Pr
end
section
namespace Go.Proofs.YtpjddgmdgfjlfaaDoor.Pr
open Go.RowKit Go.Proofs.YtpjddgmdgfjlfaaDoorW.PrintWords Go.Proofs.YtpjddgmdgfjlfaaDoorW.PrintLast Go.Proofs.YtpjddgmdgfjlfaaDoorW.PrintMore
attribute [local go_sem] QaY QaW Qbb Qba QaP QaO QaX QaV
set_option linter.unusedVariables false
set_option linter.unusedSimpArgs false

end Go.Proofs.YtpjddgmdgfjlfaaDoor.Pr
end
section
namespace Go.Proofs.YtpjddgmdgfjlfaaDoor.Pr
open Go.RowKit Go.Proofs.YtpjddgmdgfjlfaaDoorW.PrintWords Go.Proofs.YtpjddgmdgfjlfaaDoorW.PrintLast Go.Proofs.YtpjddgmdgfjlfaaDoorW.PrintMore
attribute [local go_sem] QaY QaW Qbb Qba QaP QaO QaX QaV
set_option linter.unusedVariables false
set_option linter.unusedSimpArgs false
mutual
def Qar.l0 : Nat → List (S46) → List (S46) → List (S36) → Option (Bool)
 | 0, _, _, _ => none
 | k + 1, x0, x5, x6 => (QaG.f k x5 x6).bind fun t114 => (if (t114.length : Int) = (x6.length : Int) then ((Qa1.f x0).bind fun t117 => ((Qas.f k t117).bind fun t120 => (Qar.l1 k x6 t120 0))) else (Qar.l0 k x0 x5 t114))
def Qar.l1 : Nat → List (S36) → List (S36) → Int → Option (Bool)
 | 0, _, _, _ => none
 | k + 1, x6, x8, x9 => if x9 < (x8.length : Int) then (if 0 ≤ x9 then ((QaZ.f k x6 ((Qav x8 x9).f0.f0) ((Qav x8 x9).f0.f1) ((Qav x8 x9).f1)).bind fun t124 => (if t124 = true then (Qar.l1 k x6 x8 (wrap64 (x9 + 1))) else (some false))) else (none)) else ((QaH.f k).bind fun t125 => (some t125))
end
def Qar.f (k : Nat) (l0 : List (S46)) (l1 : List (S47)) : Option (Bool) := (Qa5.f l0).bind fun t101 => (if (l1.length : Int) > 20 then (if 20 ≤ (l1.length : Int) then ((Qax.f k t101).bind fun t108 => ((Qas.f k (l1.take 20)).bind fun t111 => (Qar.l0 k t101 t108 t111))) else (none)) else ((Qax.f k t101).bind fun t126 => ((Qas.f k l1).bind fun t129 => (Qar.l0 k t101 t126 t129))))
set_option maxHeartbeats 8000000 in
set_option maxRecDepth 100000 in
theorem Qar.calls (k : Nat) (A0 : Option Addr) (c0 : Nat) (l0 : List (S46)) (A1 : Option Addr) (c1 : Nat) (l1 : List (S47)) (r : Bool) (w : World) (hr0 : Kd.C k46 w A0 l0.length l0) (hc0 : l0.length ≤ c0) (hr1 : Kd.C k47 w A1 l1.length l1) (hc1 : l1.length ≤ c1) (h : Qar.f k l0 l1 = some r) :
  Calls Tryd.prog 6 #[.slice A0 l0.length c0, .slice A1 l1.length c1] w fun e w' => e = .returned (.bool r) ∧ Below w.heap.size w w' := by
 have hu36 := Tryd.underlying36; have HR0 := Qad.mk hr0; have HC0 := Qad.mk hc0; clear hr0 hc0; have HR1 := Qad.mk hr1; have HC1 := Qad.mk hc1; clear hr1 hc1; have HB := Qad.mk (Below.refl w.heap.size w); have H : ((Qa5.f l0).bind fun t101 => (if (l1.length : Int) > 20 then (if 20 ≤ (l1.length : Int) then ((Qax.f k t101).bind fun t108 => ((Qas.f k (l1.take 20)).bind fun t111 => (Qar.l0 k t101 t108 t111))) else (none)) else ((Qax.f k t101).bind fun t126 => ((Qas.f k l1).bind fun t129 => (Qar.l0 k t101 t126 t129))))) = some r := h; clear h; replace H := Option.bind_eq_some_iff.mp H; obtain ⟨t101, A30, H⟩ := H; replace H : (if (l1.length : Int) > 20 then (if 20 ≤ (l1.length : Int) then ((Qax.f k t101).bind fun t108 => ((Qas.f k (l1.take 20)).bind fun t111 => (Qar.l0 k t101 t108 t111))) else (none)) else ((Qax.f k t101).bind fun t126 => ((Qas.f k l1).bind fun t129 => (Qar.l0 k t101 t126 t129)))) = some r := H; have A3 := Qad.mk A30; clear A30
 by_cases c4 : (l1.length : Int) > 20
 ·rw [if_pos c4] at H; have c4b0 : decide (20 < (l1.length : Int)) = true := decide_eq_true c4; have c4b1 : decide (20 < l1.length) = true := decide_eq_true (by omega); clear c4
  by_cases c5 : 20 ≤ (l1.length : Int)
  ·rw [if_pos c5] at H; have c5b0 := eq_true c5; have c5b1 : decide (20 ≤ (l1.length : Int)) = true := decide_eq_true c5; clear c5
   obtain ⟨y104, hy104⟩ : ∃ y_ : List (S47), y_ = (l1.take 20) := ⟨_, rfl⟩
   replace H : ((Qax.f k t101).bind fun t108 => ((Qas.f k y104).bind fun t111 => (Qar.l0 k t101 t108 t111))) = some r := by first | (rw [hy104]; with_reducible exact H) | (have H2_ := (Option.bind_some _ _).symm.trans H; rw [hy104]; with_reducible exact H2_) | (have H2_ := (Option.bind_some _ _).symm.trans H; with_reducible exact H2_) | with_reducible exact H | (rw [hy104]; exact H) | exact H
   have Ny104 := Qad.mk hy104; clear hy104; replace H := Option.bind_eq_some_iff.mp H; obtain ⟨t108, A60, H⟩ := H; replace H : ((Qas.f k y104).bind fun t111 => (Qar.l0 k t101 t108 t111)) = some r := H; have A6 := Qad.mk A60; clear A60; replace H := Option.bind_eq_some_iff.mp H; obtain ⟨t111, A70, H⟩ := H; replace H : (Qar.l0 k t101 t108 t111) = some r := H; have A7 := Qad.mk A70; clear A70; have H' := Qad.mk H; clear H; go_enter Tryd.func6, Tryd.ntmps6
   go_wp2_with (first | ((with_reducible refine Qaz (f := 9) rfl ?_); refine Qbd (some 12) rfl rfl Tryd.func9 (by kernel_rfl) rfl #[.slice A0 l0.length c0] rfl (by (try simp only [List.map_toArray, List.map_cons, List.map_nil]); first | done | rfl | (simp only [List.length_drop, List.length_take]; rfl)) ?_; (with_reducible refine (Qa5.calls (fun k_ => k_ < w.heap.size) _ _ l0 t101 _ ?side1 A3.out).mono ?_); (case side1 => exact Kd.V_mk HC0.out (Kd.F_below (Kd.C_F k46_heap HR0.out) (by repeat (first | (with_reducible first | exact HB.out | apply Qac | apply Qaa | apply Qab) | exact HB.out)))); rintro e w8 ⟨v102, rfl, ho0, hb⟩; refine ⟨_, rfl, ?_⟩; have n0_ := Qad.mk (Kd.V_lower (Kd.V_mono (ok' := fun k_ => True) ho0 (fun k_ hk_ => trivial)) (Qap (by repeat (first | (with_reducible first | exact HB.out | apply Qac | apply Qaa | apply Qab) | exact HB.out)))); have n1_ := Qad.mk (Qal (by repeat (first | (with_reducible first | exact HB.out | apply Qac | apply Qaa | apply Qab) | exact HB.out)) hb); clear HB; have HO103 := n0_; have HB := n1_; clear n0_ n1_; (try clear hb); (try clear hb2); (try clear hk); (try clear hi); (try clear ho0); have q9 : (20 : Int) ≤ ((l1.length : Int) : Int) := of_decide_eq_true (by first | (with_reducible assumption) | assumption); obtain ⟨i09, hi09, _, hsz9, _⟩ := info_parts info47; have hroom9 : l1.length ≤ c1 := HC1.out; have hC9 : Kd.C k47 _ A1 l1.length l1 := HR1.out; have hcut9 := cut_to (P := Tryd.prog) 27 47 .i64 Tryd.underlying27 hi09 A1 l1.length c1 20 (by omega) q9 hroom9; have hr9 := Kd.C_take (m := 20) hC9 (by omega); have hy9 : y104.length = (20 : Int).toNat := (by rw [Ny104.out, List.length_take]; omega); rw [← Ny104.out] at hr9; rw [← hy9] at hcut9; have HR107 := Qad.mk hr9; have HC107 := Qad.mk (show y104.length ≤ c1 from by omega); clear hr9 hC9 hroom9 hi09 hsz9; have KY9 := Qad.mk hy9; clear hy9; replace q9 := eq_true q9; obtain ⟨Ao10, co10, eo10⟩ := Kd.V_slice HO103.out; subst eo10) | ((with_reducible refine Qaz (f := 19) rfl ?_); refine Qbd (some 19) rfl rfl Tryd.func19 (by kernel_rfl) rfl #[.slice Ao10 t101.length co10] rfl (by (try simp only [List.map_toArray, List.map_cons, List.map_nil]); first | done | rfl | (simp only [List.length_drop, List.length_take]; rfl)) ?_; (with_reducible refine (Qax.calls k _ _ t101 t108 _ ?side1 ?side2 A6.out).mono ?_); (case side1 => repeat (first | exact (Kd.Qa3 HO103.out).2.2 | (with_reducible refine Kd.QaQ ?_ _) | (with_reducible refine Kd.QaR ?_ _) | (with_reducible refine Kd.Qa7 ?_))); (case side2 => exact (Kd.Qa3 HO103.out).2.1); rintro e w11 ⟨v109, rfl, ho0, hb⟩; refine ⟨_, rfl, ?_⟩; have n0_ := Qad.mk (Kd.V_elder' (by (with_reducible repeat (first | apply Kd.Qa9 | apply Kd.Qa8 | apply Kd.V_drew)); exact HO103.out) (Kd.R_base ho0) hb); have n1_ := Qad.mk (Kd.R_lower ho0 (Qap (by repeat (first | (with_reducible first | exact HB.out | apply Qac | apply Qaa | apply Qab) | exact HB.out)))); have n2_ := Qad.mk (Qal (by repeat (first | (with_reducible first | exact HB.out | apply Qac | apply Qaa | apply Qab) | exact HB.out)) hb); clear HO103; clear HB; have HO103 := n0_; have HO110 := n1_; have HB := n2_; clear n0_ n1_ n2_; (try clear hb); (try clear hb2); (try clear hk); (try clear hi); (try clear ho0)) | ((with_reducible refine Qaz (f := 11) rfl ?_); refine Qbd (some 21) rfl rfl Tryd.func11 (by kernel_rfl) rfl #[.slice A1 y104.length c1] rfl (by (try simp only [List.map_toArray, List.map_cons, List.map_nil]); first | done | rfl | (simp only [List.length_drop, List.length_take]; rfl)) ?_; (with_reducible refine (Qas.calls k _ _ y104 t111 _ ?side1 ?side2 A7.out).mono ?_); (case side1 => repeat (first | exact (Kd.C_below HR107.out HB.out) | (with_reducible refine Kd.QaQ ?_ _) | (with_reducible refine Kd.QaR ?_ _) | (with_reducible refine Kd.Qa7 ?_))); (case side2 => exact HC107.out); rintro e w12 ⟨v112, rfl, ho0, hb⟩; refine ⟨_, rfl, ?_⟩; have n0_ := Qad.mk (Kd.V_elder' (by (with_reducible repeat (first | apply Kd.Qa9 | apply Kd.Qa8 | apply Kd.V_drew)); exact HO103.out) (Kd.R_base ho0) hb); have n1_ := Qad.mk (Kd.QaC (by (with_reducible repeat (first | apply Kd.Qam | apply Kd.Qan | apply Kd.Qao)); exact HO110.out) hb); have n2_ := Qad.mk (Kd.R_lower ho0 (Qap (by repeat (first | (with_reducible first | exact HB.out | apply Qac | apply Qaa | apply Qab) | exact HB.out)))); have n3_ := Qad.mk (Qal (by repeat (first | (with_reducible first | exact HB.out | apply Qac | apply Qaa | apply Qab) | exact HB.out)) hb); clear HO103; clear HO110; clear HB; have HO103 := n0_; have HO110 := n1_; have HO113 := n2_; have HB := n3_; clear n0_ n1_ n2_ n3_; (try clear hb); (try clear hb2); (try clear hk); (try clear hi); (try clear ho0)))
   go_loopg [6] k (fun kq v6 w' => ∃ (x6_1 : List (S36)), Qad (Qar.l0 kq t101 t108 x6_1 = some r) ∧ Qad (kq ≤ k) ∧ Qad (Kd.V k46 46 w' w.heap.size (fun k_ => some k_ ≠ (v109 : Value).ownBlock ∧ some k_ ≠ (v6 : Value).ownBlock) (.slice Ao10 t101.length co10) t101) ∧ Qad (Kd.R k46 46 w' w.heap.size (fun _ => True) v109 t108) ∧ Qad (Kd.R k36 36 w' w.heap.size (fun _ => True) v6 x6_1) ∧ Qad (Below w.heap.size w w'))
   case atStart => exact ⟨(t111), H', ⟨Nat.le_refl _⟩, ⟨by (with_reducible repeat (first | apply Kd.Qa9 | apply Kd.Qa8 | apply Kd.V_drew)); exact Kd.V_mono HO103.out (fun _ hk => ⟨hk.1.2, hk.2⟩)⟩, ⟨by (with_reducible repeat (first | apply Kd.Qam | apply Kd.Qan | apply Kd.Qao)); exact HO110.out⟩, ⟨by (with_reducible repeat (first | apply Kd.Qam | apply Kd.Qan | apply Kd.Qao)); exact HO113.out⟩, ⟨by repeat (first | (with_reducible first | exact HB.out | apply Qac | apply Qaa | apply Qab) | exact HB.out)⟩⟩
   case round =>
    clear H'; (try clear c1); (try clear p2); (try clear c4); (try clear c4b0); (try clear c4b1); (try clear c5); (try clear c5b0); (try clear c5b1); (try clear c6); (try clear c9); (try clear q9); (try clear c11); (try clear q9); obtain ⟨x6_1, HA, HK1, HO_0, HO_5, HO_6, HB⟩ := hrel
    cases gk with
    | zero => exact absurd HA.out (by simp [Qar.l0])
    | succ k1 =>
     have H := HA.out; clear HA; simp only [Qar.l0] at H; replace H := Option.bind_eq_some_iff.mp H; obtain ⟨t114, A130, H⟩ := H; replace H : (if (t114.length : Int) = (x6_1.length : Int) then ((Qa1.f t101).bind fun t117 => ((Qas.f k1 t117).bind fun t120 => (Qar.l1 k1 x6_1 t120 0))) else (Qar.l0 k1 t101 t108 t114)) = some r := H; have A13 := Qad.mk A130; clear A130
     by_cases c14 : (t114.length : Int) = (x6_1.length : Int)
     ·rw [if_pos c14] at H; have c14b0 : ((t114.length : Int) == (x6_1.length : Int)) = true := beq_iff_eq.mpr c14; have c14b1 : ((t114.length : Int) != (x6_1.length : Int)) = false := bne_eq_false_iff_eq.mpr c14
      have c14b2 : (t114.length == x6_1.length) = true := by first | simpa using c14 | (simp at c14 ⊢; omega)
      clear c14; replace H := Option.bind_eq_some_iff.mp H; obtain ⟨t117, A150, H⟩ := H; replace H : ((Qas.f k1 t117).bind fun t120 => (Qar.l1 k1 x6_1 t120 0)) = some r := H; have A15 := Qad.mk A150; clear A150; replace H := Option.bind_eq_some_iff.mp H; obtain ⟨t120, A160, H⟩ := H; replace H : (Qar.l1 k1 x6_1 t120 0) = some r := H; have A16 := Qad.mk A160; clear A160; have H' := Qad.mk H; clear H; obtain ⟨Ao17, co17, eo17⟩ := Kd.QaT HO_5.out; subst eo17; obtain ⟨Ao18, co18, eo18⟩ := Kd.QaT HO_6.out; subst eo18
      go_wp2_with (first | ((with_reducible refine Qaz (f := 18) rfl ?_); refine Qbd (some 24) rfl rfl Tryd.func18 (by kernel_rfl) rfl #[.slice Ao17 t108.length co17, .slice Ao18 x6_1.length co18] rfl (by (try simp only [List.map_toArray, List.map_cons, List.map_nil]); first | done | rfl | (simp only [List.length_drop, List.length_take]; rfl)) ?_; (with_reducible refine (QaG.calls k1 _ _ t108 _ _ x6_1 t114 _ ?side1 ?side2 ?side3 ?side4 A13.out).mono ?_); (case side1 => repeat (first | exact (Kd.Qay HO_5.out).2.2 | (with_reducible refine Kd.QaQ ?_ _) | (with_reducible refine Kd.QaR ?_ _) | (with_reducible refine Kd.Qa7 ?_))); (case side2 => exact (Kd.Qay HO_5.out).2.1); (case side3 => repeat (first | exact (Kd.Qay HO_6.out).2.2 | (with_reducible refine Kd.QaQ ?_ _) | (with_reducible refine Kd.QaR ?_ _) | (with_reducible refine Kd.Qa7 ?_))); (case side4 => exact (Kd.Qay HO_6.out).2.1); rintro e w19 ⟨v115, rfl, ho0, hb⟩; refine ⟨_, rfl, ?_⟩; have n0_ := Qad.mk (Kd.V_elder' (by (with_reducible repeat (first | apply Kd.Qa9 | apply Kd.Qa8 | apply Kd.V_drew)); exact HO_0.out) (Kd.R_base ho0) hb); have n1_ := Qad.mk (Kd.QaC (by (with_reducible repeat (first | apply Kd.Qam | apply Kd.Qan | apply Kd.Qao)); exact HO_5.out) hb); have n2_ := Qad.mk (Kd.R_elder' (by (with_reducible repeat (first | apply Kd.Qam | apply Kd.Qan | apply Kd.Qao)); exact HO_6.out) (Kd.R_base ho0) hb); have n3_ := Qad.mk (Kd.R_lower (Kd.R_new' ho0 (Kd.R_lt (by (with_reducible repeat (first | apply Kd.Qam | apply Kd.Qan | apply Kd.Qao)); exact HO_6.out))) (Qap (by repeat (first | (with_reducible first | exact HB.out | apply Qac | apply Qaa | apply Qab) | exact HB.out)))); have n4_ := Qad.mk (Qal (by repeat (first | (with_reducible first | exact HB.out | apply Qac | apply Qaa | apply Qab) | exact HB.out)) hb); clear HO_0; clear HO_5; clear HO_6; clear HB; have HO_0 := n0_; have HO_5 := n1_; have HO_6 := n2_; have HO116 := n3_; have HB := n4_; clear n0_ n1_ n2_ n3_ n4_; (try clear hb); (try clear hb2); (try clear hk); (try clear hi); (try clear ho0); obtain ⟨Ao20, co20, eo20⟩ := Kd.QaT HO116.out; subst eo20) | ((with_reducible refine Qaz (f := 12) rfl ?_); refine Qbd (some 32) rfl rfl Tryd.func12 (by kernel_rfl) rfl #[.slice Ao10 t101.length co10] rfl (by (try simp only [List.map_toArray, List.map_cons, List.map_nil]); first | done | rfl | (simp only [List.length_drop, List.length_take]; rfl)) ?_; (with_reducible refine (Qa1.calls _ _ t101 t117 _ ?side1 ?side2 A15.out).mono ?_); (case side1 => repeat (first | exact (Kd.Qa3 HO_0.out).2.2 | (with_reducible refine Kd.QaQ ?_ _) | (with_reducible refine Kd.QaR ?_ _) | (with_reducible refine Kd.Qa7 ?_))); (case side2 => exact (Kd.Qa3 HO_0.out).2.1); rintro e w21 ⟨v118, rfl, ho0, hb⟩; refine ⟨_, rfl, ?_⟩; have n0_ := Qad.mk (Kd.V_elder' (by (with_reducible repeat (first | apply Kd.Qa9 | apply Kd.Qa8 | apply Kd.V_drew)); exact HO_0.out) (Kd.R_base ho0) hb); have n1_ := Qad.mk (Kd.QaC (by (with_reducible repeat (first | apply Kd.Qam | apply Kd.Qan | apply Kd.Qao)); exact HO_5.out) hb); have n2_ := Qad.mk (Kd.QaC (by (with_reducible repeat (first | apply Kd.Qam | apply Kd.Qan | apply Kd.Qao)); exact HO_6.out) hb); have n3_ := Qad.mk (Kd.QaC (by (with_reducible repeat (first | apply Kd.Qam | apply Kd.Qan | apply Kd.Qao)); exact HO116.out) hb); have n4_ := Qad.mk (Kd.R_lower ho0 (Qap (by repeat (first | (with_reducible first | exact HB.out | apply Qac | apply Qaa | apply Qab) | exact HB.out)))); have n5_ := Qad.mk (Qal (by repeat (first | (with_reducible first | exact HB.out | apply Qac | apply Qaa | apply Qab) | exact HB.out)) hb); clear HO_0; clear HO_5; clear HO_6; clear HO116; clear HB; have HO_0 := n0_; have HO_5 := n1_; have HO_6 := n2_; have HO116 := n3_; have HO119 := n4_; have HB := n5_; clear n0_ n1_ n2_ n3_ n4_ n5_; (try clear hb); (try clear hb2); (try clear hk); (try clear hi); (try clear ho0); obtain ⟨Ao22, co22, eo22⟩ := Kd.QaT HO119.out; subst eo22) | ((with_reducible refine Qaz (f := 11) rfl ?_); refine Qbd (some 33) rfl rfl Tryd.func11 (by kernel_rfl) rfl #[.slice Ao22 t117.length co22] rfl (by (try simp only [List.map_toArray, List.map_cons, List.map_nil]); first | done | rfl | (simp only [List.length_drop, List.length_take]; rfl)) ?_; (with_reducible refine (Qas.calls k1 _ _ t117 t120 _ ?side1 ?side2 A16.out).mono ?_); (case side1 => repeat (first | exact (Kd.Qay HO119.out).2.2 | (with_reducible refine Kd.QaQ ?_ _) | (with_reducible refine Kd.QaR ?_ _) | (with_reducible refine Kd.Qa7 ?_))); (case side2 => exact (Kd.Qay HO119.out).2.1); rintro e w23 ⟨v121, rfl, ho0, hb⟩; refine ⟨_, rfl, ?_⟩; have n0_ := Qad.mk (Kd.V_elder' (by (with_reducible repeat (first | apply Kd.Qa9 | apply Kd.Qa8 | apply Kd.V_drew)); exact HO_0.out) (Kd.R_base ho0) hb); have n1_ := Qad.mk (Kd.QaC (by (with_reducible repeat (first | apply Kd.Qam | apply Kd.Qan | apply Kd.Qao)); exact HO_5.out) hb); have n2_ := Qad.mk (Kd.R_elder' (by (with_reducible repeat (first | apply Kd.Qam | apply Kd.Qan | apply Kd.Qao)); exact HO_6.out) (Kd.R_base ho0) hb); have n3_ := Qad.mk (Kd.R_elder' (by (with_reducible repeat (first | apply Kd.Qam | apply Kd.Qan | apply Kd.Qao)); exact HO116.out) (Kd.R_base ho0) hb); have n4_ := Qad.mk (Kd.QaC (by (with_reducible repeat (first | apply Kd.Qam | apply Kd.Qan | apply Kd.Qao)); exact HO119.out) hb); have n5_ := Qad.mk (Kd.R_lower (Kd.R_new' (Kd.R_new' ho0 (Kd.R_lt (by (with_reducible repeat (first | apply Kd.Qam | apply Kd.Qan | apply Kd.Qao)); exact HO_6.out))) (Kd.R_lt (by (with_reducible repeat (first | apply Kd.Qam | apply Kd.Qan | apply Kd.Qao)); exact HO116.out))) (Qap (by repeat (first | (with_reducible first | exact HB.out | apply Qac | apply Qaa | apply Qab) | exact HB.out)))); have n6_ := Qad.mk (Qal (by repeat (first | (with_reducible first | exact HB.out | apply Qac | apply Qaa | apply Qab) | exact HB.out)) hb); clear HO_0; clear HO_5; clear HO_6; clear HO116; clear HO119; clear HB; have HO_0 := n0_; have HO_5 := n1_; have HO_6 := n2_; have HO116 := n3_; have HO119 := n4_; have HO122 := n5_; have HB := n6_; clear n0_ n1_ n2_ n3_ n4_ n5_ n6_; (try clear hb); (try clear hb2); (try clear hk); (try clear hi); (try clear ho0)))
      go_loopg [9] k1 (fun kq v9 w' => ∃ (x9_2 : Int), v9 = .int .i64 x9_2 ∧ Qad (Qar.l1 kq x6_1 t120 x9_2 = some r) ∧ Qad (kq ≤ k1) ∧ Qad (Kd.R k36 36 w' w.heap.size (fun k_ => some k_ ≠ (v121 : Value).ownBlock) (.slice Ao18 x6_1.length co18) x6_1) ∧ Qad (Kd.R k36 36 w' w.heap.size (fun k_ => some k_ ≠ ((.slice Ao18 x6_1.length co18) : Value).ownBlock) v121 t120) ∧ Qad (Below w.heap.size w w'))
      case atStart => exact ⟨(0), (by first | rfl | (simp; done) | (simp [*]; done)), H', ⟨Nat.le_refl _⟩, ⟨by (with_reducible repeat (first | apply Kd.Qam | apply Kd.Qan | apply Kd.Qao)); exact Kd.R_mono HO_6.out (fun _ hk => hk.2)⟩, ⟨by (with_reducible repeat (first | apply Kd.Qam | apply Kd.Qan | apply Kd.Qao)); exact Kd.R_mono HO122.out (fun _ hk => hk.1.2)⟩, ⟨by repeat (first | (with_reducible first | exact HB.out | apply Qac | apply Qaa | apply Qab) | exact HB.out)⟩⟩
      case round =>
       clear H'; (try clear c1); (try clear p2); (try clear c4); (try clear c4b0); (try clear c4b1); (try clear c5); (try clear c5b0); (try clear c5b1); (try clear c6); (try clear c9); (try clear q9); (try clear c11); (try clear c12); (try clear c14); (try clear c14b0); (try clear c14b1); (try clear c14b2); (try clear c18); (try clear c19); (try clear p2); (try clear q9); obtain ⟨x9_2, rfl, HA, HK2, HO_6, HO_8, HB⟩ := hrel
       cases gk with
       | zero => exact absurd HA.out (by simp [Qar.l1])
       | succ k2 =>
        have H := HA.out; clear HA; simp only [Qar.l1] at H
        by_cases c24 : x9_2 < (t120.length : Int)
        ·rw [if_pos c24] at H; have c24b0 : decide (x9_2 < (t120.length : Int)) = true := decide_eq_true c24; clear c24
         by_cases c25 : 0 ≤ x9_2
         ·rw [if_pos c25] at H; have c25b0 : decide (0 ≤ x9_2) = true := decide_eq_true c25; clear c25; replace H := Option.bind_eq_some_iff.mp H; obtain ⟨t124, A260, H⟩ := H; replace H : (if t124 = true then (Qar.l1 k2 x6_1 t120 (wrap64 (x9_2 + 1))) else (some false)) = some r := H; have A26 := Qad.mk A260; clear A260
          by_cases c27 : t124 = true
          ·subst c27
           have H1 : (Qar.l1 k2 x6_1 t120 (wrap64 (x9_2 + 1))) = some r := by rw [if_pos rfl] at H; exact H
           clear H; have H := H1; clear H1; have H' := Qad.mk H; clear H; obtain ⟨Ao28, co28, eo28⟩ := Kd.QaT HO_8.out; subst eo28; have p123 : 0 ≤ (x9_2 : Int) := of_decide_eq_true (by first | (with_reducible assumption) | assumption); have q123 : x9_2 < (t120.length : Int) := of_decide_eq_true (by first | (with_reducible assumption) | assumption); obtain ⟨ad123, e123, hx123_0, hx123_1, hx123_2⟩ := at_T36 (Kd.Qay HO_8.out).2.2 x9_2 p123 q123; cases e123; replace p123 := eq_true p123; replace q123 := eq_true q123
           go_wp2_with (first | ((with_reducible refine Qaz (f := 15) rfl ?_); refine Qbd (some 45) rfl rfl Tryd.func15 (by kernel_rfl) rfl #[.slice Ao18 x6_1.length co18, .agg #[.string ((Qav t120 x9_2).f0.f0), .string ((Qav t120 x9_2).f0.f1), .string ((Qav t120 x9_2).f1)]] rfl (by (try simp only [List.map_toArray, List.map_cons, List.map_nil]); first | done | rfl | (simp only [List.length_drop, List.length_take]; rfl)) ?_; (with_reducible refine (QaZ.calls k2 _ _ x6_1 ((Qav t120 x9_2).f0.f0) ((Qav t120 x9_2).f0.f1) ((Qav t120 x9_2).f1) true _ ?side1 ?side2 A26.out).mono ?_); (case side1 => repeat (first | exact (Kd.Qay HO_6.out).2.2 | (with_reducible refine Kd.QaQ ?_ _) | (with_reducible refine Kd.QaR ?_ _) | (with_reducible refine Kd.Qa7 ?_))); (case side2 => exact (Kd.Qay HO_6.out).2.1); rintro e w29 ⟨rfl, hb⟩; refine ⟨_, rfl, ?_⟩; have n0_ := Qad.mk (Kd.QaC (by (with_reducible repeat (first | apply Kd.Qam | apply Kd.Qan | apply Kd.Qao)); exact HO_6.out) hb); have n1_ := Qad.mk (Kd.QaC (by (with_reducible repeat (first | apply Kd.Qam | apply Kd.Qan | apply Kd.Qao)); exact HO_8.out) hb); have n2_ := Qad.mk (Qal (by repeat (first | (with_reducible first | exact HB.out | apply Qac | apply Qaa | apply Qab) | exact HB.out)) hb); clear HO_6; clear HO_8; clear HB; have HO_6 := n0_; have HO_8 := n1_; have HB := n2_; clear n0_ n1_ n2_; (try clear hb); (try clear hb2); (try clear hk); (try clear hi)))
           go_roundg k2
           case measure => have := HK1.out; have := HK2.out; omega
           case rel => exact ⟨(wrap64 (x9_2 + 1)), (by first | rfl | (simp; done) | (simp [*]; done)), H', ⟨by have := HK1.out; have := HK2.out; omega⟩, ⟨by (with_reducible repeat (first | apply Kd.Qam | apply Kd.Qan | apply Kd.Qao)); exact HO_6.out⟩, ⟨by (with_reducible repeat (first | apply Kd.Qam | apply Kd.Qan | apply Kd.Qao)); exact HO_8.out⟩, ⟨by repeat (first | (with_reducible first | exact HB.out | apply Qac | apply Qaa | apply Qab) | exact HB.out)⟩⟩
          ·replace c27 := Bool.eq_false_iff.mpr c27; subst c27
           have H1 : (some false) = some r := by rw [if_neg (show ¬ (false = true) by decide)] at H; exact H
           clear H; have H := H1; clear H1; obtain rfl := Option.some.inj H; obtain ⟨Ao30, co30, eo30⟩ := Kd.QaT HO_8.out; subst eo30; have p123 : 0 ≤ (x9_2 : Int) := of_decide_eq_true (by first | (with_reducible assumption) | assumption); have q123 : x9_2 < (t120.length : Int) := of_decide_eq_true (by first | (with_reducible assumption) | assumption); obtain ⟨ad123, e123, hx123_0, hx123_1, hx123_2⟩ := at_T36 (Kd.Qay HO_8.out).2.2 x9_2 p123 q123; cases e123; replace p123 := eq_true p123; replace q123 := eq_true q123
           go_wp2_with (first | ((with_reducible refine Qaz (f := 15) rfl ?_); refine Qbd (some 45) rfl rfl Tryd.func15 (by kernel_rfl) rfl #[.slice Ao18 x6_1.length co18, .agg #[.string ((Qav t120 x9_2).f0.f0), .string ((Qav t120 x9_2).f0.f1), .string ((Qav t120 x9_2).f1)]] rfl (by (try simp only [List.map_toArray, List.map_cons, List.map_nil]); first | done | rfl | (simp only [List.length_drop, List.length_take]; rfl)) ?_; (with_reducible refine (QaZ.calls k2 _ _ x6_1 ((Qav t120 x9_2).f0.f0) ((Qav t120 x9_2).f0.f1) ((Qav t120 x9_2).f1) false _ ?side1 ?side2 A26.out).mono ?_); (case side1 => repeat (first | exact (Kd.Qay HO_6.out).2.2 | (with_reducible refine Kd.QaQ ?_ _) | (with_reducible refine Kd.QaR ?_ _) | (with_reducible refine Kd.Qa7 ?_))); (case side2 => exact (Kd.Qay HO_6.out).2.1); rintro e w31 ⟨rfl, hb⟩; refine ⟨_, rfl, ?_⟩; have n0_ := Qad.mk (Kd.QaC (by (with_reducible repeat (first | apply Kd.Qam | apply Kd.Qan | apply Kd.Qao)); exact HO_6.out) hb); have n1_ := Qad.mk (Kd.QaC (by (with_reducible repeat (first | apply Kd.Qam | apply Kd.Qan | apply Kd.Qao)); exact HO_8.out) hb); have n2_ := Qad.mk (Qal (by repeat (first | (with_reducible first | exact HB.out | apply Qac | apply Qaa | apply Qab) | exact HB.out)) hb); clear HO_6; clear HO_8; clear HB; have HO_6 := n0_; have HO_8 := n1_; have HB := n2_; clear n0_ n1_ n2_; (try clear hb); (try clear hb2); (try clear hk); (try clear hi)))
           go_ret; exact ⟨by first | rfl | (simp [Qau, Qat] <;> rfl) | (simp [*, Qau, Qat] <;> rfl), by repeat (first | (with_reducible first | exact HB.out | apply Qac | apply Qaa | apply Qab) | exact HB.out)⟩
         ·rw [if_neg c25] at H; exact absurd H (by simp)
        ·rw [if_neg c24] at H; have c24b0 : decide (x9_2 < (t120.length : Int)) = false := decide_eq_false c24; clear c24; replace H := Option.bind_eq_some_iff.mp H; obtain ⟨t125, A320, H⟩ := H; replace H : (some t125) = some r := H; have A32 := Qad.mk A320; clear A320; obtain rfl := Option.some.inj H; obtain ⟨Ao33, co33, eo33⟩ := Kd.QaT HO_8.out; subst eo33
         go_wp2_with (first | ((with_reducible refine Qaz (f := 14) rfl ?_); refine Qbd (some 48) rfl rfl Tryd.func14 (by kernel_rfl) rfl #[] rfl (by (try simp only [List.map_toArray, List.map_cons, List.map_nil]); first | done | rfl | (simp only [List.length_drop, List.length_take]; rfl)) ?_; (with_reducible refine (QaH.calls k2  t125 _ A32.out).mono ?_); rintro e w34 ⟨rfl, hb⟩; refine ⟨_, rfl, ?_⟩; have n0_ := Qad.mk (Kd.QaC (by (with_reducible repeat (first | apply Kd.Qam | apply Kd.Qan | apply Kd.Qao)); exact HO_6.out) hb); have n1_ := Qad.mk (Kd.QaC (by (with_reducible repeat (first | apply Kd.Qam | apply Kd.Qan | apply Kd.Qao)); exact HO_8.out) hb); have n2_ := Qad.mk (Qal (by repeat (first | (with_reducible first | exact HB.out | apply Qac | apply Qaa | apply Qab) | exact HB.out)) hb); clear HO_6; clear HO_8; clear HB; have HO_6 := n0_; have HO_8 := n1_; have HB := n2_; clear n0_ n1_ n2_; (try clear hb); (try clear hb2); (try clear hk); (try clear hi)))
         go_ret; exact ⟨by first | rfl | (simp [Qau, Qat] <;> rfl) | (simp [*, Qau, Qat] <;> rfl), by repeat (first | (with_reducible first | exact HB.out | apply Qac | apply Qaa | apply Qab) | exact HB.out)⟩
     ·rw [if_neg c14] at H; have c14b0 : ((t114.length : Int) == (x6_1.length : Int)) = false := beq_eq_false_iff_ne.mpr c14; have c14b1 : ((t114.length : Int) != (x6_1.length : Int)) = true := bne_iff_ne.mpr c14
      have c14b2 : (t114.length == x6_1.length) = false := by first | simpa using c14 | (simp at c14 ⊢; omega)
      have H' := Qad.mk H; clear H; obtain ⟨Ao35, co35, eo35⟩ := Kd.QaT HO_5.out; subst eo35; obtain ⟨Ao36, co36, eo36⟩ := Kd.QaT HO_6.out; subst eo36
      go_wp2_with (first | ((with_reducible refine Qaz (f := 18) rfl ?_); refine Qbd (some 24) rfl rfl Tryd.func18 (by kernel_rfl) rfl #[.slice Ao35 t108.length co35, .slice Ao36 x6_1.length co36] rfl (by (try simp only [List.map_toArray, List.map_cons, List.map_nil]); first | done | rfl | (simp only [List.length_drop, List.length_take]; rfl)) ?_; (with_reducible refine (QaG.calls k1 _ _ t108 _ _ x6_1 t114 _ ?side1 ?side2 ?side3 ?side4 A13.out).mono ?_); (case side1 => repeat (first | exact (Kd.Qay HO_5.out).2.2 | (with_reducible refine Kd.QaQ ?_ _) | (with_reducible refine Kd.QaR ?_ _) | (with_reducible refine Kd.Qa7 ?_))); (case side2 => exact (Kd.Qay HO_5.out).2.1); (case side3 => repeat (first | exact (Kd.Qay HO_6.out).2.2 | (with_reducible refine Kd.QaQ ?_ _) | (with_reducible refine Kd.QaR ?_ _) | (with_reducible refine Kd.Qa7 ?_))); (case side4 => exact (Kd.Qay HO_6.out).2.1); rintro e w37 ⟨v115, rfl, ho0, hb⟩; refine ⟨_, rfl, ?_⟩; have n0_ := Qad.mk (Kd.V_elder' (by (with_reducible repeat (first | apply Kd.Qa9 | apply Kd.Qa8 | apply Kd.V_drew)); exact HO_0.out) (Kd.R_base ho0) hb); have n1_ := Qad.mk (Kd.QaC (by (with_reducible repeat (first | apply Kd.Qam | apply Kd.Qan | apply Kd.Qao)); exact HO_5.out) hb); have n2_ := Qad.mk (Kd.R_elder' (by (with_reducible repeat (first | apply Kd.Qam | apply Kd.Qan | apply Kd.Qao)); exact HO_6.out) (Kd.R_base ho0) hb); have n3_ := Qad.mk (Kd.R_lower (Kd.R_new' ho0 (Kd.R_lt (by (with_reducible repeat (first | apply Kd.Qam | apply Kd.Qan | apply Kd.Qao)); exact HO_6.out))) (Qap (by repeat (first | (with_reducible first | exact HB.out | apply Qac | apply Qaa | apply Qab) | exact HB.out)))); have n4_ := Qad.mk (Qal (by repeat (first | (with_reducible first | exact HB.out | apply Qac | apply Qaa | apply Qab) | exact HB.out)) hb); clear HO_0; clear HO_5; clear HO_6; clear HB; have HO_0 := n0_; have HO_5 := n1_; have HO_6 := n2_; have HO116 := n3_; have HB := n4_; clear n0_ n1_ n2_ n3_ n4_; (try clear hb); (try clear hb2); (try clear hk); (try clear hi); (try clear ho0); obtain ⟨Ao38, co38, eo38⟩ := Kd.QaT HO116.out; subst eo38))
      go_roundg k1
      case measure => have := HK1.out; omega
      case rel => exact ⟨(t114), H', ⟨by have := HK1.out; omega⟩, ⟨by (with_reducible repeat (first | apply Kd.Qa9 | apply Kd.Qa8 | apply Kd.V_drew)); exact Kd.V_mono HO_0.out (fun _ hk => ⟨hk.1.1, hk.2⟩)⟩, ⟨by (with_reducible repeat (first | apply Kd.Qam | apply Kd.Qan | apply Kd.Qao)); exact HO_5.out⟩, ⟨by (with_reducible repeat (first | apply Kd.Qam | apply Kd.Qan | apply Kd.Qao)); exact Kd.R_mono HO116.out (fun _ hk => trivial)⟩, ⟨by repeat (first | (with_reducible first | exact HB.out | apply Qac | apply Qaa | apply Qab) | exact HB.out)⟩⟩
  ·rw [if_neg c5] at H; exact absurd H (by simp)
 ·rw [if_neg c4] at H; have c4b0 : decide (20 < (l1.length : Int)) = false := decide_eq_false c4; have c4b1 : decide (20 < l1.length) = false := decide_eq_false (by omega); clear c4; replace H := Option.bind_eq_some_iff.mp H; obtain ⟨t126, A390, H⟩ := H; replace H : ((Qas.f k l1).bind fun t129 => (Qar.l0 k t101 t126 t129)) = some r := H; have A39 := Qad.mk A390; clear A390; replace H := Option.bind_eq_some_iff.mp H; obtain ⟨t129, A400, H⟩ := H; replace H : (Qar.l0 k t101 t126 t129) = some r := H; have A40 := Qad.mk A400; clear A400; have H' := Qad.mk H; clear H; go_enter Tryd.func6, Tryd.ntmps6
  go_wp2_with (first | ((with_reducible refine Qaz (f := 9) rfl ?_); refine Qbd (some 12) rfl rfl Tryd.func9 (by kernel_rfl) rfl #[.slice A0 l0.length c0] rfl (by (try simp only [List.map_toArray, List.map_cons, List.map_nil]); first | done | rfl | (simp only [List.length_drop, List.length_take]; rfl)) ?_; (with_reducible refine (Qa5.calls (fun k_ => k_ < w.heap.size) _ _ l0 t101 _ ?side1 A3.out).mono ?_); (case side1 => exact Kd.V_mk HC0.out (Kd.F_below (Kd.C_F k46_heap HR0.out) (by repeat (first | (with_reducible first | exact HB.out | apply Qac | apply Qaa | apply Qab) | exact HB.out)))); rintro e w41 ⟨v102, rfl, ho0, hb⟩; refine ⟨_, rfl, ?_⟩; have n0_ := Qad.mk (Kd.V_lower (Kd.V_mono (ok' := fun k_ => True) ho0 (fun k_ hk_ => trivial)) (Qap (by repeat (first | (with_reducible first | exact HB.out | apply Qac | apply Qaa | apply Qab) | exact HB.out)))); have n1_ := Qad.mk (Qal (by repeat (first | (with_reducible first | exact HB.out | apply Qac | apply Qaa | apply Qab) | exact HB.out)) hb); clear HB; have HO103 := n0_; have HB := n1_; clear n0_ n1_; (try clear hb); (try clear hb2); (try clear hk); (try clear hi); (try clear ho0); obtain ⟨Ao42, co42, eo42⟩ := Kd.V_slice HO103.out; subst eo42) | ((with_reducible refine Qaz (f := 19) rfl ?_); refine Qbd (some 19) rfl rfl Tryd.func19 (by kernel_rfl) rfl #[.slice Ao42 t101.length co42] rfl (by (try simp only [List.map_toArray, List.map_cons, List.map_nil]); first | done | rfl | (simp only [List.length_drop, List.length_take]; rfl)) ?_; (with_reducible refine (Qax.calls k _ _ t101 t126 _ ?side1 ?side2 A39.out).mono ?_); (case side1 => repeat (first | exact (Kd.Qa3 HO103.out).2.2 | (with_reducible refine Kd.QaQ ?_ _) | (with_reducible refine Kd.QaR ?_ _) | (with_reducible refine Kd.Qa7 ?_))); (case side2 => exact (Kd.Qa3 HO103.out).2.1); rintro e w43 ⟨v127, rfl, ho0, hb⟩; refine ⟨_, rfl, ?_⟩; have n0_ := Qad.mk (Kd.V_elder' (by (with_reducible repeat (first | apply Kd.Qa9 | apply Kd.Qa8 | apply Kd.V_drew)); exact HO103.out) (Kd.R_base ho0) hb); have n1_ := Qad.mk (Kd.R_lower ho0 (Qap (by repeat (first | (with_reducible first | exact HB.out | apply Qac | apply Qaa | apply Qab) | exact HB.out)))); have n2_ := Qad.mk (Qal (by repeat (first | (with_reducible first | exact HB.out | apply Qac | apply Qaa | apply Qab) | exact HB.out)) hb); clear HO103; clear HB; have HO103 := n0_; have HO128 := n1_; have HB := n2_; clear n0_ n1_ n2_; (try clear hb); (try clear hb2); (try clear hk); (try clear hi); (try clear ho0)) | ((with_reducible refine Qaz (f := 11) rfl ?_); refine Qbd (some 21) rfl rfl Tryd.func11 (by kernel_rfl) rfl #[.slice A1 l1.length c1] rfl (by (try simp only [List.map_toArray, List.map_cons, List.map_nil]); first | done | rfl | (simp only [List.length_drop, List.length_take]; rfl)) ?_; (with_reducible refine (Qas.calls k _ _ l1 t129 _ ?side1 ?side2 A40.out).mono ?_); (case side1 => repeat (first | exact (Kd.C_below HR1.out HB.out) | (with_reducible refine Kd.QaQ ?_ _) | (with_reducible refine Kd.QaR ?_ _) | (with_reducible refine Kd.Qa7 ?_))); (case side2 => exact HC1.out); rintro e w44 ⟨v130, rfl, ho0, hb⟩; refine ⟨_, rfl, ?_⟩; have n0_ := Qad.mk (Kd.V_elder' (by (with_reducible repeat (first | apply Kd.Qa9 | apply Kd.Qa8 | apply Kd.V_drew)); exact HO103.out) (Kd.R_base ho0) hb); have n1_ := Qad.mk (Kd.QaC (by (with_reducible repeat (first | apply Kd.Qam | apply Kd.Qan | apply Kd.Qao)); exact HO128.out) hb); have n2_ := Qad.mk (Kd.R_lower ho0 (Qap (by repeat (first | (with_reducible first | exact HB.out | apply Qac | apply Qaa | apply Qab) | exact HB.out)))); have n3_ := Qad.mk (Qal (by repeat (first | (with_reducible first | exact HB.out | apply Qac | apply Qaa | apply Qab) | exact HB.out)) hb); clear HO103; clear HO128; clear HB; have HO103 := n0_; have HO128 := n1_; have HO131 := n2_; have HB := n3_; clear n0_ n1_ n2_ n3_; (try clear hb); (try clear hb2); (try clear hk); (try clear hi); (try clear ho0)))
  go_loopg [6] k (fun kq v6 w' => ∃ (x6_1 : List (S36)), Qad (Qar.l0 kq t101 t126 x6_1 = some r) ∧ Qad (kq ≤ k) ∧ Qad (Kd.V k46 46 w' w.heap.size (fun k_ => some k_ ≠ (v127 : Value).ownBlock ∧ some k_ ≠ (v6 : Value).ownBlock) (.slice Ao42 t101.length co42) t101) ∧ Qad (Kd.R k46 46 w' w.heap.size (fun _ => True) v127 t126) ∧ Qad (Kd.R k36 36 w' w.heap.size (fun _ => True) v6 x6_1) ∧ Qad (Below w.heap.size w w'))
  case atStart => exact ⟨(t129), H', ⟨Nat.le_refl _⟩, ⟨by (with_reducible repeat (first | apply Kd.Qa9 | apply Kd.Qa8 | apply Kd.V_drew)); exact Kd.V_mono HO103.out (fun _ hk => ⟨hk.1.2, hk.2⟩)⟩, ⟨by (with_reducible repeat (first | apply Kd.Qam | apply Kd.Qan | apply Kd.Qao)); exact HO128.out⟩, ⟨by (with_reducible repeat (first | apply Kd.Qam | apply Kd.Qan | apply Kd.Qao)); exact HO131.out⟩, ⟨by repeat (first | (with_reducible first | exact HB.out | apply Qac | apply Qaa | apply Qab) | exact HB.out)⟩⟩
  case round =>
   clear H'; (try clear c1); (try clear p1); (try clear q1); (try clear hx1); (try clear c2); (try clear p2); (try clear c4); (try clear c4b0); (try clear c4b1); (try clear c5); (try clear c5b0); (try clear c5b1); (try clear c6); (try clear p6); (try clear c9); (try clear q9); (try clear c11); (try clear c12); (try clear p12); (try clear q12); (try clear hx12); (try clear c14); (try clear c14b0); (try clear c14b1); (try clear c14b2); (try clear c15); (try clear c18); (try clear c19); (try clear c24); (try clear c24b0); (try clear c25); (try clear c25b0); (try clear c27); (try clear hx123_0); (try clear hx123_1); (try clear hx123_2); (try clear p123); (try clear p2); (try clear q123); (try clear q9); obtain ⟨x6_1, HA, HK1, HO_0, HO_5, HO_6, HB⟩ := hrel
   cases gk with
   | zero => exact absurd HA.out (by simp [Qar.l0])
   | succ k1 =>
    have H := HA.out; clear HA; simp only [Qar.l0] at H; replace H := Option.bind_eq_some_iff.mp H; obtain ⟨t114, A450, H⟩ := H; replace H : (if (t114.length : Int) = (x6_1.length : Int) then ((Qa1.f t101).bind fun t117 => ((Qas.f k1 t117).bind fun t120 => (Qar.l1 k1 x6_1 t120 0))) else (Qar.l0 k1 t101 t126 t114)) = some r := H; have A45 := Qad.mk A450; clear A450
    by_cases c46 : (t114.length : Int) = (x6_1.length : Int)
    ·rw [if_pos c46] at H; have c46b0 : ((t114.length : Int) == (x6_1.length : Int)) = true := beq_iff_eq.mpr c46; have c46b1 : ((t114.length : Int) != (x6_1.length : Int)) = false := bne_eq_false_iff_eq.mpr c46
     have c46b2 : (t114.length == x6_1.length) = true := by first | simpa using c46 | (simp at c46 ⊢; omega)
     clear c46; replace H := Option.bind_eq_some_iff.mp H; obtain ⟨t117, A470, H⟩ := H; replace H : ((Qas.f k1 t117).bind fun t120 => (Qar.l1 k1 x6_1 t120 0)) = some r := H; have A47 := Qad.mk A470; clear A470; replace H := Option.bind_eq_some_iff.mp H; obtain ⟨t120, A480, H⟩ := H; replace H : (Qar.l1 k1 x6_1 t120 0) = some r := H; have A48 := Qad.mk A480; clear A480; have H' := Qad.mk H; clear H; obtain ⟨Ao49, co49, eo49⟩ := Kd.QaT HO_5.out; subst eo49; obtain ⟨Ao50, co50, eo50⟩ := Kd.QaT HO_6.out; subst eo50
     go_wp2_with (first | ((with_reducible refine Qaz (f := 18) rfl ?_); refine Qbd (some 24) rfl rfl Tryd.func18 (by kernel_rfl) rfl #[.slice Ao49 t126.length co49, .slice Ao50 x6_1.length co50] rfl (by (try simp only [List.map_toArray, List.map_cons, List.map_nil]); first | done | rfl | (simp only [List.length_drop, List.length_take]; rfl)) ?_; (with_reducible refine (QaG.calls k1 _ _ t126 _ _ x6_1 t114 _ ?side1 ?side2 ?side3 ?side4 A45.out).mono ?_); (case side1 => repeat (first | exact (Kd.Qay HO_5.out).2.2 | (with_reducible refine Kd.QaQ ?_ _) | (with_reducible refine Kd.QaR ?_ _) | (with_reducible refine Kd.Qa7 ?_))); (case side2 => exact (Kd.Qay HO_5.out).2.1); (case side3 => repeat (first | exact (Kd.Qay HO_6.out).2.2 | (with_reducible refine Kd.QaQ ?_ _) | (with_reducible refine Kd.QaR ?_ _) | (with_reducible refine Kd.Qa7 ?_))); (case side4 => exact (Kd.Qay HO_6.out).2.1); rintro e w51 ⟨v115, rfl, ho0, hb⟩; refine ⟨_, rfl, ?_⟩; have n0_ := Qad.mk (Kd.V_elder' (by (with_reducible repeat (first | apply Kd.Qa9 | apply Kd.Qa8 | apply Kd.V_drew)); exact HO_0.out) (Kd.R_base ho0) hb); have n1_ := Qad.mk (Kd.QaC (by (with_reducible repeat (first | apply Kd.Qam | apply Kd.Qan | apply Kd.Qao)); exact HO_5.out) hb); have n2_ := Qad.mk (Kd.R_elder' (by (with_reducible repeat (first | apply Kd.Qam | apply Kd.Qan | apply Kd.Qao)); exact HO_6.out) (Kd.R_base ho0) hb); have n3_ := Qad.mk (Kd.R_lower (Kd.R_new' ho0 (Kd.R_lt (by (with_reducible repeat (first | apply Kd.Qam | apply Kd.Qan | apply Kd.Qao)); exact HO_6.out))) (Qap (by repeat (first | (with_reducible first | exact HB.out | apply Qac | apply Qaa | apply Qab) | exact HB.out)))); have n4_ := Qad.mk (Qal (by repeat (first | (with_reducible first | exact HB.out | apply Qac | apply Qaa | apply Qab) | exact HB.out)) hb); clear HO_0; clear HO_5; clear HO_6; clear HB; have HO_0 := n0_; have HO_5 := n1_; have HO_6 := n2_; have HO116 := n3_; have HB := n4_; clear n0_ n1_ n2_ n3_ n4_; (try clear hb); (try clear hb2); (try clear hk); (try clear hi); (try clear ho0); obtain ⟨Ao52, co52, eo52⟩ := Kd.QaT HO116.out; subst eo52) | ((with_reducible refine Qaz (f := 12) rfl ?_); refine Qbd (some 32) rfl rfl Tryd.func12 (by kernel_rfl) rfl #[.slice Ao42 t101.length co42] rfl (by (try simp only [List.map_toArray, List.map_cons, List.map_nil]); first | done | rfl | (simp only [List.length_drop, List.length_take]; rfl)) ?_; (with_reducible refine (Qa1.calls _ _ t101 t117 _ ?side1 ?side2 A47.out).mono ?_); (case side1 => repeat (first | exact (Kd.Qa3 HO_0.out).2.2 | (with_reducible refine Kd.QaQ ?_ _) | (with_reducible refine Kd.QaR ?_ _) | (with_reducible refine Kd.Qa7 ?_))); (case side2 => exact (Kd.Qa3 HO_0.out).2.1); rintro e w53 ⟨v118, rfl, ho0, hb⟩; refine ⟨_, rfl, ?_⟩; have n0_ := Qad.mk (Kd.V_elder' (by (with_reducible repeat (first | apply Kd.Qa9 | apply Kd.Qa8 | apply Kd.V_drew)); exact HO_0.out) (Kd.R_base ho0) hb); have n1_ := Qad.mk (Kd.QaC (by (with_reducible repeat (first | apply Kd.Qam | apply Kd.Qan | apply Kd.Qao)); exact HO_5.out) hb); have n2_ := Qad.mk (Kd.QaC (by (with_reducible repeat (first | apply Kd.Qam | apply Kd.Qan | apply Kd.Qao)); exact HO_6.out) hb); have n3_ := Qad.mk (Kd.QaC (by (with_reducible repeat (first | apply Kd.Qam | apply Kd.Qan | apply Kd.Qao)); exact HO116.out) hb); have n4_ := Qad.mk (Kd.R_lower ho0 (Qap (by repeat (first | (with_reducible first | exact HB.out | apply Qac | apply Qaa | apply Qab) | exact HB.out)))); have n5_ := Qad.mk (Qal (by repeat (first | (with_reducible first | exact HB.out | apply Qac | apply Qaa | apply Qab) | exact HB.out)) hb); clear HO_0; clear HO_5; clear HO_6; clear HO116; clear HB; have HO_0 := n0_; have HO_5 := n1_; have HO_6 := n2_; have HO116 := n3_; have HO119 := n4_; have HB := n5_; clear n0_ n1_ n2_ n3_ n4_ n5_; (try clear hb); (try clear hb2); (try clear hk); (try clear hi); (try clear ho0); obtain ⟨Ao54, co54, eo54⟩ := Kd.QaT HO119.out; subst eo54) | ((with_reducible refine Qaz (f := 11) rfl ?_); refine Qbd (some 33) rfl rfl Tryd.func11 (by kernel_rfl) rfl #[.slice Ao54 t117.length co54] rfl (by (try simp only [List.map_toArray, List.map_cons, List.map_nil]); first | done | rfl | (simp only [List.length_drop, List.length_take]; rfl)) ?_; (with_reducible refine (Qas.calls k1 _ _ t117 t120 _ ?side1 ?side2 A48.out).mono ?_); (case side1 => repeat (first | exact (Kd.Qay HO119.out).2.2 | (with_reducible refine Kd.QaQ ?_ _) | (with_reducible refine Kd.QaR ?_ _) | (with_reducible refine Kd.Qa7 ?_))); (case side2 => exact (Kd.Qay HO119.out).2.1); rintro e w55 ⟨v121, rfl, ho0, hb⟩; refine ⟨_, rfl, ?_⟩; have n0_ := Qad.mk (Kd.V_elder' (by (with_reducible repeat (first | apply Kd.Qa9 | apply Kd.Qa8 | apply Kd.V_drew)); exact HO_0.out) (Kd.R_base ho0) hb); have n1_ := Qad.mk (Kd.QaC (by (with_reducible repeat (first | apply Kd.Qam | apply Kd.Qan | apply Kd.Qao)); exact HO_5.out) hb); have n2_ := Qad.mk (Kd.R_elder' (by (with_reducible repeat (first | apply Kd.Qam | apply Kd.Qan | apply Kd.Qao)); exact HO_6.out) (Kd.R_base ho0) hb); have n3_ := Qad.mk (Kd.R_elder' (by (with_reducible repeat (first | apply Kd.Qam | apply Kd.Qan | apply Kd.Qao)); exact HO116.out) (Kd.R_base ho0) hb); have n4_ := Qad.mk (Kd.QaC (by (with_reducible repeat (first | apply Kd.Qam | apply Kd.Qan | apply Kd.Qao)); exact HO119.out) hb); have n5_ := Qad.mk (Kd.R_lower (Kd.R_new' (Kd.R_new' ho0 (Kd.R_lt (by (with_reducible repeat (first | apply Kd.Qam | apply Kd.Qan | apply Kd.Qao)); exact HO_6.out))) (Kd.R_lt (by (with_reducible repeat (first | apply Kd.Qam | apply Kd.Qan | apply Kd.Qao)); exact HO116.out))) (Qap (by repeat (first | (with_reducible first | exact HB.out | apply Qac | apply Qaa | apply Qab) | exact HB.out)))); have n6_ := Qad.mk (Qal (by repeat (first | (with_reducible first | exact HB.out | apply Qac | apply Qaa | apply Qab) | exact HB.out)) hb); clear HO_0; clear HO_5; clear HO_6; clear HO116; clear HO119; clear HB; have HO_0 := n0_; have HO_5 := n1_; have HO_6 := n2_; have HO116 := n3_; have HO119 := n4_; have HO122 := n5_; have HB := n6_; clear n0_ n1_ n2_ n3_ n4_ n5_ n6_; (try clear hb); (try clear hb2); (try clear hk); (try clear hi); (try clear ho0)))
     go_loopg [9] k1 (fun kq v9 w' => ∃ (x9_2 : Int), v9 = .int .i64 x9_2 ∧ Qad (Qar.l1 kq x6_1 t120 x9_2 = some r) ∧ Qad (kq ≤ k1) ∧ Qad (Kd.R k36 36 w' w.heap.size (fun k_ => some k_ ≠ (v121 : Value).ownBlock) (.slice Ao50 x6_1.length co50) x6_1) ∧ Qad (Kd.R k36 36 w' w.heap.size (fun k_ => some k_ ≠ ((.slice Ao50 x6_1.length co50) : Value).ownBlock) v121 t120) ∧ Qad (Below w.heap.size w w'))
     case atStart => exact ⟨(0), (by first | rfl | (simp; done) | (simp [*]; done)), H', ⟨Nat.le_refl _⟩, ⟨by (with_reducible repeat (first | apply Kd.Qam | apply Kd.Qan | apply Kd.Qao)); exact Kd.R_mono HO_6.out (fun _ hk => hk.2)⟩, ⟨by (with_reducible repeat (first | apply Kd.Qam | apply Kd.Qan | apply Kd.Qao)); exact Kd.R_mono HO122.out (fun _ hk => hk.1.2)⟩, ⟨by repeat (first | (with_reducible first | exact HB.out | apply Qac | apply Qaa | apply Qab) | exact HB.out)⟩⟩
     case round =>
      clear H'; (try clear c1); (try clear p1); (try clear q1); (try clear hx1); (try clear c2); (try clear p2); (try clear c4); (try clear c4b0); (try clear c4b1); (try clear c5); (try clear c5b0); (try clear c5b1); (try clear c6); (try clear p6); (try clear c9); (try clear q9); (try clear c11); (try clear c12); (try clear p12); (try clear q12); (try clear hx12); (try clear c14); (try clear c14b0); (try clear c14b1); (try clear c14b2); (try clear c15); (try clear c18); (try clear c19); (try clear c24); (try clear c24b0); (try clear c25); (try clear c25b0); (try clear c27); (try clear c46); (try clear c46b0); (try clear c46b1); (try clear c46b2); (try clear hx123_0); (try clear hx123_1); (try clear hx123_2); (try clear p1); (try clear p12); (try clear p123); (try clear p2); (try clear p6); (try clear q1); (try clear q12); (try clear q123); (try clear q9); obtain ⟨x9_2, rfl, HA, HK2, HO_6, HO_8, HB⟩ := hrel
      cases gk with
      | zero => exact absurd HA.out (by simp [Qar.l1])
      | succ k2 =>
       have H := HA.out; clear HA; simp only [Qar.l1] at H
       by_cases c56 : x9_2 < (t120.length : Int)
       ·rw [if_pos c56] at H; have c56b0 : decide (x9_2 < (t120.length : Int)) = true := decide_eq_true c56; clear c56
        by_cases c57 : 0 ≤ x9_2
        ·rw [if_pos c57] at H; have c57b0 : decide (0 ≤ x9_2) = true := decide_eq_true c57; clear c57; replace H := Option.bind_eq_some_iff.mp H; obtain ⟨t124, A580, H⟩ := H; replace H : (if t124 = true then (Qar.l1 k2 x6_1 t120 (wrap64 (x9_2 + 1))) else (some false)) = some r := H; have A58 := Qad.mk A580; clear A580
         by_cases c59 : t124 = true
         ·subst c59
          have H1 : (Qar.l1 k2 x6_1 t120 (wrap64 (x9_2 + 1))) = some r := by rw [if_pos rfl] at H; exact H
          clear H; have H := H1; clear H1; have H' := Qad.mk H; clear H; obtain ⟨Ao60, co60, eo60⟩ := Kd.QaT HO_8.out; subst eo60; have p123 : 0 ≤ (x9_2 : Int) := of_decide_eq_true (by first | (with_reducible assumption) | assumption); have q123 : x9_2 < (t120.length : Int) := of_decide_eq_true (by first | (with_reducible assumption) | assumption); obtain ⟨ad123, e123, hx123_0, hx123_1, hx123_2⟩ := at_T36 (Kd.Qay HO_8.out).2.2 x9_2 p123 q123; cases e123; replace p123 := eq_true p123; replace q123 := eq_true q123
          go_wp2_with (first | ((with_reducible refine Qaz (f := 15) rfl ?_); refine Qbd (some 45) rfl rfl Tryd.func15 (by kernel_rfl) rfl #[.slice Ao50 x6_1.length co50, .agg #[.string ((Qav t120 x9_2).f0.f0), .string ((Qav t120 x9_2).f0.f1), .string ((Qav t120 x9_2).f1)]] rfl (by (try simp only [List.map_toArray, List.map_cons, List.map_nil]); first | done | rfl | (simp only [List.length_drop, List.length_take]; rfl)) ?_; (with_reducible refine (QaZ.calls k2 _ _ x6_1 ((Qav t120 x9_2).f0.f0) ((Qav t120 x9_2).f0.f1) ((Qav t120 x9_2).f1) true _ ?side1 ?side2 A58.out).mono ?_); (case side1 => repeat (first | exact (Kd.Qay HO_6.out).2.2 | (with_reducible refine Kd.QaQ ?_ _) | (with_reducible refine Kd.QaR ?_ _) | (with_reducible refine Kd.Qa7 ?_))); (case side2 => exact (Kd.Qay HO_6.out).2.1); rintro e w61 ⟨rfl, hb⟩; refine ⟨_, rfl, ?_⟩; have n0_ := Qad.mk (Kd.QaC (by (with_reducible repeat (first | apply Kd.Qam | apply Kd.Qan | apply Kd.Qao)); exact HO_6.out) hb); have n1_ := Qad.mk (Kd.QaC (by (with_reducible repeat (first | apply Kd.Qam | apply Kd.Qan | apply Kd.Qao)); exact HO_8.out) hb); have n2_ := Qad.mk (Qal (by repeat (first | (with_reducible first | exact HB.out | apply Qac | apply Qaa | apply Qab) | exact HB.out)) hb); clear HO_6; clear HO_8; clear HB; have HO_6 := n0_; have HO_8 := n1_; have HB := n2_; clear n0_ n1_ n2_; (try clear hb); (try clear hb2); (try clear hk); (try clear hi)))
          go_roundg k2
          case measure => have := HK1.out; have := HK2.out; omega
          case rel => exact ⟨(wrap64 (x9_2 + 1)), (by first | rfl | (simp; done) | (simp [*]; done)), H', ⟨by have := HK1.out; have := HK2.out; omega⟩, ⟨by (with_reducible repeat (first | apply Kd.Qam | apply Kd.Qan | apply Kd.Qao)); exact HO_6.out⟩, ⟨by (with_reducible repeat (first | apply Kd.Qam | apply Kd.Qan | apply Kd.Qao)); exact HO_8.out⟩, ⟨by repeat (first | (with_reducible first | exact HB.out | apply Qac | apply Qaa | apply Qab) | exact HB.out)⟩⟩
         ·replace c59 := Bool.eq_false_iff.mpr c59; subst c59
          have H1 : (some false) = some r := by rw [if_neg (show ¬ (false = true) by decide)] at H; exact H
          clear H; have H := H1; clear H1; obtain rfl := Option.some.inj H; obtain ⟨Ao62, co62, eo62⟩ := Kd.QaT HO_8.out; subst eo62; have p123 : 0 ≤ (x9_2 : Int) := of_decide_eq_true (by first | (with_reducible assumption) | assumption); have q123 : x9_2 < (t120.length : Int) := of_decide_eq_true (by first | (with_reducible assumption) | assumption); obtain ⟨ad123, e123, hx123_0, hx123_1, hx123_2⟩ := at_T36 (Kd.Qay HO_8.out).2.2 x9_2 p123 q123; cases e123; replace p123 := eq_true p123; replace q123 := eq_true q123
          go_wp2_with (first | ((with_reducible refine Qaz (f := 15) rfl ?_); refine Qbd (some 45) rfl rfl Tryd.func15 (by kernel_rfl) rfl #[.slice Ao50 x6_1.length co50, .agg #[.string ((Qav t120 x9_2).f0.f0), .string ((Qav t120 x9_2).f0.f1), .string ((Qav t120 x9_2).f1)]] rfl (by (try simp only [List.map_toArray, List.map_cons, List.map_nil]); first | done | rfl | (simp only [List.length_drop, List.length_take]; rfl)) ?_; (with_reducible refine (QaZ.calls k2 _ _ x6_1 ((Qav t120 x9_2).f0.f0) ((Qav t120 x9_2).f0.f1) ((Qav t120 x9_2).f1) false _ ?side1 ?side2 A58.out).mono ?_); (case side1 => repeat (first | exact (Kd.Qay HO_6.out).2.2 | (with_reducible refine Kd.QaQ ?_ _) | (with_reducible refine Kd.QaR ?_ _) | (with_reducible refine Kd.Qa7 ?_))); (case side2 => exact (Kd.Qay HO_6.out).2.1); rintro e w63 ⟨rfl, hb⟩; refine ⟨_, rfl, ?_⟩; have n0_ := Qad.mk (Kd.QaC (by (with_reducible repeat (first | apply Kd.Qam | apply Kd.Qan | apply Kd.Qao)); exact HO_6.out) hb); have n1_ := Qad.mk (Kd.QaC (by (with_reducible repeat (first | apply Kd.Qam | apply Kd.Qan | apply Kd.Qao)); exact HO_8.out) hb); have n2_ := Qad.mk (Qal (by repeat (first | (with_reducible first | exact HB.out | apply Qac | apply Qaa | apply Qab) | exact HB.out)) hb); clear HO_6; clear HO_8; clear HB; have HO_6 := n0_; have HO_8 := n1_; have HB := n2_; clear n0_ n1_ n2_; (try clear hb); (try clear hb2); (try clear hk); (try clear hi)))
          go_ret; exact ⟨by first | rfl | (simp [Qau, Qat] <;> rfl) | (simp [*, Qau, Qat] <;> rfl), by repeat (first | (with_reducible first | exact HB.out | apply Qac | apply Qaa | apply Qab) | exact HB.out)⟩
        ·rw [if_neg c57] at H; exact absurd H (by simp)
       ·rw [if_neg c56] at H; have c56b0 : decide (x9_2 < (t120.length : Int)) = false := decide_eq_false c56; clear c56; replace H := Option.bind_eq_some_iff.mp H; obtain ⟨t125, A640, H⟩ := H; replace H : (some t125) = some r := H; have A64 := Qad.mk A640; clear A640; obtain rfl := Option.some.inj H; obtain ⟨Ao65, co65, eo65⟩ := Kd.QaT HO_8.out; subst eo65
        go_wp2_with (first | ((with_reducible refine Qaz (f := 14) rfl ?_); refine Qbd (some 48) rfl rfl Tryd.func14 (by kernel_rfl) rfl #[] rfl (by (try simp only [List.map_toArray, List.map_cons, List.map_nil]); first | done | rfl | (simp only [List.length_drop, List.length_take]; rfl)) ?_; (with_reducible refine (QaH.calls k2  t125 _ A64.out).mono ?_); rintro e w66 ⟨rfl, hb⟩; refine ⟨_, rfl, ?_⟩; have n0_ := Qad.mk (Kd.QaC (by (with_reducible repeat (first | apply Kd.Qam | apply Kd.Qan | apply Kd.Qao)); exact HO_6.out) hb); have n1_ := Qad.mk (Kd.QaC (by (with_reducible repeat (first | apply Kd.Qam | apply Kd.Qan | apply Kd.Qao)); exact HO_8.out) hb); have n2_ := Qad.mk (Qal (by repeat (first | (with_reducible first | exact HB.out | apply Qac | apply Qaa | apply Qab) | exact HB.out)) hb); clear HO_6; clear HO_8; clear HB; have HO_6 := n0_; have HO_8 := n1_; have HB := n2_; clear n0_ n1_ n2_; (try clear hb); (try clear hb2); (try clear hk); (try clear hi)))
        go_ret; exact ⟨by first | rfl | (simp [Qau, Qat] <;> rfl) | (simp [*, Qau, Qat] <;> rfl), by repeat (first | (with_reducible first | exact HB.out | apply Qac | apply Qaa | apply Qab) | exact HB.out)⟩
    ·rw [if_neg c46] at H; have c46b0 : ((t114.length : Int) == (x6_1.length : Int)) = false := beq_eq_false_iff_ne.mpr c46; have c46b1 : ((t114.length : Int) != (x6_1.length : Int)) = true := bne_iff_ne.mpr c46
     have c46b2 : (t114.length == x6_1.length) = false := by first | simpa using c46 | (simp at c46 ⊢; omega)
     have H' := Qad.mk H; clear H; obtain ⟨Ao67, co67, eo67⟩ := Kd.QaT HO_5.out; subst eo67; obtain ⟨Ao68, co68, eo68⟩ := Kd.QaT HO_6.out; subst eo68
     go_wp2_with (first | ((with_reducible refine Qaz (f := 18) rfl ?_); refine Qbd (some 24) rfl rfl Tryd.func18 (by kernel_rfl) rfl #[.slice Ao67 t126.length co67, .slice Ao68 x6_1.length co68] rfl (by (try simp only [List.map_toArray, List.map_cons, List.map_nil]); first | done | rfl | (simp only [List.length_drop, List.length_take]; rfl)) ?_; (with_reducible refine (QaG.calls k1 _ _ t126 _ _ x6_1 t114 _ ?side1 ?side2 ?side3 ?side4 A45.out).mono ?_); (case side1 => repeat (first | exact (Kd.Qay HO_5.out).2.2 | (with_reducible refine Kd.QaQ ?_ _) | (with_reducible refine Kd.QaR ?_ _) | (with_reducible refine Kd.Qa7 ?_))); (case side2 => exact (Kd.Qay HO_5.out).2.1); (case side3 => repeat (first | exact (Kd.Qay HO_6.out).2.2 | (with_reducible refine Kd.QaQ ?_ _) | (with_reducible refine Kd.QaR ?_ _) | (with_reducible refine Kd.Qa7 ?_))); (case side4 => exact (Kd.Qay HO_6.out).2.1); rintro e w69 ⟨v115, rfl, ho0, hb⟩; refine ⟨_, rfl, ?_⟩; have n0_ := Qad.mk (Kd.V_elder' (by (with_reducible repeat (first | apply Kd.Qa9 | apply Kd.Qa8 | apply Kd.V_drew)); exact HO_0.out) (Kd.R_base ho0) hb); have n1_ := Qad.mk (Kd.QaC (by (with_reducible repeat (first | apply Kd.Qam | apply Kd.Qan | apply Kd.Qao)); exact HO_5.out) hb); have n2_ := Qad.mk (Kd.R_elder' (by (with_reducible repeat (first | apply Kd.Qam | apply Kd.Qan | apply Kd.Qao)); exact HO_6.out) (Kd.R_base ho0) hb); have n3_ := Qad.mk (Kd.R_lower (Kd.R_new' ho0 (Kd.R_lt (by (with_reducible repeat (first | apply Kd.Qam | apply Kd.Qan | apply Kd.Qao)); exact HO_6.out))) (Qap (by repeat (first | (with_reducible first | exact HB.out | apply Qac | apply Qaa | apply Qab) | exact HB.out)))); have n4_ := Qad.mk (Qal (by repeat (first | (with_reducible first | exact HB.out | apply Qac | apply Qaa | apply Qab) | exact HB.out)) hb); clear HO_0; clear HO_5; clear HO_6; clear HB; have HO_0 := n0_; have HO_5 := n1_; have HO_6 := n2_; have HO116 := n3_; have HB := n4_; clear n0_ n1_ n2_ n3_ n4_; (try clear hb); (try clear hb2); (try clear hk); (try clear hi); (try clear ho0); obtain ⟨Ao70, co70, eo70⟩ := Kd.QaT HO116.out; subst eo70))
     go_roundg k1
     case measure => have := HK1.out; omega
     case rel => exact ⟨(t114), H', ⟨by have := HK1.out; omega⟩, ⟨by (with_reducible repeat (first | apply Kd.Qa9 | apply Kd.Qa8 | apply Kd.V_drew)); exact Kd.V_mono HO_0.out (fun _ hk => ⟨hk.1.1, hk.2⟩)⟩, ⟨by (with_reducible repeat (first | apply Kd.Qam | apply Kd.Qan | apply Kd.Qao)); exact HO_5.out⟩, ⟨by (with_reducible repeat (first | apply Kd.Qam | apply Kd.Qan | apply Kd.Qao)); exact Kd.R_mono HO116.out (fun _ hk => trivial)⟩, ⟨by repeat (first | (with_reducible first | exact HB.out | apply Qac | apply Qaa | apply Qab) | exact HB.out)⟩⟩
end Go.Proofs.YtpjddgmdgfjlfaaDoor.Pr
end
section
namespace Go.Proofs.YtpjddgmdgfjlfaaDoor.Pr
open Go.RowKit Go.Proofs.YtpjddgmdgfjlfaaDoorW.PrintWords Go.Proofs.YtpjddgmdgfjlfaaDoorW.PrintLast Go.Proofs.YtpjddgmdgfjlfaaDoorW.PrintMore
attribute [local go_sem] QaY QaW Qbb Qba QaP QaO QaX QaV
set_option linter.unusedVariables false
set_option linter.unusedSimpArgs false

end Go.Proofs.YtpjddgmdgfjlfaaDoor.Pr
end
section
namespace Go.Proofs.YtpjddgmdgfjlfaaDoor.Pr
open Go.RowKit Go.Proofs.YtpjddgmdgfjlfaaDoorW.PrintWords Go.Proofs.YtpjddgmdgfjlfaaDoorW.PrintLast Go.Proofs.YtpjddgmdgfjlfaaDoorW.PrintMore
attribute [local go_sem] QaY QaW Qbb Qba QaP QaO QaX QaV
set_option linter.unusedVariables false
set_option linter.unusedSimpArgs false

end Go.Proofs.YtpjddgmdgfjlfaaDoor.Pr
end
section
namespace Go.Proofs.YtpjddgmdgfjlfaaDoor.Pr
open Go.RowKit Go.Proofs.YtpjddgmdgfjlfaaDoorW.PrintWords Go.Proofs.YtpjddgmdgfjlfaaDoorW.PrintLast Go.Proofs.YtpjddgmdgfjlfaaDoorW.PrintMore
theorem few_is (l : List Cred) : Qa5.f l = some (l.take 14) := by
  unfold Qa5.f
  by_cases h : (l.length : Int) > 14
  · rw [if_pos h, if_pos (by omega)]
  · rw [if_neg h, List.take_of_length_le (by omega)]
theorem rdPair (l : List Pair) (i : Nat) : rd_T47 l (i : Int) = l[i]! := by
  unfold rd_T47; rw [Int.toNat_natCast, List.getElem!_eq_getElem?_getD, List.getD_eq_getElem?_getD]; rfl
theorem told_l0 (A : List Pair) (hA : A.length < 1000000) : ∀ (n i : Nat) (out : List RPair), n + i = A.length → out.length ≤ i → Ev (fun k => Qas.l0 k A out (i : Int)) (out ++ (A.drop i).map toR)
  | 0, i, out, hn, ho => by
    rw [show A.drop i = [] from List.drop_eq_nil_of_le (by omega), List.map_nil, List.append_nil]; refine Ev.step (fun k => ?_) (Ev.pure _); rw [Qas.l0, if_neg (by omega)]
  | n + 1, i, out, hn, ho => by
    rw [drop_bang (by omega : i < A.length), List.map_cons]; have := told_l0 A hA n (i + 1) (out ++ [toR A[i]!]) (by omega) (by simp; omega); rw [List.append_assoc, List.singleton_append] at this; refine Ev.step (fun k => ?_) this; rw [Qas.l0, if_pos (by omega), if_pos (by omega), if_pos (by omega), wrap_succ (by omega), rdPair]; rfl
theorem told_ev (A : List Pair) (hA : A.length < 1000000) : Ev (fun k => Qas.f k A) (A.map toR) := by
  have := told_l0 A hA A.length 0 [] (by omega) (by simp); rw [List.drop_zero, List.nil_append] at this; exact this
def membersOf (A : List Pair) (r : Role) : List ByteArray := (A.filter fun p => decide (p.f0 = r)).map fun p => p.f1
theorem members_l0 (A : List Pair) (hA : A.length < 1000000) (r : Role) : ∀ (n i : Nat) (out : List ByteArray), n + i = A.length → out.length ≤ i → Ev (fun k => QaJ.l0 k out A (A.length : Int) (i : Int) r.f0 r.f1) (out ++ membersOf (A.drop i) r)
  | 0, i, out, hn, ho => by
    rw [show A.drop i = [] from List.drop_eq_nil_of_le (by omega)]; refine Ev.step (fun k => ?_) (Ev.pure _); rw [QaJ.l0, if_neg (by omega)]; simp [membersOf]
  | n + 1, i, out, hn, ho => by
    rw [drop_bang (by omega : i < A.length)]; unfold membersOf; rw [List.filter_cons]
    by_cases e : A[i]!.f0 = r
    · rw [decide_eq_true e, if_pos rfl, List.map_cons]
      have := members_l0 A hA r n (i + 1) (out ++ [A[i]!.f1]) (by omega) (by simp; omega); rw [List.append_assoc, List.singleton_append] at this; refine Ev.step (fun k => ?_) this; rw [QaJ.l0, if_pos (by omega), if_pos (by omega), if_pos (by omega), wrap_succ (by omega), rdPair, role_beq, decide_eq_true (p := A[i]!.f0 = ⟨r.f0, r.f1⟩) e, if_pos rfl, if_pos (by omega)]
    · rw [decide_eq_false e, if_neg (by decide)]
      refine Ev.step (fun k => ?_) (members_l0 A hA r n (i + 1) out (by omega) (by omega)); rw [QaJ.l0, if_pos (by omega), if_pos (by omega), if_pos (by omega), wrap_succ (by omega), rdPair, role_beq, decide_eq_false (p := A[i]!.f0 = ⟨r.f0, r.f1⟩) e, if_neg (by decide)]
theorem members_ev {l : List Cred} {A : List Pair} (h : Qa1.f l = some A) (hA : A.length < 1000000) (r : Role) : Ev (fun k => QaJ.f k l r.f0 r.f1) (membersOf A r) := by
  unfold QaJ.f; rw [h]; have := members_l0 A hA r A.length 0 [] (by omega) (by simp); rw [List.drop_zero, List.nil_append] at this; exact this
theorem pair_beq (p : Pair) (a b c : ByteArray) : ((a.toList == p.f0.f0.toList && (b.toList == p.f0.f1.toList)) && (c.toList == p.f1.toList)) = decide (p = ⟨⟨a, b⟩, c⟩) := by
  rw [beq_dec, beq_dec, beq_dec, Bool.eq_iff_iff, Bool.and_eq_true, Bool.and_eq_true, decide_eq_true_eq, decide_eq_true_eq, decide_eq_true_eq, decide_eq_true_eq]; exact ⟨fun h => pair_ext (role_ext h.1.1.symm h.1.2.symm) h.2.symm, fun h => by rw [h]; exact ⟨⟨rfl, rfl⟩, rfl⟩⟩
theorem index_l0 (A : List Pair) (hA : A.length < 1000000) (a b c : ByteArray) : ∀ (n i : Nat), n + i = A.length → ∃ v : Int, Ev (fun k => Qbc.l0 k A (A.length : Int) (i : Int) a b c) v ∧ (v ≥ 0 ↔ (⟨⟨a, b⟩, c⟩ : Pair) ∈ A.drop i)
  | 0, i, hn => by
    rw [show A.drop i = [] from List.drop_eq_nil_of_le (by omega)]; refine ⟨-1, Ev.step (fun k => ?_) (Ev.pure _), by simp⟩; rw [Qbc.l0, if_neg (by omega)]
  | n + 1, i, hn => by
    rw [drop_bang (by omega : i < A.length)]
    by_cases e : A[i]! = ⟨⟨a, b⟩, c⟩
    · refine ⟨(i : Int), Ev.step (fun k => ?_) (Ev.pure _), ⟨fun _ => by rw [e]; exact List.mem_cons_self .., fun _ => by omega⟩⟩
      rw [Qbc.l0, if_pos (by omega), if_pos (by omega), if_pos (by omega), rdPair, pair_beq, decide_eq_true e, if_pos rfl]
    · obtain ⟨v, h1, h2⟩ := index_l0 A hA a b c n (i + 1) (by omega)
      refine ⟨v, Ev.step (fun k => ?_) h1, h2.trans ⟨fun h => List.mem_cons_of_mem _ h, fun h => (List.mem_cons.mp h).resolve_left (fun h => e h.symm)⟩⟩; rw [Qbc.l0, if_pos (by omega), if_pos (by omega), if_pos (by omega), wrap_succ (by omega), rdPair, pair_beq, decide_eq_false e, if_neg (by decide)]
theorem has_ev {l : List Cred} {A : List Pair} (h : Qa1.f l = some A) (hA : A.length < 1000000) (who : ByteArray) (r : Role) : Ev (fun k => solve_Has.f k l who r.f0 r.f1) (decide ((⟨r, who⟩ : Pair) ∈ A)) := by
  unfold solve_Has.f solve_Pair_25.f; rw [h]; obtain ⟨v, h1, h2⟩ := index_l0 A hA r.f0 r.f1 who A.length 0 (by omega); rw [List.drop_zero] at h2; refine Ev.bind (a := decide ((⟨r, who⟩ : Pair) ∈ A)) (Ev.bind h1 ?_) (Ev.pure _)
  have e : decide (v ≥ 0) = decide ((⟨r, who⟩ : Pair) ∈ A) := by
    rw [Bool.eq_iff_iff, decide_eq_true_eq, decide_eq_true_eq]; exact h2
  rw [e]; exact Ev.pure _
def ex1 : Cred := ⟨⟨1, 1⟩, ⟨#[97]⟩, 3, ⟨#[]⟩, ⟨⟨#[]⟩, ⟨#[98]⟩⟩, ⟨⟨#[]⟩, ⟨#[99]⟩⟩⟩
def ex2 : Cred := ⟨⟨1, 2⟩, ⟨#[98]⟩, 1, ⟨#[100, 50]⟩, ⟨⟨#[]⟩, ⟨#[]⟩⟩, ⟨⟨#[]⟩, ⟨#[]⟩⟩⟩
def ex3 : Cred := ⟨⟨2, 1⟩, ⟨#[99]⟩, 1, ⟨#[98, 111, 98]⟩, ⟨⟨#[]⟩, ⟨#[]⟩⟩, ⟨⟨#[]⟩, ⟨#[]⟩⟩⟩
def exP1 : Pair := ⟨⟨⟨#[100, 49]⟩, ⟨#[97]⟩⟩, ⟨#[98, 111, 98]⟩⟩
def exP2 : Pair := ⟨⟨⟨#[100, 49]⟩, ⟨#[98]⟩⟩, ⟨#[100, 50]⟩⟩
def exP3 : Pair := ⟨⟨⟨#[100, 50]⟩, ⟨#[99]⟩⟩, ⟨#[98, 111, 98]⟩⟩
theorem noText_dec (s : ByteArray) : noText s = decide (s = ⟨#[]⟩) := by
  unfold noText; rw [Bool.eq_iff_iff, beq_iff_eq, empty_iff, decide_eq_true_eq]
theorem ex1_may : credMay ex1 = true := by
  unfold credMay roleOk bareOk noRole; simp only [noText_dec]
  decide
theorem ex2_may : credMay ex2 = true := by
  unfold credMay roleOk bareOk noRole; simp only [noText_dec]
  decide
theorem ex3_may : credMay ex3 = true := by
  unfold credMay roleOk bareOk noRole; simp only [noText_dec]
  decide
def exs : List Cred := [ex1, ex2, ex3]
theorem exs_counts (c : Cred) : c ∈ counts exs ↔ c = ex1 ∨ c = ex2 ∨ c = ex3 := by
  rw [(counts_spec exs).mem]; constructor
  · intro h
    have := h.mem
    simpa [exs] using this
  · rintro (rfl | rfl | rfl)
    · unfold First exs
      rw [List.find?_cons, ex1_may, show sameID ex1 ex1 = true by decide]; rfl
    · unfold First exs
      rw [List.find?_cons, show sameID ex1 ex2 = false by decide, Bool.and_false, List.find?_cons, ex2_may, show sameID ex2 ex2 = true by decide]; rfl
    · unfold First exs
      rw [List.find?_cons, show sameID ex1 ex3 = false by decide, Bool.and_false, List.find?_cons, show sameID ex2 ex3 = false by decide, Bool.and_false, List.find?_cons, ex3_may, show sameID ex3 ex3 = true by decide]; rfl
theorem exs_all : AllOf (counts exs) [exP1, exP2, exP3] where
  sorted := by
    have h12 : pairLess exP1 exP2 = true := by
      unfold pairLess roleLess; simp only [ByteArray.toList_eq]
      decide
    have h13 : pairLess exP1 exP3 = true := by
      unfold pairLess roleLess; simp only [ByteArray.toList_eq]
      decide
    have h23 : pairLess exP2 exP3 = true := by
      unfold pairLess roleLess; simp only [ByteArray.toList_eq]
      decide
    simp [h12, h13, h23]
  mem p := by
    have m1 : ex1 ∈ counts exs := (exs_counts _).mpr (.inl rfl); have m2 : ex2 ∈ counts exs := (exs_counts _).mpr (.inr (.inl rfl)); have m3 : ex3 ∈ counts exs := (exs_counts _).mpr (.inr (.inr rfl)); have s2 : Said (counts exs) exP2 := Said.member m2 rfl; have s3 : Said (counts exs) exP3 := Said.member m3 rfl; have s1 : Said (counts exs) exP1 := Said.link (c := ex1) (u := ⟨#[100, 50]⟩) m1 rfl s2 (by decide) s3; constructor
    · intro h
      simp only [List.mem_cons, List.not_mem_nil, or_false] at h
      rcases h with rfl | rfl | rfl
      · exact s1
      · exact s2
      · exact s3
    · intro h
      induction h with
      | @member c hc k =>
        rcases (exs_counts c).mp hc with rfl | rfl | rfl
        · exact absurd k (by decide)
        · exact .tail _ (.head _)
        · exact .tail _ (.tail _ (.head _))
      | @incl c u hc k _ ih =>
        rcases (exs_counts c).mp hc with rfl | rfl | rfl
        · exact absurd k (by decide)
        · exact absurd k (by decide)
        · exact absurd k (by decide)
      | @link c u v hc k _ n _ ih1 ih2 =>
        rcases (exs_counts c).mp hc with rfl | rfl | rfl
        · have hu : u = ⟨#[100, 50]⟩ := by
            simp only [List.mem_cons, List.not_mem_nil, or_false] at ih1
            rcases ih1 with e | e | e
            · exact absurd (congrArg S47.f0 e) (show ¬ linkFirst ex1 = exP1.f0 by decide)
            · exact congrArg S47.f1 e
            · exact absurd (congrArg S47.f0 e) (show ¬ linkFirst ex1 = exP3.f0 by decide)
          have hv : v = ⟨#[98, 111, 98]⟩ := by
            rw [hu] at ih2; simp only [List.mem_cons, List.not_mem_nil, or_false] at ih2
            rcases ih2 with e | e | e
            · exact absurd (congrArg S47.f0 e) (show ¬ (⟨⟨#[100, 50]⟩, ex1.f5.f1⟩ : Role) = exP1.f0 by decide)
            · exact absurd (congrArg S47.f0 e) (show ¬ (⟨⟨#[100, 50]⟩, ex1.f5.f1⟩ : Role) = exP2.f0 by decide)
            · exact congrArg S47.f1 e
          rw [hv]; exact .head _
        · exact absurd k (by decide)
        · exact absurd k (by decide)
      | @both c u hc k _ _ ih1 ih2 =>
        rcases (exs_counts c).mp hc with rfl | rfl | rfl
        · exact absurd k (by decide)
        · exact absurd k (by decide)
        · exact absurd k (by decide)
theorem exs_ok : ∀ c ∈ exs, okCred c := by
  intro c hc
  have : c = ex1 ∨ c = ex2 ∨ c = ex3 := by simpa [exs] using hc
  rcases this with rfl | rfl | rfl <;> exact ⟨by decide, by decide, ⟨by decide, by decide⟩, by decide, by decide⟩
theorem exs_is : Qa1.f exs = some [exP1, exP2, exP3] := by
  obtain ⟨A, h1, h2⟩ := all_is exs (by decide) exs_ok; rw [h1, h2.unique exs_all]
theorem lives_ev : Ev (fun k => QaH.f k) true := by
  unfold QaH.f
  show Ev (fun k => (QaJ.f k exs ⟨#[100, 49]⟩ ⟨#[97]⟩).bind _) true
  refine Ev.bind (members_ev exs_is (by decide) ⟨⟨#[100, 49]⟩, ⟨#[97]⟩⟩) ?_; rw [show membersOf [exP1, exP2, exP3] ⟨⟨#[100, 49]⟩, ⟨#[97]⟩⟩ = [⟨#[98, 111, 98]⟩] by decide]
  have e1 : (rdOf ByteArray.empty [(⟨#[98, 111, 98]⟩ : ByteArray)] 0).toList = [98, 111, 98] := by
    rw [ByteArray.toList_eq]; rfl
  simp only [e1, List.length_cons, List.length_nil]; refine Ev.bind (a := true) ?_ ?_
  · have := has_ev exs_is (by decide) ⟨#[98, 111, 98]⟩ ⟨⟨#[100, 50]⟩, ⟨#[99]⟩⟩
    rw [show decide ((⟨⟨⟨#[100, 50]⟩, ⟨#[99]⟩⟩, ⟨#[98, 111, 98]⟩⟩ : Pair) ∈ [exP1, exP2, exP3]) = true by decide] at this; exact this
  · simp only [if_true]
    refine Ev.bind (a := false) ?_ ?_
    · have := has_ev exs_is (by decide) ⟨#[97, 110, 110]⟩ ⟨⟨#[100, 50]⟩, ⟨#[99]⟩⟩
      rw [show decide ((⟨⟨⟨#[100, 50]⟩, ⟨#[99]⟩⟩, ⟨#[97, 110, 110]⟩⟩ : Pair) ∈ [exP1, exP2, exP3]) = false by decide] at this; exact this
    · show Ev (fun _ => (Qa1.f exs).bind _) true
      rw [exs_is]; exact Ev.pure _
theorem take_len (l : List Cred) : (l.take 14).length ≤ 14 := by simp; omega
theorem take_ok {l : List Cred} (h : ∀ c ∈ l, okCred c) : ∀ c ∈ l.take 14, okCred c := fun c hc => h c (List.mem_of_mem_take hc)
end Go.Proofs.YtpjddgmdgfjlfaaDoor.Pr
end
section
namespace Go.Proofs.YtpjddgmdgfjlfaaDoor.Pr
open Go.RowKit Go.Proofs.YtpjddgmdgfjlfaaDoorW.PrintWords Go.Proofs.YtpjddgmdgfjlfaaDoorW.PrintLast Go.Proofs.YtpjddgmdgfjlfaaDoorW.PrintMore
theorem least_l1 (X Y : List RPair) (hX : X.length < 1000000) (hY : Y.length < 1000000) (h : ∀ x ∈ X, x ∈ Y) : ∀ (n i : Nat), n + i = X.length → Ev (fun k => Qar.l1 k Y X (i : Int)) true
  | 0, i, hn => by
    refine Ev.step (fun k => by rw [Qar.l1, if_neg (by omega)]) ?_; exact Ev.bind lives_ev (Ev.pure _)
  | n + 1, i, hn => by
    have hi : i < X.length := by omega
    have hm : X[i]! ∈ Y := h _ (by rw [getBang hi]; exact List.getElem_mem hi); have hin := in_ev Y (by omega) X[i]!.f0.f0 X[i]!.f0.f1 X[i]!.f1; rw [decide_eq_true (p := (⟨⟨X[i]!.f0.f0, X[i]!.f0.f1⟩, X[i]!.f1⟩ : RPair) ∈ Y) hm] at hin; refine Ev.step (g := fun k => (QaZ.f k Y X[i]!.f0.f0 X[i]!.f0.f1 X[i]!.f1).bind fun t => if t = true then Qar.l1 k Y X ((i + 1 : Nat) : Int) else some false) (fun k => ?_) (Ev.bind hin ?_)
    · rw [Qar.l1, if_pos (by omega), if_pos (by omega), rdR, wrap_succ (by omega)]
    · simp only [if_true]
      exact least_l1 X Y hX hY h n (i + 1) (by omega)
def within (cs : List Cred) (base : List RPair) (x : RPair) : Prop := (∃ c ∈ cs, x.f0 = credRole c) ∧ x.f1 ∈ cs.map (fun c => c.f3) ++ base.map (fun p => p.f1)
theorem within_length {cs : List Cred} {base e : List RPair} (hn : e.Nodup) (h : ∀ x ∈ e, within cs base x) : e.length ≤ cs.length * (cs.length + base.length) := by
  have := nodup_le (m := cs.flatMap fun c => (cs.map (fun c => c.f3) ++ base.map (fun p => p.f1)).map fun u => (⟨credRole c, u⟩ : RPair)) hn (fun p hp => by
    obtain ⟨⟨c, hc, e⟩, hu⟩ := h p hp
    exact List.mem_flatMap.mpr ⟨c, hc, List.mem_map.mpr ⟨p.f1, hu, rpair_ext e.symm rfl⟩⟩)
  exact Nat.le_trans this (Nat.le_of_eq (flatMap_len _ (cs.length + base.length) (fun c => by simp) cs))
theorem least_l0 (l : List Cred) (hok : ∀ c ∈ l, okCred c) (hl : l.length ≤ 14) (base : List RPair) (hb : base.length ≤ 20) : ∀ (n : Nat) (e : List RPair), e.Nodup → (∀ x ∈ e, within (counts l) base x) → (∀ x ∈ e, x ∉ base) → 500 - e.length ≤ n → 1 ≤ n → Ev (fun k => Qar.l0 k l (counts l) (base ++ e)) true
  | 0, e, _, _, _, _, h1 => by omega
  | n + 1, e, hn, hw, hd, hm, _ => by
    have hc := counts_length l
    have bound : ∀ e' : List RPair, e'.Nodup → (∀ x ∈ e', within (counts l) base x) → e'.length ≤ 476 := fun e' h1 h2 => by
      have h3 := within_length h1 h2; have : (counts l).length * ((counts l).length + base.length) ≤ 14 * 34 := Nat.mul_le_mul (by omega) (by omega); omega
    have he := bound e hn hw
    have hlen : (base ++ e).length ≤ 1000 := by rw [List.length_append]; omega
    have hr := round_ev (counts l) (by omega) (base ++ e) hlen; obtain ⟨ex, h0, h1, h2, h3⟩ := round_ext (base ++ e) (counts l) (base ++ e)
    have h0' : roundL (counts l) (base ++ e) = base ++ (e ++ ex) := by rw [← List.append_assoc]; exact h0
    have hwx : ∀ x ∈ ex, within (counts l) base x := fun x hx => by
      have : x ∈ base ++ e ∨ ∃ c ∈ counts l, x ∈ bringsL c (base ++ e) := (h3 x).mp (by rw [h0]; exact List.mem_append_right _ hx)
      rcases this with h | ⟨c, hcm, hxc⟩
      · exact absurd h (h2 x hx)
      · rw [bringsL_mem] at hxc
        have who : ∀ r : Role, (⟨r, x.f1⟩ : RPair) ∈ base ++ e → x.f1 ∈ (counts l).map (fun c => c.f3) ++ base.map (fun p => p.f1) := fun r hr => by
          rcases List.mem_append.mp hr with h | h
          · exact List.mem_append_right _ (List.mem_map.mpr ⟨_, h, rfl⟩)
          · exact (hw _ h).2
        refine ⟨⟨c, hcm, hxc.1⟩, ?_⟩
        rcases hxc.2 with h | h | h | h
        · exact List.mem_append_left _ (List.mem_map.mpr ⟨c, hcm, h.2.symm⟩)
        · exact who _ h.2
        · obtain ⟨_, u, _, _, h⟩ := h
          exact who _ h
        · exact who _ h.2.1
    have hn2 : (e ++ ex).Nodup := by
      rw [List.nodup_append]; exact ⟨hn, h1, fun a ha b hb e' => h2 b hb (List.mem_append_right _ (e' ▸ ha))⟩
    have hw2 : ∀ x ∈ e ++ ex, within (counts l) base x := fun x hx => (List.mem_append.mp hx).elim (hw x) (hwx x)
    have hd2 : ∀ x ∈ e ++ ex, x ∉ base := fun x hx => (List.mem_append.mp hx).elim (hd x) (fun h hb => h2 x h (List.mem_append_left _ hb))
    have hb2 := bound _ hn2 hw2
    have step : ∀ k, Qar.l0 (k + 1) l (counts l) (base ++ e) = (QaG.f k (counts l) (base ++ e)).bind fun t => if (t.length : Int) = ((base ++ e).length : Int) then ((Qa1.f l).bind fun t117 => ((Qas.f k t117).bind fun t120 => Qar.l1 k (base ++ e) t120 0)) else Qar.l0 k l (counts l) t := fun k => by rw [Qar.l0]
    refine Ev.step step (Ev.bind hr ?_)
    by_cases c : (roundL (counts l) (base ++ e)).length = (base ++ e).length
    · obtain ⟨A, h4, h5⟩ := all_is l (by omega) hok
      have hA := h5.length (by omega); simp only [if_pos (show ((roundL (counts l) (base ++ e)).length : Int) = ((base ++ e).length : Int) by omega), h4, Option.bind_some]; refine Ev.bind (told_ev A (by omega)) ?_; refine least_l1 _ _ (by rw [List.length_map]; omega) (by omega) (fun x hx => ?_) (A.map toR).length 0 (by omega); obtain ⟨p, hp, rfl⟩ := List.mem_map.mp hx; exact closed_said (round_fix c).2 ((h5.mem p).mp hp)
    · have hex : ex.length ≠ 0 := fun h => by
        have : ex = [] := List.eq_nil_of_length_eq_zero h; rw [h0', this, List.append_nil] at c; exact c rfl
      have hl2 : (e ++ ex).length = e.length + ex.length := List.length_append; simp only [if_neg (show ¬ ((roundL (counts l) (base ++ e)).length : Int) = ((base ++ e).length : Int) by omega)]; rw [h0']; exact least_l0 l hok hl base hb n (e ++ ex) hn2 hw2 hd2 (by omega) (by omega)
theorem solveLeast_true (l : List Cred) (ps : List Pair) (hok : ∀ c ∈ l, okCred c) (_ : ∀ p ∈ ps, okPair p) : Ev (fun k => Qar.f k l ps) true := by
  have hlen := take_len l
  have core : ∀ qs : List Pair, qs.length ≤ 20 → Ev (fun k => (Qax.f k (l.take 14)).bind fun t108 => (Qas.f k qs).bind fun t111 => Qar.l0 k (l.take 14) t108 t111) true := fun qs hq => by
    refine Ev.bind (refCounts_is _ (by omega)) (Ev.bind (told_ev qs (by omega)) ?_); have := least_l0 (l.take 14) (take_ok hok) hlen (qs.map toR) (by rw [List.length_map]; exact hq) 501 [] List.nodup_nil (fun x hx => by cases hx) (fun x hx => by cases hx) (by simp) (by omega); rw [List.append_nil] at this; exact this
  unfold Qar.f; rw [few_is]
  by_cases c : (ps.length : Int) > 20
  · simp only [Option.bind_some, if_pos c, if_pos (show 20 ≤ (ps.length : Int) by omega)]
    exact core _ (List.length_take_le _ _)
  · simp only [Option.bind_some, if_neg c]
    exact core _ (by omega)
end Go.Proofs.YtpjddgmdgfjlfaaDoor.Pr
end
