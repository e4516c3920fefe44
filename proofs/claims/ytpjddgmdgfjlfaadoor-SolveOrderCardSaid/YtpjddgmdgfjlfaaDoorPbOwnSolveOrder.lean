/- The law's own part of the proof. No conditions. -/
import Derived.OrdersHeld
import Derived.Deep.RegionHeld3
import Derived.Laws.BitsLemmas
import Derived.RowKit
import Derived.Shelf.SlSortCmp.NoneTotal
import Derived.WalkKit
import Derived.WalkSpells
import Derived.Lib.Hide
import Derived.DeepKeys4
import Derived.KernelRfl
import Derived.WalkLawsBesides
import Derived.Deep.QuietTactic
import Derived.Deep.RegionWith
import Derived.BigQuiet
import Derived.RegionTactic
import Derived.ChangeAlike
import Derived.Deep.RegionLaw
import Derived.Lib.SmallJoins
import Derived.Lib.SlicesS
import Derived.Laws.StructEq
import Derived.Shelf.SlicesE.Clone
import Derived.Test.YtpjddgmdgfjlfaaDoorProg
import Derived.Below
import Derived.Deep.Draws
import Derived.Deep.AppendLies
import Derived.Maps.AppendAt
import Derived.OwnWalk
import Derived.Laws.BytesArg
import Derived.Laws.MakeOwn
import Derived.Laws.OwnMore
import Derived.Tactics
import Derived.Lib.ConvBytes
import Derived.Laws.Slices
import Derived.RowKit3
import Derived.Deep.LoopGhost
import Derived.WideLaws
import Derived.Deep.DeepCutAuto
import Derived.Deep.CutBlock
import Derived.Lib.AppendStr
import Derived.ArgAppend
import Derived.Laws.IdiomCopy
import Derived.ProofKit
import Derived.ChangeSlices
import Derived.DataElems
import Derived.Shelf.SlicesG.Cmp
import Derived.StillTailTactics
import Derived.Sort.Grow
import Derived.Outline
import Derived.Laws.RangeAny
import Derived.Laws.Closers25
import Derived.Sort.LotA
import Derived.OpenShut
import Derived.ShutString
import Derived.ChangeOld
import Derived.SizedLaws
import Derived.LaidMore
import Derived.Stop.Joined
import Derived.SevenTiedAt
import Derived.Carry
import Derived.Laws.Strings
import Derived.Shelf.SlSortCmp.WholeK
import Derived.Ground.SlsfProg
import Derived.Ground.SlgnProg
import Derived.Shelf.GgSortFunc.InsertionK
import Derived.Maps.OwnSet
import Derived.Maps.RangeRun
import Derived.Maps.Range
import Derived.Sort.Walk0
import Derived.Ground.SlgcProg
import Derived.Test.YtpjddgmdgfjlfaaDoorPb0
import Derived.Test.YtpjddgmdgfjlfaaDoorPb1
import Derived.Test.YtpjddgmdgfjlfaaDoorPb2
import Derived.Test.YtpjddgmdgfjlfaaDoorPb3
import Derived.Test.YtpjddgmdgfjlfaaDoorPb4
import Derived.Test.YtpjddgmdgfjlfaaDoorPb5
import Derived.Test.YtpjddgmdgfjlfaaDoorPb6
import Derived.Test.YtpjddgmdgfjlfaaDoorPb7
import Derived.Test.YtpjddgmdgfjlfaaDoorPb8
import Derived.Test.YtpjddgmdgfjlfaaDoorPb9
import Derived.Test.YtpjddgmdgfjlfaaDoorPb10
import Derived.Test.YtpjddgmdgfjlfaaDoorPb11
import Derived.Test.YtpjddgmdgfjlfaaDoorPb12
import Derived.Test.YtpjddgmdgfjlfaaDoorPb13
import Derived.Test.YtpjddgmdgfjlfaaDoorPb14
section
namespace Go.Proofs.YtpjddgmdgfjlfaaDoor.Pr
open Go.RowKit Go.Proofs.YtpjddgmdgfjlfaaDoorW.PrintWords Go.Proofs.YtpjddgmdgfjlfaaDoorW.PrintLast Go.Proofs.YtpjddgmdgfjlfaaDoorW.PrintMore
attribute [local go_sem] QaY QaW Qbb Qba QaP QaO QaX QaV
set_option linter.unusedVariables false
set_option linter.unusedSimpArgs false

end Go.Proofs.YtpjddgmdgfjlfaaDoor.Pr
end
section
namespace Go.Proofs.YtpjddgmdgfjlfaaDoor.Pr
open Go.RowKit Go.Proofs.YtpjddgmdgfjlfaaDoorW.PrintWords Go.Proofs.YtpjddgmdgfjlfaaDoorW.PrintLast Go.Proofs.YtpjddgmdgfjlfaaDoorW.PrintMore
attribute [local go_sem] QaY QaW Qbb Qba QaP QaO QaX QaV
set_option linter.unusedVariables false
set_option linter.unusedSimpArgs false
attribute [local go_sem high] eqA33

end Go.Proofs.YtpjddgmdgfjlfaaDoor.Pr
end
section
namespace Go.Proofs.YtpjddgmdgfjlfaaDoor.Pr
open Go.RowKit Go.Proofs.YtpjddgmdgfjlfaaDoorW.PrintWords Go.Proofs.YtpjddgmdgfjlfaaDoorW.PrintLast Go.Proofs.YtpjddgmdgfjlfaaDoorW.PrintMore
attribute [local go_sem] QaY QaW Qbb Qba QaP QaO QaX QaV
set_option linter.unusedVariables false
set_option linter.unusedSimpArgs false

end Go.Proofs.YtpjddgmdgfjlfaaDoor.Pr
end
section
namespace Go.Proofs.YtpjddgmdgfjlfaaDoor.Pr
open Go.RowKit Go.Proofs.YtpjddgmdgfjlfaaDoorW.PrintWords Go.Proofs.YtpjddgmdgfjlfaaDoorW.PrintLast Go.Proofs.YtpjddgmdgfjlfaaDoorW.PrintMore
attribute [local go_sem] QaY QaW Qbb Qba QaP QaO QaX QaV
set_option linter.unusedVariables false
set_option linter.unusedSimpArgs false
end Go.Proofs.YtpjddgmdgfjlfaaDoor.Pr
end
section
namespace Go.Proofs.YtpjddgmdgfjlfaaDoor.Pr
open Go.RowKit Go.Proofs.YtpjddgmdgfjlfaaDoorW.PrintWords Go.Proofs.YtpjddgmdgfjlfaaDoorW.PrintLast Go.Proofs.YtpjddgmdgfjlfaaDoorW.PrintMore
attribute [local go_sem] QaY QaW Qbb Qba QaP QaO QaX QaV
set_option linter.unusedVariables false
set_option linter.unusedSimpArgs false

end Go.Proofs.YtpjddgmdgfjlfaaDoor.Pr
end
section
namespace Go.Proofs.YtpjddgmdgfjlfaaDoor.Pr
open Go.RowKit Go.Proofs.YtpjddgmdgfjlfaaDoorW.PrintWords Go.Proofs.YtpjddgmdgfjlfaaDoorW.PrintLast Go.Proofs.YtpjddgmdgfjlfaaDoorW.PrintMore
attribute [local go_sem] QaY QaW Qbb Qba QaP QaO QaX QaV
set_option linter.unusedVariables false
set_option linter.unusedSimpArgs false
def Qa4.l0 : Nat → List (S46) → List (S46) → List (S46) → List (S46) → Int → Option (Bool)
 | 0, _, _, _, _, _ => none
 | k + 1, x0, x3, x4, x5, x6 => if x6 < (x4.length : Int) then (if 0 ≤ (wrap64 ((wrap64 ((x4.length : Int) - 1)) - x6)) then (if (wrap64 ((wrap64 ((x4.length : Int) - 1)) - x6)) < (x4.length : Int) then (if x5.length < 1172812402961 then (Qa4.l0 k x0 x3 x4 (x5 ++ [(⟨(⟨(Qae x4 (wrap64 ((wrap64 ((x4.length : Int) - 1)) - x6))).f0.f0, (Qae x4 (wrap64 ((wrap64 ((x4.length : Int) - 1)) - x6))).f0.f1⟩ : S44), (Qae x4 (wrap64 ((wrap64 ((x4.length : Int) - 1)) - x6))).f1, (Qae x4 (wrap64 ((wrap64 ((x4.length : Int) - 1)) - x6))).f2, (Qae x4 (wrap64 ((wrap64 ((x4.length : Int) - 1)) - x6))).f3, (⟨(Qae x4 (wrap64 ((wrap64 ((x4.length : Int) - 1)) - x6))).f4.f0, (Qae x4 (wrap64 ((wrap64 ((x4.length : Int) - 1)) - x6))).f4.f1⟩ : S33), (⟨(Qae x4 (wrap64 ((wrap64 ((x4.length : Int) - 1)) - x6))).f5.f0, (Qae x4 (wrap64 ((wrap64 ((x4.length : Int) - 1)) - x6))).f5.f1⟩ : S33)⟩ : S46)]) (wrap64 (x6 + 1))) else (none)) else (none)) else (none)) else ((Qa1.f x0).bind fun t114 => ((Qas.f k t114).bind fun t117 => ((Qa1.f x5).bind fun t120 => ((Qas.f k t120).bind fun t123 => ((QaS.f k t117 t123).bind fun t126 => ((Qbf.f k x3 x0).bind fun t127 => (if t126 = true then (if t127 = true then ((QaH.f k).bind fun t128 => (some t128)) else (some false)) else (some false))))))))
def Qa4.f (k : Nat) (l0 : List (S46)) : Option (Bool) := (Qa5.f l0).bind fun t101 => (if ([] : List (S46)).length + t101.length < 1172812402961 then ((Qax.f k t101).bind fun t107 => (Qa4.l0 k t101 (([] : List (S46)) ++ t101) t107 ([] : List (S46)) 0)) else (none))
set_option maxHeartbeats 8000000 in
set_option maxRecDepth 100000 in
theorem Qa4.calls (k : Nat) (A0 : Option Addr) (c0 : Nat) (l0 : List (S46)) (r : Bool) (w : World) (hr0 : Kd.C k46 w A0 l0.length l0) (hc0 : l0.length ≤ c0) (h : Qa4.f k l0 = some r) :
  Calls Tryd.prog 8 #[.slice A0 l0.length c0] w fun e w' => e = .returned (.bool r) ∧ Below w.heap.size w w' := by
 have hu46 := Tryd.underlying46; have HR0 := Qad.mk hr0; have HC0 := Qad.mk hc0; clear hr0 hc0; have HB := Qad.mk (Below.refl w.heap.size w); have H : ((Qa5.f l0).bind fun t101 => (if ([] : List (S46)).length + t101.length < 1172812402961 then ((Qax.f k t101).bind fun t107 => (Qa4.l0 k t101 (([] : List (S46)) ++ t101) t107 ([] : List (S46)) 0)) else (none))) = some r := h; clear h; replace H := Option.bind_eq_some_iff.mp H; obtain ⟨t101, A20, H⟩ := H; replace H : (if ([] : List (S46)).length + t101.length < 1172812402961 then ((Qax.f k t101).bind fun t107 => (Qa4.l0 k t101 (([] : List (S46)) ++ t101) t107 ([] : List (S46)) 0)) else (none)) = some r := H; have A2 := Qad.mk A20; clear A20
 by_cases c3 : ([] : List (S46)).length + t101.length < 1172812402961
 ·rw [if_pos c3] at H; have LMc3 := Qad.mk c3; clear c3
  obtain ⟨y104, hy104⟩ : ∃ y_ : List (S46), y_ = (([] : List (S46)) ++ t101) := ⟨_, rfl⟩
  replace H : ((Qax.f k t101).bind fun t107 => (Qa4.l0 k t101 y104 t107 ([] : List (S46)) 0)) = some r := by first | (rw [hy104]; with_reducible exact H) | (have H2_ := (Option.bind_some _ _).symm.trans H; rw [hy104]; with_reducible exact H2_) | (have H2_ := (Option.bind_some _ _).symm.trans H; with_reducible exact H2_) | with_reducible exact H | (rw [hy104]; exact H) | exact H
  have Ny104 := Qad.mk hy104; clear hy104; replace H := Option.bind_eq_some_iff.mp H; obtain ⟨t107, A40, H⟩ := H; replace H : (Qa4.l0 k t101 y104 t107 ([] : List (S46)) 0) = some r := H; have A4 := Qad.mk A40; clear A40; have H' := Qad.mk H; clear H; go_enter Tryd.func8, Tryd.ntmps8
  go_wp2_with (first | ((with_reducible refine Qaz (f := 9) rfl ?_); refine Qbd (some 10) rfl rfl Tryd.func9 (by kernel_rfl) rfl #[.slice A0 l0.length c0] rfl (by (try simp only [List.map_toArray, List.map_cons, List.map_nil]); first | done | rfl | (simp only [List.length_drop, List.length_take]; rfl)) ?_; (with_reducible refine (Qa5.calls (fun k_ => k_ < w.heap.size) _ _ l0 t101 _ ?side1 A2.out).mono ?_); (case side1 => exact Kd.V_mk HC0.out (Kd.F_below (Kd.C_F k46_heap HR0.out) (by repeat (first | (with_reducible first | exact HB.out | apply Qac | apply Qaa | apply Qab) | exact HB.out)))); rintro e w5 ⟨v102, rfl, ho0, hb⟩; refine ⟨_, rfl, ?_⟩; have n0_ := Qad.mk (Kd.V_lower (Kd.V_mono (ok' := fun k_ => True) ho0 (fun k_ hk_ => trivial)) (Qap (by repeat (first | (with_reducible first | exact HB.out | apply Qac | apply Qaa | apply Qab) | exact HB.out)))); have n1_ := Qad.mk (Qal (by repeat (first | (with_reducible first | exact HB.out | apply Qac | apply Qaa | apply Qab) | exact HB.out)) hb); clear HB; have HO103 := n0_; have HB := n1_; clear n0_ n1_; (try clear hb); (try clear hb2); (try clear hk); (try clear hi); (try clear ho0); obtain ⟨Ao7, co7, eo7⟩ := Kd.V_slice HO103.out; subst eo7) | ((with_reducible refine gate_builtin (b := .append) (xs := #[.tmp 11, .tmp 12]) rfl ?_); at_builtin; refine Kd.R_append_rows k46 (w0 := w) w.heap.size rfl (.tmp 11) (.tmp 12) 22 46 (.agg #[(.int .i64 0), (.int .i64 0), (.string ⟨#[]⟩), (.int .i64 0), (.string ⟨#[]⟩), (.string ⟨#[]⟩), (.string ⟨#[]⟩), (.string ⟨#[]⟩), (.string ⟨#[]⟩)]) 120 rfl Tryd.underlying22 info46 rfl (by decide) (by omega) (.slice none 0 0) ([] : List (S46)) t101 _ _ _ (fun _ => True) (fun _ => False) rfl rfl ?aO ?aR (fun _ _ h => h) (fun _ h => h.elim) ?aF ?aB ?aS ?aL ?_; (case aR => repeat (first | exact (Kd.Qa3 HO103.out).2.2 | (with_reducible refine Kd.QaQ ?_ _) | (with_reducible refine Kd.QaR ?_ _) | (with_reducible refine Kd.Qa7 ?_))); (case aB => exact (by repeat (first | (with_reducible first | exact HB.out | apply Qac | apply Qaa | apply Qab) | exact HB.out))); (case aF => exact (fun _ _ => trivial)); (case aO => exact ((Kd.R_nil _ _ _ _ (fun _ => True)))); (case aS => exact (Qap (by repeat (first | (with_reducible first | exact HB.out | apply Qac | apply Qaa | apply Qab) | exact HB.out)))); (case aL => have := LMc3.out; omega); intro v105 w6 ho hb hg hat; rw [← Ny104.out] at ho; have n0_ := Qad.mk (Kd.V_afterv (Kd.V_apart_nil (by (with_reducible repeat (first | apply Kd.Qa9 | apply Kd.Qa8 | apply Kd.V_drew)); exact HO103.out)) hg hat); have n1_ := Qad.mk (hb); have n2_ := Qad.mk (ho); clear HO103; clear HB; have HO103 := n0_; have HB := n1_; have HO106 := n2_; clear n0_ n1_ n2_; clear ho hb hg hat) | ((with_reducible refine Qaz (f := 19) rfl ?_); refine Qbd (some 15) rfl rfl Tryd.func19 (by kernel_rfl) rfl #[.slice Ao7 t101.length co7] rfl (by (try simp only [List.map_toArray, List.map_cons, List.map_nil]); first | done | rfl | (simp only [List.length_drop, List.length_take]; rfl)) ?_; (with_reducible refine (Qax.calls k _ _ t101 t107 _ ?side1 ?side2 A4.out).mono ?_); (case side1 => repeat (first | exact (Kd.Qa3 HO103.out).2.2 | (with_reducible refine Kd.QaQ ?_ _) | (with_reducible refine Kd.QaR ?_ _) | (with_reducible refine Kd.Qa7 ?_))); (case side2 => exact (Kd.Qa3 HO103.out).2.1); rintro e w8 ⟨v108, rfl, ho0, hb⟩; refine ⟨_, rfl, ?_⟩; have n0_ := Qad.mk (Kd.V_elder' (by (with_reducible repeat (first | apply Kd.Qa9 | apply Kd.Qa8 | apply Kd.V_drew)); exact HO103.out) (Kd.R_base ho0) hb); have n1_ := Qad.mk (Kd.R_elder' (by (with_reducible repeat (first | apply Kd.Qam | apply Kd.Qan | apply Kd.Qao)); exact HO106.out) (Kd.R_base ho0) hb); have n2_ := Qad.mk (Kd.R_lower (Kd.R_new' ho0 (Kd.R_lt (by (with_reducible repeat (first | apply Kd.Qam | apply Kd.Qan | apply Kd.Qao)); exact HO106.out))) (Qap (by repeat (first | (with_reducible first | exact HB.out | apply Qac | apply Qaa | apply Qab) | exact HB.out)))); have n3_ := Qad.mk (Qal (by repeat (first | (with_reducible first | exact HB.out | apply Qac | apply Qaa | apply Qab) | exact HB.out)) hb); clear HO103; clear HO106; clear HB; have HO103 := n0_; have HO106 := n1_; have HO109 := n2_; have HB := n3_; clear n0_ n1_ n2_ n3_; (try clear hb); (try clear hb2); (try clear hk); (try clear hi); (try clear ho0)))
  go_loopg [5, 6] k (fun kq v5 v6 w' => ∃ (x5_1 : List (S46)) (x6_1 : Int), v6 = .int .i64 x6_1 ∧ Qad (Qa4.l0 kq t101 y104 t107 x5_1 x6_1 = some r) ∧ Qad (kq ≤ k) ∧ Qad (Kd.V k46 46 w' w.heap.size (fun k_ => some k_ ≠ (v105 : Value).ownBlock ∧ some k_ ≠ (v108 : Value).ownBlock ∧ some k_ ≠ (v5 : Value).ownBlock) (.slice Ao7 t101.length co7) t101) ∧ Qad (Kd.R k46 46 w' w.heap.size (fun k_ => some k_ ≠ (v108 : Value).ownBlock ∧ some k_ ≠ (v5 : Value).ownBlock) v105 y104) ∧ Qad (Kd.R k46 46 w' w.heap.size (fun k_ => some k_ ≠ (v105 : Value).ownBlock ∧ some k_ ≠ (v5 : Value).ownBlock) v108 t107) ∧ Qad (Kd.R k46 46 w' w.heap.size (fun k_ => some k_ ≠ (v105 : Value).ownBlock ∧ some k_ ≠ (v108 : Value).ownBlock) v5 x5_1) ∧ Qad (Below w.heap.size w w'))
  case atStart => exact ⟨(([] : List (S46))), (0), (by first | rfl | (simp; done) | (simp [*]; done)), H', ⟨Nat.le_refl _⟩, ⟨by (with_reducible repeat (first | apply Kd.Qa9 | apply Kd.Qa8 | apply Kd.V_drew)); exact Kd.V_mono HO103.out (fun _ hk => ⟨hk.1.2, ⟨hk.2, (by simp [Value.ownBlock])⟩⟩)⟩, ⟨by (with_reducible repeat (first | apply Kd.Qam | apply Kd.Qan | apply Kd.Qao)); exact Kd.R_mono HO106.out (fun _ hk => ⟨hk.2, (by simp [Value.ownBlock])⟩)⟩, ⟨by (with_reducible repeat (first | apply Kd.Qam | apply Kd.Qan | apply Kd.Qao)); exact Kd.R_mono HO109.out (fun _ hk => ⟨hk.2, (by simp [Value.ownBlock])⟩)⟩, ⟨by first | exact Kd.R_nil _ _ _ _ _ | exact Kd.N_nil _ _ _ _ _ | exact Kd.V_nil _ _ _ _ _ | exact Kd.Q_nil _ _ _ _ _ | exact Kd.S_nil _ _ _ _ _⟩, ⟨by repeat (first | (with_reducible first | exact HB.out | apply Qac | apply Qaa | apply Qab) | exact HB.out)⟩⟩
  case round =>
   clear H'; (try clear c1); (try clear p2); (try clear c3); (try clear c8); obtain ⟨x5_1, x6_1, rfl, HA, HK1, HO_0, HO_3, HO_4, HO_5, HB⟩ := hrel
   cases gk with
   | zero => exact absurd HA.out (by simp [Qa4.l0])
   | succ k1 =>
    have H := HA.out; clear HA; simp only [Qa4.l0] at H
    by_cases c9 : x6_1 < (t107.length : Int)
    ·rw [if_pos c9] at H; have c9b0 : decide (x6_1 < (t107.length : Int)) = true := decide_eq_true c9; clear c9
     obtain ⟨ji10, hji10⟩ : ∃ j_ : Int, (wrap64 ((wrap64 ((t107.length : Int) - 1)) - x6_1)) = j_ := ⟨_, rfl⟩
     replace H : (if 0 ≤ (ji10) then (if (ji10) < (t107.length : Int) then (if x5_1.length < 1172812402961 then (Qa4.l0 k1 t101 y104 t107 (x5_1 ++ [(⟨(⟨(Qae t107 (ji10)).f0.f0, (Qae t107 (ji10)).f0.f1⟩ : S44), (Qae t107 (ji10)).f1, (Qae t107 (ji10)).f2, (Qae t107 (ji10)).f3, (⟨(Qae t107 (ji10)).f4.f0, (Qae t107 (ji10)).f4.f1⟩ : S33), (⟨(Qae t107 (ji10)).f5.f0, (Qae t107 (ji10)).f5.f1⟩ : S33)⟩ : S46)]) (wrap64 (x6_1 + 1))) else (none)) else (none)) else (none)) = some r := by first | (rw [hji10] at H; exact H) | (simp only [hji10] at H ⊢; exact H)
     have hji10w : (IntKind.i64.wrap ((wrap64 ((t107.length : Int) - 1)) - x6_1)) = ji10 := (QaE _).trans hji10
     by_cases c11 : 0 ≤ (ji10)
     ·rw [if_pos c11] at H; have c11b0 : decide (0 ≤ (ji10)) = true := decide_eq_true c11; clear c11
      by_cases c12 : (ji10) < (t107.length : Int)
      ·rw [if_pos c12] at H; have c12b0 : decide ((ji10) < (t107.length : Int)) = true := decide_eq_true c12; clear c12
       by_cases c13 : x5_1.length < 1172812402961
       ·rw [if_pos c13] at H; have LMc13 := Qad.mk c13; clear c13
        obtain ⟨y111, hy111⟩ : ∃ y_ : List (S46), y_ = (x5_1 ++ [(⟨(⟨(Qae t107 (ji10)).f0.f0, (Qae t107 (ji10)).f0.f1⟩ : S44), (Qae t107 (ji10)).f1, (Qae t107 (ji10)).f2, (Qae t107 (ji10)).f3, (⟨(Qae t107 (ji10)).f4.f0, (Qae t107 (ji10)).f4.f1⟩ : S33), (⟨(Qae t107 (ji10)).f5.f0, (Qae t107 (ji10)).f5.f1⟩ : S33)⟩ : S46)]) := ⟨_, rfl⟩
        replace H : (Qa4.l0 k1 t101 y104 t107 y111 (wrap64 (x6_1 + 1))) = some r := by first | (rw [hy111]; with_reducible exact H) | (have H2_ := (Option.bind_some _ _).symm.trans H; rw [hy111]; with_reducible exact H2_) | (have H2_ := (Option.bind_some _ _).symm.trans H; with_reducible exact H2_) | with_reducible exact H | (rw [hy111]; exact H) | exact H
        have Ny111 := Qad.mk hy111; clear hy111; have H' := Qad.mk H; clear H; obtain ⟨Ao14, co14, eo14⟩ := Kd.QaT HO_4.out; subst eo14; have p110 : 0 ≤ ((ji10) : Int) := of_decide_eq_true (by first | (with_reducible assumption) | assumption); have q110 : (ji10) < (t107.length : Int) := of_decide_eq_true (by first | (with_reducible assumption) | assumption); obtain ⟨ad110, e110, hx110_0, hx110_1, hx110_2, hx110_3, hx110_4, hx110_5, hx110_6, hx110_7, hx110_8⟩ := at_T46 (Kd.Qay HO_4.out).2.2 (ji10) p110 q110; cases e110; replace p110 := eq_true p110; replace q110 := eq_true q110
        go_wp2_with (first | ((with_reducible refine gate_builtin (b := .append) (xs := #[.tmp 22, .tmp 31]) rfl ?_); at_builtin; refine Kd.R_append k46 (w0 := w) w.heap.size rfl (.tmp 22) (.tmp 31) 22 46 (.agg #[(.int .i64 0), (.int .i64 0), (.string ⟨#[]⟩), (.int .i64 0), (.string ⟨#[]⟩), (.string ⟨#[]⟩), (.string ⟨#[]⟩), (.string ⟨#[]⟩), (.string ⟨#[]⟩)]) 120 rfl Tryd.underlying22 info46 rfl (by decide) (by omega) u5 x5_1 (⟨(⟨(Qae t107 (ji10)).f0.f0, (Qae t107 (ji10)).f0.f1⟩ : S44), (Qae t107 (ji10)).f1, (Qae t107 (ji10)).f2, (Qae t107 (ji10)).f3, (⟨(Qae t107 (ji10)).f4.f0, (Qae t107 (ji10)).f4.f1⟩ : S33), (⟨(Qae t107 (ji10)).f5.f0, (Qae t107 (ji10)).f5.f1⟩ : S33)⟩ : S46) [.int .i64 ((Qae t107 (ji10)).f0.f0), .int .i64 ((Qae t107 (ji10)).f0.f1), .string ((Qae t107 (ji10)).f1), .int .i64 ((Qae t107 (ji10)).f2), .string ((Qae t107 (ji10)).f3), .string ((Qae t107 (ji10)).f4.f0), .string ((Qae t107 (ji10)).f4.f1), .string ((Qae t107 (ji10)).f5.f0), .string ((Qae t107 (ji10)).f5.f1)] (fun k_ => some k_ ≠ (v105 : Value).ownBlock ∧ some k_ ≠ (.slice (some ad110) t107.length co14 : Value).ownBlock) (fun _ => False) rfl rfl ?aP (fun _ hk => hk.elim) ?aF ?aO ?aB ?aS ?aL ?_; (case aP => exact k46_mkM _ _ _ (⟨(⟨(Qae t107 (ji10)).f0.f0, (Qae t107 (ji10)).f0.f1⟩ : S44), (Qae t107 (ji10)).f1, (Qae t107 (ji10)).f2, (Qae t107 (ji10)).f3, (⟨(Qae t107 (ji10)).f4.f0, (Qae t107 (ji10)).f4.f1⟩ : S33), (⟨(Qae t107 (ji10)).f5.f0, (Qae t107 (ji10)).f5.f1⟩ : S33)⟩ : S46)); (case aB => exact (by repeat (first | (with_reducible first | exact HB.out | apply Qac | apply Qaa | apply Qab) | exact HB.out))); (case aF => exact (fun k_ hk => ⟨Kd.fresh' (Kd.R_lt (by (with_reducible repeat (first | apply Kd.Qam | apply Kd.Qan | apply Kd.Qao)); exact HO_3.out)) k_ hk, Kd.fresh' (Kd.R_lt (by (with_reducible repeat (first | apply Kd.Qam | apply Kd.Qan | apply Kd.Qao)); exact HO_4.out)) k_ hk⟩)); (case aO => exact (by (with_reducible repeat (first | apply Kd.Qam | apply Kd.Qan | apply Kd.Qao)); exact HO_5.out)); (case aS => exact (Qap (by repeat (first | (with_reducible first | exact HB.out | apply Qac | apply Qaa | apply Qab) | exact HB.out)))); (case aL => have := LMc13.out; omega); intro v112 w15 ho hb hg hat; rw [← Ny111.out] at ho; have n0_ := Qad.mk (Kd.V_afterv (ok := (fun k_ => some k_ ≠ (v105 : Value).ownBlock ∧ some k_ ≠ (.slice (some ad110) t107.length co14 : Value).ownBlock)) (by (with_reducible repeat (first | apply Kd.Qa9 | apply Kd.Qa8 | apply Kd.V_drew)); exact Kd.V_mono HO_0.out (fun _ hk => ⟨⟨hk.1, hk.2.1⟩, hk.2.2⟩)) hg hat); have n1_ := Qad.mk (Kd.R_after (ok := (fun k_ => some k_ ≠ (.slice (some ad110) t107.length co14 : Value).ownBlock)) (by (with_reducible repeat (first | apply Kd.Qam | apply Kd.Qan | apply Kd.Qao)); exact HO_3.out) hg hat); have n2_ := Qad.mk (Kd.R_after (ok := (fun k_ => some k_ ≠ (v105 : Value).ownBlock)) (by (with_reducible repeat (first | apply Kd.Qam | apply Kd.Qan | apply Kd.Qao)); exact HO_4.out) hg hat); have n3_ := Qad.mk (hb); have n4_ := Qad.mk (ho); clear HO_0; clear HO_3; clear HO_4; clear HB; clear HO_5; have HO_0 := n0_; have HO_3 := n1_; have HO_4 := n2_; have HB := n3_; have HO113 := n4_; clear n0_ n1_ n2_ n3_ n4_; clear ho hb hg hat))
        go_roundg k1
        case measure => have := HK1.out; omega
        case rel => exact ⟨(y111), (wrap64 (x6_1 + 1)), (by first | rfl | (simp; done) | (simp [*]; done)), H', ⟨by have := HK1.out; omega⟩, ⟨by (with_reducible repeat (first | apply Kd.Qa9 | apply Kd.Qa8 | apply Kd.V_drew)); exact Kd.V_mono HO_0.out (fun _ hk => ⟨hk.1.1, ⟨hk.1.2, hk.2⟩⟩)⟩, ⟨by (with_reducible repeat (first | apply Kd.Qam | apply Kd.Qan | apply Kd.Qao)); exact HO_3.out⟩, ⟨by (with_reducible repeat (first | apply Kd.Qam | apply Kd.Qan | apply Kd.Qao)); exact HO_4.out⟩, ⟨by (with_reducible repeat (first | apply Kd.Qam | apply Kd.Qan | apply Kd.Qao)); exact HO113.out⟩, ⟨by repeat (first | (with_reducible first | exact HB.out | apply Qac | apply Qaa | apply Qab) | exact HB.out)⟩⟩
       ·rw [if_neg c13] at H; exact absurd H (by simp)
      ·rw [if_neg c12] at H; exact absurd H (by simp)
     ·rw [if_neg c11] at H; exact absurd H (by simp)
    ·rw [if_neg c9] at H; have c9b0 : decide (x6_1 < (t107.length : Int)) = false := decide_eq_false c9; clear c9; replace H := Option.bind_eq_some_iff.mp H; obtain ⟨t114, A160, H⟩ := H; replace H : ((Qas.f k1 t114).bind fun t117 => ((Qa1.f x5_1).bind fun t120 => ((Qas.f k1 t120).bind fun t123 => ((QaS.f k1 t117 t123).bind fun t126 => ((Qbf.f k1 y104 t101).bind fun t127 => (if t126 = true then (if t127 = true then ((QaH.f k1).bind fun t128 => (some t128)) else (some false)) else (some false))))))) = some r := H; have A16 := Qad.mk A160; clear A160; replace H := Option.bind_eq_some_iff.mp H; obtain ⟨t117, A170, H⟩ := H; replace H : ((Qa1.f x5_1).bind fun t120 => ((Qas.f k1 t120).bind fun t123 => ((QaS.f k1 t117 t123).bind fun t126 => ((Qbf.f k1 y104 t101).bind fun t127 => (if t126 = true then (if t127 = true then ((QaH.f k1).bind fun t128 => (some t128)) else (some false)) else (some false)))))) = some r := H; have A17 := Qad.mk A170; clear A170; replace H := Option.bind_eq_some_iff.mp H; obtain ⟨t120, A180, H⟩ := H; replace H : ((Qas.f k1 t120).bind fun t123 => ((QaS.f k1 t117 t123).bind fun t126 => ((Qbf.f k1 y104 t101).bind fun t127 => (if t126 = true then (if t127 = true then ((QaH.f k1).bind fun t128 => (some t128)) else (some false)) else (some false))))) = some r := H; have A18 := Qad.mk A180
     clear A180; replace H := Option.bind_eq_some_iff.mp H; obtain ⟨t123, A190, H⟩ := H; replace H : ((QaS.f k1 t117 t123).bind fun t126 => ((Qbf.f k1 y104 t101).bind fun t127 => (if t126 = true then (if t127 = true then ((QaH.f k1).bind fun t128 => (some t128)) else (some false)) else (some false)))) = some r := H; have A19 := Qad.mk A190; clear A190; replace H := Option.bind_eq_some_iff.mp H; obtain ⟨t126, A200, H⟩ := H; replace H : ((Qbf.f k1 y104 t101).bind fun t127 => (if t126 = true then (if t127 = true then ((QaH.f k1).bind fun t128 => (some t128)) else (some false)) else (some false))) = some r := H; have A20 := Qad.mk A200; clear A200; replace H := Option.bind_eq_some_iff.mp H; obtain ⟨t127, A210, H⟩ := H; replace H : (if t126 = true then (if t127 = true then ((QaH.f k1).bind fun t128 => (some t128)) else (some false)) else (some false)) = some r := H; have A21 := Qad.mk A210; clear A210
     by_cases c22 : t126 = true
     ·subst c22
      have H1 : (if t127 = true then ((QaH.f k1).bind fun t128 => (some t128)) else (some false)) = some r := by rw [if_pos rfl] at H; exact H
      clear H; have H := H1; clear H1
      by_cases c23 : t127 = true
      ·subst c23
       have H1 : ((QaH.f k1).bind fun t128 => (some t128)) = some r := by rw [if_pos rfl] at H; exact H
       clear H; have H := H1; clear H1; replace H := Option.bind_eq_some_iff.mp H; obtain ⟨t128, A240, H⟩ := H; replace H : (some t128) = some r := H; have A24 := Qad.mk A240; clear A240; obtain rfl := Option.some.inj H; obtain ⟨Ao25, co25, eo25⟩ := Kd.QaT HO_4.out; subst eo25
       go_wp2_with (first | ((with_reducible refine Qaz (f := 12) rfl ?_); refine Qbd (some 34) rfl rfl Tryd.func12 (by kernel_rfl) rfl #[.slice Ao7 t101.length co7] rfl (by (try simp only [List.map_toArray, List.map_cons, List.map_nil]); first | done | rfl | (simp only [List.length_drop, List.length_take]; rfl)) ?_; (with_reducible refine (Qa1.calls _ _ t101 t114 _ ?side1 ?side2 A16.out).mono ?_); (case side1 => repeat (first | exact (Kd.Qa3 HO_0.out).2.2 | (with_reducible refine Kd.QaQ ?_ _) | (with_reducible refine Kd.QaR ?_ _) | (with_reducible refine Kd.Qa7 ?_))); (case side2 => exact (Kd.Qa3 HO_0.out).2.1); rintro e w26 ⟨v115, rfl, ho0, hb⟩; refine ⟨_, rfl, ?_⟩; have n0_ := Qad.mk (Kd.V_elder' (by (with_reducible repeat (first | apply Kd.Qa9 | apply Kd.Qa8 | apply Kd.V_drew)); exact HO_0.out) (Kd.R_base ho0) hb); have n1_ := Qad.mk (Kd.QaC (by (with_reducible repeat (first | apply Kd.Qam | apply Kd.Qan | apply Kd.Qao)); exact HO_3.out) hb); have n2_ := Qad.mk (Kd.QaC (by (with_reducible repeat (first | apply Kd.Qam | apply Kd.Qan | apply Kd.Qao)); exact HO_4.out) hb); have n3_ := Qad.mk (Kd.QaC (by (with_reducible repeat (first | apply Kd.Qam | apply Kd.Qan | apply Kd.Qao)); exact HO_5.out) hb); have n4_ := Qad.mk (Kd.R_lower ho0 (Qap (by repeat (first | (with_reducible first | exact HB.out | apply Qac | apply Qaa | apply Qab) | exact HB.out)))); have n5_ := Qad.mk (Qal (by repeat (first | (with_reducible first | exact HB.out | apply Qac | apply Qaa | apply Qab) | exact HB.out)) hb); clear HO_0; clear HO_3; clear HO_4; clear HO_5; clear HB; have HO_0 := n0_; have HO_3 := n1_; have HO_4 := n2_; have HO_5 := n3_; have HO116 := n4_; have HB := n5_; clear n0_ n1_ n2_ n3_ n4_ n5_; (try clear hb); (try clear hb2); (try clear hk); (try clear hi); (try clear ho0); obtain ⟨Ao27, co27, eo27⟩ := Kd.QaT HO116.out; subst eo27) | ((with_reducible refine Qaz (f := 11) rfl ?_); refine Qbd (some 35) rfl rfl Tryd.func11 (by kernel_rfl) rfl #[.slice Ao27 t114.length co27] rfl (by (try simp only [List.map_toArray, List.map_cons, List.map_nil]); first | done | rfl | (simp only [List.length_drop, List.length_take]; rfl)) ?_; (with_reducible refine (Qas.calls k1 _ _ t114 t117 _ ?side1 ?side2 A17.out).mono ?_); (case side1 => repeat (first | exact (Kd.Qay HO116.out).2.2 | (with_reducible refine Kd.QaQ ?_ _) | (with_reducible refine Kd.QaR ?_ _) | (with_reducible refine Kd.Qa7 ?_))); (case side2 => exact (Kd.Qay HO116.out).2.1); rintro e w28 ⟨v118, rfl, ho0, hb⟩; refine ⟨_, rfl, ?_⟩; have n0_ := Qad.mk (Kd.V_elder' (by (with_reducible repeat (first | apply Kd.Qa9 | apply Kd.Qa8 | apply Kd.V_drew)); exact HO_0.out) (Kd.R_base ho0) hb); have n1_ := Qad.mk (Kd.QaC (by (with_reducible repeat (first | apply Kd.Qam | apply Kd.Qan | apply Kd.Qao)); exact HO_3.out) hb); have n2_ := Qad.mk (Kd.QaC (by (with_reducible repeat (first | apply Kd.Qam | apply Kd.Qan | apply Kd.Qao)); exact HO_4.out) hb); have n3_ := Qad.mk (Kd.QaC (by (with_reducible repeat (first | apply Kd.Qam | apply Kd.Qan | apply Kd.Qao)); exact HO_5.out) hb); have n4_ := Qad.mk (Kd.QaC (by (with_reducible repeat (first | apply Kd.Qam | apply Kd.Qan | apply Kd.Qao)); exact HO116.out) hb); have n5_ := Qad.mk (Kd.R_lower ho0 (Qap (by repeat (first | (with_reducible first | exact HB.out | apply Qac | apply Qaa | apply Qab) | exact HB.out)))); have n6_ := Qad.mk (Qal (by repeat (first | (with_reducible first | exact HB.out | apply Qac | apply Qaa | apply Qab) | exact HB.out)) hb); clear HO_0; clear HO_3; clear HO_4; clear HO_5; clear HO116; clear HB; have HO_0 := n0_; have HO_3 := n1_; have HO_4 := n2_; have HO_5 := n3_; have HO116 := n4_; have HO119 := n5_; have HB := n6_; clear n0_ n1_ n2_ n3_ n4_ n5_ n6_; (try clear hb); (try clear hb2); (try clear hk); (try clear hi); (try clear ho0); obtain ⟨Ao29, co29, eo29⟩ := Kd.QaT HO_5.out; subst eo29) | ((with_reducible refine Qaz (f := 12) rfl ?_); refine Qbd (some 37) rfl rfl Tryd.func12 (by kernel_rfl) rfl #[.slice Ao29 x5_1.length co29] rfl (by (try simp only [List.map_toArray, List.map_cons, List.map_nil]); first | done | rfl | (simp only [List.length_drop, List.length_take]; rfl)) ?_; (with_reducible refine (Qa1.calls _ _ x5_1 t120 _ ?side1 ?side2 A18.out).mono ?_); (case side1 => repeat (first | exact (Kd.Qay HO_5.out).2.2 | (with_reducible refine Kd.QaQ ?_ _) | (with_reducible refine Kd.QaR ?_ _) | (with_reducible refine Kd.Qa7 ?_))); (case side2 => exact (Kd.Qay HO_5.out).2.1); rintro e w30 ⟨v121, rfl, ho0, hb⟩; refine ⟨_, rfl, ?_⟩; have n0_ := Qad.mk (Kd.V_elder' (by (with_reducible repeat (first | apply Kd.Qa9 | apply Kd.Qa8 | apply Kd.V_drew)); exact HO_0.out) (Kd.R_base ho0) hb); have n1_ := Qad.mk (Kd.QaC (by (with_reducible repeat (first | apply Kd.Qam | apply Kd.Qan | apply Kd.Qao)); exact HO_3.out) hb); have n2_ := Qad.mk (Kd.QaC (by (with_reducible repeat (first | apply Kd.Qam | apply Kd.Qan | apply Kd.Qao)); exact HO_4.out) hb); have n3_ := Qad.mk (Kd.QaC (by (with_reducible repeat (first | apply Kd.Qam | apply Kd.Qan | apply Kd.Qao)); exact HO_5.out) hb); have n4_ := Qad.mk (Kd.R_elder' (by (with_reducible repeat (first | apply Kd.Qam | apply Kd.Qan | apply Kd.Qao)); exact HO116.out) (Kd.R_base ho0) hb); have n5_ := Qad.mk (Kd.QaC (by (with_reducible repeat (first | apply Kd.Qam | apply Kd.Qan | apply Kd.Qao)); exact HO119.out) hb); have n6_ := Qad.mk (Kd.R_lower (Kd.R_new' ho0 (Kd.R_lt (by (with_reducible repeat (first | apply Kd.Qam | apply Kd.Qan | apply Kd.Qao)); exact HO116.out))) (Qap (by repeat (first | (with_reducible first | exact HB.out | apply Qac | apply Qaa | apply Qab) | exact HB.out)))); have n7_ := Qad.mk (Qal (by repeat (first | (with_reducible first | exact HB.out | apply Qac | apply Qaa | apply Qab) | exact HB.out)) hb); clear HO_0; clear HO_3; clear HO_4; clear HO_5; clear HO116; clear HO119; clear HB; have HO_0 := n0_; have HO_3 := n1_; have HO_4 := n2_; have HO_5 := n3_; have HO116 := n4_; have HO119 := n5_; have HO122 := n6_; have HB := n7_; clear n0_ n1_ n2_ n3_ n4_ n5_ n6_ n7_; (try clear hb); (try clear hb2); (try clear hk); (try clear hi); (try clear ho0); obtain ⟨Ao31, co31, eo31⟩ := Kd.QaT HO122.out; subst eo31) | ((with_reducible refine Qaz (f := 11) rfl ?_); refine Qbd (some 38) rfl rfl Tryd.func11 (by kernel_rfl) rfl #[.slice Ao31 t120.length co31] rfl (by (try simp only [List.map_toArray, List.map_cons, List.map_nil]); first | done | rfl | (simp only [List.length_drop, List.length_take]; rfl)) ?_; (with_reducible refine (Qas.calls k1 _ _ t120 t123 _ ?side1 ?side2 A19.out).mono ?_); (case side1 => repeat (first | exact (Kd.Qay HO122.out).2.2 | (with_reducible refine Kd.QaQ ?_ _) | (with_reducible refine Kd.QaR ?_ _) | (with_reducible refine Kd.Qa7 ?_))); (case side2 => exact (Kd.Qay HO122.out).2.1); rintro e w32 ⟨v124, rfl, ho0, hb⟩; refine ⟨_, rfl, ?_⟩; have n0_ := Qad.mk (Kd.V_elder' (by (with_reducible repeat (first | apply Kd.Qa9 | apply Kd.Qa8 | apply Kd.V_drew)); exact HO_0.out) (Kd.R_base ho0) hb); have n1_ := Qad.mk (Kd.QaC (by (with_reducible repeat (first | apply Kd.Qam | apply Kd.Qan | apply Kd.Qao)); exact HO_3.out) hb); have n2_ := Qad.mk (Kd.QaC (by (with_reducible repeat (first | apply Kd.Qam | apply Kd.Qan | apply Kd.Qao)); exact HO_4.out) hb); have n3_ := Qad.mk (Kd.QaC (by (with_reducible repeat (first | apply Kd.Qam | apply Kd.Qan | apply Kd.Qao)); exact HO_5.out) hb); have n4_ := Qad.mk (Kd.QaC (by (with_reducible repeat (first | apply Kd.Qam | apply Kd.Qan | apply Kd.Qao)); exact HO116.out) hb); have n5_ := Qad.mk (Kd.R_elder' (by (with_reducible repeat (first | apply Kd.Qam | apply Kd.Qan | apply Kd.Qao)); exact HO119.out) (Kd.R_base ho0) hb); have n6_ := Qad.mk (Kd.QaC (by (with_reducible repeat (first | apply Kd.Qam | apply Kd.Qan | apply Kd.Qao)); exact HO122.out) hb); have n7_ := Qad.mk (Kd.R_lower (Kd.R_new' ho0 (Kd.R_lt (by (with_reducible repeat (first | apply Kd.Qam | apply Kd.Qan | apply Kd.Qao)); exact HO119.out))) (Qap (by repeat (first | (with_reducible first | exact HB.out | apply Qac | apply Qaa | apply Qab) | exact HB.out)))); have n8_ := Qad.mk (Qal (by repeat (first | (with_reducible first | exact HB.out | apply Qac | apply Qaa | apply Qab) | exact HB.out)) hb); clear HO_0; clear HO_3; clear HO_4; clear HO_5; clear HO116; clear HO119; clear HO122; clear HB; have HO_0 := n0_; have HO_3 := n1_; have HO_4 := n2_; have HO_5 := n3_; have HO116 := n4_; have HO119 := n5_; have HO122 := n6_; have HO125 := n7_; have HB := n8_; clear n0_ n1_ n2_ n3_ n4_ n5_ n6_ n7_ n8_; (try clear hb); (try clear hb2); (try clear hk); (try clear hi); (try clear ho0); obtain ⟨Ao33, co33, eo33⟩ := Kd.QaT HO119.out; subst eo33; obtain ⟨Ao34, co34, eo34⟩ := Kd.QaT HO125.out; subst eo34) | ((with_reducible refine Qaz (f := 10) rfl ?_); refine Qbd (some 39) rfl rfl Tryd.func10 (by kernel_rfl) rfl #[.slice Ao33 t117.length co33, .slice Ao34 t123.length co34] rfl (by (try simp only [List.map_toArray, List.map_cons, List.map_nil]); first | done | rfl | (simp only [List.length_drop, List.length_take]; rfl)) ?_; (with_reducible refine (QaS.calls k1 _ _ t117 _ _ t123 true _ ?side1 ?side2 ?side3 ?side4 A20.out).mono ?_); (case side1 => repeat (first | exact (Kd.Qay HO119.out).2.2 | (with_reducible refine Kd.QaQ ?_ _) | (with_reducible refine Kd.QaR ?_ _) | (with_reducible refine Kd.Qa7 ?_))); (case side2 => exact (Kd.Qay HO119.out).2.1); (case side3 => repeat (first | exact (Kd.Qay HO125.out).2.2 | (with_reducible refine Kd.QaQ ?_ _) | (with_reducible refine Kd.QaR ?_ _) | (with_reducible refine Kd.Qa7 ?_))); (case side4 => exact (Kd.Qay HO125.out).2.1); rintro e w' ⟨rfl, ⟨nd, rfl⟩⟩; refine ⟨_, rfl, ?_⟩; obtain ⟨Ao35, co35, eo35⟩ := Kd.QaT HO_3.out; subst eo35) | ((with_reducible refine Qaz (f := 20) rfl ?_); refine Qbd (some 42) rfl rfl Tryd.func20 (by kernel_rfl) rfl #[.slice Ao35 y104.length co35, .slice Ao7 t101.length co7] rfl (by (try simp only [List.map_toArray, List.map_cons, List.map_nil]); first | done | rfl | (simp only [List.length_drop, List.length_take]; rfl)) ?_; (with_reducible refine (Qbf.calls k1 _ _ y104 _ _ t101 true _ ?side1 ?side2 ?side3 ?side4 A21.out).mono ?_); (case side1 => repeat (first | exact (Kd.Qay HO_3.out).2.2 | (with_reducible refine Kd.QaQ ?_ _) | (with_reducible refine Kd.QaR ?_ _) | (with_reducible refine Kd.Qa7 ?_))); (case side2 => exact (Kd.Qay HO_3.out).2.1); (case side3 => repeat (first | exact (Kd.Qa3 HO_0.out).2.2 | (with_reducible refine Kd.QaQ ?_ _) | (with_reducible refine Kd.QaR ?_ _) | (with_reducible refine Kd.Qa7 ?_))); (case side4 => exact (Kd.Qa3 HO_0.out).2.1); rintro e w' ⟨rfl, ⟨nd, rfl⟩⟩; refine ⟨_, rfl, ?_⟩) | (go_at_call 14; (with_reducible refine (QaH.calls k1  t128 _ A24.out).mono ?_); rintro e w36 ⟨rfl, hb⟩; have n0_ := Qad.mk (Kd.V_below (by (with_reducible repeat (first | apply Kd.Qa9 | apply Kd.Qa8 | apply Kd.V_drew)); exact HO_0.out) hb); have n1_ := Qad.mk (Kd.QaC (by (with_reducible repeat (first | apply Kd.Qam | apply Kd.Qan | apply Kd.Qao)); exact HO_3.out) hb); have n2_ := Qad.mk (Kd.QaC (by (with_reducible repeat (first | apply Kd.Qam | apply Kd.Qan | apply Kd.Qao)); exact HO_4.out) hb); have n3_ := Qad.mk (Kd.QaC (by (with_reducible repeat (first | apply Kd.Qam | apply Kd.Qan | apply Kd.Qao)); exact HO_5.out) hb); have n4_ := Qad.mk (Kd.QaC (by (with_reducible repeat (first | apply Kd.Qam | apply Kd.Qan | apply Kd.Qao)); exact HO116.out) hb); have n5_ := Qad.mk (Kd.QaC (by (with_reducible repeat (first | apply Kd.Qam | apply Kd.Qan | apply Kd.Qao)); exact HO119.out) hb); have n6_ := Qad.mk (Kd.QaC (by (with_reducible repeat (first | apply Kd.Qam | apply Kd.Qan | apply Kd.Qao)); exact HO122.out) hb); have n7_ := Qad.mk (Kd.QaC (by (with_reducible repeat (first | apply Kd.Qam | apply Kd.Qan | apply Kd.Qao)); exact HO125.out) hb); have n8_ := Qad.mk (Qal (by repeat (first | (with_reducible first | exact HB.out | apply Qac | apply Qaa | apply Qab) | exact HB.out)) hb); clear HO_0; clear HO_3; clear HO_4; clear HO_5; clear HO116; clear HO119; clear HO122; clear HO125; clear HB; have HO_0 := n0_; have HO_3 := n1_; have HO_4 := n2_; have HO_5 := n3_; have HO116 := n4_; have HO119 := n5_; have HO122 := n6_; have HO125 := n7_; have HB := n8_; clear n0_ n1_ n2_ n3_ n4_ n5_ n6_ n7_ n8_; (try clear hb); (try clear hb2); (try clear hk); (try clear hi)))
       go_ret; exact ⟨by first | rfl | (simp [Qau, Qat] <;> rfl) | (simp [*, Qau, Qat] <;> rfl), by repeat (first | (with_reducible first | exact HB.out | apply Qac | apply Qaa | apply Qab) | exact HB.out)⟩
      ·replace c23 := Bool.eq_false_iff.mpr c23; subst c23
       have H1 : (some false) = some r := by rw [if_neg (show ¬ (false = true) by decide)] at H; exact H
       clear H; have H := H1; clear H1; obtain rfl := Option.some.inj H; obtain ⟨Ao37, co37, eo37⟩ := Kd.QaT HO_4.out; subst eo37
       go_wp2_with (first | ((with_reducible refine Qaz (f := 12) rfl ?_); refine Qbd (some 34) rfl rfl Tryd.func12 (by kernel_rfl) rfl #[.slice Ao7 t101.length co7] rfl (by (try simp only [List.map_toArray, List.map_cons, List.map_nil]); first | done | rfl | (simp only [List.length_drop, List.length_take]; rfl)) ?_; (with_reducible refine (Qa1.calls _ _ t101 t114 _ ?side1 ?side2 A16.out).mono ?_); (case side1 => repeat (first | exact (Kd.Qa3 HO_0.out).2.2 | (with_reducible refine Kd.QaQ ?_ _) | (with_reducible refine Kd.QaR ?_ _) | (with_reducible refine Kd.Qa7 ?_))); (case side2 => exact (Kd.Qa3 HO_0.out).2.1); rintro e w38 ⟨v115, rfl, ho0, hb⟩; refine ⟨_, rfl, ?_⟩; have n0_ := Qad.mk (Kd.V_elder' (by (with_reducible repeat (first | apply Kd.Qa9 | apply Kd.Qa8 | apply Kd.V_drew)); exact HO_0.out) (Kd.R_base ho0) hb); have n1_ := Qad.mk (Kd.QaC (by (with_reducible repeat (first | apply Kd.Qam | apply Kd.Qan | apply Kd.Qao)); exact HO_3.out) hb); have n2_ := Qad.mk (Kd.QaC (by (with_reducible repeat (first | apply Kd.Qam | apply Kd.Qan | apply Kd.Qao)); exact HO_4.out) hb); have n3_ := Qad.mk (Kd.QaC (by (with_reducible repeat (first | apply Kd.Qam | apply Kd.Qan | apply Kd.Qao)); exact HO_5.out) hb); have n4_ := Qad.mk (Kd.R_lower ho0 (Qap (by repeat (first | (with_reducible first | exact HB.out | apply Qac | apply Qaa | apply Qab) | exact HB.out)))); have n5_ := Qad.mk (Qal (by repeat (first | (with_reducible first | exact HB.out | apply Qac | apply Qaa | apply Qab) | exact HB.out)) hb); clear HO_0; clear HO_3; clear HO_4; clear HO_5; clear HB; have HO_0 := n0_; have HO_3 := n1_; have HO_4 := n2_; have HO_5 := n3_; have HO116 := n4_; have HB := n5_; clear n0_ n1_ n2_ n3_ n4_ n5_; (try clear hb); (try clear hb2); (try clear hk); (try clear hi); (try clear ho0); obtain ⟨Ao39, co39, eo39⟩ := Kd.QaT HO116.out; subst eo39) | ((with_reducible refine Qaz (f := 11) rfl ?_); refine Qbd (some 35) rfl rfl Tryd.func11 (by kernel_rfl) rfl #[.slice Ao39 t114.length co39] rfl (by (try simp only [List.map_toArray, List.map_cons, List.map_nil]); first | done | rfl | (simp only [List.length_drop, List.length_take]; rfl)) ?_; (with_reducible refine (Qas.calls k1 _ _ t114 t117 _ ?side1 ?side2 A17.out).mono ?_); (case side1 => repeat (first | exact (Kd.Qay HO116.out).2.2 | (with_reducible refine Kd.QaQ ?_ _) | (with_reducible refine Kd.QaR ?_ _) | (with_reducible refine Kd.Qa7 ?_))); (case side2 => exact (Kd.Qay HO116.out).2.1); rintro e w40 ⟨v118, rfl, ho0, hb⟩; refine ⟨_, rfl, ?_⟩; have n0_ := Qad.mk (Kd.V_elder' (by (with_reducible repeat (first | apply Kd.Qa9 | apply Kd.Qa8 | apply Kd.V_drew)); exact HO_0.out) (Kd.R_base ho0) hb); have n1_ := Qad.mk (Kd.QaC (by (with_reducible repeat (first | apply Kd.Qam | apply Kd.Qan | apply Kd.Qao)); exact HO_3.out) hb); have n2_ := Qad.mk (Kd.QaC (by (with_reducible repeat (first | apply Kd.Qam | apply Kd.Qan | apply Kd.Qao)); exact HO_4.out) hb); have n3_ := Qad.mk (Kd.QaC (by (with_reducible repeat (first | apply Kd.Qam | apply Kd.Qan | apply Kd.Qao)); exact HO_5.out) hb); have n4_ := Qad.mk (Kd.QaC (by (with_reducible repeat (first | apply Kd.Qam | apply Kd.Qan | apply Kd.Qao)); exact HO116.out) hb); have n5_ := Qad.mk (Kd.R_lower ho0 (Qap (by repeat (first | (with_reducible first | exact HB.out | apply Qac | apply Qaa | apply Qab) | exact HB.out)))); have n6_ := Qad.mk (Qal (by repeat (first | (with_reducible first | exact HB.out | apply Qac | apply Qaa | apply Qab) | exact HB.out)) hb); clear HO_0; clear HO_3; clear HO_4; clear HO_5; clear HO116; clear HB; have HO_0 := n0_; have HO_3 := n1_; have HO_4 := n2_; have HO_5 := n3_; have HO116 := n4_; have HO119 := n5_; have HB := n6_; clear n0_ n1_ n2_ n3_ n4_ n5_ n6_; (try clear hb); (try clear hb2); (try clear hk); (try clear hi); (try clear ho0); obtain ⟨Ao41, co41, eo41⟩ := Kd.QaT HO_5.out; subst eo41) | ((with_reducible refine Qaz (f := 12) rfl ?_); refine Qbd (some 37) rfl rfl Tryd.func12 (by kernel_rfl) rfl #[.slice Ao41 x5_1.length co41] rfl (by (try simp only [List.map_toArray, List.map_cons, List.map_nil]); first | done | rfl | (simp only [List.length_drop, List.length_take]; rfl)) ?_; (with_reducible refine (Qa1.calls _ _ x5_1 t120 _ ?side1 ?side2 A18.out).mono ?_); (case side1 => repeat (first | exact (Kd.Qay HO_5.out).2.2 | (with_reducible refine Kd.QaQ ?_ _) | (with_reducible refine Kd.QaR ?_ _) | (with_reducible refine Kd.Qa7 ?_))); (case side2 => exact (Kd.Qay HO_5.out).2.1); rintro e w42 ⟨v121, rfl, ho0, hb⟩; refine ⟨_, rfl, ?_⟩; have n0_ := Qad.mk (Kd.V_elder' (by (with_reducible repeat (first | apply Kd.Qa9 | apply Kd.Qa8 | apply Kd.V_drew)); exact HO_0.out) (Kd.R_base ho0) hb); have n1_ := Qad.mk (Kd.QaC (by (with_reducible repeat (first | apply Kd.Qam | apply Kd.Qan | apply Kd.Qao)); exact HO_3.out) hb); have n2_ := Qad.mk (Kd.QaC (by (with_reducible repeat (first | apply Kd.Qam | apply Kd.Qan | apply Kd.Qao)); exact HO_4.out) hb); have n3_ := Qad.mk (Kd.QaC (by (with_reducible repeat (first | apply Kd.Qam | apply Kd.Qan | apply Kd.Qao)); exact HO_5.out) hb); have n4_ := Qad.mk (Kd.R_elder' (by (with_reducible repeat (first | apply Kd.Qam | apply Kd.Qan | apply Kd.Qao)); exact HO116.out) (Kd.R_base ho0) hb); have n5_ := Qad.mk (Kd.QaC (by (with_reducible repeat (first | apply Kd.Qam | apply Kd.Qan | apply Kd.Qao)); exact HO119.out) hb); have n6_ := Qad.mk (Kd.R_lower (Kd.R_new' ho0 (Kd.R_lt (by (with_reducible repeat (first | apply Kd.Qam | apply Kd.Qan | apply Kd.Qao)); exact HO116.out))) (Qap (by repeat (first | (with_reducible first | exact HB.out | apply Qac | apply Qaa | apply Qab) | exact HB.out)))); have n7_ := Qad.mk (Qal (by repeat (first | (with_reducible first | exact HB.out | apply Qac | apply Qaa | apply Qab) | exact HB.out)) hb); clear HO_0; clear HO_3; clear HO_4; clear HO_5; clear HO116; clear HO119; clear HB; have HO_0 := n0_; have HO_3 := n1_; have HO_4 := n2_; have HO_5 := n3_; have HO116 := n4_; have HO119 := n5_; have HO122 := n6_; have HB := n7_; clear n0_ n1_ n2_ n3_ n4_ n5_ n6_ n7_; (try clear hb); (try clear hb2); (try clear hk); (try clear hi); (try clear ho0); obtain ⟨Ao43, co43, eo43⟩ := Kd.QaT HO122.out; subst eo43) | ((with_reducible refine Qaz (f := 11) rfl ?_); refine Qbd (some 38) rfl rfl Tryd.func11 (by kernel_rfl) rfl #[.slice Ao43 t120.length co43] rfl (by (try simp only [List.map_toArray, List.map_cons, List.map_nil]); first | done | rfl | (simp only [List.length_drop, List.length_take]; rfl)) ?_; (with_reducible refine (Qas.calls k1 _ _ t120 t123 _ ?side1 ?side2 A19.out).mono ?_); (case side1 => repeat (first | exact (Kd.Qay HO122.out).2.2 | (with_reducible refine Kd.QaQ ?_ _) | (with_reducible refine Kd.QaR ?_ _) | (with_reducible refine Kd.Qa7 ?_))); (case side2 => exact (Kd.Qay HO122.out).2.1); rintro e w44 ⟨v124, rfl, ho0, hb⟩; refine ⟨_, rfl, ?_⟩; have n0_ := Qad.mk (Kd.V_elder' (by (with_reducible repeat (first | apply Kd.Qa9 | apply Kd.Qa8 | apply Kd.V_drew)); exact HO_0.out) (Kd.R_base ho0) hb); have n1_ := Qad.mk (Kd.QaC (by (with_reducible repeat (first | apply Kd.Qam | apply Kd.Qan | apply Kd.Qao)); exact HO_3.out) hb); have n2_ := Qad.mk (Kd.QaC (by (with_reducible repeat (first | apply Kd.Qam | apply Kd.Qan | apply Kd.Qao)); exact HO_4.out) hb); have n3_ := Qad.mk (Kd.QaC (by (with_reducible repeat (first | apply Kd.Qam | apply Kd.Qan | apply Kd.Qao)); exact HO_5.out) hb); have n4_ := Qad.mk (Kd.QaC (by (with_reducible repeat (first | apply Kd.Qam | apply Kd.Qan | apply Kd.Qao)); exact HO116.out) hb); have n5_ := Qad.mk (Kd.R_elder' (by (with_reducible repeat (first | apply Kd.Qam | apply Kd.Qan | apply Kd.Qao)); exact HO119.out) (Kd.R_base ho0) hb); have n6_ := Qad.mk (Kd.QaC (by (with_reducible repeat (first | apply Kd.Qam | apply Kd.Qan | apply Kd.Qao)); exact HO122.out) hb); have n7_ := Qad.mk (Kd.R_lower (Kd.R_new' ho0 (Kd.R_lt (by (with_reducible repeat (first | apply Kd.Qam | apply Kd.Qan | apply Kd.Qao)); exact HO119.out))) (Qap (by repeat (first | (with_reducible first | exact HB.out | apply Qac | apply Qaa | apply Qab) | exact HB.out)))); have n8_ := Qad.mk (Qal (by repeat (first | (with_reducible first | exact HB.out | apply Qac | apply Qaa | apply Qab) | exact HB.out)) hb); clear HO_0; clear HO_3; clear HO_4; clear HO_5; clear HO116; clear HO119; clear HO122; clear HB; have HO_0 := n0_; have HO_3 := n1_; have HO_4 := n2_; have HO_5 := n3_; have HO116 := n4_; have HO119 := n5_; have HO122 := n6_; have HO125 := n7_; have HB := n8_; clear n0_ n1_ n2_ n3_ n4_ n5_ n6_ n7_ n8_; (try clear hb); (try clear hb2); (try clear hk); (try clear hi); (try clear ho0); obtain ⟨Ao45, co45, eo45⟩ := Kd.QaT HO119.out; subst eo45; obtain ⟨Ao46, co46, eo46⟩ := Kd.QaT HO125.out; subst eo46) | ((with_reducible refine Qaz (f := 10) rfl ?_); refine Qbd (some 39) rfl rfl Tryd.func10 (by kernel_rfl) rfl #[.slice Ao45 t117.length co45, .slice Ao46 t123.length co46] rfl (by (try simp only [List.map_toArray, List.map_cons, List.map_nil]); first | done | rfl | (simp only [List.length_drop, List.length_take]; rfl)) ?_; (with_reducible refine (QaS.calls k1 _ _ t117 _ _ t123 true _ ?side1 ?side2 ?side3 ?side4 A20.out).mono ?_); (case side1 => repeat (first | exact (Kd.Qay HO119.out).2.2 | (with_reducible refine Kd.QaQ ?_ _) | (with_reducible refine Kd.QaR ?_ _) | (with_reducible refine Kd.Qa7 ?_))); (case side2 => exact (Kd.Qay HO119.out).2.1); (case side3 => repeat (first | exact (Kd.Qay HO125.out).2.2 | (with_reducible refine Kd.QaQ ?_ _) | (with_reducible refine Kd.QaR ?_ _) | (with_reducible refine Kd.Qa7 ?_))); (case side4 => exact (Kd.Qay HO125.out).2.1); rintro e w' ⟨rfl, ⟨nd, rfl⟩⟩; refine ⟨_, rfl, ?_⟩; obtain ⟨Ao47, co47, eo47⟩ := Kd.QaT HO_3.out; subst eo47) | ((with_reducible refine Qaz (f := 20) rfl ?_); refine Qbd (some 42) rfl rfl Tryd.func20 (by kernel_rfl) rfl #[.slice Ao47 y104.length co47, .slice Ao7 t101.length co7] rfl (by (try simp only [List.map_toArray, List.map_cons, List.map_nil]); first | done | rfl | (simp only [List.length_drop, List.length_take]; rfl)) ?_; (with_reducible refine (Qbf.calls k1 _ _ y104 _ _ t101 false _ ?side1 ?side2 ?side3 ?side4 A21.out).mono ?_); (case side1 => repeat (first | exact (Kd.Qay HO_3.out).2.2 | (with_reducible refine Kd.QaQ ?_ _) | (with_reducible refine Kd.QaR ?_ _) | (with_reducible refine Kd.Qa7 ?_))); (case side2 => exact (Kd.Qay HO_3.out).2.1); (case side3 => repeat (first | exact (Kd.Qa3 HO_0.out).2.2 | (with_reducible refine Kd.QaQ ?_ _) | (with_reducible refine Kd.QaR ?_ _) | (with_reducible refine Kd.Qa7 ?_))); (case side4 => exact (Kd.Qa3 HO_0.out).2.1); rintro e w' ⟨rfl, ⟨nd, rfl⟩⟩; refine ⟨_, rfl, ?_⟩))
       go_ret; exact ⟨by first | rfl | (simp [Qau, Qat] <;> rfl) | (simp [*, Qau, Qat] <;> rfl), by repeat (first | (with_reducible first | exact HB.out | apply Qac | apply Qaa | apply Qab) | exact HB.out)⟩
     ·replace c22 := Bool.eq_false_iff.mpr c22; subst c22
      have H1 : (some false) = some r := by rw [if_neg (show ¬ (false = true) by decide)] at H; exact H
      clear H; have H := H1; clear H1; obtain rfl := Option.some.inj H; obtain ⟨Ao48, co48, eo48⟩ := Kd.QaT HO_4.out; subst eo48
      go_wp2_with (first | ((with_reducible refine Qaz (f := 12) rfl ?_); refine Qbd (some 34) rfl rfl Tryd.func12 (by kernel_rfl) rfl #[.slice Ao7 t101.length co7] rfl (by (try simp only [List.map_toArray, List.map_cons, List.map_nil]); first | done | rfl | (simp only [List.length_drop, List.length_take]; rfl)) ?_; (with_reducible refine (Qa1.calls _ _ t101 t114 _ ?side1 ?side2 A16.out).mono ?_); (case side1 => repeat (first | exact (Kd.Qa3 HO_0.out).2.2 | (with_reducible refine Kd.QaQ ?_ _) | (with_reducible refine Kd.QaR ?_ _) | (with_reducible refine Kd.Qa7 ?_))); (case side2 => exact (Kd.Qa3 HO_0.out).2.1); rintro e w49 ⟨v115, rfl, ho0, hb⟩; refine ⟨_, rfl, ?_⟩; have n0_ := Qad.mk (Kd.V_elder' (by (with_reducible repeat (first | apply Kd.Qa9 | apply Kd.Qa8 | apply Kd.V_drew)); exact HO_0.out) (Kd.R_base ho0) hb); have n1_ := Qad.mk (Kd.QaC (by (with_reducible repeat (first | apply Kd.Qam | apply Kd.Qan | apply Kd.Qao)); exact HO_3.out) hb); have n2_ := Qad.mk (Kd.QaC (by (with_reducible repeat (first | apply Kd.Qam | apply Kd.Qan | apply Kd.Qao)); exact HO_4.out) hb); have n3_ := Qad.mk (Kd.QaC (by (with_reducible repeat (first | apply Kd.Qam | apply Kd.Qan | apply Kd.Qao)); exact HO_5.out) hb); have n4_ := Qad.mk (Kd.R_lower ho0 (Qap (by repeat (first | (with_reducible first | exact HB.out | apply Qac | apply Qaa | apply Qab) | exact HB.out)))); have n5_ := Qad.mk (Qal (by repeat (first | (with_reducible first | exact HB.out | apply Qac | apply Qaa | apply Qab) | exact HB.out)) hb); clear HO_0; clear HO_3; clear HO_4; clear HO_5; clear HB; have HO_0 := n0_; have HO_3 := n1_; have HO_4 := n2_; have HO_5 := n3_; have HO116 := n4_; have HB := n5_; clear n0_ n1_ n2_ n3_ n4_ n5_; (try clear hb); (try clear hb2); (try clear hk); (try clear hi); (try clear ho0); obtain ⟨Ao50, co50, eo50⟩ := Kd.QaT HO116.out; subst eo50) | ((with_reducible refine Qaz (f := 11) rfl ?_); refine Qbd (some 35) rfl rfl Tryd.func11 (by kernel_rfl) rfl #[.slice Ao50 t114.length co50] rfl (by (try simp only [List.map_toArray, List.map_cons, List.map_nil]); first | done | rfl | (simp only [List.length_drop, List.length_take]; rfl)) ?_; (with_reducible refine (Qas.calls k1 _ _ t114 t117 _ ?side1 ?side2 A17.out).mono ?_); (case side1 => repeat (first | exact (Kd.Qay HO116.out).2.2 | (with_reducible refine Kd.QaQ ?_ _) | (with_reducible refine Kd.QaR ?_ _) | (with_reducible refine Kd.Qa7 ?_))); (case side2 => exact (Kd.Qay HO116.out).2.1); rintro e w51 ⟨v118, rfl, ho0, hb⟩; refine ⟨_, rfl, ?_⟩; have n0_ := Qad.mk (Kd.V_elder' (by (with_reducible repeat (first | apply Kd.Qa9 | apply Kd.Qa8 | apply Kd.V_drew)); exact HO_0.out) (Kd.R_base ho0) hb); have n1_ := Qad.mk (Kd.QaC (by (with_reducible repeat (first | apply Kd.Qam | apply Kd.Qan | apply Kd.Qao)); exact HO_3.out) hb); have n2_ := Qad.mk (Kd.QaC (by (with_reducible repeat (first | apply Kd.Qam | apply Kd.Qan | apply Kd.Qao)); exact HO_4.out) hb); have n3_ := Qad.mk (Kd.QaC (by (with_reducible repeat (first | apply Kd.Qam | apply Kd.Qan | apply Kd.Qao)); exact HO_5.out) hb); have n4_ := Qad.mk (Kd.QaC (by (with_reducible repeat (first | apply Kd.Qam | apply Kd.Qan | apply Kd.Qao)); exact HO116.out) hb); have n5_ := Qad.mk (Kd.R_lower ho0 (Qap (by repeat (first | (with_reducible first | exact HB.out | apply Qac | apply Qaa | apply Qab) | exact HB.out)))); have n6_ := Qad.mk (Qal (by repeat (first | (with_reducible first | exact HB.out | apply Qac | apply Qaa | apply Qab) | exact HB.out)) hb); clear HO_0; clear HO_3; clear HO_4; clear HO_5; clear HO116; clear HB; have HO_0 := n0_; have HO_3 := n1_; have HO_4 := n2_; have HO_5 := n3_; have HO116 := n4_; have HO119 := n5_; have HB := n6_; clear n0_ n1_ n2_ n3_ n4_ n5_ n6_; (try clear hb); (try clear hb2); (try clear hk); (try clear hi); (try clear ho0); obtain ⟨Ao52, co52, eo52⟩ := Kd.QaT HO_5.out; subst eo52) | ((with_reducible refine Qaz (f := 12) rfl ?_); refine Qbd (some 37) rfl rfl Tryd.func12 (by kernel_rfl) rfl #[.slice Ao52 x5_1.length co52] rfl (by (try simp only [List.map_toArray, List.map_cons, List.map_nil]); first | done | rfl | (simp only [List.length_drop, List.length_take]; rfl)) ?_; (with_reducible refine (Qa1.calls _ _ x5_1 t120 _ ?side1 ?side2 A18.out).mono ?_); (case side1 => repeat (first | exact (Kd.Qay HO_5.out).2.2 | (with_reducible refine Kd.QaQ ?_ _) | (with_reducible refine Kd.QaR ?_ _) | (with_reducible refine Kd.Qa7 ?_))); (case side2 => exact (Kd.Qay HO_5.out).2.1); rintro e w53 ⟨v121, rfl, ho0, hb⟩; refine ⟨_, rfl, ?_⟩; have n0_ := Qad.mk (Kd.V_elder' (by (with_reducible repeat (first | apply Kd.Qa9 | apply Kd.Qa8 | apply Kd.V_drew)); exact HO_0.out) (Kd.R_base ho0) hb); have n1_ := Qad.mk (Kd.QaC (by (with_reducible repeat (first | apply Kd.Qam | apply Kd.Qan | apply Kd.Qao)); exact HO_3.out) hb); have n2_ := Qad.mk (Kd.QaC (by (with_reducible repeat (first | apply Kd.Qam | apply Kd.Qan | apply Kd.Qao)); exact HO_4.out) hb); have n3_ := Qad.mk (Kd.QaC (by (with_reducible repeat (first | apply Kd.Qam | apply Kd.Qan | apply Kd.Qao)); exact HO_5.out) hb); have n4_ := Qad.mk (Kd.R_elder' (by (with_reducible repeat (first | apply Kd.Qam | apply Kd.Qan | apply Kd.Qao)); exact HO116.out) (Kd.R_base ho0) hb); have n5_ := Qad.mk (Kd.QaC (by (with_reducible repeat (first | apply Kd.Qam | apply Kd.Qan | apply Kd.Qao)); exact HO119.out) hb); have n6_ := Qad.mk (Kd.R_lower (Kd.R_new' ho0 (Kd.R_lt (by (with_reducible repeat (first | apply Kd.Qam | apply Kd.Qan | apply Kd.Qao)); exact HO116.out))) (Qap (by repeat (first | (with_reducible first | exact HB.out | apply Qac | apply Qaa | apply Qab) | exact HB.out)))); have n7_ := Qad.mk (Qal (by repeat (first | (with_reducible first | exact HB.out | apply Qac | apply Qaa | apply Qab) | exact HB.out)) hb); clear HO_0; clear HO_3; clear HO_4; clear HO_5; clear HO116; clear HO119; clear HB; have HO_0 := n0_; have HO_3 := n1_; have HO_4 := n2_; have HO_5 := n3_; have HO116 := n4_; have HO119 := n5_; have HO122 := n6_; have HB := n7_; clear n0_ n1_ n2_ n3_ n4_ n5_ n6_ n7_; (try clear hb); (try clear hb2); (try clear hk); (try clear hi); (try clear ho0); obtain ⟨Ao54, co54, eo54⟩ := Kd.QaT HO122.out; subst eo54) | ((with_reducible refine Qaz (f := 11) rfl ?_); refine Qbd (some 38) rfl rfl Tryd.func11 (by kernel_rfl) rfl #[.slice Ao54 t120.length co54] rfl (by (try simp only [List.map_toArray, List.map_cons, List.map_nil]); first | done | rfl | (simp only [List.length_drop, List.length_take]; rfl)) ?_; (with_reducible refine (Qas.calls k1 _ _ t120 t123 _ ?side1 ?side2 A19.out).mono ?_); (case side1 => repeat (first | exact (Kd.Qay HO122.out).2.2 | (with_reducible refine Kd.QaQ ?_ _) | (with_reducible refine Kd.QaR ?_ _) | (with_reducible refine Kd.Qa7 ?_))); (case side2 => exact (Kd.Qay HO122.out).2.1); rintro e w55 ⟨v124, rfl, ho0, hb⟩; refine ⟨_, rfl, ?_⟩; have n0_ := Qad.mk (Kd.V_elder' (by (with_reducible repeat (first | apply Kd.Qa9 | apply Kd.Qa8 | apply Kd.V_drew)); exact HO_0.out) (Kd.R_base ho0) hb); have n1_ := Qad.mk (Kd.QaC (by (with_reducible repeat (first | apply Kd.Qam | apply Kd.Qan | apply Kd.Qao)); exact HO_3.out) hb); have n2_ := Qad.mk (Kd.QaC (by (with_reducible repeat (first | apply Kd.Qam | apply Kd.Qan | apply Kd.Qao)); exact HO_4.out) hb); have n3_ := Qad.mk (Kd.QaC (by (with_reducible repeat (first | apply Kd.Qam | apply Kd.Qan | apply Kd.Qao)); exact HO_5.out) hb); have n4_ := Qad.mk (Kd.QaC (by (with_reducible repeat (first | apply Kd.Qam | apply Kd.Qan | apply Kd.Qao)); exact HO116.out) hb); have n5_ := Qad.mk (Kd.R_elder' (by (with_reducible repeat (first | apply Kd.Qam | apply Kd.Qan | apply Kd.Qao)); exact HO119.out) (Kd.R_base ho0) hb); have n6_ := Qad.mk (Kd.QaC (by (with_reducible repeat (first | apply Kd.Qam | apply Kd.Qan | apply Kd.Qao)); exact HO122.out) hb); have n7_ := Qad.mk (Kd.R_lower (Kd.R_new' ho0 (Kd.R_lt (by (with_reducible repeat (first | apply Kd.Qam | apply Kd.Qan | apply Kd.Qao)); exact HO119.out))) (Qap (by repeat (first | (with_reducible first | exact HB.out | apply Qac | apply Qaa | apply Qab) | exact HB.out)))); have n8_ := Qad.mk (Qal (by repeat (first | (with_reducible first | exact HB.out | apply Qac | apply Qaa | apply Qab) | exact HB.out)) hb); clear HO_0; clear HO_3; clear HO_4; clear HO_5; clear HO116; clear HO119; clear HO122; clear HB; have HO_0 := n0_; have HO_3 := n1_; have HO_4 := n2_; have HO_5 := n3_; have HO116 := n4_; have HO119 := n5_; have HO122 := n6_; have HO125 := n7_; have HB := n8_; clear n0_ n1_ n2_ n3_ n4_ n5_ n6_ n7_ n8_; (try clear hb); (try clear hb2); (try clear hk); (try clear hi); (try clear ho0); obtain ⟨Ao56, co56, eo56⟩ := Kd.QaT HO119.out; subst eo56; obtain ⟨Ao57, co57, eo57⟩ := Kd.QaT HO125.out; subst eo57) | ((with_reducible refine Qaz (f := 10) rfl ?_); refine Qbd (some 39) rfl rfl Tryd.func10 (by kernel_rfl) rfl #[.slice Ao56 t117.length co56, .slice Ao57 t123.length co57] rfl (by (try simp only [List.map_toArray, List.map_cons, List.map_nil]); first | done | rfl | (simp only [List.length_drop, List.length_take]; rfl)) ?_; (with_reducible refine (QaS.calls k1 _ _ t117 _ _ t123 false _ ?side1 ?side2 ?side3 ?side4 A20.out).mono ?_); (case side1 => repeat (first | exact (Kd.Qay HO119.out).2.2 | (with_reducible refine Kd.QaQ ?_ _) | (with_reducible refine Kd.QaR ?_ _) | (with_reducible refine Kd.Qa7 ?_))); (case side2 => exact (Kd.Qay HO119.out).2.1); (case side3 => repeat (first | exact (Kd.Qay HO125.out).2.2 | (with_reducible refine Kd.QaQ ?_ _) | (with_reducible refine Kd.QaR ?_ _) | (with_reducible refine Kd.Qa7 ?_))); (case side4 => exact (Kd.Qay HO125.out).2.1); rintro e w' ⟨rfl, ⟨nd, rfl⟩⟩; refine ⟨_, rfl, ?_⟩; obtain ⟨Ao58, co58, eo58⟩ := Kd.QaT HO_3.out; subst eo58) | ((with_reducible refine Qaz (f := 20) rfl ?_); refine Qbd (some 42) rfl rfl Tryd.func20 (by kernel_rfl) rfl #[.slice Ao58 y104.length co58, .slice Ao7 t101.length co7] rfl (by (try simp only [List.map_toArray, List.map_cons, List.map_nil]); first | done | rfl | (simp only [List.length_drop, List.length_take]; rfl)) ?_; (with_reducible refine (Qbf.calls k1 _ _ y104 _ _ t101 t127 _ ?side1 ?side2 ?side3 ?side4 A21.out).mono ?_); (case side1 => repeat (first | exact (Kd.Qay HO_3.out).2.2 | (with_reducible refine Kd.QaQ ?_ _) | (with_reducible refine Kd.QaR ?_ _) | (with_reducible refine Kd.Qa7 ?_))); (case side2 => exact (Kd.Qay HO_3.out).2.1); (case side3 => repeat (first | exact (Kd.Qa3 HO_0.out).2.2 | (with_reducible refine Kd.QaQ ?_ _) | (with_reducible refine Kd.QaR ?_ _) | (with_reducible refine Kd.Qa7 ?_))); (case side4 => exact (Kd.Qa3 HO_0.out).2.1); rintro e w' ⟨rfl, ⟨nd, rfl⟩⟩; refine ⟨_, rfl, ?_⟩))
      go_ret; exact ⟨by first | rfl | (simp [Qau, Qat] <;> rfl) | (simp [*, Qau, Qat] <;> rfl), by repeat (first | (with_reducible first | exact HB.out | apply Qac | apply Qaa | apply Qab) | exact HB.out)⟩
 ·rw [if_neg c3] at H; exact absurd H (by simp)
end Go.Proofs.YtpjddgmdgfjlfaaDoor.Pr
end
section
namespace Go.Proofs.YtpjddgmdgfjlfaaDoor.Pr
open Go.RowKit Go.Proofs.YtpjddgmdgfjlfaaDoorW.PrintWords Go.Proofs.YtpjddgmdgfjlfaaDoorW.PrintLast Go.Proofs.YtpjddgmdgfjlfaaDoorW.PrintMore
theorem few_is (l : List Cred) : Qa5.f l = some (l.take 14) := by
  unfold Qa5.f
  by_cases h : (l.length : Int) > 14
  · rw [if_pos h, if_pos (by omega)]
  · rw [if_neg h, List.take_of_length_le (by omega)]
theorem rdPair (l : List Pair) (i : Nat) : rd_T47 l (i : Int) = l[i]! := by
  unfold rd_T47; rw [Int.toNat_natCast, List.getElem!_eq_getElem?_getD, List.getD_eq_getElem?_getD]; rfl
theorem told_l0 (A : List Pair) (hA : A.length < 1000000) : ∀ (n i : Nat) (out : List RPair), n + i = A.length → out.length ≤ i → Ev (fun k => Qas.l0 k A out (i : Int)) (out ++ (A.drop i).map toR)
  | 0, i, out, hn, ho => by
    rw [show A.drop i = [] from List.drop_eq_nil_of_le (by omega), List.map_nil, List.append_nil]; refine Ev.step (fun k => ?_) (Ev.pure _); rw [Qas.l0, if_neg (by omega)]
  | n + 1, i, out, hn, ho => by
    rw [drop_bang (by omega : i < A.length), List.map_cons]; have := told_l0 A hA n (i + 1) (out ++ [toR A[i]!]) (by omega) (by simp; omega); rw [List.append_assoc, List.singleton_append] at this; refine Ev.step (fun k => ?_) this; rw [Qas.l0, if_pos (by omega), if_pos (by omega), if_pos (by omega), wrap_succ (by omega), rdPair]; rfl
theorem told_ev (A : List Pair) (hA : A.length < 1000000) : Ev (fun k => Qas.f k A) (A.map toR) := by
  have := told_l0 A hA A.length 0 [] (by omega) (by simp); rw [List.drop_zero, List.nil_append] at this; exact this
theorem same_l0 (X : List RPair) (hX : X.length < 1000000) : ∀ (n i : Nat), n + i = X.length → Ev (fun k => QaS.l0 k X X (i : Int)) true
  | 0, i, hn => by
    refine Ev.step (fun k => ?_) (Ev.pure _); rw [QaS.l0, if_neg (by omega)]
  | n + 1, i, hn => by
    refine Ev.step (fun k => ?_) (same_l0 X hX n (i + 1) (by omega)); rw [QaS.l0, if_pos (by omega), if_pos (by omega), if_pos (by omega), wrap_succ (by omega), if_neg (by simp)]
theorem same_ev (X : List RPair) (hX : X.length < 1000000) : Ev (fun k => QaS.f k X X) true := by
  unfold QaS.f; simp only [if_true]; exact same_l0 X hX X.length 0 (by omega)
theorem credSame_l0 (X : List Cred) (hX : X.length < 1000000) : ∀ (n i : Nat), n + i = X.length → Ev (fun k => Qbf.l0 k X X (i : Int)) true
  | 0, i, hn => by
    refine Ev.step (fun k => ?_) (Ev.pure _); rw [Qbf.l0, if_neg (by omega)]
  | n + 1, i, hn => by
    refine Ev.step (fun k => ?_) (credSame_l0 X hX n (i + 1) (by omega)); rw [Qbf.l0, if_pos (by omega), if_pos (by omega), if_pos (by omega), wrap_succ (by omega), if_neg (by simp)]
theorem credSame_ev (X : List Cred) (hX : X.length < 1000000) : Ev (fun k => Qbf.f k X X) true := by
  unfold Qbf.f; simp only [if_true]; exact credSame_l0 X hX X.length 0 (by omega)
def membersOf (A : List Pair) (r : Role) : List ByteArray := (A.filter fun p => decide (p.f0 = r)).map fun p => p.f1
theorem members_l0 (A : List Pair) (hA : A.length < 1000000) (r : Role) : ∀ (n i : Nat) (out : List ByteArray), n + i = A.length → out.length ≤ i → Ev (fun k => QaJ.l0 k out A (A.length : Int) (i : Int) r.f0 r.f1) (out ++ membersOf (A.drop i) r)
  | 0, i, out, hn, ho => by
    rw [show A.drop i = [] from List.drop_eq_nil_of_le (by omega)]; refine Ev.step (fun k => ?_) (Ev.pure _); rw [QaJ.l0, if_neg (by omega)]; simp [membersOf]
  | n + 1, i, out, hn, ho => by
    rw [drop_bang (by omega : i < A.length)]; unfold membersOf; rw [List.filter_cons]
    by_cases e : A[i]!.f0 = r
    · rw [decide_eq_true e, if_pos rfl, List.map_cons]
      have := members_l0 A hA r n (i + 1) (out ++ [A[i]!.f1]) (by omega) (by simp; omega); rw [List.append_assoc, List.singleton_append] at this; refine Ev.step (fun k => ?_) this; rw [QaJ.l0, if_pos (by omega), if_pos (by omega), if_pos (by omega), wrap_succ (by omega), rdPair, role_beq, decide_eq_true (p := A[i]!.f0 = ⟨r.f0, r.f1⟩) e, if_pos rfl, if_pos (by omega)]
    · rw [decide_eq_false e, if_neg (by decide)]
      refine Ev.step (fun k => ?_) (members_l0 A hA r n (i + 1) out (by omega) (by omega)); rw [QaJ.l0, if_pos (by omega), if_pos (by omega), if_pos (by omega), wrap_succ (by omega), rdPair, role_beq, decide_eq_false (p := A[i]!.f0 = ⟨r.f0, r.f1⟩) e, if_neg (by decide)]
theorem members_ev {l : List Cred} {A : List Pair} (h : Qa1.f l = some A) (hA : A.length < 1000000) (r : Role) : Ev (fun k => QaJ.f k l r.f0 r.f1) (membersOf A r) := by
  unfold QaJ.f; rw [h]; have := members_l0 A hA r A.length 0 [] (by omega) (by simp); rw [List.drop_zero, List.nil_append] at this; exact this
theorem pair_beq (p : Pair) (a b c : ByteArray) : ((a.toList == p.f0.f0.toList && (b.toList == p.f0.f1.toList)) && (c.toList == p.f1.toList)) = decide (p = ⟨⟨a, b⟩, c⟩) := by
  rw [beq_dec, beq_dec, beq_dec, Bool.eq_iff_iff, Bool.and_eq_true, Bool.and_eq_true, decide_eq_true_eq, decide_eq_true_eq, decide_eq_true_eq, decide_eq_true_eq]; exact ⟨fun h => pair_ext (role_ext h.1.1.symm h.1.2.symm) h.2.symm, fun h => by rw [h]; exact ⟨⟨rfl, rfl⟩, rfl⟩⟩
theorem index_l0 (A : List Pair) (hA : A.length < 1000000) (a b c : ByteArray) : ∀ (n i : Nat), n + i = A.length → ∃ v : Int, Ev (fun k => Qbc.l0 k A (A.length : Int) (i : Int) a b c) v ∧ (v ≥ 0 ↔ (⟨⟨a, b⟩, c⟩ : Pair) ∈ A.drop i)
  | 0, i, hn => by
    rw [show A.drop i = [] from List.drop_eq_nil_of_le (by omega)]; refine ⟨-1, Ev.step (fun k => ?_) (Ev.pure _), by simp⟩; rw [Qbc.l0, if_neg (by omega)]
  | n + 1, i, hn => by
    rw [drop_bang (by omega : i < A.length)]
    by_cases e : A[i]! = ⟨⟨a, b⟩, c⟩
    · refine ⟨(i : Int), Ev.step (fun k => ?_) (Ev.pure _), ⟨fun _ => by rw [e]; exact List.mem_cons_self .., fun _ => by omega⟩⟩
      rw [Qbc.l0, if_pos (by omega), if_pos (by omega), if_pos (by omega), rdPair, pair_beq, decide_eq_true e, if_pos rfl]
    · obtain ⟨v, h1, h2⟩ := index_l0 A hA a b c n (i + 1) (by omega)
      refine ⟨v, Ev.step (fun k => ?_) h1, h2.trans ⟨fun h => List.mem_cons_of_mem _ h, fun h => (List.mem_cons.mp h).resolve_left (fun h => e h.symm)⟩⟩; rw [Qbc.l0, if_pos (by omega), if_pos (by omega), if_pos (by omega), wrap_succ (by omega), rdPair, pair_beq, decide_eq_false e, if_neg (by decide)]
theorem has_ev {l : List Cred} {A : List Pair} (h : Qa1.f l = some A) (hA : A.length < 1000000) (who : ByteArray) (r : Role) : Ev (fun k => solve_Has.f k l who r.f0 r.f1) (decide ((⟨r, who⟩ : Pair) ∈ A)) := by
  unfold solve_Has.f solve_Pair_25.f; rw [h]; obtain ⟨v, h1, h2⟩ := index_l0 A hA r.f0 r.f1 who A.length 0 (by omega); rw [List.drop_zero] at h2; refine Ev.bind (a := decide ((⟨r, who⟩ : Pair) ∈ A)) (Ev.bind h1 ?_) (Ev.pure _)
  have e : decide (v ≥ 0) = decide ((⟨r, who⟩ : Pair) ∈ A) := by
    rw [Bool.eq_iff_iff, decide_eq_true_eq, decide_eq_true_eq]; exact h2
  rw [e]; exact Ev.pure _
def ex1 : Cred := ⟨⟨1, 1⟩, ⟨#[97]⟩, 3, ⟨#[]⟩, ⟨⟨#[]⟩, ⟨#[98]⟩⟩, ⟨⟨#[]⟩, ⟨#[99]⟩⟩⟩
def ex2 : Cred := ⟨⟨1, 2⟩, ⟨#[98]⟩, 1, ⟨#[100, 50]⟩, ⟨⟨#[]⟩, ⟨#[]⟩⟩, ⟨⟨#[]⟩, ⟨#[]⟩⟩⟩
def ex3 : Cred := ⟨⟨2, 1⟩, ⟨#[99]⟩, 1, ⟨#[98, 111, 98]⟩, ⟨⟨#[]⟩, ⟨#[]⟩⟩, ⟨⟨#[]⟩, ⟨#[]⟩⟩⟩
def exP1 : Pair := ⟨⟨⟨#[100, 49]⟩, ⟨#[97]⟩⟩, ⟨#[98, 111, 98]⟩⟩
def exP2 : Pair := ⟨⟨⟨#[100, 49]⟩, ⟨#[98]⟩⟩, ⟨#[100, 50]⟩⟩
def exP3 : Pair := ⟨⟨⟨#[100, 50]⟩, ⟨#[99]⟩⟩, ⟨#[98, 111, 98]⟩⟩
theorem noText_dec (s : ByteArray) : noText s = decide (s = ⟨#[]⟩) := by
  unfold noText; rw [Bool.eq_iff_iff, beq_iff_eq, empty_iff, decide_eq_true_eq]
theorem ex1_may : credMay ex1 = true := by
  unfold credMay roleOk bareOk noRole; simp only [noText_dec]
  decide
theorem ex2_may : credMay ex2 = true := by
  unfold credMay roleOk bareOk noRole; simp only [noText_dec]
  decide
theorem ex3_may : credMay ex3 = true := by
  unfold credMay roleOk bareOk noRole; simp only [noText_dec]
  decide
def exs : List Cred := [ex1, ex2, ex3]
theorem exs_counts (c : Cred) : c ∈ counts exs ↔ c = ex1 ∨ c = ex2 ∨ c = ex3 := by
  rw [(counts_spec exs).mem]; constructor
  · intro h
    have := h.mem
    simpa [exs] using this
  · rintro (rfl | rfl | rfl)
    · unfold First exs
      rw [List.find?_cons, ex1_may, show sameID ex1 ex1 = true by decide]; rfl
    · unfold First exs
      rw [List.find?_cons, show sameID ex1 ex2 = false by decide, Bool.and_false, List.find?_cons, ex2_may, show sameID ex2 ex2 = true by decide]; rfl
    · unfold First exs
      rw [List.find?_cons, show sameID ex1 ex3 = false by decide, Bool.and_false, List.find?_cons, show sameID ex2 ex3 = false by decide, Bool.and_false, List.find?_cons, ex3_may, show sameID ex3 ex3 = true by decide]; rfl
theorem exs_all : AllOf (counts exs) [exP1, exP2, exP3] where
  sorted := by
    have h12 : pairLess exP1 exP2 = true := by
      unfold pairLess roleLess; simp only [ByteArray.toList_eq]
      decide
    have h13 : pairLess exP1 exP3 = true := by
      unfold pairLess roleLess; simp only [ByteArray.toList_eq]
      decide
    have h23 : pairLess exP2 exP3 = true := by
      unfold pairLess roleLess; simp only [ByteArray.toList_eq]
      decide
    simp [h12, h13, h23]
  mem p := by
    have m1 : ex1 ∈ counts exs := (exs_counts _).mpr (.inl rfl); have m2 : ex2 ∈ counts exs := (exs_counts _).mpr (.inr (.inl rfl)); have m3 : ex3 ∈ counts exs := (exs_counts _).mpr (.inr (.inr rfl)); have s2 : Said (counts exs) exP2 := Said.member m2 rfl; have s3 : Said (counts exs) exP3 := Said.member m3 rfl; have s1 : Said (counts exs) exP1 := Said.link (c := ex1) (u := ⟨#[100, 50]⟩) m1 rfl s2 (by decide) s3; constructor
    · intro h
      simp only [List.mem_cons, List.not_mem_nil, or_false] at h
      rcases h with rfl | rfl | rfl
      · exact s1
      · exact s2
      · exact s3
    · intro h
      induction h with
      | @member c hc k =>
        rcases (exs_counts c).mp hc with rfl | rfl | rfl
        · exact absurd k (by decide)
        · exact .tail _ (.head _)
        · exact .tail _ (.tail _ (.head _))
      | @incl c u hc k _ ih =>
        rcases (exs_counts c).mp hc with rfl | rfl | rfl
        · exact absurd k (by decide)
        · exact absurd k (by decide)
        · exact absurd k (by decide)
      | @link c u v hc k _ n _ ih1 ih2 =>
        rcases (exs_counts c).mp hc with rfl | rfl | rfl
        · have hu : u = ⟨#[100, 50]⟩ := by
            simp only [List.mem_cons, List.not_mem_nil, or_false] at ih1
            rcases ih1 with e | e | e
            · exact absurd (congrArg S47.f0 e) (show ¬ linkFirst ex1 = exP1.f0 by decide)
            · exact congrArg S47.f1 e
            · exact absurd (congrArg S47.f0 e) (show ¬ linkFirst ex1 = exP3.f0 by decide)
          have hv : v = ⟨#[98, 111, 98]⟩ := by
            rw [hu] at ih2; simp only [List.mem_cons, List.not_mem_nil, or_false] at ih2
            rcases ih2 with e | e | e
            · exact absurd (congrArg S47.f0 e) (show ¬ (⟨⟨#[100, 50]⟩, ex1.f5.f1⟩ : Role) = exP1.f0 by decide)
            · exact absurd (congrArg S47.f0 e) (show ¬ (⟨⟨#[100, 50]⟩, ex1.f5.f1⟩ : Role) = exP2.f0 by decide)
            · exact congrArg S47.f1 e
          rw [hv]; exact .head _
        · exact absurd k (by decide)
        · exact absurd k (by decide)
      | @both c u hc k _ _ ih1 ih2 =>
        rcases (exs_counts c).mp hc with rfl | rfl | rfl
        · exact absurd k (by decide)
        · exact absurd k (by decide)
        · exact absurd k (by decide)
theorem exs_ok : ∀ c ∈ exs, okCred c := by
  intro c hc
  have : c = ex1 ∨ c = ex2 ∨ c = ex3 := by simpa [exs] using hc
  rcases this with rfl | rfl | rfl <;> exact ⟨by decide, by decide, ⟨by decide, by decide⟩, by decide, by decide⟩
theorem exs_is : Qa1.f exs = some [exP1, exP2, exP3] := by
  obtain ⟨A, h1, h2⟩ := all_is exs (by decide) exs_ok; rw [h1, h2.unique exs_all]
theorem lives_ev : Ev (fun k => QaH.f k) true := by
  unfold QaH.f
  show Ev (fun k => (QaJ.f k exs ⟨#[100, 49]⟩ ⟨#[97]⟩).bind _) true
  refine Ev.bind (members_ev exs_is (by decide) ⟨⟨#[100, 49]⟩, ⟨#[97]⟩⟩) ?_; rw [show membersOf [exP1, exP2, exP3] ⟨⟨#[100, 49]⟩, ⟨#[97]⟩⟩ = [⟨#[98, 111, 98]⟩] by decide]
  have e1 : (rdOf ByteArray.empty [(⟨#[98, 111, 98]⟩ : ByteArray)] 0).toList = [98, 111, 98] := by
    rw [ByteArray.toList_eq]; rfl
  simp only [e1, List.length_cons, List.length_nil]; refine Ev.bind (a := true) ?_ ?_
  · have := has_ev exs_is (by decide) ⟨#[98, 111, 98]⟩ ⟨⟨#[100, 50]⟩, ⟨#[99]⟩⟩
    rw [show decide ((⟨⟨⟨#[100, 50]⟩, ⟨#[99]⟩⟩, ⟨#[98, 111, 98]⟩⟩ : Pair) ∈ [exP1, exP2, exP3]) = true by decide] at this; exact this
  · simp only [if_true]
    refine Ev.bind (a := false) ?_ ?_
    · have := has_ev exs_is (by decide) ⟨#[97, 110, 110]⟩ ⟨⟨#[100, 50]⟩, ⟨#[99]⟩⟩
      rw [show decide ((⟨⟨⟨#[100, 50]⟩, ⟨#[99]⟩⟩, ⟨#[97, 110, 110]⟩⟩ : Pair) ∈ [exP1, exP2, exP3]) = false by decide] at this; exact this
    · show Ev (fun _ => (Qa1.f exs).bind _) true
      rw [exs_is]; exact Ev.pure _
theorem take_len (l : List Cred) : (l.take 14).length ≤ 14 := by simp; omega
theorem take_ok {l : List Cred} (h : ∀ c ∈ l, okCred c) : ∀ c ∈ l.take 14, okCred c := fun c hc => h c (List.mem_of_mem_take hc)
theorem counts_back (l : List Cred) : counts (counts l).reverse = counts l := by
  refine Counts.unique (counts_spec _) ⟨(counts_spec l).sorted, fun c => ?_⟩; constructor
  · intro h
    have hm := counts_mays l c h; unfold First
    cases e : (counts l).reverse.find? (fun d => credMay d && sameID d c) with
    | none =>
      rw [List.find?_eq_none] at e; have := e c (by simpa using h); rw [hm, sameID_iff.mpr ⟨rfl, rfl⟩] at this; exact absurd rfl this
    | some d =>
      have h1 := List.find?_some e; have h2 := List.mem_of_find?_eq_some e; rw [List.mem_reverse] at h2; rw [Bool.and_eq_true, sameID_iff] at h1; have h3 := ((counts_spec l).mem d).mp h2; have h4 := ((counts_spec l).mem c).mp h; unfold First at h3 h4
      have e5 : (fun x => credMay x && sameID x d) = (fun x => credMay x && sameID x c) := by
        funext x
        unfold sameID; rw [h1.2.1, h1.2.2]
      rw [e5, h4] at h3; exact h3.symm
  · intro h
    have := h.mem
    rwa [List.mem_reverse] at this
theorem solveOrder_l0 (x own c : List Cred) (hx : x.length ≤ 14) (hok : ∀ c ∈ x, okCred c) (e1 : own = x) (hc : c = counts x) : ∀ (n i : Nat), n + i = c.length → Ev (fun k => Qa4.l0 k x own c (c.reverse.take i) (i : Int)) true
  | 0, i, hn => by
    have hlen := counts_length x; obtain ⟨A, h1, h2⟩ := all_is x (by omega) hok; have hA := h2.length (by omega)
    have hb : c.reverse.take i = (counts x).reverse := by rw [hc, List.take_of_length_le (by rw [List.length_reverse, ← hc]; omega)]
    obtain ⟨B, h3, h4⟩ := all_is (counts x).reverse (by rw [List.length_reverse]; omega) (fun d hd => hok d (((counts_spec x).mem d).mp (by simpa using hd)).mem); rw [counts_back] at h4; have hAB : B = A := h4.unique h2; subst hAB; rw [hb]; refine Ev.step (fun k => by rw [Qa4.l0, if_neg (by omega)]) ?_; simp only [h1, h3, Option.bind_some]; refine Ev.bind (told_ev B (by omega)) (Ev.bind (told_ev B (by omega)) (Ev.bind (same_ev _ (by rw [List.length_map]; omega)) ?_)); rw [e1]; refine Ev.bind (credSame_ev x (by omega)) ?_; simp only [if_true]; exact Ev.bind lives_ev (Ev.pure _)
  | n + 1, i, hn => by
    have hlen := counts_length x; rw [← hc] at hlen
    have hi : i < c.reverse.length := by rw [List.length_reverse]; omega
    have ht : c.reverse.take (i + 1) = c.reverse.take i ++ [c[c.length - 1 - i]!] := by
      rw [List.take_add_one, List.getElem?_eq_getElem hi, List.getElem_reverse, getBang (by omega)]; rfl
    have hr := solveOrder_l0 x own c hx hok e1 hc n (i + 1) (by omega); rw [ht] at hr; refine Ev.step (fun k => ?_) hr
    have hw : wrap64 ((wrap64 ((c.length : Int) - 1)) - (i : Int)) = ((c.length - 1 - i : Nat) : Int) := by unfold wrap64; omega
    rw [Qa4.l0, if_pos (by omega), hw, if_pos (by omega), if_pos (by omega), if_pos (by have := List.length_take_le i c.reverse; omega), wrap_succ (by omega), rdCred]
theorem solveOrder_true (l : List Cred) (hok : ∀ c ∈ l, okCred c) : Ev (fun k => Qa4.f k l) true := by
  unfold Qa4.f; rw [few_is]; have hlen := take_len l; simp only [Option.bind_some, if_pos (show ([] : List Cred).length + (l.take 14).length < 1172812402961 by simp; omega)]; exact Ev.bind (refCounts_is _ (by omega)) (solveOrder_l0 (l.take 14) _ _ hlen (take_ok hok) (List.nil_append _) rfl (counts (l.take 14)).length 0 (by omega))
end Go.Proofs.YtpjddgmdgfjlfaaDoor.Pr
end
section
namespace Go.Proofs.YtpjddgmdgfjlfaaDoor.Pr
open Go.RowKit Go.Proofs.YtpjddgmdgfjlfaaDoorW.PrintWords Go.Proofs.YtpjddgmdgfjlfaaDoorW.PrintLast Go.Proofs.YtpjddgmdgfjlfaaDoorW.PrintMore
def within (cs : List Cred) (base : List RPair) (x : RPair) : Prop := (∃ c ∈ cs, x.f0 = credRole c) ∧ x.f1 ∈ cs.map (fun c => c.f3) ++ base.map (fun p => p.f1)
end Go.Proofs.YtpjddgmdgfjlfaaDoor.Pr
end
