/- The proof's own texts, joined: part 10. No conditions. -/
import Derived.Test.YtmaipohgahdclaaGreatDoorProg
import Derived.Below
import Derived.Deep.Draws
import Derived.Deep.AppendLies
import Derived.Maps.AppendAt
import Derived.OwnWalk
import Derived.Laws.BytesArg
import Derived.Laws.MakeOwn
import Derived.Laws.OwnMore
import Derived.Deep.OwnRows
import Derived.Tactics
import Derived.Lib.ConvBytes
import Derived.Laws.Slices
import Derived.WalkKit
import Derived.KernelRfl
import Derived.RowKit3
import Derived.Deep.LoopGhost
import Derived.Deep.QuietTactic
import Derived.BigQuiet
import Derived.WideLaws
import Derived.Deep.DeepCutAuto
import Derived.Deep.CutBlock
import Derived.Deep.RegionHeld3
import Derived.Laws.Rows
import Derived.Lib.AppendStr
import Derived.ArgAppend
import Derived.Laws.IdiomCopy
import Derived.OrdersHeld
import Derived.Laws.BitsLemmas
import Derived.RowKit
import Derived.Laws.StructEq
import Derived.Maps.OwnSet
import Derived.Maps.RangeRun
import Derived.Maps.Range
import Derived.Carry
import Derived.WalkSpells
import Derived.Lib.Hide
import Derived.WalkLawsBesides
import Derived.Laws.RangeAny
import Derived.Laws.Closers25
import Derived.Outline
import Derived.Shelf.SlSortCmp.NoneTotal
import Derived.Sort.Grow
import Derived.DeepKeys4
import Derived.RegionTactic
import Derived.ChangeAlike
import Derived.Deep.RegionLaw
import Derived.Lib.SmallJoins
import Derived.Shelf.GgSortFunc.InsertionK
import Derived.Shelf.SlicesG.Cmp
import Derived.Ground.SlgcProg
import Derived.Deep.RegionWith
import Derived.Lib.SlicesS
import Derived.Shelf.SlicesE.Clone
import Derived.StillTailTactics
import Derived.Sort.Walk0
import Derived.Laws.Strings
import Derived.Shelf.SlSortCmp.WholeK
import Derived.Ground.SlsfProg
import Derived.Ground.SlgnProg
import Derived.ProofKit
import Derived.ChangeSlices
import Derived.DataElems
import Derived.Sort.LotA
import Derived.Test.YtmaipohgahdclaaGreatDoorPa0
import Derived.Test.YtmaipohgahdclaaGreatDoorPa1
import Derived.Test.YtmaipohgahdclaaGreatDoorPa2
import Derived.Test.YtmaipohgahdclaaGreatDoorPa3
import Derived.Test.YtmaipohgahdclaaGreatDoorPa4
import Derived.Test.YtmaipohgahdclaaGreatDoorPa5
import Derived.Test.YtmaipohgahdclaaGreatDoorPa6
import Derived.Test.YtmaipohgahdclaaGreatDoorPa7
import Derived.Test.YtmaipohgahdclaaGreatDoorPa8
import Derived.Test.YtmaipohgahdclaaGreatDoorPa9
section
namespace Go.Proofs.YtmaipohgahdclaaGreatDoor.Pr
open Go.RowKit Go.Proofs.YtmaipohgahdclaaGreatDoorW.PrintWords Go.Proofs.YtmaipohgahdclaaGreatDoorW.PrintLast Go.Proofs.YtmaipohgahdclaaGreatDoorW.PrintMore
attribute [local go_sem] QaU QaS max_two min_two QaM QaL QaT QaR
set_option linter.unusedVariables false
set_option linter.unusedSimpArgs false
def liveryref06_Has.f (k : Nat) (l0 : List (S42)) (a1 : ByteArray) (a2_0 : ByteArray) (a2_1 : ByteArray) : Option (Bool) := (Qan.f k l0).bind fun t102 => ((QaP.f k t102 a2_0 a2_1 a1).bind fun t105 => (some t105))
set_option maxHeartbeats 8000000 in
set_option maxRecDepth 100000 in
theorem liveryref06_Has.calls (k : Nat) (A0 : Option Addr) (c0 : Nat) (l0 : List (S42)) (a1 : ByteArray) (a2_0 : ByteArray) (a2_1 : ByteArray) (r : Bool) (w : World) (hr0 : Kd.C k42 w A0 l0.length l0) (hc0 : l0.length ≤ c0) (h : liveryref06_Has.f k l0 a1 a2_0 a2_1 = some r) :
  Calls Tryz.prog 9 #[.slice A0 l0.length c0, .string a1, .agg #[.string a2_0, .string a2_1]] w fun e w' => e = .returned (.bool r) ∧ Below w.heap.size w w' := by
 have hu24 := Tryz.underlying24; have hu56 := Tryz.underlying56; have HR0 := Qad.mk hr0; have HC0 := Qad.mk hc0; clear hr0 hc0; have HB := Qad.mk (Below.refl w.heap.size w); have H : ((Qan.f k l0).bind fun t102 => ((QaP.f k t102 a2_0 a2_1 a1).bind fun t105 => (some t105))) = some r := h; clear h; replace H := Option.bind_eq_some_iff.mp H; obtain ⟨t102, A40, H⟩ := H; replace H : ((QaP.f k t102 a2_0 a2_1 a1).bind fun t105 => (some t105)) = some r := H; have A4 := Qad.mk A40; clear A40; replace H := Option.bind_eq_some_iff.mp H; obtain ⟨t105, A50, H⟩ := H; replace H : (some t105) = some r := H; have A5 := Qad.mk A50; clear A50; obtain rfl := Option.some.inj H; go_enter Tryz.func9, Tryz.ntmps9
 try go_wp2_with (first | ((with_reducible refine QaN (N := 5) rfl ?_); refine QaK ?hg (N := 5) ?hd (cs := #[.string a2_0, .string a2_1]) (t := 24) ?hr ?_; (case hd => rfl); (case hg => rfl); (case hr => first | (go_simp; done) | (go_simp; rfl)); intro gb101 hg w6 hbox hb; have n0_ := Qad.mk (Qak (by repeat (first | (with_reducible first | exact HB.out | apply Qab | apply Qaa | apply Qac) | exact HB.out)) hb); have n1_ := Qad.mk (hbox); have n2_ := Qad.mk ((by rw [hg]; exact (Qas (by repeat (first | (with_reducible first | exact HB.out | apply Qab | apply Qaa | apply Qac) | exact HB.out))) : w.heap.size ≤ gb101)); have n3_ := n2_; clear HB; have HB := n0_; have BK101 := n1_; have GW101 := n2_; have GE101 := n3_; clear n0_ n1_ n2_ n3_; clear hb hbox hg))
 have n0_ := Qad.mk (Qah BK101.out); have n1_ := Qad.mk (Qac HB.out); clear BK101; clear HB; have BK101 := n0_; have HB := n1_; clear n0_ n1_; refine start_ (n := 7) (S := fun w' => w'.cell? ⟨gb101, 0, none⟩ = some (.string a2_0) ∧ w'.cell? ⟨gb101, 1, none⟩ = some (.string a2_1)) (ds := []) #[ff,ff,ff,ff,ff,ff,ff] (by kernel_rfl) rfl rfl ⟨(Qaj BK101.out 0).trans rfl, (Qaj BK101.out 1).trans rfl⟩ (fun hHeld => ?_)
 generalize w6.drew = w7 at BK101 HB hHeld ⊢
 refine QaI (i := 0) (N := some 7) (v := ?_) (a' := ?_) #[tt,ff,ff,ff,ff,ff,ff] rfl rfl (by kernel_rfl) (fun _ _ _ h => h) (Or.inl ⟨by rfl, ?_⟩) ?_ ?_; rotate_left
 ·intro w'; go_simp; (with_reducible rfl)
 rotate_left
 ·simp only [Act.put, put_, Qax, Qaz]; rfl
 refine QaI (i := 3) (N := some 10) (v := ?_) (a' := ?_) #[tt,ff,ff,tt,ff,ff,ff] rfl rfl (by kernel_rfl) (fun _ _ _ h => h) (Or.inl ⟨by rfl, ?_⟩) ?_ ?_; rotate_left
 ·intro w'; go_simp; (with_reducible rfl)
 rotate_left
 ·simp only [Act.put, put_, Qax, Qaz]; rfl
 refine take_ (i := 2) (N := some 9) (v := ?_) (a' := ?_) #[tt,ff,tt,tt,ff,ff,ff] rfl rfl (by kernel_rfl) (fun _ _ _ h => h) (Or.inl ⟨by rfl, ?_⟩) hHeld ?_ ?_; rotate_left
 ·rintro w' ⟨s0, s1⟩; go_simp; (with_reducible rfl)
 rotate_left
 ·simp only [Act.put, put_, Qax, Qaz]; rfl
 refine QaI (i := 4) (N := some 11) (v := ?_) (a' := ?_) #[tt,ff,tt,tt,tt,ff,ff] rfl rfl (by kernel_rfl) (fun _ _ _ h => h) (Or.inl ⟨by rfl, ?_⟩) ?_ ?_; rotate_left
 ·intro w'; go_simp; (with_reducible rfl)
 rotate_left
 ·simp only [Act.put, put_, Qax, Qaz]; rfl
 refine one_ (i := 1) (N := some 8) #[tt,tt,tt,tt,tt,ff,ff] rfl rfl (by kernel_rfl) (by decide) (fun K hK => ?_); refine goes_ Tryz.func20 (by kernel_rfl) rfl #[.slice A0 l0.length c0] (by rfl) rfl rfl (by (try simp only [List.map_toArray, List.map_cons, List.map_nil]); first | done | rfl | (simp only [List.length_drop, List.length_take]; rfl)) ?_
 with_reducible refine (Qan.calls k _ _ l0 t102 _ ?side1 ?side2 A4.out).mono ?_
 (case side1 => repeat (first | exact (Kd.C_below HR0.out HB.out) | (with_reducible refine Kd.C_alloc ?_ _) | (with_reducible refine Kd.C_drewN ?_ _) | (with_reducible refine Kd.C_drew ?_)))
 (case side2 => exact HC0.out)
 rintro e w8 ⟨v103, rfl, ho0, hb⟩; refine ⟨_, rfl, ?_⟩; have n0_ := Qad.mk (Kd.R_lower ho0 (Qas (by repeat (first | (with_reducible first | exact HB.out | apply Qab | apply Qaa | apply Qac | refine Qai ?_ GE101.out) | exact HB.out)))); have n1_ := Qad.mk (Qal (g := gb101) (o := ob_ss a2_0 a2_1 24) (by (with_reducible repeat (first | refine Qag ?_ _ | refine Qah ?_ | refine Qaf ?_ _)); exact BK101.out) hb); have n2_ := Qad.mk (Qak (by repeat (first | (with_reducible first | exact HB.out | apply Qab | apply Qaa | apply Qac | refine Qai ?_ GE101.out) | exact HB.out)) hb); clear BK101; clear HB; have HO104 := n0_; have BK101 := n1_; have HB := n2_; clear n0_ n1_ n2_
 (try clear hb)
 (try clear hb2)
 (try clear hk)
 (try clear hi)
 (try clear ho0)
 obtain ⟨Ao9, co9, eo9⟩ := Kd.R_slice HO104.out
 (first | subst eo9 | (injection eo9 with f1_ f2_ f3_; have f4_ := f1_.symm; have f5_ := f3_.symm; clear f1_ f2_ f3_; subst f4_; subst f5_))
 refine hK.out _ _ ⟨(Qaj BK101.out 0).trans rfl, (Qaj BK101.out 1).trans rfl⟩ (fun hHeld => ?_); clear hK K; refine norm_ (a' := ?_) ?_ ?_; rotate_left
 ·show Act.put _ (some 8) _ = _
  simp only [Act.put, put_, Qax, Qaz]; rfl
 refine one_ (i := 5) (N := some 12) #[tt,tt,tt,tt,tt,tt,ff] rfl rfl (by kernel_rfl) (by decide) (fun K hK => ?_); refine goes_ Tryz.func19 (by kernel_rfl) rfl #[.slice Ao9 t102.length co9, .agg #[.string a2_0, .string a2_1, .string a1]] (by rfl) rfl rfl (by (try simp only [List.map_toArray, List.map_cons, List.map_nil]); first | done | rfl | (simp only [List.length_drop, List.length_take]; rfl)) ?_
 with_reducible refine (QaP.calls k _ _ t102 a2_0 a2_1 a1 t105 _ ?side1 ?side2 A5.out).mono ?_
 (case side1 => repeat (first | exact (Kd.QaQ HO104.out).2.2 | (with_reducible refine Kd.C_alloc ?_ _) | (with_reducible refine Kd.C_drewN ?_ _) | (with_reducible refine Kd.C_drew ?_)))
 (case side2 => exact (Kd.QaQ HO104.out).2.1)
 rintro e w10 ⟨rfl, hb⟩; refine ⟨_, rfl, ?_⟩; have n0_ := Qad.mk (Kd.R_below (by (with_reducible repeat (first | apply Kd.Qaw | apply Kd.Qay | apply Kd.QaE)); exact HO104.out) hb); have n1_ := Qad.mk (Qal (g := gb101) (o := ob_ss a2_0 a2_1 24) (by (with_reducible repeat (first | refine Qag ?_ _ | refine Qah ?_ | refine Qaf ?_ _)); exact BK101.out) hb); have n2_ := Qad.mk (Qak (by repeat (first | (with_reducible first | exact HB.out | apply Qab | apply Qaa | apply Qac | refine Qai ?_ GE101.out) | exact HB.out)) hb); clear HO104; clear BK101; clear HB; have HO104 := n0_; have BK101 := n1_; have HB := n2_; clear n0_ n1_ n2_
 (try clear hb)
 (try clear hb2)
 (try clear hk)
 (try clear hi)
 refine hK.out _ _ ⟨(Qaj BK101.out 0).trans rfl, (Qaj BK101.out 1).trans rfl⟩ (fun hHeld => ?_); clear hK K; refine norm_ (a' := ?_) ?_ ?_; rotate_left
 ·show Act.put _ (some 12) _ = _
  simp only [Act.put, put_, Qax, Qaz]; rfl
 refine QaI (i := 6) (N := some 6) (v := ?_) (a' := ?_) #[tt,tt,tt,tt,tt,tt,tt] rfl rfl (by kernel_rfl) (fun _ _ _ h => h) (Or.inl ⟨by rfl, ?_⟩) ?_ ?_; rotate_left
 ·intro w'; go_simp; (with_reducible rfl)
 rotate_left
 ·simp only [Act.put, put_, Qax, Qaz]; rfl
 refine done_ (by kernel_rfl) ?_
 try go_wp2
 go_ret; exact ⟨by first | rfl | (simp [Qar, Qaq] <;> rfl) | (simp [*, Qar, Qaq] <;> rfl), by repeat (first | (with_reducible first | exact HB.out | apply Qab | apply Qaa | apply Qac | refine Qai ?_ GE101.out) | exact HB.out)⟩
def QaH.j0 : Nat → List (S42) → Bool → ByteArray → ByteArray → ByteArray → Int → Int → List (S29) → Option (Bool)
 | 0, _, _, _, _, _, _, _, _ => none
 | k + 1, x0, x17, x102000, x102001, x102002, x102003, x102004, x102005 => if x17 = true then ((liverylaw07_lives.f k).bind fun t107 => (some t107)) else ((solve_Has.f k x0 x102002 x102000 x102001).bind fun t108 => (if t108 = true then ((liveryref06_Has.f k x0 x102002 x102000 x102001).bind fun t109 => (if t109 = true then ((liverylaw07_lives.f k).bind fun t110 => (some t110)) else (some false))) else (some false)))
def QaH.f (k : Nat) (l0 : List (S42)) (a1_0 : ByteArray) (a1_1 : ByteArray) (a1_2 : ByteArray) (a1_3 : Int) (a1_4 : Int) (l1_5 : List (S29)) : Option (Bool) := (liverylaw07_few.f l0).bind fun t102 => ((liverylaw07_small.f k a1_0 a1_1 a1_2 a1_3 a1_4 l1_5).bind fun t105 => (if t105 = true then ((proof_Check.f t102 a1_0 a1_1 a1_2 a1_3 a1_4 l1_5).bind fun t106 => (QaH.j0 k t102 (t106 != 0) a1_0 a1_1 a1_2 a1_3 a1_4 l1_5)) else (QaH.j0 k t102 true a1_0 a1_1 a1_2 a1_3 a1_4 l1_5)))
set_option maxHeartbeats 8000000 in
set_option maxRecDepth 100000 in
theorem QaH.calls (k : Nat) (A0 : Option Addr) (c0 : Nat) (l0 : List (S42)) (a1_0 : ByteArray) (a1_1 : ByteArray) (a1_2 : ByteArray) (a1_3 : Int) (a1_4 : Int) (A1_5 : Option Addr) (c1_5 : Nat) (l1_5 : List (S29)) (r : Bool) (w : World) (hr0 : Kd.C k42 w A0 l0.length l0) (hc0 : l0.length ≤ c0) (hr1_5 : Kd.C k29 w A1_5 l1_5.length l1_5) (hc1_5 : l1_5.length ≤ c1_5) (h : QaH.f k l0 a1_0 a1_1 a1_2 a1_3 a1_4 l1_5 = some r) :
  Calls Tryz.prog 3 #[.slice A0 l0.length c0, .agg #[.string a1_0, .string a1_1, .string a1_2, .int .i64 a1_3, .int .i64 a1_4, .slice A1_5 l1_5.length c1_5]] w fun e w' => e = .returned (.bool r) ∧ Below w.heap.size w w' := by
 have hu29 := Tryz.underlying29; have hu24 := Tryz.underlying24; have HR0 := Qad.mk hr0; have HC0 := Qad.mk hc0; clear hr0 hc0; have HR1_5 := Qad.mk hr1_5; have HC1_5 := Qad.mk hc1_5; clear hr1_5 hc1_5; have HB := Qad.mk (Below.refl w.heap.size w); have H : ((liverylaw07_few.f l0).bind fun t102 => ((liverylaw07_small.f k a1_0 a1_1 a1_2 a1_3 a1_4 l1_5).bind fun t105 => (if t105 = true then ((proof_Check.f t102 a1_0 a1_1 a1_2 a1_3 a1_4 l1_5).bind fun t106 => (QaH.j0 k t102 (t106 != 0) a1_0 a1_1 a1_2 a1_3 a1_4 l1_5)) else (QaH.j0 k t102 true a1_0 a1_1 a1_2 a1_3 a1_4 l1_5)))) = some r := h; clear h; replace H := Option.bind_eq_some_iff.mp H; obtain ⟨t102, A30, H⟩ := H; replace H : ((liverylaw07_small.f k a1_0 a1_1 a1_2 a1_3 a1_4 l1_5).bind fun t105 => (if t105 = true then ((proof_Check.f t102 a1_0 a1_1 a1_2 a1_3 a1_4 l1_5).bind fun t106 => (QaH.j0 k t102 (t106 != 0) a1_0 a1_1 a1_2 a1_3 a1_4 l1_5)) else (QaH.j0 k t102 true a1_0 a1_1 a1_2 a1_3 a1_4 l1_5))) = some r := H; have A3 := Qad.mk A30; clear A30; replace H := Option.bind_eq_some_iff.mp H; obtain ⟨t105, A40, H⟩ := H; replace H : (if t105 = true then ((proof_Check.f t102 a1_0 a1_1 a1_2 a1_3 a1_4 l1_5).bind fun t106 => (QaH.j0 k t102 (t106 != 0) a1_0 a1_1 a1_2 a1_3 a1_4 l1_5)) else (QaH.j0 k t102 true a1_0 a1_1 a1_2 a1_3 a1_4 l1_5)) = some r := H; have A4 := Qad.mk A40; clear A40; have HC5 := Qad.mk H
 clear H; go_enter Tryz.func3, Tryz.ntmps3
 go_upto_region 3 with (first | ((with_reducible refine QaN (N := 3) rfl ?_); refine QaK ?hg (N := 3) ?hd (cs := #[.string a1_0, .string a1_1, .string a1_2, .int .i64 a1_3, .int .i64 a1_4, .slice A1_5 l1_5.length c1_5]) (t := 29) ?hr ?_; (case hd => rfl); (case hg => rfl); (case hr => first | (go_simp; done) | (go_simp; rfl)); intro gb101 hg w6 hbox hb; have n0_ := Qad.mk (Qak (by repeat (first | (with_reducible first | exact HB.out | apply Qab | apply Qaa | apply Qac) | exact HB.out)) hb); have n1_ := Qad.mk (hbox); have n2_ := Qad.mk ((by rw [hg]; exact (Qas (by repeat (first | (with_reducible first | exact HB.out | apply Qab | apply Qaa | apply Qac) | exact HB.out))) : w.heap.size ≤ gb101)); have n3_ := n2_; clear HB; have HB := n0_; have BK101 := n1_; have GW101 := n2_; have GE101 := n3_; clear n0_ n1_ n2_ n3_; clear hb hbox hg) | ((with_reducible refine QaO (f := 4) rfl ?_); refine goesL_ (some 7) rfl rfl Tryz.func4 (by kernel_rfl) rfl #[.slice A0 l0.length c0] rfl (by (try simp only [List.map_toArray, List.map_cons, List.map_nil]); first | done | rfl | (simp only [List.length_drop, List.length_take]; rfl)) ?_; (with_reducible refine (liverylaw07_few.calls (fun k_ => k_ < w.heap.size) _ _ l0 t102 _ ?side1 A3.out).mono ?_); (case side1 => exact Kd.V_mk HC0.out (Kd.F_below (Kd.C_F k42_heap HR0.out) (by repeat (first | (with_reducible first | exact HB.out | apply Qab | apply Qaa | apply Qac | refine Qai ?_ GE101.out) | exact HB.out)))); rintro e w7 ⟨v103, rfl, ho0, hb⟩; refine ⟨_, rfl, ?_⟩; have n0_ := Qad.mk (Kd.V_lower (Kd.V_mono (ok' := fun k_ => k_ ≠ gb101) ho0 (fun k_ hk_ => Or.elim hk_ (fun hs_ => fun e_ => Nat.not_le.2 hs_ (by rw [e_]; exact GW101.out)) (fun hn_ => (Kd.freshB (g := gb101) (o := ob_sssiiv a1_0 a1_1 a1_2 a1_3 a1_4 (.slice A1_5 l1_5.length c1_5) 29) (by (with_reducible repeat (first | refine Qag ?_ _ | refine Qah ?_ | refine Qaf ?_ _)); exact BK101.out) k_ hn_)))) (Qas (by repeat (first | (with_reducible first | exact HB.out | apply Qab | apply Qaa | apply Qac | refine Qai ?_ GE101.out) | exact HB.out)))); have n1_ := Qad.mk (Qal (g := gb101) (o := ob_sssiiv a1_0 a1_1 a1_2 a1_3 a1_4 (.slice A1_5 l1_5.length c1_5) 29) (by (with_reducible repeat (first | refine Qag ?_ _ | refine Qah ?_ | refine Qaf ?_ _)); exact BK101.out) hb); have n2_ := Qad.mk (Qak (by repeat (first | (with_reducible first | exact HB.out | apply Qab | apply Qaa | apply Qac | refine Qai ?_ GE101.out) | exact HB.out)) hb); clear BK101; clear HB; have HO104 := n0_; have BK101 := n1_; have HB := n2_; clear n0_ n1_ n2_; (try clear hb); (try clear hb2); (try clear hk); (try clear hi); (try clear ho0); obtain ⟨hcz8_0, hcz8_1, hcz8_2, hcz8_3, hcz8_4, hcz8_5⟩ := cz_sssiiv BK101.out; obtain ⟨hfz8_0, hfz8_1, hfz8_2, hfz8_3, hfz8_4, hfz8_5⟩ := fz_6 BK101.out) | ((with_reducible refine QaO (f := 5) rfl ?_); refine goesL_ (some 9) rfl rfl Tryz.func5 (by kernel_rfl) rfl #[.agg #[.string a1_0, .string a1_1, .string a1_2, .int .i64 a1_3, .int .i64 a1_4, .slice A1_5 l1_5.length c1_5]] rfl (by (try simp only [List.map_toArray, List.map_cons, List.map_nil]); first | done | rfl | (simp only [List.length_drop, List.length_take]; rfl)) ?_; (with_reducible refine (liverylaw07_small.calls k a1_0 a1_1 a1_2 a1_3 a1_4 _ _ l1_5 t105 _ ?side1 ?side2 A4.out).mono ?_); (case side1 => repeat (first | exact (Kd.C_below HR1_5.out HB.out) | (with_reducible refine Kd.C_alloc ?_ _) | (with_reducible refine Kd.C_drewN ?_ _) | (with_reducible refine Kd.C_drew ?_))); (case side2 => exact HC1_5.out); rintro e w9 ⟨rfl, hb⟩; refine ⟨_, rfl, ?_⟩; have n0_ := Qad.mk (Kd.V_below (by (with_reducible repeat (first | apply Kd.V_alloc | apply Kd.V_drewN | apply Kd.V_drew)); exact HO104.out) hb); have n1_ := Qad.mk (Qal (g := gb101) (o := ob_sssiiv a1_0 a1_1 a1_2 a1_3 a1_4 (.slice A1_5 l1_5.length c1_5) 29) (by (with_reducible repeat (first | refine Qag ?_ _ | refine Qah ?_ | refine Qaf ?_ _)); exact BK101.out) hb); have n2_ := Qad.mk (Qak (by repeat (first | (with_reducible first | exact HB.out | apply Qab | apply Qaa | apply Qac | refine Qai ?_ GE101.out) | exact HB.out)) hb); clear HO104; clear BK101; clear HB; have HO104 := n0_; have BK101 := n1_; have HB := n2_; clear n0_ n1_ n2_; (try clear hb); (try clear hb2); (try clear hk); (try clear hi)))
 (try simp only [Act.put, put_])
 go_cut [17] (fun v17 wc => ∃ (kq : Nat) (x17_4 : Bool), v17 = .bool x17_4 ∧ Qad (QaH.j0 kq t102 x17_4 a1_0 a1_1 a1_2 a1_3 a1_4 l1_5 = some r) ∧ Qad (kq ≤ k) ∧ Qad (Kd.V k42 42 wc w.heap.size (fun k_ => k_ ≠ gb101) v103 t102) ∧ Qad (wc.heap[gb101]? = some (.cells #[.string a1_0, .string a1_1, .string a1_2, .int .i64 a1_3, .int .i64 a1_4, (.slice A1_5 l1_5.length c1_5)] 29 (0, 0))) ∧ Qad (Below w.heap.size w wc))
 case first =>
  have H := HC5.out; clear HC5
  by_cases c10 : t105 = true
  ·subst c10
   have H1 : ((proof_Check.f t102 a1_0 a1_1 a1_2 a1_3 a1_4 l1_5).bind fun t106 => (QaH.j0 k t102 (t106 != 0) a1_0 a1_1 a1_2 a1_3 a1_4 l1_5)) = some r := by rw [if_pos rfl] at H; exact H
   clear H; have H := H1; clear H1; replace H := Option.bind_eq_some_iff.mp H; obtain ⟨t106, A110, H⟩ := H; replace H : (QaH.j0 k t102 (t106 != 0) a1_0 a1_1 a1_2 a1_3 a1_4 l1_5) = some r := H; have A11 := Qad.mk A110; clear A110; have H' := Qad.mk H; clear H; obtain ⟨hcz12_0, hcz12_1, hcz12_2, hcz12_3, hcz12_4, hcz12_5⟩ := cz_sssiiv BK101.out; obtain ⟨hfz12_0, hfz12_1, hfz12_2, hfz12_3, hfz12_4, hfz12_5⟩ := fz_6 BK101.out; obtain ⟨Ao13, co13, eo13⟩ := Kd.V_slice HO104.out; subst eo13
   go_wp2_with (first | (go_at_call 6; (with_reducible refine (proof_Check.calls _ _ t102 a1_0 a1_1 a1_2 a1_3 a1_4 _ _ l1_5 t106 _ ?side1 ?side2 ?side3 ?side4 A11.out).mono ?_); (case side1 => repeat (first | exact (Kd.V_reads' HO104.out).2.2 | (with_reducible refine Kd.C_alloc ?_ _) | (with_reducible refine Kd.C_drewN ?_ _) | (with_reducible refine Kd.C_drew ?_))); (case side2 => exact (Kd.V_reads' HO104.out).2.1); (case side3 => repeat (first | exact (Kd.C_below HR1_5.out HB.out) | (with_reducible refine Kd.C_alloc ?_ _) | (with_reducible refine Kd.C_drewN ?_ _) | (with_reducible refine Kd.C_drew ?_))); (case side4 => exact HC1_5.out); rintro e w14 ⟨rfl, hb⟩; have n0_ := Qad.mk (Kd.V_below (by (with_reducible repeat (first | apply Kd.V_alloc | apply Kd.V_drewN | apply Kd.V_drew)); exact HO104.out) hb); have n1_ := Qad.mk (Qal (g := gb101) (o := ob_sssiiv a1_0 a1_1 a1_2 a1_3 a1_4 (.slice A1_5 l1_5.length c1_5) 29) (by (with_reducible repeat (first | refine Qag ?_ _ | refine Qah ?_ | refine Qaf ?_ _)); exact BK101.out) hb); have n2_ := Qad.mk (Qak (by repeat (first | (with_reducible first | exact HB.out | apply Qab | apply Qaa | apply Qac | refine Qai ?_ GE101.out) | exact HB.out)) hb); clear HO104; clear BK101; clear HB; have HO104 := n0_; have BK101 := n1_; have HB := n2_; clear n0_ n1_ n2_; (try clear hb); (try clear hb2); (try clear hk); (try clear hi)))
   go_meet
   case rel => exact ⟨_, ((t106 != 0)), (by first | rfl | (simp; done) | (simp [*]; done)), H', ⟨by first | omega | exact Nat.le_refl _⟩, ⟨by (with_reducible repeat (first | apply Kd.V_alloc | apply Kd.V_drewN | apply Kd.V_drew)); exact HO104.out⟩, ⟨by (with_reducible repeat (first | refine Qag ?_ _ | refine Qah ?_ | refine Qaf ?_ _)); exact BK101.out⟩, ⟨by repeat (first | (with_reducible first | exact HB.out | apply Qab | apply Qaa | apply Qac | refine Qai ?_ GE101.out) | exact HB.out)⟩⟩
  ·replace c10 := Bool.eq_false_iff.mpr c10; subst c10
   have H1 : (QaH.j0 k t102 true a1_0 a1_1 a1_2 a1_3 a1_4 l1_5) = some r := by rw [if_neg (show ¬ (false = true) by decide)] at H; exact H
   clear H; have H := H1; clear H1; have H' := Qad.mk H; clear H; go_wp2
   go_meet
   case rel => exact ⟨_, (true), (by first | rfl | (simp; done) | (simp [*]; done)), H', ⟨by first | omega | exact Nat.le_refl _⟩, ⟨by (with_reducible repeat (first | apply Kd.V_alloc | apply Kd.V_drewN | apply Kd.V_drew)); exact HO104.out⟩, ⟨by (with_reducible repeat (first | refine Qag ?_ _ | refine Qah ?_ | refine Qaf ?_ _)); exact BK101.out⟩, ⟨by repeat (first | (with_reducible first | exact HB.out | apply Qab | apply Qaa | apply Qac | refine Qai ?_ GE101.out) | exact HB.out)⟩⟩
 case rest =>
  clear HC5; (try clear c1); (try clear p2); (try clear c3); (try clear c4); (try clear c5); (try clear c10); (try clear hcz12_0); (try clear hcz12_1); (try clear hcz12_2); (try clear hcz12_3); (try clear hcz12_4); (try clear hcz12_5); (try clear hcz8_0); (try clear hcz8_1); (try clear hcz8_2); (try clear hcz8_3); (try clear hcz8_4); (try clear hcz8_5); (try clear hfz12_0); (try clear hfz12_1); (try clear hfz12_2); (try clear hfz12_3); (try clear hfz12_4); (try clear hfz12_5); (try clear hfz8_0); (try clear hfz8_1); (try clear hfz8_2); (try clear hfz8_3); (try clear hfz8_4); (try clear hfz8_5); obtain ⟨kq, x17_4, rfl, HA, HJ4, HO_0, BK101, HB⟩ := hcut
  cases kq with
  | zero => exact absurd HA.out (by simp [QaH.j0])
  | succ kj4 =>
   have H := HA.out; clear HA; simp only [QaH.j0] at H
   by_cases c15 : x17_4 = true
   ·subst c15
    have H1 : ((liverylaw07_lives.f kj4).bind fun t107 => (some t107)) = some r := by rw [if_pos rfl] at H; exact H
    clear H; have H := H1; clear H1; replace H := Option.bind_eq_some_iff.mp H; obtain ⟨t107, A160, H⟩ := H; replace H : (some t107) = some r := H; have A16 := Qad.mk A160; clear A160; obtain rfl := Option.some.inj H
    go_wp2_with (first | ((with_reducible refine QaO (f := 7) rfl ?_); refine goesL_ (some 18) rfl rfl Tryz.func7 (by kernel_rfl) rfl #[] rfl (by (try simp only [List.map_toArray, List.map_cons, List.map_nil]); first | done | rfl | (simp only [List.length_drop, List.length_take]; rfl)) ?_; (with_reducible refine (liverylaw07_lives.calls kj4  t107 _ A16.out).mono ?_); rintro e w17 ⟨rfl, hb⟩; refine ⟨_, rfl, ?_⟩; have n0_ := Qad.mk (Kd.V_below (by (with_reducible repeat (first | apply Kd.V_alloc | apply Kd.V_drewN | apply Kd.V_drew)); exact HO_0.out) hb); have n1_ := Qad.mk (Qal (g := gb101) (o := ob_sssiiv a1_0 a1_1 a1_2 a1_3 a1_4 (.slice A1_5 l1_5.length c1_5) 29) (by (with_reducible repeat (first | refine Qag ?_ _ | refine Qah ?_ | refine Qaf ?_ _)); exact BK101.out) hb); have n2_ := Qad.mk (Qak (by repeat (first | (with_reducible first | exact HB.out | apply Qab | apply Qaa | apply Qac | refine Qai ?_ GE101.out) | exact HB.out)) hb); clear HO_0; clear BK101; clear HB; have HO_0 := n0_; have BK101 := n1_; have HB := n2_; clear n0_ n1_ n2_; (try clear hb); (try clear hb2); (try clear hk); (try clear hi)))
    go_ret; exact ⟨by first | rfl | (simp [Qar, Qaq] <;> rfl) | (simp [*, Qar, Qaq] <;> rfl), by repeat (first | (with_reducible first | exact HB.out | apply Qab | apply Qaa | apply Qac | refine Qai ?_ GE101.out) | exact HB.out)⟩
   ·replace c15 := Bool.eq_false_iff.mpr c15; subst c15
    have H1 : ((solve_Has.f kj4 t102 a1_2 a1_0 a1_1).bind fun t108 => (if t108 = true then ((liveryref06_Has.f kj4 t102 a1_2 a1_0 a1_1).bind fun t109 => (if t109 = true then ((liverylaw07_lives.f kj4).bind fun t110 => (some t110)) else (some false))) else (some false))) = some r := by rw [if_neg (show ¬ (false = true) by decide)] at H; exact H
    clear H; have H := H1; clear H1; replace H := Option.bind_eq_some_iff.mp H; obtain ⟨t108, A180, H⟩ := H; replace H : (if t108 = true then ((liveryref06_Has.f kj4 t102 a1_2 a1_0 a1_1).bind fun t109 => (if t109 = true then ((liverylaw07_lives.f kj4).bind fun t110 => (some t110)) else (some false))) else (some false)) = some r := H; have A18 := Qad.mk A180; clear A180
    by_cases c19 : t108 = true
    ·subst c19
     have H1 : ((liveryref06_Has.f kj4 t102 a1_2 a1_0 a1_1).bind fun t109 => (if t109 = true then ((liverylaw07_lives.f kj4).bind fun t110 => (some t110)) else (some false))) = some r := by rw [if_pos rfl] at H; exact H
     clear H; have H := H1; clear H1; replace H := Option.bind_eq_some_iff.mp H; obtain ⟨t109, A200, H⟩ := H; replace H : (if t109 = true then ((liverylaw07_lives.f kj4).bind fun t110 => (some t110)) else (some false)) = some r := H; have A20 := Qad.mk A200; clear A200
     by_cases c21 : t109 = true
     ·subst c21
      have H1 : ((liverylaw07_lives.f kj4).bind fun t110 => (some t110)) = some r := by rw [if_pos rfl] at H; exact H
      clear H; have H := H1; clear H1; replace H := Option.bind_eq_some_iff.mp H; obtain ⟨t110, A220, H⟩ := H; replace H : (some t110) = some r := H; have A22 := Qad.mk A220; clear A220; obtain rfl := Option.some.inj H; have hcz23_0 : wc.cell? ⟨gb101, 0, none⟩ = some (.string a1_0) := (Qaj BK101.out 0).trans rfl; have hcz23_1 : wc.cell? ⟨gb101, 1, none⟩ = some (.string a1_1) := (Qaj BK101.out 1).trans rfl; have hcz23_2 : wc.cell? ⟨gb101, 2, none⟩ = some (.string a1_2) := (Qaj BK101.out 2).trans rfl; have hcz23_3 : wc.cell? ⟨gb101, 3, none⟩ = some (.int .i64 a1_3) := (Qaj BK101.out 3).trans rfl; have hcz23_4 : wc.cell? ⟨gb101, 4, none⟩ = some (.int .i64 a1_4) := (Qaj BK101.out 4).trans rfl; have hcz23_5 : wc.cell? ⟨gb101, 5, none⟩ = some (.slice A1_5 l1_5.length c1_5) := (Qaj BK101.out 5).trans rfl; obtain ⟨hfz23_0, hfz23_1, hfz23_2, hfz23_3, hfz23_4, hfz23_5⟩ := fz_6 BK101.out; obtain ⟨Ao24, co24, eo24⟩ := Kd.V_slice HO_0.out; subst eo24
      go_wp2_with (first | ((with_reducible refine QaO (f := 8) rfl ?_); refine goesL_ (some 24) rfl rfl Tryz.func8 (by kernel_rfl) rfl #[.slice Ao24 t102.length co24, .string a1_2, .agg #[.string a1_0, .string a1_1]] rfl (by (try simp only [List.map_toArray, List.map_cons, List.map_nil]); first | done | rfl | (simp only [List.length_drop, List.length_take]; rfl)) ?_; (with_reducible refine (solve_Has.calls kj4 _ _ t102 a1_2 a1_0 a1_1 true _ ?side1 ?side2 A18.out).mono ?_); (case side1 => repeat (first | exact (Kd.V_reads' HO_0.out).2.2 | (with_reducible refine Kd.C_alloc ?_ _) | (with_reducible refine Kd.C_drewN ?_ _) | (with_reducible refine Kd.C_drew ?_))); (case side2 => exact (Kd.V_reads' HO_0.out).2.1); rintro e w25 ⟨rfl, hb⟩; refine ⟨_, rfl, ?_⟩; have n0_ := Qad.mk (Kd.V_below (by (with_reducible repeat (first | apply Kd.V_alloc | apply Kd.V_drewN | apply Kd.V_drew)); exact HO_0.out) hb); have n1_ := Qad.mk (Qal (g := gb101) (o := ob_sssiiv a1_0 a1_1 a1_2 a1_3 a1_4 (.slice A1_5 l1_5.length c1_5) 29) (by (with_reducible repeat (first | refine Qag ?_ _ | refine Qah ?_ | refine Qaf ?_ _)); exact BK101.out) hb); have n2_ := Qad.mk (Qak (by repeat (first | (with_reducible first | exact HB.out | apply Qab | apply Qaa | apply Qac | refine Qai ?_ GE101.out) | exact HB.out)) hb); clear HO_0; clear BK101; clear HB; have HO_0 := n0_; have BK101 := n1_; have HB := n2_; clear n0_ n1_ n2_; (try clear hb); (try clear hb2); (try clear hk); (try clear hi); obtain ⟨hcz26_0, hcz26_1, hcz26_2, hcz26_3, hcz26_4, hcz26_5⟩ := cz_sssiiv BK101.out; obtain ⟨hfz26_0, hfz26_1, hfz26_2, hfz26_3, hfz26_4, hfz26_5⟩ := fz_6 BK101.out) | (go_at_call 9; (with_reducible refine (liveryref06_Has.calls kj4 _ _ t102 a1_2 a1_0 a1_1 true _ ?side1 ?side2 A20.out).mono ?_); (case side1 => repeat (first | exact (Kd.V_reads' HO_0.out).2.2 | (with_reducible refine Kd.C_alloc ?_ _) | (with_reducible refine Kd.C_drewN ?_ _) | (with_reducible refine Kd.C_drew ?_))); (case side2 => exact (Kd.V_reads' HO_0.out).2.1); rintro e w27 ⟨rfl, hb⟩; have n0_ := Qad.mk (Kd.V_below (by (with_reducible repeat (first | apply Kd.V_alloc | apply Kd.V_drewN | apply Kd.V_drew)); exact HO_0.out) hb); have n1_ := Qad.mk (Qal (g := gb101) (o := ob_sssiiv a1_0 a1_1 a1_2 a1_3 a1_4 (.slice A1_5 l1_5.length c1_5) 29) (by (with_reducible repeat (first | refine Qag ?_ _ | refine Qah ?_ | refine Qaf ?_ _)); exact BK101.out) hb); have n2_ := Qad.mk (Qak (by repeat (first | (with_reducible first | exact HB.out | apply Qab | apply Qaa | apply Qac | refine Qai ?_ GE101.out) | exact HB.out)) hb); clear HO_0; clear BK101; clear HB; have HO_0 := n0_; have BK101 := n1_; have HB := n2_; clear n0_ n1_ n2_; (try clear hb); (try clear hb2); (try clear hk); (try clear hi)) | (go_at_call 7; (with_reducible refine (liverylaw07_lives.calls kj4  t110 _ A22.out).mono ?_); rintro e w28 ⟨rfl, hb⟩; have n0_ := Qad.mk (Kd.V_below (by (with_reducible repeat (first | apply Kd.V_alloc | apply Kd.V_drewN | apply Kd.V_drew)); exact HO_0.out) hb); have n1_ := Qad.mk (Qal (g := gb101) (o := ob_sssiiv a1_0 a1_1 a1_2 a1_3 a1_4 (.slice A1_5 l1_5.length c1_5) 29) (by (with_reducible repeat (first | refine Qag ?_ _ | refine Qah ?_ | refine Qaf ?_ _)); exact BK101.out) hb); have n2_ := Qad.mk (Qak (by repeat (first | (with_reducible first | exact HB.out | apply Qab | apply Qaa | apply Qac | refine Qai ?_ GE101.out) | exact HB.out)) hb); clear HO_0; clear BK101; clear HB; have HO_0 := n0_; have BK101 := n1_; have HB := n2_; clear n0_ n1_ n2_; (try clear hb); (try clear hb2); (try clear hk); (try clear hi)))
      go_ret; exact ⟨by first | rfl | (simp [Qar, Qaq] <;> rfl) | (simp [*, Qar, Qaq] <;> rfl), by repeat (first | (with_reducible first | exact HB.out | apply Qab | apply Qaa | apply Qac | refine Qai ?_ GE101.out) | exact HB.out)⟩
     ·replace c21 := Bool.eq_false_iff.mpr c21; subst c21
      have H1 : (some false) = some r := by rw [if_neg (show ¬ (false = true) by decide)] at H; exact H
      clear H; have H := H1; clear H1; obtain rfl := Option.some.inj H; have hcz29_0 : wc.cell? ⟨gb101, 0, none⟩ = some (.string a1_0) := (Qaj BK101.out 0).trans rfl; have hcz29_1 : wc.cell? ⟨gb101, 1, none⟩ = some (.string a1_1) := (Qaj BK101.out 1).trans rfl; have hcz29_2 : wc.cell? ⟨gb101, 2, none⟩ = some (.string a1_2) := (Qaj BK101.out 2).trans rfl; have hcz29_3 : wc.cell? ⟨gb101, 3, none⟩ = some (.int .i64 a1_3) := (Qaj BK101.out 3).trans rfl; have hcz29_4 : wc.cell? ⟨gb101, 4, none⟩ = some (.int .i64 a1_4) := (Qaj BK101.out 4).trans rfl; have hcz29_5 : wc.cell? ⟨gb101, 5, none⟩ = some (.slice A1_5 l1_5.length c1_5) := (Qaj BK101.out 5).trans rfl; obtain ⟨hfz29_0, hfz29_1, hfz29_2, hfz29_3, hfz29_4, hfz29_5⟩ := fz_6 BK101.out; obtain ⟨Ao30, co30, eo30⟩ := Kd.V_slice HO_0.out; subst eo30
      go_wp2_with (first | ((with_reducible refine QaO (f := 8) rfl ?_); refine goesL_ (some 24) rfl rfl Tryz.func8 (by kernel_rfl) rfl #[.slice Ao30 t102.length co30, .string a1_2, .agg #[.string a1_0, .string a1_1]] rfl (by (try simp only [List.map_toArray, List.map_cons, List.map_nil]); first | done | rfl | (simp only [List.length_drop, List.length_take]; rfl)) ?_; (with_reducible refine (solve_Has.calls kj4 _ _ t102 a1_2 a1_0 a1_1 true _ ?side1 ?side2 A18.out).mono ?_); (case side1 => repeat (first | exact (Kd.V_reads' HO_0.out).2.2 | (with_reducible refine Kd.C_alloc ?_ _) | (with_reducible refine Kd.C_drewN ?_ _) | (with_reducible refine Kd.C_drew ?_))); (case side2 => exact (Kd.V_reads' HO_0.out).2.1); rintro e w31 ⟨rfl, hb⟩; refine ⟨_, rfl, ?_⟩; have n0_ := Qad.mk (Kd.V_below (by (with_reducible repeat (first | apply Kd.V_alloc | apply Kd.V_drewN | apply Kd.V_drew)); exact HO_0.out) hb); have n1_ := Qad.mk (Qal (g := gb101) (o := ob_sssiiv a1_0 a1_1 a1_2 a1_3 a1_4 (.slice A1_5 l1_5.length c1_5) 29) (by (with_reducible repeat (first | refine Qag ?_ _ | refine Qah ?_ | refine Qaf ?_ _)); exact BK101.out) hb); have n2_ := Qad.mk (Qak (by repeat (first | (with_reducible first | exact HB.out | apply Qab | apply Qaa | apply Qac | refine Qai ?_ GE101.out) | exact HB.out)) hb); clear HO_0; clear BK101; clear HB; have HO_0 := n0_; have BK101 := n1_; have HB := n2_; clear n0_ n1_ n2_; (try clear hb); (try clear hb2); (try clear hk); (try clear hi); obtain ⟨hcz32_0, hcz32_1, hcz32_2, hcz32_3, hcz32_4, hcz32_5⟩ := cz_sssiiv BK101.out; obtain ⟨hfz32_0, hfz32_1, hfz32_2, hfz32_3, hfz32_4, hfz32_5⟩ := fz_6 BK101.out) | (go_at_call 9; (with_reducible refine (liveryref06_Has.calls kj4 _ _ t102 a1_2 a1_0 a1_1 false _ ?side1 ?side2 A20.out).mono ?_); (case side1 => repeat (first | exact (Kd.V_reads' HO_0.out).2.2 | (with_reducible refine Kd.C_alloc ?_ _) | (with_reducible refine Kd.C_drewN ?_ _) | (with_reducible refine Kd.C_drew ?_))); (case side2 => exact (Kd.V_reads' HO_0.out).2.1); rintro e w33 ⟨rfl, hb⟩; have n0_ := Qad.mk (Kd.V_below (by (with_reducible repeat (first | apply Kd.V_alloc | apply Kd.V_drewN | apply Kd.V_drew)); exact HO_0.out) hb); have n1_ := Qad.mk (Qal (g := gb101) (o := ob_sssiiv a1_0 a1_1 a1_2 a1_3 a1_4 (.slice A1_5 l1_5.length c1_5) 29) (by (with_reducible repeat (first | refine Qag ?_ _ | refine Qah ?_ | refine Qaf ?_ _)); exact BK101.out) hb); have n2_ := Qad.mk (Qak (by repeat (first | (with_reducible first | exact HB.out | apply Qab | apply Qaa | apply Qac | refine Qai ?_ GE101.out) | exact HB.out)) hb); clear HO_0; clear BK101; clear HB; have HO_0 := n0_; have BK101 := n1_; have HB := n2_; clear n0_ n1_ n2_; (try clear hb); (try clear hb2); (try clear hk); (try clear hi)))
      go_ret; exact ⟨by first | rfl | (simp [Qar, Qaq] <;> rfl) | (simp [*, Qar, Qaq] <;> rfl), by repeat (first | (with_reducible first | exact HB.out | apply Qab | apply Qaa | apply Qac | refine Qai ?_ GE101.out) | exact HB.out)⟩
    ·replace c19 := Bool.eq_false_iff.mpr c19; subst c19
     have H1 : (some false) = some r := by rw [if_neg (show ¬ (false = true) by decide)] at H; exact H
     clear H; have H := H1; clear H1; obtain rfl := Option.some.inj H; have hcz34_0 : wc.cell? ⟨gb101, 0, none⟩ = some (.string a1_0) := (Qaj BK101.out 0).trans rfl; have hcz34_1 : wc.cell? ⟨gb101, 1, none⟩ = some (.string a1_1) := (Qaj BK101.out 1).trans rfl; have hcz34_2 : wc.cell? ⟨gb101, 2, none⟩ = some (.string a1_2) := (Qaj BK101.out 2).trans rfl; have hcz34_3 : wc.cell? ⟨gb101, 3, none⟩ = some (.int .i64 a1_3) := (Qaj BK101.out 3).trans rfl; have hcz34_4 : wc.cell? ⟨gb101, 4, none⟩ = some (.int .i64 a1_4) := (Qaj BK101.out 4).trans rfl; have hcz34_5 : wc.cell? ⟨gb101, 5, none⟩ = some (.slice A1_5 l1_5.length c1_5) := (Qaj BK101.out 5).trans rfl; obtain ⟨hfz34_0, hfz34_1, hfz34_2, hfz34_3, hfz34_4, hfz34_5⟩ := fz_6 BK101.out; obtain ⟨Ao35, co35, eo35⟩ := Kd.V_slice HO_0.out; subst eo35
     go_wp2_with (first | ((with_reducible refine QaO (f := 8) rfl ?_); refine goesL_ (some 24) rfl rfl Tryz.func8 (by kernel_rfl) rfl #[.slice Ao35 t102.length co35, .string a1_2, .agg #[.string a1_0, .string a1_1]] rfl (by (try simp only [List.map_toArray, List.map_cons, List.map_nil]); first | done | rfl | (simp only [List.length_drop, List.length_take]; rfl)) ?_; (with_reducible refine (solve_Has.calls kj4 _ _ t102 a1_2 a1_0 a1_1 false _ ?side1 ?side2 A18.out).mono ?_); (case side1 => repeat (first | exact (Kd.V_reads' HO_0.out).2.2 | (with_reducible refine Kd.C_alloc ?_ _) | (with_reducible refine Kd.C_drewN ?_ _) | (with_reducible refine Kd.C_drew ?_))); (case side2 => exact (Kd.V_reads' HO_0.out).2.1); rintro e w36 ⟨rfl, hb⟩; refine ⟨_, rfl, ?_⟩; have n0_ := Qad.mk (Kd.V_below (by (with_reducible repeat (first | apply Kd.V_alloc | apply Kd.V_drewN | apply Kd.V_drew)); exact HO_0.out) hb); have n1_ := Qad.mk (Qal (g := gb101) (o := ob_sssiiv a1_0 a1_1 a1_2 a1_3 a1_4 (.slice A1_5 l1_5.length c1_5) 29) (by (with_reducible repeat (first | refine Qag ?_ _ | refine Qah ?_ | refine Qaf ?_ _)); exact BK101.out) hb); have n2_ := Qad.mk (Qak (by repeat (first | (with_reducible first | exact HB.out | apply Qab | apply Qaa | apply Qac | refine Qai ?_ GE101.out) | exact HB.out)) hb); clear HO_0; clear BK101; clear HB; have HO_0 := n0_; have BK101 := n1_; have HB := n2_; clear n0_ n1_ n2_; (try clear hb); (try clear hb2); (try clear hk); (try clear hi)))
     go_ret; exact ⟨by first | rfl | (simp [Qar, Qaq] <;> rfl) | (simp [*, Qar, Qaq] <;> rfl), by repeat (first | (with_reducible first | exact HB.out | apply Qab | apply Qaa | apply Qac | refine Qai ?_ GE101.out) | exact HB.out)⟩

end Go.Proofs.YtmaipohgahdclaaGreatDoor.Pr
end
section
namespace Go.Proofs.YtmaipohgahdclaaGreatDoor.Pr
open Go.RowKit Go.Proofs.YtmaipohgahdclaaGreatDoorW.PrintWords Go.Proofs.YtmaipohgahdclaaGreatDoorW.PrintLast Go.Proofs.YtmaipohgahdclaaGreatDoorW.PrintMore
theorem toList_iff (x y : ByteArray) : x.toList = y.toList ↔ x = y := by
  rw [← Lib.bytes_beq_iff, beq_iff_eq]
theorem domName_ne {n : Int} (h : 1 ≤ n) (h' : n ≤ 16) : domName n ≠ ⟨#[]⟩ := by
  have : n = 1 ∨ n = 2 ∨ n = 3 ∨ n = 4 ∨ n = 5 ∨ n = 6 ∨ n = 7 ∨ n = 8 ∨ n = 9 ∨ n = 10 ∨ n = 11 ∨ n = 12 ∨ n = 13 ∨ n = 14 ∨ n = 15 ∨ n = 16 := by omega
  rcases this with rfl | rfl | rfl | rfl | rfl | rfl | rfl | rfl | rfl | rfl | rfl | rfl | rfl | rfl | rfl | rfl <;> decide
def numFrom (s : ByteArray) : Nat → Int → Int
  | 0, _ => 0
  | k + 1, n => if n ≤ 16 then (if domName n = s then n else numFrom s k (n + 1)) else 0
def numName (s : ByteArray) : Int := numFrom s 17 1
theorem number_from (s : ByteArray) : ∀ (k : Nat) (n : Int), 1 ≤ n → n ≤ 17 → 17 - n < k → names_Number.l0 k s n = some (numFrom s k n)
  | 0, n, _, _, h => by omega
  | k + 1, n, h0, h1, h2 => by
    rw [names_Number.l0, numFrom]
    by_cases c : n ≤ 16
    · rw [if_pos c, if_pos c]
      show (Option.bind (some (domName n)) _) = _
      rw [Option.bind_some]
      by_cases e : domName n = s
      · rw [if_pos ((toList_iff _ _).mpr e), if_pos e]
      · rw [if_neg (fun h => e ((toList_iff _ _).mp h)), if_neg e]
        have hw : wrap64 (n + 1) = n + 1 := by unfold wrap64; omega
        rw [hw]; exact number_from s k (n + 1) (by omega) (by omega) (by omega)
    · rw [if_neg c, if_neg c]
theorem numFrom_more (s : ByteArray) : ∀ (k : Nat) (n : Int), 17 - n < k → numFrom s (k + 1) n = numFrom s k n
  | 0, n, h => by
    rw [numFrom, numFrom, if_neg (by omega)]
  | k + 1, n, h => by
    rw [numFrom]
    conv => rhs; rw [numFrom]
    by_cases c : n ≤ 16
    · rw [if_pos c, if_pos c]
      by_cases e : domName n = s
      · rw [if_pos e, if_pos e]
      · rw [if_neg e, if_neg e]
        exact numFrom_more s k (n + 1) (by omega)
    · rw [if_neg c, if_neg c]
theorem number_is (s : ByteArray) : ∀ k, 17 ≤ k → names_Number.f k s = some (numName s) := by
  intro k hk; unfold names_Number.f; rw [number_from s k 1 (by omega) (by omega) (by omega)]
  congr 1
  unfold numName; obtain ⟨j, rfl⟩ := Nat.le.dest hk; clear hk
  induction j with
  | zero => rfl
  | succ j ih => rw [← ih]; exact numFrom_more s (17 + j) 1 (by omega)
theorem numFrom_spec (s : ByteArray) : ∀ (k : Nat) (n : Int), 17 - n ≤ k → (∃ m, n ≤ m ∧ m ≤ 16 ∧ domName m = s ∧ numFrom s k n = m) ∨ ((∀ m, n ≤ m → m ≤ 16 → domName m ≠ s) ∧ numFrom s k n = 0)
  | 0, n, h => .inr ⟨fun m _ _ => by omega, rfl⟩
  | k + 1, n, h => by
    rw [numFrom]
    by_cases c : n ≤ 16
    · rw [if_pos c]
      by_cases e : domName n = s
      · rw [if_pos e]
        exact .inl ⟨n, by omega, c, e, rfl⟩
      · rw [if_neg e]
        rcases numFrom_spec s k (n + 1) (by omega) with ⟨m, h1, h2, h3, h4⟩ | ⟨h1, h2⟩
        · exact .inl ⟨m, by omega, h2, h3, h4⟩
        · refine .inr ⟨fun m hm hm' => ?_, h2⟩
          by_cases e2 : m = n
          · rw [e2]; exact e
          · exact h1 m (by omega) hm'
    · rw [if_neg c]
      exact .inr ⟨fun m _ _ => by omega, rfl⟩
theorem numName_spec (s : ByteArray) : (∃ m, 1 ≤ m ∧ m ≤ 16 ∧ domName m = s ∧ numName s = m) ∨ ((∀ m, 1 ≤ m → m ≤ 16 → domName m ≠ s) ∧ numName s = 0) := numFrom_spec s 17 1 (by omega)
theorem refDomain_is (n : Int) (k : Nat) : liveryref04_Domain.f (k + 1) n = some (domName n) := by
  unfold liveryref04_Domain.f
  by_cases h0 : n < 1
  · rw [if_pos h0, domName_out n (.inl h0)]
    rfl
  · rw [if_neg h0]
    by_cases h1 : n > 16
    · rw [decide_eq_true h1, domName_out n (.inr h1)]
      rfl
    · rw [decide_eq_false h1]
      have : n = 1 ∨ n = 2 ∨ n = 3 ∨ n = 4 ∨ n = 5 ∨ n = 6 ∨ n = 7 ∨ n = 8 ∨ n = 9 ∨ n = 10 ∨ n = 11 ∨ n = 12 ∨ n = 13 ∨ n = 14 ∨ n = 15 ∨ n = 16 := by omega
      rcases this with rfl | rfl | rfl | rfl | rfl | rfl | rfl | rfl | rfl | rfl | rfl | rfl | rfl | rfl | rfl | rfl <;> (show _ = some _; kernel_rfl)
theorem bt_data (s : ByteArray) (i : Nat) (h : i < s.size) : bt s (i : Int) = ((s.data.getD i 0).toNat : Int) := by
  unfold bt; rw [dif_pos (by rw [Int.toNat_natCast]; exact h)]
  have : s.data.getD i 0 = s[i] := by
    rw [Array.getD, dif_pos (show i < s.data.size from h)]; rfl
  rw [this]; rfl
theorem size_two {s : ByteArray} (h : s.size = 2) (t : ByteArray) (ht : t.size = 2) (h0 : bt s 0 = bt t 0) (h1 : bt s 1 = bt t 1) : s = t := by
  apply ByteArray.ext
  apply Array.ext
  · exact h.trans ht.symm
  · intro i hi hi'
    have hs : i < 2 := by have : s.data.size = 2 := h; omega
    have e : bt s (i : Int) = bt t (i : Int) := by
      have : i = 0 ∨ i = 1 := by omega
      rcases this with rfl | rfl
      · exact h0
      · exact h1
    rw [bt_data s i (by omega), bt_data t i (by omega)] at e; rw [Array.getD, dif_pos hi, Array.getD, dif_pos hi'] at e; exact UInt8.toNat_inj.mp (by exact_mod_cast e)
theorem size_three {s : ByteArray} (h : s.size = 3) (t : ByteArray) (ht : t.size = 3) (h0 : bt s 0 = bt t 0) (h1 : bt s 1 = bt t 1) (h2 : bt s 2 = bt t 2) : s = t := by
  apply ByteArray.ext
  apply Array.ext
  · exact h.trans ht.symm
  · intro i hi hi'
    have hs : i < 3 := by have : s.data.size = 3 := h; omega
    have e : bt s (i : Int) = bt t (i : Int) := by
      have : i = 0 ∨ i = 1 ∨ i = 2 := by omega
      rcases this with rfl | rfl | rfl
      · exact h0
      · exact h1
      · exact h2
    rw [bt_data s i (by omega), bt_data t i (by omega)] at e; rw [Array.getD, dif_pos hi, Array.getD, dif_pos hi'] at e; exact UInt8.toNat_inj.mp (by exact_mod_cast e)
theorem refNumber_dom (m : Int) (h : 1 ≤ m) (h' : m ≤ 16) (k : Nat) : Qat.f (k + 2) (domName m) = some m := by
  have : m = 1 ∨ m = 2 ∨ m = 3 ∨ m = 4 ∨ m = 5 ∨ m = 6 ∨ m = 7 ∨ m = 8 ∨ m = 9 ∨ m = 10 ∨ m = 11 ∨ m = 12 ∨ m = 13 ∨ m = 14 ∨ m = 15 ∨ m = 16 := by omega
  rcases this with rfl | rfl | rfl | rfl | rfl | rfl | rfl | rfl | rfl | rfl | rfl | rfl | rfl | rfl | rfl | rfl <;> (show _ = some _; kernel_rfl)
theorem refNumber_none (s : ByteArray) (hn : ∀ m, 1 ≤ m → m ≤ 16 → domName m ≠ s) (k : Nat) : Qat.f (k + 2) s = some 0 := by
  have j0t : Qat.j0 (k + 2) s true = some 0 := by rw [Qat.j0, if_pos rfl]
  have j1t : ∀ x, Qat.j1 (k + 1) s x true = some 0 := fun x => by rw [Qat.j1, if_pos rfl]
  unfold Qat.f
  by_cases c1 : (s.size : Int) < 2
  · rw [if_pos c1, j0t]
  · rw [if_neg c1]
    by_cases c2 : (s.size : Int) > 3
    · rw [if_pos c2, j0t]
    · rw [if_neg c2, if_pos (by omega)]
      by_cases c3 : bt s 0 = 100
      · rw [if_pos c3, if_pos (by omega)]
        by_cases c4 : bt s 1 < 49
        · rw [if_pos c4, j0t]
        · rw [if_neg c4]
          by_cases c5 : bt s 1 > 57
          · rw [decide_eq_true c5, j0t]
          · rw [decide_eq_false c5, Qat.j0, if_neg (by decide), if_pos (by omega)]
            by_cases c6 : (s.size : Int) = 3
            · rw [if_pos c6, if_pos (by omega)]
              by_cases c7 : bt s 2 < 48
              · rw [if_pos c7, j1t]
              · rw [if_neg c7]
                by_cases c8 : bt s 2 > 57
                · rw [decide_eq_true c8, j1t]
                · rw [decide_eq_false c8, Qat.j1, if_neg (by decide), if_pos (by omega)]
                  by_cases c9 : 10 * ((bt s 1 - 48) % 256) + (bt s 2 - 48) % 256 > 16
                  · rw [if_pos c9]
                  · exfalso
                    have e1 : bt s 1 = 49 := by omega
                    have hv : bt s 2 = 48 ∨ bt s 2 = 49 ∨ bt s 2 = 50 ∨ bt s 2 = 51 ∨ bt s 2 = 52 ∨ bt s 2 = 53 ∨ bt s 2 = 54 := by omega
                    rcases hv with e | e | e | e | e | e | e
                    · exact hn 10 (by omega) (by omega) (size_three (by omega) (domName 10) rfl (c3.trans rfl) (e1.trans rfl) (e.trans rfl)).symm
                    · exact hn 11 (by omega) (by omega) (size_three (by omega) (domName 11) rfl (c3.trans rfl) (e1.trans rfl) (e.trans rfl)).symm
                    · exact hn 12 (by omega) (by omega) (size_three (by omega) (domName 12) rfl (c3.trans rfl) (e1.trans rfl) (e.trans rfl)).symm
                    · exact hn 13 (by omega) (by omega) (size_three (by omega) (domName 13) rfl (c3.trans rfl) (e1.trans rfl) (e.trans rfl)).symm
                    · exact hn 14 (by omega) (by omega) (size_three (by omega) (domName 14) rfl (c3.trans rfl) (e1.trans rfl) (e.trans rfl)).symm
                    · exact hn 15 (by omega) (by omega) (size_three (by omega) (domName 15) rfl (c3.trans rfl) (e1.trans rfl) (e.trans rfl)).symm
                    · exact hn 16 (by omega) (by omega) (size_three (by omega) (domName 16) rfl (c3.trans rfl) (e1.trans rfl) (e.trans rfl)).symm
            · rw [if_neg c6, if_neg (by omega)]
              exfalso
              have hv : bt s 1 = 49 ∨ bt s 1 = 50 ∨ bt s 1 = 51 ∨ bt s 1 = 52 ∨ bt s 1 = 53 ∨ bt s 1 = 54 ∨ bt s 1 = 55 ∨ bt s 1 = 56 ∨ bt s 1 = 57 := by omega
              rcases hv with e | e | e | e | e | e | e | e | e
              · exact hn 1 (by omega) (by omega) (size_two (by omega) (domName 1) rfl (c3.trans rfl) (e.trans rfl)).symm
              · exact hn 2 (by omega) (by omega) (size_two (by omega) (domName 2) rfl (c3.trans rfl) (e.trans rfl)).symm
              · exact hn 3 (by omega) (by omega) (size_two (by omega) (domName 3) rfl (c3.trans rfl) (e.trans rfl)).symm
              · exact hn 4 (by omega) (by omega) (size_two (by omega) (domName 4) rfl (c3.trans rfl) (e.trans rfl)).symm
              · exact hn 5 (by omega) (by omega) (size_two (by omega) (domName 5) rfl (c3.trans rfl) (e.trans rfl)).symm
              · exact hn 6 (by omega) (by omega) (size_two (by omega) (domName 6) rfl (c3.trans rfl) (e.trans rfl)).symm
              · exact hn 7 (by omega) (by omega) (size_two (by omega) (domName 7) rfl (c3.trans rfl) (e.trans rfl)).symm
              · exact hn 8 (by omega) (by omega) (size_two (by omega) (domName 8) rfl (c3.trans rfl) (e.trans rfl)).symm
              · exact hn 9 (by omega) (by omega) (size_two (by omega) (domName 9) rfl (c3.trans rfl) (e.trans rfl)).symm
      · rw [if_neg c3, j0t]
theorem refNumber_is (s : ByteArray) (k : Nat) : Qat.f (k + 2) s = some (numName s) := by
  rcases numName_spec s with ⟨m, h1, h2, h3, h4⟩ | ⟨h1, h2⟩
  · rw [h4, ← h3, refNumber_dom m h1 h2]
  · rw [h2, refNumber_none s h1]
theorem mayAt_bt {s : ByteArray} {i : Nat} (h : i < s.size) (hi : i ≠ 0) : mayAt i (s.data.getD i 0).toNat = true ↔ (97 ≤ bt s i ∧ bt s i ≤ 122) ∨ (48 ≤ bt s i ∧ bt s i ≤ 57) := by
  rw [bt_data s i h]; unfold mayAt; simp [hi]; omega
theorem refMay_loop (s : ByteArray) (h8 : s.size ≤ 8) : ∀ (k i : Nat), 1 ≤ i → i ≤ s.size → s.size - i < k → mayUpto s i = true → QaD.l0 k s (i : Int) = some (mayUpto s s.size)
  | 0, i, _, _, h, _ => by omega
  | k + 1, i, h1, h2, h3, hm => by
    rw [QaD.l0]
    by_cases c : (i : Int) < (s.size : Int)
    · rw [if_pos c, if_pos (by omega)]
      have hlt : i < s.size := by omega
      have hw : wrap64 ((i : Int) + 1) = ((i + 1 : Nat) : Int) := by unfold wrap64; omega
      have ih := fun hy : mayAt i (s.data.getD i 0).toNat = true => refMay_loop s h8 k (i + 1) (by omega) hlt (by omega) (by rw [mayUpto, hm, hy]; rfl)
      rw [mayAt_bt hlt (by omega)] at ih
      have no := fun hn : mayAt i (s.data.getD i 0).toNat = false => may_stop s i hn s.size hlt
      have hno : ¬ ((97 ≤ bt s i ∧ bt s i ≤ 122) ∨ (48 ≤ bt s i ∧ bt s i ≤ 57)) → mayUpto s s.size = false := fun hn => no (by rw [Bool.eq_false_iff, Ne, mayAt_bt hlt (by omega)]; exact hn)
      rw [hw]
      by_cases a1 : bt s i ≥ 97
      · rw [if_pos a1, if_pos (by omega)]
        by_cases a2 : bt s i ≤ 122
        · rw [if_pos a2]
          exact ih (.inl ⟨a1, a2⟩)
        · rw [if_neg a2, if_neg (by omega), hno (by omega)]
      · rw [if_neg a1]
        by_cases a3 : bt s i ≥ 48
        · rw [if_pos a3]
          by_cases a4 : bt s i ≤ 57
          · rw [if_pos a4]
            exact ih (.inr ⟨a3, a4⟩)
          · rw [if_neg a4, hno (by omega)]
        · rw [if_neg a3, hno (by omega)]
    · rw [if_neg c, show s.size = i by omega, hm]
theorem refMay_is (s : ByteArray) (k : Nat) (hk : 10 ≤ k) : QaD.f k s = some (mayName s) := by
  obtain ⟨k, rfl⟩ : ∃ j, k = j + 1 := ⟨k - 1, by omega⟩
  have jt : QaD.j0 (k + 1) s true = some false := by rw [QaD.j0, if_pos rfl]
  unfold QaD.f mayName
  by_cases c1 : (s.size : Int) < 1
  · rw [if_pos c1, jt, decide_eq_false (p := 0 < s.size) (by omega)]
    simp
  · rw [if_neg c1]
    by_cases c2 : (s.size : Int) > 8
    · rw [if_pos c2, jt, decide_eq_false (p := s.size ≤ 8) (by omega)]
      simp
    · rw [if_neg c2, if_pos (by omega), decide_eq_true (p := 0 < s.size) (by omega), decide_eq_true (p := s.size ≤ 8) (by omega), Bool.and_true, Bool.and_true]
      have h0 : bt s 0 = ((s.data.getD 0 0).toNat : Int) := bt_data s 0 (by omega)
      generalize hd : (s.data.getD 0 0).toNat = d at h0
      by_cases c3 : bt s 0 < 97
      · rw [if_pos c3, jt, may_stop s 0 (by rw [hd]; unfold mayAt; simp; omega) s.size (by omega)]
      · rw [if_neg c3]
        by_cases c4 : bt s 0 > 122
        · rw [decide_eq_true c4, jt, may_stop s 0 (by rw [hd]; unfold mayAt; simp; omega) s.size (by omega)]
        · rw [decide_eq_false c4, QaD.j0, if_neg (by decide)]
          exact refMay_loop s (by omega) k 1 (Nat.le_refl _) (by omega) (by omega) (by rw [mayUpto, mayUpto, hd]; unfold mayAt; simp; omega)
theorem empty_iff (x : ByteArray) : x.toList = [] ↔ x = ⟨#[]⟩ := by
  rw [← toList_iff, show (⟨#[]⟩ : ByteArray).toList = [] by unfold ByteArray.toList; rw [ByteArray.toList.loop]; rfl]
def roleOk (r : Role) : Bool := decide (numName r.f0 > 0) && mayName r.f1
def bareOk (r : Role) : Bool := noText r.f0 && mayName r.f1
def credMay (c : Cred) : Bool :=
  (decide (1 ≤ c.f0.f0 ∧ c.f0.f0 ≤ 16) && decide (1 ≤ c.f0.f1 ∧ c.f0.f1 ≤ 4000) && mayName c.f1) &&
  (if c.f2 = 1 then mayName c.f3 && (noRole c.f4 && noRole c.f5) else if c.f2 = 2 then roleOk c.f4 && (noRole c.f5 && noText c.f3)
    else if c.f2 = 3 then bareOk c.f4 && (bareOk c.f5 && noText c.f3) else if c.f2 = 4 then roleOk c.f4 && (roleOk c.f5 && noText c.f3) else false)
def okCred (c : Cred) : Prop := c.f1.size ≤ maxLen ∧ c.f3.size ≤ maxLen ∧ (c.f4.f0.size ≤ maxLen ∧ c.f4.f1.size ≤ maxLen) ∧ c.f5.f0.size ≤ maxLen ∧ c.f5.f1.size ≤ maxLen
theorem may_is {s : ByteArray} (h : s.size ≤ maxLen) : names_May.f s = some (mayName s) := by
  unfold names_May.f; rw [if_pos h]
theorem role_is (r : Role) (h : r.f1.size ≤ maxLen) (k : Nat) (hk : 17 ≤ k) : names_Role.f k r.f0 r.f1 = some (roleOk r) := by
  unfold names_Role.f roleOk; rw [number_is _ k hk, Option.bind_some, may_is h, Option.bind_some]
  by_cases c : numName r.f0 > 0
  · rw [if_pos c, decide_eq_true c]; rfl
  · rw [if_neg c, decide_eq_false c]; rfl
theorem bare_is (r : Role) (h : r.f1.size ≤ maxLen) : cred_bare.f r.f0 r.f1 = some (bareOk r) := by
  unfold cred_bare.f bareOk noText; rw [may_is h, Option.bind_some]
  by_cases c : r.f0.toList = []
  · rw [if_pos c, c]; rfl
  · rw [if_neg c, beq_eq_false_iff_ne.mpr c]; rfl
theorem and3_is (x y z : Bool) : and3 (some x) (some y) (some z) = some (x && (y && z)) := by
  cases x <;> cases y <;> rfl
theorem credMay_is (c : Cred) (h : okCred c) : cred_May.f c.f0.f0 c.f0.f1 c.f1 c.f2 c.f3 c.f4.f0 c.f4.f1 c.f5.f0 c.f5.f1 = some (credMay c) := by
  obtain ⟨h1, h3, ⟨h40, h41⟩, h50, h51⟩ := h
  show mayF c = some (credMay c)
  unfold mayF credMay
  by_cases d : 1 ≤ c.f0.f0 ∧ c.f0.f0 ≤ 16
  · have hn : ¬ noText (domName c.f0.f0) = true := fun e => domName_ne d.1 d.2 ((empty_iff _).mp (beq_iff_eq.mp e))
    rw [if_neg hn, decide_eq_true d]
    by_cases s1 : c.f0.f1 < 1
    · rw [if_pos s1, decide_eq_false (p := 1 ≤ c.f0.f1 ∧ c.f0.f1 ≤ 4000) (by omega)]; rfl
    · rw [if_neg s1]
      by_cases s2 : c.f0.f1 > 4000
      · rw [if_pos s2, decide_eq_false (p := 1 ≤ c.f0.f1 ∧ c.f0.f1 ≤ 4000) (by omega)]; rfl
      · rw [if_neg s2, decide_eq_true (p := 1 ≤ c.f0.f1 ∧ c.f0.f1 ≤ 4000) (by omega), may_is h1, Option.bind_some]
        cases hm : mayName c.f1
        · rfl
        · rw [if_pos rfl]
          unfold mayKind
          by_cases k1 : c.f2 = 1
          · rw [if_pos k1, if_pos k1, may_is h3, and3_is]; rfl
          · rw [if_neg k1, if_neg k1]
            by_cases k2 : c.f2 = 2
            · rw [if_pos k2, if_pos k2, role_is c.f4 h41 20 (by omega), and3_is]; rfl
            · rw [if_neg k2, if_neg k2]
              by_cases k3 : c.f2 = 3
              · rw [if_pos k3, if_pos k3, bare_is c.f4 h41, bare_is c.f5 h51, and3_is]; rfl
              · rw [if_neg k3, if_neg k3]
                by_cases k4 : c.f2 = 4
                · rw [if_pos k4, if_pos k4, role_is c.f4 h41 20 (by omega), role_is c.f5 h51 20 (by omega), and3_is]; rfl
                · rw [if_neg k4, if_neg k4]; rfl
  · have e : domName c.f0.f0 = ⟨#[]⟩ := domName_out _ (by omega)
    rw [if_pos (show noText (domName c.f0.f0) = true from beq_iff_eq.mpr ((empty_iff _).mpr e)), decide_eq_false d]; rfl
end Go.Proofs.YtmaipohgahdclaaGreatDoor.Pr
end
section
namespace Go.Proofs.YtmaipohgahdclaaGreatDoor.Pr
open Go.RowKit Go.ChangeShapes Go.WideShapes Go.Proofs.YtmaipohgahdclaaGreatDoorW.PrintWords Go.Proofs.YtmaipohgahdclaaGreatDoorW.PrintLast Go.Proofs.YtmaipohgahdclaaGreatDoorW.PrintMore
def Opens {α : Type} (P : Program) (e : TypeId) (d : Kd α) (Q : α → Prop) : Prop :=
  ∀ (H : Type) (enc : TypeId × Value → H) (w : World) (base : Nat) (spare : Nat → Bool) (held : Bool) (fuel : Nat) (cs : List Value) (x : DataW H × List MemPlace), DataW.trod enc P w base spare held fuel e cs = some x → ∃ a, d.K w a cs ∧ Q a
section
variable {H : Type} {enc : TypeId × Value → H} {P : Program} {w : World} {base : Nat} {spare : Nat → Bool} {held : Bool}
theorem field_at {t : TypeId} {fs : Array Field} {fuel : Nat} {cs : List Value} {x : DataW H × List MemPlace} (ht : P.underlying t = some (.struct fs)) (h : DataW.trod enc P w base spare held fuel t cs = some x) :
    cs.length = P.cellsOf t ∧ ∃ n, ∀ (i : Nat) (f : Field), fs[i]? = some f → ∃ y, DataW.trod enc P w base spare held n f.type ((cs.drop f.offset).take (P.cellsOf f.type)) = some y := by
  obtain ⟨xs, n, _, _, hl, hx, hf⟩ := DataW.trod_struct ht h; refine ⟨hl, n, fun i f hi => ?_⟩; have hi' : i < fs.size := (Array.getElem?_eq_some_iff.mp hi).1; exact ⟨xs[i]'(by omega), (hf i f hi).trans (List.getElem?_eq_getElem (by omega))⟩
theorem list_of {α : Type} {R : Nat → α → Prop} : ∀ n, (∀ i, i < n → ∃ y, R i y) → ∃ xs : List α, xs.length = n ∧ ∀ i y, xs[i]? = some y → R i y
  | 0, _ => ⟨[], rfl, fun i y h => by simp at h⟩
  | n + 1, h => by
    obtain ⟨xs, hl, hx⟩ := list_of n (fun i hi => h i (by omega)); obtain ⟨y, hy⟩ := h n (by omega); refine ⟨xs ++ [y], by simp [hl], fun i z hz => ?_⟩
    by_cases hi : i < n
    · rw [List.getElem?_append_left (by omega)] at hz
      exact hx i z hz
    · rw [List.getElem?_append_right (by omega)] at hz
      have hi2 : i - xs.length = 0 := by
        have := (List.getElem?_eq_some_iff.mp hz).1; simp at this; omega
      rw [hi2] at hz
      have : y = z := by simpa using hz
      rw [show i = n by omega, ← this]; exact hy
theorem cells_at {a : Addr} {n : Nat} {cs : List Value} (h : w.cells? base a n = some cs) : cs.length = n ∧ ∀ i u, cs[i]? = some u → w.cell? (a.add i) = some u := by
  unfold World.cells? at h
  split at h
  · have hl := mapM_some_length h
    rw [List.length_range] at hl; refine ⟨hl, fun i u hu => ?_⟩
    have hi : i < n := by have := (List.getElem?_eq_some_iff.mp hu).1; omega
    have := mapM_some_get h i i (by simp [hi]); rw [this, hu]
  · cases h
theorem open_row {α : Type} {d : Kd α} {Q : α → Prop} {t e : TypeId} {fuel : Nat} {a : Option Addr} {len cap : Nat} {x : DataW H × List MemPlace} (ht : P.underlying t = some (.slice e)) (hc : P.cellsOf e = d.sz) (ho : Opens P e d Q)
    (h : DataW.trod enc P w base spare held fuel t [.slice a len cap] = some x) : ∃ xs : List α, xs.length = len ∧ d.C w a xs.length xs ∧ xs.length ≤ cap ∧ ∀ y ∈ xs, Q y := by
  rcases DataW.trod_slice ht h with ⟨hcs, _⟩ | ⟨a', len', cap', elems, rest, n, _, hcs, _, hb, hl, hm, hlen, hel, _, _⟩
  · simp only [List.cons.injEq, Value.slice.injEq, and_true] at hcs
    obtain ⟨rfl, rfl, rfl⟩ := hcs; exact ⟨[], rfl, ⟨rfl, Nat.zero_le _, fun h => absurd h (Nat.lt_irrefl _)⟩, Nat.le_refl _, fun y hy => by cases hy⟩
  · simp only [List.cons.injEq, Value.slice.injEq, and_true] at hcs
    obtain ⟨rfl, rfl, rfl⟩ := hcs
    obtain ⟨xs, hxl, hx⟩ := list_of (R := fun i y => ∃ cs, w.cells? base (a'.add (i * P.cellsOf e)) (P.cellsOf e) = some cs ∧ d.K w y cs ∧ Q y) len (fun i hi => by
      have h1 := hel i hi; rw [List.getElem?_eq_getElem (by omega)] at h1; obtain ⟨cs, hcs, hy⟩ := Option.bind_eq_some_iff.mp h1; obtain ⟨y, hk, hq⟩ := ho _ _ _ _ _ _ _ _ _ hy
      exact ⟨y, cs, hcs, hk, hq⟩)
    refine ⟨xs, hxl, ⟨rfl, ?_, fun _ => ⟨a', rfl, fun j p hj => ?_⟩⟩, by omega, fun y hy => ?_⟩
    · have : maxLen = 9223372036854775807 := by decide
      omega
    · obtain ⟨cs, h1, h2, _⟩ := hx j p hj
      obtain ⟨hl1, hl2⟩ := cells_at h1; refine ⟨cs, by omega, h2, fun i u hu => ?_⟩; rw [← hc, ← Addr.add_add]; exact hl2 i u hu
    · obtain ⟨i, hi, e⟩ := List.getElem_of_mem hy
      obtain ⟨_, _, _, hq⟩ := hx i y (by rw [List.getElem?_eq_getElem hi, e]); exact hq
end
theorem list2 {α : Type} : ∀ {l : List α}, l.length = 2 → ∃ a b, l = [a, b]
  | [a, b], _ => ⟨a, b, rfl⟩
theorem list9 {α : Type} : ∀ {l : List α}, l.length = 9 → ∃ a b c d e f g h i, l = [a, b, c, d, e, f, g, h, i]
  | [a, b, c, d, e, f, g, h, i], _ => ⟨a, b, c, d, e, f, g, h, i, rfl⟩
theorem opens_role : Opens Tryz.prog 24 k24 (fun r => r.f0.size ≤ maxLen ∧ r.f1.size ≤ maxLen) := by
  intro H enc w base spare held fuel cs x h; obtain ⟨hl, n, hf⟩ := field_at Tryz.underlying24 h; rw [Tryz.cellsRole] at hl; obtain ⟨y0, h0⟩ : ∃ y, DataW.trod enc Tryz.prog w base spare held n 9 ((cs.drop 0).take (Tryz.prog.cellsOf 9)) = some y := hf 0 _ rfl; obtain ⟨y1, h1⟩ : ∃ y, DataW.trod enc Tryz.prog w base spare held n 9 ((cs.drop 1).take (Tryz.prog.cellsOf 9)) = some y := hf 1 _ rfl; rw [Tryz.cellsStr] at h0 h1; obtain ⟨c0, c1, rfl⟩ := list2 hl; obtain ⟨s0, e0, _, z0⟩ := DataW.trod_string Tryz.underlying9 h0; obtain ⟨s1, e1, _, z1⟩ := DataW.trod_string Tryz.underlying9 h1
  obtain rfl : c0 = .string s0 := by simpa using e0
  obtain rfl : c1 = .string s1 := by simpa using e1
  exact ⟨⟨s0, s1⟩, k24_mk w ⟨s0, s1⟩, z0, z1⟩
theorem Tryz.cellsInt : Tryz.prog.cellsOf 3 = 1 := by kernel_rfl
theorem Tryz.cellsID : Tryz.prog.cellsOf 26 = 2 := by kernel_rfl
theorem Tryz.cellsCred : Tryz.prog.cellsOf 42 = 9 := by kernel_rfl
theorem opens_id : Opens Tryz.prog 26 k26 (fun _ => True) := by
  intro H enc w base spare held fuel cs x h; obtain ⟨hl, n, hf⟩ := field_at Tryz.underlying26 h; rw [Tryz.cellsID] at hl; obtain ⟨y0, h0⟩ : ∃ y, DataW.trod enc Tryz.prog w base spare held n 3 ((cs.drop 0).take (Tryz.prog.cellsOf 3)) = some y := hf 0 _ rfl; obtain ⟨y1, h1⟩ : ∃ y, DataW.trod enc Tryz.prog w base spare held n 3 ((cs.drop 1).take (Tryz.prog.cellsOf 3)) = some y := hf 1 _ rfl; rw [Tryz.cellsInt] at h0 h1; obtain ⟨c0, c1, rfl⟩ := list2 hl; obtain ⟨s0, e0, _, z0⟩ := DataW.trod_int Tryz.underlying3 h0; obtain ⟨s1, e1, _, z1⟩ := DataW.trod_int Tryz.underlying3 h1
  obtain rfl : c0 = .int .i64 s0 := by simpa using e0
  obtain rfl : c1 = .int .i64 s1 := by simpa using e1
  exact ⟨⟨s0, s1⟩, k26_mk w ⟨s0, s1⟩, trivial⟩
theorem opens_cred : Opens Tryz.prog 42 k42 okCred := by
  intro H enc w base spare held fuel cs x h; obtain ⟨hl, n, hf⟩ := field_at Tryz.underlying42 h; rw [Tryz.cellsCred] at hl; obtain ⟨y0, h0⟩ : ∃ y, DataW.trod enc Tryz.prog w base spare held n 26 ((cs.drop 0).take (Tryz.prog.cellsOf 26)) = some y := hf 0 _ rfl; obtain ⟨y1, h1⟩ : ∃ y, DataW.trod enc Tryz.prog w base spare held n 9 ((cs.drop 2).take (Tryz.prog.cellsOf 9)) = some y := hf 1 _ rfl; obtain ⟨y2, h2⟩ : ∃ y, DataW.trod enc Tryz.prog w base spare held n 3 ((cs.drop 3).take (Tryz.prog.cellsOf 3)) = some y := hf 2 _ rfl; obtain ⟨y3, h3⟩ : ∃ y, DataW.trod enc Tryz.prog w base spare held n 9 ((cs.drop 4).take (Tryz.prog.cellsOf 9)) = some y := hf 3 _ rfl; obtain ⟨y4, h4⟩ : ∃ y, DataW.trod enc Tryz.prog w base spare held n 24 ((cs.drop 5).take (Tryz.prog.cellsOf 24)) = some y := hf 4 _ rfl; obtain ⟨y5, h5⟩ : ∃ y, DataW.trod enc Tryz.prog w base spare held n 24 ((cs.drop 7).take (Tryz.prog.cellsOf 24)) = some y := hf 5 _ rfl; rw [Tryz.cellsID] at h0; rw [Tryz.cellsStr] at h1 h3; rw [Tryz.cellsInt] at h2; rw [Tryz.cellsRole] at h4 h5; obtain ⟨c0, c1, c2, c3, c4, c5, c6, c7, c8, rfl⟩ := list9 hl; obtain ⟨a, ka, _⟩ := opens_id _ _ _ _ _ _ _ _ _ h0
  obtain ⟨rfl, rfl⟩ : c0 = .int .i64 a.f0 ∧ c1 = .int .i64 a.f1 := by simpa using k26_open ka
  obtain ⟨s1, e1, _, z1⟩ := DataW.trod_string Tryz.underlying9 h1; obtain ⟨s2, e2, _, z2⟩ := DataW.trod_int Tryz.underlying3 h2; obtain ⟨s3, e3, _, z3⟩ := DataW.trod_string Tryz.underlying9 h3
  obtain rfl : c2 = .string s1 := by simpa using e1
  obtain rfl : c3 = .int .i64 s2 := by simpa using e2
  obtain rfl : c4 = .string s3 := by simpa using e3
  obtain ⟨r4, k4, z4⟩ := opens_role _ _ _ _ _ _ _ _ _ h4
  obtain ⟨rfl, rfl⟩ : c5 = .string r4.f0 ∧ c6 = .string r4.f1 := by simpa using k24_open k4
  obtain ⟨r5, k5, z5⟩ := opens_role _ _ _ _ _ _ _ _ _ h5
  obtain ⟨rfl, rfl⟩ : c7 = .string r5.f0 ∧ c8 = .string r5.f1 := by simpa using k24_open k5
  exact ⟨⟨a, s1, s2, s3, r4, r5⟩, k42_mk w ⟨a, s1, s2, s3, r4, r5⟩, z1, z3, z4, z5⟩
section
variable {H : Type} {enc : TypeId × Value → H} {P : Program} {w : World} {base : Nat} {spare : Nat → Bool} {held : Bool}
theorem field_less {t : TypeId} {fs : Array Field} {fuel : Nat} {cs : List Value} {x : DataW H × List MemPlace} (ht : P.underlying t = some (.struct fs)) (h : DataW.trod enc P w base spare held fuel t cs = some x) :
    cs.length = P.cellsOf t ∧ ∃ n, n < fuel ∧ ∀ (i : Nat) (f : Field), fs[i]? = some f → ∃ y, DataW.trod enc P w base spare held n f.type ((cs.drop f.offset).take (P.cellsOf f.type)) = some y := by
  obtain ⟨xs, n, e, _, hl, hx, hf⟩ := DataW.trod_struct ht h; refine ⟨hl, n, by omega, fun i f hi => ?_⟩; have hi' : i < fs.size := (Array.getElem?_eq_some_iff.mp hi).1; exact ⟨xs[i]'(by omega), (hf i f hi).trans (List.getElem?_eq_getElem (by omega))⟩
theorem open_less {α : Type} {d : Kd α} {Q : α → Prop} {t e : TypeId} {fuel : Nat} {cs : List Value} {x : DataW H × List MemPlace} (ht : P.underlying t = some (.slice e)) (hc : P.cellsOf e = d.sz)
    (ho : ∀ n, n < fuel → ∀ (cs : List Value) (x : DataW H × List MemPlace), DataW.trod enc P w base spare held n e cs = some x → ∃ a, d.K w a cs ∧ Q a)
    (h : DataW.trod enc P w base spare held fuel t cs = some x) : ∃ (a : Option Addr) (cap : Nat) (xs : List α), cs = [.slice a xs.length cap] ∧ d.C w a xs.length xs ∧ xs.length ≤ cap ∧ ∀ y ∈ xs, Q y := by
  rcases DataW.trod_slice ht h with ⟨rfl, _⟩ | ⟨a', len', cap', elems, rest, n, en, rfl, _, hb, hl, hm, hlen, hel, _, _⟩
  · exact ⟨none, 0, [], rfl, ⟨rfl, Nat.zero_le _, fun h => absurd h (Nat.lt_irrefl _)⟩, Nat.le_refl _, fun y hy => by cases hy⟩
  · obtain ⟨xs, hxl, hx⟩ := list_of (R := fun i y => ∃ cs, w.cells? base (a'.add (i * P.cellsOf e)) (P.cellsOf e) = some cs ∧ d.K w y cs ∧ Q y) len' (fun i hi => by
      have h1 := hel i hi; rw [List.getElem?_eq_getElem (by omega)] at h1; obtain ⟨cs, hcs, hy⟩ := Option.bind_eq_some_iff.mp h1; obtain ⟨y, hk, hq⟩ := ho n (by omega) _ _ hy
      exact ⟨y, cs, hcs, hk, hq⟩)
    refine ⟨some a', cap', xs, by rw [hxl], ⟨rfl, ?_, fun _ => ⟨a', rfl, fun j p hj => ?_⟩⟩, by omega, fun y hy => ?_⟩
    · have : maxLen = 9223372036854775807 := by decide
      omega
    · obtain ⟨cs, h1, h2, _⟩ := hx j p hj
      obtain ⟨hl1, hl2⟩ := cells_at h1; refine ⟨cs, by omega, h2, fun i u hu => ?_⟩; rw [← hc, ← Addr.add_add]; exact hl2 i u hu
    · obtain ⟨i, hi, e⟩ := List.getElem_of_mem hy
      obtain ⟨_, _, _, hq⟩ := hx i y (by rw [List.getElem?_eq_getElem hi, e]); exact hq
end
theorem opens_okid : Opens Tryz.prog 26 k26 okID := by
  intro H enc w base spare held fuel cs x h; obtain ⟨hl, n, hf⟩ := field_at Tryz.underlying26 h; rw [Tryz.cellsID] at hl; obtain ⟨y0, h0⟩ : ∃ y, DataW.trod enc Tryz.prog w base spare held n 3 ((cs.drop 0).take (Tryz.prog.cellsOf 3)) = some y := hf 0 _ rfl; obtain ⟨y1, h1⟩ : ∃ y, DataW.trod enc Tryz.prog w base spare held n 3 ((cs.drop 1).take (Tryz.prog.cellsOf 3)) = some y := hf 1 _ rfl; rw [Tryz.cellsInt] at h0 h1; obtain ⟨c0, c1, rfl⟩ := list2 hl; obtain ⟨s0, e0, _, z0⟩ := DataW.trod_int Tryz.underlying3 h0; obtain ⟨s1, e1, _, z1⟩ := DataW.trod_int Tryz.underlying3 h1
  obtain rfl : c0 = .int .i64 s0 := by simpa using e0
  obtain rfl : c1 = .int .i64 s1 := by simpa using e1
  exact ⟨⟨s0, s1⟩, k26_mk w ⟨s0, s1⟩, z0, z1⟩
theorem list6 {α : Type} : ∀ {l : List α}, l.length = 6 → ∃ a b c d e f, l = [a, b, c, d, e, f]
  | [a, b, c, d, e, f], _ => ⟨a, b, c, d, e, f, rfl⟩
theorem Tryz.cellsProof : Tryz.prog.cellsOf 29 = 6 := by kernel_rfl
theorem Tryz.cellsProofs : Tryz.prog.cellsOf 27 = 1 := by kernel_rfl
theorem okTreeL : ∀ {ps : List Proof}, (∀ q ∈ ps, okTree q) → ∀ j ∈ idsL ps, okID j
  | [], _, j, hj => by rw [idsL_nil] at hj; cases hj
  | q :: ps, h, j, hj => by
    rw [idsL_cons, List.mem_append] at hj
    rcases hj with hj | hj
    · exact h q (List.mem_cons_self ..) j hj
    · exact okTreeL (fun q hq => h q (List.mem_cons_of_mem _ hq)) j hj
theorem okTree_mk {r : Role} {u : ByteArray} {i : ID} {ps : List Proof} (hi : okID i) (h : ∀ q ∈ ps, okTree q) : okTree ⟨r, u, i, ps⟩ := by
  intro j hj; rw [ids_eq] at hj
  rcases List.mem_cons.mp hj with rfl | hj
  · exact hi
  · exact okTreeL h j hj
theorem opens_proof : Opens Tryz.prog 29 k29 okTree := by
  intro H enc w base spare held fuel
  have key : ∀ m n, n ≤ m → ∀ (cs : List Value) (x : DataW H × List MemPlace), DataW.trod enc Tryz.prog w base spare held n 29 cs = some x → ∃ a, k29.K w a cs ∧ okTree a := by
    intro m
    induction m with
    | zero =>
      intro n hn cs x h; obtain ⟨_, m', hm, _⟩ := field_less Tryz.underlying29 h; omega
    | succ m ih =>
      intro n0 hn cs x h; obtain ⟨hl, n, hnl, hf⟩ := field_less Tryz.underlying29 h; rw [Tryz.cellsProof] at hl; obtain ⟨y0, h0⟩ : ∃ y, DataW.trod enc Tryz.prog w base spare held n 24 ((cs.drop 0).take (Tryz.prog.cellsOf 24)) = some y := hf 0 _ rfl; obtain ⟨y1, h1⟩ : ∃ y, DataW.trod enc Tryz.prog w base spare held n 9 ((cs.drop 2).take (Tryz.prog.cellsOf 9)) = some y := hf 1 _ rfl; obtain ⟨y2, h2⟩ : ∃ y, DataW.trod enc Tryz.prog w base spare held n 26 ((cs.drop 3).take (Tryz.prog.cellsOf 26)) = some y := hf 2 _ rfl; obtain ⟨y3, h3⟩ : ∃ y, DataW.trod enc Tryz.prog w base spare held n 27 ((cs.drop 5).take (Tryz.prog.cellsOf 27)) = some y := hf 3 _ rfl; rw [Tryz.cellsRole] at h0; rw [Tryz.cellsStr] at h1; rw [Tryz.cellsID] at h2; rw [Tryz.cellsProofs] at h3; obtain ⟨c0, c1, c2, c3, c4, c5, rfl⟩ := list6 hl; obtain ⟨r0, k0, _⟩ := opens_role _ _ _ _ _ _ _ _ _ h0
      obtain ⟨rfl, rfl⟩ : c0 = .string r0.f0 ∧ c1 = .string r0.f1 := by simpa using k24_open k0
      obtain ⟨s1, e1, _, z1⟩ := DataW.trod_string Tryz.underlying9 h1
      obtain rfl : c2 = .string s1 := by simpa using e1
      obtain ⟨i2, k2, z2⟩ := opens_okid _ _ _ _ _ _ _ _ _ h2
      obtain ⟨rfl, rfl⟩ : c3 = .int .i64 i2.f0 ∧ c4 = .int .i64 i2.f1 := by simpa using k26_open k2
      obtain ⟨a, cap, ps, e3, hC, hcap, hq⟩ := open_less (d := k29) Tryz.underlying27 (Tryz.cellsProof.trans rfl) (fun m' hm' cs x h => ih m' (by omega) cs x h) h3
      obtain rfl : c5 = .slice a ps.length cap := by simpa using e3
      exact ⟨⟨r0, s1, i2, ps⟩, k29_mk w ⟨r0, s1, i2, ps⟩ hcap hC, okTree_mk z2 hq⟩
  exact fun cs x h => key fuel fuel (Nat.le_refl _) cs x h
end Go.Proofs.YtmaipohgahdclaaGreatDoor.Pr
end
section
namespace Go.Proofs.YtmaipohgahdclaaGreatDoor.Pr
open Go.RowKit Go.Proofs.YtmaipohgahdclaaGreatDoorW.PrintWords Go.Proofs.YtmaipohgahdclaaGreatDoorW.PrintLast Go.Proofs.YtmaipohgahdclaaGreatDoorW.PrintMore
def sameID (a b : Cred) : Bool := decide (a.f0.f0 = b.f0.f0) && decide (a.f0.f1 = b.f0.f1)
theorem sameID_iff {a b : Cred} : sameID a b = true ↔ a.f0.f0 = b.f0.f0 ∧ a.f0.f1 = b.f0.f1 := by
  unfold sameID; rw [Bool.and_eq_true, decide_eq_true_eq, decide_eq_true_eq]
def credLess (a b : Cred) : Prop := a.f0.f0 < b.f0.f0 ∨ (a.f0.f0 = b.f0.f0 ∧ a.f0.f1 < b.f0.f1)
theorem credLess_irrefl (a : Cred) : ¬ credLess a a := by unfold credLess; omega
theorem credLess_trans (a b c : Cred) (h : credLess a b) (h' : credLess b c) : credLess a c := by unfold credLess at *; omega
def First (l : List Cred) (c : Cred) : Prop := l.find? (fun d => credMay d && sameID d c) = some c
structure Counts (l R : List Cred) : Prop where
  sorted : R.Pairwise credLess
  mem : ∀ c, c ∈ R ↔ First l c
theorem Counts.unique {l R R' : List Cred} (h : Counts l R) (h' : Counts l R') : R = R' :=
  sorted_eq credLess_irrefl credLess_trans h.sorted h'.sorted (fun c => (h.mem c).trans (h'.mem c).symm)
theorem First.may {l : List Cred} {c : Cred} (h : First l c) : credMay c = true := by
  have := List.find?_some h; rw [Bool.and_eq_true] at this; exact this.1
theorem First.mem {l : List Cred} {c : Cred} (h : First l c) : c ∈ l := List.mem_of_find?_eq_some h
def firsts (out : List Cred) : List Cred → List Cred
  | [] => out
  | c :: l => if credMay c && !(out.any fun d => sameID d c) then firsts (out ++ [c]) l else firsts out l
theorem firsts_mem (c : Cred) : ∀ (l out : List Cred), c ∈ firsts out l ↔ c ∈ out ∨ ((∀ d ∈ out, sameID d c = false) ∧ First l c)
  | [], out => by
    rw [firsts]; unfold First; simp
  | x :: l, out => by
    rw [firsts]; unfold First; rw [List.find?_cons]
    by_cases h : (credMay x && !(out.any fun d => sameID d x)) = true
    · rw [if_pos h, firsts_mem c l (out ++ [x])]
      rw [Bool.and_eq_true, Bool.not_eq_true', List.any_eq_false] at h
      by_cases hx : sameID x c = true
      · rw [h.1, hx]
        simp only [Bool.and_self, Option.some.injEq, List.mem_append, List.mem_singleton]; constructor
        · rintro ((h1 | h1) | ⟨h1, _⟩)
          · exact .inl h1
          · exact .inr ⟨fun d hd => by rw [h1]; simpa using h.2 d hd, h1.symm⟩
          · have := h1 x (by simp)
            rw [hx] at this; cases this
        · rintro (h1 | ⟨_, h1⟩)
          · exact .inl (.inl h1)
          · exact .inl (.inr h1.symm)
      · rw [Bool.not_eq_true] at hx
        rw [hx, Bool.and_false]; simp only [List.mem_append, List.mem_singleton]; unfold First; constructor
        · rintro ((h1 | h1) | ⟨h1, h2⟩)
          · exact .inl h1
          · subst h1
            rw [Bool.eq_false_iff] at hx; exact absurd (sameID_iff.mpr ⟨rfl, rfl⟩) hx
          · exact .inr ⟨fun d hd => h1 d (.inl hd), h2⟩
        · rintro (h1 | ⟨h1, h2⟩)
          · exact .inl (.inl h1)
          · refine .inr ⟨fun d hd => ?_, h2⟩
            rcases hd with hd | hd
            · exact h1 d hd
            · rw [hd]; exact hx
    · rw [if_neg h, firsts_mem c l out]
      by_cases hx : sameID x c = true
      · by_cases hm : credMay x = true
        · have hany : (out.any fun d => sameID d x) = true := by
            rw [hm, Bool.true_and] at h
            simpa using h
          obtain ⟨d, hd, hdx⟩ := List.any_eq_true.mp hany
          have hdc : sameID d c = true := by
            rw [sameID_iff] at *; omega
          have no : ∀ P : Prop, ¬ ((∀ d ∈ out, sameID d c = false) ∧ P) := fun P hP => by
            have := hP.1 d hd; rw [hdc] at this; cases this
          simp only [no]
        · rw [Bool.not_eq_true] at hm
          rw [hm, Bool.false_and]; rfl
      · rw [Bool.not_eq_true] at hx
        rw [hx, Bool.and_false]; rfl
theorem firsts_apart : ∀ (l out : List Cred), out.Pairwise (fun a b => sameID a b = false) → (firsts out l).Pairwise (fun a b => sameID a b = false)
  | [], out, h => h
  | x :: l, out, h => by
    rw [firsts]
    split
    · rename_i hc
      rw [Bool.and_eq_true, Bool.not_eq_true', List.any_eq_false] at hc; refine firsts_apart l _ ?_; rw [List.pairwise_append]; exact ⟨h, List.pairwise_singleton _ _, fun a ha b hb => by rw [List.mem_singleton.mp hb]; simpa using hc.2 a ha⟩
    · exact firsts_apart l out h
theorem firsts_sorted : ∀ (l out : List Cred), out.Pairwise credLess → (∀ d ∈ out, ∀ c ∈ l, ¬ credLess c d) → l.Pairwise (fun x y => ¬ credLess y x) → (firsts out l).Pairwise credLess
  | [], out, h, _, _ => h
  | x :: l, out, h, hol, hl => by
    rw [firsts]; rw [List.pairwise_cons] at hl
    split
    · rename_i hc
      rw [Bool.and_eq_true, Bool.not_eq_true', List.any_eq_false] at hc; refine firsts_sorted l _ ?_ ?_ hl.2
      · rw [List.pairwise_append]
        refine ⟨h, List.pairwise_singleton _ _, fun a ha b hb => ?_⟩; rw [List.mem_singleton.mp hb]; have h1 := hol a ha x (List.mem_cons_self ..); have h2 := hc.2 a ha; rw [sameID_iff] at h2; unfold credLess at *; omega
      · intro d hd c hcl
        rcases List.mem_append.mp hd with h1 | h1
        · exact hol d h1 c (List.mem_cons_of_mem _ hcl)
        · rw [List.mem_singleton.mp h1]
          exact hl.1 c hcl
    · exact firsts_sorted l out h (fun d hd c hcl => hol d hd c (List.mem_cons_of_mem _ hcl)) hl.2
theorem sortCreds_filter (q : Cred → Bool) (hq : ∀ x y, q x = true → q y = true → sameID x y = true) (l : List Cred) : (sortCreds l).filter q = l.filter q := by
  refine insertion_filter _ q (fun x y h hx hy => ?_) l; have := hq x y hx hy; rw [credCmp_lt] at h; rw [sameID_iff] at this; omega
theorem sortCreds_sorted (l : List Cred) : (sortCreds l).Pairwise (fun x y => ¬ credLess y x) := by
  refine (insertion_sorted _ credSWO l).imp fun {a b} h => ?_
  rw [Bool.eq_false_iff, Ne, credCmp_lt] at h; exact h
theorem find_filter {α : Type} (p : α → Bool) (l : List α) : l.find? p = (l.filter p).head? := by
  rw [List.head?_filter]
theorem sortCreds_first (l : List Cred) (c : Cred) : First (sortCreds l) c ↔ First l c := by
  unfold First; rw [find_filter, find_filter]
  have e : ∀ m : List Cred, m.filter (fun d => credMay d && sameID d c) = (m.filter (fun d => sameID d c)).filter credMay := fun m => by rw [List.filter_filter]
  rw [e, e, sortCreds_filter _ (fun x y hx hy => by rw [sameID_iff] at *; omega)]
theorem prog_counts (l : List Cred) : Counts l (firsts [] (sortCreds l)) where
  sorted := firsts_sorted _ _ List.Pairwise.nil (fun d hd => by cases hd) (sortCreds_sorted l)
  mem c := by
    rw [firsts_mem, sortCreds_first]; simp
theorem firsts_length : ∀ (l out : List Cred), (firsts out l).length ≤ out.length + l.length
  | [], out => by rw [firsts]; simp
  | x :: l, out => by
    rw [firsts]
    split
    · have := firsts_length l (out ++ [x])
      simp at *; omega
    · have := firsts_length l out
      simp; omega
theorem numName_nonneg (s : ByteArray) : 0 ≤ numName s := by
  rcases numName_spec s with ⟨m, _, _, _, _⟩ | ⟨_, _⟩ <;> omega
theorem refRole_is (r : Role) (k : Nat) (hk : 10 ≤ k) : liveryref04_Role.f k r.f0 r.f1 = some (roleOk r) := by
  obtain ⟨j, rfl⟩ : ∃ j, k = j + 2 := ⟨k - 2, by omega⟩
  unfold liveryref04_Role.f roleOk; rw [refMay_is _ _ hk, Option.bind_some]; have := numName_nonneg r.f0; cases mayName r.f1
  · simp
  · rw [if_pos rfl, refNumber_is, Option.bind_some]
    by_cases e : numName r.f0 = 0
    · rw [e]; rfl
    · rw [decide_eq_true (show numName r.f0 > 0 by omega), bne_iff_ne.mpr e]
      rfl
theorem refBare_is (r : Role) (k : Nat) (hk : 10 ≤ k) : liveryref05_bare.f k r.f0 r.f1 = some (bareOk r) := by
  unfold liveryref05_bare.f bareOk noText; rw [refMay_is _ _ hk, Option.bind_some]; cases mayName r.f1
  · simp
  · simp
theorem refCredMay_is (c : Cred) (k : Nat) (hk : 12 ≤ k) : QaB.f k c.f0.f0 c.f0.f1 c.f1 c.f2 c.f3 c.f4.f0 c.f4.f1 c.f5.f0 c.f5.f1 = some (credMay c) := by
  obtain ⟨k, rfl⟩ : ∃ j, k = j + 1 := ⟨k - 1, by omega⟩
  unfold QaB.f credMay; rw [refMay_is _ _ (by omega), refMay_is _ _ (by omega), refRole_is c.f4 _ (by omega), refRole_is c.f5 _ (by omega)]; simp only [Option.bind_some]
  have jt : ∀ a b d, QaB.j0 (k + 1) a b d true c.f0.f0 c.f0.f1 c.f1 c.f2 c.f3 c.f4.f0 c.f4.f1 c.f5.f0 c.f5.f1 = some false := fun a b d => by rw [QaB.j0, if_pos rfl]
  by_cases d1 : c.f0.f0 < 1
  · rw [if_pos d1, jt, decide_eq_false (p := 1 ≤ c.f0.f0 ∧ c.f0.f0 ≤ 16) (by omega)]; rfl
  rw [if_neg d1]
  by_cases d2 : c.f0.f0 > 16
  · rw [if_pos d2, jt, decide_eq_false (p := 1 ≤ c.f0.f0 ∧ c.f0.f0 ≤ 16) (by omega)]; rfl
  rw [if_neg d2, decide_eq_true (p := 1 ≤ c.f0.f0 ∧ c.f0.f0 ≤ 16) (by omega)]
  by_cases s1 : c.f0.f1 < 1
  · rw [if_pos s1, jt, decide_eq_false (p := 1 ≤ c.f0.f1 ∧ c.f0.f1 ≤ 4000) (by omega)]; rfl
  rw [if_neg s1]
  by_cases s2 : c.f0.f1 > 4000
  · rw [if_pos s2, jt, decide_eq_false (p := 1 ≤ c.f0.f1 ∧ c.f0.f1 ≤ 4000) (by omega)]; rfl
  rw [if_neg s2, decide_eq_true (p := 1 ≤ c.f0.f1 ∧ c.f0.f1 ≤ 4000) (by omega)]; cases mayName c.f1
  · exact jt _ _ _
  show QaB.j0 (k + 1) _ _ _ false _ _ _ _ _ _ _ _ _ = _
  rw [QaB.j0, if_neg (by decide)]
  by_cases k1 : c.f2 = 1
  · rw [if_pos k1, if_pos k1]
    show (if mayName c.f3 = true then if noRole c.f4 = true then some (noRole c.f5) else some false else some false) = _
    cases mayName c.f3 <;> cases noRole c.f4 <;> simp
  rw [if_neg k1, if_neg k1]
  by_cases w : c.f3.toList = []
  · have wt : noText c.f3 = true := by unfold noText; rw [w]; rfl
    rw [if_pos w, wt]
    by_cases k2 : c.f2 = 2
    · rw [if_pos k2, if_pos k2]
      show (if roleOk c.f4 = true then some (noRole c.f5) else some false) = _
      cases roleOk c.f4 <;> simp
    rw [if_neg k2, if_neg k2]
    by_cases k3 : c.f2 = 3
    · rw [if_pos k3, if_pos k3, refBare_is c.f4 k (by omega), refBare_is c.f5 k (by omega), Option.bind_some, Option.bind_some]
      cases bareOk c.f4 <;> cases bareOk c.f5 <;> simp
    rw [if_neg k3, if_neg k3]
    by_cases k4 : c.f2 = 4
    · rw [if_pos k4, if_pos k4]
      cases roleOk c.f4 <;> cases roleOk c.f5 <;> simp
    · rw [if_neg k4, if_neg k4]; rfl
  · have wt : noText c.f3 = false := by unfold noText; exact beq_eq_false_iff_ne.mpr w
    rw [if_neg w, wt]; simp only [Bool.and_false]
    by_cases k2 : c.f2 = 2
    · rw [if_pos k2]; rfl
    rw [if_neg k2]
    by_cases k3 : c.f2 = 3
    · rw [if_pos k3]; rfl
    rw [if_neg k3]
    by_cases k4 : c.f2 = 4
    · rw [if_pos k4]; rfl
    · rw [if_neg k4]; rfl
theorem wrap_succ {i : Nat} (h : i < 1000000000000) : wrap64 ((i : Int) + 1) = ((i + 1 : Nat) : Int) := by unfold wrap64; omega
theorem rdCred (l : List Cred) (i : Nat) : Qam l (i : Int) = l[i]! := by
  unfold Qam; rw [Int.toNat_natCast, List.getElem!_eq_getElem?_getD, List.getD_eq_getElem?_getD]; rfl
theorem getBang {α : Type} [Inhabited α] {l : List α} {i : Nat} (h : i < l.length) : l[i]! = l[i] := getElem!_pos l i h
theorem drop_bang {α : Type} [Inhabited α] {l : List α} {i : Nat} (h : i < l.length) : l.drop i = l[i]! :: l.drop (i + 1) := by
  rw [getBang h]; exact List.drop_eq_getElem_cons h
theorem last_same {ini : List Cred} {z c : Cred} (hs : (ini ++ [z]).Pairwise credLess) (hc : ∀ d ∈ ini ++ [z], ¬ credLess c d) : ((ini ++ [z]).any fun d => sameID d c) = sameID z c := by
  rw [List.any_append]
  have h0 : (ini.any fun d => sameID d c) = false := by
    rw [List.any_eq_false]; intro d hd h; rw [List.pairwise_append] at hs; have h1 := hs.2.2 d hd z (by simp); have h2 := hc z (by simp); rw [sameID_iff] at h; unfold credLess at *; omega
  rw [h0]; simp
theorem progCounts_loop : ∀ (S out : List Cred), (∀ c ∈ S, okCred c) → S.Pairwise (fun x y => ¬ credLess y x) → out.Pairwise credLess → (∀ d ∈ out, ∀ c ∈ S, ¬ credLess c d) → countsF S out = some (firsts out S)
  | [], out, _, _, _, _ => by rw [countsF, firsts]
  | c :: S, out, hok, hpw, hs, hd => by
    have hmay := credMay_is c (hok c (List.mem_cons_self ..)); rw [List.pairwise_cons] at hpw
    have rest := fun (out' : List Cred) h2 h3 => progCounts_loop S out' (fun x hx => hok x (List.mem_cons_of_mem _ hx)) hpw.2 h2 h3
    have grown : ∀ (h : out.any (fun d => sameID d c) = false), countsF S (out ++ [c]) = some (firsts (out ++ [c]) S) := fun h => by
      rw [List.any_eq_false] at h; refine rest _ ?_ ?_
      · rw [List.pairwise_append]
        refine ⟨hs, List.pairwise_singleton _ _, fun a ha b hb => ?_⟩; rw [List.mem_singleton.mp hb]; have h1 := hd a ha c (List.mem_cons_self ..); have h2 := h a ha; rw [sameID_iff] at h2; unfold credLess at *; omega
      · intro d hdm x hx
        rcases List.mem_append.mp hdm with h1 | h1
        · exact hd d h1 x (List.mem_cons_of_mem _ hx)
        · rw [List.mem_singleton.mp h1]
          exact hpw.1 x hx
    have same : countsF S out = some (firsts out S) := rest out hs (fun d hdm x hx => hd d hdm x (List.mem_cons_of_mem _ hx)); rw [countsF, show mayOf c = some (credMay c) from hmay, Option.bind_some, firsts]
    by_cases m : credMay c = true
    · rw [if_pos m, m, Bool.true_and]
      rcases List.eq_nil_or_concat out with e | ⟨ini, z, e⟩
      · subst e
        rw [if_neg (by simp), if_pos (show (!(([] : List Cred).any fun d => sameID d c)) = true from rfl)]; exact grown rfl
      · rw [List.concat_eq_append] at e
        have hany : (out.any fun d => sameID d c) = sameID z c := by
          rw [e] at hs hd ⊢; exact last_same hs (fun d hdm => hd d hdm c (List.mem_cons_self ..))
        have hl : out.getLast?.map (·.f0) = some z.f0 := by rw [e, List.getLast?_concat]; rfl
        rw [hl, hany]; cases hb : sameID z c
        · rw [if_neg (fun h => by have := Option.some.inj h; rw [Bool.eq_false_iff, Ne, sameID_iff, this] at hb; exact hb ⟨rfl, rfl⟩), if_pos (show (!false) = true from rfl)]
          exact grown (hany.trans hb)
        · rw [if_pos (by obtain ⟨e0, e1⟩ := sameID_iff.mp hb; rw [id_ext e0 e1]), if_neg (show ¬ (!true) = true by decide)]
          exact same
    · rw [if_neg m]
      rw [Bool.not_eq_true] at m; rw [m, Bool.false_and]; exact same
theorem cred_ext {a b : Cred} (h0 : a.f0.f0 = b.f0.f0) (h0' : a.f0.f1 = b.f0.f1) (h1 : a.f1 = b.f1) (h2 : a.f2 = b.f2) (h3 : a.f3 = b.f3) (h4 : a.f4 = b.f4) (h5 : a.f5 = b.f5) : a = b := by
  obtain ⟨⟨_, _⟩, _, _, _, _, _⟩ := a; obtain ⟨⟨_, _⟩, _, _, _, _, _⟩ := b
  simp_all
instance credDec : DecidableEq Cred := fun a b => decidable_of_iff (a.f0.f0 = b.f0.f0 ∧ a.f0.f1 = b.f0.f1 ∧ a.f1 = b.f1 ∧ a.f2 = b.f2 ∧ a.f3 = b.f3 ∧ a.f4 = b.f4 ∧ a.f5 = b.f5)
  ⟨fun h => cred_ext h.1 h.2.1 h.2.2.1 h.2.2.2.1 h.2.2.2.2.1 h.2.2.2.2.2.1 h.2.2.2.2.2.2, fun h => by rw [h]; exact ⟨rfl, rfl, rfl, rfl, rfl, rfl, rfl⟩⟩
def counts (l : List Cred) : List Cred := firsts [] (sortCreds l)
theorem counts_spec (l : List Cred) : Counts l (counts l) := prog_counts l
theorem sortCreds_mem {l : List Cred} {c : Cred} : c ∈ sortCreds l ↔ c ∈ l := by
  have := sortCreds_filter (fun d => decide (d = c)) (fun x y hx hy => by
    rw [decide_eq_true_eq] at hx hy; rw [hx, hy]
    exact sameID_iff.mpr ⟨rfl, rfl⟩) l
  constructor
  · intro h
    have h1 : c ∈ (sortCreds l).filter (fun d => decide (d = c)) := List.mem_filter.mpr ⟨h, by simp⟩; rw [this] at h1; exact (List.mem_filter.mp h1).1
  · intro h
    have h1 : c ∈ l.filter (fun d => decide (d = c)) := List.mem_filter.mpr ⟨h, by simp⟩; rw [← this] at h1; exact (List.mem_filter.mp h1).1
theorem progCounts_is (l : List Cred) (hl : l.length < 21) (hok : ∀ c ∈ l, okCred c) : cred_Counts.f l = some (counts l) := by
  unfold cred_Counts.f cred_Sorted.f; have hlen := sortCreds_length l; rw [if_pos hl, Option.bind_some, if_pos (by omega)]; exact progCounts_loop (sortCreds l) [] (fun c hc => hok c (sortCreds_mem.mp hc)) (sortCreds_sorted l) List.Pairwise.nil (fun d hd => by cases hd)
def credLessB (a b : Cred) : Bool := if a.f0.f0 = b.f0.f0 then decide (a.f0.f1 < b.f0.f1) else decide (a.f0.f0 < b.f0.f0)
theorem credLessB_iff (a b : Cred) : credLessB a b = true ↔ credLess a b := by
  unfold credLessB credLess
  split <;> rw [decide_eq_true_eq] <;> omega
theorem before_is (a b : Cred) : liveryref05_Before.f a.f0.f0 a.f0.f1 b.f0.f0 b.f0.f1 = some (credLessB a b) := by
  unfold liveryref05_Before.f credLessB
  split <;> rfl
theorem refSorted_l1 (x : List Cred) (hx : x.length < 1000000) (out : List Cred) (ho : out.length < 1000000) (R : List Cred) : ∀ (n m i : Nat), n + i = x.length → m < x.length →
    Ev (fun k => Qao.l0 k (x.take (selLeast credLessB x n m i) ++ x.drop (selLeast credLessB x n m i + 1)) (out ++ [x[selLeast credLessB x n m i]!])) R → Ev (fun k => Qao.l1 k x out (m : Int) (i : Int)) R
  | 0, m, i, hn, hm, h => by
    rw [selLeast] at h; refine Ev.step (fun k => ?_) h; rw [Qao.l1, if_neg (by omega), if_pos (by omega), if_pos (by omega), if_pos (by omega), if_pos (by omega), Option.bind_some, if_pos (by simp; omega), Option.bind_some, wrap_succ (by omega), if_pos (by omega), if_pos (by omega), Option.bind_some, if_pos (by simp; omega), rdCred]; rfl
  | n + 1, m, i, hn, hm, h => by
    rw [selLeast] at h
    have e : ∀ k, Qao.l1 (k + 1) x out (m : Int) (i : Int) = Qao.l1 k x out ((if credLessB x[i]! x[m]! then i else m : Nat) : Int) ((i + 1 : Nat) : Int) := fun k => by
      rw [Qao.l1, if_pos (by omega), if_pos (by omega), if_pos (by omega), if_pos (by omega), rdCred, rdCred, before_is, Option.bind_some, wrap_succ (by omega)]
      cases credLessB x[i]! x[m]! <;> rfl
    exact Ev.step e (refSorted_l1 x hx out ho R n _ (i + 1) (by omega) (by split <;> omega) h)
theorem selLeast_lt {α : Type} [Inhabited α] (less : α → α → Bool) (l : List α) : ∀ (n m i : Nat), n + i = l.length → m < l.length → selLeast less l n m i < l.length
  | 0, m, i, hn, hm => hm
  | n + 1, m, i, hn, hm => by
    rw [selLeast]; exact selLeast_lt less l n _ _ (by omega) (by split <;> omega)
theorem refSorted_l0 : ∀ (n : Nat) (x out : List Cred), x.length ≤ n → x.length + out.length < 1000000 → Ev (fun k => Qao.l0 k x out) (selSort credLessB n x out)
  | 0, x, out, hn, hl => by
    rw [selSort]; refine Ev.step (fun k => ?_) (Ev.pure _); rw [Qao.l0, if_neg (by omega)]
  | n + 1, x, out, hn, hl => by
    rw [selSort]
    by_cases c : x.length > 0
    · rw [if_pos c]
      have hm := selLeast_lt credLessB x (x.length - 1) 0 1 (by omega) c; refine Ev.step (fun k => ?_) (refSorted_l1 x (by omega) out (by omega) _ (x.length - 1) 0 1 (by omega) c (refSorted_l0 n _ _ ?_ ?_))
      · rw [Qao.l0, if_pos (by omega)]
        rfl
      · simp
        omega
      · simp
        omega
    · rw [if_neg c]
      refine Ev.step (fun k => ?_) (Ev.pure _); rw [Qao.l0, if_neg (by omega)]
theorem refCounts_l1 (x : List Cred) (hx : x.length < 1000000) (out : List Cred) (ho : out.length < 1000000) (i : Nat) (hi : i < x.length) (b : Bool) (R : List Cred) : ∀ (n j : Nat) (h : Bool), n + j = out.length →
    Ev (fun k => Qav.l0 k x (if b && !(h || (out.drop j).any fun d => sameID d x[i]!) then out ++ [x[i]!] else out) ((i + 1 : Nat) : Int)) R → Ev (fun k => Qav.l1 k x out (i : Int) b h (j : Int)) R
  | 0, j, h, hn, hR => by
    rw [show out.drop j = [] from List.drop_eq_nil_of_le (by omega)] at hR; refine Ev.step (fun k => ?_) hR; rw [Qav.l1, if_neg (by omega), wrap_succ (by omega)]; cases b
    · rfl
    · cases h
      · rw [if_pos rfl, if_neg (by decide), if_pos (by omega), if_pos (by omega), if_pos (by omega), rdCred]
        rfl
      · rfl
  | n + 1, j, h, hn, hR => by
    rw [drop_bang (by omega : j < out.length), List.any_cons] at hR
    have e : ∀ k, Qav.l1 (k + 1) x out (i : Int) b h (j : Int) = Qav.l1 k x out (i : Int) b (h || sameID out[j]! x[i]!) ((j + 1 : Nat) : Int) := fun k => by
      rw [Qav.l1, if_pos (by omega), wrap_succ (by omega)]; cases h
      · rw [if_neg (by decide), if_pos (by omega), if_pos (by omega), if_pos (by omega), rdCred, rdCred]
        rfl
      · rfl
    refine Ev.step e (refCounts_l1 x hx out ho i hi b R n (j + 1) _ (by omega) ?_); rw [Bool.or_assoc]; exact hR
theorem refCounts_l0 (x : List Cred) (hx : x.length < 100000) : ∀ (n i : Nat) (out : List Cred), n + i = x.length → out.length ≤ i → Ev (fun k => Qav.l0 k x out (i : Int)) (selSort credLessB x.length (firsts out (x.drop i)) [])
  | 0, i, out, hn, ho => by
    rw [show x.drop i = [] from List.drop_eq_nil_of_le (by omega), firsts]; refine Ev.step (g := fun k => (Qao.f k out).bind fun t => some t) (fun k => ?_) (Ev.bind (a := selSort credLessB x.length out []) ?_ (Ev.pure _))
    · rw [Qav.l0, if_neg (by omega)]
    · exact refSorted_l0 _ out [] (by omega) (by simp; omega)
  | n + 1, i, out, hn, ho => by
    have hi : i < x.length := by omega
    rw [drop_bang hi, firsts]; refine Ev.step (g := fun k => (QaB.f k x[i]!.f0.f0 x[i]!.f0.f1 x[i]!.f1 x[i]!.f2 x[i]!.f3 x[i]!.f4.f0 x[i]!.f4.f1 x[i]!.f5.f0 x[i]!.f5.f1).bind fun t => Qav.l1 k x out (i : Int) t false 0) (fun k => ?_) (Ev.bind (.from 12 fun k hk => refCredMay_is _ k hk) (refCounts_l1 x (by omega) out (by omega) i hi _ _ out.length 0 false (by omega) ?_))
    · rw [Qav.l0, if_pos (by omega), if_pos (by omega), rdCred]
    · rw [List.drop_zero, Bool.false_or]
      split
      · exact refCounts_l0 x hx n (i + 1) _ (by omega) (by simp; omega)
      · exact refCounts_l0 x hx n (i + 1) _ (by omega) (by omega)
theorem refCounts_is (l : List Cred) (hl : l.length < 100000) : Ev (fun k => Qav.f k l) (counts l) := by
  have h := refCounts_l0 l hl l.length 0 [] (by omega) (by simp); rw [List.drop_zero] at h; have hlen := firsts_length l []; have hp := firsts_apart l [] List.Pairwise.nil
  obtain ⟨h1, h2⟩ := selSort_spec credLessB (fun x => by rw [Bool.eq_false_iff, Ne, credLessB_iff]; exact credLess_irrefl x) (fun x y z => by rw [credLessB_iff, credLessB_iff, credLessB_iff]; exact credLess_trans x y z) l.length (firsts [] l) [] (by simpa using hlen) (by
    rw [List.nil_append]
    refine hp.imp fun {a b} hab => ?_
    rw [credLessB_iff, credLessB_iff]; rw [Bool.eq_false_iff, Ne, sameID_iff] at hab; unfold credLess
    omega) List.Pairwise.nil (fun a ha => by cases ha)
  have e : selSort credLessB l.length (firsts [] l) [] = counts l := by
    refine Counts.unique (l := l) ⟨h1.imp fun {a b} hab => (credLessB_iff a b).mp hab, fun c => ?_⟩ (counts_spec l); rw [h2, firsts_mem]; simp
  rw [← e]; exact h
theorem counts_may {l : List Cred} {c : Cred} (h : c ∈ counts l) : credMay c = true := ((counts_spec l).mem c |>.mp h).may
theorem counts_kind {l : List Cred} : ∀ c ∈ counts l, c.f2 = 1 ∨ c.f2 = 2 ∨ c.f2 = 3 ∨ c.f2 = 4 := fun c h => by
  have := counts_may h; unfold credMay at this; rw [Bool.and_eq_true] at this; have h2 := this.2
  by_cases k1 : c.f2 = 1
  · exact .inl k1
  by_cases k2 : c.f2 = 2
  · exact .inr (.inl k2)
  by_cases k3 : c.f2 = 3
  · exact .inr (.inr (.inl k3))
  by_cases k4 : c.f2 = 4
  · exact .inr (.inr (.inr k4))
  · rw [if_neg k1, if_neg k2, if_neg k3, if_neg k4] at h2
    cases h2
theorem counts_length (l : List Cred) : (counts l).length ≤ l.length := by
  unfold counts; have := firsts_length (sortCreds l) []; have h2 := sortCreds_length l; simp at this; omega
mutual
def eqT : S29 → S29 → Bool
  | ⟨r, w, i, ps⟩, b => decide (r = b.f0) && (decide (w = b.f1) && (decide (i = b.f2) && eqTL ps b.f3))
def eqTL : List S29 → List S29 → Bool
  | [], [] => true
  | p :: ps, q :: qs => eqT p q && eqTL ps qs
  | [], _ :: _ => false
  | _ :: _, [] => false
end
theorem eqT_eq (a b : Proof) : eqT a b = (decide (a.f0 = b.f0) && (decide (a.f1 = b.f1) && (decide (a.f2 = b.f2) && eqTL a.f3 b.f3))) := by cases a; rw [eqT]
theorem eqTL_nil : eqTL [] [] = true := by rw [eqTL]
theorem eqTL_cons (p q : Proof) (ps qs : List Proof) : eqTL (p :: ps) (q :: qs) = (eqT p q && eqTL ps qs) := by rw [eqTL]
theorem eqTL_len : ∀ (ps qs : List Proof), ¬ ps.length = qs.length → eqTL ps qs = false
  | [], [], h => absurd rfl h
  | [], _ :: _, _ => by rw [eqTL]
  | _ :: _, [], _ => by rw [eqTL]
  | p :: ps, q :: qs, h => by rw [eqTL_cons, eqTL_len ps qs (fun e => h (by simp [e])), Bool.and_false]
theorem eqTL_refl : ∀ (ps : List Proof), (∀ q ∈ ps, eqT q q = true) → eqTL ps ps = true
  | [], _ => eqTL_nil
  | p :: ps, h => by rw [eqTL_cons, h p (List.mem_cons_self ..), eqTL_refl ps (fun q hq => h q (List.mem_cons_of_mem _ hq))]; rfl
theorem eqT_refl : ∀ p, eqT p p = true := treeInd fun p ih => by
  rw [eqT_eq, eqTL_refl p.f3 ih]; simp
theorem eqL_is (F : Proof → Proof → Option Bool) : ∀ (ps qs : List Proof), ps.length = qs.length → (∀ p ∈ ps, ∀ q, F p q = some (eqT p q)) → eqL F ps qs = some (eqTL ps qs)
  | [], [], _, _ => by rw [eqTL_nil]; rfl
  | [], _ :: _, h, _ => by cases h
  | _ :: _, [], h, _ => by cases h
  | p :: ps, q :: qs, h, hF => by
    rw [eqL, hF p (List.mem_cons_self ..), Option.bind_some, eqTL_cons, eqL_is F ps qs (by simpa using h) (fun p hp => hF p (List.mem_cons_of_mem _ hp))]
    cases eqT p q <;> rfl
theorem same_is : ∀ (k : Nat) (a b : Proof), dep a < k → cnt a < 1000000 → sameF k a b = some (eqT a b)
  | 0, a, b, h, _ => by omega
  | k + 1, a, b, h, hc => by
    have hp := parts_lt a; rw [sameF, if_pos (by omega), eqT_eq]
    by_cases e0 : a.f0 = b.f0
    · rw [if_pos e0, decide_eq_true e0]
      by_cases e1 : a.f1 = b.f1
      · rw [if_pos e1, decide_eq_true e1]
        by_cases e2 : a.f2 = b.f2
        · rw [if_pos e2, decide_eq_true e2]
          by_cases e3 : a.f3.length = b.f3.length
          · rw [if_pos e3, eqL_is (sameF k) a.f3 b.f3 e3 (fun p hp q => same_is k p q (by have := dep_mem hp; omega) (by have := cnt_mem hp; omega))]
            rfl
          · rw [if_neg e3, eqTL_len _ _ e3]
            rfl
        · rw [if_neg e2, decide_eq_false e2]
          rfl
      · rw [if_neg e1, decide_eq_false e1]
        rfl
    · rw [if_neg e0, decide_eq_false e0]
      rfl
def chkPart (F : Proof → Bool) (q : Proof) (role : Role) (who : ByteArray) : Bool := decide (q.f0 = role) && (decide (q.f1 = who) && F q)
def chkBy (F : Proof → Bool) (c : Cred) (p : Proof) : Bool :=
  if c.f2 = 1 then decide (c.f3 = p.f1) && decide (p.f3.length = 0)
  else if c.f2 = 3 then decide (p.f3.length = 2) && (decide (numName (pt p 0).f1 ≠ 0) && (chkPart F (pt p 0) (chkFirst c) (pt p 0).f1 && chkPart F (pt p 1) ⟨(pt p 0).f1, c.f5.f1⟩ p.f1))
  else if c.f2 = 4 then decide (p.f3.length = 2) && (chkPart F (pt p 0) c.f4 p.f1 && chkPart F (pt p 1) c.f5 p.f1)
  else decide (p.f3.length = 1) && chkPart F (pt p 0) c.f4 p.f1
def chk (cs : List Cred) : Nat → Proof → Bool
  | 0, _ => false
  | n + 1, p => match cs.find? (fun c => decide (c.f0 = p.f2)) with
    | none => false
    | some c => decide (credRole c = p.f0) && chkBy (chk cs n) c p
theorem pt_mem0 {p : Proof} (h : 0 < p.f3.length) : pt p 0 ∈ p.f3 := by
  have := rdP p.f3 0 h; unfold pt; rw [show ((0 : Nat) : Int) = 0 from rfl] at this; rw [this]; exact List.getElem_mem h
theorem pt_mem1 {p : Proof} (h : 1 < p.f3.length) : pt p 1 ∈ p.f3 := by
  have := rdP p.f3 1 h; unfold pt; rw [show ((1 : Nat) : Int) = 1 from rfl] at this; rw [this]; exact List.getElem_mem h
theorem partF_is {F : Proof → Option Bool} {G : Proof → Bool} {q : Proof} (h : F q = some (G q)) (role : Role) (who : ByteArray) : partF F q role who = some (chkPart G q role who) := by
  unfold partF chkPart
  by_cases e0 : q.f0 = role
  · rw [if_pos e0, decide_eq_true e0]
    by_cases e1 : q.f1 = who
    · rw [if_pos e1, decide_eq_true e1, h]
      rfl
    · rw [if_neg e1, decide_eq_false e1]
      rfl
  · rw [if_neg e0, decide_eq_false e0]
    rfl
theorem bindAnd (x y : Bool) (z : Option Bool) (h : z = some y) : ((some x).bind fun b => if b = true then z else some false) = some (x && y) := by
  rw [Option.bind_some, h]
  cases x <;> rfl
def Apart (cs : List Cred) : Prop := cs.Pairwise fun a b => a.f0 ≠ b.f0
theorem tput_new : ∀ (cs : List Cred) (T : List (ID × Cred)), Apart cs → (∀ y ∈ T, ∀ c ∈ cs, y.1 ≠ c.f0) → cs.foldl tputC T = T ++ cs.map fun c => (c.f0, c)
  | [], T, _, _ => by simp
  | c :: cs, T, h, hT => by
    have h' := List.pairwise_cons.mp h
    have h1 : tputC T c = T ++ [(c.f0, c)] := by
      unfold tputC; rw [if_neg]; intro e; obtain ⟨y, hy, e⟩ := List.any_eq_true.mp e; exact hT y hy c (List.mem_cons_self ..) (of_decide_eq_true e)
    rw [List.foldl_cons, h1, tput_new cs _ h'.2 (fun y hy d hd => ?_)]
    · simp
    · rcases List.mem_append.mp hy with hy | hy
      · exact hT y hy d (List.mem_cons_of_mem _ hd)
      · rw [List.mem_singleton] at hy
        subst hy; exact h'.1 d hd
theorem table_is {cs : List Cred} (h : Apart cs) : tableOf cs = cs.map fun c => (c.f0, c) := by
  unfold tableOf; rw [tput_new cs [] h (fun y hy => by cases hy), List.nil_append]
theorem find_is {cs : List Cred} (h : Apart cs) (i : ID) : tfind (tableOf cs) i = cs.find? fun c => decide (c.f0 = i) := by
  rw [table_is h]; unfold tfind
  induction cs with
  | nil => rfl
  | cons c cs ih =>
    rw [List.map_cons, List.find?_cons, List.find?_cons]; cases decide (c.f0 = i)
    · exact ih (List.pairwise_cons.mp h).2
    · rfl
theorem check_is {cs : List Cred} (ha : Apart cs) : ∀ (k : Nat) (p : Proof), dep p < k → okTree p → checkF (tableOf cs) k p = some (chk cs k p)
  | 0, p, h, _ => by omega
  | k + 1, p, h, ho => by
    have hq := fun q (hq : q ∈ p.f3) => check_is ha k q (by have := dep_mem hq; omega) (ho.mem hq)
    rw [checkF, if_pos (ho _ (self_ids p)), find_is ha, chk]
    cases hf : cs.find? fun c => decide (c.f0 = p.f2) with
    | none => rfl
    | some c =>
      simp only
      by_cases e : credRole c = p.f0
      · rw [if_pos e, decide_eq_true e, Bool.true_and]
        unfold chkBy
        by_cases k1 : c.f2 = 1
        · rw [if_pos k1, if_pos k1]
        · rw [if_neg k1, if_neg k1]
          by_cases k3 : c.f2 = 3
          · rw [if_pos k3, if_pos k3]
            unfold linkP
            by_cases hl : p.f3.length = 2
            · rw [if_pos hl, decide_eq_true hl, Bool.true_and, number_is _ 20 (by omega), Option.bind_some]
              by_cases hn : numName (pt p 0).f1 = 0
              · rw [if_pos hn, decide_eq_false (by simpa using hn), Bool.false_and]
              · rw [if_neg hn, decide_eq_true hn, Bool.true_and, partF_is (hq _ (pt_mem0 (by omega)))]
                exact bindAnd _ _ _ (partF_is (hq _ (pt_mem1 (by omega))) _ _)
            · rw [if_neg hl, decide_eq_false hl, Bool.false_and]
          · rw [if_neg k3, if_neg k3]
            by_cases k4 : c.f2 = 4
            · rw [if_pos k4, if_pos k4]
              unfold bothP
              by_cases hl : p.f3.length = 2
              · rw [if_pos hl, decide_eq_true hl, Bool.true_and, partF_is (hq _ (pt_mem0 (by omega)))]
                exact bindAnd _ _ _ (partF_is (hq _ (pt_mem1 (by omega))) _ _)
              · rw [if_neg hl, decide_eq_false hl, Bool.false_and]
            · rw [if_neg k4, if_neg k4]
              unfold includeP
              by_cases hl : p.f3.length = 1
              · rw [if_pos hl, decide_eq_true hl, Bool.true_and]
                exact partF_is (hq _ (pt_mem0 (by omega))) _ _
              · rw [if_neg hl, decide_eq_false hl, Bool.false_and]
      · rw [if_neg e, decide_eq_false e, Bool.false_and]
theorem few_is (l : List Cred) : liverylaw07_few.f l = some (l.take 14) := by
  unfold liverylaw07_few.f
  by_cases h : (l.length : Int) > 14
  · rw [if_pos h, if_pos (by omega)]
  · rw [if_neg h, List.take_of_length_le (by omega)]
theorem take_len (l : List Cred) : (l.take 14).length ≤ 14 := by simp; omega
theorem take_ok {l : List Cred} (h : ∀ c ∈ l, okCred c) : ∀ c ∈ l.take 14, okCred c := fun c hc => h c (List.mem_of_mem_take hc)
theorem small_ev (p : Proof) : Ev (fun k => liverylaw07_small.f k p.f0.f0 p.f0.f1 p.f1 p.f2.f0 p.f2.f1 p.f3) (decide (cnt p ≤ 60)) := by
  refine Ev.bind (few_ev p 60 (by omega)) ?_; have h := cnt_pos p
  rw [show decide (fewV (cnt p : Int) 60 > 0) = decide (cnt p ≤ 60) by
    unfold fewV
    by_cases e : cnt p ≤ 60
    · rw [if_pos (by omega), decide_eq_true e]
      exact decide_eq_true (by omega)
    · rw [if_neg (by omega), decide_eq_false e]
      exact decide_eq_false (by omega)]
  exact Ev.pure _
theorem counts_apart (l : List Cred) : Apart (counts l) := (counts_spec l).sorted.imp fun {a b} h e => by
  unfold credLess at h; rw [e] at h; omega
theorem okID_of {i : ID} (h0 : -9223372036854775808 ≤ i.f0 ∧ i.f0 ≤ 9223372036854775807) (h1 : -9223372036854775808 ≤ i.f1 ∧ i.f1 ≤ 9223372036854775807) : okID i := by
  have e1 : IntKind.i64.min = -9223372036854775808 := by decide
  have e2 : IntKind.i64.max = 9223372036854775807 := by decide
  constructor
  · show (decide (IntKind.i64.min ≤ i.f0) && decide (i.f0 ≤ IntKind.i64.max)) = true
    rw [e1, e2, decide_eq_true h0.1, decide_eq_true h0.2]; rfl
  · show (decide (IntKind.i64.min ≤ i.f1) && decide (i.f1 ≤ IntKind.i64.max)) = true
    rw [e1, e2, decide_eq_true h1.1, decide_eq_true h1.2]; rfl
theorem counts_good (l : List Cred) : goodIDs (counts l) := fun c h => by
  have := counts_may h; unfold credMay at this; simp only [Bool.and_eq_true, decide_eq_true_eq] at this; obtain ⟨⟨⟨h0, h1⟩, _⟩, _⟩ := this; exact okID_of (by omega) (by omega)
def errOf (b : Bool) : Int := if b = true then 0 else 15
theorem progCheck_is (l : List Cred) (p : Proof) (hl : l.length < 21) (hok : ∀ c ∈ l, okCred c) (hd : dep p < 200) (ho : okTree p) : proof_Check.f l p.f0.f0 p.f0.f1 p.f1 p.f2.f0 p.f2.f1 p.f3 = some (errOf (chk (counts l) 200 p)) := by
  have h1 := counts_length l; unfold proof_Check.f; rw [progCounts_is l hl hok, Option.bind_some, if_pos ⟨by omega, counts_good l⟩]; rw [show (⟨⟨p.f0.f0, p.f0.f1⟩, p.f1, ⟨p.f2.f0, p.f2.f1⟩, p.f3⟩ : Proof) = p by cases p; rfl, check_is (counts_apart l) 200 p hd ho]; rfl
theorem progSupport_is (p : Proof) (hd : dep p < 200) (ho : okTree p) (hc : cnt p ≤ 1000) : proof_Support.f p.f0.f0 p.f0.f1 p.f1 p.f2.f0 p.f2.f1 p.f3 = some (support p) := by
  unfold proof_Support.f; rw [show (⟨⟨p.f0.f0, p.f0.f1⟩, p.f1, ⟨p.f2.f0, p.f2.f1⟩, p.f3⟩ : Proof) = p by cases p; rfl, gather_is 200 p hd ho [] (by simp; omega), Option.bind_some]; have := fold_length (ids p) []; have h2 : (ids p).length = cnt p := rfl; simp at this; rw [if_pos (by omega)]; rfl
theorem progSame_is (a b : Proof) (hd : dep a < 200) (hc : cnt a < 1000000) : proof_Same.f a.f0.f0 a.f0.f1 a.f1 a.f2.f0 a.f2.f1 a.f3 b.f0.f0 b.f0.f1 b.f1 b.f2.f0 b.f2.f1 b.f3 = some (eqT a b) := by
  unfold proof_Same.f; rw [show (⟨⟨a.f0.f0, a.f0.f1⟩, a.f1, ⟨a.f2.f0, a.f2.f1⟩, a.f3⟩ : Proof) = a by cases a; rfl, show (⟨⟨b.f0.f0, b.f0.f1⟩, b.f1, ⟨b.f2.f0, b.f2.f1⟩, b.f3⟩ : Proof) = b by cases b; rfl]; exact same_is 200 a b hd hc
def exA : Cred := ⟨⟨1, 1⟩, ⟨#[97]⟩, 2, ⟨#[]⟩, ⟨⟨#[100, 50]⟩, ⟨#[98]⟩⟩, ⟨⟨#[]⟩, ⟨#[]⟩⟩⟩
def exB : Cred := ⟨⟨2, 1⟩, ⟨#[98]⟩, 1, ⟨#[97, 110, 110]⟩, ⟨⟨#[]⟩, ⟨#[]⟩⟩, ⟨⟨#[]⟩, ⟨#[]⟩⟩⟩
def exQ : Proof := ⟨⟨⟨#[100, 50]⟩, ⟨#[98]⟩⟩, ⟨#[97, 110, 110]⟩, ⟨2, 1⟩, []⟩
def exP : Proof := ⟨⟨⟨#[100, 49]⟩, ⟨#[97]⟩⟩, ⟨#[97, 110, 110]⟩, ⟨1, 1⟩, [exQ]⟩
def exR : Proof := ⟨⟨⟨#[100, 49]⟩, ⟨#[97]⟩⟩, ⟨#[97, 110, 110]⟩, ⟨1, 1⟩, []⟩
theorem noText_dec (s : ByteArray) : noText s = decide (s = ⟨#[]⟩) := by
  unfold noText; rw [Bool.eq_iff_iff, beq_iff_eq, empty_iff, decide_eq_true_eq]
theorem exA_may : credMay exA = true := by
  unfold credMay roleOk bareOk noRole; simp only [noText_dec]
  decide
theorem exB_may : credMay exB = true := by
  unfold credMay roleOk bareOk noRole; simp only [noText_dec]
  decide
theorem ex_counts : counts [exA, exB] = [exA, exB] := by
  refine (counts_spec [exA, exB]).unique ⟨?_, fun c => ?_⟩
  · rw [List.pairwise_cons]
    exact ⟨fun b hb => by rw [List.mem_singleton] at hb; subst hb; exact .inl (by decide), List.pairwise_singleton _ _⟩
  · constructor
    · intro h
      rcases List.mem_cons.mp h with rfl | h
      · unfold First
        rw [List.find?_cons, exA_may, show sameID exA exA = true by decide]; rfl
      · rw [List.mem_singleton] at h
        subst h; unfold First; rw [List.find?_cons, show sameID exA exB = false by decide, Bool.and_false, List.find?_cons, exB_may, show sameID exB exB = true by decide]; rfl
    · intro h
      exact h.mem
theorem exP_ids : ids exP = [⟨1, 1⟩, ⟨2, 1⟩] := by
  rw [ids_eq, show exP.f3 = [exQ] from rfl, idsL_cons, ids_eq, show exQ.f3 = [] from rfl, idsL_nil]; rfl
theorem exR_ids : ids exR = [⟨1, 1⟩] := by
  rw [ids_eq, show exR.f3 = [] from rfl, idsL_nil]; rfl
theorem exP_dep : dep exP = 1 := by
  rw [dep_eq, show exP.f3 = [exQ] from rfl, depL_cons, depL_nil, dep_eq, show exQ.f3 = [] from rfl, depL_nil]; rfl
theorem exR_dep : dep exR = 0 := by rw [dep_eq, show exR.f3 = [] from rfl, depL_nil]
theorem exP_cnt : cnt exP = 2 := by unfold cnt; rw [exP_ids]; rfl
theorem exP_ok : okTree exP := fun i hi => by
  rw [exP_ids] at hi
  rcases List.mem_cons.mp hi with rfl | hi
  · exact okID_of (by decide) (by decide)
  · rw [List.mem_singleton] at hi
    subst hi; exact okID_of (by decide) (by decide)
theorem exR_ok : okTree exR := fun i hi => by
  rw [exR_ids, List.mem_singleton] at hi; subst hi; exact okID_of (by decide) (by decide)
theorem exP_support : support exP = [⟨1, 1⟩, ⟨2, 1⟩] := by
  refine strict_unique (support_strict exP) ?_ (fun x => by rw [support_mem, exP_ids]); rw [List.pairwise_cons]; exact ⟨fun b hb => by rw [List.mem_singleton] at hb; subst hb; decide, List.pairwise_singleton _ _⟩
theorem exP_chk : chk [exA, exB] 200 exP = true := by decide +kernel
theorem exR_chk : chk [exA, exB] 200 exR = false := by decide +kernel
theorem exPP : eqT exP exP = true := eqT_refl _
theorem exPR : eqT exP exR = false := by
  rw [eqT_eq, show exP.f3 = [exQ] from rfl, show exR.f3 = [] from rfl, eqTL_len _ _ (by simp)]; simp
theorem ex_ok : ∀ c ∈ [exA, exB], okCred c := by
  intro c hc
  have : c = exA ∨ c = exB := by simpa using hc
  rcases this with rfl | rfl <;> exact ⟨by decide, by decide, ⟨by decide, by decide⟩, by decide, by decide⟩
theorem lives_ev : Ev (fun k => liverylaw07_lives.f k) true := by
  have h1 := progSupport_is exP (by rw [exP_dep]; omega) exP_ok (by rw [exP_cnt]; omega); have h2 := progCheck_is [exA, exB] exP (by decide) ex_ok (by rw [exP_dep]; omega) exP_ok; have h3 := progCheck_is [exA, exB] exR (by decide) ex_ok (by rw [exR_dep]; omega) exR_ok; have h4 := size_ev exP (by rw [exP_cnt]; omega); have h5 := progSame_is exP exP (by rw [exP_dep]; omega) (by rw [exP_cnt]; omega); have h6 := progSame_is exP exR (by rw [exP_dep]; omega) (by rw [exP_cnt]; omega); have h7 := within_ev exP 1 (by rw [exP_cnt]; omega) (by omega); have h8 := within_ev exP 0 (by rw [exP_cnt]; omega) (by omega); rw [exP_support] at h1; rw [ex_counts, exP_chk] at h2; rw [ex_counts, exR_chk] at h3; rw [exP_cnt] at h4; rw [exPP] at h5; rw [exPR] at h6; rw [exP_dep] at h7 h8; have g1 : proof_Support.f (⟨#[100, 49]⟩ : ByteArray) (⟨#[97]⟩ : ByteArray) (⟨#[97, 110, 110]⟩ : ByteArray) 1 1 [exQ] = some [⟨1, 1⟩, ⟨2, 1⟩] := h1; have g2 : proof_Check.f [exA, exB] (⟨#[100, 49]⟩ : ByteArray) (⟨#[97]⟩ : ByteArray) (⟨#[97, 110, 110]⟩ : ByteArray) 1 1 [exQ] = some 0 := h2; have g3 : proof_Check.f [exA, exB] (⟨#[100, 49]⟩ : ByteArray) (⟨#[97]⟩ : ByteArray) (⟨#[97, 110, 110]⟩ : ByteArray) 1 1 [] = some 15 := h3; have g5 : proof_Same.f (⟨#[100, 49]⟩ : ByteArray) (⟨#[97]⟩ : ByteArray) (⟨#[97, 110, 110]⟩ : ByteArray) 1 1 [exQ] (⟨#[100, 49]⟩ : ByteArray) (⟨#[97]⟩ : ByteArray) (⟨#[97, 110, 110]⟩ : ByteArray) 1 1 [exQ] = some true := h5; have g6 : proof_Same.f (⟨#[100, 49]⟩ : ByteArray) (⟨#[97]⟩ : ByteArray) (⟨#[97, 110, 110]⟩ : ByteArray) 1 1 [exQ] (⟨#[100, 49]⟩ : ByteArray) (⟨#[97]⟩ : ByteArray) (⟨#[97, 110, 110]⟩ : ByteArray) 1 1 [] = some false := h6
  unfold liverylaw07_lives.f; refine Ev.bind (Ev.pure [exA, exB]) (Ev.bind (Ev.pure [exQ]) ?_); simp only [g1, g2, g3, g5, g6, Option.bind_some]; exact Ev.bind h4 (Ev.bind h7 (Ev.bind h8 (Ev.pure _)))
theorem livesB : Ev (fun k => (liverylaw07_lives.f k).bind fun t => some t) true := Ev.bind lives_ev (Ev.pure _)
theorem chk_some {cs : List Cred} {n : Nat} {p : Proof} (h : chk cs (n + 1) p = true) : ∃ c, cs.find? (fun c => decide (c.f0 = p.f2)) = some c ∧ credRole c = p.f0 ∧ chkBy (chk cs n) c p = true := by
  rw [chk] at h
  cases hf : cs.find? fun c => decide (c.f0 = p.f2) with
  | none => rw [hf] at h; cases h
  | some c =>
    rw [hf] at h; rw [Bool.and_eq_true, decide_eq_true_eq] at h; exact ⟨c, rfl, h.1, h.2⟩
inductive Said (cs : List Cred) : Pair → Prop
  | member {c : Cred} : c ∈ cs → c.f2 = 1 → Said cs ⟨credRole c, c.f3⟩
  | incl {c : Cred} {u : ByteArray} : c ∈ cs → c.f2 = 2 → Said cs ⟨c.f4, u⟩ → Said cs ⟨credRole c, u⟩
  | link {c : Cred} {u v : ByteArray} : c ∈ cs → c.f2 = 3 → Said cs ⟨linkFirst c, u⟩ → numName u > 0 → Said cs ⟨⟨u, c.f5.f1⟩, v⟩ → Said cs ⟨credRole c, v⟩
  | both {c : Cred} {u : ByteArray} : c ∈ cs → c.f2 = 4 → Said cs ⟨c.f4, u⟩ → Said cs ⟨c.f5, u⟩ → Said cs ⟨credRole c, u⟩
def small (s : ByteArray) : Prop := s.size ≤ 8
def smallR (r : Role) : Prop := small r.f0 ∧ small r.f1
theorem small_max {s : ByteArray} (h : small s) : s.size ≤ maxLen := Nat.le_trans h (by decide)
theorem mayName_small {s : ByteArray} (h : mayName s = true) : small s := by
  unfold mayName at h; simp only [Bool.and_eq_true, decide_eq_true_eq] at h; unfold small; omega
theorem domName_small (n : Int) : small (domName n) := by
  by_cases h : 1 ≤ n ∧ n ≤ 16
  · obtain ⟨h, h'⟩ := h
    have : n = 1 ∨ n = 2 ∨ n = 3 ∨ n = 4 ∨ n = 5 ∨ n = 6 ∨ n = 7 ∨ n = 8 ∨ n = 9 ∨ n = 10 ∨ n = 11 ∨ n = 12 ∨ n = 13 ∨ n = 14 ∨ n = 15 ∨ n = 16 := by omega
    rcases this with rfl | rfl | rfl | rfl | rfl | rfl | rfl | rfl | rfl | rfl | rfl | rfl | rfl | rfl | rfl | rfl <;> (unfold small; decide)
  · rw [domName_out n (by omega)]
    unfold small
    decide
theorem numName_small {s : ByteArray} (h : numName s > 0) : small s := by
  rcases numName_spec s with ⟨m, _, _, h3, _⟩ | ⟨_, h2⟩
  · rw [← h3]; exact domName_small m
  · omega
theorem numName_dom {n : Int} (h : 1 ≤ n) (h' : n ≤ 16) : numName (domName n) > 0 := by
  rcases numName_spec (domName n) with ⟨m, h1, _, _, h4⟩ | ⟨h1, _⟩
  · omega
  · exact absurd rfl (h1 n h h')
theorem roleOk_small {r : Role} (h : roleOk r = true) : smallR r := by
  unfold roleOk at h; rw [Bool.and_eq_true, decide_eq_true_eq] at h; exact ⟨numName_small h.1, mayName_small h.2⟩
theorem bareOk_small {r : Role} (h : bareOk r = true) : small r.f1 := by
  unfold bareOk at h; rw [Bool.and_eq_true] at h; exact mayName_small h.2
theorem credMay_facts {c : Cred} (h : credMay c = true) : (1 ≤ c.f0.f0 ∧ c.f0.f0 ≤ 16) ∧ small c.f1 ∧ ((c.f2 = 1 ∧ small c.f3) ∨ (c.f2 = 2 ∧ smallR c.f4) ∨ (c.f2 = 3 ∧ small c.f4.f1 ∧ small c.f5.f1) ∨ (c.f2 = 4 ∧ smallR c.f4 ∧ smallR c.f5)) := by
  unfold credMay at h; rw [Bool.and_eq_true, Bool.and_eq_true, Bool.and_eq_true, decide_eq_true_eq] at h; refine ⟨h.1.1.1, mayName_small h.1.2, ?_⟩; have h2 := h.2
  by_cases k1 : c.f2 = 1
  · rw [if_pos k1, Bool.and_eq_true] at h2
    exact .inl ⟨k1, mayName_small h2.1⟩
  rw [if_neg k1] at h2
  by_cases k2 : c.f2 = 2
  · rw [if_pos k2, Bool.and_eq_true] at h2
    exact .inr (.inl ⟨k2, roleOk_small h2.1⟩)
  rw [if_neg k2] at h2
  by_cases k3 : c.f2 = 3
  · rw [if_pos k3, Bool.and_eq_true, Bool.and_eq_true] at h2
    exact .inr (.inr (.inl ⟨k3, bareOk_small h2.1, bareOk_small h2.2.1⟩))
  rw [if_neg k3] at h2
  by_cases k4 : c.f2 = 4
  · rw [if_pos k4, Bool.and_eq_true, Bool.and_eq_true] at h2
    exact .inr (.inr (.inr ⟨k4, roleOk_small h2.1, roleOk_small h2.2.1⟩))
  rw [if_neg k4] at h2; cases h2
def Mays (cs : List Cred) : Prop := ∀ c ∈ cs, credMay c = true
theorem Said.within {cs : List Cred} {p : Pair} (h : Said cs p) : (∃ c ∈ cs, p.f0 = credRole c) ∧ ∃ c ∈ cs, c.f2 = 1 ∧ p.f1 = c.f3 := by
  induction h with
  | member hc hk => exact ⟨⟨_, hc, rfl⟩, _, hc, hk, rfl⟩
  | incl hc hk _ ih => exact ⟨⟨_, hc, rfl⟩, ih.2⟩
  | link hc hk _ _ _ _ ih => exact ⟨⟨_, hc, rfl⟩, ih.2⟩
  | both hc hk _ _ ih _ => exact ⟨⟨_, hc, rfl⟩, ih.2⟩
theorem Said.smalls {cs : List Cred} (hm : Mays cs) {p : Pair} (h : Said cs p) : smallR p.f0 ∧ small p.f1 := by
  obtain ⟨⟨c, hc, e⟩, c', hc', hk, e'⟩ := h.within; obtain ⟨_, h1, _⟩ := credMay_facts (hm c hc); obtain ⟨_, _, h2⟩ := credMay_facts (hm c' hc'); rw [e, e']; refine ⟨⟨domName_small _, h1⟩, ?_⟩
  rcases h2 with h2 | h2 | h2 | h2
  · exact h2.2
  · omega
  · omega
  · omega
theorem Said.okPair {cs : List Cred} (hm : Mays cs) {p : Pair} (h : Said cs p) : okPair p := by
  obtain ⟨⟨h0, h1⟩, h2⟩ := h.smalls hm; exact ⟨small_max h0, small_max h1, small_max h2⟩
theorem Said.owner {cs : List Cred} (hm : Mays cs) {p : Pair} (h : Said cs p) : numName p.f0.f0 > 0 := by
  obtain ⟨⟨c, hc, e⟩, _⟩ := h.within; obtain ⟨h0, _⟩ := credMay_facts (hm c hc); rw [e]; exact numName_dom h0.1 h0.2
theorem flatMap_len {α β : Type} (f : α → List β) (n : Nat) (h : ∀ c, (f c).length = n) : ∀ l : List α, (l.flatMap f).length = l.length * n
  | [] => by simp
  | a :: l => by rw [List.flatMap_cons, List.length_append, h a, flatMap_len f n h l, List.length_cons, Nat.succ_mul, Nat.add_comm]
theorem said_all {cs : List Cred} {l : List Pair} (hn : l.Nodup) (h : ∀ p ∈ l, Said cs p) : l.length ≤ cs.length * cs.length := by
  have := nodup_le (m := cs.flatMap fun c => cs.map fun c' => (⟨credRole c, c'.f3⟩ : Pair)) hn (fun p hp => by
    obtain ⟨⟨c, hc, e⟩, c', hc', _, e'⟩ := (h p hp).within
    exact List.mem_flatMap.mpr ⟨c, hc, List.mem_map.mpr ⟨c', hc', pair_ext e.symm e'.symm⟩⟩)
  exact Nat.le_trans this (Nat.le_of_eq (flatMap_len _ cs.length (fun c => by simp) cs))
theorem said_400 {cs : List Cred} (hl : cs.length ≤ 20) {l : List Pair} (hn : l.Nodup) (h : ∀ p ∈ l, Said cs p) : l.length ≤ 400 :=
  Nat.le_trans (said_all hn h) (Nat.mul_le_mul hl hl)
theorem Said.mono {cs cs' : List Cred} (h : ∀ c ∈ cs, c ∈ cs') {p : Pair} (hp : Said cs p) : Said cs' p := by
  induction hp with
  | member hc hk => exact .member (h _ hc) hk
  | incl hc hk _ ih => exact .incl (h _ hc) hk ih
  | link hc hk _ hn _ ih1 ih2 => exact .link (h _ hc) hk ih1 hn ih2
  | both hc hk _ _ ih1 ih2 => exact .both (h _ hc) hk ih1 ih2
structure Good (cs : List Cred) (s : St) : Prop where
  nodup : s.known.Nodup
  said : ∀ p ∈ s.known, Said cs p
  suffix : ∃ done, s.known = done ++ s.waits
def Grows (s s' : St) : Prop := ∃ l, s'.known = s.known ++ l ∧ s'.waits = s.waits ++ l
theorem Grows.refl (s : St) : Grows s s := ⟨[], by simp, by simp⟩
theorem Grows.trans {s s' s'' : St} (h : Grows s s') (h' : Grows s' s'') : Grows s s'' := by
  obtain ⟨l, h1, h2⟩ := h; obtain ⟨l', h3, h4⟩ := h'; exact ⟨l ++ l', by rw [h3, h1, List.append_assoc], by rw [h4, h2, List.append_assoc]⟩
theorem Grows.mem {s s' : St} (h : Grows s s') {p : Pair} (hp : p ∈ s.known) : p ∈ s'.known := by
  obtain ⟨l, h1, _⟩ := h; rw [h1]; exact List.mem_append_left _ hp
def Runs (cs : List Cred) (s : St) (r : Option St) (W : Pair → Prop) : Prop := ∃ s', r = some s' ∧ Good cs s' ∧ Grows s s' ∧ ∀ q, W q → q ∈ s'.known
theorem Runs.none {cs : List Cred} {s : St} {W : Pair → Prop} (h : Good cs s) (hW : ∀ q, ¬ W q) : Runs cs s (some s) W := ⟨s, rfl, h, .refl s, fun q hq => absurd hq (hW q)⟩
theorem Runs.bind {cs : List Cred} {s : St} {r : Option St} {f : St → Option St} {W1 W2 W : Pair → Prop} (h : Runs cs s r W1) (hf : ∀ s', Good cs s' → Grows s s' → Runs cs s' (f s') W2) (hW : ∀ q, W q → W1 q ∨ W2 q) : Runs cs s (r.bind f) W := by
  obtain ⟨s1, rfl, g1, gr1, w1⟩ := h; obtain ⟨s2, e2, g2, gr2, w2⟩ := hf s1 g1 gr1; exact ⟨s2, e2, g2, gr1.trans gr2, fun q hq => (hW q hq).elim (fun h => gr2.mem (w1 q h)) (w2 q)⟩
theorem Runs.imp {cs : List Cred} {s : St} {r : Option St} {W W' : Pair → Prop} (h : Runs cs s r W) (hW : ∀ q, W' q → W q) : Runs cs s r W' := by
  obtain ⟨s1, e, g1, gr1, w1⟩ := h; exact ⟨s1, e, g1, gr1, fun q hq => w1 q (hW q hq)⟩
theorem learn_runs {cs : List Cred} (hm : Mays cs) (hl : cs.length ≤ 20) {s : St} (g : Good cs s) {p : Pair} (hp : Said cs p) : Runs cs s (s.learn p) (fun q => q = p) := by
  unfold St.learn
  by_cases hin : p ∈ s.known
  · rw [if_pos hin]
    exact ⟨s, rfl, g, .refl s, fun q e => e ▸ hin⟩
  · have h400 := said_400 hl g.nodup g.said
    obtain ⟨done, hd⟩ := g.suffix
    have hw : s.waits.length ≤ 400 := by
      have := congrArg List.length hd; rw [List.length_append] at this; omega
    rw [if_neg hin, if_pos ⟨by omega, by omega, hp.okPair hm⟩]; refine ⟨_, rfl, ⟨?_, ?_, done, ?_⟩, ⟨[p], rfl, rfl⟩, fun q e => ?_⟩
    · show (s.known ++ [p]).Nodup
      rw [List.nodup_append]; refine ⟨g.nodup, by simp, ?_⟩; intro a ha b hb e; rw [List.mem_singleton] at hb; exact hin (hb ▸ e ▸ ha)
    · intro q hq
      rcases List.mem_append.mp hq with h | h
      · exact g.said q h
      · rw [List.mem_singleton.mp h]; exact hp
    · show s.known ++ [p] = done ++ (s.waits ++ [p])
      rw [hd, List.append_assoc]
    · subst e
      exact List.mem_append_right _ (by simp)
theorem members_runs {cs : List Cred} (hm : Mays cs) (hl : cs.length ≤ 20) : ∀ (l : List Cred) (s : St), (∀ c ∈ l, c ∈ cs) → Good cs s → Runs cs s (membersF l s) (fun q => ∃ c ∈ l, c.f2 = 1 ∧ q = ⟨credRole c, c.f3⟩)
  | [], s, _, g => .none g (fun q h => by obtain ⟨c, hc, _⟩ := h; cases hc)
  | c :: l, s, hs, g => by
    rw [membersF]
    by_cases k : c.f2 = 1
    · rw [if_pos k]
      refine (learn_runs hm hl g (.member (hs c (List.mem_cons_self ..)) k)).bind (fun s' g' _ => members_runs hm hl l s' (fun x hx => hs x (List.mem_cons_of_mem _ hx)) g') ?_; rintro q ⟨c', hc', hk', e⟩
      rcases List.mem_cons.mp hc' with rfl | h
      · exact .inl e
      · exact .inr ⟨c', h, hk', e⟩
    · rw [if_neg k]
      refine (members_runs hm hl l s (fun x hx => hs x (List.mem_cons_of_mem _ hx)) g).imp ?_; rintro q ⟨c', hc', hk', e⟩
      rcases List.mem_cons.mp hc' with rfl | h
      · exact absurd hk' k
      · exact ⟨c', h, hk', e⟩
theorem learnMany_runs {cs : List Cred} (hm : Mays cs) (hl : cs.length ≤ 20) (c : Cred) (second : Role) : ∀ (l : List Pair) (s : St), (∀ q ∈ l, q.f0 = second → Said cs ⟨credRole c, q.f1⟩) → Good cs s → Runs cs s (learnMany c second l s) (fun r => ∃ q ∈ l, q.f0 = second ∧ r = ⟨credRole c, q.f1⟩)
  | [], s, _, g => .none g (fun q h => by obtain ⟨c, hc, _⟩ := h; cases hc)
  | q :: l, s, hs, g => by
    rw [learnMany]
    by_cases k : q.f0 = second
    · rw [if_pos k]
      refine (learn_runs hm hl g (hs q (List.mem_cons_self ..) k)).bind (fun s' g' _ => learnMany_runs hm hl c second l s' (fun x hx => hs x (List.mem_cons_of_mem _ hx)) g') ?_; rintro r ⟨q', hq', hk', e⟩
      rcases List.mem_cons.mp hq' with rfl | h
      · exact .inl e
      · exact .inr ⟨q', h, hk', e⟩
    · rw [if_neg k]
      refine (learnMany_runs hm hl c second l s (fun x hx => hs x (List.mem_cons_of_mem _ hx)) g).imp ?_; rintro r ⟨q', hq', hk', e⟩
      rcases List.mem_cons.mp hq' with rfl | h
      · exact absurd hk' k
      · exact ⟨q', h, hk', e⟩
theorem sortPairs_mem {l : List Pair} {p : Pair} : p ∈ sortPairs l ↔ p ∈ l := (List.mergeSort_perm l _).mem_iff
inductive Rule (c : Cred) (p : Pair) (K : List Pair) : Pair → Prop
  | incl : c.f2 = 2 → p.f0 = c.f4 → Rule c p K ⟨credRole c, p.f1⟩
  | linkA {v : ByteArray} : c.f2 = 3 → p.f0 = linkFirst c → numName p.f1 > 0 → (⟨⟨p.f1, c.f5.f1⟩, v⟩ : Pair) ∈ K → Rule c p K ⟨credRole c, v⟩
  | linkB : c.f2 = 3 → p.f0.f1 = c.f5.f1 → (⟨linkFirst c, p.f0.f0⟩ : Pair) ∈ K → Rule c p K ⟨credRole c, p.f1⟩
  | bothA : c.f2 = 4 → p.f0 = c.f4 → (⟨c.f5, p.f1⟩ : Pair) ∈ K → Rule c p K ⟨credRole c, p.f1⟩
  | bothB : c.f2 = 4 → p.f0 = c.f5 → (⟨c.f4, p.f1⟩ : Pair) ∈ K → Rule c p K ⟨credRole c, p.f1⟩
theorem Rule.mono {c : Cred} {p : Pair} {K K' : List Pair} (h : ∀ x ∈ K, x ∈ K') {r : Pair} (hr : Rule c p K r) : Rule c p K' r := by
  cases hr with
  | incl a b => exact .incl a b
  | linkA a b d e => exact .linkA a b d (h _ e)
  | linkB a b d => exact .linkB a b (h _ d)
  | bothA a b d => exact .bothA a b (h _ d)
  | bothB a b d => exact .bothB a b (h _ d)
theorem linkA_runs {cs : List Cred} (hm : Mays cs) (hl : cs.length ≤ 20) {c : Cred} (hc : c ∈ cs) (k : c.f2 = 3) {p : Pair} (s : St) (hp : p ∈ s.known) (g : Good cs s) : Runs cs s (linkA c p s) (fun r => p.f0 = linkFirst c ∧ numName p.f1 > 0 ∧ ∃ v, (⟨⟨p.f1, c.f5.f1⟩, v⟩ : Pair) ∈ s.known ∧ r = ⟨credRole c, v⟩) := by
  unfold linkA
  by_cases e1 : p.f0 = linkFirst c
  · rw [if_pos e1, number_is _ 20 (by omega), Option.bind_some]
    by_cases hn : numName p.f1 > 0
    · have h400 := said_400 hl g.nodup g.said
      rw [if_pos hn, if_pos (by omega)]; refine (learnMany_runs hm hl c _ _ s ?_ g).imp ?_
      · intro q hq e
        have hq' := g.said q (sortPairs_mem.mp hq); have hp' := g.said p hp; have eq : q = ⟨⟨p.f1, c.f5.f1⟩, q.f1⟩ := pair_ext e rfl; have ep : p = ⟨linkFirst c, p.f1⟩ := pair_ext e1 rfl; rw [ep] at hp'; rw [eq] at hq'; exact .link hc k hp' hn hq'
      · rintro r ⟨_, _, v, hv, e⟩
        exact ⟨_, sortPairs_mem.mpr hv, rfl, e⟩
    · rw [if_neg hn]
      exact .none g (fun q h => hn h.2.1)
  · rw [if_neg e1]
    exact .none g (fun q h => e1 h.1)
theorem linkB_runs {cs : List Cred} (hm : Mays cs) (hl : cs.length ≤ 20) {c : Cred} (hc : c ∈ cs) (k : c.f2 = 3) {p : Pair} (s : St) (hp : p ∈ s.known) (g : Good cs s) : Runs cs s (linkB c p s) (fun r => p.f0.f1 = c.f5.f1 ∧ (⟨linkFirst c, p.f0.f0⟩ : Pair) ∈ s.known ∧ r = ⟨credRole c, p.f1⟩) := by
  unfold linkB; have hp' := g.said p hp
  by_cases e1 : p.f0.f1 = c.f5.f1
  · obtain ⟨_, h1, h2⟩ := credMay_facts (hm c hc)
    have hok : okPair ⟨linkFirst c, p.f0.f0⟩ := by
      refine ⟨small_max (domName_small _), ?_, (hp'.okPair hm).1⟩
      rcases h2 with h2 | h2 | h2 | h2
      · omega
      · omega
      · exact small_max h2.2.1
      · omega
    rw [if_pos e1, if_pos hok]
    by_cases hin : (⟨linkFirst c, p.f0.f0⟩ : Pair) ∈ s.known
    · rw [if_pos hin]
      refine (learn_runs hm hl g ?_).imp ?_
      · have ep : p = ⟨⟨p.f0.f0, c.f5.f1⟩, p.f1⟩ := pair_ext (role_ext rfl e1) rfl
        have hn := hp'.owner hm; have hp2 := hp'; rw [ep] at hp2; exact .link hc k (g.said _ hin) hn hp2
      · rintro r ⟨_, _, e⟩
        exact e
    · rw [if_neg hin]
      exact .none g (fun q h => hin h.2.1)
  · rw [if_neg e1]
    exact .none g (fun q h => e1 h.1)
theorem bothS_runs {cs : List Cred} (hm : Mays cs) (hl : cs.length ≤ 20) {c : Cred} (hc : c ∈ cs) (k : c.f2 = 4) {p : Pair} (s : St) (hp : p ∈ s.known) (g : Good cs s) : Runs cs s (bothSecond c p s) (fun r => p.f0 = c.f5 ∧ (⟨c.f4, p.f1⟩ : Pair) ∈ s.known ∧ r = ⟨credRole c, p.f1⟩) := by
  unfold bothSecond; have hp' := g.said p hp
  by_cases e1 : p.f0 = c.f5
  · obtain ⟨_, h1, h2⟩ := credMay_facts (hm c hc)
    have hok : okPair ⟨c.f4, p.f1⟩ := by
      rcases h2 with h2 | h2 | h2 | h2
      · omega
      · omega
      · omega
      · exact ⟨small_max h2.2.1.1, small_max h2.2.1.2, (hp'.okPair hm).2.2⟩
    rw [if_pos e1, if_pos hok]
    by_cases hin : (⟨c.f4, p.f1⟩ : Pair) ∈ s.known
    · rw [if_pos hin]
      refine (learn_runs hm hl g ?_).imp ?_
      · have ep : p = ⟨c.f5, p.f1⟩ := pair_ext e1 rfl
        have hp2 := hp'; rw [ep] at hp2; exact .both hc k (g.said _ hin) hp2
      · rintro r ⟨_, _, e⟩
        exact e
    · rw [if_neg hin]
      exact .none g (fun q h => hin h.2.1)
  · rw [if_neg e1]
    exact .none g (fun q h => e1 h.1)
theorem both_runs {cs : List Cred} (hm : Mays cs) (hl : cs.length ≤ 20) {c : Cred} (hc : c ∈ cs) (k : c.f2 = 4) {p : Pair} (s : St) (hp : p ∈ s.known) (g : Good cs s) : Runs cs s (bothF c p s) (fun r => Rule c p s.known r) := by
  unfold bothF; have hp' := g.said p hp; have key : Runs cs s (bothSecond c p s) (fun r => p.f0 = c.f5 ∧ (⟨c.f4, p.f1⟩ : Pair) ∈ s.known ∧ r = ⟨credRole c, p.f1⟩) := bothS_runs hm hl hc k s hp g
  have other : ∀ r, Rule c p s.known r → (¬ (p.f0 = c.f4 ∧ (⟨c.f5, p.f1⟩ : Pair) ∈ s.known)) → p.f0 = c.f5 ∧ (⟨c.f4, p.f1⟩ : Pair) ∈ s.known ∧ r = ⟨credRole c, p.f1⟩ := by
    intro r hr hno
    cases hr with
    | incl a b => omega
    | linkA a b d e => omega
    | linkB a b d => omega
    | bothA a b d => exact absurd ⟨b, d⟩ hno
    | bothB a b d => exact ⟨b, d, rfl⟩
  by_cases e1 : p.f0 = c.f4
  · obtain ⟨_, h1, h2⟩ := credMay_facts (hm c hc)
    have hok : okPair ⟨c.f5, p.f1⟩ := by
      rcases h2 with h2 | h2 | h2 | h2
      · omega
      · omega
      · omega
      · exact ⟨small_max h2.2.2.1, small_max h2.2.2.2, (hp'.okPair hm).2.2⟩
    rw [if_pos e1, if_pos hok]
    by_cases hin : (⟨c.f5, p.f1⟩ : Pair) ∈ s.known
    · rw [if_pos hin]
      refine (learn_runs hm hl g ?_).imp ?_
      · have ep : p = ⟨c.f4, p.f1⟩ := pair_ext e1 rfl
        have hp2 := hp'; rw [ep] at hp2; exact .both hc k hp2 (g.said _ hin)
      · intro r hr
        cases hr with
        | incl a b => omega
        | linkA a b d e => omega
        | linkB a b d => omega
        | bothA a b d => rfl
        | bothB a b d => rfl
    · rw [if_neg hin]
      exact key.imp fun r hr => other r hr (fun h => hin h.2)
  · rw [if_neg e1]
    exact key.imp fun r hr => other r hr (fun h => e1 h.1)
theorem step_runs {cs : List Cred} (hm : Mays cs) (hl : cs.length ≤ 20) {c : Cred} (hc : c ∈ cs) {p : Pair} (s : St) (hp : p ∈ s.known) (g : Good cs s) : Runs cs s (stepF p c s) (fun r => Rule c p s.known r) := by
  unfold stepF
  by_cases k1 : c.f2 = 1
  · rw [if_pos k1]
    refine .none g (fun q h => ?_)
    cases h <;> omega
  rw [if_neg k1]
  by_cases k3 : c.f2 = 3
  · rw [if_pos k3]
    unfold linkF; refine (linkA_runs hm hl hc k3 s hp g).bind (W2 := fun r => p.f0.f1 = c.f5.f1 ∧ (⟨linkFirst c, p.f0.f0⟩ : Pair) ∈ s.known ∧ r = ⟨credRole c, p.f1⟩) (fun s' g' gr => (linkB_runs hm hl hc k3 s' (gr.mem hp) g').imp (fun q h => ⟨h.1, gr.mem h.2.1, h.2.2⟩)) ?_; intro r hr
    cases hr with
    | incl a b => omega
    | linkA a b d e => exact .inl ⟨b, d, _, e, rfl⟩
    | linkB a b d => exact .inr ⟨b, d, rfl⟩
    | bothA a b d => omega
    | bothB a b d => omega
  rw [if_neg k3]
  by_cases k4 : c.f2 = 4
  · rw [if_pos k4]
    exact both_runs hm hl hc k4 s hp g
  rw [if_neg k4]
  have k2 : c.f2 = 2 := by
    obtain ⟨_, _, h2⟩ := credMay_facts (hm c hc)
    rcases h2 with h2 | h2 | h2 | h2
    · omega
    · exact h2.1
    · omega
    · omega
  unfold includeF
  by_cases e1 : p.f0 = c.f4
  · rw [if_pos e1]
    refine (learn_runs hm hl g ?_).imp ?_
    · have ep : p = ⟨c.f4, p.f1⟩ := pair_ext e1 rfl
      have hp2 := g.said p hp; rw [ep] at hp2; exact .incl hc k2 hp2
    · intro r hr
      cases hr with
      | incl a b => rfl
      | linkA a b d e => omega
      | linkB a b d => omega
      | bothA a b d => omega
      | bothB a b d => omega
  · rw [if_neg e1]
    refine .none g (fun r hr => ?_)
    cases hr with
    | incl a b => exact e1 b
    | linkA a b d e => omega
    | linkB a b d => omega
    | bothA a b d => omega
    | bothB a b d => omega
theorem steps_runs {cs : List Cred} (hm : Mays cs) (hl : cs.length ≤ 20) {p : Pair} (K : List Pair) : ∀ (l : List Cred) (s : St), (∀ c ∈ l, c ∈ cs) → p ∈ s.known → (∀ x ∈ K, x ∈ s.known) → Good cs s → Runs cs s (stepsF p l s) (fun r => ∃ c ∈ l, Rule c p K r)
  | [], s, _, _, _, g => .none g (fun q h => by obtain ⟨c, hc, _⟩ := h; cases hc)
  | c :: l, s, hs, hp, hK, g => by
    rw [stepsF]; refine (step_runs hm hl (hs c (List.mem_cons_self ..)) s hp g).bind (fun s' g' gr => steps_runs hm hl K l s' (fun x hx => hs x (List.mem_cons_of_mem _ hx)) (gr.mem hp) (fun x hx => gr.mem (hK x hx)) g') ?_; rintro r ⟨c', hc', hr⟩
    rcases List.mem_cons.mp hc' with rfl | h
    · exact .inl (hr.mono hK)
    · exact .inr ⟨c', h, hr⟩
def Dealt (cs : List Cred) (s : St) : Prop := (∀ c ∈ cs, c.f2 = 1 → (⟨credRole c, c.f3⟩ : Pair) ∈ s.known) ∧ ∃ done, s.known = done ++ s.waits ∧ ∀ a ∈ done, ∀ c ∈ cs, ∀ r, Rule c a done r → r ∈ s.known
theorem dealt_step {cs : List Cred} (hm : Mays cs) (hl : cs.length ≤ 20) {s : St} (g : Good cs s) (d : Dealt cs s) {p : Pair} {ws : List Pair} (e : s.waits = p :: ws) :
    ∃ s', stepsF p cs ⟨s.known, ws⟩ = some s' ∧ Good cs s' ∧ Dealt cs s' ∧ s'.known.length - s'.waits.length = s.known.length - s.waits.length + 1 ∧ s'.waits.length ≤ s'.known.length := by
  obtain ⟨hM, done, hd, hC⟩ := d
  have hd2 : s.known = (done ++ [p]) ++ ws := by rw [hd, e]; simp
  have g1 : Good cs ⟨s.known, ws⟩ := ⟨g.nodup, g.said, done ++ [p], hd2⟩
  have hpk : p ∈ s.known := by rw [hd2]; simp
  have hsub : ∀ x ∈ done ++ [p], x ∈ s.known := fun x hx => by rw [hd2]; exact List.mem_append_left _ hx
  obtain ⟨s', es, g', ⟨l, hk, hw⟩, hW⟩ := steps_runs hm hl (p := p) (done ++ [p]) cs ⟨s.known, ws⟩ (fun c h => h) hpk hsub g1; have hk' : s'.known = s.known ++ l := hk; have hw' : s'.waits = ws ++ l := hw
  have up : ∀ x ∈ s.known, x ∈ s'.known := fun x hx => by rw [hk']; exact List.mem_append_left _ hx
  refine ⟨s', es, g', ⟨fun c hc k => up _ (hM c hc k), done ++ [p], by rw [hk', hw', hd2]; simp, ?_⟩, ?_, ?_⟩
  · intro a ha c hc r hr
    by_cases eap : a = p
    · subst eap
      exact hW r ⟨c, hc, hr⟩
    · have had : a ∈ done := by
        rcases List.mem_append.mp ha with h | h
        · exact h
        · exact absurd (List.mem_singleton.mp h) eap
      have sa : Said cs a := g.said a (hsub a ha)
      have split : ∀ x, x ∈ done ++ [p] → x ∈ done ∨ x = p := fun x hx => (List.mem_append.mp hx).imp id (fun h => List.mem_singleton.mp h)
      cases hr with
      | incl k b => exact up _ (hC a had c hc _ (.incl k b))
      | linkA k b n h =>
        rcases split _ h with h | h
        · exact up _ (hC a had c hc _ (.linkA k b n h))
        · have e0 : p.f0.f0 = a.f1 := by rw [← h]
          have e1 : p.f0.f1 = c.f5.f1 := by rw [← h]
          have e2 := congrArg S51.f1 h; have := Rule.linkB (c := c) (p := p) (K := done ++ [p]) k e1 (by rw [e0, show (⟨linkFirst c, a.f1⟩ : Pair) = a from pair_ext b.symm rfl]; exact ha); rw [← e2] at this; exact hW _ ⟨c, hc, this⟩
      | linkB k b h =>
        rcases split _ h with h | h
        · exact up _ (hC a had c hc _ (.linkB k b h))
        · have e0 : p.f0 = linkFirst c := by rw [← h]
          have e1 : p.f1 = a.f0.f0 := by rw [← h]
          have := Rule.linkA (c := c) (p := p) (K := done ++ [p]) (v := a.f1) k e0 (by rw [e1]; exact sa.owner hm) (by rw [e1, show (⟨⟨a.f0.f0, c.f5.f1⟩, a.f1⟩ : Pair) = a from pair_ext (role_ext rfl b.symm) rfl]; exact ha); exact hW _ ⟨c, hc, this⟩
      | bothA k b h =>
        rcases split _ h with h | h
        · exact up _ (hC a had c hc _ (.bothA k b h))
        · have e0 : p.f0 = c.f5 := by rw [← h]
          have e1 : p.f1 = a.f1 := by rw [← h]
          have := Rule.bothB (c := c) (p := p) (K := done ++ [p]) k e0 (by rw [e1, show (⟨c.f4, a.f1⟩ : Pair) = a from pair_ext b.symm rfl]; exact ha); rw [e1] at this; exact hW _ ⟨c, hc, this⟩
      | bothB k b h =>
        rcases split _ h with h | h
        · exact up _ (hC a had c hc _ (.bothB k b h))
        · have e0 : p.f0 = c.f4 := by rw [← h]
          have e1 : p.f1 = a.f1 := by rw [← h]
          have := Rule.bothA (c := c) (p := p) (K := done ++ [p]) k e0 (by rw [e1, show (⟨c.f5, a.f1⟩ : Pair) = a from pair_ext b.symm rfl]; exact ha); rw [e1] at this; exact hW _ ⟨c, hc, this⟩
  · rw [hk', hw', hd2, e]
    simp; omega
  · rw [hk', hw', hd2]
    simp; omega
theorem loop_said {cs : List Cred} (hm : Mays cs) (hl : cs.length ≤ 20) : ∀ (k : Nat) (s : St), Good cs s → Dealt cs s → s.waits.length ≤ s.known.length → 401 - (s.known.length - s.waits.length) ≤ k → 1 ≤ k → ∃ s', loopF cs k s = some s' ∧ Good cs s' ∧ Dealt cs s' ∧ s'.waits = []
  | 0, s, _, _, _, _, h => by omega
  | k + 1, s, g, d, hle, hk, _ => by
    rw [loopF]
    cases e : s.waits with
    | nil => exact ⟨s, rfl, g, d, e⟩
    | cons p ws =>
      obtain ⟨s1, e1, g1, d1, h1, h2⟩ := dealt_step hm hl g d e; have h400 := said_400 hl g1.nodup g1.said
      show ∃ s', ((stepsF p cs ⟨s.known, ws⟩).bind (loopF cs k)) = some s' ∧ _
      rw [e1, Option.bind_some]; exact loop_said hm hl k s1 g1 d1 h2 (by omega) (by omega)
theorem run_said {cs : List Cred} (hm : Mays cs) (hl : cs.length ≤ 20) : ∃ s, runF 2000 cs = some s ∧ s.known.Nodup ∧ (∀ p, p ∈ s.known ↔ Said cs p) := by
  have g0 : Good cs ⟨[], []⟩ := ⟨List.nodup_nil, fun p hp => by (cases hp), [], rfl⟩
  obtain ⟨s1, e1, g1, ⟨l, hk, hw⟩, hW⟩ := members_runs hm hl cs ⟨[], []⟩ (fun c h => h) g0; have hk' : s1.known = l := hk; have hw' : s1.waits = l := hw
  have d1 : Dealt cs s1 := ⟨fun c hc k => hW _ ⟨c, hc, k, rfl⟩, [], by rw [hk', hw']; rfl, fun a ha => by (cases ha)⟩
  obtain ⟨s2, e2, g2, ⟨hM, done, hd, hC⟩, hws⟩ := loop_said hm hl 2000 s1 g1 d1 (by rw [hk', hw']; exact Nat.le_refl _) (by omega) (by omega); refine ⟨s2, ?_, g2.nodup, fun p => ⟨g2.said p, fun h => ?_⟩⟩
  · unfold runF
    rw [e1, Option.bind_some, e2]
  · rw [hws, List.append_nil] at hd
    rw [hd] at hM hC ⊢
    induction h with
    | member hc k => exact hM _ hc k
    | incl hc k _ ih => exact hC _ ih _ hc _ (.incl (p := ⟨_, _⟩) k rfl)
    | link hc k _ n _ ih1 ih2 => exact hC _ ih1 _ hc _ (.linkA (p := ⟨_, _⟩) k rfl n ih2)
    | both hc k _ _ ih1 ih2 => exact hC _ ih1 _ hc _ (.bothA (p := ⟨_, _⟩) k rfl ih2)
abbrev RPair := S56
theorem rpair_ext {a b : RPair} (h0 : a.f0 = b.f0) (h1 : a.f1 = b.f1) : a = b := by cases a; cases b; simp_all
instance rpairDec : DecidableEq RPair := fun a b => decidable_of_iff (a.f0 = b.f0 ∧ a.f1 = b.f1) ⟨fun h => rpair_ext h.1 h.2, fun h => by rw [h]; exact ⟨rfl, rfl⟩⟩
instance : Inhabited RPair := ⟨z56⟩
theorem rdR (l : List RPair) (i : Nat) : Qap l (i : Int) = l[i]! := by
  unfold Qap; rw [Int.toNat_natCast, List.getElem!_eq_getElem?_getD, List.getD_eq_getElem?_getD]; rfl
theorem beq_dec (a b : ByteArray) : (a.toList == b.toList) = decide (a = b) := by
  rw [Bool.eq_iff_iff, Lib.bytes_beq_iff, decide_eq_true_eq]
theorem role_beq (r : Role) (a b : ByteArray) : (r.f0.toList == a.toList && (r.f1.toList == b.toList)) = decide (r = ⟨a, b⟩) := by
  rw [beq_dec, beq_dec, Bool.eq_iff_iff, Bool.and_eq_true, decide_eq_true_eq, decide_eq_true_eq, decide_eq_true_eq]; exact ⟨fun h => role_ext h.1 h.2, fun h => by rw [h]; exact ⟨rfl, rfl⟩⟩
theorem rpair_beq (p : RPair) (a b c : ByteArray) : ((p.f0.f0.toList == a.toList && (p.f0.f1.toList == b.toList)) && (p.f1.toList == c.toList)) = decide (p = ⟨⟨a, b⟩, c⟩) := by
  rw [role_beq, beq_dec, Bool.eq_iff_iff, Bool.and_eq_true, decide_eq_true_eq, decide_eq_true_eq, decide_eq_true_eq]; exact ⟨fun h => rpair_ext h.1 h.2, fun h => by rw [h]; exact ⟨rfl, rfl⟩⟩
theorem in_l0 (l : List RPair) (hl : l.length < 1000000000) (a b c : ByteArray) : ∀ (n i : Nat), n + i = l.length → Ev (fun k => QaP.l0 k l (i : Int) a b c) (decide ((⟨⟨a, b⟩, c⟩ : RPair) ∈ l.drop i))
  | 0, i, hn => by
    rw [show l.drop i = [] from List.drop_eq_nil_of_le (by omega)]; refine Ev.step (fun k => ?_) (Ev.pure _); rw [QaP.l0, if_neg (by omega)]; rfl
  | n + 1, i, hn => by
    rw [drop_bang (by omega : i < l.length)]
    by_cases e : l[i]! = ⟨⟨a, b⟩, c⟩
    · refine Ev.step (fun k => ?_) (Ev.pure _)
      rw [QaP.l0, if_pos (by omega), if_pos (by omega), rdR, rpair_beq, decide_eq_true e, if_pos rfl, decide_eq_true (by rw [e]; exact List.mem_cons_self ..)]
    · have h : decide ((⟨⟨a, b⟩, c⟩ : RPair) ∈ l[i]! :: l.drop (i + 1)) = decide ((⟨⟨a, b⟩, c⟩ : RPair) ∈ l.drop (i + 1)) := by
        rw [Bool.eq_iff_iff, decide_eq_true_eq, decide_eq_true_eq, List.mem_cons]; exact ⟨fun h => h.resolve_left (fun h => e h.symm), .inr⟩
      rw [h]; refine Ev.step (fun k => ?_) (in_l0 l hl a b c n (i + 1) (by omega)); rw [QaP.l0, if_pos (by omega), if_pos (by omega), rdR, rpair_beq, decide_eq_false e, if_neg (by decide), wrap_succ (by omega)]
theorem in_ev (l : List RPair) (hl : l.length < 1000000000) (a b c : ByteArray) : Ev (fun k => QaP.f k l a b c) (decide ((⟨⟨a, b⟩, c⟩ : RPair) ∈ l)) :=
  in_l0 l hl a b c l.length 0 (by omega)
def bringOne (c : Cred) (l : List RPair) (p : RPair) : List RPair :=
  if c.f2 = 2 then (if p.f0 = c.f4 then [⟨credRole c, p.f1⟩] else [])
  else if c.f2 = 4 then (if p.f0 = c.f4 then (if (⟨c.f5, p.f1⟩ : RPair) ∈ l then [⟨credRole c, p.f1⟩] else []) else [])
  else if c.f2 = 3 then (if p.f0 = linkFirst c then (if numName p.f1 > 0 then (l.filter fun q => decide (q.f0 = ⟨p.f1, c.f5.f1⟩)).map fun q => (⟨credRole c, q.f1⟩ : RPair) else []) else [])
  else []
def bringsL (c : Cred) (l : List RPair) : List RPair := if c.f2 = 1 then [⟨credRole c, c.f3⟩] else l.flatMap (bringOne c l)
theorem brings_l1 (c : Cred) (r sec : Role) (l : List RPair) (hl : l.length ≤ 1000) (i : Nat) (hi : i < l.length) (R : List RPair) : ∀ (n j : Nat) (out : List RPair), n + j = l.length → out.length ≤ 100000000 + j →
    Ev (fun k => Qae.l0 k l (out ++ ((l.drop j).filter fun q => decide (q.f0 = sec)).map fun q => (⟨r, q.f1⟩ : RPair)) ((i + 1 : Nat) : Int) c.f0.f0 c.f0.f1 c.f1 c.f2 c.f3 c.f4.f0 c.f4.f1 c.f5.f0 c.f5.f1 r.f0 r.f1) R →
    Ev (fun k => Qae.l1 k l out (i : Int) (j : Int) c.f0.f0 c.f0.f1 c.f1 c.f2 c.f3 c.f4.f0 c.f4.f1 c.f5.f0 c.f5.f1 r.f0 r.f1 sec.f0 sec.f1) R
  | 0, j, out, hn, ho, h => by
    rw [show l.drop j = [] from List.drop_eq_nil_of_le (by omega)] at h; refine Ev.step (fun k => ?_) h; rw [Qae.l1, if_neg (by omega), wrap_succ (by omega), List.filter_nil, List.map_nil, List.append_nil]
  | n + 1, j, out, hn, ho, h => by
    rw [drop_bang (by omega : j < l.length), List.filter_cons] at h
    by_cases e : l[j]!.f0 = sec
    · rw [decide_eq_true e, if_pos rfl, List.map_cons] at h
      refine Ev.step (fun k => ?_) (brings_l1 c r sec l hl i hi R n (j + 1) (out ++ [⟨r, l[j]!.f1⟩]) (by omega) (by simp; omega) (by rw [List.append_assoc]; exact h)); rw [Qae.l1, if_pos (by omega), if_pos (by omega), rdR, role_beq, decide_eq_true e, if_pos rfl, if_pos (by omega), wrap_succ (by omega)]
    · rw [decide_eq_false e, if_neg (by decide)] at h
      refine Ev.step (fun k => ?_) (brings_l1 c r sec l hl i hi R n (j + 1) out (by omega) (by omega) h); rw [Qae.l1, if_pos (by omega), if_pos (by omega), rdR, role_beq, decide_eq_false e, if_neg (by decide), wrap_succ (by omega)]
theorem brings_j3 (c : Cred) (r : Role) (l : List RPair) (hl : l.length ≤ 1000) (i : Nat) (hi : i < l.length) (t : Bool) (R out : List RPair) (ho : out.length ≤ 100000000)
    (h : Ev (fun k => Qae.l0 k l (out ++ (if t then (l.filter fun q => decide (q.f0 = ⟨l[i]!.f1, c.f5.f1⟩)).map fun q => (⟨r, q.f1⟩ : RPair) else [])) ((i + 1 : Nat) : Int) c.f0.f0 c.f0.f1 c.f1 c.f2 c.f3 c.f4.f0 c.f4.f1 c.f5.f0 c.f5.f1 r.f0 r.f1) R) :
    Ev (fun k => Qae.j3 k l out (i : Int) t c.f0.f0 c.f0.f1 c.f1 c.f2 c.f3 c.f4.f0 c.f4.f1 c.f5.f0 c.f5.f1 r.f0 r.f1) R := by
  cases t
  · rw [if_neg (by decide), List.append_nil] at h
    refine Ev.step (fun k => ?_) h; rw [Qae.j3, if_neg (by decide), wrap_succ (by omega)]
  · rw [if_pos rfl] at h
    refine Ev.step (fun k => ?_) (brings_l1 c r ⟨l[i]!.f1, c.f5.f1⟩ l hl i hi R l.length 0 out (by omega) (by omega) (by rw [List.drop_zero]; exact h)); rw [Qae.j3, if_pos rfl, if_pos (by omega), if_pos (by omega), rdR]; rfl
theorem brings_j2 (c : Cred) (r : Role) (l : List RPair) (hl : l.length ≤ 1000) (i : Nat) (hi : i < l.length) (R out : List RPair) (ho : out.length ≤ 100000000)
    (h : Ev (fun k => Qae.l0 k l (out ++ (if c.f2 = 3 then (if l[i]!.f0 = linkFirst c then (if numName l[i]!.f1 > 0 then (l.filter fun q => decide (q.f0 = ⟨l[i]!.f1, c.f5.f1⟩)).map fun q => (⟨r, q.f1⟩ : RPair) else []) else []) else [])) ((i + 1 : Nat) : Int) c.f0.f0 c.f0.f1 c.f1 c.f2 c.f3 c.f4.f0 c.f4.f1 c.f5.f0 c.f5.f1 r.f0 r.f1) R) :
    Ev (fun k => Qae.j2 k l out (i : Int) c.f0.f0 c.f0.f1 c.f1 c.f2 c.f3 c.f4.f0 c.f4.f1 c.f5.f0 c.f5.f1 r.f0 r.f1) R := by
  by_cases k3 : c.f2 = 3
  · rw [if_pos k3] at h
    by_cases e : l[i]!.f0 = linkFirst c
    · rw [if_pos e] at h
      have h3 := brings_j3 c r l hl i hi (decide (numName l[i]!.f1 > 0)) R out ho (by simpa only [decide_eq_true_eq] using h); refine Ev.step (g := fun k => (liveryref06_First.f k c.f0.f0 c.f0.f1 c.f1 c.f2 c.f3 c.f4.f0 c.f4.f1 c.f5.f0 c.f5.f1).bind fun bt => if ((l[i]!.f0.f0.toList == bt.1.toList && (l[i]!.f0.f1.toList == bt.2.toList))) = true then ((Qat.f k l[i]!.f1).bind fun t => Qae.j3 k l out (i : Int) (decide (t > 0)) c.f0.f0 c.f0.f1 c.f1 c.f2 c.f3 c.f4.f0 c.f4.f1 c.f5.f0 c.f5.f1 r.f0 r.f1) else Qae.j3 k l out (i : Int) false c.f0.f0 c.f0.f1 c.f1 c.f2 c.f3 c.f4.f0 c.f4.f1 c.f5.f0 c.f5.f1 r.f0 r.f1) (fun k => ?_) ?_
      · rw [Qae.j2, if_pos k3, if_pos (by omega), if_pos (by omega), rdR]
      · refine Ev.bind (a := (domName c.f0.f0, c.f4.f1)) (.from 1 fun k hk => ?_) ?_
        · obtain ⟨j, rfl⟩ : ∃ j, k = j + 1 := ⟨k - 1, by omega⟩
          unfold liveryref06_First.f; rw [refDomain_is]; rfl
        · rw [role_beq, decide_eq_true (p := l[i]!.f0 = ⟨domName c.f0.f0, c.f4.f1⟩) e]
          simp only [if_true]; exact Ev.bind (.from 2 fun k hk => by obtain ⟨j, rfl⟩ : ∃ j, k = j + 2 := ⟨k - 2, by omega⟩; exact refNumber_is _ _) h3
    · rw [if_neg e, List.append_nil] at h
      have h3 := brings_j3 c r l hl i hi false R out ho (by simpa using h); refine Ev.step (g := fun k => (liveryref06_First.f k c.f0.f0 c.f0.f1 c.f1 c.f2 c.f3 c.f4.f0 c.f4.f1 c.f5.f0 c.f5.f1).bind fun bt => if ((l[i]!.f0.f0.toList == bt.1.toList && (l[i]!.f0.f1.toList == bt.2.toList))) = true then ((Qat.f k l[i]!.f1).bind fun t => Qae.j3 k l out (i : Int) (decide (t > 0)) c.f0.f0 c.f0.f1 c.f1 c.f2 c.f3 c.f4.f0 c.f4.f1 c.f5.f0 c.f5.f1 r.f0 r.f1) else Qae.j3 k l out (i : Int) false c.f0.f0 c.f0.f1 c.f1 c.f2 c.f3 c.f4.f0 c.f4.f1 c.f5.f0 c.f5.f1 r.f0 r.f1) (fun k => ?_) ?_
      · rw [Qae.j2, if_pos k3, if_pos (by omega), if_pos (by omega), rdR]
      · refine Ev.bind (a := (domName c.f0.f0, c.f4.f1)) (.from 1 fun k hk => ?_) ?_
        · obtain ⟨j, rfl⟩ : ∃ j, k = j + 1 := ⟨k - 1, by omega⟩
          unfold liveryref06_First.f; rw [refDomain_is]; rfl
        · rw [role_beq, decide_eq_false (p := l[i]!.f0 = ⟨domName c.f0.f0, c.f4.f1⟩) e]
          simpa only [Bool.false_eq_true, if_false] using h3
  · rw [if_neg k3, List.append_nil] at h
    have h3 := brings_j3 c r l hl i hi false R out ho (by simpa using h); refine Ev.step (fun k => ?_) h3; rw [Qae.j2, if_neg k3]
theorem brings_j1 (c : Cred) (l : List RPair) (hl : l.length ≤ 1000) (i : Nat) (hi : i < l.length) (R out : List RPair) (ho : out.length < 100000000)
    (h : Ev (fun k => Qae.l0 k l (out ++ bringOne c l l[i]!) ((i + 1 : Nat) : Int) c.f0.f0 c.f0.f1 c.f1 c.f2 c.f3 c.f4.f0 c.f4.f1 c.f5.f0 c.f5.f1 (credRole c).f0 (credRole c).f1) R) :
    Ev (fun k => Qae.j1 k l out (i : Int) ((decide (c.f2 = 2) || decide (c.f2 = 4)) && decide (l[i]!.f0 = c.f4)) c.f0.f0 c.f0.f1 c.f1 c.f2 c.f3 c.f4.f0 c.f4.f1 c.f5.f0 c.f5.f1 (credRole c).f0 (credRole c).f1) R := by
  unfold bringOne at h
  by_cases k24 : c.f2 = 2 ∨ c.f2 = 4
  · have hk : (decide (c.f2 = 2) || decide (c.f2 = 4)) = true := by rw [Bool.or_eq_true, decide_eq_true_eq, decide_eq_true_eq]; exact k24
    rw [hk, Bool.true_and]
    by_cases e : l[i]!.f0 = c.f4
    · rw [decide_eq_true e]
      simp only [if_pos e] at h; refine Ev.step (g := fun k => (QaP.f k l c.f5.f0 c.f5.f1 l[i]!.f1).bind fun t => if c.f2 = 2 then Qae.j2 k l (out ++ [⟨credRole c, l[i]!.f1⟩]) (i : Int) c.f0.f0 c.f0.f1 c.f1 c.f2 c.f3 c.f4.f0 c.f4.f1 c.f5.f0 c.f5.f1 (credRole c).f0 (credRole c).f1 else if t = true then Qae.j2 k l (out ++ [⟨credRole c, l[i]!.f1⟩]) (i : Int) c.f0.f0 c.f0.f1 c.f1 c.f2 c.f3 c.f4.f0 c.f4.f1 c.f5.f0 c.f5.f1 (credRole c).f0 (credRole c).f1 else Qae.j2 k l out (i : Int) c.f0.f0 c.f0.f1 c.f1 c.f2 c.f3 c.f4.f0 c.f4.f1 c.f5.f0 c.f5.f1 (credRole c).f0 (credRole c).f1) (fun k => ?_) (Ev.bind (in_ev l (by omega) _ _ _) ?_)
      · rw [Qae.j1, if_pos rfl, if_pos (by omega), if_pos (by omega), rdR]
        simp only [if_pos (show out.length < 2932031007402 by omega)]
      · by_cases k2 : c.f2 = 2
        · simp only [if_pos k2] at h ⊢
          refine brings_j2 c _ l hl i hi R _ (by simp; omega) ?_; rw [if_neg (by omega), List.append_nil]; exact h
        · have k4 : c.f2 = 4 := by omega
          simp only [if_neg k2, if_pos k4] at h ⊢
          by_cases m : (⟨c.f5, l[i]!.f1⟩ : RPair) ∈ l
          · rw [if_pos m] at h
            rw [decide_eq_true (p := (⟨⟨c.f5.f0, c.f5.f1⟩, l[i]!.f1⟩ : RPair) ∈ l) m]; simp only [if_true]; refine brings_j2 c _ l hl i hi R _ (by simp; omega) ?_; rw [if_neg (by omega), List.append_nil]; exact h
          · rw [if_neg m, List.append_nil] at h
            rw [decide_eq_false (p := (⟨⟨c.f5.f0, c.f5.f1⟩, l[i]!.f1⟩ : RPair) ∈ l) m]; simp only [Bool.false_eq_true, if_false]; refine brings_j2 c _ l hl i hi R _ (by omega) ?_; rw [if_neg (by omega), List.append_nil]; exact h
    · rw [decide_eq_false e]
      refine Ev.step (fun k => ?_) (brings_j2 c (credRole c) l hl i hi R out (by omega) ?_)
      · rw [Qae.j1, if_neg (by decide)]
      · rw [if_neg (by omega)]
        simp only [if_neg e] at h
        rcases k24 with k | k
        · rw [if_pos k] at h
          exact h
        · rw [if_neg (by omega), if_pos k] at h
          exact h
  · have hk : (decide (c.f2 = 2) || decide (c.f2 = 4)) = false := by rw [decide_eq_false (by omega), decide_eq_false (by omega)]; rfl
    rw [hk, Bool.false_and]; rw [if_neg (by omega), if_neg (by omega)] at h; refine Ev.step (fun k => ?_) (brings_j2 c (credRole c) l hl i hi R out (by omega) h); rw [Qae.j1, if_neg (by decide)]
theorem bringOne_length (c : Cred) (l : List RPair) (p : RPair) (hl : l.length ≤ 1000) : (bringOne c l p).length ≤ 1000 := by
  unfold bringOne; have := List.length_filter_le (fun q : RPair => decide (q.f0 = ⟨p.f1, c.f5.f1⟩)) l
  split
  · split <;> simp
  · split
    · split
      · split <;> simp
      · simp
    · split
      · split
        · split
          · rw [List.length_map]; omega
          · simp
        · simp
      · simp
theorem brings_l0 (c : Cred) (l : List RPair) (hl : l.length ≤ 1000) : ∀ (n i : Nat) (out : List RPair), n + i = l.length → out.length ≤ i * 1000 → Ev (fun k => Qae.l0 k l out (i : Int) c.f0.f0 c.f0.f1 c.f1 c.f2 c.f3 c.f4.f0 c.f4.f1 c.f5.f0 c.f5.f1 (credRole c).f0 (credRole c).f1) (out ++ (l.drop i).flatMap (bringOne c l))
  | 0, i, out, hn, ho => by
    rw [show l.drop i = [] from List.drop_eq_nil_of_le (by omega), List.flatMap_nil, List.append_nil]; refine Ev.step (fun k => ?_) (Ev.pure _); rw [Qae.l0, if_neg (by omega)]
  | n + 1, i, out, hn, ho => by
    have hi : i < l.length := by omega
    rw [drop_bang hi, List.flatMap_cons, ← List.append_assoc]; have hlen := bringOne_length c l l[i]! hl; refine Ev.step (fun k => ?_) (brings_j1 c l hl i hi _ out (by omega) (brings_l0 c l hl n (i + 1) _ (by omega) (by rw [List.length_append]; omega))); rw [Qae.l0, if_pos (by omega)]
    by_cases k2 : c.f2 = 2
    · rw [if_pos k2, if_pos (by omega), rdR, role_beq, decide_eq_true k2]
      rfl
    · rw [if_neg k2, decide_eq_false k2]
      by_cases k4 : c.f2 = 4
      · rw [if_pos k4, if_pos (by omega), rdR, role_beq, decide_eq_true k4]
        rfl
      · rw [if_neg k4, decide_eq_false k4]
        rfl
theorem brings_ev (c : Cred) (l : List RPair) (hl : l.length ≤ 1000) : Ev (fun k => Qae.f k c.f0.f0 c.f0.f1 c.f1 c.f2 c.f3 c.f4.f0 c.f4.f1 c.f5.f0 c.f5.f1 l) (bringsL c l) := by
  unfold Qae.f bringsL; refine Ev.bind (a := (domName c.f0.f0, c.f1)) (.from 1 fun k hk => ?_) ?_
  · obtain ⟨j, rfl⟩ : ∃ j, k = j + 1 := ⟨k - 1, by omega⟩
    unfold liveryref05_Role.f; rw [refDomain_is]; rfl
  · by_cases k1 : c.f2 = 1
    · simp only [if_pos k1]
      exact Ev.pure _
    · simp only [if_neg k1]
      have := brings_l0 c l hl l.length 0 [] (by omega) (by simp); rw [List.drop_zero, List.nil_append] at this; exact this
theorem bringsL_length (c : Cred) (l : List RPair) (hl : l.length ≤ 1000) : (bringsL c l).length ≤ 1000001 := by
  have key : ∀ m : List RPair, (m.flatMap (bringOne c l)).length ≤ m.length * 1000 := fun m => by
    induction m with
    | nil => simp
    | cons a m ih =>
      have := bringOne_length c l a hl; rw [List.flatMap_cons, List.length_append, List.length_cons]; omega
  unfold bringsL; have := key l
  split
  · simp
  · omega
def addNew (out : List RPair) (p : RPair) : List RPair := if p ∈ out then out else out ++ [p]
theorem round_l1 (cs : List Cred) (hcs : cs.length ≤ 1000) (l more : List RPair) (hm : more.length ≤ 1000001) (i : Nat) (hi : i < cs.length) (R : List RPair) : ∀ (n j : Nat) (out : List RPair), n + j = more.length → out.length + n ≤ 900000000 →
    Ev (fun k => QaC.l0 k cs l ((more.drop j).foldl addNew out) ((i + 1 : Nat) : Int)) R → Ev (fun k => QaC.l1 k cs l out (i : Int) more (j : Int)) R
  | 0, j, out, hn, ho, h => by
    rw [show more.drop j = [] from List.drop_eq_nil_of_le (by omega)] at h; refine Ev.step (fun k => ?_) h; rw [QaC.l1, if_neg (by omega), wrap_succ (by omega), List.foldl_nil]
  | n + 1, j, out, hn, ho, h => by
    rw [drop_bang (by omega : j < more.length), List.foldl_cons] at h; refine Ev.step (g := fun k => (QaP.f k out more[j]!.f0.f0 more[j]!.f0.f1 more[j]!.f1).bind fun t => if t = true then QaC.l1 k cs l out (i : Int) more ((j + 1 : Nat) : Int) else QaC.l1 k cs l (out ++ [more[j]!]) (i : Int) more ((j + 1 : Nat) : Int)) (fun k => ?_) ?_
    · rw [QaC.l1, if_pos (by omega), if_pos (by omega), rdR, wrap_succ (by omega)]
      simp only [if_pos (show out.length < 2932031007402 by omega)]
    · by_cases e : more[j]! ∈ out
      · rw [addNew, if_pos e] at h
        refine Ev.bind (a := true) ?_ ?_
        · by_cases hb : out.length < 1000000000
          · have := in_ev out hb more[j]!.f0.f0 more[j]!.f0.f1 more[j]!.f1
            rw [decide_eq_true (p := (⟨⟨more[j]!.f0.f0, more[j]!.f0.f1⟩, more[j]!.f1⟩ : RPair) ∈ out) e] at this; exact this
          · exact absurd hb (by omega)
        · simp only [if_true]
          exact round_l1 cs hcs l more hm i hi R n (j + 1) out (by omega) (by omega) h
      · rw [addNew, if_neg e] at h
        refine Ev.bind (a := false) ?_ ?_
        · have := in_ev out (by omega) more[j]!.f0.f0 more[j]!.f0.f1 more[j]!.f1
          rw [decide_eq_false (p := (⟨⟨more[j]!.f0.f0, more[j]!.f0.f1⟩, more[j]!.f1⟩ : RPair) ∈ out) e] at this; exact this
        · simp only [Bool.false_eq_true, if_false]
          exact round_l1 cs hcs l more hm i hi R n (j + 1) (out ++ [more[j]!]) (by omega) (by simp; omega) h
theorem addAll_length : ∀ (more out : List RPair), (more.foldl addNew out).length ≤ out.length + more.length
  | [], out => by simp
  | a :: m, out => by
    rw [List.foldl_cons]; have := addAll_length m (addNew out a)
    have h2 : (addNew out a).length ≤ out.length + 1 := by
      unfold addNew
      split <;> simp
    simp only [List.length_cons]; omega
def roundL (cs : List Cred) (l : List RPair) : List RPair := cs.foldl (fun o c => (bringsL c l).foldl addNew o) l
theorem round_l0 (cs : List Cred) (hcs : cs.length ≤ 100) (l : List RPair) (hl : l.length ≤ 1000) : ∀ (n i : Nat) (out : List RPair), n + i = cs.length → out.length ≤ 1000 + i * 1000001 → Ev (fun k => QaC.l0 k cs l out (i : Int)) ((cs.drop i).foldl (fun o c => (bringsL c l).foldl addNew o) out)
  | 0, i, out, hn, ho => by
    rw [show cs.drop i = [] from List.drop_eq_nil_of_le (by omega)]; refine Ev.step (fun k => ?_) (Ev.pure _); rw [QaC.l0, if_neg (by omega)]; rfl
  | n + 1, i, out, hn, ho => by
    have hi : i < cs.length := by omega
    rw [drop_bang hi, List.foldl_cons]; have h1 := bringsL_length cs[i]! l hl; have h2 := addAll_length (bringsL cs[i]! l) out; refine Ev.step (g := fun k => (Qae.f k cs[i]!.f0.f0 cs[i]!.f0.f1 cs[i]!.f1 cs[i]!.f2 cs[i]!.f3 cs[i]!.f4.f0 cs[i]!.f4.f1 cs[i]!.f5.f0 cs[i]!.f5.f1 l).bind fun t => QaC.l1 k cs l out (i : Int) t 0) (fun k => ?_) (Ev.bind (brings_ev cs[i]! l hl) (round_l1 cs (by omega) l _ h1 i hi _ (bringsL cs[i]! l).length 0 out (by omega) (by omega) ?_))
    · rw [QaC.l0, if_pos (by omega), if_pos (by omega), rdCred]
    · rw [List.drop_zero]
      exact round_l0 cs hcs l hl n (i + 1) _ (by omega) (by omega)
theorem round_ev (cs : List Cred) (hcs : cs.length ≤ 100) (l : List RPair) (hl : l.length ≤ 1000) : Ev (fun k => QaC.f k cs l) (roundL cs l) := by
  have := round_l0 cs hcs l hl cs.length 0 l (by omega) (by omega); rw [List.drop_zero] at this; refine Ev.congr (fun k => ?_) this; unfold QaC.f; rw [if_pos (by simp; omega), List.nil_append]; rfl
def Ext (out res : List RPair) (M : RPair → Prop) : Prop := ∃ e, res = out ++ e ∧ e.Nodup ∧ (∀ x ∈ e, x ∉ out) ∧ ∀ x, x ∈ res ↔ x ∈ out ∨ M x
theorem ext_none (out : List RPair) {M : RPair → Prop} (h : ∀ x, M x → x ∈ out) : Ext out out M := ⟨[], by simp, List.nodup_nil, fun x hx => by (cases hx), fun x => ⟨.inl, fun h' => h'.elim id (h x)⟩⟩
theorem Ext.trans {a b c : List RPair} {M M' : RPair → Prop} (h : Ext a b M) (h' : Ext b c M') : Ext a c (fun x => M x ∨ M' x) := by
  obtain ⟨e, rfl, h1, h2, h3⟩ := h; obtain ⟨e', rfl, h4, h5, h6⟩ := h'; refine ⟨e ++ e', by rw [List.append_assoc], ?_, ?_, fun x => ?_⟩
  · rw [List.nodup_append]
    exact ⟨h1, h4, fun x hx y hy e => h5 y hy (List.mem_append_right _ (e ▸ hx))⟩
  · intro x hx
    rcases List.mem_append.mp hx with h | h
    · exact h2 x h
    · exact fun hxa => h5 x h (List.mem_append_left _ hxa)
  · rw [h6, h3]
    constructor
    · rintro ((h | h) | h)
      · exact .inl h
      · exact .inr (.inl h)
      · exact .inr (.inr h)
    · rintro (h | h | h)
      · exact .inl (.inl h)
      · exact .inl (.inr h)
      · exact .inr h
theorem Ext.imp {a b : List RPair} {M M' : RPair → Prop} (h : Ext a b M) (hM : ∀ x, M x ↔ M' x) : Ext a b M' := by
  obtain ⟨e, h0, h1, h2, h3⟩ := h; exact ⟨e, h0, h1, h2, fun x => (h3 x).trans ⟨fun h => h.imp id (hM x).mp, fun h => h.imp id (hM x).mpr⟩⟩
theorem addNew_ext (out : List RPair) (p : RPair) : Ext out (addNew out p) (fun x => x = p) := by
  unfold addNew
  by_cases h : p ∈ out
  · rw [if_pos h]
    exact ext_none out (fun x e => e ▸ h)
  · rw [if_neg h]
    exact ⟨[p], rfl, by simp, fun x hx => by rw [List.mem_singleton.mp hx]; exact h, fun x => by simp⟩
theorem addAll_ext : ∀ (more out : List RPair), Ext out (more.foldl addNew out) (fun x => x ∈ more)
  | [], out => ext_none out (fun x h => by cases h)
  | a :: m, out => by
    rw [List.foldl_cons]; exact ((addNew_ext out a).trans (addAll_ext m _)).imp (fun x => by rw [List.mem_cons])
theorem round_ext (l : List RPair) : ∀ (cs : List Cred) (out : List RPair), Ext out (cs.foldl (fun o c => (bringsL c l).foldl addNew o) out) (fun x => ∃ c ∈ cs, x ∈ bringsL c l)
  | [], out => ext_none out (fun x h => by obtain ⟨c, hc, _⟩ := h; cases hc)
  | c :: cs, out => by
    rw [List.foldl_cons]; refine ((addAll_ext (bringsL c l) out).trans (round_ext l cs _)).imp (fun x => ?_); constructor
    · rintro (h | ⟨c', hc', h⟩)
      · exact ⟨c, List.mem_cons_self .., h⟩
      · exact ⟨c', List.mem_cons_of_mem _ hc', h⟩
    · rintro ⟨c', hc', h⟩
      rcases List.mem_cons.mp hc' with e | e
      · exact .inl (e ▸ h)
      · exact .inr ⟨c', e, h⟩
theorem bringsL_mem (c : Cred) (l : List RPair) (x : RPair) : x ∈ bringsL c l ↔ x.f0 = credRole c ∧ ((c.f2 = 1 ∧ x.f1 = c.f3) ∨ (c.f2 = 2 ∧ (⟨c.f4, x.f1⟩ : RPair) ∈ l) ∨ (c.f2 = 3 ∧ ∃ u, (⟨linkFirst c, u⟩ : RPair) ∈ l ∧ numName u > 0 ∧ (⟨⟨u, c.f5.f1⟩, x.f1⟩ : RPair) ∈ l) ∨ (c.f2 = 4 ∧ (⟨c.f4, x.f1⟩ : RPair) ∈ l ∧ (⟨c.f5, x.f1⟩ : RPair) ∈ l)) := by
  unfold bringsL
  by_cases k1 : c.f2 = 1
  · rw [if_pos k1, List.mem_singleton]
    constructor
    · rintro rfl
      exact ⟨rfl, .inl ⟨k1, rfl⟩⟩
    · rintro ⟨h0, h⟩
      rcases h with h | h | h | h
      · exact rpair_ext h0 h.2
      · omega
      · omega
      · omega
  rw [if_neg k1, List.mem_flatMap]; unfold bringOne
  by_cases k2 : c.f2 = 2
  · simp only [if_pos k2]
    constructor
    · rintro ⟨p, hp, h⟩
      by_cases e : p.f0 = c.f4
      · rw [if_pos e, List.mem_singleton] at h
        subst h; exact ⟨rfl, .inr (.inl ⟨k2, by rw [← e]; exact hp⟩)⟩
      · rw [if_neg e] at h
        cases h
    · rintro ⟨h0, h⟩
      rcases h with h | h | h | h
      · omega
      · refine ⟨_, h.2, ?_⟩
        rw [if_pos rfl, List.mem_singleton]; exact rpair_ext h0 rfl
      · omega
      · omega
  simp only [if_neg k2]
  by_cases k4 : c.f2 = 4
  · simp only [if_pos k4]
    constructor
    · rintro ⟨p, hp, h⟩
      by_cases e : p.f0 = c.f4
      · rw [if_pos e] at h
        by_cases m : (⟨c.f5, p.f1⟩ : RPair) ∈ l
        · rw [if_pos m, List.mem_singleton] at h
          subst h; exact ⟨rfl, .inr (.inr (.inr ⟨k4, by rw [← e]; exact hp, m⟩))⟩
        · rw [if_neg m] at h
          cases h
      · rw [if_neg e] at h
        cases h
    · rintro ⟨h0, h⟩
      rcases h with h | h | h | h
      · omega
      · omega
      · omega
      · refine ⟨_, h.2.1, ?_⟩
        rw [if_pos rfl, if_pos h.2.2, List.mem_singleton]; exact rpair_ext h0 rfl
  simp only [if_neg k4]
  by_cases k3 : c.f2 = 3
  · simp only [if_pos k3]
    constructor
    · rintro ⟨p, hp, h⟩
      by_cases e : p.f0 = linkFirst c
      · rw [if_pos e] at h
        by_cases m : numName p.f1 > 0
        · rw [if_pos m, List.mem_map] at h
          obtain ⟨q, hq, rfl⟩ := h; rw [List.mem_filter, decide_eq_true_eq] at hq; exact ⟨rfl, .inr (.inr (.inl ⟨k3, p.f1, by rw [← e]; exact hp, m, by rw [← hq.2]; exact hq.1⟩))⟩
        · rw [if_neg m] at h
          cases h
      · rw [if_neg e] at h
        cases h
    · rintro ⟨h0, h⟩
      rcases h with h | h | h | h
      · omega
      · omega
      · obtain ⟨_, u, h1, h2, h3⟩ := h
        refine ⟨_, h1, ?_⟩; rw [if_pos rfl, if_pos h2, List.mem_map]; refine ⟨_, List.mem_filter.mpr ⟨h3, by simp⟩, rpair_ext h0.symm rfl⟩
      · omega
  simp only [if_neg k3]; constructor
  · rintro ⟨p, hp, h⟩
    cases h
  · rintro ⟨h0, h⟩
    omega
def SaidR (cs : List Cred) (p : RPair) : Prop := Said cs ⟨p.f0, p.f1⟩
theorem brings_said {cs : List Cred} {c : Cred} (hc : c ∈ cs) {l : List RPair} (hl : ∀ p ∈ l, SaidR cs p) {x : RPair} (hx : x ∈ bringsL c l) : SaidR cs x := by
  rw [bringsL_mem] at hx; obtain ⟨h0, h⟩ := hx; unfold SaidR; rw [h0]
  rcases h with h | h | h | h
  · rw [h.2]
    exact .member hc h.1
  · exact .incl hc h.1 (hl _ h.2)
  · obtain ⟨k, u, h1, h2, h3⟩ := h
    exact .link hc k (hl _ h1) h2 (hl _ h3)
  · exact .both hc h.1 (hl _ h.2.1) (hl _ h.2.2)
theorem closed_said {cs : List Cred} {l : List RPair} (h : ∀ c ∈ cs, ∀ x ∈ bringsL c l, x ∈ l) {p : Pair} (hp : Said cs p) : (⟨p.f0, p.f1⟩ : RPair) ∈ l := by
  induction hp with
  | @member c hc k => exact h c hc _ ((bringsL_mem c l _).mpr ⟨rfl, .inl ⟨k, rfl⟩⟩)
  | @incl c u hc k _ ih => exact h c hc _ ((bringsL_mem c l _).mpr ⟨rfl, .inr (.inl ⟨k, ih⟩)⟩)
  | @link c u v hc k _ n _ ih1 ih2 => exact h c hc _ ((bringsL_mem c l _).mpr ⟨rfl, .inr (.inr (.inl ⟨k, u, ih1, n, ih2⟩))⟩)
  | @both c u hc k _ _ ih1 ih2 => exact h c hc _ ((bringsL_mem c l _).mpr ⟨rfl, .inr (.inr (.inr ⟨k, ih1, ih2⟩))⟩)
theorem round_fix {cs : List Cred} {l : List RPair} (h : (roundL cs l).length = l.length) : roundL cs l = l ∧ ∀ c ∈ cs, ∀ x ∈ bringsL c l, x ∈ l := by
  obtain ⟨e, h0, h1, h2, h3⟩ := round_ext l cs l; have h0' : roundL cs l = l ++ e := h0; rw [h0', List.length_append] at h; have he : e = [] := List.eq_nil_of_length_eq_zero (by omega); rw [he, List.append_nil] at h0'; refine ⟨h0', fun c hc x hx => ?_⟩; have := (h3 x).mpr (.inr ⟨c, hc, hx⟩); have h4 : x ∈ roundL cs l := this; rw [h0'] at h4; exact h4
theorem saidR_400 {cs : List Cred} (hl : cs.length ≤ 20) {l : List RPair} (hn : l.Nodup) (h : ∀ p ∈ l, SaidR cs p) : l.length ≤ 400 := by
  have := said_400 hl (l := l.map fun p => (⟨p.f0, p.f1⟩ : Pair)) (by
    unfold List.Nodup; rw [List.pairwise_map]
    exact hn.imp fun {a b} hab e => hab (rpair_ext (congrArg S51.f0 e) (congrArg S51.f1 e))) (fun p hp => by
    obtain ⟨q, hq, rfl⟩ := List.mem_map.mp hp
    exact h q hq)
  simpa using this
def rLess (a b : RPair) : Bool := pairLess ⟨a.f0, a.f1⟩ ⟨b.f0, b.f1⟩
theorem rLess_irrefl (a : RPair) : rLess a a = false := by
  rw [Bool.eq_false_iff]; exact pairLess_irrefl _
theorem rLess_trans (a b c : RPair) (h : rLess a b = true) (h' : rLess b c = true) : rLess a c = true := pairLess_trans h h'
theorem rLess_total (a b : RPair) (h : a ≠ b) : rLess a b = true ∨ rLess b a = true := by
  by_cases h1 : rLess a b = true
  · exact .inl h1
  · by_cases h2 : rLess b a = true
    · exact .inr h2
    · have := pairLess_total h1 h2
      exact absurd (rpair_ext (congrArg S51.f0 this) (congrArg S51.f1 this)) h
theorem refLess_is (a b : RPair) : liveryref06_less.f a.f0.f0 a.f0.f1 a.f1 b.f0.f0 b.f0.f1 b.f1 = some (rLess a b) := by
  unfold liveryref06_less.f liveryref04_Less.f rLess
  by_cases e0 : a.f0.f0 = b.f0.f0
  · rw [(Lib.bytes_beq_iff _ _).mpr e0, if_pos ((toList_iff _ _).mpr e0)]
    by_cases e1 : a.f0.f1 = b.f0.f1
    · rw [(Lib.bytes_beq_iff _ _).mpr e1, if_neg (by decide)]
      congr 1
      rw [Bool.eq_iff_iff, pairLess_iff, roleLess_iff]
      show _ ↔ ((sLess a.f0.f0 b.f0.f0 = true ∨ (a.f0.f0 = b.f0.f0 ∧ sLess a.f0.f1 b.f0.f1 = true)) ∨ (a.f0 = b.f0 ∧ sLess a.f1 b.f1 = true))
      rw [e0, e1, sLess_irrefl, sLess_irrefl, show a.f0 = b.f0 from role_ext e0 e1]; simp [sLess]
    · have hb : (a.f0.f1.toList == b.f0.f1.toList) = false := by rw [beq_dec]; exact decide_eq_false e1
      rw [hb, if_pos (by rfl), Option.bind_some]
      congr 1
      rw [Bool.eq_iff_iff, pairLess_iff, roleLess_iff]
      show _ ↔ ((sLess a.f0.f0 b.f0.f0 = true ∨ (a.f0.f0 = b.f0.f0 ∧ sLess a.f0.f1 b.f0.f1 = true)) ∨ (a.f0 = b.f0 ∧ sLess a.f1 b.f1 = true))
      have hne : a.f0 ≠ b.f0 := fun e => e1 (by rw [e])
      rw [e0, sLess_irrefl]; simp [hne, sLess]
  · have hb : (a.f0.f0.toList == b.f0.f0.toList) = false := by rw [beq_dec]; exact decide_eq_false e0
    rw [hb, if_pos (by rfl), if_neg (fun h => e0 ((toList_iff _ _).mp h)), Option.bind_some]
    congr 1
    rw [Bool.eq_iff_iff, pairLess_iff, roleLess_iff]
    show _ ↔ ((sLess a.f0.f0 b.f0.f0 = true ∨ (a.f0.f0 = b.f0.f0 ∧ sLess a.f0.f1 b.f0.f1 = true)) ∨ (a.f0 = b.f0 ∧ sLess a.f1 b.f1 = true))
    have hne : a.f0 ≠ b.f0 := fun e => e0 (by rw [e])
    simp [hne, e0, sLess]
theorem refAll_l2 (x : List RPair) (hx : x.length < 1000000) (out : List RPair) (ho : out.length < 1000000) (R : List RPair) : ∀ (n m i : Nat), n + i = x.length → m < x.length →
    Ev (fun k => Qan.l1 k (x.take (selLeast rLess x n m i) ++ x.drop (selLeast rLess x n m i + 1)) (out ++ [x[selLeast rLess x n m i]!])) R → Ev (fun k => Qan.l2 k x out (m : Int) (i : Int)) R
  | 0, m, i, hn, hm, h => by
    rw [selLeast] at h; refine Ev.step (fun k => ?_) h; rw [Qan.l2, if_neg (by omega), if_pos (by omega), if_pos (by omega), if_pos (by omega), if_pos (by omega), Option.bind_some, if_pos (by simp; omega), Option.bind_some, wrap_succ (by omega), if_pos (by omega), if_pos (by omega), Option.bind_some, if_pos (by simp; omega), rdR]; rfl
  | n + 1, m, i, hn, hm, h => by
    rw [selLeast] at h
    have e : ∀ k, Qan.l2 (k + 1) x out (m : Int) (i : Int) = Qan.l2 k x out ((if rLess x[i]! x[m]! then i else m : Nat) : Int) ((i + 1 : Nat) : Int) := fun k => by
      rw [Qan.l2, if_pos (by omega), if_pos (by omega), if_pos (by omega), if_pos (by omega), rdR, rdR, refLess_is, Option.bind_some, wrap_succ (by omega)]
      cases rLess x[i]! x[m]! <;> rfl
    exact Ev.step e (refAll_l2 x hx out ho R n _ (i + 1) (by omega) (by split <;> omega) h)
theorem refAll_l1 : ∀ (n : Nat) (x out : List RPair), x.length ≤ n → x.length + out.length < 1000000 → Ev (fun k => Qan.l1 k x out) (selSort rLess n x out)
  | 0, x, out, hn, hl => by
    rw [selSort]; refine Ev.step (fun k => ?_) (Ev.pure _); rw [Qan.l1, if_neg (by omega)]
  | n + 1, x, out, hn, hl => by
    rw [selSort]
    by_cases c : x.length > 0
    · rw [if_pos c]
      have hm := selLeast_lt rLess x (x.length - 1) 0 1 (by omega) c; refine Ev.step (fun k => ?_) (refAll_l2 x (by omega) out (by omega) _ (x.length - 1) 0 1 (by omega) c (refAll_l1 n _ _ ?_ ?_))
      · rw [Qan.l1, if_pos (by omega)]
        rfl
      · simp
        omega
      · simp
        omega
    · rw [if_neg c]
      refine Ev.step (fun k => ?_) (Ev.pure _); rw [Qan.l1, if_neg (by omega)]
theorem refAll_l0 {cs : List Cred} (hcs : cs.length ≤ 20) : ∀ (n : Nat) (now : List RPair), now.Nodup → (∀ p ∈ now, SaidR cs p) → 401 - now.length ≤ n → ∃ fin : List RPair, fin.Nodup ∧ (∀ p, p ∈ fin ↔ SaidR cs p) ∧ Ev (fun k => Qan.l0 k cs now) (selSort rLess fin.length fin [])
  | 0, now, hn, hs, h => by
    have := saidR_400 hcs hn hs; omega
  | n + 1, now, hn, hs, h => by
    have h400 := saidR_400 hcs hn hs; have hr := round_ev cs (by omega) now (by omega)
    by_cases e : (roundL cs now).length = now.length
    · have hf := round_fix e
      refine ⟨now, hn, fun p => ⟨hs p, fun hp => closed_said hf.2 hp⟩, ?_⟩; refine Ev.step (g := fun k => (QaC.f k cs now).bind fun t => if (t.length : Int) = (now.length : Int) then Qan.l1 k now [] else Qan.l0 k cs t) (fun k => by rw [Qan.l0]) (Ev.bind hr ?_); simp only [if_pos (show ((roundL cs now).length : Int) = (now.length : Int) by omega)]; exact refAll_l1 now.length now [] (Nat.le_refl _) (by simp; omega)
    · obtain ⟨ex, h0, h1, h2, h3⟩ := round_ext now cs now
      have h0' : roundL cs now = now ++ ex := h0
      have hs' : ∀ p ∈ roundL cs now, SaidR cs p := fun p hp => by
        rcases (h3 p).mp hp with hp | ⟨c, hc, hp⟩
        · exact hs p hp
        · exact brings_said hc hs hp
      have hn' : (roundL cs now).Nodup := by
        rw [h0', List.nodup_append]; exact ⟨hn, h1, fun a ha b hb e => h2 b hb (e ▸ ha)⟩
      have hlt : now.length < (roundL cs now).length := by
        rw [h0', List.length_append] at e ⊢; omega
      obtain ⟨fin, f1, f2, f3⟩ := refAll_l0 hcs n (roundL cs now) hn' hs' (by omega); refine ⟨fin, f1, f2, ?_⟩; refine Ev.step (g := fun k => (QaC.f k cs now).bind fun t => if (t.length : Int) = (now.length : Int) then Qan.l1 k now [] else Qan.l0 k cs t) (fun k => by rw [Qan.l0]) (Ev.bind hr ?_); simp only [if_neg (show ¬ ((roundL cs now).length : Int) = (now.length : Int) by omega)]; exact f3
def toR (p : Pair) : RPair := ⟨p.f0, p.f1⟩
structure AllOf (cs : List Cred) (A : List Pair) : Prop where
  sorted : A.Pairwise (fun a b => pairLess a b = true)
  mem : ∀ p, p ∈ A ↔ Said cs p
theorem AllOf.unique {cs : List Cred} {A B : List Pair} (h : AllOf cs A) (h' : AllOf cs B) : A = B :=
  sorted_eq (R := fun a b => pairLess a b = true) pairLess_irrefl (fun _ _ _ => pairLess_trans) h.sorted h'.sorted (fun p => (h.mem p).trans (h'.mem p).symm)
theorem AllOf.nodup {cs : List Cred} {A : List Pair} (h : AllOf cs A) : A.Nodup := sorted_nodup (R := fun a b => pairLess a b = true) pairLess_irrefl h.sorted
theorem AllOf.length {cs : List Cred} {A : List Pair} (h : AllOf cs A) (hl : cs.length ≤ 20) : A.length ≤ 400 := said_400 hl h.nodup (fun p hp => (h.mem p).mp hp)
theorem sortPairs_sorted {l : List Pair} (hn : l.Nodup) : (sortPairs l).Pairwise (fun a b => pairLess a b = true) := by
  have h1 : (sortPairs l).Pairwise (fun a b => (!(ltOf pairCmp) b a) = true) := by
    unfold sortPairs; refine List.pairwise_mergeSort (le := fun x y => !(ltOf pairCmp) y x) ?_ ?_ l
    · intro a b c h1 h2
      simp only [Bool.not_eq_true'] at *; exact pairSWO.ntrans _ _ _ h2 h1
    · intro a b
      rw [pairCmp_lt, pairCmp_lt]
      by_cases h1 : pairLess b a = true
      · have : ¬ pairLess a b = true := fun h2 => pairLess_irrefl _ (pairLess_trans h1 h2)
        simp_all
      · simp_all
  have h2 : (sortPairs l).Nodup := (List.mergeSort_perm l _).nodup_iff.mpr hn
  refine (h1.and h2).imp fun {a b} hh => ?_
  obtain ⟨h, h'⟩ := hh; simp only [pairCmp_lt, Bool.not_eq_true'] at h
  by_cases h3 : pairLess a b = true
  · exact h3
  · exact absurd (pairLess_total h3 (by rw [h]; decide)) h'
theorem run_all {cs : List Cred} (hm : Mays cs) (hl : cs.length ≤ 20) : ∃ s A, runF 2000 cs = some s ∧ s.known.length ≤ 1000000 ∧ sortPairs s.known = A ∧ AllOf cs A := by
  obtain ⟨s, h1, h2, h3⟩ := run_said hm hl; have := said_400 hl h2 (fun p hp => (h3 p).mp hp); exact ⟨s, _, h1, by omega, rfl, sortPairs_sorted h2, fun p => sortPairs_mem.trans (h3 p)⟩
theorem counts_mays (l : List Cred) : Mays (counts l) := fun c hc => (((counts_spec l).mem c).mp hc).may
theorem all_is (l : List Cred) (hl : l.length < 21) (hok : ∀ c ∈ l, okCred c) : ∃ A, solve_All.f l = some A ∧ AllOf (counts l) A := by
  have hlen := counts_length l; obtain ⟨s, A, h1, h2, h3, h4⟩ := run_all (counts_mays l) (by omega); refine ⟨A, ?_, h4⟩; unfold solve_All.f; rw [progCounts_is l hl hok, Option.bind_some, if_pos (by omega), h1, Option.bind_some, if_pos h2, h3]
theorem refAll_ev {cs : List Cred} (hl : cs.length ≤ 20) {A : List Pair} (hA : AllOf cs A) : Ev (fun k => Qan.l0 k cs []) (A.map toR) := by
  obtain ⟨fin, f1, f2, f3⟩ := refAll_l0 hl 401 [] List.nodup_nil (fun p hp => by cases hp) (by simp)
  obtain ⟨s1, s2⟩ := selSort_spec rLess rLess_irrefl rLess_trans fin.length fin [] (Nat.le_refl _) (by
    rw [List.nil_append]
    exact f1.imp fun {a b} hab => rLess_total a b hab) List.Pairwise.nil (fun a ha => by cases ha)
  have e : selSort rLess fin.length fin [] = A.map toR := by
    refine sorted_eq (R := fun a b => rLess a b = true) (fun x h => by rw [rLess_irrefl] at h; cases h) rLess_trans s1 ?_ (fun x => ?_)
    · rw [List.pairwise_map]
      exact hA.sorted
    · rw [s2, List.mem_map]
      simp only [List.not_mem_nil, false_or]; rw [f2]; unfold SaidR; constructor
      · intro h
        exact ⟨_, (hA.mem _).mpr h, rfl⟩
      · rintro ⟨p, hp, rfl⟩
        exact (hA.mem p).mp hp
  rw [← e]; exact f3
theorem refAll_is (l : List Cred) (hl : l.length ≤ 20) {A : List Pair} (hA : AllOf (counts l) A) : Ev (fun k => Qan.f k l) (A.map toR) := by
  unfold Qan.f; have := counts_length l; exact Ev.bind (refCounts_is l (by omega)) (refAll_ev (by omega) hA)
theorem rdPair (l : List Pair) (i : Nat) : rd_T51 l (i : Int) = l[i]! := by
  unfold rd_T51; rw [Int.toNat_natCast, List.getElem!_eq_getElem?_getD, List.getD_eq_getElem?_getD]; rfl
theorem pair_beq (p : Pair) (a b c : ByteArray) : ((a.toList == p.f0.f0.toList && (b.toList == p.f0.f1.toList)) && (c.toList == p.f1.toList)) = decide (p = ⟨⟨a, b⟩, c⟩) := by
  rw [beq_dec, beq_dec, beq_dec, Bool.eq_iff_iff, Bool.and_eq_true, Bool.and_eq_true, decide_eq_true_eq, decide_eq_true_eq, decide_eq_true_eq, decide_eq_true_eq]; exact ⟨fun h => pair_ext (role_ext h.1.1.symm h.1.2.symm) h.2.symm, fun h => by rw [h]; exact ⟨⟨rfl, rfl⟩, rfl⟩⟩
theorem index_l0 (A : List Pair) (hA : A.length < 1000000) (a b c : ByteArray) : ∀ (n i : Nat), n + i = A.length → ∃ v : Int, Ev (fun k => solve_Pair_32.l0 k A (A.length : Int) (i : Int) a b c) v ∧ (v ≥ 0 ↔ (⟨⟨a, b⟩, c⟩ : Pair) ∈ A.drop i)
  | 0, i, hn => by
    rw [show A.drop i = [] from List.drop_eq_nil_of_le (by omega)]; refine ⟨-1, Ev.step (fun k => ?_) (Ev.pure _), by simp⟩; rw [solve_Pair_32.l0, if_neg (by omega)]
  | n + 1, i, hn => by
    rw [drop_bang (by omega : i < A.length)]
    by_cases e : A[i]! = ⟨⟨a, b⟩, c⟩
    · refine ⟨(i : Int), Ev.step (fun k => ?_) (Ev.pure _), ⟨fun _ => by rw [e]; exact List.mem_cons_self .., fun _ => by omega⟩⟩
      rw [solve_Pair_32.l0, if_pos (by omega), if_pos (by omega), if_pos (by omega), rdPair, pair_beq, decide_eq_true e, if_pos rfl]
    · obtain ⟨v, h1, h2⟩ := index_l0 A hA a b c n (i + 1) (by omega)
      refine ⟨v, Ev.step (fun k => ?_) h1, h2.trans ⟨fun h => List.mem_cons_of_mem _ h, fun h => (List.mem_cons.mp h).resolve_left (fun h => e h.symm)⟩⟩; rw [solve_Pair_32.l0, if_pos (by omega), if_pos (by omega), if_pos (by omega), wrap_succ (by omega), rdPair, pair_beq, decide_eq_false e, if_neg (by decide)]
theorem has_ev {l : List Cred} {A : List Pair} (h : solve_All.f l = some A) (hA : A.length < 1000000) (who : ByteArray) (r : Role) : Ev (fun k => solve_Has.f k l who r.f0 r.f1) (decide ((⟨r, who⟩ : Pair) ∈ A)) := by
  unfold solve_Has.f solve_Pair_17.f; rw [h]; obtain ⟨v, h1, h2⟩ := index_l0 A hA r.f0 r.f1 who A.length 0 (by omega); rw [List.drop_zero] at h2; refine Ev.bind (a := decide ((⟨r, who⟩ : Pair) ∈ A)) (Ev.bind h1 ?_) (Ev.pure _)
  have e : decide (v ≥ 0) = decide ((⟨r, who⟩ : Pair) ∈ A) := by
    rw [Bool.eq_iff_iff, decide_eq_true_eq, decide_eq_true_eq]; exact h2
  rw [e]; exact Ev.pure _
theorem toR_mem {A : List Pair} {p : Pair} : (⟨p.f0, p.f1⟩ : RPair) ∈ A.map toR ↔ p ∈ A := by
  rw [List.mem_map]; constructor
  · rintro ⟨q, hq, e⟩
    have h0 : q.f0 = p.f0 := congrArg (·.f0) e; have h1 : q.f1 = p.f1 := congrArg (·.f1) e; rw [← pair_ext h0 h1]; exact hq
  · exact fun h => ⟨p, h, rfl⟩
theorem refHas_ev {l : List Cred} (hl : l.length ≤ 20) {A : List Pair} (hA : AllOf (counts l) A) (who : ByteArray) (r : Role) : Ev (fun k => liveryref06_Has.f k l who r.f0 r.f1) (decide ((⟨r, who⟩ : Pair) ∈ A)) := by
  have hc := counts_length l; have hlen := hA.length (by omega); unfold liveryref06_Has.f; refine Ev.bind (refAll_is l hl hA) (Ev.bind (in_ev (A.map toR) (by rw [List.length_map]; omega) r.f0 r.f1 who) ?_)
  have e : decide ((⟨⟨r.f0, r.f1⟩, who⟩ : RPair) ∈ A.map toR) = decide ((⟨r, who⟩ : Pair) ∈ A) := by
    rw [Bool.eq_iff_iff, decide_eq_true_eq, decide_eq_true_eq]; exact toR_mem (p := ⟨r, who⟩)
  rw [e]; exact Ev.pure _
theorem chkPart_parts {F : Proof → Bool} {q : Proof} {role : Role} {who : ByteArray} (h : chkPart F q role who = true) : q.f0 = role ∧ q.f1 = who ∧ F q = true := by
  unfold chkPart at h; rw [Bool.and_eq_true, Bool.and_eq_true, decide_eq_true_eq, decide_eq_true_eq] at h; exact h
theorem chk_said {cs : List Cred} (hk : ∀ c ∈ cs, c.f2 = 1 ∨ c.f2 = 2 ∨ c.f2 = 3 ∨ c.f2 = 4) : ∀ (n : Nat) (p : Proof), chk cs n p = true → Said cs ⟨p.f0, p.f1⟩
  | 0, p, h => by rw [chk] at h; cases h
  | n + 1, p, h => by
    obtain ⟨c, hf, hr, hb⟩ := chk_some h; have hc := List.mem_of_find?_eq_some hf; have hkc := hk c hc
    have part : ∀ {q : Proof} {role : Role} {who : ByteArray}, chkPart (chk cs n) q role who = true → Said cs ⟨role, who⟩ := fun {q role who} h => by
      obtain ⟨rfl, rfl, hq⟩ := chkPart_parts h; exact chk_said hk n q hq
    rw [← hr]; unfold chkBy at hb
    by_cases k1 : c.f2 = 1
    · rw [if_pos k1, Bool.and_eq_true, decide_eq_true_eq] at hb
      rw [← hb.1]; exact .member hc k1
    · rw [if_neg k1] at hb
      by_cases k3 : c.f2 = 3
      · rw [if_pos k3, Bool.and_eq_true, Bool.and_eq_true, Bool.and_eq_true, decide_eq_true_eq] at hb
        obtain ⟨_, hn, ha, hb⟩ := hb; have hn := of_decide_eq_true hn; have := numName_nonneg (pt p 0).f1; exact .link hc k3 (part ha) (by omega) (part hb)
      · rw [if_neg k3] at hb
        by_cases k4 : c.f2 = 4
        · rw [if_pos k4, Bool.and_eq_true, Bool.and_eq_true] at hb
          exact .both hc k4 (part hb.2.1) (part hb.2.2)
        · rw [if_neg k4, Bool.and_eq_true] at hb
          exact .incl hc (by omega) (part hb.2)
theorem proofSound_true (l : List Cred) (p : Proof) (hok : ∀ c ∈ l, okCred c) (hp : okTree p) : Ev (fun k => QaH.f k l p.f0.f0 p.f0.f1 p.f1 p.f2.f0 p.f2.f1 p.f3) true := by
  have hlen := take_len l
  have no : Ev (fun k => QaH.j0 k (l.take 14) true p.f0.f0 p.f0.f1 p.f1 p.f2.f0 p.f2.f1 p.f3) true := by
    refine Ev.step (fun k => ?_) livesB; rw [QaH.j0, if_pos rfl]
  unfold QaH.f; rw [few_is]; refine Ev.bind (Ev.pure _) (Ev.bind (small_ev p) ?_)
  by_cases h : cnt p ≤ 60
  · have hd := dep_lt p
    have g := progCheck_is (l.take 14) p (by omega) (take_ok hok) (by omega) hp; simp only [decide_eq_true h, if_true, g, Option.bind_some]
    by_cases hk : chk (counts (l.take 14)) 200 p = true
    · rw [hk]
      obtain ⟨A, h1, hA⟩ := all_is (l.take 14) (by omega) (take_ok hok); have hc := counts_length (l.take 14); have hAl := hA.length (by omega); have hm : (⟨p.f0, p.f1⟩ : Pair) ∈ A := (hA.mem _).mpr (chk_said counts_kind 200 p hk); have e1 := has_ev h1 (by omega) p.f1 p.f0; have e2 := refHas_ev (by omega) hA p.f1 p.f0; rw [decide_eq_true hm] at e1 e2; refine Ev.step (g := fun k => (solve_Has.f k (l.take 14) p.f1 p.f0.f0 p.f0.f1).bind fun t108 => (if t108 = true then ((liveryref06_Has.f k (l.take 14) p.f1 p.f0.f0 p.f0.f1).bind fun t109 => (if t109 = true then ((liverylaw07_lives.f k).bind fun t110 => (some t110)) else (some false))) else (some false))) (fun k => ?_) ?_
      · rw [QaH.j0, if_neg (by decide)]
      · refine Ev.bind e1 ?_
        simp only [if_true]; refine Ev.bind e2 ?_; simp only [if_true]; exact livesB
    · rw [Bool.not_eq_true] at hk
      rw [hk]; exact no
  · simp only [decide_eq_false h, Bool.false_eq_true, if_false]
    exact no
end Go.Proofs.YtmaipohgahdclaaGreatDoor.Pr
end
