/- The proof's own texts, joined: part 5. No conditions. -/
import Derived.Below
import Derived.Deep.Draws
import Derived.Deep.AppendLies
import Derived.Maps.AppendAt
import Derived.OwnWalk
import Derived.Laws.BytesArg
import Derived.Laws.MakeOwn
import Derived.Laws.OwnMore
import Derived.Deep.OwnRows
import Derived.Tactics
import Derived.Lib.ConvBytes
import Derived.Laws.Slices
import Derived.WalkKit
import Derived.KernelRfl
import Derived.RowKit3
import Derived.Deep.LoopGhost
import Derived.Deep.QuietTactic
import Derived.BigQuiet
import Derived.WideLaws
import Derived.Deep.DeepCutAuto
import Derived.Deep.CutBlock
import Derived.Deep.RegionHeld3
import Derived.Laws.Rows
import Derived.Lib.AppendStr
import Derived.ArgAppend
import Derived.Laws.IdiomCopy
import Derived.RowKit
import Derived.Test.YtpjddgmdgfjlfaaDoorProg
import Derived.OrdersHeld
import Derived.Laws.BitsLemmas
import Derived.WalkSpells
import Derived.Sort.Grow
import Derived.Maps.OwnSet
import Derived.Maps.RangeRun
import Derived.Maps.Range
import Derived.Carry
import Derived.Sort.Walk0
import Derived.Laws.Strings
import Derived.Lib.SlicesS
import Derived.Laws.StructEq
import Derived.DeepKeys4
import Derived.WalkLawsBesides
import Derived.Lib.Hide
import Derived.Deep.RegionWith
import Derived.RegionTactic
import Derived.ChangeAlike
import Derived.Deep.RegionLaw
import Derived.Lib.SmallJoins
import Derived.Shelf.SlSortCmp.NoneTotal
import Derived.Shelf.SlicesG.Cmp
import Derived.Ground.SlgcProg
import Derived.Shelf.SlSortCmp.WholeK
import Derived.Shelf.SlicesE.Clone
import Derived.Ground.SlsfProg
import Derived.Ground.SlgnProg
import Derived.StillTailTactics
import Derived.Outline
import Derived.Shelf.GgSortFunc.InsertionK
import Derived.Laws.RangeAny
import Derived.Laws.Closers25
import Derived.Test.YtpjddgmdgfjlfaaDoorPm0
import Derived.Test.YtpjddgmdgfjlfaaDoorPm1
import Derived.Test.YtpjddgmdgfjlfaaDoorPm2
import Derived.Test.YtpjddgmdgfjlfaaDoorPm3
import Derived.Test.YtpjddgmdgfjlfaaDoorPm4
section
namespace Go.Proofs.YtpjddgmdgfjlfaaDoor.Pr
open Go.RowKit Go.Proofs.YtpjddgmdgfjlfaaDoorW.PrintWords Go.Proofs.YtpjddgmdgfjlfaaDoorW.PrintLast Go.Proofs.YtpjddgmdgfjlfaaDoorW.PrintMore
attribute [local go_sem] QaF QaD max_two min_two QaB QaA QaE QaC
set_option linter.unusedVariables false
set_option linter.unusedSimpArgs false
def Qas.f (l0 : List (S46)) : Option (List (S47)) := (Qaz.f 200 l0).bind fun cs => if cs.length ≤ 1000000 then (runF 2000 cs).bind fun s => (if s.known.length ≤ 1000000 then some (sortPairs s.known) else none) else none
theorem solver_made {w w3 : World} {v : Value} {cs : List Cred} (hR : Kd.R kCred 46 w3 w.heap.size (fun _ => True) v cs) (hB : Below w.heap.size w w3) :
    SolverAt ((w3.alloc (.map #[] 0)).alloc (.cells #[v, .map (some w3.heap.size), .slice none 0 0] 51)) w.heap.size (fun _ => True) (w3.heap.size + 1) w3.heap.size v cs [] [] := by
  have h1 := Qac (Below.refl w3.heap.size w3) (.map #[] 0); have h2 := Qac h1 (.cells #[v, .map (some w3.heap.size), .slice none 0 0] 51); refine ⟨.slice none 0 0, ?_, ⟨by have := hB.size; omega, trivial⟩, ⟨hB.size, trivial⟩, Kd.Qay hR h2, ?_, Kd.Q_nil _ _ _ _ _⟩
  · have := blk_new (w3.alloc (.map #[] 0)) (.cells #[v, .map (some w3.heap.size), .slice none 0 0] 51)
    simpa using this
  · exact (Tbl.made encPair okPair w3).below (Qac (Below.refl _ _) _)
set_option maxRecDepth 100000 in
set_option maxHeartbeats 4000000 in
theorem Qas.calls (A0 : Option Addr) (c0 : Nat) (l0 : List (S46)) (r : List (S47)) (w : World) (hr0 : Kd.C k46 w A0 l0.length l0) (hc0 : l0.length ≤ c0) (h : Qas.f l0 = some r) :
    Calls Tryd.prog 12 #[.slice A0 l0.length c0] w fun e w' => ∃ v0_ : Value, e = .returned (v0_) ∧ Kd.R k47 47 w' w.heap.size (fun _ => True) v0_ r ∧ Below w.heap.size w w' := by
  unfold Qas.f at h; obtain ⟨cs, hcs, h⟩ := Option.bind_eq_some_iff.mp h
  by_cases hl : cs.length ≤ 1000000
  · rw [if_pos hl] at h
    obtain ⟨s, hs, h⟩ := Option.bind_eq_some_iff.mp h
    by_cases hk : s.known.length ≤ 1000000
    · rw [if_pos hk] at h
      obtain rfl := Option.some.inj h; have hct := Qaz.calls 200 A0 c0 l0 cs w hr0 hc0 hcs; have HC := Lib.hid hl; have HS := Lib.hid hs; have HK := Lib.hid hk
      have hmk := fun W => run_makeMap (P := Tryd.prog) 49 W
      clear hr0 hc0 h hl hs hk hcs; go_enter Tryd.func12, Tryd.ntmps12
      go_wp2_with (first | (go_at_call 21; refine hct.mono ?_; rintro e w3 ⟨v3, rfl, hR3, hB3⟩; obtain ⟨A3, c3, rfl⟩ := Kd.R_slice hR3) | (go_at_call 22; refine (run_calls _ w.heap.size (w3.heap.size + 1) w3.heap.size (fun _ => True) _ cs 2000 s (solver_made hR3 hB3) HC.out HS.out).mono ?_; rintro e w5 ⟨rfl, hS5, hB5⟩) | (go_at_call 23; refine (pairs_calls w5 w.heap.size (w3.heap.size + 1) w3.heap.size _ _ cs s hS5 HK.out).mono ?_; rintro e w6 ⟨v6, rfl, hR6, hB6⟩))
      go_ret; have hT := (hB3.trans ((Qac (Qac (Below.refl w3.heap.size w3) _) _).mono hB3.size)).trans hB5; exact ⟨v6, rfl, Kd.R_lower hR6 hT.size, hT.trans (hB6.mono hT.size)⟩
    · rw [if_neg hk] at h
      cases h
  · rw [if_neg hl] at h
    cases h
end Go.Proofs.YtpjddgmdgfjlfaaDoor.Pr
end
section
namespace Go.Proofs.YtpjddgmdgfjlfaaDoor.Pr
open Go.RowKit Go.Proofs.YtpjddgmdgfjlfaaDoorW.PrintWords Go.Proofs.YtpjddgmdgfjlfaaDoorW.PrintLast Go.Proofs.YtpjddgmdgfjlfaaDoorW.PrintMore
attribute [local go_sem] QaF QaD max_two min_two QaB QaA QaE QaC
set_option linter.unusedVariables false
set_option linter.unusedSimpArgs false
attribute [local go_sem high] eqA33
def solve_Members.l0 : Nat → List ByteArray → List (S47) → Int → Int → ByteArray → ByteArray → Option (List ByteArray)
 | 0, _, _, _, _, _, _ => none
 | k + 1, x5, x9, x10, x11, x102000, x102001 => if x11 < x10 then (if 0 ≤ x11 then (if x11 < (x9.length : Int) then (if ((((rd_T47 x9 x11).f0.f0).toList) == x102000.toList && ((((rd_T47 x9 x11).f0.f1).toList) == x102001.toList)) = true then (if x5.length < 8796093022208 then (solve_Members.l0 k (x5 ++ [(rd_T47 x9 x11).f1]) x9 x10 (wrap64 (x11 + 1)) x102000 x102001) else (none)) else (solve_Members.l0 k x5 x9 x10 (wrap64 (x11 + 1)) x102000 x102001)) else (none)) else (none)) else (some x5)
def solve_Members.f (k : Nat) (l0 : List (S46)) (a1_0 : ByteArray) (a1_1 : ByteArray) : Option (List ByteArray) := (Qas.f l0).bind fun t102 => (solve_Members.l0 k ([] : List ByteArray) t102 (t102.length : Int) 0 a1_0 a1_1)
set_option maxHeartbeats 8000000 in
set_option maxRecDepth 100000 in
theorem solve_Members.calls (k : Nat) (A0 : Option Addr) (c0 : Nat) (l0 : List (S46)) (a1_0 : ByteArray) (a1_1 : ByteArray) (r : List ByteArray) (w : World) (hr0 : Kd.C k46 w A0 l0.length l0) (hc0 : l0.length ≤ c0) (h : solve_Members.f k l0 a1_0 a1_1 = some r) :
  Calls Tryd.prog 16 #[.slice A0 l0.length c0, .agg #[.string a1_0, .string a1_1]] w fun e w' => ∃ v0_ : Value, e = .returned (v0_) ∧ Kd.R Kd.string 9 w' w.heap.size (fun _ => True) v0_ r ∧ Below w.heap.size w w' := by
 have hu33 := Tryd.underlying33; have hu47 := Tryd.underlying47; have HR0 := Qae.mk hr0; have HC0 := Qae.mk hc0; clear hr0 hc0; have HB := Qae.mk (Below.refl w.heap.size w); have H : ((Qas.f l0).bind fun t102 => (solve_Members.l0 k ([] : List ByteArray) t102 (t102.length : Int) 0 a1_0 a1_1)) = some r := h; clear h; replace H := Option.bind_eq_some_iff.mp H; obtain ⟨t102, A30, H⟩ := H; replace H : (solve_Members.l0 k ([] : List ByteArray) t102 (t102.length : Int) 0 a1_0 a1_1) = some r := H; have A3 := Qae.mk A30; clear A30; have H' := Qae.mk H; clear H; go_enter Tryd.func16, Tryd.ntmps16
 go_wp2_with (first | ((with_reducible refine gate_dst (N := 3) rfl ?_); refine box_event ?hg (N := 3) ?hd (cs := #[.string a1_0, .string a1_1]) (t := 33) ?hr ?_; (case hd => rfl); (case hg => rfl); (case hr => first | (go_simp; done) | (go_simp; rfl)); intro gb101 hg w4 hbox hb; have n0_ := Qae.mk (Qal (by repeat (first | (with_reducible first | exact HB.out | apply Qac | apply Qaa | apply Qad) | exact HB.out)) hb); have n1_ := Qae.mk (hbox); have n2_ := Qae.mk ((by rw [hg]; exact (Qaq (by repeat (first | (with_reducible first | exact HB.out | apply Qac | apply Qaa | apply Qad) | exact HB.out))) : w.heap.size ≤ gb101)); have n3_ := n2_; clear HB; have HB := n0_; have BK101 := n1_; have GW101 := n2_; have GE101 := n3_; clear n0_ n1_ n2_ n3_; clear hb hbox hg) | ((with_reducible refine Qav (f := 12) rfl ?_); refine goesL_ (some 9) rfl rfl Tryd.func12 (by kernel_rfl) rfl #[.slice A0 l0.length c0] rfl (by (try simp only [List.map_toArray, List.map_cons, List.map_nil]); first | done | rfl | (simp only [List.length_drop, List.length_take]; rfl)) ?_; (with_reducible refine (Qas.calls _ _ l0 t102 _ ?side1 ?side2 A3.out).mono ?_); (case side1 => repeat (first | exact (Kd.C_below HR0.out HB.out) | (with_reducible refine Kd.C_alloc ?_ _) | (with_reducible refine Kd.C_drewN ?_ _) | (with_reducible refine Kd.C_drew ?_))); (case side2 => exact HC0.out); rintro e w5 ⟨v103, rfl, ho0, hb⟩; refine ⟨_, rfl, ?_⟩; have n0_ := Qae.mk (Kd.R_lower ho0 (Qaq (by repeat (first | (with_reducible first | exact HB.out | apply Qac | apply Qaa | apply Qad | refine Qak ?_ GE101.out) | exact HB.out)))); have n1_ := Qae.mk (Qax (g := gb101) (o := ob_ss a1_0 a1_1 33) (by (with_reducible repeat (first | refine Qaf ?_ _ | refine Qaj ?_ | refine Qag ?_ _)); exact BK101.out) hb); have n2_ := Qae.mk (Qal (by repeat (first | (with_reducible first | exact HB.out | apply Qac | apply Qaa | apply Qad | refine Qak ?_ GE101.out) | exact HB.out)) hb); clear BK101; clear HB; have HO104 := n0_; have BK101 := n1_; have HB := n2_; clear n0_ n1_ n2_; (try clear hb); (try clear hb2); (try clear hk); (try clear hi); (try clear ho0); obtain ⟨Ao6, co6, eo6⟩ := Kd.R_slice HO104.out; subst eo6))
 go_loopg [5, 11] k (fun kq v5 v11 w' => ∃ (x5_1 : List ByteArray) (x11_1 : Int), v11 = .int .i64 x11_1 ∧ Qae (solve_Members.l0 kq x5_1 t102 (t102.length : Int) x11_1 a1_0 a1_1 = some r) ∧ Qae (kq ≤ k) ∧ Qae (Kd.R Kd.string 9 w' w.heap.size (fun _ => True) v5 x5_1) ∧ Qae (Kd.R k47 47 w' w.heap.size (fun _ => True) (.slice Ao6 t102.length co6) t102) ∧ Qae (w'.heap[gb101]? = some (.cells #[.string a1_0, .string a1_1] 33 (0, 0))) ∧ Qae (Below w.heap.size w w'))
 case atStart => exact ⟨(([] : List ByteArray)), (0), (by first | rfl | (simp; done) | (simp [*]; done)), H', ⟨Nat.le_refl _⟩, ⟨by first | exact Kd.R_nil _ _ _ _ _ | exact Kd.N_nil _ _ _ _ _ | exact Kd.V_nil _ _ _ _ _ | exact Kd.Q_nil _ _ _ _ _ | exact Kd.S_nil _ _ _ _ _⟩, ⟨by (with_reducible repeat (first | apply Kd.Qan | apply Kd.Qao | apply Kd.Qar)); exact HO104.out⟩, ⟨by (with_reducible repeat (first | refine Qaf ?_ _ | refine Qaj ?_ | refine Qag ?_ _)); exact BK101.out⟩, ⟨by repeat (first | (with_reducible first | exact HB.out | apply Qac | apply Qaa | apply Qad | refine Qak ?_ GE101.out) | exact HB.out)⟩⟩
 case round =>
  clear H'; (try clear c1); (try clear p2); obtain ⟨x5_1, x11_1, rfl, HA, HK1, HO_5, HO_9, BK101, HB⟩ := hrel
  cases gk with
  | zero => exact absurd HA.out (by simp [solve_Members.l0])
  | succ k1 =>
   have H := HA.out; clear HA; simp only [solve_Members.l0] at H
   by_cases c7 : x11_1 < (t102.length : Int)
   ·rw [if_pos c7] at H; have c7b0 : decide (x11_1 < (t102.length : Int)) = true := decide_eq_true c7; clear c7
    by_cases c8 : 0 ≤ x11_1
    ·rw [if_pos c8] at H; have c8b0 : decide (0 ≤ x11_1) = true := decide_eq_true c8; clear c8
     by_cases c9 : x11_1 < (t102.length : Int)
     ·rw [if_pos c9] at H; have c9b0 : decide (x11_1 < (t102.length : Int)) = true := decide_eq_true c9; clear c9
      by_cases c10 : ((((rd_T47 t102 x11_1).f0.f0).toList) == a1_0.toList && ((((rd_T47 t102 x11_1).f0.f1).toList) == a1_1.toList)) = true
      ·rw [if_pos c10] at H; have c10b0 : ((((rd_T47 t102 x11_1).f0.f0).toList) == a1_0.toList && ((((rd_T47 t102 x11_1).f0.f1).toList) == a1_1.toList)) = true := c10
       (try (have c10b1 : decide ((((rd_T47 t102 x11_1).f0.f0).toList) = a1_0.toList && ((((rd_T47 t102 x11_1).f0.f1).toList) == a1_1.toList)) = true := by simpa using c10))
       (try (have c10b2 : ((((rd_T47 t102 x11_1).f0.f0).toList) == a1_0.toList && ((((rd_T47 t102 x11_1).f0.f1).toList) == a1_1.toList)) = true := by simpa using c10))
       clear c10
       by_cases c11 : x5_1.length < 8796093022208
       ·rw [if_pos c11] at H; have LMc11 := Qae.mk c11; clear c11
        obtain ⟨y107, hy107⟩ : ∃ y_ : List ByteArray, y_ = (x5_1 ++ [(rd_T47 t102 x11_1).f1]) := ⟨_, rfl⟩
        replace H : (solve_Members.l0 k1 y107 t102 (t102.length : Int) (wrap64 (x11_1 + 1)) a1_0 a1_1) = some r := by first | (rw [hy107]; with_reducible exact H) | (have H2_ := (Option.bind_some _ _).symm.trans H; rw [hy107]; with_reducible exact H2_) | (have H2_ := (Option.bind_some _ _).symm.trans H; with_reducible exact H2_) | with_reducible exact H | (rw [hy107]; exact H) | exact H
        have Ny107 := Qae.mk hy107; clear hy107; have H' := Qae.mk H; clear H; have p105 : 0 ≤ (x11_1 : Int) := of_decide_eq_true (by first | (with_reducible assumption) | assumption); have q105 : x11_1 < (t102.length : Int) := of_decide_eq_true (by first | (with_reducible assumption) | assumption); obtain ⟨ad105, e105, hx105_0, hx105_1, hx105_2⟩ := at_T47 (Kd.Qaw HO_9.out).2.2 x11_1 p105 q105; cases e105; replace p105 := eq_true p105; replace q105 := eq_true q105
        go_wp2_with (first | ((with_reducible refine gate_dst (N := 7) rfl ?_); refine box_event ?hg (N := 7) ?hd (cs := #[.string (⟨#[]⟩ : ByteArray), .string (⟨#[]⟩ : ByteArray), .string (⟨#[]⟩ : ByteArray)]) (t := 47) ?hr ?_; (case hd => rfl); (case hg => rfl); (case hr => first | (go_simp; done) | (go_simp; rfl)); intro gb106 hg w12 hbox hb; have n0_ := Qae.mk (Kd.Qay (by (with_reducible repeat (first | apply Kd.Qan | apply Kd.Qao | apply Kd.Qar)); exact HO_5.out) hb); have n1_ := Qae.mk (Kd.Qay (Kd.R_elderB (by (with_reducible repeat (first | apply Kd.Qan | apply Kd.Qao | apply Kd.Qar)); exact HO_9.out) gb106 (Nat.le_of_eq hg.symm)) hb); have n2_ := Qae.mk (Qax (g := gb101) (o := ob_ss a1_0 a1_1 33) (by (with_reducible repeat (first | refine Qaf ?_ _ | refine Qaj ?_ | refine Qag ?_ _)); exact BK101.out) hb); have n3_ := Qae.mk (Qal (by repeat (first | (with_reducible first | exact HB.out | apply Qac | apply Qaa | apply Qad | refine Qak ?_ GE101.out) | exact HB.out)) hb); have n4_ := Qae.mk (hbox); have n5_ := Qae.mk ((by rw [hg]; exact (Qaq (by repeat (first | (with_reducible first | exact HB.out | apply Qac | apply Qaa | apply Qad | refine Qak ?_ GE101.out) | exact HB.out))) : w.heap.size ≤ gb106)); have n6_ := n5_; have n7_ := Qae.mk ((by rw [hg]; exact Nat.ne_of_lt (blk_lt (g := gb101) (o := ob_ss a1_0 a1_1 33) (by (with_reducible repeat (first | refine Qaf ?_ _ | refine Qaj ?_ | refine Qag ?_ _)); exact BK101.out)) : gb101 ≠ gb106)); have n8_ := Qae.mk ((by rw [hg]; exact Nat.ne_of_gt (blk_lt (g := gb101) (o := ob_ss a1_0 a1_1 33) (by (with_reducible repeat (first | refine Qaf ?_ _ | refine Qaj ?_ | refine Qag ?_ _)); exact BK101.out)) : gb106 ≠ gb101)); clear HO_5; clear HO_9; clear BK101; clear HB; have HO_5 := n0_; have HO_9 := n1_; have BK101 := n2_; have HB := n3_; have BK106 := n4_; have GW106 := n5_; have GE106 := n6_; have NB101_106 := n7_; have NB106_101 := n8_; clear n0_ n1_ n2_ n3_ n4_ n5_ n6_ n7_ n8_; clear hb hbox hg; have hnb13 := NB106_101.out; have hnc13 := NB101_106.out; obtain ⟨hcz14_0, hcz14_1, hcz14_2⟩ := cz_sss BK106.out; obtain ⟨hfz14_0, hfz14_1, hfz14_2⟩ := fz_3 BK106.out; obtain ⟨hcz15_0, hcz15_1⟩ := cz_ss BK101.out; obtain ⟨hfz15_0, hfz15_1⟩ := fz_2 BK101.out) | ((with_reducible refine gate_builtin (b := .append) (xs := #[.tmp 19, .tmp 22]) rfl ?_); at_builtin; refine Kd.R_append Kd.string (w0 := w) w.heap.size rfl (.tmp 19) (.tmp 22) 37 9 (.string ⟨#[]⟩) 16 rfl Tryd.underlying37 info9 rfl (by decide) (by omega) u5 x5_1 ((rd_T47 t102 x11_1).f1) [.string ((rd_T47 t102 x11_1).f1)] (fun _ => True) (fun _ => False) rfl (by first | (go_simp; done) | (go_simp; rfl)) ?aP (fun _ hk => hk.elim) ?aF ?aO ?aB ?aS ?aL ?_; (case aP => exact rfl); (case aB => exact (by repeat (first | (with_reducible first | exact HB.out | apply Qac | apply Qaa | apply Qad | refine Qak ?_ GE101.out | refine Qak ?_ GE106.out) | exact HB.out))); (case aF => exact (fun _ _ => trivial)); (case aO => exact (by (with_reducible repeat (first | apply Kd.Qan | apply Kd.Qao | apply Kd.Qar)); exact Kd.R_mono (Kd.R_far (p := ⟨gb106, 2, none⟩) (Kd.R_far (p := ⟨gb106, 1, none⟩) (Kd.R_far (p := ⟨gb106, 0, none⟩) (Kd.R_types HO_5.out BK106.out (by decide)) (fun _ hk => hk.2) (.string ((rd_T47 t102 x11_1).f0.f0))) (fun _ hk => hk.2) (.string ((rd_T47 t102 x11_1).f0.f1))) (fun _ hk => hk.2) (.string ((rd_T47 t102 x11_1).f1))) (fun _ hk => trivial))); (case aS => exact (Qaq (by repeat (first | (with_reducible first | exact HB.out | apply Qac | apply Qaa | apply Qad | refine Qak ?_ GE101.out | refine Qak ?_ GE106.out) | exact HB.out)))); (case aL => have := LMc11.out; omega); intro v108 w16 ho hb hg hat; rw [← Ny107.out] at ho; have n0_ := Qae.mk (Kd.R_over' (by (with_reducible repeat (first | apply Kd.Qan | apply Kd.Qao | apply Kd.Qar)); exact (Kd.R_mono (Kd.R_far (p := ⟨gb106, 2, none⟩) (Kd.R_far (p := ⟨gb106, 1, none⟩) (Kd.R_far (p := ⟨gb106, 0, none⟩) (Kd.R_mono HO_9.out (fun k_ hk => (⟨hk, hk.2⟩ : _ ∧ k_ ≠ gb106))) (fun _ hk => hk.2) (.string ((rd_T47 t102 x11_1).f0.f0))) (fun _ hk => hk.2) (.string ((rd_T47 t102 x11_1).f0.f1))) (fun _ hk => hk.2) (.string ((rd_T47 t102 x11_1).f1))) (fun _ h_ => h_.1))) (Kd.R_typed (by (with_reducible repeat (first | apply Kd.Qan | apply Kd.Qao | apply Kd.Qar)); exact (Kd.R_mono (Kd.R_far (p := ⟨gb106, 2, none⟩) (Kd.R_far (p := ⟨gb106, 1, none⟩) (Kd.R_far (p := ⟨gb106, 0, none⟩) (Kd.R_types HO_5.out BK106.out (by decide)) (fun _ hk => hk.2) (.string ((rd_T47 t102 x11_1).f0.f0))) (fun _ hk => hk.2) (.string ((rd_T47 t102 x11_1).f0.f1))) (fun _ hk => hk.2) (.string ((rd_T47 t102 x11_1).f1))) (fun _ h_ => h_.1)))) (by decide) hg); have n1_ := Qae.mk (blk_grown (g := gb101) (o := ob_ss a1_0 a1_1 33) (by (with_reducible repeat (first | refine Qaf ?_ _ | refine Qaj ?_ | refine Qag ?_ _)); refine blk_far ?_ NB101_106.out _; (with_reducible repeat (first | refine Qaf ?_ _ | refine Qaj ?_ | refine Qag ?_ _)); refine blk_far ?_ NB101_106.out _; (with_reducible repeat (first | refine Qaf ?_ _ | refine Qaj ?_ | refine Qag ?_ _)); refine blk_far ?_ NB101_106.out _; (with_reducible repeat (first | refine Qaf ?_ _ | refine Qaj ?_ | refine Qag ?_ _)); exact BK101.out) hg (Kd.R_ne HO_5.out BK101.out (by decide))); have n2_ := Qae.mk (blk_grown (g := gb106) (o := ob_sss ((rd_T47 t102 x11_1).f0.f0) ((rd_T47 t102 x11_1).f0.f1) ((rd_T47 t102 x11_1).f1) 47) (by (with_reducible repeat (first | refine Qaf ?_ _ | refine Qaj ?_ | refine Qag ?_ _)); refine blk_put (cs := #[.string ((rd_T47 t102 x11_1).f0.f0), .string ((rd_T47 t102 x11_1).f0.f1), .string (⟨#[]⟩ : ByteArray)]) ?_ 2 _ rfl; (with_reducible repeat (first | refine Qaf ?_ _ | refine Qaj ?_ | refine Qag ?_ _)); refine blk_put (cs := #[.string ((rd_T47 t102 x11_1).f0.f0), .string (⟨#[]⟩ : ByteArray), .string (⟨#[]⟩ : ByteArray)]) ?_ 1 _ rfl; (with_reducible repeat (first | refine Qaf ?_ _ | refine Qaj ?_ | refine Qag ?_ _)); refine blk_put (cs := #[.string (⟨#[]⟩ : ByteArray), .string (⟨#[]⟩ : ByteArray), .string (⟨#[]⟩ : ByteArray)]) ?_ 0 _ rfl; (with_reducible repeat (first | refine Qaf ?_ _ | refine Qaj ?_ | refine Qag ?_ _)); exact BK106.out) hg (Kd.R_ne HO_5.out BK106.out (by decide))); have n3_ := Qae.mk (hb); have n4_ := Qae.mk (ho); clear HO_9; clear BK101; clear BK106; clear HB; clear HO_5; have HO_9 := n0_; have BK101 := n1_; have BK106 := n2_; have HB := n3_; have HO109 := n4_; clear n0_ n1_ n2_ n3_ n4_; clear ho hb hg hat))
        go_roundg k1
        case measure => have := HK1.out; omega
        case rel => exact ⟨(y107), (wrap64 (x11_1 + 1)), (by first | rfl | (simp; done) | (simp [*]; done)), H', ⟨by have := HK1.out; omega⟩, ⟨by (with_reducible repeat (first | apply Kd.Qan | apply Kd.Qao | apply Kd.Qar)); exact HO109.out⟩, ⟨by (with_reducible repeat (first | apply Kd.Qan | apply Kd.Qao | apply Kd.Qar)); exact Kd.R_mono HO_9.out (fun _ hk => trivial)⟩, ⟨by (with_reducible repeat (first | refine Qaf ?_ _ | refine Qaj ?_ | refine Qag ?_ _)); exact BK101.out⟩, ⟨by repeat (first | (with_reducible first | exact HB.out | apply Qac | apply Qaa | apply Qad | refine Qak ?_ GE101.out | refine Qak ?_ GE106.out) | exact HB.out)⟩⟩
       ·rw [if_neg c11] at H; exact absurd H (by simp)
      ·rw [if_neg c10] at H
       have c10b0 : ((((rd_T47 t102 x11_1).f0.f0).toList) == a1_0.toList && ((((rd_T47 t102 x11_1).f0.f1).toList) == a1_1.toList)) = false := by simpa using c10
       (try (have c10b1 : decide ((((rd_T47 t102 x11_1).f0.f0).toList) = a1_0.toList && ((((rd_T47 t102 x11_1).f0.f1).toList) == a1_1.toList)) = false := by simpa using c10))
       (try (have c10b2 : ((((rd_T47 t102 x11_1).f0.f0).toList) == a1_0.toList && ((((rd_T47 t102 x11_1).f0.f1).toList) == a1_1.toList)) = false := by simpa using c10))
       (try (have c10b3 : ¬ ((((rd_T47 t102 x11_1).f0.f0).toList) = a1_0.toList && ((((rd_T47 t102 x11_1).f0.f1).toList) == a1_1.toList)) := by simpa using c10))
       clear c10; have H' := Qae.mk H; clear H; have p105 : 0 ≤ (x11_1 : Int) := of_decide_eq_true (by first | (with_reducible assumption) | assumption); have q105 : x11_1 < (t102.length : Int) := of_decide_eq_true (by first | (with_reducible assumption) | assumption); obtain ⟨ad105, e105, hx105_0, hx105_1, hx105_2⟩ := at_T47 (Kd.Qaw HO_9.out).2.2 x11_1 p105 q105; cases e105; replace p105 := eq_true p105; replace q105 := eq_true q105
       go_wp2_with (first | ((with_reducible refine gate_dst (N := 7) rfl ?_); refine box_event ?hg (N := 7) ?hd (cs := #[.string (⟨#[]⟩ : ByteArray), .string (⟨#[]⟩ : ByteArray), .string (⟨#[]⟩ : ByteArray)]) (t := 47) ?hr ?_; (case hd => rfl); (case hg => rfl); (case hr => first | (go_simp; done) | (go_simp; rfl)); intro gb106 hg w17 hbox hb; have n0_ := Qae.mk (Kd.Qay (by (with_reducible repeat (first | apply Kd.Qan | apply Kd.Qao | apply Kd.Qar)); exact HO_5.out) hb); have n1_ := Qae.mk (Kd.Qay (Kd.R_elderB (by (with_reducible repeat (first | apply Kd.Qan | apply Kd.Qao | apply Kd.Qar)); exact HO_9.out) gb106 (Nat.le_of_eq hg.symm)) hb); have n2_ := Qae.mk (Qax (g := gb101) (o := ob_ss a1_0 a1_1 33) (by (with_reducible repeat (first | refine Qaf ?_ _ | refine Qaj ?_ | refine Qag ?_ _)); exact BK101.out) hb); have n3_ := Qae.mk (Qal (by repeat (first | (with_reducible first | exact HB.out | apply Qac | apply Qaa | apply Qad | refine Qak ?_ GE101.out) | exact HB.out)) hb); have n4_ := Qae.mk (hbox); have n5_ := Qae.mk ((by rw [hg]; exact (Qaq (by repeat (first | (with_reducible first | exact HB.out | apply Qac | apply Qaa | apply Qad | refine Qak ?_ GE101.out) | exact HB.out))) : w.heap.size ≤ gb106)); have n6_ := n5_; have n7_ := Qae.mk ((by rw [hg]; exact Nat.ne_of_lt (blk_lt (g := gb101) (o := ob_ss a1_0 a1_1 33) (by (with_reducible repeat (first | refine Qaf ?_ _ | refine Qaj ?_ | refine Qag ?_ _)); exact BK101.out)) : gb101 ≠ gb106)); have n8_ := Qae.mk ((by rw [hg]; exact Nat.ne_of_gt (blk_lt (g := gb101) (o := ob_ss a1_0 a1_1 33) (by (with_reducible repeat (first | refine Qaf ?_ _ | refine Qaj ?_ | refine Qag ?_ _)); exact BK101.out)) : gb106 ≠ gb101)); clear HO_5; clear HO_9; clear BK101; clear HB; have HO_5 := n0_; have HO_9 := n1_; have BK101 := n2_; have HB := n3_; have BK106 := n4_; have GW106 := n5_; have GE106 := n6_; have NB101_106 := n7_; have NB106_101 := n8_; clear n0_ n1_ n2_ n3_ n4_ n5_ n6_ n7_ n8_; clear hb hbox hg; have hnb18 := NB106_101.out; have hnc18 := NB101_106.out; obtain ⟨hcz19_0, hcz19_1, hcz19_2⟩ := cz_sss BK106.out; obtain ⟨hfz19_0, hfz19_1, hfz19_2⟩ := fz_3 BK106.out; obtain ⟨hcz20_0, hcz20_1⟩ := cz_ss BK101.out; obtain ⟨hfz20_0, hfz20_1⟩ := fz_2 BK101.out))
       go_roundg k1
       case measure => have := HK1.out; omega
       case rel => exact ⟨(x5_1), (wrap64 (x11_1 + 1)), (by first | rfl | (simp; done) | (simp [*]; done)), H', ⟨by have := HK1.out; omega⟩, ⟨by (with_reducible repeat (first | apply Kd.Qan | apply Kd.Qao | apply Kd.Qar)); exact Kd.R_mono (Kd.R_far (p := ⟨gb106, 2, none⟩) (Kd.R_far (p := ⟨gb106, 1, none⟩) (Kd.R_far (p := ⟨gb106, 0, none⟩) (Kd.R_types HO_5.out BK106.out (by decide)) (fun _ hk => hk.2) (.string ((rd_T47 t102 x11_1).f0.f0))) (fun _ hk => hk.2) (.string ((rd_T47 t102 x11_1).f0.f1))) (fun _ hk => hk.2) (.string ((rd_T47 t102 x11_1).f1))) (fun _ hk => trivial)⟩, ⟨by (with_reducible repeat (first | apply Kd.Qan | apply Kd.Qao | apply Kd.Qar)); exact Kd.R_mono (Kd.R_far (p := ⟨gb106, 2, none⟩) (Kd.R_far (p := ⟨gb106, 1, none⟩) (Kd.R_far (p := ⟨gb106, 0, none⟩) (Kd.R_mono HO_9.out (fun k_ hk => (⟨hk, hk.2⟩ : _ ∧ k_ ≠ gb106))) (fun _ hk => hk.2) (.string ((rd_T47 t102 x11_1).f0.f0))) (fun _ hk => hk.2) (.string ((rd_T47 t102 x11_1).f0.f1))) (fun _ hk => hk.2) (.string ((rd_T47 t102 x11_1).f1))) (fun _ hk => trivial)⟩, ⟨by (with_reducible repeat (first | refine Qaf ?_ _ | refine Qaj ?_ | refine Qag ?_ _)); refine blk_far ?_ NB101_106.out _; (with_reducible repeat (first | refine Qaf ?_ _ | refine Qaj ?_ | refine Qag ?_ _)); refine blk_far ?_ NB101_106.out _; (with_reducible repeat (first | refine Qaf ?_ _ | refine Qaj ?_ | refine Qag ?_ _)); refine blk_far ?_ NB101_106.out _; (with_reducible repeat (first | refine Qaf ?_ _ | refine Qaj ?_ | refine Qag ?_ _)); exact BK101.out⟩, ⟨by repeat (first | (with_reducible first | exact HB.out | apply Qac | apply Qaa | apply Qad | refine Qak ?_ GE101.out | refine Qak ?_ GE106.out) | exact HB.out)⟩⟩
     ·rw [if_neg c9] at H; exact absurd H (by simp)
    ·rw [if_neg c8] at H; exact absurd H (by simp)
   ·rw [if_neg c7] at H; have c7b0 : decide (x11_1 < (t102.length : Int)) = false := decide_eq_false c7; clear c7; obtain rfl := Option.some.inj H; go_wp2; go_ret; exact ⟨_, by first | rfl | (simp [Qau, Qat] <;> rfl) | (simp [*, Qau, Qat] <;> rfl), by (with_reducible repeat (first | apply Kd.Qan | apply Kd.Qao | apply Kd.Qar)); exact HO_5.out, by repeat (first | (with_reducible first | exact HB.out | apply Qac | apply Qaa | apply Qad | refine Qak ?_ GE101.out) | exact HB.out)⟩
end Go.Proofs.YtpjddgmdgfjlfaaDoor.Pr
end
section
namespace Go.Proofs.YtpjddgmdgfjlfaaDoor.Pr
open Go.RowKit Go.Proofs.YtpjddgmdgfjlfaaDoorW.PrintWords Go.Proofs.YtpjddgmdgfjlfaaDoorW.PrintLast Go.Proofs.YtpjddgmdgfjlfaaDoorW.PrintMore
attribute [local go_sem] QaF QaD max_two min_two QaB QaA QaE QaC
set_option linter.unusedVariables false
set_option linter.unusedSimpArgs false
def solve_Has.f (k : Nat) (l0 : List (S46)) (a1 : ByteArray) (a2_0 : ByteArray) (a2_1 : ByteArray) : Option (Bool) := (Qas.f l0).bind fun t102 => ((solve_Pair_25.f k t102 a2_0 a2_1 a1).bind fun t105 => (some t105))
set_option maxHeartbeats 8000000 in
set_option maxRecDepth 100000 in
theorem solve_Has.calls (k : Nat) (A0 : Option Addr) (c0 : Nat) (l0 : List (S46)) (a1 : ByteArray) (a2_0 : ByteArray) (a2_1 : ByteArray) (r : Bool) (w : World) (hr0 : Kd.C k46 w A0 l0.length l0) (hc0 : l0.length ≤ c0) (h : solve_Has.f k l0 a1 a2_0 a2_1 = some r) :
  Calls Tryd.prog 17 #[.slice A0 l0.length c0, .string a1, .agg #[.string a2_0, .string a2_1]] w fun e w' => e = .returned (.bool r) ∧ Below w.heap.size w w' := by
 have hu33 := Tryd.underlying33; have hu47 := Tryd.underlying47; have HR0 := Qae.mk hr0; have HC0 := Qae.mk hc0; clear hr0 hc0; have HB := Qae.mk (Below.refl w.heap.size w); have H : ((Qas.f l0).bind fun t102 => ((solve_Pair_25.f k t102 a2_0 a2_1 a1).bind fun t105 => (some t105))) = some r := h; clear h; replace H := Option.bind_eq_some_iff.mp H; obtain ⟨t102, A40, H⟩ := H; replace H : ((solve_Pair_25.f k t102 a2_0 a2_1 a1).bind fun t105 => (some t105)) = some r := H; have A4 := Qae.mk A40; clear A40; replace H := Option.bind_eq_some_iff.mp H; obtain ⟨t105, A50, H⟩ := H; replace H : (some t105) = some r := H; have A5 := Qae.mk A50; clear A50; obtain rfl := Option.some.inj H; go_enter Tryd.func17, Tryd.ntmps17
 try go_wp2_with (first | ((with_reducible refine gate_dst (N := 5) rfl ?_); refine box_event ?hg (N := 5) ?hd (cs := #[.string a2_0, .string a2_1]) (t := 33) ?hr ?_; (case hd => rfl); (case hg => rfl); (case hr => first | (go_simp; done) | (go_simp; rfl)); intro gb101 hg w6 hbox hb; have n0_ := Qae.mk (Qal (by repeat (first | (with_reducible first | exact HB.out | apply Qac | apply Qaa | apply Qad) | exact HB.out)) hb); have n1_ := Qae.mk (hbox); have n2_ := Qae.mk ((by rw [hg]; exact (Qaq (by repeat (first | (with_reducible first | exact HB.out | apply Qac | apply Qaa | apply Qad) | exact HB.out))) : w.heap.size ≤ gb101)); have n3_ := n2_; clear HB; have HB := n0_; have BK101 := n1_; have GW101 := n2_; have GE101 := n3_; clear n0_ n1_ n2_ n3_; clear hb hbox hg))
 have n0_ := Qae.mk (Qaj BK101.out); have n1_ := Qae.mk (Qad HB.out); clear BK101; clear HB; have BK101 := n0_; have HB := n1_; clear n0_ n1_; refine start_ (n := 7) (S := fun w' => w'.cell? ⟨gb101, 0, none⟩ = some (.string a2_0) ∧ w'.cell? ⟨gb101, 1, none⟩ = some (.string a2_1)) (ds := []) #[ff,ff,ff,ff,ff,ff,ff] (by kernel_rfl) rfl rfl ⟨(Qam BK101.out 0).trans rfl, (Qam BK101.out 1).trans rfl⟩ (fun hHeld => ?_)
 generalize w6.drew = w7 at BK101 HB hHeld ⊢
 refine pure_ (i := 0) (N := some 7) (v := ?_) (a' := ?_) #[tt,ff,ff,ff,ff,ff,ff] rfl rfl (by kernel_rfl) (fun _ _ _ h => h) (Or.inl ⟨by rfl, ?_⟩) ?_ ?_; rotate_left
 ·intro w'; go_simp; (with_reducible rfl)
 rotate_left
 ·simp only [Act.put, put_, i64_w, i32_w]; rfl
 refine pure_ (i := 3) (N := some 10) (v := ?_) (a' := ?_) #[tt,ff,ff,tt,ff,ff,ff] rfl rfl (by kernel_rfl) (fun _ _ _ h => h) (Or.inl ⟨by rfl, ?_⟩) ?_ ?_; rotate_left
 ·intro w'; go_simp; (with_reducible rfl)
 rotate_left
 ·simp only [Act.put, put_, i64_w, i32_w]; rfl
 refine take_ (i := 2) (N := some 9) (v := ?_) (a' := ?_) #[tt,ff,tt,tt,ff,ff,ff] rfl rfl (by kernel_rfl) (fun _ _ _ h => h) (Or.inl ⟨by rfl, ?_⟩) hHeld ?_ ?_; rotate_left
 ·rintro w' ⟨s0, s1⟩; go_simp; (with_reducible rfl)
 rotate_left
 ·simp only [Act.put, put_, i64_w, i32_w]; rfl
 refine pure_ (i := 4) (N := some 11) (v := ?_) (a' := ?_) #[tt,ff,tt,tt,tt,ff,ff] rfl rfl (by kernel_rfl) (fun _ _ _ h => h) (Or.inl ⟨by rfl, ?_⟩) ?_ ?_; rotate_left
 ·intro w'; go_simp; (with_reducible rfl)
 rotate_left
 ·simp only [Act.put, put_, i64_w, i32_w]; rfl
 refine one_ (i := 1) (N := some 8) #[tt,tt,tt,tt,tt,ff,ff] rfl rfl (by kernel_rfl) (by decide) (fun K hK => ?_); refine goes_ Tryd.func12 (by kernel_rfl) rfl #[.slice A0 l0.length c0] (by rfl) rfl rfl (by (try simp only [List.map_toArray, List.map_cons, List.map_nil]); first | done | rfl | (simp only [List.length_drop, List.length_take]; rfl)) ?_
 with_reducible refine (Qas.calls _ _ l0 t102 _ ?side1 ?side2 A4.out).mono ?_
 (case side1 => repeat (first | exact (Kd.C_below HR0.out HB.out) | (with_reducible refine Kd.C_alloc ?_ _) | (with_reducible refine Kd.C_drewN ?_ _) | (with_reducible refine Kd.C_drew ?_)))
 (case side2 => exact HC0.out)
 rintro e w8 ⟨v103, rfl, ho0, hb⟩; refine ⟨_, rfl, ?_⟩; have n0_ := Qae.mk (Kd.R_lower ho0 (Qaq (by repeat (first | (with_reducible first | exact HB.out | apply Qac | apply Qaa | apply Qad | refine Qak ?_ GE101.out) | exact HB.out)))); have n1_ := Qae.mk (Qax (g := gb101) (o := ob_ss a2_0 a2_1 33) (by (with_reducible repeat (first | refine Qaf ?_ _ | refine Qaj ?_ | refine Qag ?_ _)); exact BK101.out) hb); have n2_ := Qae.mk (Qal (by repeat (first | (with_reducible first | exact HB.out | apply Qac | apply Qaa | apply Qad | refine Qak ?_ GE101.out) | exact HB.out)) hb); clear BK101; clear HB; have HO104 := n0_; have BK101 := n1_; have HB := n2_; clear n0_ n1_ n2_
 (try clear hb)
 (try clear hb2)
 (try clear hk)
 (try clear hi)
 (try clear ho0)
 obtain ⟨Ao9, co9, eo9⟩ := Kd.R_slice HO104.out
 (first | subst eo9 | (injection eo9 with f1_ f2_ f3_; have f4_ := f1_.symm; have f5_ := f3_.symm; clear f1_ f2_ f3_; subst f4_; subst f5_))
 refine hK.out _ _ ⟨(Qam BK101.out 0).trans rfl, (Qam BK101.out 1).trans rfl⟩ (fun hHeld => ?_); clear hK K; refine norm_ (a' := ?_) ?_ ?_; rotate_left
 ·show Act.put _ (some 8) _ = _
  simp only [Act.put, put_, i64_w, i32_w]; rfl
 refine one_ (i := 5) (N := some 12) #[tt,tt,tt,tt,tt,tt,ff] rfl rfl (by kernel_rfl) (by decide) (fun K hK => ?_); refine goes_ Tryd.func25 (by kernel_rfl) rfl #[.slice Ao9 t102.length co9, .agg #[.string a2_0, .string a2_1, .string a1]] (by rfl) rfl rfl (by (try simp only [List.map_toArray, List.map_cons, List.map_nil]); first | done | rfl | (simp only [List.length_drop, List.length_take]; rfl)) ?_
 with_reducible refine (solve_Pair_25.calls k _ _ t102 a2_0 a2_1 a1 t105 _ ?side1 ?side2 A5.out).mono ?_
 (case side1 => repeat (first | exact (Kd.Qaw HO104.out).2.2 | (with_reducible refine Kd.C_alloc ?_ _) | (with_reducible refine Kd.C_drewN ?_ _) | (with_reducible refine Kd.C_drew ?_)))
 (case side2 => exact (Kd.Qaw HO104.out).2.1)
 rintro e w10 ⟨rfl, hb⟩; refine ⟨_, rfl, ?_⟩; have n0_ := Qae.mk (Kd.Qay (by (with_reducible repeat (first | apply Kd.Qan | apply Kd.Qao | apply Kd.Qar)); exact HO104.out) hb); have n1_ := Qae.mk (Qax (g := gb101) (o := ob_ss a2_0 a2_1 33) (by (with_reducible repeat (first | refine Qaf ?_ _ | refine Qaj ?_ | refine Qag ?_ _)); exact BK101.out) hb); have n2_ := Qae.mk (Qal (by repeat (first | (with_reducible first | exact HB.out | apply Qac | apply Qaa | apply Qad | refine Qak ?_ GE101.out) | exact HB.out)) hb); clear HO104; clear BK101; clear HB; have HO104 := n0_; have BK101 := n1_; have HB := n2_; clear n0_ n1_ n2_
 (try clear hb)
 (try clear hb2)
 (try clear hk)
 (try clear hi)
 refine hK.out _ _ ⟨(Qam BK101.out 0).trans rfl, (Qam BK101.out 1).trans rfl⟩ (fun hHeld => ?_); clear hK K; refine norm_ (a' := ?_) ?_ ?_; rotate_left
 ·show Act.put _ (some 12) _ = _
  simp only [Act.put, put_, i64_w, i32_w]; rfl
 refine pure_ (i := 6) (N := some 6) (v := ?_) (a' := ?_) #[tt,tt,tt,tt,tt,tt,tt] rfl rfl (by kernel_rfl) (fun _ _ _ h => h) (Or.inl ⟨by rfl, ?_⟩) ?_ ?_; rotate_left
 ·intro w'; go_simp; (with_reducible rfl)
 rotate_left
 ·simp only [Act.put, put_, i64_w, i32_w]; rfl
 refine done_ (by kernel_rfl) ?_
 try go_wp2
 go_ret; exact ⟨by first | rfl | (simp [Qau, Qat] <;> rfl) | (simp [*, Qau, Qat] <;> rfl), by repeat (first | (with_reducible first | exact HB.out | apply Qac | apply Qaa | apply Qad | refine Qak ?_ GE101.out) | exact HB.out)⟩
end Go.Proofs.YtpjddgmdgfjlfaaDoor.Pr
end
