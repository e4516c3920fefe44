/- The proof's own texts, joined: part 3. No conditions. -/
import Derived.Lib.Hide
import Derived.ChangeMaps4
import Derived.Maps.OwnSet
import Derived.Deep.MidRow
import Derived.Deep.WholeRow
import Derived.WalkKit
import Derived.WalkSpells
import Derived.WalkLawsBesides
import Derived.Deep.QuietTactic
import Derived.Deep.RegionWith
import Derived.BigQuiet
import Derived.RegionTactic
import Derived.ChangeAlike
import Derived.Deep.RegionLaw
import Derived.Lib.SmallJoins
import Derived.Lib.SlicesS
import Derived.StillTailTactics
import Derived.Test.YtbjjonpkmplhbaaDoorProg
import Derived.Below
import Derived.Outline
import Derived.DeepKeys4
import Derived.KernelRfl
import Derived.Sort.LotA
import Derived.Laws.RangeAny
import Derived.Laws.Closers25
import Derived.Sort.Walk0
import Derived.Laws.Strings
import Derived.Deep.Draws
import Derived.Deep.AppendLies
import Derived.Maps.AppendAt
import Derived.OwnWalk
import Derived.Laws.BytesArg
import Derived.Laws.MakeOwn
import Derived.Laws.OwnMore
import Derived.Deep.OwnRows
import Derived.Tactics
import Derived.Lib.ConvBytes
import Derived.Laws.Slices
import Derived.RowKit3
import Derived.Deep.LoopGhost
import Derived.WideLaws
import Derived.Deep.DeepCutAuto
import Derived.Deep.CutBlock
import Derived.Deep.RegionHeld3
import Derived.Laws.Rows
import Derived.Lib.AppendStr
import Derived.ArgAppend
import Derived.Laws.IdiomCopy
import Derived.OrdersHeld
import Derived.Laws.BitsLemmas
import Derived.RowKit
import Derived.Shelf.SlSortCmp.NoneTotal
import Derived.Shelf.SlicesE.Clone
import Derived.Sort.Grow
import Derived.Shelf.SlicesG.Cmp
import Derived.Shelf.GgSortFunc.InsertionK
import Derived.Shelf.SlSortCmp.WholeK
import Derived.Ground.SlsfProg
import Derived.Ground.SlgnProg
import Derived.Ground.SlgcProg
import Derived.Maps.RangeRun
import Derived.Maps.Range
import Derived.Carry
import Derived.Laws.StructEq
import Derived.Great.CaseRows
import Derived.ProofKit
import Derived.ChangeSlices
import Derived.DataElems
import Derived.Test.YtbjjonpkmplhbaaDoorPRefused0
import Derived.Test.YtbjjonpkmplhbaaDoorPRefused1
import Derived.Test.YtbjjonpkmplhbaaDoorPRefused2
section
namespace Go.Proofs.YtbjjonpkmplhbaaDoor.Pr
open Go.RowKit Go.Proofs.YtbjjonpkmplhbaaDoorW.PrintWords Go.Proofs.YtbjjonpkmplhbaaDoorW.PrintLast Go.Proofs.YtbjjonpkmplhbaaDoorW.PrintMore
set_option linter.unusedVariables false
set_option linter.unusedSimpArgs false
section
open Go.ChangeMaps (setBlock)
abbrev Rep := S44
def nothingB (r : Rep) : Bool := decide (r.f1 = 0) && (decide (r.f2.f0 = 0) && (decide (r.f2.f1 = 0) && (decide (r.f2.f2 = 0) && (decide (r.f2.f3.toList = []) && (decide (r.f2.f5 = 0) && (wrap64 (wrap64 (wrap64 ((r.f2.f4.length : Int) + (r.f2.f6.length : Int)) + (r.f2.f7.length : Int)) + (r.f2.f8.length : Int)) == 0))))))
set_option maxRecDepth 100000 in
set_option maxHeartbeats 4000000 in
theorem nothing_calls (w : World) (r : Rep) (A4 : Option Addr) (c4 : Nat) (A6 : Option Addr) (c6 : Nat) (A7 : Option Addr) (c7 : Nat) (A8 : Option Addr) (c8 : Nat) :
    Calls Tryd.prog 16 #[.agg #[.int .i64 r.f0, .int .i64 r.f1, .int .i64 r.f2.f0, .int .i64 r.f2.f1, .int .i64 r.f2.f2, .string r.f2.f3, .slice A4 r.f2.f4.length c4, .int .i64 r.f2.f5, .slice A6 r.f2.f6.length c6, .slice A7 r.f2.f7.length c7, .slice A8 r.f2.f8.length c8]] w fun e w' => e = .returned (.bool (nothingB r)) ∧ Below w.heap.size w w' := by
  go_enter Tryd.func16, Tryd.ntmps16
  go_wp2_with fail
  all_goals
    go_ret; refine ⟨?_, by repeat (first | exact Below.refl _ _ | apply Qad)⟩
    first
      | (show Ending.returned (Value.bool false) = _
         rw [show nothingB r = false by unfold nothingB; simp [*]])
      | (show Ending.returned (Value.bool (wrap64 (wrap64 (wrap64 ((r.f2.f4.length : Int) + (r.f2.f6.length : Int)) + (r.f2.f7.length : Int)) + (r.f2.f8.length : Int)) == 0)) = _
         rw [show nothingB r = (wrap64 (wrap64 (wrap64 ((r.f2.f4.length : Int) + (r.f2.f6.length : Int)) + (r.f2.f7.length : Int)) + (r.f2.f8.length : Int)) == 0) by unfold nothingB; simp [*]])
noncomputable def soundF (m : AM) (x : Evt) : Bool × AM :=
  if x.f0 < m.time ∨ (domName x.f1).toList = [] then (false, m)
  else if x.f3.f0 ≠ 0 then (nothingB x.f3, { m with time := x.f0 })
  else if x.f2.f0 = 1 then addF { m with time := x.f0 } x
  else if x.f2.f0 = 2 then revokeF { m with time := x.f0 } x
  else if x.f2.f0 = 3 then issueF { m with time := x.f0 } x
  else if x.f2.f0 = 4 then (verifyF { m with time := x.f0 } x, { m with time := x.f0 })
  else (true, { m with time := x.f0 })
theorem CAt.putT {w0 w : World} {c0 bg bl bn n : Nat} {v : Value} {m : AM} (h : CAt w0 w c0 bg bl bn v n m) (t : Int) : CAt w0 (w.setCell ⟨c0, 0, none⟩ (.int .i64 t)) c0 bg bl bn v n { m with time := t } :=
  { h with
    blk := blk_put h.blk 0 _ rfl
    g := h.g.same (Below.heap_setCell _ _ _ bg (Ne.symm h.c_ne_g))
    l := h.l.same (Below.heap_setCell _ _ _ bl (Ne.symm h.c_ne_l))
    k := h.k.same (Below.heap_setCell _ _ _ bn (Ne.symm h.c_ne_k))
    t := h.t.same (fun k hk => Below.heap_setCell _ _ _ k (h.v_ne hk).1)
    old := h.old.setCell (p := ⟨c0, 0, none⟩) h.c0l _ }
set_option maxRecDepth 100000 in
set_option maxHeartbeats 8000000 in
theorem sound_calls (w0 w : World) (c0 bg bl bn : Nat) (v : Value) (n : Nat) (m : AM) (x : Evt) (E : Array Value) (hM : CAt w0 w c0 bg bl bn v n m) (hE0 : EvA w0 x E) (hx : EvOk x) (hn : n + 2 ≤ 1000000) (hg : GOk m) :
    Calls Tryd.prog 11 #[.pointer (some ⟨c0, 0, none⟩), .agg E] w fun e w' => e = .returned (.bool (soundF m x).1) ∧ CRan w0 c0 bg bl bn (n + 2) (soundF m x).2 w' := by
  have hE := hE0.below hM.old; obtain ⟨A14, c14, A20, c20, A22, c22, A23, c23, A24, c24, A32, c32, A34, c34, A35, c35, A36, c36, rfl, h14, hT6, hT2⟩ := hE.form; have HM := Lib.hid hM; have HX := Lib.hid hx; have HN := Lib.hid hn; have HG := Lib.hid hg; have HE0 := Lib.hid hE0; clear hM hE hE0 hx hn h14 hT6 hT2 hg; go_enter Tryd.func11, Tryd.ntmps11
  go_wp2_with fail
  generalize hW : w.alloc (Obj.cells (evV x A14 c14 A20 c20 A22 c22 A23 c23 A24 c24 A32 c32 A34 c34 A35 c35 A36 c36) 46) = W
  have BE : W.heap[w.heap.size]? = some (.cells (evV x A14 c14 A20 c20 A22 c22 A23 c23 A24 c24 A32 c32 A34 c34 A35 c35 A36 c36) 46 (0, 0)) := by rw [← hW]; exact Qau _ _
  have HB : Below w.heap.size w W := by rw [← hW]; exact Qad (Below.refl _ _) _
  have HM1 := Lib.hid (HM.out.below HB); have HBE := Lib.hid BE; have HD := Lib.hid (fun u : BW W => (QaV.calls x.f1 _ u.now rfl).mono (fun e w' ⟨he, j, hj⟩ => (⟨he, by rw [hj]; exact Qak (Below.refl _ _) j⟩ : e = _ ∧ Below u.now.heap.size u.now w'))); have g0 := Qag (QaY HM1.out.blk).1; have g1 := Qag (Qaj BE 0 (v := .int .i64 x.f0) rfl); have g2 := Qag (Qaj BE 1 (v := .int .i64 x.f1) rfl); clear hW BE HB
  by_cases h0 : x.f0 < m.time
  · have p0 : decide (x.f0 < m.time) = true := decide_eq_true h0
    have HF := Lib.hid (show soundF m x = (false, m) from if_pos (.inl h0)); clear h0; refine Qai (by kernel_rfl) (by kernel_rfl) ?_
    repeat (go_big_quiet_step (with_reducible refine Qa8 (HD.out _)))
    refine wpQuiet_nil ?_; rintro _ ⟨u, rfl⟩
    go_wp2_with fail
    go_ret; exact ⟨by rw [HF.out]; rfl, by rw [HF.out]; exact ⟨_, (HM1.out.below u.ok).mono (Nat.le_add_right n 2)⟩⟩
  have p0 : decide (x.f0 < m.time) = false := decide_eq_false h0
  by_cases h1 : (domName x.f1).toList = []
  · have HF := Lib.hid (show soundF m x = (false, m) from if_pos (.inr h1))
    have p1 : ((domName x.f1).toList == []) = true := by rw [h1]; rfl
    clear h0; refine Qai (by kernel_rfl) (by kernel_rfl) ?_
    repeat (go_big_quiet_step (with_reducible refine Qa8 (HD.out _)))
    refine wpQuiet_nil ?_; rintro _ ⟨u, rfl⟩
    go_wp2_with fail
    go_ret; exact ⟨by rw [HF.out]; rfl, by rw [HF.out]; exact ⟨_, (HM1.out.below u.ok).mono (Nat.le_add_right n 2)⟩⟩
  have p1 : ((domName x.f1).toList == []) = false := by simpa using h1
  have HS := Lib.hid (show soundF m x = _ from if_neg (fun h => h.elim h0 h1)); clear h0; refine Qai (by kernel_rfl) (by kernel_rfl) ?_
  repeat (go_big_quiet_step (with_reducible refine Qa8 (HD.out _)))
  refine wpQuiet_nil ?_; rintro _ ⟨u, rfl⟩; have HMu := Lib.hid (HM1.out.below u.ok); have HBEu := Lib.hid (Qac HBE.out u.ok); clear g0 g1 g2 p0 p1 h1 HD
  generalize u.now = V at HMu HBEu ⊢
  clear u; have k0 := (QaY HMu.out.blk).1; have kf := QaF HMu.out.blk 0; have x0 := Qaj HBEu.out 0 (v := .int .i64 x.f0) rfl
  go_upto_region 4 with fail
  have hne : w.heap.size ≠ c0 := by have := QaP HM.out.blk; omega
  have HM3 := Lib.hid (HMu.out.putT x.f0); have HBE3 := Lib.hid ((Below.heap_setCell V ⟨c0, 0, none⟩ (.int .i64 x.f0) w.heap.size hne).trans HBEu.out); clear hne k0 kf x0
  generalize V.setCell ⟨c0, 0, none⟩ (.int .i64 x.f0) = V3 at HM3 HBE3 ⊢
  obtain ⟨m1, hm1⟩ : ∃ m1, m1 = { m with time := x.f0 } := ⟨_, rfl⟩
  have HG1 := Lib.hid (show GOk m1 by rw [hm1]; exact HG.out); rw [← hm1] at HM3 HS; clear hm1; have x26 := Qaj HBE3.out 26 (v := .int .i64 x.f3.f0) rfl; have x2 := Qaj HBE3.out 2 (v := .int .i64 x.f2.f0) rfl
  by_cases h2 : x.f3.f0 = 0
  rotate_left
  · have p2 : (x.f3.f0 != 0) = true := by simpa using h2
    have HF := Lib.hid (HS.out.trans (if_pos h2)); have x27 := Qaj HBE3.out 27 (v := .int .i64 x.f3.f1) rfl; have x28 := Qaj HBE3.out 28 (v := .int .i64 x.f3.f2.f0) rfl; have x29 := Qaj HBE3.out 29 (v := .int .i64 x.f3.f2.f1) rfl; have x30 := Qaj HBE3.out 30 (v := .int .i64 x.f3.f2.f2) rfl; have x31 := Qaj HBE3.out 31 (v := .string x.f3.f2.f3) rfl; have x32 := Qaj HBE3.out 32 (v := .slice A32 x.f3.f2.f4.length c32) rfl; have x33 := Qaj HBE3.out 33 (v := .int .i64 x.f3.f2.f5) rfl; have x34 := Qaj HBE3.out 34 (v := .slice A34 x.f3.f2.f6.length c34) rfl; have x35 := Qaj HBE3.out 35 (v := .slice A35 x.f3.f2.f7.length c35) rfl; have x36 := Qaj HBE3.out 36 (v := .slice A36 x.f3.f2.f8.length c36) rfl; clear h2
    go_wp2_with (go_at_call 16; refine (nothing_calls V3 x.f3 A32 c32 A34 c34 A35 c35 A36 c36).mono ?_; rintro e w9 ⟨rfl, hb9⟩; have HB9 := Lib.hid hb9; clear hb9)
    go_ret; exact ⟨by rw [HF.out]; rfl, by rw [HF.out]; exact ⟨_, (HM3.out.below HB9.out).mono (Nat.le_add_right n 2)⟩⟩
  have p2 : (x.f3.f0 != 0) = false := by simp [h2]
  have HS2 := Lib.hid (HS.out.trans (if_neg (fun h => h h2))); clear h2
  by_cases k1 : x.f2.f0 = 1
  · have q1 : (x.f2.f0 == 1) = true := beq_iff_eq.mpr k1
    have HF := Lib.hid (HS2.out.trans (if_pos k1)); clear k1
    go_wp2_with (first | (refine Qah rfl 46 (.tmp 3) rfl _ rfl (evV x A14 c14 A20 c20 A22 c22 A23 c23 A24 c24 A32 c32 A34 c34 A35 c35 A36 c36) _ (QaQ HBE3.out) Tryd.underlying46 rfl (by kernel_rfl) ?_) | (go_at_call 17; refine (add_calls w0 V3 c0 bg bl bn v n _ x _ HM3.out (HE0.out.below HM3.out.old) HX.out HN.out).mono ?_; rintro e w9 ⟨rfl, hr9⟩; have HR9 := Lib.hid hr9; clear hr9))
    go_ret; exact ⟨by rw [HF.out]; rfl, by rw [HF.out]; exact HR9.out⟩
  have q1 : (x.f2.f0 == 1) = false := beq_eq_false_iff_ne.mpr k1
  by_cases k2 : x.f2.f0 = 2
  · have q2 : (x.f2.f0 == 2) = true := beq_iff_eq.mpr k2
    have HF := Lib.hid (HS2.out.trans ((if_neg k1).trans (if_pos k2))); clear k1 k2
    go_wp2_with (first | (refine Qah rfl 46 (.tmp 3) rfl _ rfl (evV x A14 c14 A20 c20 A22 c22 A23 c23 A24 c24 A32 c32 A34 c34 A35 c35 A36 c36) _ (QaQ HBE3.out) Tryd.underlying46 rfl (by kernel_rfl) ?_) | (go_at_call 18; refine (revoke_calls w0 V3 c0 bg bl bn v n _ x _ HM3.out (HE0.out.below HM3.out.old) HX.out HN.out).mono ?_; rintro e w9 ⟨rfl, hr9⟩; have HR9 := Lib.hid hr9; clear hr9))
    go_ret; exact ⟨by rw [HF.out]; rfl, by rw [HF.out]; exact HR9.out⟩
  have q2 : (x.f2.f0 == 2) = false := beq_eq_false_iff_ne.mpr k2
  by_cases k3 : x.f2.f0 = 3
  · have q3 : (x.f2.f0 == 3) = true := beq_iff_eq.mpr k3
    have HF := Lib.hid (HS2.out.trans ((if_neg k1).trans ((if_neg k2).trans (if_pos k3)))); clear k1 k2 k3
    go_wp2_with (first | (refine Qah rfl 46 (.tmp 3) rfl _ rfl (evV x A14 c14 A20 c20 A22 c22 A23 c23 A24 c24 A32 c32 A34 c34 A35 c35 A36 c36) _ (QaQ HBE3.out) Tryd.underlying46 rfl (by kernel_rfl) ?_) | (go_at_call 19; refine (issue_calls w0 V3 c0 bg bl bn v n _ x _ HM3.out HE0.out HX.out HN.out HG1.out).mono ?_; rintro e w9 ⟨rfl, hr9⟩; have HR9 := Lib.hid hr9; clear hr9))
    go_ret; exact ⟨by rw [HF.out]; rfl, by rw [HF.out]; exact HR9.out⟩
  have q3 : (x.f2.f0 == 3) = false := beq_eq_false_iff_ne.mpr k3
  by_cases k4 : x.f2.f0 = 4
  · have q4 : (x.f2.f0 == 4) = true := beq_iff_eq.mpr k4
    have HF := Lib.hid (HS2.out.trans ((if_neg k1).trans ((if_neg k2).trans ((if_neg k3).trans (if_pos k4))))); clear k1 k2 k3 k4
    go_wp2_with (first | (refine Qah rfl 46 (.tmp 3) rfl _ rfl (evV x A14 c14 A20 c20 A22 c22 A23 c23 A24 c24 A32 c32 A34 c34 A35 c35 A36 c36) _ (QaQ HBE3.out) Tryd.underlying46 rfl (by kernel_rfl) ?_) | (go_at_call 20; refine (verify_calls w0 V3 c0 bg bl bn v n _ x _ HM3.out (HE0.out.below HM3.out.old) HX.out HN.out HG1.out).mono ?_; rintro e w9 ⟨rfl, hr9⟩; have HR9 := Lib.hid hr9; clear hr9))
    go_ret; exact ⟨by rw [HF.out]; rfl, by rw [HF.out]; exact HR9.out⟩
  have q4 : (x.f2.f0 == 4) = false := beq_eq_false_iff_ne.mpr k4; have HF := Lib.hid (HS2.out.trans ((if_neg k1).trans ((if_neg k2).trans ((if_neg k3).trans (if_neg k4))))); clear k1 k2 k3 k4
  go_wp2_with fail
  go_ret; exact ⟨by rw [HF.out]; rfl, by rw [HF.out]; exact ⟨_, HM3.out.mono (Nat.le_add_right n 2)⟩⟩

theorem updG_ok {m : AM} (h : GOk m) (i : ID) {g : Cred × Int} (hg : okCred g.1) : ∀ j y, updG m.given i g j = some y → okCred y.1 := by
  intro j y hy; unfold updG at hy
  split at hy
  · obtain rfl := Option.some.inj hy
    exact hg
  · exact h j y hy
theorem soundF_ok {m : AM} {x : Evt} (h : GOk m) (hx : EvOk x) : GOk (soundF m x).2 := by
  have h1 : GOk { m with time := x.f0 } := h; unfold soundF
  split
  · exact h
  split
  · exact h1
  split
  · unfold addF
    split
    · exact h1
    · exact updG_ok h1 _ hx.gave
  split
  · unfold revokeF
    split
    · exact h1
    · rename_i g hg
      split
      · exact h1
      · exact updG_ok h1 _ (g := (g.1, x.f0)) (h _ g hg)
  split
  · unfold issueF
    split
    · exact h1
    · exact h1
  split
  · exact h1
  · exact h1
noncomputable def checkF : AM → List Evt → Nat → Option Nat
  | _, [], _ => none
  | m, x :: xs, i => if (soundF m x).1 = true then checkF (soundF m x).2 xs (i + 1) else some i
def am0 : AM := ⟨0, fun _ => none, fun _ => 0, fun _ => 0, []⟩
def resI (o : Option Nat) : Int := match o with | none => -1 | some i => i
def resE (o : Option Nat) : Int := match o with | none => 0 | some _ => 13
theorem made4 {w W : World} {O : Obj} (h : ((((w.alloc (.map #[] 0)).alloc (.map #[] 0)).alloc (.map #[] 0)).alloc O) = W) : GTab W w.heap.size 0 (fun _ => none) ∧ NTab W (w.heap.size + 1) 0 (fun _ => 0) ∧ NTab W (w.heap.size + 1 + 1) 0 (fun _ => 0) ∧ W.heap[w.heap.size + 1 + 1 + 1]? = some O ∧ Below w.heap.size w W := by
  subst h; have z1 : (w.alloc (.map #[] 0)).heap.size = w.heap.size + 1 := Array.size_push _; have z2 : ((w.alloc (.map #[] 0)).alloc (.map #[] 0)).heap.size = w.heap.size + 1 + 1 := (Array.size_push _).trans (by rw [z1]); have z3 : (((w.alloc (.map #[] 0)).alloc (.map #[] 0)).alloc (.map #[] 0)).heap.size = w.heap.size + 1 + 1 + 1 := (Array.size_push _).trans (by rw [z2]); have b2 := NTab.made (w.alloc (.map #[] 0)); have b3 := NTab.made ((w.alloc (.map #[] 0)).alloc (.map #[] 0)); have b4 := Qau (((w.alloc (.map #[] 0)).alloc (.map #[] 0)).alloc (.map #[] 0)) O; rw [z1] at b2; rw [z2] at b3; rw [z3] at b4; refine ⟨(((GTab.made w).same (Below.heap_alloc _ _ _ (by omega))).same (Below.heap_alloc _ _ _ (by omega))).same (Below.heap_alloc _ _ _ (by omega)), (b2.same (Below.heap_alloc _ _ _ (by omega))).same (Below.heap_alloc _ _ _ (by omega)), b3.same (Below.heap_alloc _ _ _ (by omega)), b4, Qad (Qad (Qad (Qad (Below.refl _ _) _) _) _) _⟩
set_option maxRecDepth 100000 in
set_option maxHeartbeats 8000000 in
theorem check_calls (w : World) (A : Option Addr) (c : Nat) (l : List Evt) (hC : Kd.C kEvt w A l.length l) (hc : l.length ≤ c) (hl : l.length ≤ 1000) (hok : ∀ x ∈ l, EvOk x) :
    Calls Tryd.prog 7 #[.slice A l.length c] w fun e w' => e = .returned (.tuple #[.int .i64 (resI (checkF am0 l 0)), .int .i64 (resE (checkF am0 l 0))]) ∧ Below w.heap.size w w' := by
  have hmk1 := fun W => run_makeMap (P := Tryd.prog) 51 W
  have hmk2 := fun W => run_makeMap (P := Tryd.prog) 52 W
  have HC := Lib.hid hC; have HOK := Lib.hid hok; clear hC hok; go_enter Tryd.func7, Tryd.ntmps7
  go_wp2_with fail
  generalize hW : (((w.alloc (Obj.map #[] 0)).alloc (Obj.map #[] 0)).alloc (Obj.map #[] 0)).alloc _ = W
  obtain ⟨b1, b2, b3, b4, b5⟩ := made4 hW; have HM := Lib.hid (show CAt w W (w.heap.size + 1 + 1 + 1) w.heap.size (w.heap.size + 1) (w.heap.size + 1 + 1) (.slice none 0 0) 0 am0 from ⟨b4, by omega, by omega, by omega, by omega, by omega, by omega, by omega, b1, b2, b3, ⟨[], Kd.R_nil _ _ _ _ _, Nat.le_refl _, rfl, fun i t T h => by simp [am0] at h⟩, b5⟩); clear hW b1 b2 b3 b4 b5 hmk1 hmk2
  go_loopg [14] (l.length + 1) (fun kq v14 w' => ∃ (i : Nat) (m : AM) (v : Value), v14 = .int .i64 i ∧ Hid (kq = l.length + 1 - i) ∧ Hid (i ≤ l.length) ∧ Hid (CAt w w' (w.heap.size + 1 + 1 + 1) w.heap.size (w.heap.size + 1) (w.heap.size + 1 + 1) v (2 * i) m) ∧ Hid (GOk m) ∧ Hid (checkF am0 l 0 = checkF m (l.drop i) i))
  case atStart => exact ⟨0, am0, _, rfl, Lib.hid rfl, Lib.hid (Nat.zero_le _), HM, Lib.hid (fun i g h => by cases h), Lib.hid rfl⟩
  case round =>
    clear HM; obtain ⟨i, m, v, rfl, HKq, HI, HMi, HG, HF⟩ := hrel
    by_cases hi : i < l.length
    · have d1 : decide ((i : Int) < (l.length : Int)) = true := decide_eq_true (by omega)
      have d2 : decide (i < l.length) = true := decide_eq_true hi
      have wrapI : wrap64 ((i : Int) + 1) = ((i + 1 : Nat) : Int) := by unfold wrap64; omega
      obtain ⟨ad, cs, rfl, hlen, hK, hcell0⟩ := Kd.C_get HC.out z46 (i : Int) (by omega) (by omega)
      have hx : l.getD (i : Int).toNat z46 = l[i] := by
        rw [show (i : Int).toNat = i from rfl]; simp [List.getD, List.getElem?_eq_getElem hi]
      obtain ⟨x, hxe⟩ : ∃ x, x = l.getD (i : Int).toNat z46 := ⟨_, rfl⟩
      rw [← hxe] at hK
      have hdrop : l.drop i = x :: l.drop (i + 1) := by rw [hxe, hx]; exact List.drop_eq_getElem_cons hi
      have hmem : x ∈ l := by rw [hxe, hx]; exact List.getElem_mem hi
      obtain ⟨E, rfl⟩ : ∃ E : Array Value, cs = E.toList := ⟨cs.toArray, by simp⟩
      have hE : EvA w x E := hK; have HE := Lib.hid hE; have sE := hE.size; have oE := hE.one
      have HCell := Lib.hid (show ∀ j v, E[j]? = some v → wr.cell? ((ad.add (i * 37)).add j) = some v from fun j v hv => by
        rw [Addr.add_add]
        exact Qas HMi.out.old (hcell0 j v (by rw [Array.getElem?_toList]; exact hv)))
      have HX := Lib.hid (HOK.out x hmem)
      have q1 : (0 : Int) ≤ (i : Int) := by omega
      have q2 : (i : Int) < (l.length : Int) := by omega
      have HI2 := Lib.hid hi; have hf := HF.out; rw [hdrop, checkF] at hf; have HMa := Lib.hid (HMi.out.below (Qad (Below.refl wr.heap.size wr) (.cells E 46))); have HCl := Lib.hid (sound_calls w (wr.alloc (.cells E 46)) _ _ _ _ v (2 * i) m x E HMa.out hE HX.out (by omega) HG.out); have HG2 := Lib.hid (soundF_ok HG.out HX.out); have HBn := Lib.hid (QaQ (Qau wr (.cells E 46)))
      obtain ⟨⟨y, m2⟩, hy⟩ : ∃ y, y = soundF m x := ⟨_, rfl⟩
      rw [← hy] at hf HCl HG2; have HFf := Lib.hid hf; clear hy hf hdrop hmem hK hE hx hxe hcell0 hlen hi
      cases y with
      | true =>
        go_wp2_with (first | (refine Qah rfl 46 (.tmp 17) rfl _ rfl E _ HCell.out Tryd.underlying46 rfl (by rw [sE]; kernel_rfl) ?_) | (refine QaU rfl 46 (.tmp 6) (.tmp 18) rfl rfl rfl E rfl (by rw [sE]; kernel_rfl) (by rw [sE]; try rfl) oE ?_) | (refine Qah rfl 46 (.tmp 6) rfl _ rfl E _ HBn.out Tryd.underlying46 rfl (by rw [sE]; kernel_rfl) ?_) | (go_at_call 11; refine HCl.out.mono ?_; rintro e w9 ⟨rfl, v9, hM9⟩; have HM9 := Lib.hid hM9; clear hM9))
        go_roundg (l.length + 1 - (i + 1))
        case measure => have := HKq.out; have := HI2.out; omega
        case rel => exact ⟨i + 1, m2, v9, by first | rfl | exact congrArg _ wrapI, Lib.hid rfl, Lib.hid HI2.out, HM9, HG2, Lib.hid (HFf.out.trans (if_pos (by first | rfl | trivial)))⟩
      | false =>
        go_wp2_with (first | (refine Qah rfl 46 (.tmp 17) rfl _ rfl E _ HCell.out Tryd.underlying46 rfl (by rw [sE]; kernel_rfl) ?_) | (refine QaU rfl 46 (.tmp 6) (.tmp 18) rfl rfl rfl E rfl (by rw [sE]; kernel_rfl) (by rw [sE]; try rfl) oE ?_) | (refine Qah rfl 46 (.tmp 6) rfl _ rfl E _ HBn.out Tryd.underlying46 rfl (by rw [sE]; kernel_rfl) ?_) | (go_at_call 11; refine HCl.out.mono ?_; rintro e w9 ⟨rfl, v9, hM9⟩; have HM9 := Lib.hid hM9; clear hM9))
        refine bodyPost_ret (results_tmp2 rfl _ _ _) rfl ?_; exact ⟨by rw [HFf.out.trans (if_neg (by decide))]; rfl, HM9.out.old⟩
    · have d1 : decide ((i : Int) < (l.length : Int)) = false := decide_eq_false (by omega)
      have d2 : decide (i < l.length) = false := decide_eq_false hi; have hf := HF.out; rw [List.drop_of_length_le (by omega), checkF] at hf; have HFf := Lib.hid hf; clear hi hf
      go_wp2_with fail
      refine bodyPost_ret (results_tmp2 rfl _ _ _) rfl ?_; exact ⟨by rw [HFf.out]; rfl, HMi.out.old⟩
end
def rA : Role := ⟨⟨#[100, 49]⟩, ⟨#[97]⟩⟩
def zTokL : Tok := ⟨0, 0, 0, ⟨#[]⟩, [], 0, [], [], []⟩
def xAdd : Evt := ⟨1, 1, ⟨1, ⟨⟨0, 0⟩, ⟨#[97]⟩, 1, ⟨#[97, 110, 110]⟩, ⟨⟨#[]⟩, ⟨#[]⟩⟩, ⟨⟨#[]⟩, ⟨#[]⟩⟩⟩, 0, ⟨#[]⟩, [], ⟨#[]⟩, zTokL, 0⟩, ⟨0, 1, zTokL⟩⟩
def xIssueAt (t n : Int) : Evt := ⟨t, 1, ⟨3, ⟨⟨0, 0⟩, ⟨#[]⟩, 0, ⟨#[]⟩, ⟨⟨#[]⟩, ⟨#[]⟩⟩, ⟨⟨#[]⟩, ⟨#[]⟩⟩⟩, 0, ⟨#[97, 110, 110]⟩, [rA], ⟨#[]⟩, zTokL, 0⟩, ⟨0, 0, ⟨1, 1, n, ⟨#[97, 110, 110]⟩, [rA], 0, [⟨1, 1⟩], [], []⟩⟩⟩
def xRevoke : Evt := ⟨3, 1, ⟨2, ⟨⟨0, 0⟩, ⟨#[]⟩, 0, ⟨#[]⟩, ⟨⟨#[]⟩, ⟨#[]⟩⟩, ⟨⟨#[]⟩, ⟨#[]⟩⟩⟩, 1, ⟨#[]⟩, [], ⟨#[]⟩, zTokL, 0⟩, ⟨0, 0, zTokL⟩⟩
def cA : Cred := ⟨⟨1, 1⟩, ⟨#[97]⟩, 1, ⟨#[97, 110, 110]⟩, ⟨⟨#[]⟩, ⟨#[]⟩⟩, ⟨⟨#[]⟩, ⟨#[]⟩⟩⟩
theorem cA_may : credMay cA = true := by kernel_rfl
theorem cA_has : hasF [cA] ⟨#[97, 110, 110]⟩ rA = true := by
  rw [hasF_iff]; have hm : cA ∈ counts [cA] := ((counts_spec [cA]).mem cA).mpr (by unfold First; simp [List.find?, cA_may, sameID]); have h := Said.member hm rfl; exact h
def mOne : AM := ⟨1, updG (fun _ => none) ⟨1, 1⟩ (cA, -1), updI (fun _ => 0) 1 1, fun _ => 0, []⟩
theorem dom1 {x : Evt} {m : AM} (t u : Int) (hd : x.f1 = 1) (ht : x.f0 = t) (hu : m.time = u) (h : ¬ t < u) : ¬ (x.f0 < m.time ∨ (domName x.f1).toList = []) := by
  rw [hd, ht, hu]; rintro (h' | h')
  · exact h h'
  · have : (domName 1).toList = [100, 49] := by kernel_rfl
    rw [this] at h'; cases h'
theorem sd1 : soundF am0 xAdd = (true, mOne) := by
  unfold soundF; rw [if_neg (dom1 1 0 rfl rfl rfl (by decide)), if_neg (show ¬ (xAdd.f3.f0 ≠ 0) from fun h => h rfl), if_pos (show xAdd.f2.f0 = 1 from rfl)]; unfold addF
  rw [if_neg (show ¬ (xAdd.f3.f1 ≤ _ ∨ credMay (gaveC xAdd) = false) from by
    rintro (h | h)
    · exact absurd (show (1 : Int) ≤ 0 from h) (by decide)
    · rw [show gaveC xAdd = cA from rfl, cA_may] at h
      cases h)]
  rfl
theorem given1 (g : ID → Option (Cred × Int)) (c : Cred × Int) : updG g ⟨1, 1⟩ c ⟨1, 1⟩ = some c := if_pos rfl
theorem stands_ok {m : AM} {t : Tok} {x : Evt} {k : Int} (h : m.given ⟨1, 1⟩ = some (cA, k)) (hk : ¬ 0 ≤ k) (h6 : t.f6 = [⟨1, 1⟩]) (h4 : t.f4 = [rA]) (h3 : t.f3 = ⟨#[97, 110, 110]⟩) : standsF m t x = true := by
  unfold standsF
  have hb : badF m x ⟨1, 1⟩ = false := by
    unfold badF; rw [h]; simp [hk]
  have hc : credOf m ⟨1, 1⟩ = cA := by
    unfold credOf; rw [h]; rfl
  rw [h6, h4, h3]; simp only [List.all_cons, List.all_nil, List.map_cons, List.map_nil, hb, hc, cA_has]; rfl
def mTwo : AM := { mOne with time := 2, number := updI (fun _ => 0) 1 1, issued := [(xIssueAt 2 1).f3.f2] }
theorem sd2 : soundF mOne (xIssueAt 2 1) = (true, mTwo) := by
  unfold soundF; rw [if_neg (dom1 2 1 rfl rfl rfl (by decide)), if_neg (show ¬ ((xIssueAt 2 1).f3.f0 ≠ 0) from fun h => h rfl), if_neg (show ¬ (xIssueAt 2 1).f2.f0 = 1 from by show ¬ (3 : Int) = 1; decide), if_neg (show ¬ (xIssueAt 2 1).f2.f0 = 2 from by show ¬ (3 : Int) = 2; decide), if_pos (show (xIssueAt 2 1).f2.f0 = 3 from rfl)]; unfold issueF; refine (if_pos ⟨rfl, by show (0 : Int) < 1; decide, rfl, rfl, stands_ok (k := -1) (given1 (fun _ => none) (cA, -1)) (by decide) rfl rfl rfl⟩).trans rfl
def mThree : AM := { mTwo with time := 3, given := updG mTwo.given ⟨1, 1⟩ (cA, 3) }
theorem sd3 : soundF mTwo xRevoke = (true, mThree) := by
  unfold soundF; rw [if_neg (dom1 3 2 rfl rfl rfl (by decide)), if_neg (show ¬ (xRevoke.f3.f0 ≠ 0) from fun h => h rfl), if_neg (show ¬ xRevoke.f2.f0 = 1 from by show ¬ (2 : Int) = 1; decide), if_pos (show xRevoke.f2.f0 = 2 from rfl)]; unfold revokeF; have hg : ({ mTwo with time := xRevoke.f0 } : AM).given ⟨xRevoke.f1, xRevoke.f2.f2⟩ = some (cA, -1) := given1 (fun _ => none) (cA, -1); rw [hg]
  show (if (0 : Int) ≤ -1 then _ else _) = _
  rw [if_neg (by decide)]; rfl
theorem sd4 : (soundF mThree (xIssueAt 3 2)).1 = false := by
  unfold soundF; rw [if_neg (dom1 3 3 rfl rfl rfl (by decide)), if_neg (show ¬ ((xIssueAt 3 2).f3.f0 ≠ 0) from fun h => h rfl), if_neg (show ¬ (xIssueAt 3 2).f2.f0 = 1 from by show ¬ (3 : Int) = 1; decide), if_neg (show ¬ (xIssueAt 3 2).f2.f0 = 2 from by show ¬ (3 : Int) = 2; decide), if_pos (show (xIssueAt 3 2).f2.f0 = 3 from rfl)]; unfold issueF
  have hb : badF { mThree with time := (xIssueAt 3 2).f0 } (xIssueAt 3 2) ⟨1, 1⟩ = true := by
    unfold badF; have hg : ({ mThree with time := (xIssueAt 3 2).f0 } : AM).given ⟨1, 1⟩ = some (cA, 3) := given1 mTwo.given (cA, 3); rw [hg]
    show (decide ((0 : Int) ≤ 3) && (decide ((64 : Int) ≤ wrap64 (3 - 3)) || decide ((1 : Int) = 1))) = true
    simp
  rw [if_neg (fun h => by
    have := stands_bad (m := { mThree with time := (xIssueAt 3 2).f0 }) (x := xIssueAt 3 2) (t := (xIssueAt 3 2).f3.f2) (List.mem_singleton.mpr rfl) hb; rw [h.2.2.2.2] at this
    cases this)]
theorem sd5 : (soundF am0 (xIssueAt 2 1)).1 = false := by
  unfold soundF; rw [if_neg (dom1 2 0 rfl rfl rfl (by decide)), if_neg (show ¬ ((xIssueAt 2 1).f3.f0 ≠ 0) from fun h => h rfl), if_neg (show ¬ (xIssueAt 2 1).f2.f0 = 1 from by show ¬ (3 : Int) = 1; decide), if_neg (show ¬ (xIssueAt 2 1).f2.f0 = 2 from by show ¬ (3 : Int) = 2; decide), if_pos (show (xIssueAt 2 1).f2.f0 = 3 from rfl)]; unfold issueF; have hb : badF { am0 with time := (xIssueAt 2 1).f0 } (xIssueAt 2 1) ⟨1, 1⟩ = true := rfl
  rw [if_neg (fun h => by
    have := stands_bad (m := { am0 with time := (xIssueAt 2 1).f0 }) (x := xIssueAt 2 1) (t := (xIssueAt 2 1).f3.f2) (List.mem_singleton.mpr rfl) hb; rw [h.2.2.2.2] at this
    cases this)]
theorem lives1 : checkF am0 [xAdd, xIssueAt 2 1, xRevoke] 0 = none := by
  rw [checkF, sd1, if_pos rfl, checkF, sd2, if_pos rfl, checkF, sd3, if_pos rfl, checkF]
theorem lives2 : checkF am0 [xAdd, xIssueAt 2 1, xRevoke, xIssueAt 3 2] 0 = some 3 := by
  rw [checkF, sd1, if_pos rfl, checkF, sd2, if_pos rfl, checkF, sd3, if_pos rfl, checkF, sd4, if_neg (by decide)]
theorem lives3 : checkF am0 [xIssueAt 2 1] 0 = some 0 := by
  rw [checkF, sd5, if_neg (by decide)]
abbrev cAdd : Array Value := #[.int .i64 1, .int .i64 1, .int .i64 1, .int .i64 0, .int .i64 0, .string ⟨#[97]⟩, .int .i64 1, .string ⟨#[97, 110, 110]⟩, .string ⟨#[]⟩, .string ⟨#[]⟩, .string ⟨#[]⟩, .string ⟨#[]⟩, .int .i64 0, .string ⟨#[]⟩, .slice none 0 0, .string ⟨#[]⟩, .int .i64 0, .int .i64 0, .int .i64 0, .string ⟨#[]⟩, .slice none 0 0, .int .i64 0, .slice none 0 0, .slice none 0 0, .slice none 0 0, .int .i64 0, .int .i64 0, .int .i64 1, .int .i64 0, .int .i64 0, .int .i64 0, .string ⟨#[]⟩, .slice none 0 0, .int .i64 0, .slice none 0 0, .slice none 0 0, .slice none 0 0]
abbrev cIssueAt (t n : Int) (r s : Nat) : Array Value := #[.int .i64 t, .int .i64 1, .int .i64 3, .int .i64 0, .int .i64 0, .string ⟨#[]⟩, .int .i64 0, .string ⟨#[]⟩, .string ⟨#[]⟩, .string ⟨#[]⟩, .string ⟨#[]⟩, .string ⟨#[]⟩, .int .i64 0, .string ⟨#[97, 110, 110]⟩, .slice (some ⟨r, 0, none⟩) 1 1, .string ⟨#[]⟩, .int .i64 0, .int .i64 0, .int .i64 0, .string ⟨#[]⟩, .slice none 0 0, .int .i64 0, .slice none 0 0, .slice none 0 0, .slice none 0 0, .int .i64 0, .int .i64 0, .int .i64 0, .int .i64 1, .int .i64 1, .int .i64 n, .string ⟨#[97, 110, 110]⟩, .slice (some ⟨r, 0, none⟩) 1 1, .int .i64 0, .slice (some ⟨s, 0, none⟩) 1 1, .slice none 0 0, .slice none 0 0]
abbrev cIssue (r s : Nat) : Array Value := #[.int .i64 2, .int .i64 1, .int .i64 3, .int .i64 0, .int .i64 0, .string ⟨#[]⟩, .int .i64 0, .string ⟨#[]⟩, .string ⟨#[]⟩, .string ⟨#[]⟩, .string ⟨#[]⟩, .string ⟨#[]⟩, .int .i64 0, .string ⟨#[97, 110, 110]⟩, .slice (some ⟨r, 0, none⟩) 1 1, .string ⟨#[]⟩, .int .i64 0, .int .i64 0, .int .i64 0, .string ⟨#[]⟩, .slice none 0 0, .int .i64 0, .slice none 0 0, .slice none 0 0, .slice none 0 0, .int .i64 0, .int .i64 0, .int .i64 0, .int .i64 1, .int .i64 1, .int .i64 1, .string ⟨#[97, 110, 110]⟩, .slice (some ⟨r, 0, none⟩) 1 1, .int .i64 0, .slice (some ⟨s, 0, none⟩) 1 1, .slice none 0 0, .slice none 0 0]
abbrev cAgain (r s : Nat) : Array Value := #[.int .i64 3, .int .i64 1, .int .i64 3, .int .i64 0, .int .i64 0, .string ⟨#[]⟩, .int .i64 0, .string ⟨#[]⟩, .string ⟨#[]⟩, .string ⟨#[]⟩, .string ⟨#[]⟩, .string ⟨#[]⟩, .int .i64 0, .string ⟨#[97, 110, 110]⟩, .slice (some ⟨r, 0, none⟩) 1 1, .string ⟨#[]⟩, .int .i64 0, .int .i64 0, .int .i64 0, .string ⟨#[]⟩, .slice none 0 0, .int .i64 0, .slice none 0 0, .slice none 0 0, .slice none 0 0, .int .i64 0, .int .i64 0, .int .i64 0, .int .i64 1, .int .i64 1, .int .i64 2, .string ⟨#[97, 110, 110]⟩, .slice (some ⟨r, 0, none⟩) 1 1, .int .i64 0, .slice (some ⟨s, 0, none⟩) 1 1, .slice none 0 0, .slice none 0 0]
abbrev cRevoke : Array Value := #[.int .i64 3, .int .i64 1, .int .i64 2, .int .i64 0, .int .i64 0, .string ⟨#[]⟩, .int .i64 0, .string ⟨#[]⟩, .string ⟨#[]⟩, .string ⟨#[]⟩, .string ⟨#[]⟩, .string ⟨#[]⟩, .int .i64 1, .string ⟨#[]⟩, .slice none 0 0, .string ⟨#[]⟩, .int .i64 0, .int .i64 0, .int .i64 0, .string ⟨#[]⟩, .slice none 0 0, .int .i64 0, .slice none 0 0, .slice none 0 0, .slice none 0 0, .int .i64 0, .int .i64 0, .int .i64 0, .int .i64 0, .int .i64 0, .int .i64 0, .string ⟨#[]⟩, .slice none 0 0, .int .i64 0, .slice none 0 0, .slice none 0 0, .slice none 0 0]
theorem rows_C {W : World} {Es : List (Array Value)} {xs : List Evt} (hl : Es.length = xs.length) (hp : 0 < xs.length) (hm : xs.length ≤ 9223372036854775807) (hE : ∀ (i : Nat) (x : Evt) (E : Array Value), xs[i]? = some x → Es[i]? = some E → EvA W x E) :
    Kd.C kEvt (W.alloc (.cells ((Es.map Value.agg).flatMap fun v => v.cells.toList).toArray 46)) (some ⟨W.heap.size, 0, none⟩) xs.length xs := by
  refine ⟨rfl, hm, fun _ => ⟨_, rfl, fun j p hj => ?_⟩⟩
  have hjl : j < Es.length := by rw [hl]; exact (List.getElem?_eq_some_iff.mp hj).1
  have hEj := hE j p _ hj (List.getElem?_eq_getElem hjl); refine ⟨Es[j].toList, by have := hEj.size; rw [Array.length_toList]; exact this, kEvt.K_below (Qad (Below.refl _ _) _) hEj, fun k u hk => ?_⟩
  have hs : ∀ v ∈ Es.map Value.agg, v.cells.size = 37 := fun v hv => by
    obtain ⟨E, hEm, rfl⟩ := List.mem_map.mp hv; obtain ⟨i, hi, rfl⟩ := List.getElem_of_mem hEm; exact (hE i _ _ (List.getElem?_eq_getElem (by omega)) (List.getElem?_eq_getElem hi)).size
  have hk37 : k < 37 := by
    have := (List.getElem?_eq_some_iff.mp hk).1; have h2 := hEj.size; simp only [Array.length_toList] at this; omega
  show (W.alloc _).cell? ((⟨W.heap.size, 0, none⟩ : Addr).add (j * 37 + k)) = some u
  rw [Addr.add_mid, cell_of_row _ W.heap.size _ _ _ (0, 0) (Qau W _), Nat.zero_add]; rw [List.getElem?_toArray, Go.Great.flat_get (by decide) _ hs]; rw [show (j * 37 + k) / 37 = j by omega, show (j * 37 + k) % 37 = k by omega, List.getElem?_map, List.getElem?_eq_getElem hjl]
  show (Value.agg Es[j]).cells[k]? = some u
  rw [Array.getElem?_toList] at hk; exact hk
theorem infoSz : (Tryd.prog.info? 46).map (·.size) = some 37 := by kernel_rfl
theorem infoZ : ((Tryd.prog.info? 46).bind (·.zero)).isSome = true := by kernel_rfl
theorem wpList_buildEv {rest : List Oper} {ops : Array Oper} {o : Oper} {a : Act} {w : World} {Q : Exit → Act → World → Prop} (hg : o.guard = none) (n : Nat) (parts : Array (Nat × Operand)) (ho : o.op = .buildSlice 22 n parts) (Es : List (Array Value)) (xs : List Evt) (ix : Nat → Nat) (hn : n = Es.length) (hl : Es.length = xs.length) (hp : 0 < n) (hm : n ≤ 100) (hparts : parts.toList = (List.range n).map fun i => (i, Operand.tmp (ix i)))
    (hE : ∀ (i : Nat) (x : Evt) (E : Array Value), xs[i]? = some x → Es[i]? = some E → EvA w x E) (hev : ∀ (i : Nat) (E : Array Value), Es[i]? = some E → a.eval (.tmp (ix i)) = .agg E)
    (h : ∀ W' : World, Kd.C kEvt W' (some ⟨w.heap.size, 0, none⟩) xs.length xs → Below w.heap.size w W' → wpList Tryd.prog ops Q rest (a.put o.dst (.slice (some ⟨w.heap.size, 0, none⟩) xs.length xs.length)) W') : wpList Tryd.prog ops Q (o :: rest) a w := by
  have hml : (Es.map Value.agg).length = n := by rw [List.length_map, hn]
  refine Go.Great.wpList_buildRows hg 22 46 parts 37 (Es.map Value.agg) (by rw [hml]; exact ho) ix _ rfl _ rfl Tryd.underlying22 infoSz infoZ (by decide) (by omega) (by rw [hml]; omega) (by rw [hml]; exact hparts) ?_ ?_ ?_
  · intro v hv
    obtain ⟨E, hEm, rfl⟩ := List.mem_map.mp hv; obtain ⟨i, hi, rfl⟩ := List.getElem_of_mem hEm; exact (hE i _ _ (List.getElem?_eq_getElem (by omega)) (List.getElem?_eq_getElem hi)).size
  · intro i hi
    rw [List.getElem_map]; exact hev i _ (List.getElem?_eq_getElem (by rw [hml] at hi; omega))
  · rw [hml, show n = xs.length by omega]
    exact h _ (rows_C hl (by omega) (by omega) hE) (Qad (Below.refl _ _) _)
theorem role_C {W : World} {r : Nat} {t : TypeId} (hb : W.heap[r]? = some (.cells #[.string ⟨#[100, 49]⟩, .string ⟨#[97]⟩] t (0, 0))) : Kd.C k32 W (some ⟨r, 0, none⟩) 1 [rA] := by
  refine ⟨rfl, by decide, fun _ => ⟨_, rfl, fun j p hj => ?_⟩⟩
  match j, hj with
  | 0, hj =>
    obtain rfl := Option.some.inj hj; refine ⟨[.string ⟨#[100, 49]⟩, .string ⟨#[97]⟩], rfl, k32_mk W rA, fun k u hk => ?_⟩
    show W.cell? ((⟨r, 0, none⟩ : Addr).add (0 * 2 + k)) = some u
    rw [Addr.add_mid, cell_of_row W r _ _ _ (0, 0) hb, show 0 + (0 * 2 + k) = k by omega, ← Array.getElem?_toList]; exact hk
theorem id_C {W : World} {r : Nat} {t : TypeId} (hb : W.heap[r]? = some (.cells #[.int .i64 1, .int .i64 1] t (0, 0))) : Kd.C k30 W (some ⟨r, 0, none⟩) 1 [⟨1, 1⟩] := by
  refine ⟨rfl, by decide, fun _ => ⟨_, rfl, fun j p hj => ?_⟩⟩
  match j, hj with
  | 0, hj =>
    obtain rfl := Option.some.inj hj; refine ⟨[.int .i64 1, .int .i64 1], rfl, k30_mk W ⟨1, 1⟩, fun k u hk => ?_⟩
    show W.cell? ((⟨r, 0, none⟩ : Addr).add (0 * 2 + k)) = some u
    rw [Addr.add_mid, cell_of_row W r _ _ _ (0, 0) hb, show 0 + (0 * 2 + k) = k by omega, ← Array.getElem?_toList]; exact hk
theorem nil_C {α : Type} (d : Kd α) (W : World) : d.C W none ([] : List α).length [] := Kd.C_nil d W
theorem add_K (W : World) : EvA W xAdd cAdd := k46_mk W xAdd (A14 := none) (c14 := 0) (Nat.le_refl 0) (nil_C _ W) (A20 := none) (c20 := 0) (Nat.le_refl 0) (nil_C _ W) (A22 := none) (c22 := 0) (Nat.le_refl 0) (nil_C _ W) (A23 := none) (c23 := 0) (Nat.le_refl 0) (nil_C _ W) (A24 := none) (c24 := 0) (Nat.le_refl 0) (nil_C _ W) (A32 := none) (c32 := 0) (Nat.le_refl 0) (nil_C _ W) (A34 := none) (c34 := 0) (Nat.le_refl 0) (nil_C _ W) (A35 := none) (c35 := 0) (Nat.le_refl 0) (nil_C _ W) (A36 := none) (c36 := 0) (Nat.le_refl 0) (nil_C _ W)
theorem revoke_K (W : World) : EvA W xRevoke cRevoke := k46_mk W xRevoke (A14 := none) (c14 := 0) (Nat.le_refl 0) (nil_C _ W) (A20 := none) (c20 := 0) (Nat.le_refl 0) (nil_C _ W) (A22 := none) (c22 := 0) (Nat.le_refl 0) (nil_C _ W) (A23 := none) (c23 := 0) (Nat.le_refl 0) (nil_C _ W) (A24 := none) (c24 := 0) (Nat.le_refl 0) (nil_C _ W) (A32 := none) (c32 := 0) (Nat.le_refl 0) (nil_C _ W) (A34 := none) (c34 := 0) (Nat.le_refl 0) (nil_C _ W) (A35 := none) (c35 := 0) (Nat.le_refl 0) (nil_C _ W) (A36 := none) (c36 := 0) (Nat.le_refl 0) (nil_C _ W)
theorem issue_K {W : World} {r s : Nat} (t n : Int) (hr : Kd.C k32 W (some ⟨r, 0, none⟩) 1 [rA]) (hs : Kd.C k30 W (some ⟨s, 0, none⟩) 1 [⟨1, 1⟩]) : EvA W (xIssueAt t n) (cIssueAt t n r s) := k46_mk W (xIssueAt t n) (A14 := some ⟨r, 0, none⟩) (c14 := 1) (Nat.le_refl 1) hr (A20 := none) (c20 := 0) (Nat.le_refl 0) (nil_C _ W) (A22 := none) (c22 := 0) (Nat.le_refl 0) (nil_C _ W) (A23 := none) (c23 := 0) (Nat.le_refl 0) (nil_C _ W) (A24 := none) (c24 := 0) (Nat.le_refl 0) (nil_C _ W) (A32 := some ⟨r, 0, none⟩) (c32 := 1) (Nat.le_refl 1) hr (A34 := some ⟨s, 0, none⟩) (c34 := 1) (Nat.le_refl 1) hs (A35 := none) (c35 := 0) (Nat.le_refl 0) (nil_C _ W) (A36 := none) (c36 := 0) (Nat.le_refl 0) (nil_C _ W)
theorem evOk_small {x : Evt} (h : x = xAdd ∨ x = xRevoke ∨ ∃ t n, okI t ∧ okI n ∧ x = xIssueAt t n) : EvOk x := by
  have c0 : okCred ⟨⟨0, 0⟩, ⟨#[]⟩, 0, ⟨#[]⟩, ⟨⟨#[]⟩, ⟨#[]⟩⟩, ⟨⟨#[]⟩, ⟨#[]⟩⟩⟩ := by unfold okCred; decide
  have c1 : okCred ⟨⟨0, 0⟩, ⟨#[97]⟩, 1, ⟨#[97, 110, 110]⟩, ⟨⟨#[]⟩, ⟨#[]⟩⟩, ⟨⟨#[]⟩, ⟨#[]⟩⟩⟩ := by unfold okCred; decide
  rcases h with rfl | rfl | ⟨t, n, ht, hn, rfl⟩
  · exact ⟨rfl, rfl, rfl, rfl, c1, by decide, by decide, (fun i h => by cases h), (fun i h => by cases h)⟩
  · exact ⟨rfl, rfl, rfl, rfl, c0, by decide, by decide, (fun i h => by cases h), (fun i h => by cases h)⟩
  · exact ⟨ht, rfl, rfl, rfl, c0, by show (0 : Nat) < 21; decide, by show (1 : Nat) < 21; decide, (fun i h => by cases h), (fun i h => by obtain rfl := List.mem_singleton.mp h; exact ⟨rfl, rfl⟩)⟩
set_option maxRecDepth 100000 in
set_option maxHeartbeats 8000000 in
theorem Qbd (w : World) :
    Calls Tryd.prog 8 #[] w fun e w' => e = .returned (.bool true) ∧ Below w.heap.size w w' := by
  go_enter Tryd.func8, Tryd.ntmps8
  go_upto_region 2 with fail
  have hB1 := Qau w (.cells #[.string ⟨#[100, 49]⟩, .string ⟨#[97]⟩] 32); have hL1 : Below w.heap.size w (w.alloc (.cells #[.string ⟨#[100, 49]⟩, .string ⟨#[97]⟩] 32)) := Qad (Below.refl _ _) _
  generalize w.alloc (.cells #[.string ⟨#[100, 49]⟩, .string ⟨#[97]⟩] 32) = W1 at hB1 hL1 ⊢
  have HB1 := Lib.hid hB1; have HL1 := Lib.hid hL1; clear hB1 hL1
  go_upto_region 3 with (refine QaU rfl 46 _ _ rfl rfl (by first | rfl | exact congrArg (fun n => Value.pointer (some ⟨n, 0, none⟩)) (Array.size_push _).symm) cAdd rfl (by kernel_rfl) (by kernel_rfl) (by kernel_rfl) ?_)
  have hB2 := Qau W1 (.cells cAdd 46); have hL2 : Below W1.heap.size W1 (W1.alloc (.cells cAdd 46)) := Qad (Below.refl _ _) _
  generalize W1.alloc (.cells cAdd 46) = W2 at hB2 hL2 ⊢
  have HB2 := Lib.hid hB2; have HL2 := Lib.hid hL2; clear hB2 hL2
  go_upto_region 4 with (refine QaU rfl 46 _ _ rfl rfl (by first | rfl | exact congrArg (fun n => Value.pointer (some ⟨n, 0, none⟩)) (Array.size_push _).symm) (cIssue w.heap.size W2.heap.size) rfl (by kernel_rfl) (by kernel_rfl) (by kernel_rfl) ?_)
  have hB3 := Qav (Qau W2 (.cells #[.int .i64 1, .int .i64 1] 30)) (.cells (cIssue w.heap.size W2.heap.size) 46); have hB4 := Qau (W2.alloc (.cells #[.int .i64 1, .int .i64 1] 30)) (.cells (cIssue w.heap.size W2.heap.size) 46); rw [show (W2.alloc (.cells #[.int .i64 1, .int .i64 1] 30)).heap.size = W2.heap.size + 1 from Array.size_push _] at hB4; have hL3 : Below W2.heap.size W2 ((W2.alloc (.cells #[.int .i64 1, .int .i64 1] 30)).alloc (.cells (cIssue w.heap.size W2.heap.size) 46)) := Qad (Qad (Below.refl _ _) _) _
  generalize (W2.alloc (.cells #[.int .i64 1, .int .i64 1] 30)).alloc (.cells (cIssue w.heap.size W2.heap.size) 46) = W3 at hB3 hB4 hL3 ⊢
  have HB3 := Lib.hid hB3; have HB4 := Lib.hid hB4; have HL3 := Lib.hid hL3; clear hB3 hB4 hL3
  go_upto_region 5 with (refine QaU rfl 46 _ _ rfl rfl (by first | rfl | exact congrArg (fun n => Value.pointer (some ⟨n, 0, none⟩)) (Array.size_push _).symm) cRevoke rfl (by kernel_rfl) (by kernel_rfl) (by kernel_rfl) ?_)
  have hB5 := Qau W3 (.cells cRevoke 46); have hL4 : Below W3.heap.size W3 (W3.alloc (.cells cRevoke 46)) := Qad (Below.refl _ _) _; have hB4' := Qav HB4.out (.cells cRevoke 46)
  generalize W3.alloc (.cells cRevoke 46) = W4 at hB5 hL4 hB4' ⊢
  have HB5 := Lib.hid hB5; have HB4' := Lib.hid hB4'; have HL4 := Lib.hid hL4; clear hB5 hL4 hB4'
  go_upto_region 8 with (first | (refine Qah rfl 46 (.tmp 3) rfl _ rfl (cIssue w.heap.size W2.heap.size) _ (range0 HB4'.out) Tryd.underlying46 rfl (by kernel_rfl) ?_) | (refine QaU rfl 46 _ _ rfl rfl (by first | rfl | exact congrArg (fun n => Value.pointer (some ⟨n, 0, none⟩)) (Array.size_push _).symm) (cIssue w.heap.size W2.heap.size) rfl (by kernel_rfl) (by kernel_rfl) (by kernel_rfl) ?_))
  have hB6 := Qau W4 (.cells (cAgain w.heap.size W2.heap.size) 46); have hL5 : Below W4.heap.size W4 (W4.alloc (.cells (cAgain w.heap.size W2.heap.size) 46)) := Qad (Below.refl _ _) _
  generalize W4.alloc (.cells (cAgain w.heap.size W2.heap.size) 46) = W5 at hB6 hL5 ⊢
  have o1 : Below w.heap.size w W2 := Qab HL1.out HL2.out; have o2 : Below w.heap.size w W3 := Qab o1 HL3.out; have o3 : Below w.heap.size w W4 := Qab o2 HL4.out; have o4 : Below w.heap.size w W5 := Qab o3 hL5; have hR : Kd.C k32 W5 (some ⟨w.heap.size, 0, none⟩) 1 [rA] := role_C (Qac (Qac (Qac (Qac HB1.out HL2.out) HL3.out) HL4.out) hL5); have hI : Kd.C k30 W5 (some ⟨W2.heap.size, 0, none⟩) 1 [⟨1, 1⟩] := id_C (Qac (Qac HB3.out HL4.out) hL5); have k1 := add_K W5; have k2 := issue_K 2 1 hR hI; have k3 := revoke_K W5; have k4 := issue_K 3 2 hR hI; have a1 := Qac (Qac (Qac HB2.out HL3.out) HL4.out) hL5; have a2 : W5.heap[W2.heap.size + 1]? = some (.cells (cIssueAt 2 1 w.heap.size W2.heap.size) 46 (0, 0)) := Qac HB4'.out hL5; have a4 : W5.heap[W4.heap.size]? = some (.cells (cIssueAt 3 2 w.heap.size W2.heap.size) 46 (0, 0)) := hB6; have a3 := Qac HB5.out hL5
  have hE1 : ∃ E, E = cAdd := ⟨_, rfl⟩
  obtain ⟨E1, hE1⟩ := hE1; rw [← hE1] at k1 a1
  have hE2 : ∃ E, E = cIssueAt 2 1 w.heap.size W2.heap.size := ⟨_, rfl⟩
  obtain ⟨E2, hE2⟩ := hE2; rw [← hE2] at k2 a2
  have hE3 : ∃ E, E = cRevoke := ⟨_, rfl⟩
  obtain ⟨E3, hE3⟩ := hE3; rw [← hE3] at k3 a3
  have hE4 : ∃ E, E = cIssueAt 3 2 w.heap.size W2.heap.size := ⟨_, rfl⟩
  obtain ⟨E4, hE4⟩ := hE4; rw [← hE4] at k4 a4; clear hE1 hE2 hE3 hE4 hR hI; have sE1 := k1.size; have sE2 := k2.size; have sE3 := k3.size; have sE4 := k4.size; have HA1 := Lib.hid a1; have HA2 := Lib.hid a2; have HA3 := Lib.hid a3; have HA4 := Lib.hid a4; have HO5 := Lib.hid o4; have HK := Lib.hid (And.intro k1 (And.intro k2 (And.intro k3 k4))); have ok1 : EvOk xAdd := evOk_small (.inl rfl); have ok2 : EvOk (xIssueAt 2 1) := evOk_small (.inr (.inr ⟨2, 1, rfl, rfl, rfl⟩)); have ok3 : EvOk xRevoke := evOk_small (.inr (.inl rfl)); have ok4 : EvOk (xIssueAt 3 2) := evOk_small (.inr (.inr ⟨3, 2, rfl, rfl, rfl⟩)); have HOk1 := Lib.hid (show ∀ x ∈ [xAdd, xIssueAt 2 1, xRevoke], EvOk x by simp [ok1, ok2, ok3]); have HOk2 := Lib.hid (show ∀ x ∈ [xAdd, xIssueAt 2 1, xRevoke, xIssueAt 3 2], EvOk x by simp [ok1, ok2, ok3, ok4]); have HOk3 := Lib.hid (show ∀ x ∈ [xIssueAt 2 1], EvOk x by simp [ok2])
  have HX1 := Lib.hid (show ∀ (i : Nat) (x : Evt) (E : Array Value), [xAdd, xIssueAt 2 1, xRevoke][i]? = some x → [E1, E2, E3][i]? = some E → EvA W5 x E from fun i x E h1 h2 => by
    rcases i with _ | _ | _ | i <;> first | (obtain rfl := Option.some.inj h1; obtain rfl := Option.some.inj h2; assumption) | (simp at h1))
  clear k1 k2 k3 k4 a1 a2 a3 a4 hB6 o1 o2 o3 o4 ok1 ok2 ok3 ok4 HB1 HB2 HB3 HB4 HB5 HL1 HL2 HL3 HL4 hL5 HB4'
  go_upto_region 9 with (first | (refine Qah rfl 46 (.tmp 2) rfl _ rfl E1 _ (range0 HA1.out) Tryd.underlying46 rfl (by rw [sE1]; kernel_rfl) ?_) | (refine Qah rfl 46 (.tmp 3) rfl _ rfl E2 _ (range0 HA2.out) Tryd.underlying46 rfl (by rw [sE2]; kernel_rfl) ?_) | (refine Qah rfl 46 (.tmp 4) rfl _ rfl E3 _ (range0 HA3.out) Tryd.underlying46 rfl (by rw [sE3]; kernel_rfl) ?_) | (refine wpList_buildEv rfl 3 _ rfl [E1, E2, E3] [xAdd, xIssueAt 2 1, xRevoke] (fun i => 34 + i) rfl rfl (by decide) (by decide) rfl (HX1.out) (by rintro (_ | _ | _ | _ | i) E h <;> first | (obtain rfl := Option.some.inj h; rfl) | (simp at h)) ?_; intro W6 hC hb; have HC1 := Lib.hid hC; have HL1 := Lib.hid hb; clear hC hb) | (go_at_call 7; refine (check_calls W6 _ _ [xAdd, xIssueAt 2 1, xRevoke] HC1.out (by decide) (by decide) (HOk1.out)).mono ?_; rintro e W7 ⟨rfl, hb⟩; rw [lives1]; have HM1 := Lib.hid hb; clear hb))
  have b7 : Below W5.heap.size W5 W7 := Qab HL1.out HM1.out; have HA1' := Lib.hid (Qac HA1.out b7); have HA2' := Lib.hid (Qac HA2.out b7); have HA3' := Lib.hid (Qac HA3.out b7); have HA4' := Lib.hid (Qac HA4.out b7)
  have HX2 := Lib.hid (show ∀ (i : Nat) (x : Evt) (E : Array Value), [xAdd, xIssueAt 2 1, xRevoke, xIssueAt 3 2][i]? = some x → [E1, E2, E3, E4][i]? = some E → EvA W7 x E from fun i x E h1 h2 => by
    obtain ⟨k1, k2, k3, k4⟩ := HK.out
    rcases i with _ | _ | _ | _ | i <;> first | (obtain rfl := Option.some.inj h1; obtain rfl := Option.some.inj h2; apply EvA.below _ b7; assumption) | (simp at h1))
  have HB7 := Lib.hid b7; clear b7 HA1 HA2 HA3 HA4 HX1 HC1 HL1 HM1
  go_upto_region 10 with (first | (refine Qah rfl 46 (.tmp 2) rfl _ rfl E1 _ (range0 HA1'.out) Tryd.underlying46 rfl (by rw [sE1]; kernel_rfl) ?_) | (refine Qah rfl 46 (.tmp 3) rfl _ rfl E2 _ (range0 HA2'.out) Tryd.underlying46 rfl (by rw [sE2]; kernel_rfl) ?_) | (refine Qah rfl 46 (.tmp 4) rfl _ rfl E3 _ (range0 HA3'.out) Tryd.underlying46 rfl (by rw [sE3]; kernel_rfl) ?_) | (refine Qah rfl 46 (.tmp 5) rfl _ rfl E4 _ (range0 HA4'.out) Tryd.underlying46 rfl (by rw [sE4]; kernel_rfl) ?_) | (refine wpList_buildEv rfl 4 _ rfl [E1, E2, E3, E4] [xAdd, xIssueAt 2 1, xRevoke, xIssueAt 3 2] (fun i => 42 + i) rfl rfl (by decide) (by decide) rfl (HX2.out) (by rintro (_ | _ | _ | _ | i) E h <;> first | (obtain rfl := Option.some.inj h; rfl) | (simp at h)) ?_; intro W8 hC hb; have HC2 := Lib.hid hC; have HL2 := Lib.hid hb; clear hC hb) | (go_at_call 7; refine (check_calls W8 _ _ [xAdd, xIssueAt 2 1, xRevoke, xIssueAt 3 2] HC2.out (by decide) (by decide) (HOk2.out)).mono ?_; rintro e W9 ⟨rfl, hb⟩; rw [lives2]; have HM2 := Lib.hid hb; clear hb))
  have b9 : Below W5.heap.size W5 W9 := Qab (Qab HB7.out HL2.out) HM2.out; have HA2 := Lib.hid (Qac HA2'.out (Qab HL2.out HM2.out))
  have HX3 := Lib.hid (show ∀ (i : Nat) (x : Evt) (E : Array Value), [xIssueAt 2 1][i]? = some x → [E2][i]? = some E → EvA W9 x E from fun i x E h1 h2 => by
    obtain ⟨k1, k2, k3, k4⟩ := HK.out
    rcases i with _ | _ | _ | _ | i <;> first | (obtain rfl := Option.some.inj h1; obtain rfl := Option.some.inj h2; apply EvA.below _ b9; assumption) | (simp at h1))
  have HB9 := Lib.hid b9; clear b9 HA1' HA2' HA3' HA4' HX2 HC2 HL2 HM2 HB7
  go_wp2_with (first | (refine Qah rfl 46 (.tmp 3) rfl _ rfl E2 _ (range0 HA2.out) Tryd.underlying46 rfl (by rw [sE2]; kernel_rfl) ?_) | (refine wpList_buildEv rfl 1 _ rfl [E2] [xIssueAt 2 1] (fun i => 51 + i) rfl rfl (by decide) (by decide) rfl (HX3.out) (by rintro (_ | _ | _ | _ | i) E h <;> first | (obtain rfl := Option.some.inj h; rfl) | (simp at h)) ?_; intro W10 hC hb; have HC3 := Lib.hid hC; have HL3 := Lib.hid hb; clear hC hb) | (go_at_call 7; refine (check_calls W10 _ _ [xIssueAt 2 1] HC3.out (by decide) (by decide) (HOk3.out)).mono ?_; rintro e W11 ⟨rfl, hb⟩; rw [lives3]; have HM3 := Lib.hid hb; clear hb))
  have hfin : Below w.heap.size w W11 := Qab (Qab (Qab HO5.out HB9.out) HL3.out) HM3.out; refine bodyPost_ret (results_tmp rfl _ _ _) rfl ?_; exact ⟨rfl, hfin⟩
theorem few_len (l : List Evt) : (few l).length ≤ 30 := by
  unfold few; rw [List.length_map, List.length_take]; omega
theorem few_ok {l : List Evt} (h : ∀ x ∈ l, okI x.f0 ∧ okI x.f1 ∧ (okCred x.f2.f1 ∧ okI x.f2.f2 ∧ ∀ i ∈ x.f2.f6.f6, okID i) ∧ okI x.f3.f1 ∧ ∀ i ∈ x.f3.f2.f6, okID i) : ∀ x ∈ few l, EvOk x := by
  intro x hx; obtain ⟨y, hy, rfl⟩ := List.mem_map.mp hx; obtain ⟨h0, h1, ⟨hc, h2, h6⟩, h3, h7⟩ := h y (List.mem_of_mem_take hy); refine ⟨h0, h1, h2, h3, hc, ?_, ?_, ?_, ?_⟩
  · show (List.take 12 _).length < 21
    rw [List.length_take]; omega
  · show (List.take 12 _).length < 21
    rw [List.length_take]; omega
  · intro i hi
    exact h6 i (List.mem_of_mem_take (List.mem_of_mem_take hi))
  · intro i hi
    exact h7 i (List.mem_of_mem_take (List.mem_of_mem_take hi))
theorem few_callsL (w : World) (A : Option Addr) (c : Nat) (l L : List Evt) (hL : few l = L) (hc : l.length ≤ c) (h : Kd.C kEvt w A l.length l) :
    Calls Tryd.prog 6 #[.slice A l.length c] w fun e w' => ∃ A' c', e = .returned (.slice A' L.length c') ∧ L.length ≤ c' ∧ Kd.C kEvt w' A' L.length L ∧ Below w.heap.size w w' := by
  subst hL; exact few_calls w A c l hc h
theorem check_callsN (w : World) (A : Option Addr) (c : Nat) (l : List Evt) (n : Nat) (r : Option Nat) (hn : l.length = n) (hC : Kd.C kEvt w A n l) (hc : n ≤ c) (hl : n ≤ 1000) (hok : ∀ x ∈ l, EvOk x) (hr : checkF am0 l 0 = r) :
    Calls Tryd.prog 7 #[.slice A n c] w fun e w' => e = .returned (.tuple #[.int .i64 (resI r), .int .i64 (resE r)]) ∧ Below w.heap.size w w' := by
  subst hn hr; exact check_calls w A c l hC hc hl hok
theorem evs_ok {l : List Evt} (h : ∀ x ∈ l, okEvent x) : ∀ x ∈ few l, EvOk x := few_ok (fun x hx => by
  obtain ⟨h0, h1, ⟨h2, h3, h4⟩, h5, h6⟩ := h x hx
  exact ⟨h0, h1, ⟨h2, h3, h4⟩, h5, h6⟩)
open Classical in
theorem addF_time (m : AM) (x : Evt) : (addF m x).2.time = m.time := by
  unfold addF
  split <;> rfl
theorem revokeF_time (m : AM) (x : Evt) : (revokeF m x).2.time = m.time := by
  unfold revokeF
  split
  · rfl
  · split <;> rfl
theorem issueF_time (m : AM) (x : Evt) : (issueF m x).2.time = m.time := by
  unfold issueF
  split <;> rfl
noncomputable def restF (m : AM) (x : Evt) : Bool × AM :=
  if x.f3.f0 ≠ 0 then (nothingB x.f3, { m with time := x.f0 })
  else if x.f2.f0 = 1 then addF { m with time := x.f0 } x
  else if x.f2.f0 = 2 then revokeF { m with time := x.f0 } x
  else if x.f2.f0 = 3 then issueF { m with time := x.f0 } x
  else if x.f2.f0 = 4 then (verifyF { m with time := x.f0 } x, { m with time := x.f0 })
  else (true, { m with time := x.f0 })
theorem soundF_rest {m : AM} {x : Evt} (ht : m.time ≤ x.f0) (hd : ¬ (domName x.f1).toList = []) : soundF m x = restF m x := if_neg (fun h => h.elim (fun h => by omega) hd)
theorem restF_time (m : AM) (x : Evt) : (restF m x).2.time = x.f0 := by
  unfold restF
  split
  · rfl
  · split
    · rw [addF_time]
    · split
      · rw [revokeF_time]
      · split
        · rw [issueF_time]
        · split <;> rfl
theorem refused_check : ∀ (l : List Evt) (m : AM) (t : Int) (i j : Nat), t ≤ m.time → (∀ x ∈ l, m.time ≤ x.f0) → l.Pairwise (fun x y => x.f0 ≤ y.f0) → (∀ x ∈ l, ¬ (domName x.f1).toList = []) → (∀ x ∈ l, x.f3.f0 ≠ 0 → nothingB x.f3 = true) →
    (checkF m l i).isSome = (checkF { m with time := t } (l.filter fun x => decide (x.f3.f0 = 0)) j).isSome
  | [], m, t, i, j, _, _, _, _, _ => rfl
  | x :: xs, m, t, i, j, ht, hm, hp, hd, hn => by
    have hx := hm x (List.mem_cons_self ..); have hdx := hd x (List.mem_cons_self ..); obtain ⟨hp1, hp2⟩ := List.pairwise_cons.mp hp
    have hd' := fun y hy => hd y (List.mem_cons_of_mem x hy)
    have hn' := fun y hy => hn y (List.mem_cons_of_mem x hy)
    rw [checkF, soundF_rest hx hdx]
    by_cases h0 : x.f3.f0 = 0
    · rw [List.filter_cons_of_pos (by simpa using h0), checkF, soundF_rest (m := { m with time := t }) (Int.le_trans ht hx) hdx]
      show (if (restF m x).1 = true then checkF (restF m x).2 xs (i + 1) else some i).isSome = (if (restF m x).1 = true then checkF (restF m x).2 (xs.filter fun x => decide (x.f3.f0 = 0)) (j + 1) else some j).isSome
      split
      · have htm := restF_time m x
        exact refused_check xs (restF m x).2 (restF m x).2.time (i + 1) (j + 1) (Int.le_refl _) (fun y hy => by rw [htm]; exact hp1 y hy) hp2 hd' hn'
      · rfl
    · rw [List.filter_cons_of_neg (by simpa using h0)]
      have hr : restF m x = (true, { m with time := x.f0 }) := by
        unfold restF; rw [if_pos h0, hn x (List.mem_cons_self ..) h0]
      rw [hr, if_pos rfl]; exact refused_check xs { m with time := x.f0 } t (i + 1) j (Int.le_trans ht hx) hp1 hp2 hd' hn'
theorem resE_isSome (r : Option Nat) : resE r = if r.isSome = true then 13 else 0 := by cases r <;> rfl
theorem refused_same {l : List Evt} (h0 : ∀ x ∈ l, 0 ≤ x.f0) (hp : l.Pairwise fun x y => x.f0 ≤ y.f0) (hd : ∀ x ∈ l, 1 ≤ x.f1 ∧ x.f1 ≤ 16) (hn : ∀ x ∈ l, x.f3.f0 ≠ 0 → nothingB x.f3 = true) : resE (checkF am0 l 0) = resE (checkF am0 (l.filter fun x => decide (x.f3.f0 = 0)) 0) := by
  rw [resE_isSome, resE_isSome]
  have := refused_check l am0 0 0 0 (Int.le_refl _) (fun x hx => h0 x hx) hp (fun x hx => by
    obtain ⟨h1, h2⟩ := hd x hx; intro h
    have hne : ∀ n : Nat, n < 16 → ¬ (domName ((n : Int) + 1)).toList = [] := by
      intro n hn
      match n, hn with
      | 0, _ | 1, _ | 2, _ | 3, _ | 4, _ | 5, _ | 6, _ | 7, _ | 8, _ | 9, _ | 10, _ | 11, _ | 12, _ | 13, _ | 14, _ | 15, _ => exact fun h => by have := congrArg List.length h; revert this; decide +kernel
      | n + 16, hn => omega
    have hx1 : ((x.f1 - 1).toNat : Int) + 1 = x.f1 := by omega
    exact hne (x.f1 - 1).toNat (by omega) (by rw [hx1]; exact h)) hn
  rw [show ({ am0 with time := 0 } : AM) = am0 from rfl] at this; rw [this]
def noneT (t : Tok) : Bool := decide (t.f4.length = 0) && decide (t.f6.length = 0) && decide (t.f8.length = 0) && decide (t.f0 = 0) && decide (t.f1 = 0) && decide (t.f2 = 0) && decide (t.f3.toList = []) && decide (t.f5 = 0) && decide (t.f7.length = 0)
theorem none_nothing {r : S44} (h : noneT r.f2 = true) (h1 : r.f1 = 0) : nothingB r = true := by
  simp only [noneT, Bool.and_eq_true, decide_eq_true_eq] at h; obtain ⟨⟨⟨⟨⟨⟨⟨⟨a, b⟩, c⟩, d⟩, e⟩, f⟩, g⟩, i⟩, j⟩ := h; unfold nothingB; rw [a, b, c, j]
  have w0 : wrap64 0 = 0 := by unfold wrap64; omega
  simp [h1, d, e, f, g, i, w0]
set_option maxRecDepth 100000 in
set_option maxHeartbeats 1000000 in
theorem QaC (w : World) (A : Option Addr) (n c : Nat) :
    Calls Tryd.prog 12 #[.slice A n c, .slice none 0 0] w fun e w' => e = .returned (.bool (decide (n = 0))) ∧ Below w.heap.size w w' := by
  go_enter Tryd.func12, Tryd.ntmps12
  by_cases h : n = 0
  · subst h
    go_wp2_with fail
    go_loopg [5] 1 (fun kq v3 w' => v3 = .int .i64 0 ∧ Hid (Below w.heap.size w w'))
    case atStart => exact ⟨rfl, Lib.hid (Below.refl _ _)⟩
    case round =>
      obtain ⟨rfl, HB⟩ := hrel
      go_wp2_with fail
      refine bodyPost_ret (results_tmp rfl _ _ _) rfl ?_; exact ⟨rfl, HB.out⟩
  · have e1 : decide (n = 0) = false := decide_eq_false h
    have e2 : ((n : Int) == 0) = false := by simpa using h
    have e3 : ¬ ((n : Int) = 0) := by omega
    go_wp2_with fail
    refine bodyPost_ret (results_tmp rfl _ _ _) rfl ?_; exact ⟨by rw [e1]; rfl, Below.refl _ _⟩
set_option maxRecDepth 100000 in
set_option maxHeartbeats 1000000 in
theorem QaJ (w : World) (A : Option Addr) (n c : Nat) :
    Calls Tryd.prog 13 #[.slice A n c, .slice none 0 0] w fun e w' => e = .returned (.bool (decide (n = 0))) ∧ Below w.heap.size w w' := by
  go_enter Tryd.func13, Tryd.ntmps13
  by_cases h : n = 0
  · subst h
    go_wp2_with fail
    go_loopg [5] 1 (fun kq v3 w' => v3 = .int .i64 0 ∧ Hid (Below w.heap.size w w'))
    case atStart => exact ⟨rfl, Lib.hid (Below.refl _ _)⟩
    case round =>
      obtain ⟨rfl, HB⟩ := hrel
      go_wp2_with fail
      refine bodyPost_ret (results_tmp rfl _ _ _) rfl ?_; exact ⟨rfl, HB.out⟩
  · have e1 : decide (n = 0) = false := decide_eq_false h
    have e2 : ((n : Int) == 0) = false := by simpa using h
    have e3 : ¬ ((n : Int) = 0) := by omega
    go_wp2_with fail
    refine bodyPost_ret (results_tmp rfl _ _ _) rfl ?_; exact ⟨by rw [e1]; rfl, Below.refl _ _⟩
set_option maxRecDepth 100000 in
set_option maxHeartbeats 1000000 in
theorem QaI (w : World) (A : Option Addr) (n c : Nat) :
    Calls Tryd.prog 14 #[.slice A n c, .slice none 0 0] w fun e w' => e = .returned (.bool (decide (n = 0))) ∧ Below w.heap.size w w' := by
  go_enter Tryd.func14, Tryd.ntmps14
  by_cases h : n = 0
  · subst h
    go_wp2_with fail
    go_loopg [5] 1 (fun kq v3 w' => v3 = .int .i64 0 ∧ Hid (Below w.heap.size w w'))
    case atStart => exact ⟨rfl, Lib.hid (Below.refl _ _)⟩
    case round =>
      obtain ⟨rfl, HB⟩ := hrel
      go_wp2_with fail
      refine bodyPost_ret (results_tmp rfl _ _ _) rfl ?_; exact ⟨rfl, HB.out⟩
  · have e1 : decide (n = 0) = false := decide_eq_false h
    have e2 : ((n : Int) == 0) = false := by simpa using h
    have e3 : ¬ ((n : Int) = 0) := by omega
    go_wp2_with fail
    refine bodyPost_ret (results_tmp rfl _ _ _) rfl ?_; exact ⟨by rw [e1]; rfl, Below.refl _ _⟩
set_option maxRecDepth 100000 in
set_option maxHeartbeats 2000000 in
theorem same0_calls (w : World) (t : Tok) (A4 : Option Addr) (c4 : Nat) (A6 : Option Addr) (c6 : Nat) (A7 : Option Addr) (c7 : Nat) (A8 : Option Addr) (c8 : Nat) :
    Calls Tryd.prog 9 #[.agg (tokV t A4 c4 A6 c6 A7 c7 A8 c8), .agg zTokV] w fun e w' => e = .returned (.bool (noneT t)) ∧ Below w.heap.size w w' := by
  go_enter Tryd.func9, Tryd.ntmps9
  go_upto_region 1 with fail
  generalize hW : (w.alloc (.cells (tokV t A4 c4 A6 c6 A7 c7 A8 c8) 40)).alloc (.cells zTokV 40) = W
  have z1 : W.heap[w.heap.size]? = some (.cells (tokV t A4 c4 A6 c6 A7 c7 A8 c8) 40 (0, 0)) := by rw [← hW]; exact Qav (Qau w _) _
  have z2 : W.heap[w.heap.size + 1]? = some (.cells zTokV 40 (0, 0)) := by
    rw [← hW]; have := Qau (w.alloc (.cells (tokV t A4 c4 A6 c6 A7 c7 A8 c8) 40)) (.cells zTokV 40); rw [show (w.alloc (.cells (tokV t A4 c4 A6 c6 A7 c7 A8 c8) 40)).heap.size = w.heap.size + 1 from Array.size_push _] at this; exact this
  have HBW := Lib.hid (show Below w.heap.size w W by rw [← hW]; exact Qad (Qad (Below.refl _ _) _) _); have HZ1 := Lib.hid z1; have HZ2 := Lib.hid z2; have s4 := Qaa z1 4 (v := .slice A4 t.f4.length c4) rfl; have r4 := Qaa z2 4 (v := .slice none 0 0) rfl; clear hW z1 z2
  by_cases h0 : t.f4 = []
  case neg =>
    have d0 : decide (t.f4 = []) = false := decide_eq_false h0; have HN := Lib.hid (show noneT t = false from by unfold noneT; simp [h0]); clear h0
    go_wp2_with (first | (go_at_call 12; refine (QaC _ _ _ _).mono ?_; rintro e w2 ⟨rfl, hb2⟩; have HB2 := Lib.hid hb2; have HP2 := Lib.hid (Qac HZ1.out hb2); have HQ2 := Lib.hid (Qac HZ2.out hb2); clear hb2 s4 r4; have s6 := Qaa HP2.out 6 (v := .slice A6 t.f6.length c6) rfl; have r6 := Qaa HQ2.out 6 (v := .slice none 0 0) rfl) | (go_at_call 13; refine (QaJ _ _ _ _).mono ?_; rintro e w3 ⟨rfl, hb3⟩; have HB3 := Lib.hid hb3; have HP3 := Lib.hid (Qac HP2.out hb3); have HQ3 := Lib.hid (Qac HQ2.out hb3); clear hb3 s6 r6; have s8 := Qaa HP3.out 8 (v := .slice A8 t.f8.length c8) rfl; have r8 := Qaa HQ3.out 8 (v := .slice none 0 0) rfl) | (go_at_call 14; refine (QaI _ _ _ _).mono ?_; rintro e w4 ⟨rfl, hb4⟩; have HB4 := Lib.hid hb4; have HP4 := Lib.hid (Qac HP3.out hb4); have HQ4 := Lib.hid (Qac HQ3.out hb4); clear hb4 s8 r8; have s0 := Qaa HP4.out 0 (v := .int .i64 t.f0) rfl; have r0 := Qaa HQ4.out 0 (v := .int .i64 0) rfl; have s1 := Qaa HP4.out 1 (v := .int .i64 t.f1) rfl; have r1 := Qaa HQ4.out 1 (v := .int .i64 0) rfl; have s2 := Qaa HP4.out 2 (v := .int .i64 t.f2) rfl; have r2 := Qaa HQ4.out 2 (v := .int .i64 0) rfl; have s3 := Qaa HP4.out 3 (v := .string t.f3) rfl; have r3 := Qaa HQ4.out 3 (v := .string ⟨#[]⟩) rfl; have s5 := Qaa HP4.out 5 (v := .int .i64 t.f5) rfl; have r5 := Qaa HQ4.out 5 (v := .int .i64 0) rfl; have s7 := Qaa HP4.out 7 (v := .slice A7 t.f7.length c7) rfl; have r7 := Qaa HQ4.out 7 (v := .slice none 0 0) rfl))
    all_goals
      refine bodyPost_ret (results_tmp rfl _ _ _) rfl ?_; exact ⟨by rw [HN.out]; rfl, Qab (Qab (Qab HBW.out HB2.out) HB3.out) HB4.out⟩
  have d0 : decide (t.f4 = []) = true := decide_eq_true h0
  by_cases h1 : t.f6 = []
  case neg =>
    have d1 : decide (t.f6 = []) = false := decide_eq_false h1; have HN := Lib.hid (show noneT t = false from by unfold noneT; simp [h1]); clear h0 h1
    go_wp2_with (first | (go_at_call 12; refine (QaC _ _ _ _).mono ?_; rintro e w2 ⟨rfl, hb2⟩; have HB2 := Lib.hid hb2; have HP2 := Lib.hid (Qac HZ1.out hb2); have HQ2 := Lib.hid (Qac HZ2.out hb2); clear hb2 s4 r4; have s6 := Qaa HP2.out 6 (v := .slice A6 t.f6.length c6) rfl; have r6 := Qaa HQ2.out 6 (v := .slice none 0 0) rfl) | (go_at_call 13; refine (QaJ _ _ _ _).mono ?_; rintro e w3 ⟨rfl, hb3⟩; have HB3 := Lib.hid hb3; have HP3 := Lib.hid (Qac HP2.out hb3); have HQ3 := Lib.hid (Qac HQ2.out hb3); clear hb3 s6 r6; have s8 := Qaa HP3.out 8 (v := .slice A8 t.f8.length c8) rfl; have r8 := Qaa HQ3.out 8 (v := .slice none 0 0) rfl) | (go_at_call 14; refine (QaI _ _ _ _).mono ?_; rintro e w4 ⟨rfl, hb4⟩; have HB4 := Lib.hid hb4; have HP4 := Lib.hid (Qac HP3.out hb4); have HQ4 := Lib.hid (Qac HQ3.out hb4); clear hb4 s8 r8; have s0 := Qaa HP4.out 0 (v := .int .i64 t.f0) rfl; have r0 := Qaa HQ4.out 0 (v := .int .i64 0) rfl; have s1 := Qaa HP4.out 1 (v := .int .i64 t.f1) rfl; have r1 := Qaa HQ4.out 1 (v := .int .i64 0) rfl; have s2 := Qaa HP4.out 2 (v := .int .i64 t.f2) rfl; have r2 := Qaa HQ4.out 2 (v := .int .i64 0) rfl; have s3 := Qaa HP4.out 3 (v := .string t.f3) rfl; have r3 := Qaa HQ4.out 3 (v := .string ⟨#[]⟩) rfl; have s5 := Qaa HP4.out 5 (v := .int .i64 t.f5) rfl; have r5 := Qaa HQ4.out 5 (v := .int .i64 0) rfl; have s7 := Qaa HP4.out 7 (v := .slice A7 t.f7.length c7) rfl; have r7 := Qaa HQ4.out 7 (v := .slice none 0 0) rfl))
    all_goals
      refine bodyPost_ret (results_tmp rfl _ _ _) rfl ?_; exact ⟨by rw [HN.out]; rfl, Qab (Qab (Qab HBW.out HB2.out) HB3.out) HB4.out⟩
  have d1 : decide (t.f6 = []) = true := decide_eq_true h1
  by_cases h2 : t.f8 = []
  case neg =>
    have d2 : decide (t.f8 = []) = false := decide_eq_false h2; have HN := Lib.hid (show noneT t = false from by unfold noneT; simp [h2]); clear h0 h1 h2
    go_wp2_with (first | (go_at_call 12; refine (QaC _ _ _ _).mono ?_; rintro e w2 ⟨rfl, hb2⟩; have HB2 := Lib.hid hb2; have HP2 := Lib.hid (Qac HZ1.out hb2); have HQ2 := Lib.hid (Qac HZ2.out hb2); clear hb2 s4 r4; have s6 := Qaa HP2.out 6 (v := .slice A6 t.f6.length c6) rfl; have r6 := Qaa HQ2.out 6 (v := .slice none 0 0) rfl) | (go_at_call 13; refine (QaJ _ _ _ _).mono ?_; rintro e w3 ⟨rfl, hb3⟩; have HB3 := Lib.hid hb3; have HP3 := Lib.hid (Qac HP2.out hb3); have HQ3 := Lib.hid (Qac HQ2.out hb3); clear hb3 s6 r6; have s8 := Qaa HP3.out 8 (v := .slice A8 t.f8.length c8) rfl; have r8 := Qaa HQ3.out 8 (v := .slice none 0 0) rfl) | (go_at_call 14; refine (QaI _ _ _ _).mono ?_; rintro e w4 ⟨rfl, hb4⟩; have HB4 := Lib.hid hb4; have HP4 := Lib.hid (Qac HP3.out hb4); have HQ4 := Lib.hid (Qac HQ3.out hb4); clear hb4 s8 r8; have s0 := Qaa HP4.out 0 (v := .int .i64 t.f0) rfl; have r0 := Qaa HQ4.out 0 (v := .int .i64 0) rfl; have s1 := Qaa HP4.out 1 (v := .int .i64 t.f1) rfl; have r1 := Qaa HQ4.out 1 (v := .int .i64 0) rfl; have s2 := Qaa HP4.out 2 (v := .int .i64 t.f2) rfl; have r2 := Qaa HQ4.out 2 (v := .int .i64 0) rfl; have s3 := Qaa HP4.out 3 (v := .string t.f3) rfl; have r3 := Qaa HQ4.out 3 (v := .string ⟨#[]⟩) rfl; have s5 := Qaa HP4.out 5 (v := .int .i64 t.f5) rfl; have r5 := Qaa HQ4.out 5 (v := .int .i64 0) rfl; have s7 := Qaa HP4.out 7 (v := .slice A7 t.f7.length c7) rfl; have r7 := Qaa HQ4.out 7 (v := .slice none 0 0) rfl))
    all_goals
      refine bodyPost_ret (results_tmp rfl _ _ _) rfl ?_; exact ⟨by rw [HN.out]; rfl, Qab (Qab (Qab HBW.out HB2.out) HB3.out) HB4.out⟩
  have d2 : decide (t.f8 = []) = true := decide_eq_true h2
  by_cases h3 : t.f0 = 0
  case neg =>
    have d3 : (t.f0 == 0) = false := by simpa using h3
    have HN := Lib.hid (show noneT t = false from by unfold noneT; simp [h3]); clear h0 h1 h2 h3
    go_wp2_with (first | (go_at_call 12; refine (QaC _ _ _ _).mono ?_; rintro e w2 ⟨rfl, hb2⟩; have HB2 := Lib.hid hb2; have HP2 := Lib.hid (Qac HZ1.out hb2); have HQ2 := Lib.hid (Qac HZ2.out hb2); clear hb2 s4 r4; have s6 := Qaa HP2.out 6 (v := .slice A6 t.f6.length c6) rfl; have r6 := Qaa HQ2.out 6 (v := .slice none 0 0) rfl) | (go_at_call 13; refine (QaJ _ _ _ _).mono ?_; rintro e w3 ⟨rfl, hb3⟩; have HB3 := Lib.hid hb3; have HP3 := Lib.hid (Qac HP2.out hb3); have HQ3 := Lib.hid (Qac HQ2.out hb3); clear hb3 s6 r6; have s8 := Qaa HP3.out 8 (v := .slice A8 t.f8.length c8) rfl; have r8 := Qaa HQ3.out 8 (v := .slice none 0 0) rfl) | (go_at_call 14; refine (QaI _ _ _ _).mono ?_; rintro e w4 ⟨rfl, hb4⟩; have HB4 := Lib.hid hb4; have HP4 := Lib.hid (Qac HP3.out hb4); have HQ4 := Lib.hid (Qac HQ3.out hb4); clear hb4 s8 r8; have s0 := Qaa HP4.out 0 (v := .int .i64 t.f0) rfl; have r0 := Qaa HQ4.out 0 (v := .int .i64 0) rfl; have s1 := Qaa HP4.out 1 (v := .int .i64 t.f1) rfl; have r1 := Qaa HQ4.out 1 (v := .int .i64 0) rfl; have s2 := Qaa HP4.out 2 (v := .int .i64 t.f2) rfl; have r2 := Qaa HQ4.out 2 (v := .int .i64 0) rfl; have s3 := Qaa HP4.out 3 (v := .string t.f3) rfl; have r3 := Qaa HQ4.out 3 (v := .string ⟨#[]⟩) rfl; have s5 := Qaa HP4.out 5 (v := .int .i64 t.f5) rfl; have r5 := Qaa HQ4.out 5 (v := .int .i64 0) rfl; have s7 := Qaa HP4.out 7 (v := .slice A7 t.f7.length c7) rfl; have r7 := Qaa HQ4.out 7 (v := .slice none 0 0) rfl))
    all_goals
      refine bodyPost_ret (results_tmp rfl _ _ _) rfl ?_; exact ⟨by rw [HN.out]; rfl, Qab (Qab (Qab HBW.out HB2.out) HB3.out) HB4.out⟩
  have d3 : (t.f0 == 0) = true := by simpa using h3
  by_cases h4 : t.f1 = 0
  case neg =>
    have d4 : (t.f1 == 0) = false := by simpa using h4
    have HN := Lib.hid (show noneT t = false from by unfold noneT; simp [h4]); clear h0 h1 h2 h3 h4
    go_wp2_with (first | (go_at_call 12; refine (QaC _ _ _ _).mono ?_; rintro e w2 ⟨rfl, hb2⟩; have HB2 := Lib.hid hb2; have HP2 := Lib.hid (Qac HZ1.out hb2); have HQ2 := Lib.hid (Qac HZ2.out hb2); clear hb2 s4 r4; have s6 := Qaa HP2.out 6 (v := .slice A6 t.f6.length c6) rfl; have r6 := Qaa HQ2.out 6 (v := .slice none 0 0) rfl) | (go_at_call 13; refine (QaJ _ _ _ _).mono ?_; rintro e w3 ⟨rfl, hb3⟩; have HB3 := Lib.hid hb3; have HP3 := Lib.hid (Qac HP2.out hb3); have HQ3 := Lib.hid (Qac HQ2.out hb3); clear hb3 s6 r6; have s8 := Qaa HP3.out 8 (v := .slice A8 t.f8.length c8) rfl; have r8 := Qaa HQ3.out 8 (v := .slice none 0 0) rfl) | (go_at_call 14; refine (QaI _ _ _ _).mono ?_; rintro e w4 ⟨rfl, hb4⟩; have HB4 := Lib.hid hb4; have HP4 := Lib.hid (Qac HP3.out hb4); have HQ4 := Lib.hid (Qac HQ3.out hb4); clear hb4 s8 r8; have s0 := Qaa HP4.out 0 (v := .int .i64 t.f0) rfl; have r0 := Qaa HQ4.out 0 (v := .int .i64 0) rfl; have s1 := Qaa HP4.out 1 (v := .int .i64 t.f1) rfl; have r1 := Qaa HQ4.out 1 (v := .int .i64 0) rfl; have s2 := Qaa HP4.out 2 (v := .int .i64 t.f2) rfl; have r2 := Qaa HQ4.out 2 (v := .int .i64 0) rfl; have s3 := Qaa HP4.out 3 (v := .string t.f3) rfl; have r3 := Qaa HQ4.out 3 (v := .string ⟨#[]⟩) rfl; have s5 := Qaa HP4.out 5 (v := .int .i64 t.f5) rfl; have r5 := Qaa HQ4.out 5 (v := .int .i64 0) rfl; have s7 := Qaa HP4.out 7 (v := .slice A7 t.f7.length c7) rfl; have r7 := Qaa HQ4.out 7 (v := .slice none 0 0) rfl))
    all_goals
      refine bodyPost_ret (results_tmp rfl _ _ _) rfl ?_; exact ⟨by rw [HN.out]; rfl, Qab (Qab (Qab HBW.out HB2.out) HB3.out) HB4.out⟩
  have d4 : (t.f1 == 0) = true := by simpa using h4
  by_cases h5 : t.f2 = 0
  case neg =>
    have d5 : (t.f2 == 0) = false := by simpa using h5
    have HN := Lib.hid (show noneT t = false from by unfold noneT; simp [h5]); clear h0 h1 h2 h3 h4 h5
    go_wp2_with (first | (go_at_call 12; refine (QaC _ _ _ _).mono ?_; rintro e w2 ⟨rfl, hb2⟩; have HB2 := Lib.hid hb2; have HP2 := Lib.hid (Qac HZ1.out hb2); have HQ2 := Lib.hid (Qac HZ2.out hb2); clear hb2 s4 r4; have s6 := Qaa HP2.out 6 (v := .slice A6 t.f6.length c6) rfl; have r6 := Qaa HQ2.out 6 (v := .slice none 0 0) rfl) | (go_at_call 13; refine (QaJ _ _ _ _).mono ?_; rintro e w3 ⟨rfl, hb3⟩; have HB3 := Lib.hid hb3; have HP3 := Lib.hid (Qac HP2.out hb3); have HQ3 := Lib.hid (Qac HQ2.out hb3); clear hb3 s6 r6; have s8 := Qaa HP3.out 8 (v := .slice A8 t.f8.length c8) rfl; have r8 := Qaa HQ3.out 8 (v := .slice none 0 0) rfl) | (go_at_call 14; refine (QaI _ _ _ _).mono ?_; rintro e w4 ⟨rfl, hb4⟩; have HB4 := Lib.hid hb4; have HP4 := Lib.hid (Qac HP3.out hb4); have HQ4 := Lib.hid (Qac HQ3.out hb4); clear hb4 s8 r8; have s0 := Qaa HP4.out 0 (v := .int .i64 t.f0) rfl; have r0 := Qaa HQ4.out 0 (v := .int .i64 0) rfl; have s1 := Qaa HP4.out 1 (v := .int .i64 t.f1) rfl; have r1 := Qaa HQ4.out 1 (v := .int .i64 0) rfl; have s2 := Qaa HP4.out 2 (v := .int .i64 t.f2) rfl; have r2 := Qaa HQ4.out 2 (v := .int .i64 0) rfl; have s3 := Qaa HP4.out 3 (v := .string t.f3) rfl; have r3 := Qaa HQ4.out 3 (v := .string ⟨#[]⟩) rfl; have s5 := Qaa HP4.out 5 (v := .int .i64 t.f5) rfl; have r5 := Qaa HQ4.out 5 (v := .int .i64 0) rfl; have s7 := Qaa HP4.out 7 (v := .slice A7 t.f7.length c7) rfl; have r7 := Qaa HQ4.out 7 (v := .slice none 0 0) rfl))
    all_goals
      refine bodyPost_ret (results_tmp rfl _ _ _) rfl ?_; exact ⟨by rw [HN.out]; rfl, Qab (Qab (Qab HBW.out HB2.out) HB3.out) HB4.out⟩
  have d5 : (t.f2 == 0) = true := by simpa using h5
  by_cases h6 : t.f3.toList = []
  case neg =>
    have d6 : (t.f3.toList == ([] : List UInt8)) = false := by simpa using h6
    have HN := Lib.hid (show noneT t = false from by unfold noneT; simp [h6]); clear h0 h1 h2 h3 h4 h5 h6
    go_wp2_with (first | (go_at_call 12; refine (QaC _ _ _ _).mono ?_; rintro e w2 ⟨rfl, hb2⟩; have HB2 := Lib.hid hb2; have HP2 := Lib.hid (Qac HZ1.out hb2); have HQ2 := Lib.hid (Qac HZ2.out hb2); clear hb2 s4 r4; have s6 := Qaa HP2.out 6 (v := .slice A6 t.f6.length c6) rfl; have r6 := Qaa HQ2.out 6 (v := .slice none 0 0) rfl) | (go_at_call 13; refine (QaJ _ _ _ _).mono ?_; rintro e w3 ⟨rfl, hb3⟩; have HB3 := Lib.hid hb3; have HP3 := Lib.hid (Qac HP2.out hb3); have HQ3 := Lib.hid (Qac HQ2.out hb3); clear hb3 s6 r6; have s8 := Qaa HP3.out 8 (v := .slice A8 t.f8.length c8) rfl; have r8 := Qaa HQ3.out 8 (v := .slice none 0 0) rfl) | (go_at_call 14; refine (QaI _ _ _ _).mono ?_; rintro e w4 ⟨rfl, hb4⟩; have HB4 := Lib.hid hb4; have HP4 := Lib.hid (Qac HP3.out hb4); have HQ4 := Lib.hid (Qac HQ3.out hb4); clear hb4 s8 r8; have s0 := Qaa HP4.out 0 (v := .int .i64 t.f0) rfl; have r0 := Qaa HQ4.out 0 (v := .int .i64 0) rfl; have s1 := Qaa HP4.out 1 (v := .int .i64 t.f1) rfl; have r1 := Qaa HQ4.out 1 (v := .int .i64 0) rfl; have s2 := Qaa HP4.out 2 (v := .int .i64 t.f2) rfl; have r2 := Qaa HQ4.out 2 (v := .int .i64 0) rfl; have s3 := Qaa HP4.out 3 (v := .string t.f3) rfl; have r3 := Qaa HQ4.out 3 (v := .string ⟨#[]⟩) rfl; have s5 := Qaa HP4.out 5 (v := .int .i64 t.f5) rfl; have r5 := Qaa HQ4.out 5 (v := .int .i64 0) rfl; have s7 := Qaa HP4.out 7 (v := .slice A7 t.f7.length c7) rfl; have r7 := Qaa HQ4.out 7 (v := .slice none 0 0) rfl))
    all_goals
      refine bodyPost_ret (results_tmp rfl _ _ _) rfl ?_; exact ⟨by rw [HN.out]; rfl, Qab (Qab (Qab HBW.out HB2.out) HB3.out) HB4.out⟩
  have d6 : (t.f3.toList == ([] : List UInt8)) = true := by simpa using h6
  by_cases h7 : t.f5 = 0
  case neg =>
    have d7 : (t.f5 == 0) = false := by simpa using h7
    have HN := Lib.hid (show noneT t = false from by unfold noneT; simp [h7]); clear h0 h1 h2 h3 h4 h5 h6 h7
    go_wp2_with (first | (go_at_call 12; refine (QaC _ _ _ _).mono ?_; rintro e w2 ⟨rfl, hb2⟩; have HB2 := Lib.hid hb2; have HP2 := Lib.hid (Qac HZ1.out hb2); have HQ2 := Lib.hid (Qac HZ2.out hb2); clear hb2 s4 r4; have s6 := Qaa HP2.out 6 (v := .slice A6 t.f6.length c6) rfl; have r6 := Qaa HQ2.out 6 (v := .slice none 0 0) rfl) | (go_at_call 13; refine (QaJ _ _ _ _).mono ?_; rintro e w3 ⟨rfl, hb3⟩; have HB3 := Lib.hid hb3; have HP3 := Lib.hid (Qac HP2.out hb3); have HQ3 := Lib.hid (Qac HQ2.out hb3); clear hb3 s6 r6; have s8 := Qaa HP3.out 8 (v := .slice A8 t.f8.length c8) rfl; have r8 := Qaa HQ3.out 8 (v := .slice none 0 0) rfl) | (go_at_call 14; refine (QaI _ _ _ _).mono ?_; rintro e w4 ⟨rfl, hb4⟩; have HB4 := Lib.hid hb4; have HP4 := Lib.hid (Qac HP3.out hb4); have HQ4 := Lib.hid (Qac HQ3.out hb4); clear hb4 s8 r8; have s0 := Qaa HP4.out 0 (v := .int .i64 t.f0) rfl; have r0 := Qaa HQ4.out 0 (v := .int .i64 0) rfl; have s1 := Qaa HP4.out 1 (v := .int .i64 t.f1) rfl; have r1 := Qaa HQ4.out 1 (v := .int .i64 0) rfl; have s2 := Qaa HP4.out 2 (v := .int .i64 t.f2) rfl; have r2 := Qaa HQ4.out 2 (v := .int .i64 0) rfl; have s3 := Qaa HP4.out 3 (v := .string t.f3) rfl; have r3 := Qaa HQ4.out 3 (v := .string ⟨#[]⟩) rfl; have s5 := Qaa HP4.out 5 (v := .int .i64 t.f5) rfl; have r5 := Qaa HQ4.out 5 (v := .int .i64 0) rfl; have s7 := Qaa HP4.out 7 (v := .slice A7 t.f7.length c7) rfl; have r7 := Qaa HQ4.out 7 (v := .slice none 0 0) rfl))
    all_goals
      refine bodyPost_ret (results_tmp rfl _ _ _) rfl ?_; exact ⟨by rw [HN.out]; rfl, Qab (Qab (Qab HBW.out HB2.out) HB3.out) HB4.out⟩
  have d7 : (t.f5 == 0) = true := by simpa using h7
  by_cases h8 : t.f7.length = 0
  case neg =>
    have d8 : decide (t.f7 = []) = false := by simpa using h8
    have x8 : ((t.f7.length : Int) == 0) = false := by simpa using h8
    have HN := Lib.hid (show noneT t = false from by unfold noneT; simp [h8]); clear h0 h1 h2 h3 h4 h5 h6 h7 h8
    go_wp2_with (first | (go_at_call 12; refine (QaC _ _ _ _).mono ?_; rintro e w2 ⟨rfl, hb2⟩; have HB2 := Lib.hid hb2; have HP2 := Lib.hid (Qac HZ1.out hb2); have HQ2 := Lib.hid (Qac HZ2.out hb2); clear hb2 s4 r4; have s6 := Qaa HP2.out 6 (v := .slice A6 t.f6.length c6) rfl; have r6 := Qaa HQ2.out 6 (v := .slice none 0 0) rfl) | (go_at_call 13; refine (QaJ _ _ _ _).mono ?_; rintro e w3 ⟨rfl, hb3⟩; have HB3 := Lib.hid hb3; have HP3 := Lib.hid (Qac HP2.out hb3); have HQ3 := Lib.hid (Qac HQ2.out hb3); clear hb3 s6 r6; have s8 := Qaa HP3.out 8 (v := .slice A8 t.f8.length c8) rfl; have r8 := Qaa HQ3.out 8 (v := .slice none 0 0) rfl) | (go_at_call 14; refine (QaI _ _ _ _).mono ?_; rintro e w4 ⟨rfl, hb4⟩; have HB4 := Lib.hid hb4; have HP4 := Lib.hid (Qac HP3.out hb4); have HQ4 := Lib.hid (Qac HQ3.out hb4); clear hb4 s8 r8; have s0 := Qaa HP4.out 0 (v := .int .i64 t.f0) rfl; have r0 := Qaa HQ4.out 0 (v := .int .i64 0) rfl; have s1 := Qaa HP4.out 1 (v := .int .i64 t.f1) rfl; have r1 := Qaa HQ4.out 1 (v := .int .i64 0) rfl; have s2 := Qaa HP4.out 2 (v := .int .i64 t.f2) rfl; have r2 := Qaa HQ4.out 2 (v := .int .i64 0) rfl; have s3 := Qaa HP4.out 3 (v := .string t.f3) rfl; have r3 := Qaa HQ4.out 3 (v := .string ⟨#[]⟩) rfl; have s5 := Qaa HP4.out 5 (v := .int .i64 t.f5) rfl; have r5 := Qaa HQ4.out 5 (v := .int .i64 0) rfl; have s7 := Qaa HP4.out 7 (v := .slice A7 t.f7.length c7) rfl; have r7 := Qaa HQ4.out 7 (v := .slice none 0 0) rfl))
    all_goals
      refine bodyPost_ret (results_tmp rfl _ _ _) rfl ?_; exact ⟨by rw [HN.out]; rfl, Qab (Qab (Qab HBW.out HB2.out) HB3.out) HB4.out⟩
  have d8 : decide (t.f7 = []) = true := by simpa using h8
  have x8 : ((t.f7.length : Int) == 0) = true := by simpa using h8
  have HN := Lib.hid (show noneT t = true from by unfold noneT; simp [h0, h1, h2, h3, h4, h5, h6, h7, h8]); clear h0 h1 h2 h3 h4 h5 h6 h7
  go_wp2_with (first | (go_at_call 12; refine (QaC _ _ _ _).mono ?_; rintro e w2 ⟨rfl, hb2⟩; have HB2 := Lib.hid hb2; have HP2 := Lib.hid (Qac HZ1.out hb2); have HQ2 := Lib.hid (Qac HZ2.out hb2); clear hb2 s4 r4; have s6 := Qaa HP2.out 6 (v := .slice A6 t.f6.length c6) rfl; have r6 := Qaa HQ2.out 6 (v := .slice none 0 0) rfl) | (go_at_call 13; refine (QaJ _ _ _ _).mono ?_; rintro e w3 ⟨rfl, hb3⟩; have HB3 := Lib.hid hb3; have HP3 := Lib.hid (Qac HP2.out hb3); have HQ3 := Lib.hid (Qac HQ2.out hb3); clear hb3 s6 r6; have s8 := Qaa HP3.out 8 (v := .slice A8 t.f8.length c8) rfl; have r8 := Qaa HQ3.out 8 (v := .slice none 0 0) rfl) | (go_at_call 14; refine (QaI _ _ _ _).mono ?_; rintro e w4 ⟨rfl, hb4⟩; have HB4 := Lib.hid hb4; have HP4 := Lib.hid (Qac HP3.out hb4); have HQ4 := Lib.hid (Qac HQ3.out hb4); clear hb4 s8 r8; have s0 := Qaa HP4.out 0 (v := .int .i64 t.f0) rfl; have r0 := Qaa HQ4.out 0 (v := .int .i64 0) rfl; have s1 := Qaa HP4.out 1 (v := .int .i64 t.f1) rfl; have r1 := Qaa HQ4.out 1 (v := .int .i64 0) rfl; have s2 := Qaa HP4.out 2 (v := .int .i64 t.f2) rfl; have r2 := Qaa HQ4.out 2 (v := .int .i64 0) rfl; have s3 := Qaa HP4.out 3 (v := .string t.f3) rfl; have r3 := Qaa HQ4.out 3 (v := .string ⟨#[]⟩) rfl; have s5 := Qaa HP4.out 5 (v := .int .i64 t.f5) rfl; have r5 := Qaa HQ4.out 5 (v := .int .i64 0) rfl; have s7 := Qaa HP4.out 7 (v := .slice A7 t.f7.length c7) rfl; have r7 := Qaa HQ4.out 7 (v := .slice none 0 0) rfl))
  all_goals try (exact absurd (show t.f0 = 0 by simpa using d3) ‹¬ t.f0 = 0›)
  all_goals try (exact absurd (show t.f1 = 0 by simpa using d4) ‹¬ t.f1 = 0›)
  all_goals try (exact absurd (show t.f2 = 0 by simpa using d5) ‹¬ t.f2 = 0›)
  all_goals try (exact absurd (show t.f5 = 0 by simpa using d7) ‹¬ t.f5 = 0›)
  have HBx := Lib.hid (Qab (Qab (Qab HBW.out HB2.out) HB3.out) HB4.out)
  go_loopg [8] 1 (fun kq v8 w' => v8 = .int .i64 0 ∧ Hid (Below w4.heap.size w4 w'))
  case atStart => exact ⟨rfl, Lib.hid (Below.refl _ _)⟩
  case round =>
    obtain ⟨rfl, HB5⟩ := hrel; have s7' := Qaa (Qac HP4.out HB5.out) 7 (v := .slice A7 t.f7.length c7) rfl; have lt7 : decide (0 < t.f7.length) = false := decide_eq_false (by omega); have lt8 : decide ((0 : Int) < (t.f7.length : Int)) = false := decide_eq_false (by omega)
    go_wp2_with fail
    refine bodyPost_ret (results_tmp rfl _ _ _) rfl ?_; exact ⟨by rw [HN.out]; rfl, Qab HBx.out HB5.out⟩
def takenL (l : List Evt) : List Evt := l.filter fun x => decide (x.f3.f0 = 0)
def SoFar (l : List Evt) : Prop := (∀ x ∈ l, 0 ≤ x.f0) ∧ (l.Pairwise fun x y => x.f0 ≤ y.f0) ∧ (∀ x ∈ l, 1 ≤ x.f1 ∧ x.f1 ≤ 16) ∧ ∀ x ∈ l, x.f3.f0 ≠ 0 → nothingB x.f3 = true
theorem SoFar.nil : SoFar [] := ⟨fun x h => (by cases h), List.Pairwise.nil, fun x h => (by cases h), fun x h => (by cases h)⟩
theorem SoFar.snoc {l : List Evt} {x : Evt} (h : SoFar l) (h0 : 0 ≤ x.f0) (hl : ∀ y ∈ l, y.f0 ≤ x.f0) (hd : 1 ≤ x.f1 ∧ x.f1 ≤ 16) (hn : x.f3.f0 ≠ 0 → nothingB x.f3 = true) : SoFar (l ++ [x]) := by
  obtain ⟨a, b, c, d⟩ := h; refine ⟨fun y hy => ?_, List.pairwise_append.mpr ⟨b, List.pairwise_singleton _ _, fun y hy z hz => ?_⟩, fun y hy => ?_, fun y hy => ?_⟩
  · rcases List.mem_append.mp hy with hy | hy
    · exact a y hy
    · rw [List.mem_singleton.mp hy]; exact h0
  · rw [List.mem_singleton.mp hz]; exact hl y hy
  · rcases List.mem_append.mp hy with hy | hy
    · exact c y hy
    · rw [List.mem_singleton.mp hy]; exact hd
  · rcases List.mem_append.mp hy with hy | hy
    · exact d y hy
    · rw [List.mem_singleton.mp hy]; exact hn
theorem soFar_le {L : List Evt} {i : Nat} (hg : SoFar (L.take i)) (hi : i ≤ L.length) {x0 : Int} (h : 0 < i → (L.getD (i - 1) z46).f0 ≤ x0) : ∀ y ∈ L.take i, y.f0 ≤ x0 := by
  intro y hy; obtain ⟨j, hj, rfl⟩ := List.getElem_of_mem hy
  have hl : (L.take i).length = i := by rw [List.length_take]; omega
  have h' := h (by omega)
  have e : L.getD (i - 1) z46 = (L.take i)[i - 1]'(by omega) := by
    rw [List.getElem_take]; simp [List.getD, List.getElem?_eq_getElem (show i - 1 < L.length by omega)]
  rw [e] at h'
  by_cases hq : j = i - 1
  · subst hq; exact h'
  · exact Int.le_trans (List.pairwise_iff_getElem.mp hg.2.1 j (i - 1) hj (by omega) (by omega)) h'
theorem takenL_yes (l : List Evt) {x : Evt} (h : x.f3.f0 = 0) : takenL (l ++ [x]) = takenL l ++ [x] := by
  unfold takenL; rw [List.filter_append, List.filter_cons_of_pos (by simpa using h), List.filter_nil]
theorem takenL_no (l : List Evt) {x : Evt} (h : ¬ x.f3.f0 = 0) : takenL (l ++ [x]) = takenL l := by
  unfold takenL; rw [List.filter_append, List.filter_cons_of_neg (by simpa using h), List.filter_nil, List.append_nil]
theorem takenL_le (l : List Evt) : (takenL l).length ≤ l.length := List.length_filter_le ..
set_option maxRecDepth 100000 in
set_option maxHeartbeats 2000000 in
theorem refused_walk (w : World) (A : Option Addr) (c : Nat) (l : List Evt) (hC : Kd.C kEvt w A l.length l) (hc : l.length ≤ c) (hok : ∀ x ∈ few l, EvOk x) :
    Calls Tryd.prog 4 #[.slice A l.length c] w fun e w' => e = .returned (.bool true) ∧ Below w.heap.size w w' := by
  have HC := Lib.hid hC; have HCc := Lib.hid hc; have HOk := Lib.hid hok; have HLen := Lib.hid (few_len l); clear hC hc hok
  obtain ⟨L, hL⟩ : ∃ L, few l = L := ⟨_, rfl⟩
  rw [hL] at HOk HLen; have HL := Lib.hid hL; clear hL; go_enter Tryd.func4, Tryd.ntmps4
  go_wp2_with (go_at_call 6; refine (few_callsL w A c l L HL.out HCc.out HC.out).mono ?_; rintro e w1 ⟨A1, c1, rfl, hc1, hC1, hb1⟩; have HC1 := Lib.hid hC1; have HCc1 := Lib.hid hc1; have HB1 := Lib.hid hb1; clear hC1 hc1 hb1)
  have HF1 := Lib.hid (Kd.C_F (d := kEvt) hpEvt HC1.out)
  go_loopg [3, 4] (L.length + 1) (fun kq v3 v4 w' => ∃ (i : Nat) (Cs : List (Array Value)), v4 = .int .i64 i ∧ Hid (kq = L.length + 1 - i) ∧ Hid (i ≤ L.length) ∧ Hid (Kd.R (kRaw 37) 46 w' w1.heap.size (fun _ => True) v3 Cs) ∧ Hid (Cs.length = (takenL (L.take i)).length) ∧ Hid (∀ (j : Nat) (x : Evt) (C : Array Value), (takenL (L.take i))[j]? = some x → Cs[j]? = some C → Kd.FK kEvt w' (fun k => True ∧ some k ≠ v3.ownBlock) x C.toList) ∧ Hid (SoFar (L.take i)) ∧ Hid (Below w1.heap.size w1 w'))
  case atStart => exact ⟨0, [], rfl, Lib.hid rfl, Lib.hid (Nat.zero_le _), Lib.hid (Kd.R_nil _ _ _ _ _), Lib.hid rfl, Lib.hid (fun j x C h => by simp [takenL] at h), Lib.hid (by rw [List.take_zero]; exact SoFar.nil), Lib.hid (Below.refl _ _)⟩
  case round =>
    obtain ⟨i, Cs, rfl, HKq, HI, HR, HCl, HFa, HGd, HB⟩ := hrel
    by_cases hi : i < L.length
    · have d1 : decide ((i : Int) < (L.length : Int)) = true := decide_eq_true (by omega)
      have d2 : decide (i < L.length) = true := decide_eq_true hi
      have wrapI : wrap64 ((i : Int) + 1) = ((i + 1 : Nat) : Int) := by have := HLen.out; unfold wrap64; omega
      obtain ⟨ad, cs, rfl, -, hK, hcell0, -⟩ := Kd.F_get HF1.out z46 (i : Int) (by omega) (by omega)
      have hx : L.getD (i : Int).toNat z46 = L[i] := by
        rw [show (i : Int).toNat = i from rfl]; simp [List.getD, List.getElem?_eq_getElem hi]
      obtain ⟨x, hxe⟩ : ∃ x, x = L.getD (i : Int).toNat z46 := ⟨_, rfl⟩
      rw [← hxe] at hK
      have htk : L.take (i + 1) = L.take i ++ [x] := by rw [hxe, hx, List.take_add_one, List.getElem?_eq_getElem hi]; rfl
      obtain ⟨A14, c14, A20, c20, A22, c22, A23, c23, A24, c24, A32, c32, A34, c34, A35, c35, A36, c36, rfl, -⟩ := k46_openF hK; have HFk := Lib.hid hK
      have HCell := Lib.hid (show ∀ j v, (evV x A14 c14 A20 c20 A22 c22 A23 c23 A24 c24 A32 c32 A34 c34 A35 c35 A36 c36)[j]? = some v → wr.cell? ((ad.add (i * 37)).add j) = some v from fun j v hv => by
        rw [Addr.add_add]
        exact Qas HB.out (hcell0 j v (by rw [← Array.getElem?_toList] at hv; exact hv)))
      have q1 : (0 : Int) ≤ (i : Int) := by omega
      have q2 : (i : Int) < (L.length : Int) := by omega
      have HI2 := Lib.hid hi; have HTk := Lib.hid htk; clear hi hx hxe htk hK hcell0
      go_upto_region 7 with (first | (refine Qah rfl 46 (.tmp 21) rfl _ rfl (evV x A14 c14 A20 c20 A22 c22 A23 c23 A24 c24 A32 c32 A34 c34 A35 c35 A36 c36) _ HCell.out Tryd.underlying46 rfl (by kernel_rfl) ?_) | (refine QaU rfl 46 (.tmp 5) (.tmp 22) rfl rfl rfl (evV x A14 c14 A20 c20 A22 c22 A23 c23 A24 c24 A32 c32 A34 c34 A35 c35 A36 c36) rfl (by kernel_rfl) rfl (by simp [Value.oneCell']) ?_))
      have hB1 := Qau wr (.cells (evV x A14 c14 A20 c20 A22 c22 A23 c23 A24 c24 A32 c32 A34 c34 A35 c35 A36 c36) 46); have hL1 : Below wr.heap.size wr (wr.alloc (.cells (evV x A14 c14 A20 c20 A22 c22 A23 c23 A24 c24 A32 c32 A34 c34 A35 c35 A36 c36) 46)) := Qad (Below.refl _ _) _
      generalize wr.alloc (.cells (evV x A14 c14 A20 c20 A22 c22 A23 c23 A24 c24 A32 c32 A34 c34 A35 c35 A36 c36) 46) = W1 at hB1 hL1 ⊢
      have HB2 := Lib.hid hB1; have HL2 := Lib.hid hL1; have HBW := Lib.hid (Qab HB.out hL1); have g0 := Qag (Qaa hB1 0 (v := .int .i64 x.f0) rfl); have g1 := Qag (Qaa hB1 1 (v := .int .i64 x.f1) rfl); clear hB1 hL1; simp only [Act.put]
      by_cases b1 : x.f1 < 1
      · have p1 : decide (x.f1 < 1) = true := decide_eq_true b1
        clear b1; refine Qai (by kernel_rfl) (by kernel_rfl) ?_
        repeat (go_big_quiet_step (fail))
        refine wpQuiet_nil ?_; rintro _ ⟨u, rfl⟩
        go_wp2_with (go_at_call 8; refine (Qbd u.now).mono ?_; rintro e w5 ⟨rfl, hb5⟩; have HB5 := Lib.hid hb5; clear hb5)
        refine bodyPost_ret (results_tmp rfl _ _ _) rfl ?_; exact ⟨rfl, Qab (Qab (Qab HB1.out HBW.out) u.ok) HB5.out⟩
      have p1 : decide (x.f1 < 1) = false := decide_eq_false b1
      by_cases b2 : 16 < x.f1
      · have p2 : decide (16 < x.f1) = true := decide_eq_true b2
        clear b2; refine Qai (by kernel_rfl) (by kernel_rfl) ?_
        repeat (go_big_quiet_step (fail))
        refine wpQuiet_nil ?_; rintro _ ⟨u, rfl⟩
        go_wp2_with (go_at_call 8; refine (Qbd u.now).mono ?_; rintro e w5 ⟨rfl, hb5⟩; have HB5 := Lib.hid hb5; clear hb5)
        refine bodyPost_ret (results_tmp rfl _ _ _) rfl ?_; exact ⟨rfl, Qab (Qab (Qab HB1.out HBW.out) u.ok) HB5.out⟩
      have p2 : decide (16 < x.f1) = false := decide_eq_false b2
      by_cases b3 : x.f0 < 0
      · have p3 : decide (x.f0 < 0) = true := decide_eq_true b3
        clear b3; refine Qai (by kernel_rfl) (by kernel_rfl) ?_
        repeat (go_big_quiet_step (fail))
        refine wpQuiet_nil ?_; rintro _ ⟨u, rfl⟩
        go_wp2_with (go_at_call 8; refine (Qbd u.now).mono ?_; rintro e w5 ⟨rfl, hb5⟩; have HB5 := Lib.hid hb5; clear hb5)
        refine bodyPost_ret (results_tmp rfl _ _ _) rfl ?_; exact ⟨rfl, Qab (Qab (Qab HB1.out HBW.out) u.ok) HB5.out⟩
      have p3 : decide (x.f0 < 0) = false := decide_eq_false b3
      obtain ⟨y0, hprev⟩ : ∃ y0 : Int, 0 < i → W1.cell? (ad.add ((i - 1) * 37)) = some (.int .i64 y0) ∧ (L.getD (i - 1) z46).f0 = y0 := by
        refine ⟨(L.getD (i - 1) z46).f0, fun h0 => ⟨?_, rfl⟩⟩; obtain ⟨ad2, cs2, he2, -, hK2, hc2⟩ := Kd.C_get HC1.out z46 ((i - 1 : Nat) : Int) (by omega) (by have := HI2.out; omega); obtain rfl := Option.some.inj he2; obtain ⟨_, _, _, _, _, _, _, _, _, _, _, _, _, _, _, _, _, _, rfl, -⟩ := Qbb hK2; exact Qas HBW.out (hc2 0 _ rfl)
      by_cases b4 : 0 < i ∧ x.f0 < y0
      · have gp := Qag (hprev b4.1).1
        have p4 : decide (0 < i) = true := decide_eq_true b4.1; have p4' : decide ((0 : Int) < (i : Int)) = true := decide_eq_true (by omega); have p5 : decide (x.f0 < y0) = true := decide_eq_true b4.2
        have wm : wrap64 ((i : Int) - 1) = ((i - 1 : Nat) : Int) := by have := HLen.out; have := HI2.out; unfold wrap64; omega
        have q3 : (0 : Int) ≤ ((i - 1 : Nat) : Int) := by omega
        have q4 : ((i - 1 : Nat) : Int) < (L.length : Int) := by have := HI2.out; omega
        clear hprev b4; refine Qai (by kernel_rfl) (by kernel_rfl) ?_
        repeat (go_big_quiet_step (fail))
        refine wpQuiet_nil ?_; rintro _ ⟨u, rfl⟩
        go_wp2_with (go_at_call 8; refine (Qbd u.now).mono ?_; rintro e w5 ⟨rfl, hb5⟩; have HB5 := Lib.hid hb5; clear hb5)
        refine bodyPost_ret (results_tmp rfl _ _ _) rfl ?_; exact ⟨rfl, Qab (Qab (Qab HB1.out HBW.out) u.ok) HB5.out⟩
      have hle : ∀ y ∈ L.take i, y.f0 ≤ x.f0 := soFar_le HGd.out (by have := HI2.out; omega) (fun h0 => by
        have e := (hprev h0).2; rw [e]
        rcases Int.lt_or_le x.f0 y0 with h | h
        · exact absurd ⟨h0, h⟩ b4
        · exact h)
      have HLe := Lib.hid hle; have HX := Lib.hid (show 0 ≤ x.f0 ∧ 1 ≤ x.f1 ∧ x.f1 ≤ 16 from by omega)
      have hcs : (decide (0 < i) = false ∧ decide ((0 : Int) < (i : Int)) = false) ∨ (W1.cell? (ad.add ((i - 1) * 37)) = some (.int .i64 y0) ∧ decide (0 < i) = true ∧ decide ((0 : Int) < (i : Int)) = true ∧ decide (x.f0 < y0) = false) := by
        by_cases h0 : 0 < i
        · exact .inr ⟨(hprev h0).1, decide_eq_true h0, decide_eq_true (by omega), decide_eq_false (fun h => b4 ⟨h0, h⟩)⟩
        · exact .inl ⟨decide_eq_false h0, decide_eq_false (by omega)⟩
      have wm : wrap64 ((i : Int) - 1) = if 0 < i then ((i - 1 : Nat) : Int) else -1 := by have := HLen.out; have := HI2.out; unfold wrap64; split <;> omega
      have HWm := Lib.hid wm
      rcases hcs with ⟨p4, p4'⟩ | ⟨hp, p4, p4', p5⟩
      rotate_left; have gp := Qag hp
      have wm : wrap64 ((i : Int) - 1) = ((i - 1 : Nat) : Int) := by
        have := HWm.out; rw [if_pos (of_decide_eq_true p4)] at this; exact this
      have q3 : (0 : Int) ≤ ((i - 1 : Nat) : Int) := by omega
      have q4 : ((i - 1 : Nat) : Int) < (L.length : Int) := by have := HI2.out; omega
      clear hp; rotate_left
      all_goals
        clear hprev b4 hle b1 b2 b3; refine Qai (by kernel_rfl) (by kernel_rfl) ?_
        repeat (go_big_quiet_step (fail))
        refine wpQuiet_nil ?_; rintro _ ⟨u, rfl⟩; have HB3 := Lib.hid (Qac HB2.out u.ok); have HBu := Lib.hid (Qab HBW.out u.ok); have HLu := Lib.hid (Qab HL2.out u.ok); have HRu := Lib.hid (Kd.Qba HR.out HLu.out); have HTl := Lib.hid (show (L.take i).length = i by rw [List.length_take]; have := HI2.out; omega); have HOE := Lib.hid (show ∀ z ∈ (evV x A14 c14 A20 c20 A22 c22 A23 c23 A24 c24 A32 c32 A34 c34 A35 c35 A36 c36).toList, z.oneCell' = true by simp [Value.oneCell']); have s26 := Qaa HB3.out 26 (v := .int .i64 x.f3.f0) rfl
        by_cases e0 : x.f3.f0 = 0
        · have k0 : (x.f3.f0 == 0) = true := by simpa using e0
          have HE0 := Lib.hid e0; clear e0
          go_wp2_with (first | (refine Qah rfl 46 (.tmp 5) rfl _ rfl (evV x A14 c14 A20 c20 A22 c22 A23 c23 A24 c24 A32 c32 A34 c34 A35 c35 A36 c36) _ (range0 HB3.out) Tryd.underlying46 rfl (by kernel_rfl) ?_) | ((with_reducible refine QaO (b := .append) (xs := #[.tmp 56, .tmp 58]) rfl ?_); at_builtin; refine Kd.R_append (kRaw 37) (w0 := w1) w1.heap.size rfl (.tmp 56) (.tmp 58) 22 46 (.agg zEvV) 520 rfl Tryd.underlying22 infoEvt rfl (by decide) (by omega) _ Cs (evV x A14 c14 A20 c20 A22 c22 A23 c23 A24 c24 A32 c32 A34 c34 A35 c35 A36 c36) (evV x A14 c14 A20 c20 A22 c22 A23 c23 A24 c24 A32 c32 A34 c34 A35 c35 A36 c36).toList (fun _ => True) (fun _ => False) rfl (by first | rfl | exact congrArg (fun n => Value.slice (some ⟨n, 0, none⟩) 1 1) (Array.size_push _).symm) ?aP (fun _ hk => hk.elim) (fun _ _ => trivial) ?aO ?aB ?aS ?aL ?_; (case aP => exact ⟨rfl, rfl, HOE.out⟩); (case aB => exact HBu.out); (case aO => exact HRu.out); (case aS => exact QaZ HBu.out); (case aL => have := HCl.out; have := takenL_le (L.take i); have := HTl.out; have := HLen.out; have := HI.out; omega); intro v2 w2 ho hb hg hat; have HO := Lib.hid ho; have HBo := Lib.hid hb; have HGr := Lib.hid hg; have HAt := Lib.hid hat; clear ho hb hg hat))
          go_roundg (L.length + 1 - (i + 1))
          case measure => have := HKq.out; have := HI2.out; omega
          case rel =>
            refine ⟨i + 1, Cs ++ [(evV x A14 c14 A20 c20 A22 c22 A23 c23 A24 c24 A32 c32 A34 c34 A35 c35 A36 c36)], by first | rfl | exact congrArg _ wrapI, Lib.hid rfl, Lib.hid HI2.out, HO, Lib.hid (by rw [HTk.out, takenL_yes _ HE0.out, List.length_append, List.length_append, HCl.out]; rfl), Lib.hid ?_, Lib.hid (by rw [HTk.out]; exact HGd.out.snoc HX.out.1 HLe.out HX.out.2 (fun h => absurd HE0.out h)), HBo⟩; intro j y C h1 h2; rw [HTk.out, takenL_yes _ HE0.out] at h1
            by_cases hj : j < (takenL (L.take i)).length
            · rw [List.getElem?_append_left hj] at h1
              rw [List.getElem?_append_left (by rw [HCl.out]; exact hj)] at h2; exact foot_after (Kd.FK_below (HFa.out j y C h1 h2) HLu.out) HGr.out HAt.out
            · rw [List.getElem?_append_right (by omega)] at h1
              rw [List.getElem?_append_right (by rw [HCl.out]; omega), HCl.out] at h2
              cases hz : j - (takenL (L.take i)).length with
              | zero =>
                rw [hz] at h1 h2; obtain rfl := Option.some.inj h1; obtain rfl := Option.some.inj h2; refine foot_after (Kd.FK_mono (Kd.FK_below HFk.out HBu.out) (fun k hk => ⟨trivial, fun he => ?_⟩)) HGr.out HAt.out; have a1 := Kd.R_base HR.out k he.symm; have a2 := Kd.R_lt HR.out k he.symm; omega
              | succ j =>
                rw [hz] at h1; simp at h1
        · have k0 : (x.f3.f0 == 0) = false := by simpa using e0
          have HE0 := Lib.hid e0; clear e0
          by_cases n0 : noneT x.f3.f2 = true
          · by_cases n1 : x.f3.f1 = 0
            · have k1 : (x.f3.f1 == 0) = true := by simpa using n1
              have HN := Lib.hid (And.intro n0 n1); clear n1
              go_wp2_with (first | (refine Qah rfl 40 (.tmp 61) rfl _ rfl (tokV x.f3.f2 A32 c32 A34 c34 A35 c35 A36 c36) _ (seg_range HB3.out 28 9 (tokV x.f3.f2 A32 c32 A34 c34 A35 c35 A36 c36) rfl) Tryd.underlying40 rfl (by kernel_rfl) ?_) | (go_at_call 9; refine (same0_calls _ x.f3.f2 A32 c32 A34 c34 A35 c35 A36 c36).mono ?_; rintro e w8 ⟨rfl, hb8⟩; have HB8 := Lib.hid hb8; clear hb8; have s27 := Qaa (Qac HB3.out HB8.out) 27 (v := .int .i64 x.f3.f1) rfl))
              have HB8w := Lib.hid (Qab HLu.out HB8.out)
              go_roundg (L.length + 1 - (i + 1))
              case measure => have := HKq.out; have := HI2.out; omega
              case rel =>
                exact ⟨i + 1, Cs, by first | rfl | exact congrArg _ wrapI, Lib.hid rfl, Lib.hid HI2.out, Lib.hid (Kd.Qba HR.out HB8w.out), Lib.hid (by rw [HTk.out, takenL_no _ HE0.out]; exact HCl.out), Lib.hid (fun j y C h1 h2 => by rw [HTk.out, takenL_no _ HE0.out] at h1; exact Kd.FK_below (HFa.out j y C h1 h2) HB8w.out), Lib.hid (by rw [HTk.out]; exact HGd.out.snoc HX.out.1 HLe.out HX.out.2 (fun _ => none_nothing HN.out.1 HN.out.2)), Lib.hid (Qab HB.out HB8w.out)⟩
            · have k1 : (x.f3.f1 == 0) = false := by simpa using n1
              clear n1
              go_wp2_with (first | (refine Qah rfl 40 (.tmp 61) rfl _ rfl (tokV x.f3.f2 A32 c32 A34 c34 A35 c35 A36 c36) _ (seg_range HB3.out 28 9 (tokV x.f3.f2 A32 c32 A34 c34 A35 c35 A36 c36) rfl) Tryd.underlying40 rfl (by kernel_rfl) ?_) | (go_at_call 9; refine (same0_calls _ x.f3.f2 A32 c32 A34 c34 A35 c35 A36 c36).mono ?_; rintro e w8 ⟨rfl, hb8⟩; have HB8 := Lib.hid hb8; clear hb8; have s27 := Qaa (Qac HB3.out HB8.out) 27 (v := .int .i64 x.f3.f1) rfl) | (go_at_call 8; refine (Qbd w8).mono ?_; rintro e w9 ⟨rfl, hb9⟩; have HB9 := Lib.hid hb9; clear hb9))
              refine bodyPost_ret (results_tmp rfl _ _ _) rfl ?_; exact ⟨rfl, Qab (Qab (Qab HB1.out HBu.out) HB8.out) HB9.out⟩
          · have n0 : noneT x.f3.f2 = false := by rwa [Bool.not_eq_true] at n0
            go_wp2_with (first | (refine Qah rfl 40 (.tmp 61) rfl _ rfl (tokV x.f3.f2 A32 c32 A34 c34 A35 c35 A36 c36) _ (seg_range HB3.out 28 9 (tokV x.f3.f2 A32 c32 A34 c34 A35 c35 A36 c36) rfl) Tryd.underlying40 rfl (by kernel_rfl) ?_) | (go_at_call 9; refine (same0_calls _ x.f3.f2 A32 c32 A34 c34 A35 c35 A36 c36).mono ?_; rintro e w8 ⟨rfl, hb8⟩; have HB8 := Lib.hid hb8; clear hb8; have s27 := Qaa (Qac HB3.out HB8.out) 27 (v := .int .i64 x.f3.f1) rfl) | (go_at_call 8; refine (Qbd w8).mono ?_; rintro e w9 ⟨rfl, hb9⟩; have HB9 := Lib.hid hb9; clear hb9))
            refine bodyPost_ret (results_tmp rfl _ _ _) rfl ?_; exact ⟨rfl, Qab (Qab (Qab HB1.out HBu.out) HB8.out) HB9.out⟩
    · have hiL : i = L.length := by have := HI.out; omega
      subst hiL; have d1 : decide ((L.length : Int) < (L.length : Int)) = false := decide_eq_false (by omega); have d2 : decide (L.length < L.length) = false := decide_eq_false (by omega); rw [List.take_length] at HCl HFa HGd; have HTn := Lib.hid (takenL_le L)
      obtain ⟨M, hM⟩ : ∃ M, takenL L = M := ⟨_, rfl⟩
      have HM := Lib.hid hM; rw [hM] at HCl HFa HTn; clear hM; obtain ⟨A9, c9, e9, hc9, -⟩ := Kd.R_reads HR.out; rw [HCl.out] at e9 hc9; subst e9; have hR6 : Kd.R (kRaw 37) 46 wr w1.heap.size (fun k => w1.heap.size ≤ k) (.slice A9 M.length c9) Cs := Kd.R_mono (Kd.R_bound HR.out) (fun k hk => hk.2.1)
      have hlf : ∀ (j : Nat) (y : Evt) (C : Array Value), M[j]? = some y → Cs[j]? = some C → Kd.FK kEvt wr (fun _ => True) y C.toList := fun j y C h1 h2 => Kd.FK_mono (HFa.out j y C h1 h2) (fun _ _ => trivial)
      have HM9 := Lib.hid (Kd.F_now (raw_F (d := kEvt) (ok := fun _ => True) hR6 rfl (by rw [HCl.out]) hlf)); have HC9 := Lib.hid hc9; have HOkM := Lib.hid (show ∀ x ∈ M, EvOk x from fun x hx => HOk.out x (by rw [← HM.out] at hx; exact (List.mem_filter.mp hx).1)); have HSame := Lib.hid (show resE (checkF am0 L 0) = resE (checkF am0 M 0) from by rw [← HM.out]; exact refused_same HGd.out.1 HGd.out.2.1 HGd.out.2.2.1 HGd.out.2.2.2); clear hR6 hlf hc9
      obtain ⟨r, hr⟩ : ∃ r, checkF am0 L 0 = r := ⟨_, rfl⟩
      obtain ⟨q, hq⟩ : ∃ q, checkF am0 M 0 = q := ⟨_, rfl⟩
      rw [hr, hq] at HSame; have HR1 := Lib.hid hr; have HQ1 := Lib.hid hq; clear hr hq; have HBw := Lib.hid HB.out
      go_wp2_with (first | (go_at_call 7; (with_reducible show Calls _ _ #[.slice A1 L.length c1] wr _); refine (check_callsN wr A1 c1 L L.length r rfl (Kd.QaN HC1.out HB.out) HCc1.out (by have := HLen.out; omega) HOk.out HR1.out).mono ?_; rintro e w2 ⟨rfl, hb2⟩; have HB2 := Lib.hid hb2; clear hb2) | (go_at_call 7; (with_reducible show Calls _ _ #[.slice A9 M.length c9] w2 _); refine (check_callsN w2 A9 c9 M M.length q rfl (Kd.QaN HM9.out HB2.out) HC9.out (by have := HLen.out; have := HTn.out; omega) HOkM.out HQ1.out).mono ?_; rintro e w3 ⟨rfl, hb3⟩; rw [HSame.out]; have HB3 := Lib.hid hb3; clear hb3) | (go_at_call 8; refine (Qbd w3).mono ?_; rintro e w4 ⟨rfl, hb4⟩; have HB4 := Lib.hid hb4; clear hb4))
      refine bodyPost_ret (results_tmp rfl _ _ _) rfl ?_; exact ⟨rfl, Qab (Qab (Qab (Qab HB1.out HB.out) HB2.out) HB3.out) HB4.out⟩
section
open Classical in
noncomputable def QaH.f (k : Nat) (l0 : List Evt) : Option Bool := if (∀ x ∈ l0, okEvent x) then some true else none
theorem QaH.calls (k : Nat) (A0 : Option Addr) (c0 : Nat) (l0 : List Evt) (r : Bool) (w : World) (hr0 : Kd.C kEvt w A0 l0.length l0) (hc0 : l0.length ≤ c0) (h : QaH.f k l0 = some r) :
    Calls Tryd.prog 4 #[.slice A0 l0.length c0] w fun e w' => e = .returned (.bool r) ∧ Below w.heap.size w w' := by
  unfold QaH.f at h
  split at h
  · rename_i hok
    obtain rfl := Option.some.inj h; exact refused_walk w A0 c0 l0 hr0 hc0 (evs_ok hok)
  · cases h
theorem auditRefused_true (l0 : List Evt) (h : ∀ x ∈ l0, okEvent x) : ∃ K, ∀ k, K ≤ k → QaH.f k l0 = some true := ⟨0, fun k _ => if_pos h⟩
end
end Go.Proofs.YtbjjonpkmplhbaaDoor.Pr
end
