/- The proof's own texts, joined: part 3. No conditions. -/
import Derived.Lib.Hide
import Derived.ChangeMaps4
import Derived.Maps.OwnSet
import Derived.Deep.MidRow
import Derived.Deep.WholeRow
import Derived.WalkKit
import Derived.WalkSpells
import Derived.WalkLawsBesides
import Derived.Deep.QuietTactic
import Derived.Deep.RegionWith
import Derived.BigQuiet
import Derived.RegionTactic
import Derived.ChangeAlike
import Derived.Deep.RegionLaw
import Derived.Lib.SmallJoins
import Derived.Lib.SlicesS
import Derived.StillTailTactics
import Derived.Test.YtbjjonpkmplhbaaDoorProg
import Derived.Below
import Derived.Outline
import Derived.DeepKeys4
import Derived.KernelRfl
import Derived.Sort.LotA
import Derived.Laws.RangeAny
import Derived.Laws.Closers25
import Derived.Sort.Walk0
import Derived.Laws.Strings
import Derived.Deep.Draws
import Derived.Deep.AppendLies
import Derived.Maps.AppendAt
import Derived.OwnWalk
import Derived.Laws.BytesArg
import Derived.Laws.MakeOwn
import Derived.Laws.OwnMore
import Derived.Deep.OwnRows
import Derived.Tactics
import Derived.Lib.ConvBytes
import Derived.Laws.Slices
import Derived.RowKit3
import Derived.Deep.LoopGhost
import Derived.WideLaws
import Derived.Deep.DeepCutAuto
import Derived.Deep.CutBlock
import Derived.Deep.RegionHeld3
import Derived.Laws.Rows
import Derived.Lib.AppendStr
import Derived.ArgAppend
import Derived.Laws.IdiomCopy
import Derived.OrdersHeld
import Derived.Laws.BitsLemmas
import Derived.RowKit
import Derived.Shelf.SlSortCmp.NoneTotal
import Derived.Shelf.SlicesE.Clone
import Derived.Sort.Grow
import Derived.Shelf.SlicesG.Cmp
import Derived.Shelf.GgSortFunc.InsertionK
import Derived.Shelf.SlSortCmp.WholeK
import Derived.Ground.SlsfProg
import Derived.Ground.SlgnProg
import Derived.Ground.SlgcProg
import Derived.Maps.RangeRun
import Derived.Maps.Range
import Derived.Carry
import Derived.Laws.StructEq
import Derived.Great.CaseRows
import Derived.ProofKit
import Derived.ChangeSlices
import Derived.DataElems
import Derived.Test.YtbjjonpkmplhbaaDoorPBegins0
import Derived.Test.YtbjjonpkmplhbaaDoorPBegins1
import Derived.Test.YtbjjonpkmplhbaaDoorPBegins2
section
namespace Go.Proofs.YtbjjonpkmplhbaaDoor.Pr
open Go.RowKit Go.Proofs.YtbjjonpkmplhbaaDoorW.PrintWords Go.Proofs.YtbjjonpkmplhbaaDoorW.PrintLast Go.Proofs.YtbjjonpkmplhbaaDoorW.PrintMore
set_option linter.unusedVariables false
set_option linter.unusedSimpArgs false
section
open Go.ChangeMaps (setBlock)
abbrev Rep := S44
def nothingB (r : Rep) : Bool := decide (r.f1 = 0) && (decide (r.f2.f0 = 0) && (decide (r.f2.f1 = 0) && (decide (r.f2.f2 = 0) && (decide (r.f2.f3.toList = []) && (decide (r.f2.f5 = 0) && (wrap64 (wrap64 (wrap64 ((r.f2.f4.length : Int) + (r.f2.f6.length : Int)) + (r.f2.f7.length : Int)) + (r.f2.f8.length : Int)) == 0))))))
set_option maxRecDepth 100000 in
set_option maxHeartbeats 4000000 in
theorem nothing_calls (w : World) (r : Rep) (A4 : Option Addr) (c4 : Nat) (A6 : Option Addr) (c6 : Nat) (A7 : Option Addr) (c7 : Nat) (A8 : Option Addr) (c8 : Nat) :
    Calls Tryd.prog 16 #[.agg #[.int .i64 r.f0, .int .i64 r.f1, .int .i64 r.f2.f0, .int .i64 r.f2.f1, .int .i64 r.f2.f2, .string r.f2.f3, .slice A4 r.f2.f4.length c4, .int .i64 r.f2.f5, .slice A6 r.f2.f6.length c6, .slice A7 r.f2.f7.length c7, .slice A8 r.f2.f8.length c8]] w fun e w' => e = .returned (.bool (nothingB r)) ∧ Below w.heap.size w w' := by
  go_enter Tryd.func16, Tryd.ntmps16
  go_wp2_with fail
  all_goals
    go_ret; refine ⟨?_, by repeat (first | exact Below.refl _ _ | apply Qac)⟩
    first
      | (show Ending.returned (Value.bool false) = _
         rw [show nothingB r = false by unfold nothingB; simp [*]])
      | (show Ending.returned (Value.bool (wrap64 (wrap64 (wrap64 ((r.f2.f4.length : Int) + (r.f2.f6.length : Int)) + (r.f2.f7.length : Int)) + (r.f2.f8.length : Int)) == 0)) = _
         rw [show nothingB r = (wrap64 (wrap64 (wrap64 ((r.f2.f4.length : Int) + (r.f2.f6.length : Int)) + (r.f2.f7.length : Int)) + (r.f2.f8.length : Int)) == 0) by unfold nothingB; simp [*]])
noncomputable def soundF (m : AM) (x : Evt) : Bool × AM :=
  if x.f0 < m.time ∨ (domName x.f1).toList = [] then (false, m)
  else if x.f3.f0 ≠ 0 then (nothingB x.f3, { m with time := x.f0 })
  else if x.f2.f0 = 1 then addF { m with time := x.f0 } x
  else if x.f2.f0 = 2 then revokeF { m with time := x.f0 } x
  else if x.f2.f0 = 3 then issueF { m with time := x.f0 } x
  else if x.f2.f0 = 4 then (verifyF { m with time := x.f0 } x, { m with time := x.f0 })
  else (true, { m with time := x.f0 })
theorem CAt.putT {w0 w : World} {c0 bg bl bn n : Nat} {v : Value} {m : AM} (h : CAt w0 w c0 bg bl bn v n m) (t : Int) : CAt w0 (w.setCell ⟨c0, 0, none⟩ (.int .i64 t)) c0 bg bl bn v n { m with time := t } :=
  { h with
    blk := blk_put h.blk 0 _ rfl
    g := h.g.same (Below.heap_setCell _ _ _ bg (Ne.symm h.c_ne_g))
    l := h.l.same (Below.heap_setCell _ _ _ bl (Ne.symm h.c_ne_l))
    k := h.k.same (Below.heap_setCell _ _ _ bn (Ne.symm h.c_ne_k))
    t := h.t.same (fun k hk => Below.heap_setCell _ _ _ k (h.v_ne hk).1)
    old := h.old.setCell (p := ⟨c0, 0, none⟩) h.c0l _ }
set_option maxRecDepth 100000 in
set_option maxHeartbeats 8000000 in
theorem sound_calls (w0 w : World) (c0 bg bl bn : Nat) (v : Value) (n : Nat) (m : AM) (x : Evt) (E : Array Value) (hM : CAt w0 w c0 bg bl bn v n m) (hE0 : EvA w0 x E) (hx : EvOk x) (hn : n + 2 ≤ 1000000) (hg : GOk m) :
    Calls Tryd.prog 11 #[.pointer (some ⟨c0, 0, none⟩), .agg E] w fun e w' => e = .returned (.bool (soundF m x).1) ∧ CRan w0 c0 bg bl bn (n + 2) (soundF m x).2 w' := by
  have hE := hE0.below hM.old; obtain ⟨A14, c14, A20, c20, A22, c22, A23, c23, A24, c24, A32, c32, A34, c34, A35, c35, A36, c36, rfl, h14, hT6, hT2⟩ := hE.form; have HM := Lib.hid hM; have HX := Lib.hid hx; have HN := Lib.hid hn; have HG := Lib.hid hg; have HE0 := Lib.hid hE0; clear hM hE hE0 hx hn h14 hT6 hT2 hg; go_enter Tryd.func11, Tryd.ntmps11
  go_wp2_with fail
  generalize hW : w.alloc (Obj.cells (evV x A14 c14 A20 c20 A22 c22 A23 c23 A24 c24 A32 c32 A34 c34 A35 c35 A36 c36) 46) = W
  have BE : W.heap[w.heap.size]? = some (.cells (evV x A14 c14 A20 c20 A22 c22 A23 c23 A24 c24 A32 c32 A34 c34 A35 c35 A36 c36) 46 (0, 0)) := by rw [← hW]; exact Qav _ _
  have HB : Below w.heap.size w W := by rw [← hW]; exact Qac (Below.refl _ _) _
  have HM1 := Lib.hid (HM.out.below HB); have HBE := Lib.hid BE; have HD := Lib.hid (fun u : BW W => (QaP.calls x.f1 _ u.now rfl).mono (fun e w' ⟨he, j, hj⟩ => (⟨he, by rw [hj]; exact Qai (Below.refl _ _) j⟩ : e = _ ∧ Below u.now.heap.size u.now w'))); have g0 := Qaf (QaT HM1.out.blk).1; have g1 := Qaf (Qag BE 0 (v := .int .i64 x.f0) rfl); have g2 := Qaf (Qag BE 1 (v := .int .i64 x.f1) rfl); clear hW BE HB
  by_cases h0 : x.f0 < m.time
  · have p0 : decide (x.f0 < m.time) = true := decide_eq_true h0
    have HF := Lib.hid (show soundF m x = (false, m) from if_pos (.inl h0)); clear h0; refine Qaj (by kernel_rfl) (by kernel_rfl) ?_
    repeat (go_big_quiet_step (with_reducible refine Qa4 (HD.out _)))
    refine wpQuiet_nil ?_; rintro _ ⟨u, rfl⟩
    go_wp2_with fail
    go_ret; exact ⟨by rw [HF.out]; rfl, by rw [HF.out]; exact ⟨_, (HM1.out.below u.ok).mono (Nat.le_add_right n 2)⟩⟩
  have p0 : decide (x.f0 < m.time) = false := decide_eq_false h0
  by_cases h1 : (domName x.f1).toList = []
  · have HF := Lib.hid (show soundF m x = (false, m) from if_pos (.inr h1))
    have p1 : ((domName x.f1).toList == []) = true := by rw [h1]; rfl
    clear h0; refine Qaj (by kernel_rfl) (by kernel_rfl) ?_
    repeat (go_big_quiet_step (with_reducible refine Qa4 (HD.out _)))
    refine wpQuiet_nil ?_; rintro _ ⟨u, rfl⟩
    go_wp2_with fail
    go_ret; exact ⟨by rw [HF.out]; rfl, by rw [HF.out]; exact ⟨_, (HM1.out.below u.ok).mono (Nat.le_add_right n 2)⟩⟩
  have p1 : ((domName x.f1).toList == []) = false := by simpa using h1
  have HS := Lib.hid (show soundF m x = _ from if_neg (fun h => h.elim h0 h1)); clear h0; refine Qaj (by kernel_rfl) (by kernel_rfl) ?_
  repeat (go_big_quiet_step (with_reducible refine Qa4 (HD.out _)))
  refine wpQuiet_nil ?_; rintro _ ⟨u, rfl⟩; have HMu := Lib.hid (HM1.out.below u.ok); have HBEu := Lib.hid (Qab HBE.out u.ok); clear g0 g1 g2 p0 p1 h1 HD
  generalize u.now = V at HMu HBEu ⊢
  clear u; have k0 := (QaT HMu.out.blk).1; have kf := QaD HMu.out.blk 0; have x0 := Qag HBEu.out 0 (v := .int .i64 x.f0) rfl
  go_upto_region 4 with fail
  have hne : w.heap.size ≠ c0 := by have := QaK HM.out.blk; omega
  have HM3 := Lib.hid (HMu.out.putT x.f0); have HBE3 := Lib.hid ((Below.heap_setCell V ⟨c0, 0, none⟩ (.int .i64 x.f0) w.heap.size hne).trans HBEu.out); clear hne k0 kf x0
  generalize V.setCell ⟨c0, 0, none⟩ (.int .i64 x.f0) = V3 at HM3 HBE3 ⊢
  obtain ⟨m1, hm1⟩ : ∃ m1, m1 = { m with time := x.f0 } := ⟨_, rfl⟩
  have HG1 := Lib.hid (show GOk m1 by rw [hm1]; exact HG.out); rw [← hm1] at HM3 HS; clear hm1; have x26 := Qag HBE3.out 26 (v := .int .i64 x.f3.f0) rfl; have x2 := Qag HBE3.out 2 (v := .int .i64 x.f2.f0) rfl
  by_cases h2 : x.f3.f0 = 0
  rotate_left
  · have p2 : (x.f3.f0 != 0) = true := by simpa using h2
    have HF := Lib.hid (HS.out.trans (if_pos h2)); have x27 := Qag HBE3.out 27 (v := .int .i64 x.f3.f1) rfl; have x28 := Qag HBE3.out 28 (v := .int .i64 x.f3.f2.f0) rfl; have x29 := Qag HBE3.out 29 (v := .int .i64 x.f3.f2.f1) rfl; have x30 := Qag HBE3.out 30 (v := .int .i64 x.f3.f2.f2) rfl; have x31 := Qag HBE3.out 31 (v := .string x.f3.f2.f3) rfl; have x32 := Qag HBE3.out 32 (v := .slice A32 x.f3.f2.f4.length c32) rfl; have x33 := Qag HBE3.out 33 (v := .int .i64 x.f3.f2.f5) rfl; have x34 := Qag HBE3.out 34 (v := .slice A34 x.f3.f2.f6.length c34) rfl; have x35 := Qag HBE3.out 35 (v := .slice A35 x.f3.f2.f7.length c35) rfl; have x36 := Qag HBE3.out 36 (v := .slice A36 x.f3.f2.f8.length c36) rfl; clear h2
    go_wp2_with (go_at_call 16; refine (nothing_calls V3 x.f3 A32 c32 A34 c34 A35 c35 A36 c36).mono ?_; rintro e w9 ⟨rfl, hb9⟩; have HB9 := Lib.hid hb9; clear hb9)
    go_ret; exact ⟨by rw [HF.out]; rfl, by rw [HF.out]; exact ⟨_, (HM3.out.below HB9.out).mono (Nat.le_add_right n 2)⟩⟩
  have p2 : (x.f3.f0 != 0) = false := by simp [h2]
  have HS2 := Lib.hid (HS.out.trans (if_neg (fun h => h h2))); clear h2
  by_cases k1 : x.f2.f0 = 1
  · have q1 : (x.f2.f0 == 1) = true := beq_iff_eq.mpr k1
    have HF := Lib.hid (HS2.out.trans (if_pos k1)); clear k1
    go_wp2_with (first | (refine Qah rfl 46 (.tmp 3) rfl _ rfl (evV x A14 c14 A20 c20 A22 c22 A23 c23 A24 c24 A32 c32 A34 c34 A35 c35 A36 c36) _ (QaL HBE3.out) Tryd.underlying46 rfl (by kernel_rfl) ?_) | (go_at_call 17; refine (add_calls w0 V3 c0 bg bl bn v n _ x _ HM3.out (HE0.out.below HM3.out.old) HX.out HN.out).mono ?_; rintro e w9 ⟨rfl, hr9⟩; have HR9 := Lib.hid hr9; clear hr9))
    go_ret; exact ⟨by rw [HF.out]; rfl, by rw [HF.out]; exact HR9.out⟩
  have q1 : (x.f2.f0 == 1) = false := beq_eq_false_iff_ne.mpr k1
  by_cases k2 : x.f2.f0 = 2
  · have q2 : (x.f2.f0 == 2) = true := beq_iff_eq.mpr k2
    have HF := Lib.hid (HS2.out.trans ((if_neg k1).trans (if_pos k2))); clear k1 k2
    go_wp2_with (first | (refine Qah rfl 46 (.tmp 3) rfl _ rfl (evV x A14 c14 A20 c20 A22 c22 A23 c23 A24 c24 A32 c32 A34 c34 A35 c35 A36 c36) _ (QaL HBE3.out) Tryd.underlying46 rfl (by kernel_rfl) ?_) | (go_at_call 18; refine (revoke_calls w0 V3 c0 bg bl bn v n _ x _ HM3.out (HE0.out.below HM3.out.old) HX.out HN.out).mono ?_; rintro e w9 ⟨rfl, hr9⟩; have HR9 := Lib.hid hr9; clear hr9))
    go_ret; exact ⟨by rw [HF.out]; rfl, by rw [HF.out]; exact HR9.out⟩
  have q2 : (x.f2.f0 == 2) = false := beq_eq_false_iff_ne.mpr k2
  by_cases k3 : x.f2.f0 = 3
  · have q3 : (x.f2.f0 == 3) = true := beq_iff_eq.mpr k3
    have HF := Lib.hid (HS2.out.trans ((if_neg k1).trans ((if_neg k2).trans (if_pos k3)))); clear k1 k2 k3
    go_wp2_with (first | (refine Qah rfl 46 (.tmp 3) rfl _ rfl (evV x A14 c14 A20 c20 A22 c22 A23 c23 A24 c24 A32 c32 A34 c34 A35 c35 A36 c36) _ (QaL HBE3.out) Tryd.underlying46 rfl (by kernel_rfl) ?_) | (go_at_call 19; refine (issue_calls w0 V3 c0 bg bl bn v n _ x _ HM3.out HE0.out HX.out HN.out HG1.out).mono ?_; rintro e w9 ⟨rfl, hr9⟩; have HR9 := Lib.hid hr9; clear hr9))
    go_ret; exact ⟨by rw [HF.out]; rfl, by rw [HF.out]; exact HR9.out⟩
  have q3 : (x.f2.f0 == 3) = false := beq_eq_false_iff_ne.mpr k3
  by_cases k4 : x.f2.f0 = 4
  · have q4 : (x.f2.f0 == 4) = true := beq_iff_eq.mpr k4
    have HF := Lib.hid (HS2.out.trans ((if_neg k1).trans ((if_neg k2).trans ((if_neg k3).trans (if_pos k4))))); clear k1 k2 k3 k4
    go_wp2_with (first | (refine Qah rfl 46 (.tmp 3) rfl _ rfl (evV x A14 c14 A20 c20 A22 c22 A23 c23 A24 c24 A32 c32 A34 c34 A35 c35 A36 c36) _ (QaL HBE3.out) Tryd.underlying46 rfl (by kernel_rfl) ?_) | (go_at_call 20; refine (verify_calls w0 V3 c0 bg bl bn v n _ x _ HM3.out (HE0.out.below HM3.out.old) HX.out HN.out HG1.out).mono ?_; rintro e w9 ⟨rfl, hr9⟩; have HR9 := Lib.hid hr9; clear hr9))
    go_ret; exact ⟨by rw [HF.out]; rfl, by rw [HF.out]; exact HR9.out⟩
  have q4 : (x.f2.f0 == 4) = false := beq_eq_false_iff_ne.mpr k4; have HF := Lib.hid (HS2.out.trans ((if_neg k1).trans ((if_neg k2).trans ((if_neg k3).trans (if_neg k4))))); clear k1 k2 k3 k4
  go_wp2_with fail
  go_ret; exact ⟨by rw [HF.out]; rfl, by rw [HF.out]; exact ⟨_, HM3.out.mono (Nat.le_add_right n 2)⟩⟩

theorem updG_ok {m : AM} (h : GOk m) (i : ID) {g : Cred × Int} (hg : okCred g.1) : ∀ j y, updG m.given i g j = some y → okCred y.1 := by
  intro j y hy; unfold updG at hy
  split at hy
  · obtain rfl := Option.some.inj hy
    exact hg
  · exact h j y hy
theorem soundF_ok {m : AM} {x : Evt} (h : GOk m) (hx : EvOk x) : GOk (soundF m x).2 := by
  have h1 : GOk { m with time := x.f0 } := h; unfold soundF
  split
  · exact h
  split
  · exact h1
  split
  · unfold addF
    split
    · exact h1
    · exact updG_ok h1 _ hx.gave
  split
  · unfold revokeF
    split
    · exact h1
    · rename_i g hg
      split
      · exact h1
      · exact updG_ok h1 _ (g := (g.1, x.f0)) (h _ g hg)
  split
  · unfold issueF
    split
    · exact h1
    · exact h1
  split
  · exact h1
  · exact h1
noncomputable def checkF : AM → List Evt → Nat → Option Nat
  | _, [], _ => none
  | m, x :: xs, i => if (soundF m x).1 = true then checkF (soundF m x).2 xs (i + 1) else some i
def am0 : AM := ⟨0, fun _ => none, fun _ => 0, fun _ => 0, []⟩
def resI (o : Option Nat) : Int := match o with | none => -1 | some i => i
def resE (o : Option Nat) : Int := match o with | none => 0 | some _ => 13
theorem made4 {w W : World} {O : Obj} (h : ((((w.alloc (.map #[] 0)).alloc (.map #[] 0)).alloc (.map #[] 0)).alloc O) = W) : GTab W w.heap.size 0 (fun _ => none) ∧ NTab W (w.heap.size + 1) 0 (fun _ => 0) ∧ NTab W (w.heap.size + 1 + 1) 0 (fun _ => 0) ∧ W.heap[w.heap.size + 1 + 1 + 1]? = some O ∧ Below w.heap.size w W := by
  subst h; have z1 : (w.alloc (.map #[] 0)).heap.size = w.heap.size + 1 := Array.size_push _; have z2 : ((w.alloc (.map #[] 0)).alloc (.map #[] 0)).heap.size = w.heap.size + 1 + 1 := (Array.size_push _).trans (by rw [z1]); have z3 : (((w.alloc (.map #[] 0)).alloc (.map #[] 0)).alloc (.map #[] 0)).heap.size = w.heap.size + 1 + 1 + 1 := (Array.size_push _).trans (by rw [z2]); have b2 := NTab.made (w.alloc (.map #[] 0)); have b3 := NTab.made ((w.alloc (.map #[] 0)).alloc (.map #[] 0)); have b4 := Qav (((w.alloc (.map #[] 0)).alloc (.map #[] 0)).alloc (.map #[] 0)) O; rw [z1] at b2; rw [z2] at b3; rw [z3] at b4; refine ⟨(((GTab.made w).same (Below.heap_alloc _ _ _ (by omega))).same (Below.heap_alloc _ _ _ (by omega))).same (Below.heap_alloc _ _ _ (by omega)), (b2.same (Below.heap_alloc _ _ _ (by omega))).same (Below.heap_alloc _ _ _ (by omega)), b3.same (Below.heap_alloc _ _ _ (by omega)), b4, Qac (Qac (Qac (Qac (Below.refl _ _) _) _) _) _⟩
set_option maxRecDepth 100000 in
set_option maxHeartbeats 8000000 in
theorem check_calls (w : World) (A : Option Addr) (c : Nat) (l : List Evt) (hC : Kd.C kEvt w A l.length l) (hc : l.length ≤ c) (hl : l.length ≤ 1000) (hok : ∀ x ∈ l, EvOk x) :
    Calls Tryd.prog 7 #[.slice A l.length c] w fun e w' => e = .returned (.tuple #[.int .i64 (resI (checkF am0 l 0)), .int .i64 (resE (checkF am0 l 0))]) ∧ Below w.heap.size w w' := by
  have hmk1 := fun W => run_makeMap (P := Tryd.prog) 51 W
  have hmk2 := fun W => run_makeMap (P := Tryd.prog) 52 W
  have HC := Lib.hid hC; have HOK := Lib.hid hok; clear hC hok; go_enter Tryd.func7, Tryd.ntmps7
  go_wp2_with fail
  generalize hW : (((w.alloc (Obj.map #[] 0)).alloc (Obj.map #[] 0)).alloc (Obj.map #[] 0)).alloc _ = W
  obtain ⟨b1, b2, b3, b4, b5⟩ := made4 hW; have HM := Lib.hid (show CAt w W (w.heap.size + 1 + 1 + 1) w.heap.size (w.heap.size + 1) (w.heap.size + 1 + 1) (.slice none 0 0) 0 am0 from ⟨b4, by omega, by omega, by omega, by omega, by omega, by omega, by omega, b1, b2, b3, ⟨[], Kd.R_nil _ _ _ _ _, Nat.le_refl _, rfl, fun i t T h => by simp [am0] at h⟩, b5⟩); clear hW b1 b2 b3 b4 b5 hmk1 hmk2
  go_loopg [14] (l.length + 1) (fun kq v14 w' => ∃ (i : Nat) (m : AM) (v : Value), v14 = .int .i64 i ∧ Hid (kq = l.length + 1 - i) ∧ Hid (i ≤ l.length) ∧ Hid (CAt w w' (w.heap.size + 1 + 1 + 1) w.heap.size (w.heap.size + 1) (w.heap.size + 1 + 1) v (2 * i) m) ∧ Hid (GOk m) ∧ Hid (checkF am0 l 0 = checkF m (l.drop i) i))
  case atStart => exact ⟨0, am0, _, rfl, Lib.hid rfl, Lib.hid (Nat.zero_le _), HM, Lib.hid (fun i g h => by cases h), Lib.hid rfl⟩
  case round =>
    clear HM; obtain ⟨i, m, v, rfl, HKq, HI, HMi, HG, HF⟩ := hrel
    by_cases hi : i < l.length
    · have d1 : decide ((i : Int) < (l.length : Int)) = true := decide_eq_true (by omega)
      have d2 : decide (i < l.length) = true := decide_eq_true hi
      have wrapI : wrap64 ((i : Int) + 1) = ((i + 1 : Nat) : Int) := by unfold wrap64; omega
      obtain ⟨ad, cs, rfl, hlen, hK, hcell0⟩ := Kd.C_get HC.out z46 (i : Int) (by omega) (by omega)
      have hx : l.getD (i : Int).toNat z46 = l[i] := by
        rw [show (i : Int).toNat = i from rfl]; simp [List.getD, List.getElem?_eq_getElem hi]
      obtain ⟨x, hxe⟩ : ∃ x, x = l.getD (i : Int).toNat z46 := ⟨_, rfl⟩
      rw [← hxe] at hK
      have hdrop : l.drop i = x :: l.drop (i + 1) := by rw [hxe, hx]; exact List.drop_eq_getElem_cons hi
      have hmem : x ∈ l := by rw [hxe, hx]; exact List.getElem_mem hi
      obtain ⟨E, rfl⟩ : ∃ E : Array Value, cs = E.toList := ⟨cs.toArray, by simp⟩
      have hE : EvA w x E := hK; have HE := Lib.hid hE; have sE := hE.size; have oE := hE.one
      have HCell := Lib.hid (show ∀ j v, E[j]? = some v → wr.cell? ((ad.add (i * 37)).add j) = some v from fun j v hv => by
        rw [Addr.add_add]
        exact Qat HMi.out.old (hcell0 j v (by rw [Array.getElem?_toList]; exact hv)))
      have HX := Lib.hid (HOK.out x hmem)
      have q1 : (0 : Int) ≤ (i : Int) := by omega
      have q2 : (i : Int) < (l.length : Int) := by omega
      have HI2 := Lib.hid hi; have hf := HF.out; rw [hdrop, checkF] at hf; have HMa := Lib.hid (HMi.out.below (Qac (Below.refl wr.heap.size wr) (.cells E 46))); have HCl := Lib.hid (sound_calls w (wr.alloc (.cells E 46)) _ _ _ _ v (2 * i) m x E HMa.out hE HX.out (by omega) HG.out); have HG2 := Lib.hid (soundF_ok HG.out HX.out); have HBn := Lib.hid (QaL (Qav wr (.cells E 46)))
      obtain ⟨⟨y, m2⟩, hy⟩ : ∃ y, y = soundF m x := ⟨_, rfl⟩
      rw [← hy] at hf HCl HG2; have HFf := Lib.hid hf; clear hy hf hdrop hmem hK hE hx hxe hcell0 hlen hi
      cases y with
      | true =>
        go_wp2_with (first | (refine Qah rfl 46 (.tmp 17) rfl _ rfl E _ HCell.out Tryd.underlying46 rfl (by rw [sE]; kernel_rfl) ?_) | (refine QaU rfl 46 (.tmp 6) (.tmp 18) rfl rfl rfl E rfl (by rw [sE]; kernel_rfl) (by rw [sE]; try rfl) oE ?_) | (refine Qah rfl 46 (.tmp 6) rfl _ rfl E _ HBn.out Tryd.underlying46 rfl (by rw [sE]; kernel_rfl) ?_) | (go_at_call 11; refine HCl.out.mono ?_; rintro e w9 ⟨rfl, v9, hM9⟩; have HM9 := Lib.hid hM9; clear hM9))
        go_roundg (l.length + 1 - (i + 1))
        case measure => have := HKq.out; have := HI2.out; omega
        case rel => exact ⟨i + 1, m2, v9, by first | rfl | exact congrArg _ wrapI, Lib.hid rfl, Lib.hid HI2.out, HM9, HG2, Lib.hid (HFf.out.trans (if_pos (by first | rfl | trivial)))⟩
      | false =>
        go_wp2_with (first | (refine Qah rfl 46 (.tmp 17) rfl _ rfl E _ HCell.out Tryd.underlying46 rfl (by rw [sE]; kernel_rfl) ?_) | (refine QaU rfl 46 (.tmp 6) (.tmp 18) rfl rfl rfl E rfl (by rw [sE]; kernel_rfl) (by rw [sE]; try rfl) oE ?_) | (refine Qah rfl 46 (.tmp 6) rfl _ rfl E _ HBn.out Tryd.underlying46 rfl (by rw [sE]; kernel_rfl) ?_) | (go_at_call 11; refine HCl.out.mono ?_; rintro e w9 ⟨rfl, v9, hM9⟩; have HM9 := Lib.hid hM9; clear hM9))
        refine bodyPost_ret (results_tmp2 rfl _ _ _) rfl ?_; exact ⟨by rw [HFf.out.trans (if_neg (by decide))]; rfl, HM9.out.old⟩
    · have d1 : decide ((i : Int) < (l.length : Int)) = false := decide_eq_false (by omega)
      have d2 : decide (i < l.length) = false := decide_eq_false hi; have hf := HF.out; rw [List.drop_of_length_le (by omega), checkF] at hf; have HFf := Lib.hid hf; clear hi hf
      go_wp2_with fail
      refine bodyPost_ret (results_tmp2 rfl _ _ _) rfl ?_; exact ⟨by rw [HFf.out]; rfl, HMi.out.old⟩
end
def rA : Role := ⟨⟨#[100, 49]⟩, ⟨#[97]⟩⟩
def zTokL : Tok := ⟨0, 0, 0, ⟨#[]⟩, [], 0, [], [], []⟩
def xAdd : Evt := ⟨1, 1, ⟨1, ⟨⟨0, 0⟩, ⟨#[97]⟩, 1, ⟨#[97, 110, 110]⟩, ⟨⟨#[]⟩, ⟨#[]⟩⟩, ⟨⟨#[]⟩, ⟨#[]⟩⟩⟩, 0, ⟨#[]⟩, [], ⟨#[]⟩, zTokL, 0⟩, ⟨0, 1, zTokL⟩⟩
def xIssueAt (t n : Int) : Evt := ⟨t, 1, ⟨3, ⟨⟨0, 0⟩, ⟨#[]⟩, 0, ⟨#[]⟩, ⟨⟨#[]⟩, ⟨#[]⟩⟩, ⟨⟨#[]⟩, ⟨#[]⟩⟩⟩, 0, ⟨#[97, 110, 110]⟩, [rA], ⟨#[]⟩, zTokL, 0⟩, ⟨0, 0, ⟨1, 1, n, ⟨#[97, 110, 110]⟩, [rA], 0, [⟨1, 1⟩], [], []⟩⟩⟩
def xRevoke : Evt := ⟨3, 1, ⟨2, ⟨⟨0, 0⟩, ⟨#[]⟩, 0, ⟨#[]⟩, ⟨⟨#[]⟩, ⟨#[]⟩⟩, ⟨⟨#[]⟩, ⟨#[]⟩⟩⟩, 1, ⟨#[]⟩, [], ⟨#[]⟩, zTokL, 0⟩, ⟨0, 0, zTokL⟩⟩
def cA : Cred := ⟨⟨1, 1⟩, ⟨#[97]⟩, 1, ⟨#[97, 110, 110]⟩, ⟨⟨#[]⟩, ⟨#[]⟩⟩, ⟨⟨#[]⟩, ⟨#[]⟩⟩⟩
theorem cA_may : credMay cA = true := by kernel_rfl
theorem cA_has : hasF [cA] ⟨#[97, 110, 110]⟩ rA = true := by
  rw [hasF_iff]; have hm : cA ∈ counts [cA] := ((counts_spec [cA]).mem cA).mpr (by unfold First; simp [List.find?, cA_may, sameID]); have h := Said.member hm rfl; exact h
def mOne : AM := ⟨1, updG (fun _ => none) ⟨1, 1⟩ (cA, -1), updI (fun _ => 0) 1 1, fun _ => 0, []⟩
theorem dom1 {x : Evt} {m : AM} (t u : Int) (hd : x.f1 = 1) (ht : x.f0 = t) (hu : m.time = u) (h : ¬ t < u) : ¬ (x.f0 < m.time ∨ (domName x.f1).toList = []) := by
  rw [hd, ht, hu]; rintro (h' | h')
  · exact h h'
  · have : (domName 1).toList = [100, 49] := by kernel_rfl
    rw [this] at h'; cases h'
theorem sd1 : soundF am0 xAdd = (true, mOne) := by
  unfold soundF; rw [if_neg (dom1 1 0 rfl rfl rfl (by decide)), if_neg (show ¬ (xAdd.f3.f0 ≠ 0) from fun h => h rfl), if_pos (show xAdd.f2.f0 = 1 from rfl)]; unfold addF
  rw [if_neg (show ¬ (xAdd.f3.f1 ≤ _ ∨ credMay (gaveC xAdd) = false) from by
    rintro (h | h)
    · exact absurd (show (1 : Int) ≤ 0 from h) (by decide)
    · rw [show gaveC xAdd = cA from rfl, cA_may] at h
      cases h)]
  rfl
theorem given1 (g : ID → Option (Cred × Int)) (c : Cred × Int) : updG g ⟨1, 1⟩ c ⟨1, 1⟩ = some c := if_pos rfl
theorem stands_ok {m : AM} {t : Tok} {x : Evt} {k : Int} (h : m.given ⟨1, 1⟩ = some (cA, k)) (hk : ¬ 0 ≤ k) (h6 : t.f6 = [⟨1, 1⟩]) (h4 : t.f4 = [rA]) (h3 : t.f3 = ⟨#[97, 110, 110]⟩) : standsF m t x = true := by
  unfold standsF
  have hb : badF m x ⟨1, 1⟩ = false := by
    unfold badF; rw [h]; simp [hk]
  have hc : credOf m ⟨1, 1⟩ = cA := by
    unfold credOf; rw [h]; rfl
  rw [h6, h4, h3]; simp only [List.all_cons, List.all_nil, List.map_cons, List.map_nil, hb, hc, cA_has]; rfl
def mTwo : AM := { mOne with time := 2, number := updI (fun _ => 0) 1 1, issued := [(xIssueAt 2 1).f3.f2] }
theorem sd2 : soundF mOne (xIssueAt 2 1) = (true, mTwo) := by
  unfold soundF; rw [if_neg (dom1 2 1 rfl rfl rfl (by decide)), if_neg (show ¬ ((xIssueAt 2 1).f3.f0 ≠ 0) from fun h => h rfl), if_neg (show ¬ (xIssueAt 2 1).f2.f0 = 1 from by show ¬ (3 : Int) = 1; decide), if_neg (show ¬ (xIssueAt 2 1).f2.f0 = 2 from by show ¬ (3 : Int) = 2; decide), if_pos (show (xIssueAt 2 1).f2.f0 = 3 from rfl)]; unfold issueF; refine (if_pos ⟨rfl, by show (0 : Int) < 1; decide, rfl, rfl, stands_ok (k := -1) (given1 (fun _ => none) (cA, -1)) (by decide) rfl rfl rfl⟩).trans rfl
def mThree : AM := { mTwo with time := 3, given := updG mTwo.given ⟨1, 1⟩ (cA, 3) }
theorem sd3 : soundF mTwo xRevoke = (true, mThree) := by
  unfold soundF; rw [if_neg (dom1 3 2 rfl rfl rfl (by decide)), if_neg (show ¬ (xRevoke.f3.f0 ≠ 0) from fun h => h rfl), if_neg (show ¬ xRevoke.f2.f0 = 1 from by show ¬ (2 : Int) = 1; decide), if_pos (show xRevoke.f2.f0 = 2 from rfl)]; unfold revokeF; have hg : ({ mTwo with time := xRevoke.f0 } : AM).given ⟨xRevoke.f1, xRevoke.f2.f2⟩ = some (cA, -1) := given1 (fun _ => none) (cA, -1); rw [hg]
  show (if (0 : Int) ≤ -1 then _ else _) = _
  rw [if_neg (by decide)]; rfl
theorem sd4 : (soundF mThree (xIssueAt 3 2)).1 = false := by
  unfold soundF; rw [if_neg (dom1 3 3 rfl rfl rfl (by decide)), if_neg (show ¬ ((xIssueAt 3 2).f3.f0 ≠ 0) from fun h => h rfl), if_neg (show ¬ (xIssueAt 3 2).f2.f0 = 1 from by show ¬ (3 : Int) = 1; decide), if_neg (show ¬ (xIssueAt 3 2).f2.f0 = 2 from by show ¬ (3 : Int) = 2; decide), if_pos (show (xIssueAt 3 2).f2.f0 = 3 from rfl)]; unfold issueF
  have hb : badF { mThree with time := (xIssueAt 3 2).f0 } (xIssueAt 3 2) ⟨1, 1⟩ = true := by
    unfold badF; have hg : ({ mThree with time := (xIssueAt 3 2).f0 } : AM).given ⟨1, 1⟩ = some (cA, 3) := given1 mTwo.given (cA, 3); rw [hg]
    show (decide ((0 : Int) ≤ 3) && (decide ((64 : Int) ≤ wrap64 (3 - 3)) || decide ((1 : Int) = 1))) = true
    simp
  rw [if_neg (fun h => by
    have := stands_bad (m := { mThree with time := (xIssueAt 3 2).f0 }) (x := xIssueAt 3 2) (t := (xIssueAt 3 2).f3.f2) (List.mem_singleton.mpr rfl) hb; rw [h.2.2.2.2] at this
    cases this)]
theorem sd5 : (soundF am0 (xIssueAt 2 1)).1 = false := by
  unfold soundF; rw [if_neg (dom1 2 0 rfl rfl rfl (by decide)), if_neg (show ¬ ((xIssueAt 2 1).f3.f0 ≠ 0) from fun h => h rfl), if_neg (show ¬ (xIssueAt 2 1).f2.f0 = 1 from by show ¬ (3 : Int) = 1; decide), if_neg (show ¬ (xIssueAt 2 1).f2.f0 = 2 from by show ¬ (3 : Int) = 2; decide), if_pos (show (xIssueAt 2 1).f2.f0 = 3 from rfl)]; unfold issueF; have hb : badF { am0 with time := (xIssueAt 2 1).f0 } (xIssueAt 2 1) ⟨1, 1⟩ = true := rfl
  rw [if_neg (fun h => by
    have := stands_bad (m := { am0 with time := (xIssueAt 2 1).f0 }) (x := xIssueAt 2 1) (t := (xIssueAt 2 1).f3.f2) (List.mem_singleton.mpr rfl) hb; rw [h.2.2.2.2] at this
    cases this)]
theorem lives1 : checkF am0 [xAdd, xIssueAt 2 1, xRevoke] 0 = none := by
  rw [checkF, sd1, if_pos rfl, checkF, sd2, if_pos rfl, checkF, sd3, if_pos rfl, checkF]
theorem lives2 : checkF am0 [xAdd, xIssueAt 2 1, xRevoke, xIssueAt 3 2] 0 = some 3 := by
  rw [checkF, sd1, if_pos rfl, checkF, sd2, if_pos rfl, checkF, sd3, if_pos rfl, checkF, sd4, if_neg (by decide)]
theorem lives3 : checkF am0 [xIssueAt 2 1] 0 = some 0 := by
  rw [checkF, sd5, if_neg (by decide)]
abbrev cAdd : Array Value := #[.int .i64 1, .int .i64 1, .int .i64 1, .int .i64 0, .int .i64 0, .string ⟨#[97]⟩, .int .i64 1, .string ⟨#[97, 110, 110]⟩, .string ⟨#[]⟩, .string ⟨#[]⟩, .string ⟨#[]⟩, .string ⟨#[]⟩, .int .i64 0, .string ⟨#[]⟩, .slice none 0 0, .string ⟨#[]⟩, .int .i64 0, .int .i64 0, .int .i64 0, .string ⟨#[]⟩, .slice none 0 0, .int .i64 0, .slice none 0 0, .slice none 0 0, .slice none 0 0, .int .i64 0, .int .i64 0, .int .i64 1, .int .i64 0, .int .i64 0, .int .i64 0, .string ⟨#[]⟩, .slice none 0 0, .int .i64 0, .slice none 0 0, .slice none 0 0, .slice none 0 0]
abbrev cIssueAt (t n : Int) (r s : Nat) : Array Value := #[.int .i64 t, .int .i64 1, .int .i64 3, .int .i64 0, .int .i64 0, .string ⟨#[]⟩, .int .i64 0, .string ⟨#[]⟩, .string ⟨#[]⟩, .string ⟨#[]⟩, .string ⟨#[]⟩, .string ⟨#[]⟩, .int .i64 0, .string ⟨#[97, 110, 110]⟩, .slice (some ⟨r, 0, none⟩) 1 1, .string ⟨#[]⟩, .int .i64 0, .int .i64 0, .int .i64 0, .string ⟨#[]⟩, .slice none 0 0, .int .i64 0, .slice none 0 0, .slice none 0 0, .slice none 0 0, .int .i64 0, .int .i64 0, .int .i64 0, .int .i64 1, .int .i64 1, .int .i64 n, .string ⟨#[97, 110, 110]⟩, .slice (some ⟨r, 0, none⟩) 1 1, .int .i64 0, .slice (some ⟨s, 0, none⟩) 1 1, .slice none 0 0, .slice none 0 0]
abbrev cIssue (r s : Nat) : Array Value := #[.int .i64 2, .int .i64 1, .int .i64 3, .int .i64 0, .int .i64 0, .string ⟨#[]⟩, .int .i64 0, .string ⟨#[]⟩, .string ⟨#[]⟩, .string ⟨#[]⟩, .string ⟨#[]⟩, .string ⟨#[]⟩, .int .i64 0, .string ⟨#[97, 110, 110]⟩, .slice (some ⟨r, 0, none⟩) 1 1, .string ⟨#[]⟩, .int .i64 0, .int .i64 0, .int .i64 0, .string ⟨#[]⟩, .slice none 0 0, .int .i64 0, .slice none 0 0, .slice none 0 0, .slice none 0 0, .int .i64 0, .int .i64 0, .int .i64 0, .int .i64 1, .int .i64 1, .int .i64 1, .string ⟨#[97, 110, 110]⟩, .slice (some ⟨r, 0, none⟩) 1 1, .int .i64 0, .slice (some ⟨s, 0, none⟩) 1 1, .slice none 0 0, .slice none 0 0]
abbrev cAgain (r s : Nat) : Array Value := #[.int .i64 3, .int .i64 1, .int .i64 3, .int .i64 0, .int .i64 0, .string ⟨#[]⟩, .int .i64 0, .string ⟨#[]⟩, .string ⟨#[]⟩, .string ⟨#[]⟩, .string ⟨#[]⟩, .string ⟨#[]⟩, .int .i64 0, .string ⟨#[97, 110, 110]⟩, .slice (some ⟨r, 0, none⟩) 1 1, .string ⟨#[]⟩, .int .i64 0, .int .i64 0, .int .i64 0, .string ⟨#[]⟩, .slice none 0 0, .int .i64 0, .slice none 0 0, .slice none 0 0, .slice none 0 0, .int .i64 0, .int .i64 0, .int .i64 0, .int .i64 1, .int .i64 1, .int .i64 2, .string ⟨#[97, 110, 110]⟩, .slice (some ⟨r, 0, none⟩) 1 1, .int .i64 0, .slice (some ⟨s, 0, none⟩) 1 1, .slice none 0 0, .slice none 0 0]
abbrev cRevoke : Array Value := #[.int .i64 3, .int .i64 1, .int .i64 2, .int .i64 0, .int .i64 0, .string ⟨#[]⟩, .int .i64 0, .string ⟨#[]⟩, .string ⟨#[]⟩, .string ⟨#[]⟩, .string ⟨#[]⟩, .string ⟨#[]⟩, .int .i64 1, .string ⟨#[]⟩, .slice none 0 0, .string ⟨#[]⟩, .int .i64 0, .int .i64 0, .int .i64 0, .string ⟨#[]⟩, .slice none 0 0, .int .i64 0, .slice none 0 0, .slice none 0 0, .slice none 0 0, .int .i64 0, .int .i64 0, .int .i64 0, .int .i64 0, .int .i64 0, .int .i64 0, .string ⟨#[]⟩, .slice none 0 0, .int .i64 0, .slice none 0 0, .slice none 0 0, .slice none 0 0]
theorem rows_C {W : World} {Es : List (Array Value)} {xs : List Evt} (hl : Es.length = xs.length) (hp : 0 < xs.length) (hm : xs.length ≤ 9223372036854775807) (hE : ∀ (i : Nat) (x : Evt) (E : Array Value), xs[i]? = some x → Es[i]? = some E → EvA W x E) :
    Kd.C kEvt (W.alloc (.cells ((Es.map Value.agg).flatMap fun v => v.cells.toList).toArray 46)) (some ⟨W.heap.size, 0, none⟩) xs.length xs := by
  refine ⟨rfl, hm, fun _ => ⟨_, rfl, fun j p hj => ?_⟩⟩
  have hjl : j < Es.length := by rw [hl]; exact (List.getElem?_eq_some_iff.mp hj).1
  have hEj := hE j p _ hj (List.getElem?_eq_getElem hjl); refine ⟨Es[j].toList, by have := hEj.size; rw [Array.length_toList]; exact this, kEvt.K_below (Qac (Below.refl _ _) _) hEj, fun k u hk => ?_⟩
  have hs : ∀ v ∈ Es.map Value.agg, v.cells.size = 37 := fun v hv => by
    obtain ⟨E, hEm, rfl⟩ := List.mem_map.mp hv; obtain ⟨i, hi, rfl⟩ := List.getElem_of_mem hEm; exact (hE i _ _ (List.getElem?_eq_getElem (by omega)) (List.getElem?_eq_getElem hi)).size
  have hk37 : k < 37 := by
    have := (List.getElem?_eq_some_iff.mp hk).1; have h2 := hEj.size; simp only [Array.length_toList] at this; omega
  show (W.alloc _).cell? ((⟨W.heap.size, 0, none⟩ : Addr).add (j * 37 + k)) = some u
  rw [Addr.add_mid, cell_of_row _ W.heap.size _ _ _ (0, 0) (Qav W _), Nat.zero_add]; rw [List.getElem?_toArray, Go.Great.flat_get (by decide) _ hs]; rw [show (j * 37 + k) / 37 = j by omega, show (j * 37 + k) % 37 = k by omega, List.getElem?_map, List.getElem?_eq_getElem hjl]
  show (Value.agg Es[j]).cells[k]? = some u
  rw [Array.getElem?_toList] at hk; exact hk
theorem infoSz : (Tryd.prog.info? 46).map (·.size) = some 37 := by kernel_rfl
theorem infoZ : ((Tryd.prog.info? 46).bind (·.zero)).isSome = true := by kernel_rfl
theorem wpList_buildEv {rest : List Oper} {ops : Array Oper} {o : Oper} {a : Act} {w : World} {Q : Exit → Act → World → Prop} (hg : o.guard = none) (n : Nat) (parts : Array (Nat × Operand)) (ho : o.op = .buildSlice 22 n parts) (Es : List (Array Value)) (xs : List Evt) (ix : Nat → Nat) (hn : n = Es.length) (hl : Es.length = xs.length) (hp : 0 < n) (hm : n ≤ 100) (hparts : parts.toList = (List.range n).map fun i => (i, Operand.tmp (ix i)))
    (hE : ∀ (i : Nat) (x : Evt) (E : Array Value), xs[i]? = some x → Es[i]? = some E → EvA w x E) (hev : ∀ (i : Nat) (E : Array Value), Es[i]? = some E → a.eval (.tmp (ix i)) = .agg E)
    (h : ∀ W' : World, Kd.C kEvt W' (some ⟨w.heap.size, 0, none⟩) xs.length xs → Below w.heap.size w W' → wpList Tryd.prog ops Q rest (a.put o.dst (.slice (some ⟨w.heap.size, 0, none⟩) xs.length xs.length)) W') : wpList Tryd.prog ops Q (o :: rest) a w := by
  have hml : (Es.map Value.agg).length = n := by rw [List.length_map, hn]
  refine Go.Great.wpList_buildRows hg 22 46 parts 37 (Es.map Value.agg) (by rw [hml]; exact ho) ix _ rfl _ rfl Tryd.underlying22 infoSz infoZ (by decide) (by omega) (by rw [hml]; omega) (by rw [hml]; exact hparts) ?_ ?_ ?_
  · intro v hv
    obtain ⟨E, hEm, rfl⟩ := List.mem_map.mp hv; obtain ⟨i, hi, rfl⟩ := List.getElem_of_mem hEm; exact (hE i _ _ (List.getElem?_eq_getElem (by omega)) (List.getElem?_eq_getElem hi)).size
  · intro i hi
    rw [List.getElem_map]; exact hev i _ (List.getElem?_eq_getElem (by rw [hml] at hi; omega))
  · rw [hml, show n = xs.length by omega]
    exact h _ (rows_C hl (by omega) (by omega) hE) (Qac (Below.refl _ _) _)
theorem role_C {W : World} {r : Nat} {t : TypeId} (hb : W.heap[r]? = some (.cells #[.string ⟨#[100, 49]⟩, .string ⟨#[97]⟩] t (0, 0))) : Kd.C k32 W (some ⟨r, 0, none⟩) 1 [rA] := by
  refine ⟨rfl, by decide, fun _ => ⟨_, rfl, fun j p hj => ?_⟩⟩
  match j, hj with
  | 0, hj =>
    obtain rfl := Option.some.inj hj; refine ⟨[.string ⟨#[100, 49]⟩, .string ⟨#[97]⟩], rfl, k32_mk W rA, fun k u hk => ?_⟩
    show W.cell? ((⟨r, 0, none⟩ : Addr).add (0 * 2 + k)) = some u
    rw [Addr.add_mid, cell_of_row W r _ _ _ (0, 0) hb, show 0 + (0 * 2 + k) = k by omega, ← Array.getElem?_toList]; exact hk
theorem id_C {W : World} {r : Nat} {t : TypeId} (hb : W.heap[r]? = some (.cells #[.int .i64 1, .int .i64 1] t (0, 0))) : Kd.C k30 W (some ⟨r, 0, none⟩) 1 [⟨1, 1⟩] := by
  refine ⟨rfl, by decide, fun _ => ⟨_, rfl, fun j p hj => ?_⟩⟩
  match j, hj with
  | 0, hj =>
    obtain rfl := Option.some.inj hj; refine ⟨[.int .i64 1, .int .i64 1], rfl, k30_mk W ⟨1, 1⟩, fun k u hk => ?_⟩
    show W.cell? ((⟨r, 0, none⟩ : Addr).add (0 * 2 + k)) = some u
    rw [Addr.add_mid, cell_of_row W r _ _ _ (0, 0) hb, show 0 + (0 * 2 + k) = k by omega, ← Array.getElem?_toList]; exact hk
theorem nil_C {α : Type} (d : Kd α) (W : World) : d.C W none ([] : List α).length [] := Kd.C_nil d W
theorem add_K (W : World) : EvA W xAdd cAdd := k46_mk W xAdd (A14 := none) (c14 := 0) (Nat.le_refl 0) (nil_C _ W) (A20 := none) (c20 := 0) (Nat.le_refl 0) (nil_C _ W) (A22 := none) (c22 := 0) (Nat.le_refl 0) (nil_C _ W) (A23 := none) (c23 := 0) (Nat.le_refl 0) (nil_C _ W) (A24 := none) (c24 := 0) (Nat.le_refl 0) (nil_C _ W) (A32 := none) (c32 := 0) (Nat.le_refl 0) (nil_C _ W) (A34 := none) (c34 := 0) (Nat.le_refl 0) (nil_C _ W) (A35 := none) (c35 := 0) (Nat.le_refl 0) (nil_C _ W) (A36 := none) (c36 := 0) (Nat.le_refl 0) (nil_C _ W)
theorem revoke_K (W : World) : EvA W xRevoke cRevoke := k46_mk W xRevoke (A14 := none) (c14 := 0) (Nat.le_refl 0) (nil_C _ W) (A20 := none) (c20 := 0) (Nat.le_refl 0) (nil_C _ W) (A22 := none) (c22 := 0) (Nat.le_refl 0) (nil_C _ W) (A23 := none) (c23 := 0) (Nat.le_refl 0) (nil_C _ W) (A24 := none) (c24 := 0) (Nat.le_refl 0) (nil_C _ W) (A32 := none) (c32 := 0) (Nat.le_refl 0) (nil_C _ W) (A34 := none) (c34 := 0) (Nat.le_refl 0) (nil_C _ W) (A35 := none) (c35 := 0) (Nat.le_refl 0) (nil_C _ W) (A36 := none) (c36 := 0) (Nat.le_refl 0) (nil_C _ W)
theorem issue_K {W : World} {r s : Nat} (t n : Int) (hr : Kd.C k32 W (some ⟨r, 0, none⟩) 1 [rA]) (hs : Kd.C k30 W (some ⟨s, 0, none⟩) 1 [⟨1, 1⟩]) : EvA W (xIssueAt t n) (cIssueAt t n r s) := k46_mk W (xIssueAt t n) (A14 := some ⟨r, 0, none⟩) (c14 := 1) (Nat.le_refl 1) hr (A20 := none) (c20 := 0) (Nat.le_refl 0) (nil_C _ W) (A22 := none) (c22 := 0) (Nat.le_refl 0) (nil_C _ W) (A23 := none) (c23 := 0) (Nat.le_refl 0) (nil_C _ W) (A24 := none) (c24 := 0) (Nat.le_refl 0) (nil_C _ W) (A32 := some ⟨r, 0, none⟩) (c32 := 1) (Nat.le_refl 1) hr (A34 := some ⟨s, 0, none⟩) (c34 := 1) (Nat.le_refl 1) hs (A35 := none) (c35 := 0) (Nat.le_refl 0) (nil_C _ W) (A36 := none) (c36 := 0) (Nat.le_refl 0) (nil_C _ W)
theorem evOk_small {x : Evt} (h : x = xAdd ∨ x = xRevoke ∨ ∃ t n, okI t ∧ okI n ∧ x = xIssueAt t n) : EvOk x := by
  have c0 : okCred ⟨⟨0, 0⟩, ⟨#[]⟩, 0, ⟨#[]⟩, ⟨⟨#[]⟩, ⟨#[]⟩⟩, ⟨⟨#[]⟩, ⟨#[]⟩⟩⟩ := by unfold okCred; decide
  have c1 : okCred ⟨⟨0, 0⟩, ⟨#[97]⟩, 1, ⟨#[97, 110, 110]⟩, ⟨⟨#[]⟩, ⟨#[]⟩⟩, ⟨⟨#[]⟩, ⟨#[]⟩⟩⟩ := by unfold okCred; decide
  rcases h with rfl | rfl | ⟨t, n, ht, hn, rfl⟩
  · exact ⟨rfl, rfl, rfl, rfl, c1, by decide, by decide, (fun i h => by cases h), (fun i h => by cases h)⟩
  · exact ⟨rfl, rfl, rfl, rfl, c0, by decide, by decide, (fun i h => by cases h), (fun i h => by cases h)⟩
  · exact ⟨ht, rfl, rfl, rfl, c0, by show (0 : Nat) < 21; decide, by show (1 : Nat) < 21; decide, (fun i h => by cases h), (fun i h => by obtain rfl := List.mem_singleton.mp h; exact ⟨rfl, rfl⟩)⟩
set_option maxRecDepth 100000 in
set_option maxHeartbeats 8000000 in
theorem lives_calls (w : World) :
    Calls Tryd.prog 8 #[] w fun e w' => e = .returned (.bool true) ∧ Below w.heap.size w w' := by
  go_enter Tryd.func8, Tryd.ntmps8
  go_upto_region 2 with fail
  have hB1 := Qav w (.cells #[.string ⟨#[100, 49]⟩, .string ⟨#[97]⟩] 32); have hL1 : Below w.heap.size w (w.alloc (.cells #[.string ⟨#[100, 49]⟩, .string ⟨#[97]⟩] 32)) := Qac (Below.refl _ _) _
  generalize w.alloc (.cells #[.string ⟨#[100, 49]⟩, .string ⟨#[97]⟩] 32) = W1 at hB1 hL1 ⊢
  have HB1 := Lib.hid hB1; have HL1 := Lib.hid hL1; clear hB1 hL1
  go_upto_region 3 with (refine QaU rfl 46 _ _ rfl rfl (by first | rfl | exact congrArg (fun n => Value.pointer (some ⟨n, 0, none⟩)) (Array.size_push _).symm) cAdd rfl (by kernel_rfl) (by kernel_rfl) (by kernel_rfl) ?_)
  have hB2 := Qav W1 (.cells cAdd 46); have hL2 : Below W1.heap.size W1 (W1.alloc (.cells cAdd 46)) := Qac (Below.refl _ _) _
  generalize W1.alloc (.cells cAdd 46) = W2 at hB2 hL2 ⊢
  have HB2 := Lib.hid hB2; have HL2 := Lib.hid hL2; clear hB2 hL2
  go_upto_region 4 with (refine QaU rfl 46 _ _ rfl rfl (by first | rfl | exact congrArg (fun n => Value.pointer (some ⟨n, 0, none⟩)) (Array.size_push _).symm) (cIssue w.heap.size W2.heap.size) rfl (by kernel_rfl) (by kernel_rfl) (by kernel_rfl) ?_)
  have hB3 := Qau (Qav W2 (.cells #[.int .i64 1, .int .i64 1] 30)) (.cells (cIssue w.heap.size W2.heap.size) 46); have hB4 := Qav (W2.alloc (.cells #[.int .i64 1, .int .i64 1] 30)) (.cells (cIssue w.heap.size W2.heap.size) 46); rw [show (W2.alloc (.cells #[.int .i64 1, .int .i64 1] 30)).heap.size = W2.heap.size + 1 from Array.size_push _] at hB4; have hL3 : Below W2.heap.size W2 ((W2.alloc (.cells #[.int .i64 1, .int .i64 1] 30)).alloc (.cells (cIssue w.heap.size W2.heap.size) 46)) := Qac (Qac (Below.refl _ _) _) _
  generalize (W2.alloc (.cells #[.int .i64 1, .int .i64 1] 30)).alloc (.cells (cIssue w.heap.size W2.heap.size) 46) = W3 at hB3 hB4 hL3 ⊢
  have HB3 := Lib.hid hB3; have HB4 := Lib.hid hB4; have HL3 := Lib.hid hL3; clear hB3 hB4 hL3
  go_upto_region 5 with (refine QaU rfl 46 _ _ rfl rfl (by first | rfl | exact congrArg (fun n => Value.pointer (some ⟨n, 0, none⟩)) (Array.size_push _).symm) cRevoke rfl (by kernel_rfl) (by kernel_rfl) (by kernel_rfl) ?_)
  have hB5 := Qav W3 (.cells cRevoke 46); have hL4 : Below W3.heap.size W3 (W3.alloc (.cells cRevoke 46)) := Qac (Below.refl _ _) _; have hB4' := Qau HB4.out (.cells cRevoke 46)
  generalize W3.alloc (.cells cRevoke 46) = W4 at hB5 hL4 hB4' ⊢
  have HB5 := Lib.hid hB5; have HB4' := Lib.hid hB4'; have HL4 := Lib.hid hL4; clear hB5 hL4 hB4'
  go_upto_region 8 with (first | (refine Qah rfl 46 (.tmp 3) rfl _ rfl (cIssue w.heap.size W2.heap.size) _ (range0 HB4'.out) Tryd.underlying46 rfl (by kernel_rfl) ?_) | (refine QaU rfl 46 _ _ rfl rfl (by first | rfl | exact congrArg (fun n => Value.pointer (some ⟨n, 0, none⟩)) (Array.size_push _).symm) (cIssue w.heap.size W2.heap.size) rfl (by kernel_rfl) (by kernel_rfl) (by kernel_rfl) ?_))
  have hB6 := Qav W4 (.cells (cAgain w.heap.size W2.heap.size) 46); have hL5 : Below W4.heap.size W4 (W4.alloc (.cells (cAgain w.heap.size W2.heap.size) 46)) := Qac (Below.refl _ _) _
  generalize W4.alloc (.cells (cAgain w.heap.size W2.heap.size) 46) = W5 at hB6 hL5 ⊢
  have o1 : Below w.heap.size w W2 := Qaa HL1.out HL2.out; have o2 : Below w.heap.size w W3 := Qaa o1 HL3.out; have o3 : Below w.heap.size w W4 := Qaa o2 HL4.out; have o4 : Below w.heap.size w W5 := Qaa o3 hL5; have hR : Kd.C k32 W5 (some ⟨w.heap.size, 0, none⟩) 1 [rA] := role_C (Qab (Qab (Qab (Qab HB1.out HL2.out) HL3.out) HL4.out) hL5); have hI : Kd.C k30 W5 (some ⟨W2.heap.size, 0, none⟩) 1 [⟨1, 1⟩] := id_C (Qab (Qab HB3.out HL4.out) hL5); have k1 := add_K W5; have k2 := issue_K 2 1 hR hI; have k3 := revoke_K W5; have k4 := issue_K 3 2 hR hI; have a1 := Qab (Qab (Qab HB2.out HL3.out) HL4.out) hL5; have a2 : W5.heap[W2.heap.size + 1]? = some (.cells (cIssueAt 2 1 w.heap.size W2.heap.size) 46 (0, 0)) := Qab HB4'.out hL5; have a4 : W5.heap[W4.heap.size]? = some (.cells (cIssueAt 3 2 w.heap.size W2.heap.size) 46 (0, 0)) := hB6; have a3 := Qab HB5.out hL5
  have hE1 : ∃ E, E = cAdd := ⟨_, rfl⟩
  obtain ⟨E1, hE1⟩ := hE1; rw [← hE1] at k1 a1
  have hE2 : ∃ E, E = cIssueAt 2 1 w.heap.size W2.heap.size := ⟨_, rfl⟩
  obtain ⟨E2, hE2⟩ := hE2; rw [← hE2] at k2 a2
  have hE3 : ∃ E, E = cRevoke := ⟨_, rfl⟩
  obtain ⟨E3, hE3⟩ := hE3; rw [← hE3] at k3 a3
  have hE4 : ∃ E, E = cIssueAt 3 2 w.heap.size W2.heap.size := ⟨_, rfl⟩
  obtain ⟨E4, hE4⟩ := hE4; rw [← hE4] at k4 a4; clear hE1 hE2 hE3 hE4 hR hI; have sE1 := k1.size; have sE2 := k2.size; have sE3 := k3.size; have sE4 := k4.size; have HA1 := Lib.hid a1; have HA2 := Lib.hid a2; have HA3 := Lib.hid a3; have HA4 := Lib.hid a4; have HO5 := Lib.hid o4; have HK := Lib.hid (And.intro k1 (And.intro k2 (And.intro k3 k4))); have ok1 : EvOk xAdd := evOk_small (.inl rfl); have ok2 : EvOk (xIssueAt 2 1) := evOk_small (.inr (.inr ⟨2, 1, rfl, rfl, rfl⟩)); have ok3 : EvOk xRevoke := evOk_small (.inr (.inl rfl)); have ok4 : EvOk (xIssueAt 3 2) := evOk_small (.inr (.inr ⟨3, 2, rfl, rfl, rfl⟩)); have HOk1 := Lib.hid (show ∀ x ∈ [xAdd, xIssueAt 2 1, xRevoke], EvOk x by simp [ok1, ok2, ok3]); have HOk2 := Lib.hid (show ∀ x ∈ [xAdd, xIssueAt 2 1, xRevoke, xIssueAt 3 2], EvOk x by simp [ok1, ok2, ok3, ok4]); have HOk3 := Lib.hid (show ∀ x ∈ [xIssueAt 2 1], EvOk x by simp [ok2])
  have HX1 := Lib.hid (show ∀ (i : Nat) (x : Evt) (E : Array Value), [xAdd, xIssueAt 2 1, xRevoke][i]? = some x → [E1, E2, E3][i]? = some E → EvA W5 x E from fun i x E h1 h2 => by
    rcases i with _ | _ | _ | i <;> first | (obtain rfl := Option.some.inj h1; obtain rfl := Option.some.inj h2; assumption) | (simp at h1))
  clear k1 k2 k3 k4 a1 a2 a3 a4 hB6 o1 o2 o3 o4 ok1 ok2 ok3 ok4 HB1 HB2 HB3 HB4 HB5 HL1 HL2 HL3 HL4 hL5 HB4'
  go_upto_region 9 with (first | (refine Qah rfl 46 (.tmp 2) rfl _ rfl E1 _ (range0 HA1.out) Tryd.underlying46 rfl (by rw [sE1]; kernel_rfl) ?_) | (refine Qah rfl 46 (.tmp 3) rfl _ rfl E2 _ (range0 HA2.out) Tryd.underlying46 rfl (by rw [sE2]; kernel_rfl) ?_) | (refine Qah rfl 46 (.tmp 4) rfl _ rfl E3 _ (range0 HA3.out) Tryd.underlying46 rfl (by rw [sE3]; kernel_rfl) ?_) | (refine wpList_buildEv rfl 3 _ rfl [E1, E2, E3] [xAdd, xIssueAt 2 1, xRevoke] (fun i => 34 + i) rfl rfl (by decide) (by decide) rfl (HX1.out) (by rintro (_ | _ | _ | _ | i) E h <;> first | (obtain rfl := Option.some.inj h; rfl) | (simp at h)) ?_; intro W6 hC hb; have HC1 := Lib.hid hC; have HL1 := Lib.hid hb; clear hC hb) | (go_at_call 7; refine (check_calls W6 _ _ [xAdd, xIssueAt 2 1, xRevoke] HC1.out (by decide) (by decide) (HOk1.out)).mono ?_; rintro e W7 ⟨rfl, hb⟩; rw [lives1]; have HM1 := Lib.hid hb; clear hb))
  have b7 : Below W5.heap.size W5 W7 := Qaa HL1.out HM1.out; have HA1' := Lib.hid (Qab HA1.out b7); have HA2' := Lib.hid (Qab HA2.out b7); have HA3' := Lib.hid (Qab HA3.out b7); have HA4' := Lib.hid (Qab HA4.out b7)
  have HX2 := Lib.hid (show ∀ (i : Nat) (x : Evt) (E : Array Value), [xAdd, xIssueAt 2 1, xRevoke, xIssueAt 3 2][i]? = some x → [E1, E2, E3, E4][i]? = some E → EvA W7 x E from fun i x E h1 h2 => by
    obtain ⟨k1, k2, k3, k4⟩ := HK.out
    rcases i with _ | _ | _ | _ | i <;> first | (obtain rfl := Option.some.inj h1; obtain rfl := Option.some.inj h2; apply EvA.below _ b7; assumption) | (simp at h1))
  have HB7 := Lib.hid b7; clear b7 HA1 HA2 HA3 HA4 HX1 HC1 HL1 HM1
  go_upto_region 10 with (first | (refine Qah rfl 46 (.tmp 2) rfl _ rfl E1 _ (range0 HA1'.out) Tryd.underlying46 rfl (by rw [sE1]; kernel_rfl) ?_) | (refine Qah rfl 46 (.tmp 3) rfl _ rfl E2 _ (range0 HA2'.out) Tryd.underlying46 rfl (by rw [sE2]; kernel_rfl) ?_) | (refine Qah rfl 46 (.tmp 4) rfl _ rfl E3 _ (range0 HA3'.out) Tryd.underlying46 rfl (by rw [sE3]; kernel_rfl) ?_) | (refine Qah rfl 46 (.tmp 5) rfl _ rfl E4 _ (range0 HA4'.out) Tryd.underlying46 rfl (by rw [sE4]; kernel_rfl) ?_) | (refine wpList_buildEv rfl 4 _ rfl [E1, E2, E3, E4] [xAdd, xIssueAt 2 1, xRevoke, xIssueAt 3 2] (fun i => 42 + i) rfl rfl (by decide) (by decide) rfl (HX2.out) (by rintro (_ | _ | _ | _ | i) E h <;> first | (obtain rfl := Option.some.inj h; rfl) | (simp at h)) ?_; intro W8 hC hb; have HC2 := Lib.hid hC; have HL2 := Lib.hid hb; clear hC hb) | (go_at_call 7; refine (check_calls W8 _ _ [xAdd, xIssueAt 2 1, xRevoke, xIssueAt 3 2] HC2.out (by decide) (by decide) (HOk2.out)).mono ?_; rintro e W9 ⟨rfl, hb⟩; rw [lives2]; have HM2 := Lib.hid hb; clear hb))
  have b9 : Below W5.heap.size W5 W9 := Qaa (Qaa HB7.out HL2.out) HM2.out; have HA2 := Lib.hid (Qab HA2'.out (Qaa HL2.out HM2.out))
  have HX3 := Lib.hid (show ∀ (i : Nat) (x : Evt) (E : Array Value), [xIssueAt 2 1][i]? = some x → [E2][i]? = some E → EvA W9 x E from fun i x E h1 h2 => by
    obtain ⟨k1, k2, k3, k4⟩ := HK.out
    rcases i with _ | _ | _ | _ | i <;> first | (obtain rfl := Option.some.inj h1; obtain rfl := Option.some.inj h2; apply EvA.below _ b9; assumption) | (simp at h1))
  have HB9 := Lib.hid b9; clear b9 HA1' HA2' HA3' HA4' HX2 HC2 HL2 HM2 HB7
  go_wp2_with (first | (refine Qah rfl 46 (.tmp 3) rfl _ rfl E2 _ (range0 HA2.out) Tryd.underlying46 rfl (by rw [sE2]; kernel_rfl) ?_) | (refine wpList_buildEv rfl 1 _ rfl [E2] [xIssueAt 2 1] (fun i => 51 + i) rfl rfl (by decide) (by decide) rfl (HX3.out) (by rintro (_ | _ | _ | _ | i) E h <;> first | (obtain rfl := Option.some.inj h; rfl) | (simp at h)) ?_; intro W10 hC hb; have HC3 := Lib.hid hC; have HL3 := Lib.hid hb; clear hC hb) | (go_at_call 7; refine (check_calls W10 _ _ [xIssueAt 2 1] HC3.out (by decide) (by decide) (HOk3.out)).mono ?_; rintro e W11 ⟨rfl, hb⟩; rw [lives3]; have HM3 := Lib.hid hb; clear hb))
  have hfin : Below w.heap.size w W11 := Qaa (Qaa (Qaa HO5.out HB9.out) HL3.out) HM3.out; refine bodyPost_ret (results_tmp rfl _ _ _) rfl ?_; exact ⟨rfl, hfin⟩
theorem check_take : ∀ (l : List Evt) (m : AM) (i k : Nat), checkF m (l.take k) i = (checkF m l i).bind fun j => if j < i + k then some j else none
  | [], m, i, k => by simp [checkF]
  | x :: xs, m, i, 0 => by
    rw [List.take_zero, checkF]
    cases h : checkF m (x :: xs) i with
    | none => rfl
    | some j =>
      have hle : ∀ (l : List Evt) (m : AM) (i j : Nat), checkF m l i = some j → i ≤ j := by
        intro l
        induction l with
        | nil => intro m i j h; simp [checkF] at h
        | cons x xs ih =>
          intro m i j h; rw [checkF] at h
          split at h
          · have := ih _ _ _ h
            omega
          · obtain rfl := Option.some.inj h
            exact Nat.le_refl _
      have := hle _ _ _ _ h; simp; omega
  | x :: xs, m, i, k + 1 => by
    rw [List.take_succ_cons, checkF, checkF, check_take xs _ (i + 1) k]
    split
    · rw [show i + 1 + k = i + (k + 1) by omega]
    · simp
theorem few_len (l : List Evt) : (few l).length ≤ 30 := by
  unfold few; rw [List.length_map, List.length_take]; omega
theorem few_ok {l : List Evt} (h : ∀ x ∈ l, okI x.f0 ∧ okI x.f1 ∧ (okCred x.f2.f1 ∧ okI x.f2.f2 ∧ ∀ i ∈ x.f2.f6.f6, okID i) ∧ okI x.f3.f1 ∧ ∀ i ∈ x.f3.f2.f6, okID i) : ∀ x ∈ few l, EvOk x := by
  intro x hx; obtain ⟨y, hy, rfl⟩ := List.mem_map.mp hx; obtain ⟨h0, h1, ⟨hc, h2, h6⟩, h3, h7⟩ := h y (List.mem_of_mem_take hy); refine ⟨h0, h1, h2, h3, hc, ?_, ?_, ?_, ?_⟩
  · show (List.take 12 _).length < 21
    rw [List.length_take]; omega
  · show (List.take 12 _).length < 21
    rw [List.length_take]; omega
  · intro i hi
    exact h6 i (List.mem_of_mem_take (List.mem_of_mem_take hi))
  · intro i hi
    exact h7 i (List.mem_of_mem_take (List.mem_of_mem_take hi))
theorem few_callsL (w : World) (A : Option Addr) (c : Nat) (l L : List Evt) (hL : few l = L) (hc : l.length ≤ c) (h : Kd.C kEvt w A l.length l) :
    Calls Tryd.prog 6 #[.slice A l.length c] w fun e w' => ∃ A' c', e = .returned (.slice A' L.length c') ∧ L.length ≤ c' ∧ Kd.C kEvt w' A' L.length L ∧ Below w.heap.size w w' := by
  subst hL; exact few_calls w A c l hc h
theorem Qbe (w : World) (A : Option Addr) (c : Nat) (l : List Evt) (n : Nat) (r : Option Nat) (hn : l.length = n) (hC : Kd.C kEvt w A n l) (hc : n ≤ c) (hl : n ≤ 1000) (hok : ∀ x ∈ l, EvOk x) (hr : checkF am0 l 0 = r) :
    Calls Tryd.prog 7 #[.slice A n c] w fun e w' => e = .returned (.tuple #[.int .i64 (resI r), .int .i64 (resE r)]) ∧ Below w.heap.size w w' := by
  subst hn hr; exact check_calls w A c l hC hc hl hok
set_option maxRecDepth 100000 in
set_option maxHeartbeats 2000000 in
theorem begins_walk (w : World) (A : Option Addr) (c : Nat) (l : List Evt) (at_ : Int) (hC : Kd.C kEvt w A l.length l) (hc : l.length ≤ c) (hok : ∀ x ∈ few l, EvOk x) (hat : okI at_) :
    Calls Tryd.prog 3 #[.slice A l.length c, .int .i64 at_] w fun e w' => e = .returned (.bool true) ∧ Below w.heap.size w w' := by
  have HC := Lib.hid hC; have HCc := Lib.hid hc; have HOk := Lib.hid hok; have HLen := Lib.hid (few_len l)
  have HAt := Lib.hid hat
  clear hC hc hok hat
  obtain ⟨L, hL⟩ : ∃ L, few l = L := ⟨_, rfl⟩
  rw [hL] at HOk HLen; have HL := Lib.hid hL; clear hL; go_enter Tryd.func3, Tryd.ntmps3
  go_upto_if 12 with (go_at_call 6; refine (few_callsL w A c l L HL.out HCc.out HC.out).mono ?_; rintro e w1 ⟨A1, c1, rfl, hc1, hC1, hb1⟩; have HC1 := Lib.hid hC1; have HCc1 := Lib.hid hc1; have HB1 := Lib.hid hb1; clear hC1 hc1 hb1)
  go_cut [1] from 11 to 15 (fun v wc => ∃ a' : Int, v = .int .i64 a' ∧ Hid (0 ≤ a' ∧ a' ≤ 9223372036854775807) ∧ wc = w1)
  case first =>
    have hr : -9223372036854775808 ≤ at_ ∧ at_ ≤ 9223372036854775807 := by
      have := HAt.out; unfold okI Lit.wf at this
      have hmin : IntKind.i64.min = -9223372036854775808 := by decide
      simp at this; rw [hmin] at this; exact this
    by_cases h : at_ < 0
    · have e1 : decide (at_ < 0) = true := decide_eq_true h
      have wr1 : wrap64 (at_ + 1) = at_ + 1 := by unfold wrap64; omega
      have wr2 : wrap64 (-(at_ + 1)) = -(at_ + 1) := by unfold wrap64; omega
      have HH := Lib.hid h; have HR := Lib.hid hr; clear h hr; simp only [e1]
      go_wp2_with fail
      go_meet
      case rel => exact ⟨-(at_ + 1), congrArg _ wr2, Lib.hid (by have := HH.out; have := HR.out; omega), rfl⟩
    · have e1 : decide (at_ < 0) = false := decide_eq_false h
      have HH := Lib.hid h; have HR := Lib.hid hr; clear h hr; simp only [e1]
      go_wp2_with fail
      go_meet
      case rel => exact ⟨at_, rfl, Lib.hid (by have := HH.out; have := HR.out; omega), rfl⟩
  case rest =>
  obtain ⟨a', rfl, HA', rfl⟩ := hcut
  obtain ⟨k, hk⟩ : ∃ k : Nat, a' % ((L.length : Int) + 1) = (k : Int) := ⟨(a' % ((L.length : Int) + 1)).toNat, (Int.toNat_of_nonneg (Int.emod_nonneg _ (by omega))).symm⟩
  have hkL : k ≤ L.length := by
    have := Int.emod_lt_of_pos a' (show (0 : Int) < (L.length : Int) + 1 by omega); omega
  have hk' : Int.tmod a' ((L.length : Int) + 1) = (k : Int) := by rw [Int.tmod_eq_emod_of_nonneg HA'.out.1, hk]
  have wr3 : wrap64 ((L.length : Int) + 1) = (L.length : Int) + 1 := by have := HLen.out; unfold wrap64; omega
  have nz : ¬ ((L.length : Int) + 1 = 0) := by omega
  have nzd : ((L.length : Int) + 1 == 0) = false := by simpa using nz
  have wk : wrap64 (k : Int) = (k : Int) := by have := HLen.out; unfold wrap64; omega
  have q1 : (0 : Int) ≤ (k : Int) := by omega
  have q2 : (k : Int) ≤ (c1 : Int) := by have := HCc1.out; omega
  have q3 : k ≤ c1 := by have := HCc1.out; omega
  obtain ⟨r, hr⟩ : ∃ r, checkF am0 L 0 = r := ⟨_, rfl⟩
  have hr2 : checkF am0 (L.take k) 0 = r.bind fun j => if j < k then some j else none := by
    rw [check_take, hr]; simp
  have htl : (L.take k).length = k := by rw [List.length_take]; omega
  have HR := Lib.hid hr; have HR2 := Lib.hid hr2; have HTl := Lib.hid htl; have HKL := Lib.hid hkL; clear hr hr2 htl hkL; have HCt := Lib.hid (show Kd.C kEvt wc A1 k (L.take k) from by have := Kd.C_take HC1.out HKL.out; rw [HTl.out] at this; exact this); have HOt := Lib.hid (show ∀ x ∈ L.take k, EvOk x from fun x hx => HOk.out x (List.mem_of_mem_take hx))
  cases r with
  | none =>
    have HR2 := Lib.hid (show checkF am0 (L.take k) 0 = none from HR2.out.trans rfl); have e1 : resI none = -1 := rfl; have e2 : resE none = 0 := rfl
    go_wp2_with (first | (go_at_call 7; (with_reducible show Calls _ _ #[.slice A1 L.length c1] wc _); refine (Qbe wc A1 c1 L L.length none rfl HC1.out HCc1.out (by have := HLen.out; omega) HOk.out HR.out).mono ?_; rintro e w2 ⟨rfl, hb2⟩; have HB2 := Lib.hid hb2; clear hb2) | (go_at_call 7; (with_reducible show Calls _ _ #[.slice A1 k c1] w2 _); refine (Qbe w2 A1 c1 (L.take k) k none HTl.out (Kd.QaJ HCt.out HB2.out) (by have := HCc1.out; have := HKL.out; omega) (by have := HLen.out; have := HKL.out; omega) HOt.out HR2.out).mono ?_; rintro e w3 ⟨rfl, hb3⟩; have HB3 := Lib.hid hb3; clear hb3) | (go_at_call 8; refine (lives_calls w3).mono ?_; rintro e w4 ⟨rfl, hb4⟩; have HB4 := Lib.hid hb4; clear hb4))
    · refine bodyPost_ret (results_tmp rfl _ _ _) rfl ?_
      exact ⟨rfl, Qaa (Qaa (Qaa HB1.out HB2.out) HB3.out) HB4.out⟩
  | some j =>
    by_cases hj : j < k
    · have HR2 := Lib.hid (show checkF am0 (L.take k) 0 = some j from HR2.out.trans (if_pos hj))
      have e1 : resI (some j) = (j : Int) := rfl; have e2 : resE (some j) = 13 := rfl; have g1 : decide ((0 : Int) ≤ (j : Int)) = true := decide_eq_true (by omega); have g2 : decide ((j : Int) < (k : Int)) = true := decide_eq_true (by omega); have g3 : decide (j < k) = true := decide_eq_true hj; clear hj
      go_wp2_with (first | (go_at_call 7; (with_reducible show Calls _ _ #[.slice A1 L.length c1] wc _); refine (Qbe wc A1 c1 L L.length (some j) rfl HC1.out HCc1.out (by have := HLen.out; omega) HOk.out HR.out).mono ?_; rintro e w2 ⟨rfl, hb2⟩; have HB2 := Lib.hid hb2; clear hb2) | (go_at_call 7; (with_reducible show Calls _ _ #[.slice A1 k c1] w2 _); refine (Qbe w2 A1 c1 (L.take k) k (some j) HTl.out (Kd.QaJ HCt.out HB2.out) (by have := HCc1.out; have := HKL.out; omega) (by have := HLen.out; have := HKL.out; omega) HOt.out HR2.out).mono ?_; rintro e w3 ⟨rfl, hb3⟩; have HB3 := Lib.hid hb3; clear hb3) | (go_at_call 8; refine (lives_calls w3).mono ?_; rintro e w4 ⟨rfl, hb4⟩; have HB4 := Lib.hid hb4; clear hb4))
      refine bodyPost_ret (results_tmp rfl _ _ _) rfl ?_; exact ⟨rfl, Qaa (Qaa (Qaa HB1.out HB2.out) HB3.out) HB4.out⟩
    · have HR2 := Lib.hid (show checkF am0 (L.take k) 0 = none from HR2.out.trans (if_neg hj))
      have e1 : resI (some j) = (j : Int) := rfl; have e2 : resE (some j) = 13 := rfl; have e3 : resI none = -1 := rfl; have e4 : resE none = 0 := rfl; have g1 : decide ((0 : Int) ≤ (j : Int)) = true := decide_eq_true (by omega); have g2 : decide ((j : Int) < (k : Int)) = false := decide_eq_false (by omega); have g3 : decide (j < k) = false := decide_eq_false hj; clear hj
      go_wp2_with (first | (go_at_call 7; (with_reducible show Calls _ _ #[.slice A1 L.length c1] wc _); refine (Qbe wc A1 c1 L L.length (some j) rfl HC1.out HCc1.out (by have := HLen.out; omega) HOk.out HR.out).mono ?_; rintro e w2 ⟨rfl, hb2⟩; have HB2 := Lib.hid hb2; clear hb2) | (go_at_call 7; (with_reducible show Calls _ _ #[.slice A1 k c1] w2 _); refine (Qbe w2 A1 c1 (L.take k) k none HTl.out (Kd.QaJ HCt.out HB2.out) (by have := HCc1.out; have := HKL.out; omega) (by have := HLen.out; have := HKL.out; omega) HOt.out HR2.out).mono ?_; rintro e w3 ⟨rfl, hb3⟩; have HB3 := Lib.hid hb3; clear hb3) | (go_at_call 8; refine (lives_calls w3).mono ?_; rintro e w4 ⟨rfl, hb4⟩; have HB4 := Lib.hid hb4; clear hb4))
      refine bodyPost_ret (results_tmp rfl _ _ _) rfl ?_; exact ⟨rfl, Qaa (Qaa (Qaa HB1.out HB2.out) HB3.out) HB4.out⟩
theorem evs_ok {l : List Evt} (h : ∀ x ∈ l, okEvent x) : ∀ x ∈ few l, EvOk x := few_ok (fun x hx => by
  obtain ⟨h0, h1, ⟨h2, h3, h4⟩, h5, h6⟩ := h x hx
  exact ⟨h0, h1, ⟨h2, h3, h4⟩, h5, h6⟩)
open Classical in
noncomputable def QaF.f (k : Nat) (l0 : List Evt) (at_ : Int) : Option Bool := if (∀ x ∈ l0, okEvent x) ∧ okI at_ then some true else none
theorem QaF.calls (k : Nat) (A0 : Option Addr) (c0 : Nat) (l0 : List Evt) (at_ : Int) (r : Bool) (w : World) (hr0 : Kd.C kEvt w A0 l0.length l0) (hc0 : l0.length ≤ c0) (h : QaF.f k l0 at_ = some r) :
    Calls Tryd.prog 3 #[.slice A0 l0.length c0, .int .i64 at_] w fun e w' => e = .returned (.bool r) ∧ Below w.heap.size w w' := by
  unfold QaF.f at h
  split at h
  · rename_i hok
    obtain rfl := Option.some.inj h; exact begins_walk w A0 c0 l0 at_ hr0 hc0 (evs_ok hok.1) hok.2
  · cases h
theorem auditBegins_true (l0 : List Evt) (at_ : Int) (h : ∀ x ∈ l0, okEvent x) (hat : okI at_) : ∃ K, ∀ k, K ≤ k → QaF.f k l0 at_ = some true := ⟨0, fun k _ => if_pos ⟨h, hat⟩⟩
end Go.Proofs.YtbjjonpkmplhbaaDoor.Pr
end
