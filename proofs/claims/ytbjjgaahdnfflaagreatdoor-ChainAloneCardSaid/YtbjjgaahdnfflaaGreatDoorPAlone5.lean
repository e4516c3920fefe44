/- The proof's own texts, joined: part 5. No conditions. -/
import Derived.Test.YtbjjgaahdnfflaaGreatDoorProg
import Derived.Below
import Derived.Deep.Draws
import Derived.Deep.AppendLies
import Derived.Maps.AppendAt
import Derived.OwnWalk
import Derived.Laws.BytesArg
import Derived.Laws.MakeOwn
import Derived.Laws.OwnMore
import Derived.Deep.OwnRows
import Derived.Tactics
import Derived.Lib.ConvBytes
import Derived.Laws.Slices
import Derived.WalkKit
import Derived.KernelRfl
import Derived.RowKit3
import Derived.Deep.LoopGhost
import Derived.Deep.QuietTactic
import Derived.BigQuiet
import Derived.WideLaws
import Derived.Deep.DeepCutAuto
import Derived.Deep.CutBlock
import Derived.Deep.RegionHeld3
import Derived.Laws.Rows
import Derived.Lib.AppendStr
import Derived.ArgAppend
import Derived.Laws.IdiomCopy
import Derived.OrdersHeld
import Derived.Laws.BitsLemmas
import Derived.RowKit
import Derived.Laws.StructEq
import Derived.WalkSpells
import Derived.WalkLawsBesides
import Derived.Lib.Hide
import Derived.Deep.RegionWith
import Derived.RegionTactic
import Derived.ChangeAlike
import Derived.Deep.RegionLaw
import Derived.Lib.SmallJoins
import Derived.Lib.SlicesS
import Derived.StillTailTactics
import Derived.Outline
import Derived.DeepKeys4
import Derived.Shelf.SlicesG.Cmp
import Derived.Sort.Grow
import Derived.Shelf.GgSortFunc.InsertionK
import Derived.Ground.SlgcProg
import Derived.Maps.OwnSet
import Derived.Maps.RangeRun
import Derived.Maps.Range
import Derived.Carry
import Derived.Laws.RangeAny
import Derived.Laws.Closers25
import Derived.Shelf.SlicesE.Clone
import Derived.Shelf.SlSortCmp.NoneTotal
import Derived.Shelf.SlSortCmp.WholeK
import Derived.Ground.SlsfProg
import Derived.Ground.SlgnProg
import Derived.Sort.LotA
import Derived.Test.YtbjjgaahdnfflaaGreatDoorPAlone0
import Derived.Test.YtbjjgaahdnfflaaGreatDoorPAlone1
import Derived.Test.YtbjjgaahdnfflaaGreatDoorPAlone2
import Derived.Test.YtbjjgaahdnfflaaGreatDoorPAlone3
import Derived.Test.YtbjjgaahdnfflaaGreatDoorPAlone4
section
namespace Go.Proofs.YtbjjgaahdnfflaaGreatDoor.Pr
open Go.RowKit Go.Proofs.YtbjjgaahdnfflaaGreatDoorW.PrintWords Go.Proofs.YtbjjgaahdnfflaaGreatDoorW.PrintLast Go.Proofs.YtbjjgaahdnfflaaGreatDoorW.PrintMore
set_option linter.unusedVariables false
set_option linter.unusedSimpArgs false
section
attribute [local go_sem] QaQ QaO QaZ QaY QaJ QaI QaP QaN
mutual
def QaU.l0 : Nat → List (S27) → Int → ByteArray → ByteArray → ByteArray → Int → Int → List (S30) → Option ((List (S27)))
 | 0, _, _, _, _, _, _, _, _ => none
 | k + 1, x3, x4, x102000, x102001, x102002, x102003, x102004, x102005 => if x4 < (x102005.length : Int) then (if 0 ≤ x4 then ((QaU.f k ((QbK x102005 x4).f0.f0) ((QbK x102005 x4).f0.f1) ((QbK x102005 x4).f1) ((QbK x102005 x4).f2.f0) ((QbK x102005 x4).f2.f1) ((QbK x102005 x4).f3)).bind fun t106 => (if x3.length + t106.length < 8796093022208 then (QaU.l0 k (x3 ++ t106) (wrap64 (x4 + 1)) x102000 x102001 x102002 x102003 x102004 x102005) else (none))) else (none)) else (some x3)
def QaU.f : Nat → ByteArray → ByteArray → ByteArray → Int → Int → List (S30) → Option ((List (S27)))
 | 0, _, _, _, _, _, _ => none
 | k + 1, a0_0, a0_1, a0_2, a0_3, a0_4, l0_5 => QaU.l0 k (([(⟨a0_3, a0_4⟩ : S27)] : List (S27))) 0 a0_0 a0_1 a0_2 a0_3 a0_4 l0_5
end
set_option maxHeartbeats 8000000 in
set_option maxRecDepth 100000 in
theorem QaU.calls (k : Nat) : ∀ (a0_0 : ByteArray) (a0_1 : ByteArray) (a0_2 : ByteArray) (a0_3 : Int) (a0_4 : Int) (A0_5 : Option Addr) (c0_5 : Nat) (l0_5 : List (S30)) (r : List (S27)) (w : World) (hr0_5 : Kd.C k30 w A0_5 l0_5.length l0_5) (hc0_5 : l0_5.length ≤ c0_5) (h : QaU.f k a0_0 a0_1 a0_2 a0_3 a0_4 l0_5 = some r),
  Calls Tryz.prog 31 #[.agg #[.string a0_0, .string a0_1, .string a0_2, .int .i64 a0_3, .int .i64 a0_4, .slice A0_5 l0_5.length c0_5]] w fun e w' => ∃ v0_ : Value, e = .returned (v0_) ∧ Kd.R k27 27 w' w.heap.size (fun _ => True) v0_ r ∧ Below w.heap.size w w' := by
 induction k using Nat.strongRecOn with
 | _ k ih =>
 intro a0_0 a0_1 a0_2 a0_3 a0_4 A0_5 c0_5 l0_5 r w hr0_5 hc0_5 h
 cases k with
 | zero => exact absurd h (by simp [QaU.f])
 | succ k =>
 simp only [QaU.f] at h; have hu30 := Tryz.underlying30; have hu27 := Tryz.underlying27; have HR0_5 := Qaa.mk hr0_5; have HC0_5 := Qaa.mk hc0_5; clear hr0_5 hc0_5; have HB := Qaa.mk (Below.refl w.heap.size w); have H : (QaU.l0 k (([(⟨a0_3, a0_4⟩ : S27)] : List (S27))) 0 a0_0 a0_1 a0_2 a0_3 a0_4 l0_5) = some r := h; clear h
 obtain ⟨y102, hy102⟩ : ∃ y_ : List (S27), y_ = (([(⟨a0_3, a0_4⟩ : S27)] : List (S27))) := ⟨_, rfl⟩
 replace H : (QaU.l0 k y102 0 a0_0 a0_1 a0_2 a0_3 a0_4 l0_5) = some r := by first | (rw [hy102]; with_reducible exact H) | (have H2_ := (Option.bind_some _ _).symm.trans H; rw [hy102]; with_reducible exact H2_) | (have H2_ := (Option.bind_some _ _).symm.trans H; with_reducible exact H2_) | with_reducible exact H | (rw [hy102]; exact H) | exact H
 have Ny102 := Qaa.mk hy102; clear hy102; have H' := Qaa.mk H; clear H; go_enter Tryz.func31, Tryz.ntmps31
 go_wp2_with (first | ((with_reducible refine QaM (N := 1) rfl ?_); refine QaK ?hg (N := 1) ?hd (cs := #[.string a0_0, .string a0_1, .string a0_2, .int .i64 a0_3, .int .i64 a0_4, .slice A0_5 l0_5.length c0_5]) (t := 30) ?hr ?_; (case hd => rfl); (case hg => rfl); (case hr => first | (go_simp; done) | (go_simp; rfl)); intro gb101 hg w2 hbox hb; have BK101 := Qaa.mk (hbox); have GW101 := (gz_ hg : Qaa (w.heap.size ≤ gb101)); have GE101 := (gz_ hg : Qaa (w.heap.size ≤ gb101)); replace HB := Qaa.mk (Qad bw_ hb); clear hb hbox hg; obtain ⟨c3_0, c3_1, c3_2, c3_3, c3_4, c3_5⟩ := QbP BK101.out; obtain ⟨f3_0, f3_1, f3_2, f3_3, f3_4, f3_5⟩ := fz_6 BK101.out) | ((with_reducible refine QaM (N := 7) rfl ?_); refine Kd.R_lit k27 _ 27 ?hg (N := 7) ?hd (xs := ([(⟨a0_3, a0_4⟩ : S27)] : List (S27))) (inner := [.int .i64 a0_3, .int .i64 a0_4]) (ok := fun _ => True) (okp := fun _ => True) ?hr ?hp (fun _ hk => hk) trivial (Below.refl _ _) (Nat.le_refl _) (by simp) ?_; (case hd => rfl); (case hg => rfl); (case hr => first | (go_simp; done) | (go_simp; rfl)); (case hp => exact (Reps.c2 (show Kd.M k27 _ _ _ (⟨a0_3, a0_4⟩ : S27) [.int .i64 a0_3, .int .i64 a0_4] from (k27_mkM _ _ _ (⟨a0_3, a0_4⟩ : S27) )) (Reps.none _ _))); intro v103 w4 ho5 hb hg_ hnew_; clear hg_ hnew_; (first | rw [← Ny102.out] at ho5 | (simp only [Int.reduceToNat] at ho5; rw [← Ny102.out] at ho5)); have HO104 := Qaa.mk (Kd.Qa7 ho5 (QaD bw_)); replace BK101 := Qaa.mk (Qac (g := gb101) bk_ hb); replace HB := Qaa.mk (Qad bw_ hb); clear hb ho5))
 go_loopg [3, 4] k (fun kq v3 v4 w' => ∃ (x3_1 : List (S27)) (x4_1 : Int), v4 = .int .i64 x4_1 ∧ Qaa (QaU.l0 kq x3_1 x4_1 a0_0 a0_1 a0_2 a0_3 a0_4 l0_5 = some r) ∧ Qaa (kq ≤ k) ∧ Qaa (Kd.R k27 27 w' w.heap.size (fun _ => True) v3 x3_1) ∧ Qaa (w'.heap[gb101]? = some (.cells #[.string a0_0, .string a0_1, .string a0_2, .int .i64 a0_3, .int .i64 a0_4, (.slice A0_5 l0_5.length c0_5)] 30 (0, 0))) ∧ Qaa (Below w.heap.size w w'))
 case atStart => exact ⟨(y102), (0), (by first | rfl | (simp; done) | (simp [*]; done)), H', ⟨Nat.le_refl _⟩, ⟨by (with_reducible repeat (first | apply Kd.Qax | apply Kd.Qay | apply Kd.QaE)); exact HO104.out⟩, ⟨by (with_reducible repeat (first | refine Qai ?_ _ | refine Qah ?_ | refine Qag ?_ _)); exact BK101.out⟩, ⟨bw_⟩⟩
 case round =>
  clear H'; (try clear c2); (try clear p2); (try clear c3); (try clear c3_0 c3_1 c3_2 c3_3 c3_4 c3_5); (try clear f3_0 f3_1 f3_2 f3_3 f3_4 f3_5); obtain ⟨x3_1, x4_1, rfl, HA, HK1, HO_3, BK101, HB⟩ := hrel
  cases gk with
  | zero => exact absurd HA.out (by simp [QaU.l0])
  | succ k1 =>
   have H := HA.out; clear HA; simp only [QaU.l0] at H
   by_cases c6 : x4_1 < (l0_5.length : Int)
   ·rw [if_pos c6] at H; have c6b0 : decide (x4_1 < (l0_5.length : Int)) = true := decide_eq_true c6; clear c6
    by_cases c7 : 0 ≤ x4_1
    ·rw [if_pos c7] at H; have c7b0 : decide (0 ≤ x4_1) = true := decide_eq_true c7; clear c7; replace H := Option.bind_eq_some_iff.mp H; obtain ⟨t106, A80, H⟩ := H; replace H : (if x3_1.length + t106.length < 8796093022208 then (QaU.l0 k1 (x3_1 ++ t106) (wrap64 (x4_1 + 1)) a0_0 a0_1 a0_2 a0_3 a0_4 l0_5) else (none)) = some r := H; have A8 := Qaa.mk A80; clear A80
     by_cases c9 : x3_1.length + t106.length < 8796093022208
     ·rw [if_pos c9] at H; have LMc9 := Qaa.mk c9; clear c9
      obtain ⟨y109, hy109⟩ : ∃ y_ : List (S27), y_ = (x3_1 ++ t106) := ⟨_, rfl⟩
      replace H : (QaU.l0 k1 y109 (wrap64 (x4_1 + 1)) a0_0 a0_1 a0_2 a0_3 a0_4 l0_5) = some r := by first | (rw [hy109]; with_reducible exact H) | (have H2_ := (Option.bind_some _ _).symm.trans H; rw [hy109]; with_reducible exact H2_) | (have H2_ := (Option.bind_some _ _).symm.trans H; with_reducible exact H2_) | with_reducible exact H | (rw [hy109]; exact H) | exact H
      have Ny109 := Qaa.mk hy109; clear hy109; have H' := Qaa.mk H; clear H; have c10_0 : wr.cell? ⟨gb101, 0, none⟩ = some (.string a0_0) := (Qam BK101.out 0).trans rfl; have c10_1 : wr.cell? ⟨gb101, 1, none⟩ = some (.string a0_1) := (Qam BK101.out 1).trans rfl; have c10_2 : wr.cell? ⟨gb101, 2, none⟩ = some (.string a0_2) := (Qam BK101.out 2).trans rfl; have c10_3 : wr.cell? ⟨gb101, 3, none⟩ = some (.int .i64 a0_3) := (Qam BK101.out 3).trans rfl; have c10_4 : wr.cell? ⟨gb101, 4, none⟩ = some (.int .i64 a0_4) := (Qam BK101.out 4).trans rfl; have c10_5 : wr.cell? ⟨gb101, 5, none⟩ = some (.slice A0_5 l0_5.length c0_5) := (Qam BK101.out 5).trans rfl; obtain ⟨f10_0, f10_1, f10_2, f10_3, f10_4, f10_5⟩ := fz_6 BK101.out; have p105 : 0 ≤ (x4_1 : Int) := dd_; have q105 : x4_1 < (l0_5.length : Int) := dd_; obtain ⟨ad105, A105_5, c105_5, e105, hx105_0, hx105_1, hx105_2, hx105_3, hx105_4, hx105_5, hl105_5, hi105_5⟩ := at_T30 HR0_5.out x4_1 p105 q105; cases e105; replace hx105_0 := cb_ HB hx105_0; replace hx105_1 := cb_ HB hx105_1; replace hx105_2 := cb_ HB hx105_2
      replace hx105_3 := cb_ HB hx105_3; replace hx105_4 := cb_ HB hx105_4; replace hx105_5 := cb_ HB hx105_5; have HR105_5 := Qaa.mk hi105_5; have HC105_5 := Qaa.mk hl105_5; clear hi105_5 hl105_5; replace p105 := eq_true p105; replace q105 := eq_true q105
      go_wp2_with (first | ((with_reducible refine Qa5 (f := 31) rfl ?_); refine gL 21 Tryz.func31 #[.agg #[.string ((QbK l0_5 x4_1).f0.f0), .string ((QbK l0_5 x4_1).f0.f1), .string ((QbK l0_5 x4_1).f1), .int .i64 ((QbK l0_5 x4_1).f2.f0), .int .i64 ((QbK l0_5 x4_1).f2.f1), .slice A105_5 ((QbK l0_5 x4_1).f3).length c105_5]] ?_; (with_reducible refine (ih k1 (by have := HK1.out; omega) ((QbK l0_5 x4_1).f0.f0) ((QbK l0_5 x4_1).f0.f1) ((QbK l0_5 x4_1).f1) ((QbK l0_5 x4_1).f2.f0) ((QbK l0_5 x4_1).f2.f1) _ _ ((QbK l0_5 x4_1).f3) t106 _ ?side1 ?side2 A8.out).mono ?_); (case side1 => exact kd_ (Kd.Qbc HR105_5.out HB.out)); (case side2 => exact HC105_5.out); rintro e w11 ⟨v107, rfl, ho0, hb⟩; refine ⟨_, rfl, ?_⟩; have HO108 := Qaa.mk (Kd.Qa7 (Kd.R_new' ho0 (Kd.R_lt (ro_ HO_3))) (QaD bw_)); replace HO_3 := Qaa.mk (Kd.Qch (ro_ HO_3) (Kd.Qb0 ho0) hb); replace BK101 := Qaa.mk (Qac (g := gb101) bk_ hb); replace HB := Qaa.mk (Qad bw_ hb); (try clear hb); (try clear hb2); (try clear hk); (try clear hi); (try clear ho0); obtain ⟨Ao13, co13, eo13⟩ := Kd.Qa2 HO108.out; subst eo13) | ((with_reducible refine Qa3 (b := .append) (xs := #[.tmp 15, .tmp 21]) rfl ?_); at_builtin; refine Kd.Qb6 k27 (w0 := w) w.heap.size rfl (.tmp 15) (.tmp 21) 39 27 (.agg #[(.int .i64 0), (.int .i64 0)]) 16 rfl Tryz.underlying39 info27 rfl (by decide) (by omega) u3 x3_1 t106 _ _ _ (fun k_ => some k_ ≠ (.slice Ao13 t106.length co13 : Value).ownBlock) (fun _ => False) rfl rfl ?aO ?aR (fun _ _ h => h) (fun _ h => h.elim) ?aF ?aB ?aS ?aL ?_; (case aR => exact kd_ ((Kd.QaF HO108.out).2.2)); (case aB => exact bw_); (case aF => exact (fun k_ hk => Kd.fresh' (Kd.R_lt (ro_ HO108)) k_ hk)); (case aO => exact (by (with_reducible repeat (first | apply Kd.Qax | apply Kd.Qay | apply Kd.QaE)); exact Kd.QaL HO_3.out (fun _ hk => hk.2))); (case aS => exact (QaD bw_)); (case aL => have := LMc9.out; omega); intro v110 w12 ho hb hg hat; rw [← Ny109.out] at ho; have n0_ := Qaa.mk (QbE (g := gb101) bk_ hg (Kd.R_ne HO_3.out BK101.out (by decide))); have n1_ := Qaa.mk (Kd.QbJ (ok := (fun _ => True)) (ro_ HO108) hg hat); have n2_ := Qaa.mk (hb); have n3_ := Qaa.mk (ho); clear BK101; clear HO108; clear HB; clear HO_3; have BK101 := n0_; have HO108 := n1_; have HB := n2_; have HO111 := n3_; clear n0_ n1_ n2_ n3_; clear ho hb hg hat))
      go_roundg k1
      case measure => have := HK1.out; omega
      case rel => exact ⟨(y109), (wrap64 (x4_1 + 1)), (by first | rfl | (simp; done) | (simp [*]; done)), H', ⟨by have := HK1.out; omega⟩, ⟨by (with_reducible repeat (first | apply Kd.Qax | apply Kd.Qay | apply Kd.QaE)); exact Kd.QaL HO111.out (fun _ hk => trivial)⟩, ⟨by (with_reducible repeat (first | refine Qai ?_ _ | refine Qah ?_ | refine Qag ?_ _)); exact BK101.out⟩, ⟨bw_⟩⟩
     ·rw [if_neg c9] at H; exact absurd H (by simp)
    ·rw [if_neg c7] at H; exact absurd H (by simp)
   ·rw [if_neg c6] at H; have c6b0 : decide (x4_1 < (l0_5.length : Int)) = false := decide_eq_false c6; clear c6; obtain rfl := Option.some.inj H; have c14_0 : wr.cell? ⟨gb101, 0, none⟩ = some (.string a0_0) := (Qam BK101.out 0).trans rfl; have c14_1 : wr.cell? ⟨gb101, 1, none⟩ = some (.string a0_1) := (Qam BK101.out 1).trans rfl; have c14_2 : wr.cell? ⟨gb101, 2, none⟩ = some (.string a0_2) := (Qam BK101.out 2).trans rfl; have c14_3 : wr.cell? ⟨gb101, 3, none⟩ = some (.int .i64 a0_3) := (Qam BK101.out 3).trans rfl; have c14_4 : wr.cell? ⟨gb101, 4, none⟩ = some (.int .i64 a0_4) := (Qam BK101.out 4).trans rfl; have c14_5 : wr.cell? ⟨gb101, 5, none⟩ = some (.slice A0_5 l0_5.length c0_5) := (Qam BK101.out 5).trans rfl; obtain ⟨f14_0, f14_1, f14_2, f14_3, f14_4, f14_5⟩ := fz_6 BK101.out; go_wp2; go_ret; exact ⟨_, by first | rfl | (simp [Qaw, Qav] <;> rfl) | (simp [*, Qaw, Qav] <;> rfl), by (with_reducible repeat (first | apply Kd.Qax | apply Kd.Qay | apply Kd.QaE)); exact HO_3.out, bw_⟩
end
section
attribute [local go_sem high] eqA24 eqA27
theorem neStr_f {a b : ByteArray} (h : a = b) : (!(a.toList == b.toList)) = false := by subst h; simp
theorem neStr_t {a b : ByteArray} (h : ¬ a = b) : (!(a.toList == b.toList)) = true := by rw [str_f h]; rfl
abbrev OfT := Proof → Role → ByteArray → Option Bool
def ofLink (F : OfT) (c : Cred) (p : Proof) (who : ByteArray) : Option Bool :=
  (Qar.f 20 (pt p 0).f1).bind fun n => if n > 0 then (QaR.f 20 c.f0.f0 c.f0.f1 c.f1 c.f2 c.f3 c.f4.f0 c.f4.f1 c.f5.f0 c.f5.f1).bind (fun ff => (F (pt p 0) ⟨ff.1, ff.2⟩ (pt p 0).f1).bind fun b => if b = true then F (pt p 1) ⟨(pt p 0).f1, c.f5.f1⟩ who else some false) else some false
def ofBy (F : OfT) (c : Cred) (p : Proof) (who : ByteArray) : Option Bool :=
  if c.f2 = 1 then some (decide (c.f3 = who) && decide (p.f3.length = 0))
  else if c.f2 = 2 then (if p.f3.length = 1 then F (pt p 0) c.f4 who else some false)
  else if p.f3.length = 2 then (if c.f2 = 4 then (F (pt p 0) c.f4 who).bind fun b => if b = true then F (pt p 1) c.f5 who else some false else ofLink F c p who)
  else some false
def ofHit (F : OfT) (c : Cred) (p : Proof) (role : Role) (who : ByteArray) : Option Bool :=
  (QaW.f 20 c.f0.f0 c.f0.f1 c.f1 c.f2 c.f3 c.f4.f0 c.f4.f1 c.f5.f0 c.f5.f1).bind fun rr => if (⟨rr.1, rr.2⟩ : Role) = role then ofBy F c p who else some false
def ofAt (F : OfT) (cs : List Cred) (p : Proof) (role : Role) (who : ByteArray) : Option Bool :=
  match cs.find? (fun c => decide (c.f0 = p.f2)) with
  | none => some false
  | some c => ofHit F c p role who
def ofStep (F : OfT) (cs : List Cred) : OfT := fun p role who => if p.f0 = role then (if p.f1 = who then ofAt F cs p role who else some false) else some false
def ofN (cs : List Cred) : Nat → OfT
  | 0 => fun _ _ _ => none
  | k + 1 => ofStep (ofN cs k) cs
def Ofs (F : OfT) (cs : List Cred) : Prop := ∀ (w : World) (A0 : Option Addr) (c0 : Nat) (p : Proof) (A : Option Addr) (c : Nat) (role : Role) (who : ByteArray) (r : Bool), Kd.C kCred w A0 cs.length cs → cs.length ≤ c0 → Kd.C kProof w A p.f3.length p.f3 → p.f3.length ≤ c → F p role who = some r →
  Calls Tryz.prog 34 #[.slice A0 cs.length c0, encProof p A c, .agg #[.string role.f0, .string role.f1], .string who] w fun e w' => e = .returned (.bool r) ∧ Below w.heap.size w w'
theorem Ofs.use {F : OfT} {cs : List Cred} (HC : Ofs F cs) (w : World) (A0 : Option Addr) (c0 : Nat) (p : Proof) (A : Option Addr) (c : Nat) (role : Role) (who : ByteArray) (r : Bool) (h0 : Kd.C kCred w A0 cs.length cs) (h1 : cs.length ≤ c0) (h2 : Kd.C kProof w A p.f3.length p.f3) (h3 : p.f3.length ≤ c) (h4 : F p role who = some r) :
    Calls Tryz.prog 34 #[.slice A0 cs.length c0, encProof p A c, .agg #[.string role.f0, .string role.f1], .string who] w fun e w' => e = .returned (.bool r) ∧ Below w.heap.size w w' := HC w A0 c0 p A c role who r h0 h1 h2 h3 h4
theorem refNumber_below (a : ByteArray) (r : Int) (w : World) (h : Qar.f 20 a = some r) : Calls Tryz.prog 48 #[.string a] w fun e w' => e = .returned (.int .i64 r) ∧ Below w.heap.size w w' :=
  (Qar.calls 20 a r w h).mono fun e w' ⟨he, ⟨nd, hw⟩⟩ => ⟨he, by subst hw; exact Qaz (Below.refl _ _) nd⟩
set_option maxRecDepth 100000 in
set_option maxHeartbeats 8000000 in
theorem of_step {F : OfT} {cs : List Cred} (HC : Ofs F cs) (hlen : cs.length ≤ 1000000) : Ofs (ofStep F cs) cs := by
  intro w A0 c0 p A c role who r hR0 hc0 hR hc h; unfold ofStep at h; go_enter Tryz.func34, Tryz.ntmps34
  go_upto_region 1 with fail
  change Code.wp _ _ _ _ ((w.alloc (proofObj p A c)).alloc (roleObj2 role))
  generalize hW : (w.alloc (proofObj p A c)).alloc (roleObj2 role) = W
  obtain ⟨HB, BP, BR, hsz⟩ := boxed2 hW; obtain ⟨p0, p1, p2, p3, p4, p5⟩ := proofCells BP; obtain ⟨r0, r1⟩ := roleCells2 BR; have HSZ := Lib.hid (show w.heap.size + 1 < W.heap.size by omega); clear hW hsz
  by_cases e1 : p.f0 = role
  · rw [if_pos e1] at h
    have hb1 := neRole_f e1; clear e1
    by_cases e2 : p.f1 = who
    · rw [if_pos e2] at h
      have hb2 := neStr_f e2; clear e2; have HF := Lib.hid h; have HP := Lib.hid BP; have HRo := Lib.hid BR; have HBh := Lib.hid HB; have HRc := Lib.hid hR0; have HRp := Lib.hid hR; have HLn := Lib.hid hlen; have HCc := Lib.hid hc0; have HCp := Lib.hid hc; have HX := Lib.hid (Ofs.use HC); clear h BP BR HB hR0 hR hlen hc0 hc HC; go_wp2; clear hb1 hb2 p0 p1 p2 p3 p4 p5 r0 r1
      go_loopg [9] (cs.length + 1) (fun kq v9 w' => ∃ i : Nat, v9 = .int .i64 i ∧ Hid (kq = cs.length + 1 - i) ∧ Hid (i ≤ cs.length) ∧ Hid (ofAt F (cs.drop i) p role who = some r) ∧ Hid (w'.heap[w.heap.size]? = some (proofObj p A c)) ∧ Hid (w'.heap[w.heap.size + 1]? = some (roleObj2 role)) ∧ Hid (Below w.heap.size w w'))
      case atStart => exact ⟨0, rfl, Lib.hid rfl, Lib.hid (Nat.zero_le _), HF, HP, HRo, HBh⟩
      case round =>
        clear HF HP HRo HBh; obtain ⟨i, rfl, HKq, HI, HF, HP, HRo, HW⟩ := hrel
        by_cases hi : i < cs.length
        · have d1 : decide ((i : Int) < (cs.length : Int)) = true := decide_eq_true (by omega)
          have d2 : decide (i < cs.length) = true := decide_eq_true hi; obtain ⟨ad, e, hx0, hx1, hx2, hx3, hx4, hx5, hx6, hx7, hx8⟩ := Qcr (Kd.Qbc HRc.out HW.out) (i : Int) (by omega) (by omega); obtain rfl := e
          obtain ⟨x, hx⟩ : ∃ x, x = cs[i] := ⟨_, rfl⟩
          have erd : Qae cs (i : Int) = x := by
            unfold Qae; rw [hx, Int.toNat_natCast, List.getD_eq_getElem?_getD, List.getElem?_eq_getElem hi]; rfl
          rw [erd, Int.toNat_natCast] at hx0 hx1 hx2 hx3 hx4 hx5 hx6 hx7 hx8; have p101 : (0 ≤ (i : Int)) = True := eq_true (by omega); have q101 : ((i : Int) < (cs.length : Int)) = True := eq_true (by omega); have hF := HF.out; unfold ofAt at hF; rw [List.drop_eq_getElem_cons hi, ← hx, List.find?_cons] at hF
          have wrapI : wrap64 ((i : Int) + 1) = ((i + 1 : Nat) : Int) := by unfold wrap64; have := HLn.out; omega
          have HIL := Lib.hid hi; clear hx erd hi HF; have HF := Lib.hid hF; clear hF
          go_upto_region 7 with fail
          change Code.wp _ _ _ _ (wr.alloc (credObj x)); have HXa := Qak (Below.refl wr.heap.size wr) (credObj x); have B3 := Qbf wr (credObj x); have BP := Qac HP.out HXa; have BR := Qac HRo.out HXa; have WX := Qad HW.out HXa
          obtain ⟨kx, hkx⟩ : ∃ kx, kx = wr.heap.size := ⟨_, rfl⟩
          rw [← hkx] at B3 ⊢; clear hx0 hx1 hx2 hx3 hx4 hx5 hx6 hx7 hx8 HXa HP HRo HW hkx
          generalize wr.alloc (credObj x) = X at B3 BP BR WX ⊢
          obtain ⟨kc0, kc1, kc2, kc3, kc4, kc5, kc6, kc7, kc8⟩ := credCells B3; obtain ⟨p0, p1, p2, p3, p4, p5⟩ := proofCells BP; obtain ⟨r0, r1⟩ := roleCells2 BR; have HBX := Lib.hid B3; have HBP := Lib.hid BP; have HBR := Lib.hid BR; have HWX := Lib.hid WX; clear B3 BP BR WX
          by_cases e3 : x.f0 = p.f2
          · have hF := HF.out
            rw [decide_eq_true e3] at hF; simp only [ofHit] at hF; obtain ⟨rr, hrr, hF⟩ := Option.bind_eq_some_iff.mp hF; have hb3 := neID_f e3; have HRR := Lib.hid hrr; have HF := Lib.hid hF; clear e3 hF hrr
            go_upto_region 8 with fail
            clear hb3; have g0 := QaS kc0; have g1 := QaS kc1; have g2 := QaS kc2; have g3 := QaS kc3; have g4 := QaS kc4; have g5 := QaS kc5; have g6 := QaS kc6; have g7 := QaS kc7; have g8 := QaS kc8; have s0 := QaS r0; have s1 := QaS r1; clear kc0 kc1 kc2 kc3 kc4 kc5 kc6 kc7 kc8 p0 p1 p2 p3 p4 p5 r0 r1
            by_cases e4 : (⟨rr.1, rr.2⟩ : Role) = role
            · have hF := HF.out
              rw [if_pos e4] at hF; have hb4 := neRole_f e4; clear e4 HF; refine Qbb (by kernel_rfl) (by kernel_rfl) ?_
              repeat (go_big_quiet_step (with_reducible refine QbY (QaW.calls 20 _ _ _ _ _ _ _ _ _ _ _ _ HRR.out)))
              refine wpQuiet_nil ?_; rintro _ ⟨u, rfl⟩; have HW := Qad HWX.out u.ok; have BX := Qac HBX.out u.ok; have BP := Qac HBP.out u.ok; clear g0 g1 g2 g3 g4 g5 g6 g7 g8 s0 s1 HWX HBX HBP HBR
              generalize u.now = Y at HW BX BP ⊢
              clear u; unfold ofBy at hF; obtain ⟨kc0, kc1, kc2, kc3, kc4, kc5, kc6, kc7, kc8⟩ := credCells BX; obtain ⟨p0, p1, p2, p3, p4, p5⟩ := proofCells BP; have hR2 := Kd.Qbc HRp.out HW
              by_cases k1 : x.f2 = 1
              · rw [if_pos k1] at hF
                have hr := Option.some.inj hF; have d3 : (x.f2 == 1) = true := beq_iff_eq.mpr k1; clear HF hF hR2 k1
                by_cases e5 : x.f3 = who
                · have hb5 := str_t e5
                  by_cases e6 : p.f3.length = 0
                  · have hb6 : ((p.f3.length : Int) == 0) = true := beq_iff_eq.mpr (by omega)
                    have hb7 : (p.f3.length == 0) = true := beq_iff_eq.mpr e6
                    obtain rfl : true = r := by rw [← hr, decide_eq_true e5, decide_eq_true e6]; rfl
                    clear e5 hr; go_wp2; go_ret; exact ⟨rfl, HW⟩
                  · have hb6 : ((p.f3.length : Int) == 0) = false := beq_eq_false_iff_ne.mpr (by omega)
                    have hb7 : (p.f3.length == 0) = false := beq_eq_false_iff_ne.mpr e6
                    obtain rfl : false = r := by rw [← hr, decide_eq_true e5, decide_eq_false e6]; rfl
                    clear e5 hr; go_wp2; go_ret; exact ⟨rfl, HW⟩
                · have hb5 := str_f e5
                  obtain rfl : false = r := by rw [← hr, decide_eq_false e5]; rfl
                  clear e5 hr; go_wp2; go_ret; exact ⟨rfl, HW⟩
              · rw [if_neg k1] at hF
                have d3 : (x.f2 == 1) = false := beq_eq_false_iff_ne.mpr k1; clear k1
                by_cases k2 : x.f2 = 2
                · rw [if_pos k2] at hF
                  have d4 : (x.f2 == 2) = true := beq_iff_eq.mpr k2; clear k2
                  go_upto_region 13 with fail
                  clear d3 d4
                  by_cases e5 : p.f3.length = 1
                  · rw [if_pos e5] at hF
                    have n1 : 0 < p.f3.length := by omega
                    have n2 : (0 : Int) < (p.f3.length : Int) := by omega
                    have n3 : (((p.f3.length : Nat) : Int) == 1) = true := beq_iff_eq.mpr (by omega); have n4 : (p.f3.length == 1) = true := beq_iff_eq.mpr (by omega); obtain ⟨ad1, A5, cc5, hA, ⟨q0, q1, q2, q3, q4, q5⟩, ql, qR⟩ := part0 hR2 (by omega); obtain rfl := hA
                    obtain ⟨P0, hP0⟩ : ∃ P0, P0 = pt p 0 := ⟨_, rfl⟩
                    rw [← hP0] at hF q0 q1 q2 q3 q4 q5 ql qR; have HRY := Lib.hid (Kd.Qbc HRc.out HW); have HQ := Lib.hid qR; have HL := Lib.hid ql; have HH := Lib.hid hF; have t0 := QaS q0; have t1 := QaS q1; have t2 := QaS q2; have t3 := QaS q3; have t4 := QaS q4; have t5 := QaS q5; have y5 := QaS p5; have z5 := QaS kc5; have z6 := QaS kc6; clear hP0 hF qR ql e5 hR2 q0 q1 q2 q3 q4 q5 p0 p1 p2 p3 p4 p5 kc0 kc1 kc2 kc3 kc4 kc5 kc6 kc7 kc8; refine Qbb (by kernel_rfl) (by kernel_rfl) ?_
                    repeat (go_big_quiet_step ((with_reducible refine QbY (HX.out _ (some ad) c0 P0 A5 cc5 x.f4 who r (Kd.Qbc HRY.out (BW.ok _)) HCc.out (Kd.Qbc HQ.out (BW.ok _)) HL.out HH.out))))
                    refine wpQuiet_nil ?_; rintro _ ⟨u, rfl⟩; have HBu := Qad HW u.ok
                    go_wp2_with fail
                    go_ret; exact ⟨rfl, HBu⟩
                  · rw [if_neg e5] at hF
                    obtain rfl := Option.some.inj hF; have n3 : (((p.f3.length : Nat) : Int) == 1) = false := beq_eq_false_iff_ne.mpr (by omega); have n4 : (p.f3.length == 1) = false := beq_eq_false_iff_ne.mpr (by omega); have y5 := QaS p5; clear hF e5 hR2 p0 p1 p2 p3 p4 p5 kc0 kc1 kc2 kc3 kc4 kc5 kc6 kc7 kc8; refine Qbb (by kernel_rfl) (by kernel_rfl) ?_
                    repeat (go_big_quiet_step (fail))
                    refine wpQuiet_nil ?_; rintro _ ⟨u, rfl⟩; have HBu := Qad HW u.ok
                    go_wp2_with fail
                    go_ret; exact ⟨rfl, HBu⟩
                · rw [if_neg k2] at hF
                  have d4 : (x.f2 == 2) = false := beq_eq_false_iff_ne.mpr k2; clear k2
                  by_cases e5 : p.f3.length = 2
                  · rw [if_pos e5] at hF
                    have n1 : 0 < p.f3.length := by omega
                    have n2 : (0 : Int) < (p.f3.length : Int) := by omega
                    have n3 : 1 < p.f3.length := by omega
                    have n4 : (1 : Int) < (p.f3.length : Int) := by omega
                    have n5 : (((p.f3.length : Nat) : Int) == 2) = true := beq_iff_eq.mpr (by omega); have n6 : (p.f3.length == 2) = true := beq_iff_eq.mpr (by omega)
                    have n7 : (((p.f3.length : Nat) : Int) != 2) = false := by simp; omega
                    have n8 : (p.f3.length != 2) = false := by simp; omega
                    obtain ⟨ad1, A5, cc5, hA, ⟨q0, q1, q2, q3, q4, q5⟩, ql, qR⟩ := part0 hR2 (by omega); obtain rfl := hA; obtain ⟨B5, dd5, ⟨s0, s1, s2, s3, s4, s5⟩, ⟨s6, s7, s8, s9, s10⟩, sl, sR⟩ := part1 hR2 (by omega)
                    obtain ⟨P0, hP0⟩ : ∃ P0, P0 = pt p 0 := ⟨_, rfl⟩
                    obtain ⟨P1, hP1⟩ : ∃ P1, P1 = pt p 1 := ⟨_, rfl⟩
                    rw [← hP0] at q0 q1 q2 q3 q4 q5 ql qR; rw [← hP1] at s0 s6 s7 s8 s9 s10 sl sR
                    by_cases k4 : x.f2 = 4
                    · rw [if_pos k4, ← hP0, ← hP1] at hF
                      have d5 : (x.f2 == 4) = true := beq_iff_eq.mpr k4; obtain ⟨b1, h1, hF⟩ := Option.bind_eq_some_iff.mp hF; clear k4 hP0 hP1
                      go_upto_region 17 with fail
                      clear d3 d4 d5; have t0 := QaS q0; have t1 := QaS q1; have t2 := QaS q2; have t3 := QaS q3; have t4 := QaS q4; have t5 := QaS q5; have v0 := QaS s0; have v6 := QaS s6; have v7 := QaS s7; have v8 := QaS s8; have v9 := QaS s9; have v10 := QaS s10; have y5 := QaS p5; have z5 := QaS kc5; have z6 := QaS kc6; have z7 := QaS kc7; have z8 := QaS kc8; have HRY := Lib.hid (Kd.Qbc HRc.out HW); have HQ := Lib.hid qR; have HL := Lib.hid ql; have HS := Lib.hid sR; have HM := Lib.hid sl; have H0 := Lib.hid h1; clear h1; clear qR ql sR sl e5 hR2 q0 q1 q2 q3 q4 q5 s0 s1 s2 s3 s4 s5 s6 s7 s8 s9 s10 p0 p1 p2 p3 p4 p5 kc0 kc1 kc2 kc3 kc4 kc5 kc6 kc7 kc8; cases b1
                      · rw [if_neg (by decide)] at hF
                        obtain rfl := Option.some.inj hF; clear hF; refine Qbb (by kernel_rfl) (by kernel_rfl) ?_
                        repeat (go_big_quiet_step ((with_reducible refine QbY (HX.out _ (some ad) c0 P0 A5 cc5 x.f4 who false (Kd.Qbc HRY.out (BW.ok _)) HCc.out (Kd.Qbc HQ.out (BW.ok _)) HL.out H0.out))))
                        refine wpQuiet_nil ?_; rintro _ ⟨u, rfl⟩; have HBu := Qad HW u.ok
                        go_wp2_with fail
                        go_ret; exact ⟨rfl, HBu⟩
                      · rw [if_pos rfl] at hF
                        have H1 := Lib.hid hF; clear hF; refine Qbb (by kernel_rfl) (by kernel_rfl) ?_
                        repeat (go_big_quiet_step (first | (with_reducible refine QbY (HX.out _ (some ad) c0 P0 A5 cc5 x.f4 who true (Kd.Qbc HRY.out (BW.ok _)) HCc.out (Kd.Qbc HQ.out (BW.ok _)) HL.out H0.out)) | (with_reducible refine QbY (HX.out _ (some ad) c0 P1 B5 dd5 x.f5 who r (Kd.Qbc HRY.out (BW.ok _)) HCc.out (Kd.Qbc HS.out (BW.ok _)) HM.out H1.out))))
                        refine wpQuiet_nil ?_; rintro _ ⟨u, rfl⟩; have HBu := Qad HW u.ok
                        go_wp2_with fail
                        go_ret; exact ⟨rfl, HBu⟩
                    · rw [if_neg k4] at hF
                      have d5 : (x.f2 == 4) = false := beq_eq_false_iff_ne.mpr k4; unfold ofLink at hF; rw [← hP0, ← hP1] at hF; obtain ⟨n, hn, hF⟩ := Option.bind_eq_some_iff.mp hF; have HN := Lib.hid hn; have HH := Lib.hid hF; clear k4 hP0 hP1 hn hF
                      go_upto_region 19 with fail
                      clear d3 d4 d5; have t0 := QaS q0; have t1 := QaS q1; have t2 := QaS q2; have t3 := QaS q3; have t4 := QaS q4; have t5 := QaS q5; have v0 := QaS s0; have v6 := QaS s6; have v7 := QaS s7; have v8 := QaS s8; have v9 := QaS s9; have v10 := QaS s10; have y5 := QaS p5; have z0 := QaS kc0; have z1 := QaS kc1; have z2 := QaS kc2; have z3 := QaS kc3; have z4 := QaS kc4; have z5 := QaS kc5; have z6 := QaS kc6; have z7 := QaS kc7; have z8 := QaS kc8; have HRY := Lib.hid (Kd.Qbc HRc.out HW); have HQ := Lib.hid qR; have HL := Lib.hid ql; have HS := Lib.hid sR; have HM := Lib.hid sl; clear qR ql sR sl e5 hR2 q0 q1 q2 q3 q4 q5 s0 s1 s2 s3 s4 s5 s6 s7 s8 s9 s10 p0 p1 p2 p3 p4 p5 kc0 kc1 kc2 kc3 kc4 kc5 kc6 kc7 kc8
                      by_cases e6 : n > 0
                      · have hF := HH.out
                        rw [if_pos e6] at hF; have f1 : decide (0 < n) = true := decide_eq_true e6; have f2 : 0 < n := e6; obtain ⟨ff, hff, hF⟩ := Option.bind_eq_some_iff.mp hF; obtain ⟨b1, h1, hF⟩ := Option.bind_eq_some_iff.mp hF; have HFF := Lib.hid hff; have H0 := Lib.hid h1; clear hff h1 HH e6; cases b1
                        · rw [if_neg (by decide)] at hF
                          obtain rfl := Option.some.inj hF; clear hF; refine Qbb (by kernel_rfl) (by kernel_rfl) ?_
                          repeat (go_big_quiet_step (first | (with_reducible refine QbY (refNumber_below _ _ _ HN.out)) | (with_reducible refine QbY (QaR.calls 20 _ _ _ _ _ _ _ _ _ _ _ _ HFF.out)) | (with_reducible refine QbY (HX.out _ (some ad) c0 P0 A5 cc5 ⟨ff.1, ff.2⟩ P0.f1 false (Kd.Qbc HRY.out (BW.ok _)) HCc.out (Kd.Qbc HQ.out (BW.ok _)) HL.out H0.out))))
                          refine wpQuiet_nil ?_; rintro _ ⟨u, rfl⟩; have HBu := Qad HW u.ok
                          go_wp2_with fail
                          go_ret; exact ⟨rfl, HBu⟩
                        · rw [if_pos rfl] at hF
                          have H1 := Lib.hid hF; clear hF; refine Qbb (by kernel_rfl) (by kernel_rfl) ?_
                          repeat (go_big_quiet_step (first | (with_reducible refine QbY (refNumber_below _ _ _ HN.out)) | (with_reducible refine QbY (QaR.calls 20 _ _ _ _ _ _ _ _ _ _ _ _ HFF.out)) | (with_reducible refine QbY (HX.out _ (some ad) c0 P0 A5 cc5 ⟨ff.1, ff.2⟩ P0.f1 true (Kd.Qbc HRY.out (BW.ok _)) HCc.out (Kd.Qbc HQ.out (BW.ok _)) HL.out H0.out)) | (with_reducible refine QbY (HX.out _ (some ad) c0 P1 B5 dd5 ⟨P0.f1, x.f5.f1⟩ who r (Kd.Qbc HRY.out (BW.ok _)) HCc.out (Kd.Qbc HS.out (BW.ok _)) HM.out H1.out))))
                          refine wpQuiet_nil ?_; rintro _ ⟨u, rfl⟩; have HBu := Qad HW u.ok
                          go_wp2_with fail
                          go_ret; exact ⟨rfl, HBu⟩
                      · have hF := HH.out
                        rw [if_neg e6] at hF; obtain rfl := Option.some.inj hF; have f1 : decide (0 < n) = false := decide_eq_false e6; clear hF HH e6; refine Qbb (by kernel_rfl) (by kernel_rfl) ?_
                        repeat (go_big_quiet_step (with_reducible refine QbY (refNumber_below _ _ _ HN.out)))
                        refine wpQuiet_nil ?_; rintro _ ⟨u, rfl⟩; have HBu := Qad HW u.ok
                        go_wp2_with fail
                        go_ret; exact ⟨rfl, HBu⟩
                  · rw [if_neg e5] at hF
                    obtain rfl := Option.some.inj hF
                    have n7 : (((p.f3.length : Nat) : Int) != 2) = true := by simp; omega
                    have n8 : (p.f3.length != 2) = true := by simp; omega
                    clear hF hR2; go_wp2; go_ret; exact ⟨rfl, HW⟩
            · have hF := HF.out
              rw [if_neg e4] at hF; obtain rfl := Option.some.inj hF; have hb4 := neRole_t e4; clear e4 HF hF; refine Qbb (by kernel_rfl) (by kernel_rfl) ?_
              repeat (go_big_quiet_step (with_reducible refine QbY (QaW.calls 20 _ _ _ _ _ _ _ _ _ _ _ _ HRR.out)))
              refine wpQuiet_nil ?_; rintro _ ⟨u, rfl⟩; have HW := Qad HWX.out u.ok; have BX := Qac HBX.out u.ok; have BP := Qac HBP.out u.ok; clear g0 g1 g2 g3 g4 g5 g6 g7 g8 s0 s1 HWX HBX HBP HBR
              generalize u.now = Y at HW BX BP ⊢
              clear u; go_wp2; go_ret; exact ⟨rfl, HW⟩
          · have hF := HF.out
            rw [decide_eq_false e3] at hF; have hb3 := neID_t e3; have HF := Lib.hid (show ofAt F (cs.drop (i + 1)) p role who = some r from hF); clear e3 hF; go_wp2
            go_roundg (cs.length + 1 - (i + 1))
            case measure => have := HKq.out; have := HIL.out; omega
            case rel => exact ⟨i + 1, by first | rfl | exact congrArg _ wrapI, Lib.hid rfl, Lib.hid HIL.out, HF, HBP, HBR, HWX⟩
        · have d1 : decide ((i : Int) < (cs.length : Int)) = false := decide_eq_false (by omega)
          have d2 : decide (i < cs.length) = false := decide_eq_false hi; have hF := HF.out; unfold ofAt at hF; rw [List.drop_eq_nil_of_le (by omega)] at hF; obtain rfl := Option.some.inj hF; clear hF HF hi; go_wp2; go_ret; exact ⟨rfl, HW.out⟩
    · rw [if_neg e2] at h
      have hb2 := neStr_t e2; obtain rfl := Option.some.inj h; clear e2 h; go_wp2; go_ret; exact ⟨rfl, HB⟩
  · rw [if_neg e1] at h
    have hb1 := neRole_t e1; obtain rfl := Option.some.inj h; clear e1 h; go_wp2; go_ret; exact ⟨rfl, HB⟩
theorem of_calls {cs : List Cred} (hlen : cs.length ≤ 1000000) : ∀ k, Ofs (ofN cs k) cs
  | 0 => fun _ _ _ _ _ _ _ _ _ _ _ _ _ h => by cases h
  | k + 1 => of_step (of_calls hlen k) hlen
end
section
attribute [local go_sem] QaQ QaO QaZ QaY QaJ QaI QaP QaN
def QbA.f (l0 : List (S46)) (a1_0 : ByteArray) (a1_1 : ByteArray) (a1_2 : ByteArray) (a1_3 : Int) (a1_4 : Int) (l1_5 : List (S30)) (a2_0 : ByteArray) (a2_1 : ByteArray) (a3 : ByteArray) : Option Bool := if l0.length ≤ 1000000 then ofN l0 200 ⟨⟨a1_0, a1_1⟩, a1_2, ⟨a1_3, a1_4⟩, l1_5⟩ ⟨a2_0, a2_1⟩ a3 else none
theorem QbA.calls (A0 : Option Addr) (c0 : Nat) (l0 : List (S46)) (a1_0 : ByteArray) (a1_1 : ByteArray) (a1_2 : ByteArray) (a1_3 : Int) (a1_4 : Int) (A1_5 : Option Addr) (c1_5 : Nat) (l1_5 : List (S30)) (a2_0 : ByteArray) (a2_1 : ByteArray) (a3 : ByteArray) (r : Bool) (w : World) (hr0 : Kd.C k46 w A0 l0.length l0) (hc0 : l0.length ≤ c0) (hr1_5 : Kd.C k30 w A1_5 l1_5.length l1_5) (hc1_5 : l1_5.length ≤ c1_5) (h : QbA.f l0 a1_0 a1_1 a1_2 a1_3 a1_4 l1_5 a2_0 a2_1 a3 = some r) :
    Calls Tryz.prog 34 #[.slice A0 l0.length c0, .agg #[.string a1_0, .string a1_1, .string a1_2, .int .i64 a1_3, .int .i64 a1_4, .slice A1_5 l1_5.length c1_5], .agg #[.string a2_0, .string a2_1], .string a3] w fun e w' => e = .returned (.bool r) ∧ Below w.heap.size w w' := by
  unfold QbA.f at h
  by_cases hl : l0.length ≤ 1000000
  · rw [if_pos hl] at h
    exact of_calls hl 200 w A0 c0 ⟨⟨a1_0, a1_1⟩, a1_2, ⟨a1_3, a1_4⟩, l1_5⟩ A1_5 c1_5 ⟨a2_0, a2_1⟩ a3 r hr0 hc0 hr1_5 hc1_5 h
  · rw [if_neg hl] at h
    cases h

def Qa0.f (k : Nat) (l0 : List (S46)) (a1_0 : ByteArray) (a1_1 : ByteArray) (a1_2 : ByteArray) (a1_3 : Int) (a1_4 : Int) (l1_5 : List (S30)) : Option (Int) := (Qao.f k l0).bind fun t102 => ((QbA.f t102 a1_0 a1_1 a1_2 a1_3 a1_4 l1_5 a1_0 a1_1 a1_2).bind fun t105 => (if t105 = true then (some 0) else (some 15)))
def Qa0.T1 : Bool × List (List Nat × List Nat) := (true, [([], []), ([0], [0]), ([], []), ([], []), ([3], [3]), ([], []), ([5], [5]), ([1, 2, 4, 6, 1], [1, 2, 4, 6]), ([7, 7, 0, 1, 2, 3, 4, 5, 6, 7], [7])])
def Qa0.B1 : List Nat := [0, 1, 0, 0, 8, 0, 32, 127, 255]
theorem Qa0.tab1 : rtab .any (opsOf Tryz.f19 1) = Qa0.T1 := by kernel_rfl
theorem Qa0.bits1 : waitsOk Qa0.T1.2 Qa0.B1 = true := by kernel_rfl
set_option maxHeartbeats 8000000 in
set_option maxRecDepth 100000 in
theorem Qa0.calls (k : Nat) (A0 : Option Addr) (c0 : Nat) (l0 : List (S46)) (a1_0 : ByteArray) (a1_1 : ByteArray) (a1_2 : ByteArray) (a1_3 : Int) (a1_4 : Int) (A1_5 : Option Addr) (c1_5 : Nat) (l1_5 : List (S30)) (r : Int) (w : World) (hr0 : Kd.C k46 w A0 l0.length l0) (hc0 : l0.length ≤ c0) (hr1_5 : Kd.C k30 w A1_5 l1_5.length l1_5) (hc1_5 : l1_5.length ≤ c1_5) (h : Qa0.f k l0 a1_0 a1_1 a1_2 a1_3 a1_4 l1_5 = some r) :
  Calls Tryz.prog 19 #[.slice A0 l0.length c0, .agg #[.string a1_0, .string a1_1, .string a1_2, .int .i64 a1_3, .int .i64 a1_4, .slice A1_5 l1_5.length c1_5]] w fun e w' => e = .returned (.int .i64 r) ∧ Below w.heap.size w w' := by
 have hu30 := Tryz.underlying30; have hu24 := Tryz.underlying24; have HR0 := Qaa.mk hr0; have HC0 := Qaa.mk hc0; clear hr0 hc0; have HR1_5 := Qaa.mk hr1_5; have HC1_5 := Qaa.mk hc1_5; clear hr1_5 hc1_5; have HB := Qaa.mk (Below.refl w.heap.size w); have H : ((Qao.f k l0).bind fun t102 => ((QbA.f t102 a1_0 a1_1 a1_2 a1_3 a1_4 l1_5 a1_0 a1_1 a1_2).bind fun t105 => (if t105 = true then (some 0) else (some 15)))) = some r := h; clear h; replace H := Option.bind_eq_some_iff.mp H; obtain ⟨t102, A30, H⟩ := H; replace H : ((QbA.f t102 a1_0 a1_1 a1_2 a1_3 a1_4 l1_5 a1_0 a1_1 a1_2).bind fun t105 => (if t105 = true then (some 0) else (some 15))) = some r := H; have A3 := Qaa.mk A30; clear A30; replace H := Option.bind_eq_some_iff.mp H; obtain ⟨t105, A40, H⟩ := H; replace H : (if t105 = true then (some 0) else (some 15)) = some r := H; have A4 := Qaa.mk A40; clear A40
 by_cases c5 : t105 = true
 ·subst c5
  have H1 : (some 0) = some r := by rw [if_pos rfl] at H; exact H
  clear H; have H := H1; clear H1; obtain rfl := Option.some.inj H; go_enter Tryz.func19, Tryz.ntmps19
  try go_wp2_with (first | ((with_reducible refine QaM (N := 3) rfl ?_); refine QaK ?hg (N := 3) ?hd (cs := #[.string a1_0, .string a1_1, .string a1_2, .int .i64 a1_3, .int .i64 a1_4, .slice A1_5 l1_5.length c1_5]) (t := 30) ?hr ?_; (case hd => rfl); (case hg => rfl); (case hr => first | (go_simp; done) | (go_simp; rfl)); intro gb101 hg w6 hbox hb; have BK101 := Qaa.mk (hbox); have GW101 := (gz_ hg : Qaa (w.heap.size ≤ gb101)); have GE101 := (gz_ hg : Qaa (w.heap.size ≤ gb101)); replace HB := Qaa.mk (Qad bw_ hb); clear hb hbox hg))
  replace BK101 := Qaa.mk (Qah BK101.out); replace HB := Qaa.mk (Qan HB.out); refine Qby (n := 9) (S := fun w' => cgl_sssiiv w' gb101 a1_0 a1_1 a1_2 a1_3 a1_4 (.slice A1_5 l1_5.length c1_5)) (ds := []) #[ff,ff,ff,ff,ff,ff,ff,ff,ff] (by kernel_rfl) rfl rfl (cl_6 BK101.out) (fun hHeld => ?_); refine Qbe Qa0.tab1 Qa0.bits1 (fun HT_ HW_ => ?_)
  generalize w6.drew = w7 at BK101 HB hHeld ⊢
  refine pz 0 6 ?_; refine pz 3 9 ?_; refine pz 5 11 ?_; refine tk6 2 8 ?_; refine tk6 4 10 ?_; refine tk6 6 12 ?_; refine one_ (i := 1) (N := some 7) #[tt,tt,tt,tt,tt,tt,tt,ff,ff] rfl rfl (QbO HT_.out (by kernel_rfl)) (by decide) (fun K hK => ?_); refine Qcs Tryz.func18 (by kernel_rfl) rfl #[.slice A0 l0.length c0] (by rfl) rfl rfl (by (try simp only [List.map_toArray, List.map_cons, List.map_nil]); first | done | rfl | (simp only [List.length_drop, List.length_take]; rfl)) ?_
  with_reducible refine (Qao.calls k _ _ l0 t102 _ ?side1 ?side2 A3.out).mono ?_
  (case side1 => exact kd_ (Kd.Qbc HR0.out HB.out))
  (case side2 => exact HC0.out)
  rintro e w8 ⟨v103, rfl, ho0, hb⟩; refine ⟨_, rfl, ?_⟩; have HO104 := Qaa.mk (Kd.Qa7 ho0 (QaD bw_)); replace BK101 := Qaa.mk (Qac (g := gb101) bk_ hb); replace HB := Qaa.mk (Qad bw_ hb)
  (try clear hb)
  (try clear hb2)
  (try clear hk)
  (try clear hi)
  (try clear ho0)
  obtain ⟨Ao9, co9, eo9⟩ := Kd.Qa2 HO104.out
  (first | subst eo9 | (injection eo9 with f1_ f2_ f3_; have f4_ := f1_.symm; have f5_ := f3_.symm; clear f1_ f2_ f3_; subst f4_; subst f5_))
  refine hK.out _ _ (cl_6 BK101.out) (fun hHeld => ?_); clear hK K; refine QbF (a' := ?_) ?_ ?_; rotate_left
  ·show Act.put _ (some 7) _ = _
   simp only [Act.put, put_, Qbt, Qbw]; rfl
  refine one_ (i := 7) (N := some 13) #[tt,tt,tt,tt,tt,tt,tt,tt,ff] rfl rfl (QbO HT_.out (by kernel_rfl)) (by decide) (fun K hK => ?_); refine Qcs Tryz.func34 (by kernel_rfl) rfl #[.slice Ao9 t102.length co9, .agg #[.string a1_0, .string a1_1, .string a1_2, .int .i64 a1_3, .int .i64 a1_4, .slice A1_5 l1_5.length c1_5], .agg #[.string a1_0, .string a1_1], .string a1_2] (by rfl) rfl rfl (by (try simp only [List.map_toArray, List.map_cons, List.map_nil]); first | done | rfl | (simp only [List.length_drop, List.length_take]; rfl)) ?_
  with_reducible refine (QbA.calls _ _ t102 a1_0 a1_1 a1_2 a1_3 a1_4 _ _ l1_5 a1_0 a1_1 a1_2 true _ ?side1 ?side2 ?side3 ?side4 A4.out).mono ?_
  (case side1 => exact kd_ ((Kd.QaF HO104.out).2.2))
  (case side2 => exact (Kd.QaF HO104.out).2.1)
  (case side3 => exact kd_ (Kd.Qbc HR1_5.out HB.out))
  (case side4 => exact HC1_5.out)
  rintro e w10 ⟨rfl, hb⟩; refine ⟨_, rfl, ?_⟩; replace HO104 := Qaa.mk (Kd.Qau (ro_ HO104) hb); replace BK101 := Qaa.mk (Qac (g := gb101) bk_ hb); replace HB := Qaa.mk (Qad bw_ hb)
  (try clear hb)
  (try clear hb2)
  (try clear hk)
  (try clear hi)
  refine hK.out _ _ (cl_6 BK101.out) (fun hHeld => ?_); clear hK K; refine QbF (a' := ?_) ?_ ?_; rotate_left
  ·show Act.put _ (some 13) _ = _
   simp only [Act.put, put_, Qbt, Qbw]; rfl
  refine pz 8 5 ?_; refine QbW (Qbx HT_.out (by kernel_rfl)) ?_
  try go_wp2
  go_ret; exact ⟨by first | rfl | (simp [Qaw, Qav] <;> rfl) | (simp [*, Qaw, Qav] <;> rfl), bw_⟩
 ·replace c5 := Bool.eq_false_iff.mpr c5; subst c5
  have H1 : (some 15) = some r := by rw [if_neg (show ¬ (false = true) by decide)] at H; exact H
  clear H; have H := H1; clear H1; obtain rfl := Option.some.inj H; go_enter Tryz.func19, Tryz.ntmps19
  try go_wp2_with (first | ((with_reducible refine QaM (N := 3) rfl ?_); refine QaK ?hg (N := 3) ?hd (cs := #[.string a1_0, .string a1_1, .string a1_2, .int .i64 a1_3, .int .i64 a1_4, .slice A1_5 l1_5.length c1_5]) (t := 30) ?hr ?_; (case hd => rfl); (case hg => rfl); (case hr => first | (go_simp; done) | (go_simp; rfl)); intro gb101 hg w11 hbox hb; have BK101 := Qaa.mk (hbox); have GW101 := (gz_ hg : Qaa (w.heap.size ≤ gb101)); have GE101 := (gz_ hg : Qaa (w.heap.size ≤ gb101)); replace HB := Qaa.mk (Qad bw_ hb); clear hb hbox hg))
  replace BK101 := Qaa.mk (Qah BK101.out); replace HB := Qaa.mk (Qan HB.out); refine Qby (n := 9) (S := fun w' => cgl_sssiiv w' gb101 a1_0 a1_1 a1_2 a1_3 a1_4 (.slice A1_5 l1_5.length c1_5)) (ds := []) #[ff,ff,ff,ff,ff,ff,ff,ff,ff] (by kernel_rfl) rfl rfl (cl_6 BK101.out) (fun hHeld => ?_); refine Qbe Qa0.tab1 Qa0.bits1 (fun HT_ HW_ => ?_)
  generalize w11.drew = w12 at BK101 HB hHeld ⊢
  refine pz 0 6 ?_; refine pz 3 9 ?_; refine pz 5 11 ?_; refine tk6 2 8 ?_; refine tk6 4 10 ?_; refine tk6 6 12 ?_; refine one_ (i := 1) (N := some 7) #[tt,tt,tt,tt,tt,tt,tt,ff,ff] rfl rfl (QbO HT_.out (by kernel_rfl)) (by decide) (fun K hK => ?_); refine Qcs Tryz.func18 (by kernel_rfl) rfl #[.slice A0 l0.length c0] (by rfl) rfl rfl (by (try simp only [List.map_toArray, List.map_cons, List.map_nil]); first | done | rfl | (simp only [List.length_drop, List.length_take]; rfl)) ?_
  with_reducible refine (Qao.calls k _ _ l0 t102 _ ?side1 ?side2 A3.out).mono ?_
  (case side1 => exact kd_ (Kd.Qbc HR0.out HB.out))
  (case side2 => exact HC0.out)
  rintro e w13 ⟨v103, rfl, ho0, hb⟩; refine ⟨_, rfl, ?_⟩; have HO104 := Qaa.mk (Kd.Qa7 ho0 (QaD bw_)); replace BK101 := Qaa.mk (Qac (g := gb101) bk_ hb); replace HB := Qaa.mk (Qad bw_ hb)
  (try clear hb)
  (try clear hb2)
  (try clear hk)
  (try clear hi)
  (try clear ho0)
  obtain ⟨Ao14, co14, eo14⟩ := Kd.Qa2 HO104.out
  (first | subst eo14 | (injection eo14 with f1_ f2_ f3_; have f4_ := f1_.symm; have f5_ := f3_.symm; clear f1_ f2_ f3_; subst f4_; subst f5_))
  refine hK.out _ _ (cl_6 BK101.out) (fun hHeld => ?_); clear hK K; refine QbF (a' := ?_) ?_ ?_; rotate_left
  ·show Act.put _ (some 7) _ = _
   simp only [Act.put, put_, Qbt, Qbw]; rfl
  refine one_ (i := 7) (N := some 13) #[tt,tt,tt,tt,tt,tt,tt,tt,ff] rfl rfl (QbO HT_.out (by kernel_rfl)) (by decide) (fun K hK => ?_); refine Qcs Tryz.func34 (by kernel_rfl) rfl #[.slice Ao14 t102.length co14, .agg #[.string a1_0, .string a1_1, .string a1_2, .int .i64 a1_3, .int .i64 a1_4, .slice A1_5 l1_5.length c1_5], .agg #[.string a1_0, .string a1_1], .string a1_2] (by rfl) rfl rfl (by (try simp only [List.map_toArray, List.map_cons, List.map_nil]); first | done | rfl | (simp only [List.length_drop, List.length_take]; rfl)) ?_
  with_reducible refine (QbA.calls _ _ t102 a1_0 a1_1 a1_2 a1_3 a1_4 _ _ l1_5 a1_0 a1_1 a1_2 false _ ?side1 ?side2 ?side3 ?side4 A4.out).mono ?_
  (case side1 => exact kd_ ((Kd.QaF HO104.out).2.2))
  (case side2 => exact (Kd.QaF HO104.out).2.1)
  (case side3 => exact kd_ (Kd.Qbc HR1_5.out HB.out))
  (case side4 => exact HC1_5.out)
  rintro e w15 ⟨rfl, hb⟩; refine ⟨_, rfl, ?_⟩; replace HO104 := Qaa.mk (Kd.Qau (ro_ HO104) hb); replace BK101 := Qaa.mk (Qac (g := gb101) bk_ hb); replace HB := Qaa.mk (Qad bw_ hb)
  (try clear hb)
  (try clear hb2)
  (try clear hk)
  (try clear hi)
  refine hK.out _ _ (cl_6 BK101.out) (fun hHeld => ?_); clear hK K; refine QbF (a' := ?_) ?_ ?_; rotate_left
  ·show Act.put _ (some 13) _ = _
   simp only [Act.put, put_, Qbt, Qbw]; rfl
  refine pz 8 5 ?_; refine QbW (Qbx HT_.out (by kernel_rfl)) ?_
  try go_wp2
  go_ret; exact ⟨by first | rfl | (simp [Qaw, Qav] <;> rfl) | (simp [*, Qaw, Qav] <;> rfl), bw_⟩
end
section
attribute [local go_sem high] eqA24



end
section
attribute [local go_sem] QaQ QaO QaZ QaY QaJ QaI QaP QaN

end
theorem eqID_tt {a b : ID} (h : a = b) : ((a.f0 == b.f0) && (a.f1 == b.f1)) = true := by subst h; simp
theorem eqID_ff {a b : ID} (h : ¬ a = b) : ((a.f0 == b.f0) && (a.f1 == b.f1)) = false := by
  rw [Bool.eq_false_iff]; intro e; rw [Bool.and_eq_true, beq_iff_eq, beq_iff_eq] at e; exact h (id_ext e.1 e.2)
mutual
def ids : S30 → List ID
  | ⟨_, _, i, ps⟩ => i :: idsL ps
def idsL : List S30 → List ID
  | [] => []
  | p :: ps => ids p ++ idsL ps
end
mutual
def dep : S30 → Nat
  | ⟨_, _, _, ps⟩ => depL ps
def depL : List S30 → Nat
  | [] => 0
  | p :: ps => Nat.max (dep p + 1) (depL ps)
end
theorem ids_eq (p : Proof) : ids p = p.f2 :: idsL p.f3 := by cases p; rw [ids]
theorem dep_eq (p : Proof) : dep p = depL p.f3 := by cases p; rw [dep]
theorem idsL_nil : idsL [] = [] := by rw [idsL]
theorem idsL_cons (p : Proof) (ps : List Proof) : idsL (p :: ps) = ids p ++ idsL ps := by rw [idsL]
theorem depL_nil : depL [] = 0 := by rw [depL]
theorem depL_cons (p : Proof) (ps : List Proof) : depL (p :: ps) = Nat.max (dep p + 1) (depL ps) := by rw [depL]
def cnt (p : Proof) : Nat := (ids p).length
theorem cnt_pos (p : Proof) : 0 < cnt p := by
  unfold cnt; rw [ids_eq]; exact Nat.zero_lt_succ _
theorem mem_idsL {q : Proof} {ps : List Proof} (h : q ∈ ps) : ∀ i ∈ ids q, i ∈ idsL ps := by
  induction ps with
  | nil => cases h
  | cons p ps ih =>
    intro i hi; rw [idsL_cons, List.mem_append]
    rcases List.mem_cons.mp h with rfl | h
    · exact .inl hi
    · exact .inr (ih h i hi)
theorem mem_ids {q p : Proof} (h : q ∈ p.f3) : ∀ i ∈ ids q, i ∈ ids p := fun i hi => by
  rw [ids_eq]; exact List.mem_cons_of_mem _ (mem_idsL h i hi)
theorem self_ids (p : Proof) : p.f2 ∈ ids p := by
  rw [ids_eq]; exact List.mem_cons_self ..
theorem cnt_memL {q : Proof} {ps : List Proof} (h : q ∈ ps) : cnt q ≤ (idsL ps).length := by
  unfold cnt
  induction ps with
  | nil => cases h
  | cons p ps ih =>
    rw [idsL_cons, List.length_append]
    rcases List.mem_cons.mp h with rfl | h
    · omega
    · have := ih h
      omega
theorem cnt_mem {q p : Proof} (h : q ∈ p.f3) : cnt q < cnt p := by
  have := cnt_memL h
  show _ < (ids p).length
  rw [ids_eq, List.length_cons]; omega
theorem dep_memL {q : Proof} {ps : List Proof} (h : q ∈ ps) : dep q < depL ps := by
  induction ps with
  | nil => cases h
  | cons p ps ih =>
    rw [depL_cons]
    rcases List.mem_cons.mp h with rfl | h
    · exact Nat.lt_of_lt_of_le (Nat.lt_succ_self _) (Nat.le_max_left _ _)
    · exact Nat.lt_of_lt_of_le (ih h) (Nat.le_max_right _ _)
theorem dep_mem {q p : Proof} (h : q ∈ p.f3) : dep q < dep p := by rw [dep_eq p]; exact dep_memL h
theorem treeInd {P : Proof → Prop} (h : ∀ p, (∀ q ∈ p.f3, P q) → P p) : ∀ p, P p := by
  have : ∀ n p, cnt p ≤ n → P p := by
    intro n
    induction n with
    | zero => intro p hp; have := cnt_pos p; omega
    | succ n ih => exact fun p hp => h p fun q hq => ih q (by have := cnt_mem hq; omega)
  exact fun p => this (cnt p) p (Nat.le_refl _)
theorem parts_le : ∀ ps : List Proof, ps.length ≤ (idsL ps).length
  | [] => Nat.zero_le _
  | p :: ps => by
    rw [idsL_cons, List.length_append, List.length_cons]; have h1 := cnt_pos p; have h2 := parts_le ps; unfold cnt at h1; omega
theorem parts_lt (p : Proof) : p.f3.length < cnt p := by
  unfold cnt; rw [ids_eq, List.length_cons]; have := parts_le p.f3; omega
theorem rdP (ps : List Proof) (i : Nat) (h : i < ps.length) : QbK ps (i : Int) = ps[i] := by
  unfold QbK; rw [Int.toNat_natCast, List.getD_eq_getElem?_getD, List.getElem?_eq_getElem h]; rfl
theorem dropP (ps : List Proof) (i : Nat) (h : i < ps.length) : ps.drop i = ps[i] :: ps.drop (i + 1) := List.drop_eq_getElem_cons h
def okTree (p : Proof) : Prop := ∀ i ∈ ids p, okID i
theorem idBeq (a b : ID) : ((a.f0 == b.f0) && (a.f1 == b.f1)) = decide (a = b) := by
  by_cases h : a = b
  · rw [eqID_tt h, decide_eq_true h]
  · rw [eqID_ff h, decide_eq_false h]
theorem Ev.stepBind {α β : Type} {f : Nat → Option α} {g : Nat → Option β} {h : Nat → β → Option α} {a : β} {v : α} (e : ∀ k, f (k + 1) = (g k).bind (h k)) (hg : Ev g a) (hh : Ev (fun k => h k a) v) : Ev f v := Ev.step e (Ev.bind hg hh)
theorem wrapN {i : Nat} (h : i < 1000000000000) : wrap64 ((i : Int) + 1) = ((i + 1 : Nat) : Int) := by unfold wrap64; omega
end Go.Proofs.YtbjjgaahdnfflaaGreatDoor.Pr
end
