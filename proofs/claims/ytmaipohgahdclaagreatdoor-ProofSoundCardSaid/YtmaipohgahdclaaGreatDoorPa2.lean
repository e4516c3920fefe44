/- The proof's own texts, joined: part 2. No conditions. -/
import Derived.Maps.OwnSet
import Derived.Maps.RangeRun
import Derived.Maps.Range
import Derived.Carry
import Derived.Below
import Derived.Test.YtmaipohgahdclaaGreatDoorProg
import Derived.Deep.Draws
import Derived.Deep.AppendLies
import Derived.Maps.AppendAt
import Derived.OwnWalk
import Derived.Laws.BytesArg
import Derived.Laws.MakeOwn
import Derived.Laws.OwnMore
import Derived.Deep.OwnRows
import Derived.Tactics
import Derived.Lib.ConvBytes
import Derived.Laws.Slices
import Derived.WalkKit
import Derived.KernelRfl
import Derived.RowKit3
import Derived.Deep.LoopGhost
import Derived.Deep.QuietTactic
import Derived.BigQuiet
import Derived.WideLaws
import Derived.Deep.DeepCutAuto
import Derived.Deep.CutBlock
import Derived.Deep.RegionHeld3
import Derived.Laws.Rows
import Derived.Lib.AppendStr
import Derived.ArgAppend
import Derived.Laws.IdiomCopy
import Derived.OrdersHeld
import Derived.Laws.BitsLemmas
import Derived.RowKit
import Derived.WalkSpells
import Derived.WalkLawsBesides
import Derived.Lib.Hide
import Derived.Deep.RegionWith
import Derived.RegionTactic
import Derived.ChangeAlike
import Derived.Deep.RegionLaw
import Derived.Lib.SmallJoins
import Derived.Lib.SlicesS
import Derived.StillTailTactics
import Derived.DeepKeys4
import Derived.Laws.StructEq
import Derived.Shelf.GgSortFunc.InsertionK
import Derived.Shelf.SlicesG.Cmp
import Derived.Sort.Grow
import Derived.Outline
import Derived.Ground.SlgcProg
import Derived.Shelf.SlSortCmp.NoneTotal
import Derived.Sort.Walk0
import Derived.Laws.Strings
import Derived.Shelf.SlSortCmp.WholeK
import Derived.Shelf.SlicesE.Clone
import Derived.Ground.SlsfProg
import Derived.Ground.SlgnProg
import Derived.Laws.RangeAny
import Derived.Laws.Closers25
import Derived.Sort.LotA
import Derived.Test.YtmaipohgahdclaaGreatDoorPa0
import Derived.Test.YtmaipohgahdclaaGreatDoorPa1
section
namespace Go.Proofs.YtmaipohgahdclaaGreatDoor.Pr
open Go.RowKit Go.Proofs.YtmaipohgahdclaaGreatDoorW.PrintWords Go.Proofs.YtmaipohgahdclaaGreatDoorW.PrintLast Go.Proofs.YtmaipohgahdclaaGreatDoorW.PrintMore
set_option linter.unusedVariables false
set_option linter.unusedSimpArgs false
attribute [local go_sem high] eqA24
attribute [local go_sem high] eqA26
def eqL (F : Proof → Proof → Option Bool) : List Proof → List Proof → Option Bool
  | x :: xs, y :: ys => (F x y).bind fun t => if t = true then eqL F xs ys else some false
  | _, _ => some true
def sameF : Nat → Proof → Proof → Option Bool
  | 0, _, _ => none
  | k + 1, a, b => if a.f3.length ≤ 1000000 then (if a.f0 = b.f0 then (if a.f1 = b.f1 then (if a.f2 = b.f2 then (if a.f3.length = b.f3.length then eqL (sameF k) a.f3 b.f3 else some false) else some false) else some false) else some false) else none
def Sames (F : Proof → Proof → Option Bool) : Prop := ∀ (w : World) (p q : Proof) (A : Option Addr) (c : Nat) (B : Option Addr) (d : Nat) (r : Bool), Kd.C kProof w A p.f3.length p.f3 → p.f3.length ≤ c → Kd.C kProof w B q.f3.length q.f3 → q.f3.length ≤ d → F p q = some r →
  Calls Tryz.prog 15 #[encProof p A c, encProof q B d] w fun e w' => e = .returned (.bool r) ∧ Below w.heap.size w w'
theorem eqID_t {a b : ID} (h : a = b) : ((a.f0 == b.f0) && (a.f1 == b.f1)) = true := by subst h; simp
theorem eqID_f {a b : ID} (h : ¬ a = b) : ((a.f0 == b.f0) && (a.f1 == b.f1)) = false := by
  rw [Bool.eq_false_iff]; intro e; rw [Bool.and_eq_true, beq_iff_eq, beq_iff_eq] at e; exact h (id_ext e.1 e.2)
set_option maxRecDepth 100000 in
set_option maxHeartbeats 4000000 in
theorem equalFunc_calls {F : Proof → Proof → Option Bool} (HC : Sames F) (w : World) (xs ys : List Proof) (A : Option Addr) (c : Nat) (B : Option Addr) (d : Nat) (r : Bool) (hx : Kd.C kProof w A xs.length xs) (hy : Kd.C kProof w B ys.length ys) (hl : xs.length ≤ 1000000) (h : (if xs.length = ys.length then eqL F xs ys else some false) = some r) :
    Calls Tryz.prog 31 #[.slice A xs.length c, .slice B ys.length d, .func (.func 15) #[] #[]] w fun e w' => e = .returned (.bool r) ∧ Below w.heap.size w w' := by
  by_cases e : xs.length = ys.length
  · rw [if_pos e] at h
    have d1 : (((xs.length : Nat) : Int) != (ys.length : Int)) = false := by simp; omega
    have d2 : (xs.length != ys.length) = false := by simp; omega
    have HX := Lib.hid hx; have HY := Lib.hid hy; have HE := Lib.hid e; have HL := Lib.hid hl; have HF := Lib.hid h; have HB := Lib.hid (Below.refl w.heap.size w); clear hx hy e hl h; go_enter Tryz.func31, Tryz.ntmps31; go_wp2
    go_loopg [7, 8, 9, 17] (xs.length + 1) (fun kq _ _ _ v17 w' => ∃ i : Nat, v17 = .int .i64 i ∧ Hid (kq = xs.length + 1 - i) ∧ Hid (i ≤ xs.length) ∧ Hid (eqL F (xs.drop i) (ys.drop i) = some r) ∧ Hid (Below w.heap.size w w'))
    case atStart => exact ⟨0, rfl, Lib.hid rfl, Lib.hid (Nat.zero_le _), Lib.hid HF.out, Lib.hid HB.out⟩
    case round =>
      clear HB; obtain ⟨i, rfl, HK, HI, HR, HW⟩ := hrel
      by_cases hi : i < xs.length
      · have f1 : decide ((i : Int) < (xs.length : Int)) = true := decide_eq_true (by omega)
        have f2 : decide (i < xs.length) = true := decide_eq_true hi
        have hj : i < ys.length := by have := HE.out; omega
        obtain ⟨ad, A5, c5, e, hx0, hx1, hx2, hx3, hx4, hx5, hxl, hxC⟩ := at_T29 (Kd.C_below HX.out HW.out) (i : Int) (by omega) (by omega); obtain ⟨bd, B5, d5, e', hy0, hy1, hy2, hy3, hy4, hy5, hyl, hyC⟩ := at_T29 (Kd.C_below HY.out HW.out) (i : Int) (by omega) (by omega); cases e; cases e'; have hr := HR.out; rw [List.drop_eq_getElem_cons hi, List.drop_eq_getElem_cons hj, eqL] at hr
        have ex : QaF xs (i : Int) = xs[i] := by
          unfold QaF; rw [Int.toNat_natCast, List.getD_eq_getElem?_getD, List.getElem?_eq_getElem hi]; rfl
        have ey : QaF ys (i : Int) = ys[i] := by
          unfold QaF; rw [Int.toNat_natCast, List.getD_eq_getElem?_getD, List.getElem?_eq_getElem hj]; rfl
        rw [ex, Int.toNat_natCast] at hx0 hx1 hx2 hx3 hx4 hx5; rw [ex] at hxl hxC; rw [ey, Int.toNat_natCast] at hy0 hy1 hy2 hy3 hy4 hy5; rw [ey] at hyl hyC
        generalize xs[i] = P at hx0 hx1 hx2 hx3 hx4 hx5 hxl hxC hr
        generalize ys[i] = Q at hy0 hy1 hy2 hy3 hy4 hy5 hyl hyC hr
        clear ex ey; obtain ⟨t, ht, hr⟩ := Option.bind_eq_some_iff.mp hr; have p101 : (0 ≤ (i : Int)) = True := eq_true (by omega); have q101 : ((i : Int) < (xs.length : Int)) = True := eq_true (by omega); have q102 : ((i : Int) < (ys.length : Int)) = True := eq_true (by omega); have HIL := Lib.hid hi; have HXC := Lib.hid hxC; have HYC := Lib.hid hyC; have HXL := Lib.hid hxl; have HYL := Lib.hid hyl; have HFt := Lib.hid ht; have HRr := Lib.hid hr
        have wrapI : wrap64 ((i : Int) + 1) = ((i + 1 : Nat) : Int) := by unfold wrap64; have := HL.out; omega
        clear hi hj hxC hyC hxl hyl ht hr HR; have z0 := bw_alloc hy0 (proofObj P A5 c5); have z1 := bw_alloc hy1 (proofObj P A5 c5); have z2 := bw_alloc hy2 (proofObj P A5 c5); have z3 := bw_alloc hy3 (proofObj P A5 c5); have z4 := bw_alloc hy4 (proofObj P A5 c5); have z5 := bw_alloc hy5 (proofObj P A5 c5); clear hy0 hy1 hy2 hy3 hy4 hy5
        go_upto_region 7 with fail
        change Code.wp _ _ _ _ ((wr.alloc (proofObj P A5 c5)).alloc (proofObj Q B5 d5)); have HV := Qab (Qab (Below.refl wr.heap.size wr) (proofObj P A5 c5)) (proofObj Q B5 d5); have B1 := Qaf (blk_new wr (proofObj P A5 c5)) (proofObj Q B5 d5); have B2 := blk_new (wr.alloc (proofObj P A5 c5)) (proofObj Q B5 d5); rw [show (wr.alloc (proofObj P A5 c5)).heap.size = wr.heap.size + 1 by simp] at B2; clear z0 z1 z2 z3 z4 z5 hx0 hx1 hx2 hx3 hx4 hx5
        generalize (wr.alloc (proofObj P A5 c5)).alloc (proofObj Q B5 d5) = V at HV B1 B2 ⊢
        have HVx := Lib.hid HV; obtain ⟨p0, p1, p2, p3, p4, p5⟩ := proofCells B1; obtain ⟨q0, q1, q2, q3, q4, q5⟩ := proofCells B2; clear HV B1 B2; cases t
        · have hr := HRr.out
          rw [if_neg (by decide)] at hr; obtain rfl := Option.some.inj hr; clear hr HRr
          go_wp2_with (go_at_call 15; refine (HC _ P Q A5 c5 B5 d5 false (Kd.C_below HXC.out (by repeat (first | exact HVx.out | apply Qaa | apply Qac))) HXL.out (Kd.C_below HYC.out (by repeat (first | exact HVx.out | apply Qaa | apply Qac))) HYL.out HFt.out).mono ?_; rintro e w5 ⟨rfl, hB5⟩; have HB5 := Qak (Qak HW.out HVx.out) hB5)
          go_ret; exact ⟨rfl, HB5⟩
        · have hr := HRr.out
          rw [if_pos rfl] at hr; have HRn := Lib.hid hr; clear hr HRr
          go_wp2_with (go_at_call 15; refine (HC _ P Q A5 c5 B5 d5 true (Kd.C_below HXC.out (by repeat (first | exact HVx.out | apply Qaa | apply Qac))) HXL.out (Kd.C_below HYC.out (by repeat (first | exact HVx.out | apply Qaa | apply Qac))) HYL.out HFt.out).mono ?_; rintro e w5 ⟨rfl, hB5⟩; have HB5 := Lib.hid (Qak (Qak HW.out HVx.out) hB5))
          go_roundg (xs.length + 1 - (i + 1))
          case measure => have := HK.out; have := HIL.out; omega
          case rel => exact ⟨i + 1, by first | rfl | exact congrArg _ wrapI, Lib.hid rfl, Lib.hid HIL.out, Lib.hid HRn.out, Lib.hid HB5.out⟩
      · have f1 : decide ((i : Int) < (xs.length : Int)) = false := decide_eq_false (by omega)
        have f2 : decide (i < xs.length) = false := decide_eq_false hi; have hr := HR.out; rw [List.drop_eq_nil_of_le (by omega)] at hr; obtain rfl := Option.some.inj hr; clear hr HR hi; go_wp2; go_ret; exact ⟨rfl, HW.out⟩
  · rw [if_neg e] at h
    obtain rfl := Option.some.inj h
    have d1 : (((xs.length : Nat) : Int) != (ys.length : Int)) = true := by simp; omega
    have d2 : (xs.length != ys.length) = true := by simp; omega
    clear h hl hx hy; go_enter Tryz.func31, Tryz.ntmps31; go_wp2; go_ret; exact ⟨rfl, Below.refl _ _⟩
set_option maxRecDepth 100000 in
set_option maxHeartbeats 4000000 in
theorem same_step {F : Proof → Proof → Option Bool} (HC : Sames F) (w : World) (p q : Proof) (A : Option Addr) (c : Nat) (B : Option Addr) (d : Nat) (r : Bool) (hp : Kd.C kProof w A p.f3.length p.f3) (hc : p.f3.length ≤ c) (hq : Kd.C kProof w B q.f3.length q.f3) (hd : q.f3.length ≤ d) (hl : p.f3.length ≤ 1000000)
    (h : (if p.f0 = q.f0 then (if p.f1 = q.f1 then (if p.f2 = q.f2 then (if p.f3.length = q.f3.length then eqL F p.f3 q.f3 else some false) else some false) else some false) else some false) = some r) :
    Calls Tryz.prog 15 #[encProof p A c, encProof q B d] w fun e w' => e = .returned (.bool r) ∧ Below w.heap.size w w' := by
  go_enter Tryz.func15, Tryz.ntmps15
  go_upto_region 1 with fail
  change Code.wp _ _ _ _ ((w.alloc (proofObj p A c)).alloc (proofObj q B d)); have HV := Qab (Qab (Below.refl w.heap.size w) (proofObj p A c)) (proofObj q B d); have B1 := Qaf (blk_new w (proofObj p A c)) (proofObj q B d); have B2 := blk_new (w.alloc (proofObj p A c)) (proofObj q B d); rw [show (w.alloc (proofObj p A c)).heap.size = w.heap.size + 1 by simp] at B2
  generalize (w.alloc (proofObj p A c)).alloc (proofObj q B d) = V at HV B1 B2 ⊢
  obtain ⟨p0, p1, p2, p3, p4, p5⟩ := proofCells B1; obtain ⟨q0, q1, q2, q3, q4, q5⟩ := proofCells B2; have HVx := Lib.hid HV; have HX := Lib.hid (Kd.C_below hp HV); have HY := Lib.hid (Kd.C_below hq HV); have HL := Lib.hid hl; clear HV B1 B2 hp hq hl hc hd
  by_cases e0 : p.f0 = q.f0
  · rw [if_pos e0] at h
    have b0 := eqRole_t e0; clear e0
    by_cases e1 : p.f1 = q.f1
    · rw [if_pos e1] at h
      have b1 := str_t e1; clear e1
      by_cases e2 : p.f2 = q.f2
      · rw [if_pos e2] at h
        have b2 := eqID_t e2; have HF := Lib.hid h; clear e2 h
        go_wp2_with (go_at_call 31; refine (equalFunc_calls HC _ p.f3 q.f3 A c B d r (Kd.C_below HX.out (by repeat (first | exact Below.refl _ _ | apply Qaa | apply Qac))) (Kd.C_below HY.out (by repeat (first | exact Below.refl _ _ | apply Qaa | apply Qac))) HL.out HF.out).mono ?_; rintro e w5 ⟨rfl, hB5⟩; have HB5 := Qak HVx.out hB5)
        go_ret; exact ⟨rfl, HB5⟩
      · rw [if_neg e2] at h
        obtain rfl := Option.some.inj h; have b2 := eqID_f e2; clear e2 h; go_wp2; go_ret; exact ⟨rfl, HVx.out⟩
    · rw [if_neg e1] at h
      obtain rfl := Option.some.inj h; have b1 := str_f e1; clear e1 h; go_wp2; go_ret; exact ⟨rfl, HVx.out⟩
  · rw [if_neg e0] at h
    obtain rfl := Option.some.inj h; have b0 := eqRole_f e0; clear e0 h; go_wp2; go_ret; exact ⟨rfl, HVx.out⟩
theorem same_calls : ∀ k, Sames (sameF k)
  | 0 => fun w p q A c B d r hp hc hq hd h => by cases h
  | k + 1 => fun w p q A c B d r hp hc hq hd h => by
    rw [sameF] at h
    by_cases hl : p.f3.length ≤ 1000000
    · rw [if_pos hl] at h
      exact same_step (same_calls k) w p q A c B d r hp hc hq hd hl h
    · rw [if_neg hl] at h
      cases h
end Go.Proofs.YtmaipohgahdclaaGreatDoor.Pr
end
section
namespace Go.Proofs.YtmaipohgahdclaaGreatDoor.Pr
open Go.RowKit Go.Proofs.YtmaipohgahdclaaGreatDoorW.PrintWords Go.Proofs.YtmaipohgahdclaaGreatDoorW.PrintLast Go.Proofs.YtmaipohgahdclaaGreatDoorW.PrintMore
attribute [local go_sem] QaU QaS max_two min_two QaM QaL QaT QaR
set_option linter.unusedVariables false
set_option linter.unusedSimpArgs false
def proof_Same.f (a0_0 : ByteArray) (a0_1 : ByteArray) (a0_2 : ByteArray) (a0_3 : Int) (a0_4 : Int) (l0_5 : List (S29)) (a1_0 : ByteArray) (a1_1 : ByteArray) (a1_2 : ByteArray) (a1_3 : Int) (a1_4 : Int) (l1_5 : List (S29)) : Option Bool := sameF 200 ⟨⟨a0_0, a0_1⟩, a0_2, ⟨a0_3, a0_4⟩, l0_5⟩ ⟨⟨a1_0, a1_1⟩, a1_2, ⟨a1_3, a1_4⟩, l1_5⟩
theorem proof_Same.calls (a0_0 : ByteArray) (a0_1 : ByteArray) (a0_2 : ByteArray) (a0_3 : Int) (a0_4 : Int) (A0_5 : Option Addr) (c0_5 : Nat) (l0_5 : List (S29)) (a1_0 : ByteArray) (a1_1 : ByteArray) (a1_2 : ByteArray) (a1_3 : Int) (a1_4 : Int) (A1_5 : Option Addr) (c1_5 : Nat) (l1_5 : List (S29)) (r : Bool) (w : World) (hr0_5 : Kd.C k29 w A0_5 l0_5.length l0_5) (hc0_5 : l0_5.length ≤ c0_5) (hr1_5 : Kd.C k29 w A1_5 l1_5.length l1_5) (hc1_5 : l1_5.length ≤ c1_5) (h : proof_Same.f a0_0 a0_1 a0_2 a0_3 a0_4 l0_5 a1_0 a1_1 a1_2 a1_3 a1_4 l1_5 = some r) :
    Calls Tryz.prog 15 #[.agg #[.string a0_0, .string a0_1, .string a0_2, .int .i64 a0_3, .int .i64 a0_4, .slice A0_5 l0_5.length c0_5], .agg #[.string a1_0, .string a1_1, .string a1_2, .int .i64 a1_3, .int .i64 a1_4, .slice A1_5 l1_5.length c1_5]] w fun e w' => e = .returned (.bool r) ∧ Below w.heap.size w w' := by
  exact same_calls 200 w ⟨⟨a0_0, a0_1⟩, a0_2, ⟨a0_3, a0_4⟩, l0_5⟩ ⟨⟨a1_0, a1_1⟩, a1_2, ⟨a1_3, a1_4⟩, l1_5⟩ A0_5 c0_5 A1_5 c1_5 r hr0_5 hc0_5 hr1_5 hc1_5 h
mutual
def QaG.l0 : Nat → Int → List (S29) → Int → Int → Option (Bool)
 | 0, _, _, _, _ => none
 | k + 1, x1, x10, x11, x12 => if x12 < x11 then (if 0 ≤ x12 then (if x12 < (x10.length : Int) then ((QaG.f k ((QaF x10 x12).f0.f0) ((QaF x10 x12).f0.f1) ((QaF x10 x12).f1) ((QaF x10 x12).f2.f0) ((QaF x10 x12).f2.f1) ((QaF x10 x12).f3) (wrap64 (x1 - 1))).bind fun t104 => (if t104 = true then (QaG.l0 k x1 x10 x11 (wrap64 (x12 + 1))) else (some false))) else (none)) else (none)) else (some true)
def QaG.f : Nat → ByteArray → ByteArray → ByteArray → Int → Int → List (S29) → Int → Option (Bool)
 | 0, _, _, _, _, _, _, _ => none
 | k + 1, a0_0, a0_1, a0_2, a0_3, a0_4, l0_5, a1 => if a1 < 0 then (some false) else (QaG.l0 k a1 l0_5 (l0_5.length : Int) 0)
end
set_option maxHeartbeats 8000000 in
set_option maxRecDepth 100000 in
theorem QaG.calls (k : Nat) : ∀ (a0_0 : ByteArray) (a0_1 : ByteArray) (a0_2 : ByteArray) (a0_3 : Int) (a0_4 : Int) (A0_5 : Option Addr) (c0_5 : Nat) (l0_5 : List (S29)) (a1 : Int) (r : Bool) (w : World) (hr0_5 : Kd.C k29 w A0_5 l0_5.length l0_5) (hc0_5 : l0_5.length ≤ c0_5) (h : QaG.f k a0_0 a0_1 a0_2 a0_3 a0_4 l0_5 a1 = some r),
  Calls Tryz.prog 16 #[.agg #[.string a0_0, .string a0_1, .string a0_2, .int .i64 a0_3, .int .i64 a0_4, .slice A0_5 l0_5.length c0_5], .int .i64 a1] w fun e w' => e = .returned (.bool r) ∧ Below w.heap.size w w' := by
 induction k using Nat.strongRecOn with
 | _ k ih =>
 intro a0_0 a0_1 a0_2 a0_3 a0_4 A0_5 c0_5 l0_5 a1 r w hr0_5 hc0_5 h
 cases k with
 | zero => exact absurd h (by simp [QaG.f])
 | succ k =>
 simp only [QaG.f] at h; have hu29 := Tryz.underlying29; have HR0_5 := Qad.mk hr0_5; have HC0_5 := Qad.mk hc0_5; clear hr0_5 hc0_5; have HB := Qad.mk (Below.refl w.heap.size w); have H : (if a1 < 0 then (some false) else (QaG.l0 k a1 l0_5 (l0_5.length : Int) 0)) = some r := h; clear h
 by_cases c3 : a1 < 0
 ·rw [if_pos c3] at H; have c3b0 : decide (a1 < 0) = true := decide_eq_true c3; clear c3; obtain rfl := Option.some.inj H; go_enter Tryz.func16, Tryz.ntmps16
  go_wp2_with (first | ((with_reducible refine QaN (N := 2) rfl ?_); refine QaK ?hg (N := 2) ?hd (cs := #[.string a0_0, .string a0_1, .string a0_2, .int .i64 a0_3, .int .i64 a0_4, .slice A0_5 l0_5.length c0_5]) (t := 29) ?hr ?_; (case hd => rfl); (case hg => rfl); (case hr => first | (go_simp; done) | (go_simp; rfl)); intro gb101 hg w4 hbox hb; have n0_ := Qad.mk (Qak (by repeat (first | (with_reducible first | exact HB.out | apply Qab | apply Qaa | apply Qac) | exact HB.out)) hb); have n1_ := Qad.mk (hbox); have n2_ := Qad.mk ((by rw [hg]; exact (Qas (by repeat (first | (with_reducible first | exact HB.out | apply Qab | apply Qaa | apply Qac) | exact HB.out))) : w.heap.size ≤ gb101)); have n3_ := n2_; clear HB; have HB := n0_; have BK101 := n1_; have GW101 := n2_; have GE101 := n3_; clear n0_ n1_ n2_ n3_; clear hb hbox hg))
  go_ret; exact ⟨by first | rfl | (simp [Qar, Qaq] <;> rfl) | (simp [*, Qar, Qaq] <;> rfl), by repeat (first | (with_reducible first | exact HB.out | apply Qab | apply Qaa | apply Qac | refine Qai ?_ GE101.out) | exact HB.out)⟩
 ·rw [if_neg c3] at H; have c3b0 : decide (a1 < 0) = false := decide_eq_false c3; clear c3; have H' := Qad.mk H; clear H; go_enter Tryz.func16, Tryz.ntmps16
  go_wp2_with (first | ((with_reducible refine QaN (N := 2) rfl ?_); refine QaK ?hg (N := 2) ?hd (cs := #[.string a0_0, .string a0_1, .string a0_2, .int .i64 a0_3, .int .i64 a0_4, .slice A0_5 l0_5.length c0_5]) (t := 29) ?hr ?_; (case hd => rfl); (case hg => rfl); (case hr => first | (go_simp; done) | (go_simp; rfl)); intro gb101 hg w5 hbox hb; have n0_ := Qad.mk (Qak (by repeat (first | (with_reducible first | exact HB.out | apply Qab | apply Qaa | apply Qac) | exact HB.out)) hb); have n1_ := Qad.mk (hbox); have n2_ := Qad.mk ((by rw [hg]; exact (Qas (by repeat (first | (with_reducible first | exact HB.out | apply Qab | apply Qaa | apply Qac) | exact HB.out))) : w.heap.size ≤ gb101)); have n3_ := n2_; clear HB; have HB := n0_; have BK101 := n1_; have GW101 := n2_; have GE101 := n3_; clear n0_ n1_ n2_ n3_; clear hb hbox hg; obtain ⟨hcz6_0, hcz6_1, hcz6_2, hcz6_3, hcz6_4, hcz6_5⟩ := cz_sssiiv BK101.out; obtain ⟨hfz6_0, hfz6_1, hfz6_2, hfz6_3, hfz6_4, hfz6_5⟩ := fz_6 BK101.out))
  go_loopg [12] k (fun kq v12 w' => ∃ (x12_1 : Int), v12 = .int .i64 x12_1 ∧ Qad (QaG.l0 kq a1 l0_5 (l0_5.length : Int) x12_1 = some r) ∧ Qad (kq ≤ k) ∧ Qad (w'.heap[gb101]? = some (.cells #[.string a0_0, .string a0_1, .string a0_2, .int .i64 a0_3, .int .i64 a0_4, (.slice A0_5 l0_5.length c0_5)] 29 (0, 0))) ∧ Qad (Below w.heap.size w w'))
  case atStart => exact ⟨(0), (by first | rfl | (simp; done) | (simp [*]; done)), H', ⟨Nat.le_refl _⟩, ⟨by (with_reducible repeat (first | refine Qag ?_ _ | refine Qah ?_ | refine Qaf ?_ _)); exact BK101.out⟩, ⟨by repeat (first | (with_reducible first | exact HB.out | apply Qab | apply Qaa | apply Qac | refine Qai ?_ GE101.out) | exact HB.out)⟩⟩
  case round =>
   clear H'; (try clear c1); (try clear p2); (try clear c3); (try clear c3b0); (try clear hcz6_0); (try clear hcz6_1); (try clear hcz6_2); (try clear hcz6_3); (try clear hcz6_4); (try clear hcz6_5); (try clear hfz6_0); (try clear hfz6_1); (try clear hfz6_2); (try clear hfz6_3); (try clear hfz6_4); (try clear hfz6_5); obtain ⟨x12_1, rfl, HA, HK1, BK101, HB⟩ := hrel
   cases gk with
   | zero => exact absurd HA.out (by simp [QaG.l0])
   | succ k1 =>
    have H := HA.out; clear HA; simp only [QaG.l0] at H
    by_cases c7 : x12_1 < (l0_5.length : Int)
    ·rw [if_pos c7] at H; have c7b0 : decide (x12_1 < (l0_5.length : Int)) = true := decide_eq_true c7; clear c7
     by_cases c8 : 0 ≤ x12_1
     ·rw [if_pos c8] at H; have c8b0 : decide (0 ≤ x12_1) = true := decide_eq_true c8; clear c8
      by_cases c9 : x12_1 < (l0_5.length : Int)
      ·rw [if_pos c9] at H; have c9b0 : decide (x12_1 < (l0_5.length : Int)) = true := decide_eq_true c9; clear c9; replace H := Option.bind_eq_some_iff.mp H; obtain ⟨t104, A100, H⟩ := H; replace H : (if t104 = true then (QaG.l0 k1 a1 l0_5 (l0_5.length : Int) (wrap64 (x12_1 + 1))) else (some false)) = some r := H; have A10 := Qad.mk A100; clear A100
       by_cases c11 : t104 = true
       ·subst c11
        have H1 : (QaG.l0 k1 a1 l0_5 (l0_5.length : Int) (wrap64 (x12_1 + 1))) = some r := by rw [if_pos rfl] at H; exact H
        clear H; have H := H1; clear H1; have H' := Qad.mk H; clear H; have p102 : 0 ≤ (x12_1 : Int) := of_decide_eq_true (by first | (with_reducible assumption) | assumption); have q102 : x12_1 < (l0_5.length : Int) := of_decide_eq_true (by first | (with_reducible assumption) | assumption); obtain ⟨ad102, A102_5, c102_5, e102, hx102_0, hx102_1, hx102_2, hx102_3, hx102_4, hx102_5, hl102_5, hi102_5⟩ := at_T29 HR0_5.out x12_1 p102 q102; cases e102; replace hx102_0 := (HB.out.cell (World.block_lt_of_cell? w _ hx102_0)).trans hx102_0; replace hx102_1 := (HB.out.cell (World.block_lt_of_cell? w _ hx102_1)).trans hx102_1; replace hx102_2 := (HB.out.cell (World.block_lt_of_cell? w _ hx102_2)).trans hx102_2; replace hx102_3 := (HB.out.cell (World.block_lt_of_cell? w _ hx102_3)).trans hx102_3; replace hx102_4 := (HB.out.cell (World.block_lt_of_cell? w _ hx102_4)).trans hx102_4; replace hx102_5 := (HB.out.cell (World.block_lt_of_cell? w _ hx102_5)).trans hx102_5; have HR102_5 := Qad.mk hi102_5; have HC102_5 := Qad.mk hl102_5; clear hi102_5 hl102_5; replace p102 := eq_true p102; replace q102 := eq_true q102
        go_wp2_with (first | ((with_reducible refine QaN (N := 6) rfl ?_); refine QaK ?hg (N := 6) ?hd (cs := #[.string (⟨#[]⟩ : ByteArray), .string (⟨#[]⟩ : ByteArray), .string (⟨#[]⟩ : ByteArray), .int .i64 0, .int .i64 0, .slice none 0 0]) (t := 29) ?hr ?_; (case hd => rfl); (case hg => rfl); (case hr => first | (go_simp; done) | (go_simp; rfl)); intro gb103 hg w12 hbox hb; have n0_ := Qad.mk (Qal (g := gb101) (o := ob_sssiiv a0_0 a0_1 a0_2 a0_3 a0_4 (.slice (some ad102) l0_5.length c0_5) 29) (by (with_reducible repeat (first | refine Qag ?_ _ | refine Qah ?_ | refine Qaf ?_ _)); exact BK101.out) hb); have n1_ := Qad.mk (Qak (by repeat (first | (with_reducible first | exact HB.out | apply Qab | apply Qaa | apply Qac | refine Qai ?_ GE101.out) | exact HB.out)) hb); have n2_ := Qad.mk (hbox); have n3_ := Qad.mk ((by rw [hg]; exact (Qas (by repeat (first | (with_reducible first | exact HB.out | apply Qab | apply Qaa | apply Qac | refine Qai ?_ GE101.out) | exact HB.out))) : w.heap.size ≤ gb103)); have n4_ := n3_; have n5_ := Qad.mk ((by rw [hg]; exact Nat.ne_of_lt (blk_lt (g := gb101) (o := ob_sssiiv a0_0 a0_1 a0_2 a0_3 a0_4 (.slice (some ad102) l0_5.length c0_5) 29) (by (with_reducible repeat (first | refine Qag ?_ _ | refine Qah ?_ | refine Qaf ?_ _)); exact BK101.out)) : gb101 ≠ gb103)); have n6_ := Qad.mk ((by rw [hg]; exact Nat.ne_of_gt (blk_lt (g := gb101) (o := ob_sssiiv a0_0 a0_1 a0_2 a0_3 a0_4 (.slice (some ad102) l0_5.length c0_5) 29) (by (with_reducible repeat (first | refine Qag ?_ _ | refine Qah ?_ | refine Qaf ?_ _)); exact BK101.out)) : gb103 ≠ gb101)); clear BK101; clear HB; have BK101 := n0_; have HB := n1_; have BK103 := n2_; have GW103 := n3_; have GE103 := n4_; have NB101_103 := n5_; have NB103_101 := n6_; clear n0_ n1_ n2_ n3_ n4_ n5_ n6_; clear hb hbox hg; have hnb13 := NB103_101.out; have hnc13 := NB101_103.out; obtain ⟨hcz14_0, hcz14_1, hcz14_2, hcz14_3, hcz14_4, hcz14_5⟩ := cz_sssiiv BK103.out; obtain ⟨hfz14_0, hfz14_1, hfz14_2, hfz14_3, hfz14_4, hfz14_5⟩ := fz_6 BK103.out) | ((with_reducible refine QaO (f := 16) rfl ?_); refine goesL_ (some 19) rfl rfl Tryz.func16 (by kernel_rfl) rfl #[.agg #[.string ((QaF l0_5 x12_1).f0.f0), .string ((QaF l0_5 x12_1).f0.f1), .string ((QaF l0_5 x12_1).f1), .int .i64 ((QaF l0_5 x12_1).f2.f0), .int .i64 ((QaF l0_5 x12_1).f2.f1), .slice A102_5 ((QaF l0_5 x12_1).f3).length c102_5], .int .i64 (wrap64 (a1 - 1))] rfl (by (try simp only [List.map_toArray, List.map_cons, List.map_nil]); first | done | rfl | (simp only [List.length_drop, List.length_take]; rfl)) ?_; (with_reducible refine (ih k1 (by have := HK1.out; omega) ((QaF l0_5 x12_1).f0.f0) ((QaF l0_5 x12_1).f0.f1) ((QaF l0_5 x12_1).f1) ((QaF l0_5 x12_1).f2.f0) ((QaF l0_5 x12_1).f2.f1) _ _ ((QaF l0_5 x12_1).f3) (wrap64 (a1 - 1)) true _ ?side1 ?side2 A10.out).mono ?_); (case side1 => exact Kd.C_below HR102_5.out (by repeat (first | (with_reducible first | exact HB.out | apply Qab | apply Qaa | apply Qac | refine Qai ?_ GE101.out | refine Qai ?_ GE103.out) | exact HB.out))); (case side2 => exact HC102_5.out); rintro e w15 ⟨rfl, hb⟩; refine ⟨_, rfl, ?_⟩; have n0_ := Qad.mk (Qal (g := gb101) (o := ob_sssiiv a0_0 a0_1 a0_2 a0_3 a0_4 (.slice (some ad102) l0_5.length c0_5) 29) (by (with_reducible repeat (first | refine Qag ?_ _ | refine Qah ?_ | refine Qaf ?_ _)); refine blk_far ?_ NB101_103.out _; (with_reducible repeat (first | refine Qag ?_ _ | refine Qah ?_ | refine Qaf ?_ _)); refine blk_far ?_ NB101_103.out _; (with_reducible repeat (first | refine Qag ?_ _ | refine Qah ?_ | refine Qaf ?_ _)); refine blk_far ?_ NB101_103.out _; (with_reducible repeat (first | refine Qag ?_ _ | refine Qah ?_ | refine Qaf ?_ _)); refine blk_far ?_ NB101_103.out _; (with_reducible repeat (first | refine Qag ?_ _ | refine Qah ?_ | refine Qaf ?_ _)); refine blk_far ?_ NB101_103.out _; (with_reducible repeat (first | refine Qag ?_ _ | refine Qah ?_ | refine Qaf ?_ _)); refine blk_far ?_ NB101_103.out _; (with_reducible repeat (first | refine Qag ?_ _ | refine Qah ?_ | refine Qaf ?_ _)); exact BK101.out) hb); have n1_ := Qad.mk (Qal (g := gb103) (o := ob_sssiiv ((QaF l0_5 x12_1).f0.f0) ((QaF l0_5 x12_1).f0.f1) ((QaF l0_5 x12_1).f1) ((QaF l0_5 x12_1).f2.f0) ((QaF l0_5 x12_1).f2.f1) (.slice A102_5 ((QaF l0_5 x12_1).f3).length c102_5) 29) (by (with_reducible repeat (first | refine Qag ?_ _ | refine Qah ?_ | refine Qaf ?_ _)); refine blk_put (cs := #[.string ((QaF l0_5 x12_1).f0.f0), .string ((QaF l0_5 x12_1).f0.f1), .string ((QaF l0_5 x12_1).f1), .int .i64 ((QaF l0_5 x12_1).f2.f0), .int .i64 ((QaF l0_5 x12_1).f2.f1), .slice none 0 0]) ?_ 5 _ rfl; (with_reducible repeat (first | refine Qag ?_ _ | refine Qah ?_ | refine Qaf ?_ _)); refine blk_put (cs := #[.string ((QaF l0_5 x12_1).f0.f0), .string ((QaF l0_5 x12_1).f0.f1), .string ((QaF l0_5 x12_1).f1), .int .i64 ((QaF l0_5 x12_1).f2.f0), .int .i64 0, .slice none 0 0]) ?_ 4 _ rfl; (with_reducible repeat (first | refine Qag ?_ _ | refine Qah ?_ | refine Qaf ?_ _)); refine blk_put (cs := #[.string ((QaF l0_5 x12_1).f0.f0), .string ((QaF l0_5 x12_1).f0.f1), .string ((QaF l0_5 x12_1).f1), .int .i64 0, .int .i64 0, .slice none 0 0]) ?_ 3 _ rfl; (with_reducible repeat (first | refine Qag ?_ _ | refine Qah ?_ | refine Qaf ?_ _)); refine blk_put (cs := #[.string ((QaF l0_5 x12_1).f0.f0), .string ((QaF l0_5 x12_1).f0.f1), .string (⟨#[]⟩ : ByteArray), .int .i64 0, .int .i64 0, .slice none 0 0]) ?_ 2 _ rfl; (with_reducible repeat (first | refine Qag ?_ _ | refine Qah ?_ | refine Qaf ?_ _)); refine blk_put (cs := #[.string ((QaF l0_5 x12_1).f0.f0), .string (⟨#[]⟩ : ByteArray), .string (⟨#[]⟩ : ByteArray), .int .i64 0, .int .i64 0, .slice none 0 0]) ?_ 1 _ rfl; (with_reducible repeat (first | refine Qag ?_ _ | refine Qah ?_ | refine Qaf ?_ _)); refine blk_put (cs := #[.string (⟨#[]⟩ : ByteArray), .string (⟨#[]⟩ : ByteArray), .string (⟨#[]⟩ : ByteArray), .int .i64 0, .int .i64 0, .slice none 0 0]) ?_ 0 _ rfl; (with_reducible repeat (first | refine Qag ?_ _ | refine Qah ?_ | refine Qaf ?_ _)); exact BK103.out) hb); have n2_ := Qad.mk (Qak (by repeat (first | (with_reducible first | exact HB.out | apply Qab | apply Qaa | apply Qac | refine Qai ?_ GE101.out | refine Qai ?_ GE103.out) | exact HB.out)) hb); clear BK101; clear BK103; clear HB; have BK101 := n0_; have BK103 := n1_; have HB := n2_; clear n0_ n1_ n2_; (try clear hb); (try clear hb2); (try clear hk); (try clear hi)))
        go_roundg k1
        case measure => have := HK1.out; omega
        case rel => exact ⟨(wrap64 (x12_1 + 1)), (by first | rfl | (simp; done) | (simp [*]; done)), H', ⟨by have := HK1.out; omega⟩, ⟨by (with_reducible repeat (first | refine Qag ?_ _ | refine Qah ?_ | refine Qaf ?_ _)); exact BK101.out⟩, ⟨by repeat (first | (with_reducible first | exact HB.out | apply Qab | apply Qaa | apply Qac | refine Qai ?_ GE101.out | refine Qai ?_ GE103.out) | exact HB.out)⟩⟩
       ·replace c11 := Bool.eq_false_iff.mpr c11; subst c11
        have H1 : (some false) = some r := by rw [if_neg (show ¬ (false = true) by decide)] at H; exact H
        clear H; have H := H1; clear H1; obtain rfl := Option.some.inj H; have p102 : 0 ≤ (x12_1 : Int) := of_decide_eq_true (by first | (with_reducible assumption) | assumption); have q102 : x12_1 < (l0_5.length : Int) := of_decide_eq_true (by first | (with_reducible assumption) | assumption); obtain ⟨ad102, A102_5, c102_5, e102, hx102_0, hx102_1, hx102_2, hx102_3, hx102_4, hx102_5, hl102_5, hi102_5⟩ := at_T29 HR0_5.out x12_1 p102 q102; cases e102; replace hx102_0 := (HB.out.cell (World.block_lt_of_cell? w _ hx102_0)).trans hx102_0; replace hx102_1 := (HB.out.cell (World.block_lt_of_cell? w _ hx102_1)).trans hx102_1; replace hx102_2 := (HB.out.cell (World.block_lt_of_cell? w _ hx102_2)).trans hx102_2; replace hx102_3 := (HB.out.cell (World.block_lt_of_cell? w _ hx102_3)).trans hx102_3; replace hx102_4 := (HB.out.cell (World.block_lt_of_cell? w _ hx102_4)).trans hx102_4; replace hx102_5 := (HB.out.cell (World.block_lt_of_cell? w _ hx102_5)).trans hx102_5; have HR102_5 := Qad.mk hi102_5; have HC102_5 := Qad.mk hl102_5; clear hi102_5 hl102_5; replace p102 := eq_true p102; replace q102 := eq_true q102
        go_wp2_with (first | ((with_reducible refine QaN (N := 6) rfl ?_); refine QaK ?hg (N := 6) ?hd (cs := #[.string (⟨#[]⟩ : ByteArray), .string (⟨#[]⟩ : ByteArray), .string (⟨#[]⟩ : ByteArray), .int .i64 0, .int .i64 0, .slice none 0 0]) (t := 29) ?hr ?_; (case hd => rfl); (case hg => rfl); (case hr => first | (go_simp; done) | (go_simp; rfl)); intro gb103 hg w16 hbox hb; have n0_ := Qad.mk (Qal (g := gb101) (o := ob_sssiiv a0_0 a0_1 a0_2 a0_3 a0_4 (.slice (some ad102) l0_5.length c0_5) 29) (by (with_reducible repeat (first | refine Qag ?_ _ | refine Qah ?_ | refine Qaf ?_ _)); exact BK101.out) hb); have n1_ := Qad.mk (Qak (by repeat (first | (with_reducible first | exact HB.out | apply Qab | apply Qaa | apply Qac | refine Qai ?_ GE101.out) | exact HB.out)) hb); have n2_ := Qad.mk (hbox); have n3_ := Qad.mk ((by rw [hg]; exact (Qas (by repeat (first | (with_reducible first | exact HB.out | apply Qab | apply Qaa | apply Qac | refine Qai ?_ GE101.out) | exact HB.out))) : w.heap.size ≤ gb103)); have n4_ := n3_; have n5_ := Qad.mk ((by rw [hg]; exact Nat.ne_of_lt (blk_lt (g := gb101) (o := ob_sssiiv a0_0 a0_1 a0_2 a0_3 a0_4 (.slice (some ad102) l0_5.length c0_5) 29) (by (with_reducible repeat (first | refine Qag ?_ _ | refine Qah ?_ | refine Qaf ?_ _)); exact BK101.out)) : gb101 ≠ gb103)); have n6_ := Qad.mk ((by rw [hg]; exact Nat.ne_of_gt (blk_lt (g := gb101) (o := ob_sssiiv a0_0 a0_1 a0_2 a0_3 a0_4 (.slice (some ad102) l0_5.length c0_5) 29) (by (with_reducible repeat (first | refine Qag ?_ _ | refine Qah ?_ | refine Qaf ?_ _)); exact BK101.out)) : gb103 ≠ gb101)); clear BK101; clear HB; have BK101 := n0_; have HB := n1_; have BK103 := n2_; have GW103 := n3_; have GE103 := n4_; have NB101_103 := n5_; have NB103_101 := n6_; clear n0_ n1_ n2_ n3_ n4_ n5_ n6_; clear hb hbox hg; have hnb17 := NB103_101.out; have hnc17 := NB101_103.out; obtain ⟨hcz18_0, hcz18_1, hcz18_2, hcz18_3, hcz18_4, hcz18_5⟩ := cz_sssiiv BK103.out; obtain ⟨hfz18_0, hfz18_1, hfz18_2, hfz18_3, hfz18_4, hfz18_5⟩ := fz_6 BK103.out) | ((with_reducible refine QaO (f := 16) rfl ?_); refine goesL_ (some 19) rfl rfl Tryz.func16 (by kernel_rfl) rfl #[.agg #[.string ((QaF l0_5 x12_1).f0.f0), .string ((QaF l0_5 x12_1).f0.f1), .string ((QaF l0_5 x12_1).f1), .int .i64 ((QaF l0_5 x12_1).f2.f0), .int .i64 ((QaF l0_5 x12_1).f2.f1), .slice A102_5 ((QaF l0_5 x12_1).f3).length c102_5], .int .i64 (wrap64 (a1 - 1))] rfl (by (try simp only [List.map_toArray, List.map_cons, List.map_nil]); first | done | rfl | (simp only [List.length_drop, List.length_take]; rfl)) ?_; (with_reducible refine (ih k1 (by have := HK1.out; omega) ((QaF l0_5 x12_1).f0.f0) ((QaF l0_5 x12_1).f0.f1) ((QaF l0_5 x12_1).f1) ((QaF l0_5 x12_1).f2.f0) ((QaF l0_5 x12_1).f2.f1) _ _ ((QaF l0_5 x12_1).f3) (wrap64 (a1 - 1)) false _ ?side1 ?side2 A10.out).mono ?_); (case side1 => exact Kd.C_below HR102_5.out (by repeat (first | (with_reducible first | exact HB.out | apply Qab | apply Qaa | apply Qac | refine Qai ?_ GE101.out | refine Qai ?_ GE103.out) | exact HB.out))); (case side2 => exact HC102_5.out); rintro e w19 ⟨rfl, hb⟩; refine ⟨_, rfl, ?_⟩; have n0_ := Qad.mk (Qal (g := gb101) (o := ob_sssiiv a0_0 a0_1 a0_2 a0_3 a0_4 (.slice (some ad102) l0_5.length c0_5) 29) (by (with_reducible repeat (first | refine Qag ?_ _ | refine Qah ?_ | refine Qaf ?_ _)); refine blk_far ?_ NB101_103.out _; (with_reducible repeat (first | refine Qag ?_ _ | refine Qah ?_ | refine Qaf ?_ _)); refine blk_far ?_ NB101_103.out _; (with_reducible repeat (first | refine Qag ?_ _ | refine Qah ?_ | refine Qaf ?_ _)); refine blk_far ?_ NB101_103.out _; (with_reducible repeat (first | refine Qag ?_ _ | refine Qah ?_ | refine Qaf ?_ _)); refine blk_far ?_ NB101_103.out _; (with_reducible repeat (first | refine Qag ?_ _ | refine Qah ?_ | refine Qaf ?_ _)); refine blk_far ?_ NB101_103.out _; (with_reducible repeat (first | refine Qag ?_ _ | refine Qah ?_ | refine Qaf ?_ _)); refine blk_far ?_ NB101_103.out _; (with_reducible repeat (first | refine Qag ?_ _ | refine Qah ?_ | refine Qaf ?_ _)); exact BK101.out) hb); have n1_ := Qad.mk (Qal (g := gb103) (o := ob_sssiiv ((QaF l0_5 x12_1).f0.f0) ((QaF l0_5 x12_1).f0.f1) ((QaF l0_5 x12_1).f1) ((QaF l0_5 x12_1).f2.f0) ((QaF l0_5 x12_1).f2.f1) (.slice A102_5 ((QaF l0_5 x12_1).f3).length c102_5) 29) (by (with_reducible repeat (first | refine Qag ?_ _ | refine Qah ?_ | refine Qaf ?_ _)); refine blk_put (cs := #[.string ((QaF l0_5 x12_1).f0.f0), .string ((QaF l0_5 x12_1).f0.f1), .string ((QaF l0_5 x12_1).f1), .int .i64 ((QaF l0_5 x12_1).f2.f0), .int .i64 ((QaF l0_5 x12_1).f2.f1), .slice none 0 0]) ?_ 5 _ rfl; (with_reducible repeat (first | refine Qag ?_ _ | refine Qah ?_ | refine Qaf ?_ _)); refine blk_put (cs := #[.string ((QaF l0_5 x12_1).f0.f0), .string ((QaF l0_5 x12_1).f0.f1), .string ((QaF l0_5 x12_1).f1), .int .i64 ((QaF l0_5 x12_1).f2.f0), .int .i64 0, .slice none 0 0]) ?_ 4 _ rfl; (with_reducible repeat (first | refine Qag ?_ _ | refine Qah ?_ | refine Qaf ?_ _)); refine blk_put (cs := #[.string ((QaF l0_5 x12_1).f0.f0), .string ((QaF l0_5 x12_1).f0.f1), .string ((QaF l0_5 x12_1).f1), .int .i64 0, .int .i64 0, .slice none 0 0]) ?_ 3 _ rfl; (with_reducible repeat (first | refine Qag ?_ _ | refine Qah ?_ | refine Qaf ?_ _)); refine blk_put (cs := #[.string ((QaF l0_5 x12_1).f0.f0), .string ((QaF l0_5 x12_1).f0.f1), .string (⟨#[]⟩ : ByteArray), .int .i64 0, .int .i64 0, .slice none 0 0]) ?_ 2 _ rfl; (with_reducible repeat (first | refine Qag ?_ _ | refine Qah ?_ | refine Qaf ?_ _)); refine blk_put (cs := #[.string ((QaF l0_5 x12_1).f0.f0), .string (⟨#[]⟩ : ByteArray), .string (⟨#[]⟩ : ByteArray), .int .i64 0, .int .i64 0, .slice none 0 0]) ?_ 1 _ rfl; (with_reducible repeat (first | refine Qag ?_ _ | refine Qah ?_ | refine Qaf ?_ _)); refine blk_put (cs := #[.string (⟨#[]⟩ : ByteArray), .string (⟨#[]⟩ : ByteArray), .string (⟨#[]⟩ : ByteArray), .int .i64 0, .int .i64 0, .slice none 0 0]) ?_ 0 _ rfl; (with_reducible repeat (first | refine Qag ?_ _ | refine Qah ?_ | refine Qaf ?_ _)); exact BK103.out) hb); have n2_ := Qad.mk (Qak (by repeat (first | (with_reducible first | exact HB.out | apply Qab | apply Qaa | apply Qac | refine Qai ?_ GE101.out | refine Qai ?_ GE103.out) | exact HB.out)) hb); clear BK101; clear BK103; clear HB; have BK101 := n0_; have BK103 := n1_; have HB := n2_; clear n0_ n1_ n2_; (try clear hb); (try clear hb2); (try clear hk); (try clear hi)))
        go_ret; exact ⟨by first | rfl | (simp [Qar, Qaq] <;> rfl) | (simp [*, Qar, Qaq] <;> rfl), by repeat (first | (with_reducible first | exact HB.out | apply Qab | apply Qaa | apply Qac | refine Qai ?_ GE101.out | refine Qai ?_ GE103.out) | exact HB.out)⟩
      ·rw [if_neg c9] at H; exact absurd H (by simp)
     ·rw [if_neg c8] at H; exact absurd H (by simp)
    ·rw [if_neg c7] at H; have c7b0 : decide (x12_1 < (l0_5.length : Int)) = false := decide_eq_false c7; clear c7; obtain rfl := Option.some.inj H; go_wp2; go_ret; exact ⟨by first | rfl | (simp [Qar, Qaq] <;> rfl) | (simp [*, Qar, Qaq] <;> rfl), by repeat (first | (with_reducible first | exact HB.out | apply Qab | apply Qaa | apply Qac | refine Qai ?_ GE101.out) | exact HB.out)⟩
end Go.Proofs.YtmaipohgahdclaaGreatDoor.Pr
end
section
namespace Go.Proofs.YtmaipohgahdclaaGreatDoor.Pr
open Go.RowKit Go.Proofs.YtmaipohgahdclaaGreatDoorW.PrintWords Go.Proofs.YtmaipohgahdclaaGreatDoorW.PrintLast Go.Proofs.YtmaipohgahdclaaGreatDoorW.PrintMore
attribute [local go_sem] QaU QaS max_two min_two QaM QaL QaT QaR
set_option linter.unusedVariables false
set_option linter.unusedSimpArgs false
attribute [local go_sem high] eqA51
def solve_Pair_32.l0 : Nat → List (S51) → Int → Int → ByteArray → ByteArray → ByteArray → Option (Int)
 | 0, _, _, _, _, _, _ => none
 | k + 1, x0, x7, x8, x102000, x102001, x102002 => if x8 < x7 then (if 0 ≤ x8 then (if x8 < (x0.length : Int) then (if ((x102000.toList == (((rd_T51 x0 x8).f0.f0).toList) && (x102001.toList == (((rd_T51 x0 x8).f0.f1).toList))) && (x102002.toList == (((rd_T51 x0 x8).f1).toList))) = true then (some x8) else (solve_Pair_32.l0 k x0 x7 (wrap64 (x8 + 1)) x102000 x102001 x102002)) else (none)) else (none)) else (some (-1))
def solve_Pair_32.f (k : Nat) (l0 : List (S51)) (a1_0 : ByteArray) (a1_1 : ByteArray) (a1_2 : ByteArray) : Option (Int) := solve_Pair_32.l0 k l0 (l0.length : Int) 0 a1_0 a1_1 a1_2
set_option maxHeartbeats 8000000 in
set_option maxRecDepth 100000 in
theorem solve_Pair_32.calls (k : Nat) (A0 : Option Addr) (c0 : Nat) (l0 : List (S51)) (a1_0 : ByteArray) (a1_1 : ByteArray) (a1_2 : ByteArray) (r : Int) (w : World) (hr0 : Kd.C k51 w A0 l0.length l0) (hc0 : l0.length ≤ c0) (h : solve_Pair_32.f k l0 a1_0 a1_1 a1_2 = some r) :
  Calls Tryz.prog 32 #[.slice A0 l0.length c0, .agg #[.string a1_0, .string a1_1, .string a1_2]] w fun e w' => e = .returned (.int .i64 r) ∧ Below w.heap.size w w' := by
 have hu51 := Tryz.underlying51; have HR0 := Qad.mk hr0; have HC0 := Qad.mk hc0; clear hr0 hc0; have HB := Qad.mk (Below.refl w.heap.size w); have H : (solve_Pair_32.l0 k l0 (l0.length : Int) 0 a1_0 a1_1 a1_2) = some r := h; clear h; have H' := Qad.mk H; clear H; go_enter Tryz.func32, Tryz.ntmps32
 go_wp2_with (first | ((with_reducible refine QaN (N := 3) rfl ?_); refine QaK ?hg (N := 3) ?hd (cs := #[.string a1_0, .string a1_1, .string a1_2]) (t := 51) ?hr ?_; (case hd => rfl); (case hg => rfl); (case hr => first | (go_simp; done) | (go_simp; rfl)); intro gb101 hg w3 hbox hb; have n0_ := Qad.mk (Qak (by repeat (first | (with_reducible first | exact HB.out | apply Qab | apply Qaa | apply Qac) | exact HB.out)) hb); have n1_ := Qad.mk (hbox); have n2_ := Qad.mk ((by rw [hg]; exact (Qas (by repeat (first | (with_reducible first | exact HB.out | apply Qab | apply Qaa | apply Qac) | exact HB.out))) : w.heap.size ≤ gb101)); have n3_ := n2_; clear HB; have HB := n0_; have BK101 := n1_; have GW101 := n2_; have GE101 := n3_; clear n0_ n1_ n2_ n3_; clear hb hbox hg))
 repeat (go_quiet (first | ((with_reducible refine QaN (N := 3) rfl ?_); refine QaK ?hg (N := 3) ?hd (cs := #[.string a1_0, .string a1_1, .string a1_2]) (t := 51) ?hr ?_; (case hd => rfl); (case hg => rfl); (case hr => first | (go_simp; done) | (go_simp; rfl)); intro gb101 hg w3 hbox hb; have n0_ := Qad.mk (Qak (by repeat (first | (with_reducible first | exact HB.out | apply Qab | apply Qaa | apply Qac) | exact HB.out)) hb); have n1_ := Qad.mk (hbox); have n2_ := Qad.mk ((by rw [hg]; exact (Qas (by repeat (first | (with_reducible first | exact HB.out | apply Qab | apply Qaa | apply Qac) | exact HB.out))) : w.heap.size ≤ gb101)); have n3_ := n2_; clear HB; have HB := n0_; have BK101 := n1_; have GW101 := n2_; have GE101 := n3_; clear n0_ n1_ n2_ n3_; clear hb hbox hg)); try go_wp2_with (first | ((with_reducible refine QaN (N := 3) rfl ?_); refine QaK ?hg (N := 3) ?hd (cs := #[.string a1_0, .string a1_1, .string a1_2]) (t := 51) ?hr ?_; (case hd => rfl); (case hg => rfl); (case hr => first | (go_simp; done) | (go_simp; rfl)); intro gb101 hg w3 hbox hb; have n0_ := Qad.mk (Qak (by repeat (first | (with_reducible first | exact HB.out | apply Qab | apply Qaa | apply Qac) | exact HB.out)) hb); have n1_ := Qad.mk (hbox); have n2_ := Qad.mk ((by rw [hg]; exact (Qas (by repeat (first | (with_reducible first | exact HB.out | apply Qab | apply Qaa | apply Qac) | exact HB.out))) : w.heap.size ≤ gb101)); have n3_ := n2_; clear HB; have HB := n0_; have BK101 := n1_; have GW101 := n2_; have GE101 := n3_; clear n0_ n1_ n2_ n3_; clear hb hbox hg)))
 go_loopg [8] k (fun kq v8 w' => ∃ (x8_1 : Int), v8 = .int .i64 x8_1 ∧ Qad (solve_Pair_32.l0 kq l0 (l0.length : Int) x8_1 a1_0 a1_1 a1_2 = some r) ∧ Qad (kq ≤ k) ∧ Qad (w'.heap[gb101]? = some (.cells #[.string a1_0, .string a1_1, .string a1_2] 51 (0, 0))) ∧ Qad (Below w.heap.size w w'))
 case atStart => exact ⟨(0), (by first | rfl | (simp; done) | (simp [*]; done)), H', ⟨Nat.le_refl _⟩, ⟨by (with_reducible repeat (first | refine Qag ?_ _ | refine Qah ?_ | refine Qaf ?_ _)); exact BK101.out⟩, ⟨by repeat (first | (with_reducible first | exact HB.out | apply Qab | apply Qaa | apply Qac | refine Qai ?_ GE101.out) | exact HB.out)⟩⟩
 case round =>
  clear H'; (try clear p2); (try clear c3); obtain ⟨x8_1, rfl, HA, HK1, BK101, HB⟩ := hrel
  cases gk with
  | zero => exact absurd HA.out (by simp [solve_Pair_32.l0])
  | succ k1 =>
   have H := HA.out; clear HA; simp only [solve_Pair_32.l0] at H
   by_cases c4 : x8_1 < (l0.length : Int)
   ·rw [if_pos c4] at H; have c4b0 : decide (x8_1 < (l0.length : Int)) = true := decide_eq_true c4; clear c4
    by_cases c5 : 0 ≤ x8_1
    ·rw [if_pos c5] at H; have c5b0 : decide (0 ≤ x8_1) = true := decide_eq_true c5; clear c5
     by_cases c6 : x8_1 < (l0.length : Int)
     ·rw [if_pos c6] at H; have c6b0 : decide (x8_1 < (l0.length : Int)) = true := decide_eq_true c6; clear c6
      by_cases c7 : ((a1_0.toList == (((rd_T51 l0 x8_1).f0.f0).toList) && (a1_1.toList == (((rd_T51 l0 x8_1).f0.f1).toList))) && (a1_2.toList == (((rd_T51 l0 x8_1).f1).toList))) = true
      ·rw [if_pos c7] at H; have c7b0 : ((a1_0.toList == (((rd_T51 l0 x8_1).f0.f0).toList) && (a1_1.toList == (((rd_T51 l0 x8_1).f0.f1).toList))) && (a1_2.toList == (((rd_T51 l0 x8_1).f1).toList))) = true := c7; clear c7; obtain rfl := Option.some.inj H; have hcz8_0 : wr.cell? ⟨gb101, 0, none⟩ = some (.string a1_0) := (Qaj BK101.out 0).trans rfl; have hcz8_1 : wr.cell? ⟨gb101, 1, none⟩ = some (.string a1_1) := (Qaj BK101.out 1).trans rfl; have hcz8_2 : wr.cell? ⟨gb101, 2, none⟩ = some (.string a1_2) := (Qaj BK101.out 2).trans rfl; obtain ⟨hfz8_0, hfz8_1, hfz8_2⟩ := fz_3 BK101.out; have p102 : 0 ≤ (x8_1 : Int) := of_decide_eq_true (by first | (with_reducible assumption) | assumption); have q102 : x8_1 < (l0.length : Int) := of_decide_eq_true (by first | (with_reducible assumption) | assumption); obtain ⟨ad102, e102, hx102_0, hx102_1, hx102_2⟩ := at_T51 HR0.out x8_1 p102 q102; cases e102; replace hx102_0 := (HB.out.cell (World.block_lt_of_cell? w _ hx102_0)).trans hx102_0; replace hx102_1 := (HB.out.cell (World.block_lt_of_cell? w _ hx102_1)).trans hx102_1; replace hx102_2 := (HB.out.cell (World.block_lt_of_cell? w _ hx102_2)).trans hx102_2; replace p102 := eq_true p102; replace q102 := eq_true q102; go_wp2
       repeat (go_quiet (fail); try go_wp2)
       go_ret; exact ⟨by first | rfl | (simp [Qar, Qaq] <;> rfl) | (simp [*, Qar, Qaq] <;> rfl), by repeat (first | (with_reducible first | exact HB.out | apply Qab | apply Qaa | apply Qac | refine Qai ?_ GE101.out) | exact HB.out)⟩
      ·rw [if_neg c7] at H
       have c7b0 : ((a1_0.toList == (((rd_T51 l0 x8_1).f0.f0).toList) && (a1_1.toList == (((rd_T51 l0 x8_1).f0.f1).toList))) && (a1_2.toList == (((rd_T51 l0 x8_1).f1).toList))) = false := by simpa using c7
       clear c7; have H' := Qad.mk H; clear H; have hcz9_0 : wr.cell? ⟨gb101, 0, none⟩ = some (.string a1_0) := (Qaj BK101.out 0).trans rfl; have hcz9_1 : wr.cell? ⟨gb101, 1, none⟩ = some (.string a1_1) := (Qaj BK101.out 1).trans rfl; have hcz9_2 : wr.cell? ⟨gb101, 2, none⟩ = some (.string a1_2) := (Qaj BK101.out 2).trans rfl; obtain ⟨hfz9_0, hfz9_1, hfz9_2⟩ := fz_3 BK101.out; have p102 : 0 ≤ (x8_1 : Int) := of_decide_eq_true (by first | (with_reducible assumption) | assumption); have q102 : x8_1 < (l0.length : Int) := of_decide_eq_true (by first | (with_reducible assumption) | assumption); obtain ⟨ad102, e102, hx102_0, hx102_1, hx102_2⟩ := at_T51 HR0.out x8_1 p102 q102; cases e102; replace hx102_0 := (HB.out.cell (World.block_lt_of_cell? w _ hx102_0)).trans hx102_0; replace hx102_1 := (HB.out.cell (World.block_lt_of_cell? w _ hx102_1)).trans hx102_1; replace hx102_2 := (HB.out.cell (World.block_lt_of_cell? w _ hx102_2)).trans hx102_2; replace p102 := eq_true p102; replace q102 := eq_true q102; go_wp2
       repeat (go_quiet (fail); try go_wp2)
       go_roundg k1
       case measure => have := HK1.out; omega
       case rel => exact ⟨(wrap64 (x8_1 + 1)), (by first | rfl | (simp; done) | (simp [*]; done)), H', ⟨by have := HK1.out; omega⟩, ⟨by (with_reducible repeat (first | refine Qag ?_ _ | refine Qah ?_ | refine Qaf ?_ _)); exact BK101.out⟩, ⟨by repeat (first | (with_reducible first | exact HB.out | apply Qab | apply Qaa | apply Qac | refine Qai ?_ GE101.out) | exact HB.out)⟩⟩
     ·rw [if_neg c6] at H; exact absurd H (by simp)
    ·rw [if_neg c5] at H; exact absurd H (by simp)
   ·rw [if_neg c4] at H; have c4b0 : decide (x8_1 < (l0.length : Int)) = false := decide_eq_false c4; clear c4; obtain rfl := Option.some.inj H; go_wp2
    repeat (go_quiet (fail); try go_wp2)
    go_ret; exact ⟨by first | rfl | (simp [Qar, Qaq] <;> rfl) | (simp [*, Qar, Qaq] <;> rfl), by repeat (first | (with_reducible first | exact HB.out | apply Qab | apply Qaa | apply Qac | refine Qai ?_ GE101.out) | exact HB.out)⟩
end Go.Proofs.YtmaipohgahdclaaGreatDoor.Pr
end
section
namespace Go.Proofs.YtmaipohgahdclaaGreatDoor.Pr
open Go.RowKit Go.Proofs.YtmaipohgahdclaaGreatDoorW.PrintWords Go.Proofs.YtmaipohgahdclaaGreatDoorW.PrintLast Go.Proofs.YtmaipohgahdclaaGreatDoorW.PrintMore
attribute [local go_sem] QaU QaS max_two min_two QaM QaL QaT QaR
set_option linter.unusedVariables false
set_option linter.unusedSimpArgs false
def solve_Pair_17.f (k : Nat) (l0 : List (S51)) (a1_0 : ByteArray) (a1_1 : ByteArray) (a1_2 : ByteArray) : Option (Bool) := (solve_Pair_32.f k l0 a1_0 a1_1 a1_2).bind fun t102 => (some (decide (t102 ≥ 0)))
set_option maxHeartbeats 8000000 in
set_option maxRecDepth 100000 in
theorem solve_Pair_17.calls (k : Nat) (A0 : Option Addr) (c0 : Nat) (l0 : List (S51)) (a1_0 : ByteArray) (a1_1 : ByteArray) (a1_2 : ByteArray) (r : Bool) (w : World) (hr0 : Kd.C k51 w A0 l0.length l0) (hc0 : l0.length ≤ c0) (h : solve_Pair_17.f k l0 a1_0 a1_1 a1_2 = some r) :
  Calls Tryz.prog 17 #[.slice A0 l0.length c0, .agg #[.string a1_0, .string a1_1, .string a1_2]] w fun e w' => e = .returned (.bool r) ∧ Below w.heap.size w w' := by
 have hu51 := Tryz.underlying51; have HR0 := Qad.mk hr0; have HC0 := Qad.mk hc0; clear hr0 hc0; have HB := Qad.mk (Below.refl w.heap.size w); have H : ((solve_Pair_32.f k l0 a1_0 a1_1 a1_2).bind fun t102 => (some (decide (t102 ≥ 0)))) = some r := h; clear h; replace H := Option.bind_eq_some_iff.mp H; obtain ⟨t102, A30, H⟩ := H; replace H : (some (decide (t102 ≥ 0))) = some r := H; have A3 := Qad.mk A30; clear A30; obtain rfl := Option.some.inj H; go_enter Tryz.func17, Tryz.ntmps17
 go_wp2_with (first | ((with_reducible refine QaN (N := 3) rfl ?_); refine QaK ?hg (N := 3) ?hd (cs := #[.string a1_0, .string a1_1, .string a1_2]) (t := 51) ?hr ?_; (case hd => rfl); (case hg => rfl); (case hr => first | (go_simp; done) | (go_simp; rfl)); intro gb101 hg w4 hbox hb; have n0_ := Qad.mk (Qak (by repeat (first | (with_reducible first | exact HB.out | apply Qab | apply Qaa | apply Qac) | exact HB.out)) hb); have n1_ := Qad.mk (hbox); have n2_ := Qad.mk ((by rw [hg]; exact (Qas (by repeat (first | (with_reducible first | exact HB.out | apply Qab | apply Qaa | apply Qac) | exact HB.out))) : w.heap.size ≤ gb101)); have n3_ := n2_; clear HB; have HB := n0_; have BK101 := n1_; have GW101 := n2_; have GE101 := n3_; clear n0_ n1_ n2_ n3_; clear hb hbox hg; obtain ⟨hcz5_0, hcz5_1, hcz5_2⟩ := cz_sss BK101.out; obtain ⟨hfz5_0, hfz5_1, hfz5_2⟩ := fz_3 BK101.out) | ((with_reducible refine QaO (f := 32) rfl ?_); refine goesL_ (some 7) rfl rfl Tryz.func32 (by kernel_rfl) rfl #[.slice A0 l0.length c0, .agg #[.string a1_0, .string a1_1, .string a1_2]] rfl (by (try simp only [List.map_toArray, List.map_cons, List.map_nil]); first | done | rfl | (simp only [List.length_drop, List.length_take]; rfl)) ?_; (with_reducible refine (solve_Pair_32.calls k _ _ l0 a1_0 a1_1 a1_2 t102 _ ?side1 ?side2 A3.out).mono ?_); (case side1 => repeat (first | exact (Kd.C_below HR0.out HB.out) | (with_reducible refine Kd.C_alloc ?_ _) | (with_reducible refine Kd.C_drewN ?_ _) | (with_reducible refine Kd.C_drew ?_))); (case side2 => exact HC0.out); rintro e w6 ⟨rfl, hb⟩; refine ⟨_, rfl, ?_⟩; have n0_ := Qad.mk (Qal (g := gb101) (o := ob_sss a1_0 a1_1 a1_2 51) (by (with_reducible repeat (first | refine Qag ?_ _ | refine Qah ?_ | refine Qaf ?_ _)); exact BK101.out) hb); have n1_ := Qad.mk (Qak (by repeat (first | (with_reducible first | exact HB.out | apply Qab | apply Qaa | apply Qac | refine Qai ?_ GE101.out) | exact HB.out)) hb); clear BK101; clear HB; have BK101 := n0_; have HB := n1_; clear n0_ n1_; (try clear hb); (try clear hb2); (try clear hk); (try clear hi)))
 go_ret; exact ⟨by first | rfl | (simp [Qar, Qaq] <;> rfl) | (simp [*, Qar, Qaq] <;> rfl), by repeat (first | (with_reducible first | exact HB.out | apply Qab | apply Qaa | apply Qac | refine Qai ?_ GE101.out) | exact HB.out)⟩
end Go.Proofs.YtmaipohgahdclaaGreatDoor.Pr
end
section
namespace Go.Proofs.YtmaipohgahdclaaGreatDoor.Pr
open Go.RowKit Go.Proofs.YtmaipohgahdclaaGreatDoorW.PrintWords Go.Proofs.YtmaipohgahdclaaGreatDoorW.PrintLast Go.Proofs.YtmaipohgahdclaaGreatDoorW.PrintMore
attribute [local go_sem] QaU QaS max_two min_two QaM QaL QaT QaR
set_option linter.unusedVariables false
set_option linter.unusedSimpArgs false
open Go.Maps
open Go.ChangeMaps (setBlock)
abbrev Pair := S51
theorem pair_ext {a b : Pair} (h0 : a.f0 = b.f0) (h1 : a.f1 = b.f1) : a = b := by cases a; cases b; simp_all
instance pairDec : DecidableEq Pair := fun a b => decidable_of_iff (a.f0 = b.f0 ∧ a.f1 = b.f1) ⟨fun h => pair_ext h.1 h.2, fun h => by rw [h]; exact ⟨rfl, rfl⟩⟩
def encPair (p : Pair) : Value := .agg #[.string p.f0.f0, .string p.f0.f1, .string p.f1]
def okPair (p : Pair) : Prop := p.f0.f0.size ≤ maxLen ∧ p.f0.f1.size ≤ maxLen ∧ p.f1.size ≤ maxLen
theorem Tryz.laidOut : laidOutB Tryz.prog = true := by kernel_rfl
theorem Tryz.rowPair : 51 < Tryz.prog.types.size := of_decide_eq_true (by kernel_rfl)
theorem Tryz.keyPair : Tryz.prog.keyType 51 = true := by kernel_rfl
theorem Tryz.tsize : Tryz.prog.types.size = 2 + (Tryz.prog.types.size - 2) := by have := of_decide_eq_true (p := 2 ≤ Tryz.prog.types.size) (by kernel_rfl); omega
theorem pairLaw : WideMaps.KeyLaw Tryz.prog 51 := deep_law_laid Tryz.laidOut (m := 3) (by omega) Tryz.rowPair (by kernel_rfl) (by rw [Tryz.underlying51])
theorem Tryz.cellsPair : Tryz.prog.cellsOf 51 = 3 := by kernel_rfl
theorem lits_str (d : Nat) (s : ByteArray) (hs : s.size ≤ maxLen) : Tryz.prog.keyLits (d + 1) 9 [.string s] = some [.string s.data.toList] := by
  unfold Program.keyLits; rw [Tryz.underlying9]; simp [hs]
theorem lits_role (d : Nat) (a b : ByteArray) (ha : a.size ≤ maxLen) (hb : b.size ≤ maxLen) : Tryz.prog.keyLits (d + 2) 24 [.string a, .string b] = some [.string a.data.toList, .string b.data.toList] := by
  unfold Program.keyLits; rw [Tryz.underlying24]; simp [Tryz.cellsRole, Tryz.cellsStr, lits_str d a ha, lits_str d b hb]
theorem lits_pair (d : Nat) (p : Pair) (hp : okPair p) : Tryz.prog.keyLits (d + 3) 51 [.string p.f0.f0, .string p.f0.f1, .string p.f1] = some [.string p.f0.f0.data.toList, .string p.f0.f1.data.toList, .string p.f1.data.toList] := by
  unfold Program.keyLits; rw [Tryz.underlying51]; simp [Tryz.cellsPair, Tryz.cellsRole, Tryz.cellsStr, lits_role d _ _ hp.1 hp.2.1, lits_str (d + 1) _ hp.2.2]
theorem pairKey : KeyK Tryz.prog 51 encPair okPair where
  keyed := Keyed.of_law pairLaw
  lit p hp := by
    refine ⟨.string (keyBytes [.string p.f0.f0.data.toList, .string p.f0.f1.data.toList, .string p.f1.data.toList]), ?_⟩
    have hf : (encPair p).formed Tryz.prog 51 = true := by
      simp [encPair, Value.formed, Tryz.underlying51, Tryz.cellsPair]
    unfold keyOf; rw [Tryz.underlying51]; simp only [Tryz.keyPair, hf, Bool.and_self, if_true]
    have hc : (encPair p).cells.toList = [.string p.f0.f0, .string p.f0.f1, .string p.f1] := by simp [encPair, Value.cells]
    rw [hc, Tryz.tsize, show 2 + (Tryz.prog.types.size - 2) + 1 = (Tryz.prog.types.size - 2) + 3 from by omega, lits_pair _ p hp]; rfl
  inj p q _ _ h := by
    simp only [encPair, Value.agg.injEq, Array.mk.injEq, List.cons.injEq, Value.string.injEq, and_true] at h; exact pair_ext (role_ext h.1 h.2.1) h.2.2
abbrev kPair := k51
def knownT (known : List Pair) : List (Pair × Value) := known.map fun p => (p, .bool true)
def SolverAt (w : World) (B : Nat) (ok : Nat → Prop) (g b : Nat) (vc : Value) (creds : List Cred) (known waits : List Pair) : Prop :=
  ∃ vw, w.heap[g]? = some (.cells #[vc, .map (some b), vw] 71 (0, 0)) ∧ (B ≤ g ∧ ok g) ∧ (B ≤ b ∧ ok b) ∧ Kd.R kCred 42 w B (fun _ => True) vc creds ∧ Tbl encPair okPair w b (knownT known) ∧ Kd.Q kPair 51 w B ok vw waits
theorem SolverAt.below {w w' : World} {B g b : Nat} {ok : Nat → Prop} {vc : Value} {creds : List Cred} {known waits : List Pair} (h : SolverAt w B ok g b vc creds known waits) (hb : Below w.heap.size w w') : SolverAt w' B ok g b vc creds known waits := by
  obtain ⟨vw, hg, hBg, hBb, hvc, hT, hQ⟩ := h; exact ⟨vw, (hb.block g (blk_lt hg)).trans hg, hBg, hBb, Kd.R_below hvc hb, hT.below hb, Kd.Q_below hQ hb⟩
def Kept (w w' : World) (ok : Nat → Prop) : Prop := ∀ k, k < w.heap.size → ¬ ok k → w'.heap[k]? = w.heap[k]?
theorem Kept.of_below {w w' : World} (h : Below w.heap.size w w') (ok : Nat → Prop) : Kept w w' ok := fun k hk _ => h.block k hk
theorem Kept.trans {w w1 w2 : World} {ok ok' : Nat → Prop} (h : Kept w w1 ok) (h' : Kept w1 w2 ok') (hs : w.heap.size ≤ w1.heap.size) (hok : ∀ k, k < w.heap.size → ok' k → ok k) : Kept w w2 ok :=
  fun k hk hn => (h' k (by omega) (fun e => hn (hok k hk e))).trans (h k hk hn)
theorem SolverAt.mono {w : World} {B g b : Nat} {ok ok' : Nat → Prop} {vc : Value} {creds : List Cred} {known waits : List Pair} (h : SolverAt w B ok g b vc creds known waits) (hk : ∀ k, ok k → ok' k) : SolverAt w B ok' g b vc creds known waits := by
  obtain ⟨vw, hg, hBg, hBb, hvc, hT, hQ⟩ := h; exact ⟨vw, hg, ⟨hBg.1, hk _ hBg.2⟩, ⟨hBb.1, hk _ hBb.2⟩, hvc, hT, Kd.Q_mono hQ hk⟩
theorem knownT_get (known : List Pair) (p : Pair) : tget (knownT known) p = if p ∈ known then some (.bool true) else none := by
  unfold tget knownT
  induction known with
  | nil => rfl
  | cons q known ih =>
    rw [List.map_cons, List.find?_cons]
    by_cases h : q = p
    · subst h
      simp
    · rw [decide_eq_false h]
      simp only [List.mem_cons]; rw [ih]
      have : (p = q ∨ p ∈ known) ↔ p ∈ known := ⟨fun h' => h'.resolve_left (fun e => h e.symm), .inr⟩
      simp only [this]
theorem blk_thaw {w : World} {g : Nat} {cs : Array Value} {t : TypeId} (h : w.heap[g]? = some (.cells cs t (0, 0))) (i : Nat) : w.frozen? ⟨g, i, none⟩ = false := by simp [World.frozen?, h]
theorem cell_alloc {w : World} {a : Addr} {v : Value} (h : w.cell? a = some v) (o : Obj) : (w.alloc o).cell? a = some v := QaJ (Qab (Below.refl _ _) o) h
theorem heap_alloc_old {w : World} {i : Nat} (h : i < w.heap.size) (o : Obj) : (w.alloc o).heap[i]? = w.heap[i]? := (MapKept.heap_alloc w o).2 i h
theorem infoPair : (Tryz.prog.info? 51).map (fun i => (i.zero, i.size, i.bytes)) = some (some (.agg #[.string ⟨#[]⟩, .string ⟨#[]⟩, .string ⟨#[]⟩]), 3, 48) := by kernel_rfl
theorem zeroBool (w : World) : (zeroValue 4).run Tryz.prog w = .ok (.bool false) w := by kernel_rfl
set_option maxRecDepth 100000 in
set_option maxHeartbeats 2000000 in
theorem learn_old (w : World) (B g b : Nat) (ok : Nat → Prop) (vc : Value) (creds : List Cred) (known waits : List Pair) (p : Pair) (hp : okPair p) (hS : SolverAt w B ok g b vc creds known waits) (hin : p ∈ known) :
    Calls Tryz.prog 51 #[.pointer (some ⟨g, 0, none⟩), encPair p] w fun e w' => e = .returned (.tuple #[]) ∧ SolverAt w' B ok g b vc creds known waits ∧ Below w.heap.size w w' := by
  obtain ⟨vw, hg, hBg, hBb, hvc, hT, hQ⟩ := hS
  have hl := fun n => hT.look pairKey Tryz.underlying69 zeroBool hp false ((w.alloc (.cells #[.string p.f0.f0, .string p.f0.f1, .string p.f1] 51)).drewN n) (heap_alloc_old hT.lt _)
  rw [knownT_get, if_pos hin] at hl; simp only [Option.getD_some, Bool.false_eq_true, if_false, encPair] at hl; have hc1 := cell_alloc (show w.cell? ⟨g, 1, none⟩ = some (.map (some b)) from (Qaj hg 1).trans rfl) (.cells #[.string p.f0.f0, .string p.f0.f1, .string p.f1] 51); unfold encPair; go_enter Tryz.func51, Tryz.ntmps51; go_wp2
  go_quiet (fail)
  go_wp2; go_end0; have hb := Qaa (Qab (Below.refl w.heap.size w) (.cells #[.string p.f0.f0, .string p.f0.f1, .string p.f1] 51)) nq; exact ⟨rfl, SolverAt.below ⟨vw, hg, hBg, hBb, hvc, hT, hQ⟩ hb, hb⟩
theorem learn_mid (w : World) (B g b : Nat) (O : Obj) (vc vw : Value) (known : List Pair) (p : Pair) (nq : Nat) (Y : World) (hBb : B ≤ b) (hg : w.heap[g]? = some (.cells #[vc, .map (some b), vw] 71 (0, 0))) (hT : Tbl encPair okPair w b (knownT known))
    (hT' : ∀ W : World, b < W.heap.size → Tbl encPair okPair (setBlock W b O) b (tput (knownT known) p (.bool true))) (hY : Y = setBlock ((w.alloc (.cells #[.string p.f0.f0, .string p.f0.f1, .string p.f1] 51)).drewN (nq + 1)) b O) :
    (Y.heap[g]? = some (.cells #[vc, .map (some b), vw] 71 (0, 0)) ∧ Y.heap[w.heap.size]? = some (.cells #[.string p.f0.f0, .string p.f0.f1, .string p.f1] 51 (0, 0)) ∧ Tbl encPair okPair Y b (tput (knownT known) p (.bool true))) ∧ Y.heap.size = w.heap.size + 1 ∧ (∀ i, i < w.heap.size → i ≠ b → Y.heap[i]? = w.heap[i]?) ∧ Below B w Y := by
  have hlt := hT.lt; have hgl := blk_lt hg
  have hgb : g ≠ b := by
    rintro rfl; obtain ⟨es, clock, hb, _⟩ := hT; rw [hg] at hb; cases hb
  have hother : ∀ (W : World) (i : Nat), i ≠ b → (setBlock W b O).heap[i]? = W.heap[i]? := fun W i hi => by simp [setBlock, Ne.symm hi]
  have hsz : ((w.alloc (.cells #[.string p.f0.f0, .string p.f0.f1, .string p.f1] 51)).drewN (nq + 1)).heap.size = w.heap.size + 1 := by simp
  have hold : ∀ i, i < w.heap.size → i ≠ b → Y.heap[i]? = w.heap[i]? := fun i hi hne => by
    rw [hY, hother _ _ hne]; exact heap_alloc_old hi _
  refine ⟨⟨(hold g hgl hgb).trans hg, ?_, ?_⟩, ?_, hold, ?_⟩
  · rw [hY, hother _ _ (by omega)]
    exact heap_alloc_new w _
  · rw [hY]
    exact hT' _ (by rw [hsz]; omega)
  · rw [hY]
    show ((w.alloc _).heap.setIfInBounds b O).size = _
    simp
  · rw [hY]
    exact ⟨rfl, rfl, rfl, by show w.heap.size ≤ ((w.alloc _).heap.setIfInBounds b O).size; simp, fun i hi => by rw [hother _ _ (by omega)]; exact heap_alloc_old (by omega) _⟩
theorem knownT_put (known : List Pair) (p : Pair) (h : ¬ p ∈ known) : tput (knownT known) p (.bool true) = knownT (known ++ [p]) := by
  unfold tput; rw [if_neg]
  · unfold knownT
    simp
  · unfold knownT
    simp only [List.any_map, List.any_eq_true, not_exists, not_and]; intro q hq hqp; simp at hqp; exact h (hqp ▸ hq)
theorem learn_end (Y w1 : World) (B g b : Nat) (ok : Nat → Prop) (vc vw v1 : Value) (creds : List Cred) (known waits : List Pair) (p : Pair) (hin : ¬ p ∈ known) (hgY : Y.heap[g]? = some (.cells #[vc, .map (some b), vw] 71 (0, 0))) (TY : Tbl encPair okPair Y b (tput (knownT known) p (.bool true)))
    (RY : Kd.R kCred 42 Y B (fun _ => True) vc creds) (QY : Kd.Q kPair 51 Y B ok vw waits) (hBg : B ≤ g ∧ ok g) (hBb : B ≤ b ∧ ok b) (hq1 : Kd.Q kPair 51 w1 B ok v1 (waits ++ [p])) (hg1 : (Y.drew).grownBy w1 vw.ownBlock) :
    SolverAt (w1.setCell ⟨g, 2, none⟩ v1) B ok g b vc creds (known ++ [p]) (waits ++ [p]) := by
  have hg1' : Y.grownBy w1 vw.ownBlock := ⟨hg1.os, hg1.tape, hg1.output, hg1.size, hg1.block⟩
  have hgg := (hg1'.block g (blk_lt hgY) (Kd.Q_ne QY hgY (by decide))).trans hgY
  have hbg : b ≠ g := by
    rintro rfl; obtain ⟨es, clock, hb, _⟩ := TY; rw [hgY] at hb; cases hb
  have hbv : some b ≠ vw.ownBlock := by
    intro e; obtain ⟨cells, hc⟩ := Kd.Q_typed QY b e.symm; obtain ⟨es, clock, hb, _⟩ := TY; rw [hc] at hb; cases hb
  refine ⟨v1, by simpa using blk_set hgg 2 v1, hBg, hBb, ?_, ?_, Kd.Q_set hq1 hgg (by decide) 2 v1⟩
  · refine Kd.R_set (Kd.R_over' RY (fun k hk => Kd.Q_typed QY k hk) (by decide) hg1') hgg (by decide) 2 v1
  · rw [knownT_put known p hin] at TY
    exact (TY.grown hg1' hbv).set hbg v1
set_option maxRecDepth 100000 in
set_option maxHeartbeats 2000000 in
theorem learn_new (w : World) (B g b : Nat) (ok : Nat → Prop) (vc : Value) (creds : List Cred) (known waits : List Pair) (p : Pair) (hp : okPair p) (hS : SolverAt w B ok g b vc creds known waits) (hin : ¬ p ∈ known) (hroom : known.length < 1000000) (hroom2 : waits.length < 1000000) :
    Calls Tryz.prog 51 #[.pointer (some ⟨g, 0, none⟩), encPair p] w fun e w' => e = .returned (.tuple #[]) ∧ SolverAt w' B (fun k => ok k ∨ w.heap.size ≤ k) g b vc creds (known ++ [p]) (waits ++ [p]) ∧ Below B w w' ∧ Kept w w' ok := by
  obtain ⟨vw, hg, hBg, hBb, hvc, hT, hQ⟩ := hS
  have hl := fun n => hT.look pairKey Tryz.underlying69 zeroBool hp false ((w.alloc (.cells #[.string p.f0.f0, .string p.f0.f1, .string p.f1] 51)).drewN n) (heap_alloc_old hT.lt _)
  rw [knownT_get, if_neg hin] at hl; simp only [Option.getD_none, Bool.false_eq_true, if_false, encPair] at hl
  have hT0 : B ≤ w.heap.size := by have := hT.lt; omega
  obtain ⟨O, hu, hT'⟩ := hT.store pairKey Tryz.underlying69 hp (.bool true) (by unfold knownT maxLen; rw [List.length_map]; omega)
  have hu1 := fun n => hu ((w.alloc (.cells #[.string p.f0.f0, .string p.f0.f1, .string p.f1] 51)).drewN n) (heap_alloc_old hT.lt _)
  simp only [encPair] at hu1; have hc1 := cell_alloc (show w.cell? ⟨g, 1, none⟩ = some (.map (some b)) from (Qaj hg 1).trans rfl) (.cells #[.string p.f0.f0, .string p.f0.f1, .string p.f1] 51); unfold encPair; clear hu; go_enter Tryz.func51, Tryz.ntmps51; go_wp2
  go_quiet (fail)
  go_wp2
  go_region
  all_goals
    obtain ⟨Y, hY⟩ : ∃ Y, Y = setBlock ((w.alloc (.cells #[.string p.f0.f0, .string p.f0.f1, .string p.f1] 51)).drewN (nq + 1)) b O := ⟨_, rfl⟩
    rw [← hY]; have HY := Lib.hid hY; clear hY hu1 hl hc1; obtain ⟨⟨hgY, boxY, TY⟩, sizeY, oldY, belowY⟩ := learn_mid w B g b O vc vw known p nq Y hBb.1 hg hT hT' HY.out
    have QYo : Kd.Q kPair 51 Y B ok vw waits := Kd.Q_mono (Kd.Q_move (Kd.Q_bound hQ) (fun k hk => oldY k hk.2.2.1 (fun e => by
      obtain ⟨_, _, _, q, _, cells, hc⟩ := hk; obtain ⟨es, clock, hb, _⟩ := hT; rw [e, hb] at hc
      cases hc))) (fun _ hk => hk.1)
    have QY : Kd.Q kPair 51 Y B (fun k => ok k ∨ w.heap.size ≤ k) vw waits := Kd.Q_mono QYo (fun _ h => .inl h)
    have RY : Kd.R kCred 42 Y B (fun _ => True) vc creds := Kd.R_mono (Kd.R_move (Kd.R_bound hvc) (fun k hk => oldY k hk.2.2.1 (fun e => by
      obtain ⟨_, _, _, q, _, cells, hc⟩ := hk; obtain ⟨es, clock, hb, _⟩ := hT; rw [e, hb] at hc
      cases hc))) (fun _ hk => hk.1)
    have c2 : Y.cell? ⟨g, 2, none⟩ = some vw := (Qaj hgY 2).trans rfl; have c2a := cell_alloc c2 (.cells #[.string p.f0.f0, .string p.f0.f1, .string p.f1] 51); have b0 : Y.cell? ⟨w.heap.size, 0, none⟩ = some (.string p.f0.f0) := (Qaj boxY 0).trans rfl; have b1 : Y.cell? ⟨w.heap.size, 1, none⟩ = some (.string p.f0.f1) := (Qaj boxY 1).trans rfl; have b2 : Y.cell? ⟨w.heap.size, 2, none⟩ = some (.string p.f1) := (Qaj boxY 2).trans rfl; have SZ := Lib.hid sizeY; clear sizeY hT hT' HY; go_wp2
    go_region_law ((refine Kd.Q_append_step kPair (w0 := w) (W := Y.drew) B (by rfl) (.tmp 20) (.tmp 22) 49 51 _ 48 (by rfl) Tryz.underlying49 infoPair rfl (by decide) (by decide) vw waits p [.string p.f0.f0, .string p.f0.f1, .string p.f1] (fun k => ok k ∨ w.heap.size ≤ k) (fun _ => False) (by rfl) (by rfl) (k51_mkM _ _ _ p) (fun _ h => h.elim) (fun k hk => .inr (by have := SZ.out; have hk' : Y.heap.size ≤ k := hk; omega)) (Kd.Q_drew QY) (below_drew belowY) (by have := SZ.out; have := hT0; simp; omega) (by omega) ?_; intro v1 w1 hq1 hb1 hg1 hat; obtain ⟨A1, c1, rfl, hl1⟩ := Kd.Q_slice hq1; have hg2 := (hg1.block g (blk_lt hgY) (Kd.Q_ne QY hgY (by decide))).trans hgY; have c2' : w1.cell? ⟨g, 2, none⟩ = some vw := (Qaj hg2 2).trans rfl; have f2' : w1.frozen? ⟨g, 2, none⟩ = false := blk_thaw hg2 2))
    all_goals
      go_wp2; go_end0; refine ⟨rfl, learn_end Y w1 B g b (fun k => ok k ∨ w.heap.size ≤ k) vc vw _ creds known waits p hin hgY TY RY QY ⟨hBg.1, .inl hBg.2⟩ ⟨hBb.1, .inl hBb.2⟩ (by simpa using hq1) hg1, hb1.setCell hBg.1 _, fun k hk hn => ?_⟩; have e1 : (w1.setCell ⟨g, 2, none⟩ (.slice A1 (waits.length + 1) c1)).heap[k]? = w1.heap[k]? := Below.heap_setCell w1 ⟨g, 2, none⟩ _ k (fun e => hn (e ▸ hBg.2)); have e2 : w1.heap[k]? = Y.heap[k]? := hg1.block k (by have := SZ.out; show k < Y.heap.size; omega) (fun e => hn (QYo.1 k e.symm)); have e3 := oldY k hk (fun e => hn (e ▸ hBb.2)); have e4 := (e1.trans e2).trans e3
      simpa using e4
structure St where
  known : List Pair
  waits : List Pair
instance okPairDec (p : Pair) : Decidable (okPair p) := by unfold okPair; infer_instance
def St.learn (s : St) (p : Pair) : Option St := if p ∈ s.known then some s else if s.known.length < 1000000 ∧ s.waits.length < 1000000 ∧ okPair p then some ⟨s.known ++ [p], s.waits ++ [p]⟩ else none
theorem SolverAt.oks {w : World} {B g b : Nat} {ok : Nat → Prop} {vc : Value} {creds : List Cred} {known waits : List Pair} (h : SolverAt w B ok g b vc creds known waits) : ∀ p ∈ known, okPair p := by
  obtain ⟨vw, hg, hBg, hBb, hvc, hT, hQ⟩ := h; intro p hp; exact hT.oks (p, .bool true) (List.mem_map.mpr ⟨p, hp, rfl⟩)
theorem SolverAt.base {w : World} {B g b : Nat} {ok : Nat → Prop} {vc : Value} {creds : List Cred} {known waits : List Pair} (h : SolverAt w B ok g b vc creds known waits) : B ≤ w.heap.size := by
  obtain ⟨vw, hg, hBg, hBb, hvc, hT, hQ⟩ := h; have := blk_lt hg; omega
theorem learn_calls (w : World) (B g b : Nat) (ok : Nat → Prop) (vc : Value) (creds : List Cred) (s s' : St) (p : Pair) (hS : SolverAt w B ok g b vc creds s.known s.waits) (h : s.learn p = some s') :
    Calls Tryz.prog 51 #[.pointer (some ⟨g, 0, none⟩), encPair p] w fun e w' => e = .returned (.tuple #[]) ∧ SolverAt w' B (fun k => ok k ∨ w.heap.size ≤ k) g b vc creds s'.known s'.waits ∧ Below B w w' ∧ Kept w w' ok := by
  unfold St.learn at h
  by_cases hin : p ∈ s.known
  · rw [if_pos hin] at h
    obtain rfl := Option.some.inj h; refine (learn_old w B g b ok vc creds s.known s.waits p (hS.oks p hin) hS hin).mono ?_; rintro e w' ⟨h1, h2, h3⟩; exact ⟨h1, h2.mono (fun _ h => .inl h), h3.mono hS.base, Kept.of_below h3 ok⟩
  · rw [if_neg hin] at h
    by_cases hr : s.known.length < 1000000 ∧ s.waits.length < 1000000 ∧ okPair p
    · rw [if_pos hr] at h
      obtain rfl := Option.some.inj h; exact learn_new w B g b ok vc creds s.known s.waits p hr.2.2 hS hin hr.1 hr.2.1
    · rw [if_neg hr] at h
      cases h
end Go.Proofs.YtmaipohgahdclaaGreatDoor.Pr
end
section
namespace Go.Proofs.YtmaipohgahdclaaGreatDoor.Pr
open Go.RowKit Go.Proofs.YtmaipohgahdclaaGreatDoorW.PrintWords Go.Proofs.YtmaipohgahdclaaGreatDoorW.PrintLast Go.Proofs.YtmaipohgahdclaaGreatDoorW.PrintMore
attribute [local go_sem] QaU QaS max_two min_two QaM QaL QaT QaR
set_option linter.unusedVariables false
set_option linter.unusedSimpArgs false
attribute [local go_sem high] eqA24
abbrev pairObj (p : Pair) : Obj := .cells #[.string p.f0.f0, .string p.f0.f1, .string p.f1] 51
theorem boxed {w W : World} {c : Cred} {p : Pair} (h : (w.alloc (credObj c)).alloc (pairObj p) = W) : Below w.heap.size w W ∧ W.heap[w.heap.size]? = some (credObj c) ∧ W.heap[w.heap.size + 1]? = some (pairObj p) := by
  subst h; refine ⟨Qab (Qab (Below.refl w.heap.size w) _) _, Qaf (blk_new w _) _, ?_⟩; have := blk_new (w.alloc (credObj c)) (pairObj p)
  simpa using this
theorem pairCells {W : World} {k : Nat} {p : Pair} (h : W.heap[k]? = some (pairObj p)) : W.cell? ⟨k, 0, none⟩ = some (.string p.f0.f0) ∧ W.cell? ⟨k, 1, none⟩ = some (.string p.f0.f1) ∧ W.cell? ⟨k, 2, none⟩ = some (.string p.f1) :=
  ⟨(Qaj h 0).trans rfl, (Qaj h 1).trans rfl, (Qaj h 2).trans rfl⟩
def includeF (c : Cred) (p : Pair) (s : St) : Option St := if p.f0 = c.f4 then s.learn ⟨credRole c, p.f1⟩ else some s
set_option maxRecDepth 100000 in
set_option maxHeartbeats 2000000 in
theorem include_calls (w : World) (B g b : Nat) (ok : Nat → Prop) (vc : Value) (creds : List Cred) (s s' : St) (c : Cred) (p : Pair) (hS : SolverAt w B ok g b vc creds s.known s.waits) (h : includeF c p s = some s') :
    Calls Tryz.prog 52 #[.pointer (some ⟨g, 0, none⟩), encCred c, encPair p] w fun e w' => e = .returned (.tuple #[]) ∧ SolverAt w' B (fun k => ok k ∨ w.heap.size ≤ k) g b vc creds s'.known s'.waits ∧ Below B w w' ∧ Kept w w' ok := by
  unfold includeF at h
  by_cases he : p.f0 = c.f4
  · rw [if_pos he] at h
    have hb := eqRole_t he; clear he; unfold encPair encCred; go_enter Tryz.func52, Tryz.ntmps52; go_wp2; change Code.wp _ _ _ _ ((w.alloc (credObj c)).alloc (pairObj p))
    generalize hW : (w.alloc (credObj c)).alloc (pairObj p) = W
    obtain ⟨HB, BC, BP⟩ := boxed hW; obtain ⟨c0, c1, c2, c3, c4, c5, c6, c7, c8⟩ := credCells BC; obtain ⟨p0, p1, p2⟩ := pairCells BP; clear hW
    go_region_with (first | (go_at_call 23; refine (credRole_calls c _).mono ?_; rintro e w3 ⟨rfl, hB3⟩; have HB3 : Below w.heap.size w w3 := Qak (by repeat (first | exact HB | apply Qaa | apply Qac)) hB3; have p23 := QaJ hB3 p2) | (go_at_call 51; refine (learn_calls _ B g b ok vc creds s s' ⟨credRole c, p.f1⟩ ?_ h).mono ?_; exact hS.below HB3; rintro e w5 ⟨rfl, hS5, hB5, hK5⟩))
    all_goals
      go_wp2; go_end0; exact ⟨rfl, hS5.mono (fun k h => h.imp_right (fun h => Nat.le_trans HB3.size h)), (HB3.mono hS.base).trans hB5, (Kept.of_below HB3 ok).trans hK5 HB3.size (fun _ _ h => h)⟩
  · rw [if_neg he] at h
    obtain rfl := Option.some.inj h; have hb := eqRole_f he; clear he; unfold encPair encCred; go_enter Tryz.func52, Tryz.ntmps52; go_wp2; go_end0; have hb := Qab (Qab (Below.refl w.heap.size w) (credObj c)) (pairObj p); exact ⟨rfl, (hS.below hb).mono (fun _ h => .inl h), hb.mono hS.base, Kept.of_below hb ok⟩
def roleLess (a b : Role) : Bool := if a = b then false else Op.bytesLess a.f0.toList b.f0.toList || (a.f0.toList == b.f0.toList && Op.bytesLess a.f1.toList b.f1.toList)
def encRole (a : Role) : Value := .agg #[.string a.f0, .string a.f1]
set_option maxHeartbeats 1000000 in
theorem less_calls (a b : Role) (W : World) : Calls Tryz.prog 57 #[encRole a, encRole b] W fun e w' => e = .returned (.bool (roleLess a b)) ∧ ∃ q os', w' = Sort.grow (W.drewN q) os' := by
  unfold roleLess encRole
  by_cases h : a = b
  · rw [if_pos h]
    have hb := eqRole_t h; clear h; go_enter Tryz.func57, Tryz.ntmps57; go_wp2; go_ret; exact ⟨rfl, 0, _, by rw [Sort.alloc_eq_grow, Sort.alloc_eq_grow, Sort.grow_grow]; rfl⟩
  · rw [if_neg h]
    have hb := eqRole_f h; clear h
    generalize h1 : Op.bytesLess a.f0.toList b.f0.toList = b1
    generalize h2 : (a.f0.toList == b.f0.toList) = b2 at hb
    generalize h3 : Op.bytesLess a.f1.toList b.f1.toList = b3
    cases b1 <;> cases b2 <;> cases b3 <;> (
      go_enter Tryz.func57, Tryz.ntmps57; go_wp2; go_ret
      exact ⟨rfl, 0, _, by rw [Sort.alloc_eq_grow, Sort.alloc_eq_grow, Sort.grow_grow]; rfl⟩)
end Go.Proofs.YtmaipohgahdclaaGreatDoor.Pr
end
section
namespace Go.Proofs.YtmaipohgahdclaaGreatDoor.Pr
open Go.RowKit Go.Proofs.YtmaipohgahdclaaGreatDoorW.PrintWords Go.Proofs.YtmaipohgahdclaaGreatDoorW.PrintLast Go.Proofs.YtmaipohgahdclaaGreatDoorW.PrintMore
attribute [local go_sem] QaU QaS max_two min_two QaM QaL QaT QaR
set_option linter.unusedVariables false
set_option linter.unusedSimpArgs false
attribute [local go_sem high] eqA24
attribute [local go_sem high] eqA51
def pairLess (a b : Pair) : Bool := roleLess a.f0 b.f0 || (decide (a.f0 = b.f0) && Op.bytesLess a.f1.toList b.f1.toList)
def pairCmp (x y : Pair) : Int := if x = y then 0 else if pairLess x y = true then -1 else 1
theorem eqPair_t {a b : Pair} (h : a = b) : ((a.f0.f0.toList == b.f0.f0.toList && (a.f0.f1.toList == b.f0.f1.toList)) && (a.f1.toList == b.f1.toList)) = true := by subst h; simp
theorem eqPair_f {a b : Pair} (h : ¬ a = b) : ((a.f0.f0.toList == b.f0.f0.toList && (a.f0.f1.toList == b.f0.f1.toList)) && (a.f1.toList == b.f1.toList)) = false := by
  rw [Bool.eq_false_iff]; intro e; rw [Bool.and_eq_true] at e; refine h (pair_ext ?_ ((Lib.bytes_beq_iff _ _).mp e.2))
  apply Decidable.byContradiction
  intro hr; rw [eqRole_f hr] at e; exact absurd e.1 (by decide)
theorem boxed_grow {W w3 : World} {x y : Pair} {q : Nat} {os : Array Obj} (h : w3 = Sort.grow (((W.alloc (pairObj x)).alloc (pairObj y)).drewN q) os) : w3.heap[W.heap.size]? = some (pairObj x) ∧ w3.heap[W.heap.size + 1]? = some (pairObj y) ∧ ∃ q os', w3 = Sort.grow (W.drewN q) os' := by
  have hs : ((W.alloc (pairObj x)).alloc (pairObj y)).heap.size = W.heap.size + 2 := by simp
  have hb : ∀ k, k < W.heap.size + 2 → w3.heap[k]? = ((W.alloc (pairObj x)).alloc (pairObj y)).heap[k]? := fun k hk => by
    rw [h]
    show (((W.alloc (pairObj x)).alloc (pairObj y)).heap ++ os)[k]? = _
    rw [Array.getElem?_append_left (by rw [hs]; exact hk)]
  refine ⟨(hb _ (by omega)).trans (Qaf (blk_new W _) _), (hb _ (by omega)).trans ?_, q, #[pairObj x] ++ #[pairObj y] ++ os, ?_⟩
  · have := blk_new (W.alloc (pairObj x)) (pairObj y)
    simpa using this
  · rw [h, Sort.alloc_eq_grow, Sort.alloc_eq_grow, Sort.grow_grow]
    exact Sort.grow_grow (W.drewN q) _ os
set_option maxHeartbeats 2000000 in
theorem pairs1_calls (x y : Pair) (W : World) : Calls Tryz.prog 56 #[encPair x, encPair y] W fun e w' => e = .returned (.int .i64 (pairCmp x y)) ∧ ∃ q os', w' = Sort.grow (W.drewN q) os' := by
  unfold pairCmp pairLess encPair
  by_cases h : x = y
  · rw [if_pos h]
    have hb := eqPair_t h; clear h; go_enter Tryz.func56, Tryz.ntmps56; go_wp2; go_ret; exact ⟨rfl, 0, _, by rw [Sort.alloc_eq_grow, Sort.alloc_eq_grow, Sort.grow_grow]; rfl⟩
  · rw [if_neg h]
    have hb := eqPair_f h; clear h
    have HL := fun W' => less_calls x.f0 y.f0 W'
    obtain ⟨b2, h2, hr⟩ : ∃ b2 : Bool, (x.f0.f0.toList == y.f0.f0.toList && (x.f0.f1.toList == y.f0.f1.toList)) = b2 ∧ decide (x.f0 = y.f0) = b2 := by
      by_cases hr : x.f0 = y.f0
      · exact ⟨true, eqRole_t hr, decide_eq_true hr⟩
      · exact ⟨false, eqRole_f hr, decide_eq_false hr⟩
    rw [hr]; clear hr; unfold encRole at HL
    generalize roleLess x.f0 y.f0 = b1 at HL ⊢
    generalize h3 : Op.bytesLess x.f1.toList y.f1.toList = b3
    rw [h2] at hb
    cases b1 <;> cases b2 <;> cases b3 <;> simp only [Bool.true_and, Bool.false_and] at hb <;> (
      go_enter Tryz.func56, Tryz.ntmps56
      go_upto_region 1 with fail
      change Code.wp _ _ _ _ ((W.alloc (pairObj x)).alloc (pairObj y))
      go_wp2_with (go_at_call 57; refine (HL _).mono ?_; rintro e w3 ⟨rfl, q, os, hw3⟩; obtain ⟨BX, BY, hos⟩ := boxed_grow hw3; clear hw3; obtain ⟨x0, x1, x2⟩ := pairCells BX; obtain ⟨y0, y1, y2⟩ := pairCells BY; clear BX BY)
      go_ret
      exact ⟨rfl, hos⟩)
end Go.Proofs.YtmaipohgahdclaaGreatDoor.Pr
end
section
namespace Go.Proofs.YtmaipohgahdclaaGreatDoor.Pr
open Go.RowKit Go.Proofs.YtmaipohgahdclaaGreatDoorW.PrintWords Go.Proofs.YtmaipohgahdclaaGreatDoorW.PrintLast Go.Proofs.YtmaipohgahdclaaGreatDoorW.PrintMore
attribute [local go_sem] QaU QaS max_two min_two QaM QaL QaT QaR
set_option linter.unusedVariables false
set_option linter.unusedSimpArgs false
attribute [local go_sem high] eqA24
theorem look_known {w W : World} {B g b : Nat} {ok : Nat → Prop} {vc : Value} {creds : List Cred} {known waits : List Pair} (hS : SolverAt w B ok g b vc creds known waits) (hB : Below w.heap.size w W) (r : Role) (u : ByteArray) (hq : okPair ⟨r, u⟩) (n : Nat) :
    (Instr.lookup 69 (.map (some b)) (.agg #[.string r.f0, .string r.f1, .string u]) false).run Tryz.prog (W.drewN n) = .ok (.bool (decide ((⟨r, u⟩ : Pair) ∈ known))) (W.drewN n) := by
  obtain ⟨vw, hg, hBg, hBb, hvc, hT, hQ⟩ := hS; have hl := hT.look pairKey Tryz.underlying69 zeroBool hq false (W.drewN n) (hB.block b hT.lt); rw [knownT_get] at hl; refine hl.trans ?_
  by_cases hin : (⟨r, u⟩ : Pair) ∈ known
  · simp [hin]
  · simp [hin]
theorem SolverAt.cells {w : World} {B g b : Nat} {ok : Nat → Prop} {vc : Value} {creds : List Cred} {known waits : List Pair} (hS : SolverAt w B ok g b vc creds known waits) : w.cell? ⟨g, 0, none⟩ = some vc ∧ w.cell? ⟨g, 1, none⟩ = some (.map (some b)) := by
  obtain ⟨vw, hg, hBg, hBb, hvc, hT, hQ⟩ := hS; exact ⟨(Qaj hg 0).trans rfl, (Qaj hg 1).trans rfl⟩
def bothSecond (c : Cred) (p : Pair) (s : St) : Option St := if p.f0 = c.f5 then (if okPair ⟨c.f4, p.f1⟩ then (if (⟨c.f4, p.f1⟩ : Pair) ∈ s.known then s.learn ⟨credRole c, p.f1⟩ else some s) else none) else some s
def bothF (c : Cred) (p : Pair) (s : St) : Option St := if p.f0 = c.f4 then (if okPair ⟨c.f5, p.f1⟩ then (if (⟨c.f5, p.f1⟩ : Pair) ∈ s.known then s.learn ⟨credRole c, p.f1⟩ else bothSecond c p s) else none) else bothSecond c p s
set_option maxRecDepth 100000 in
set_option maxHeartbeats 2000000 in
theorem both_calls (w : World) (B g b : Nat) (ok : Nat → Prop) (vc : Value) (creds : List Cred) (s s' : St) (c : Cred) (p : Pair) (hS : SolverAt w B ok g b vc creds s.known s.waits) (h : bothF c p s = some s') :
    Calls Tryz.prog 54 #[.pointer (some ⟨g, 0, none⟩), encCred c, encPair p] w fun e w' => e = .returned (.tuple #[]) ∧ SolverAt w' B (fun k => ok k ∨ w.heap.size ≤ k) g b vc creds s'.known s'.waits ∧ Below B w w' ∧ Kept w w' ok := by
  unfold encPair encCred; go_enter Tryz.func54, Tryz.ntmps54
  go_upto_region 1 with fail
  change Code.wp _ _ _ _ ((w.alloc (credObj c)).alloc (pairObj p))
  generalize hW : (w.alloc (credObj c)).alloc (pairObj p) = W
  obtain ⟨HB, BC, BP⟩ := boxed hW; obtain ⟨c0, c1, c2, c3, c4, c5, c6, c7, c8⟩ := credCells BC; obtain ⟨p0, p1, p2⟩ := pairCells BP; have s1 := (hS.below HB).cells.2; have L := look_known hS HB; clear hW
  go_cut [41] from 6 to 48 (fun v wc => ∃ t : Bool, v = .bool t ∧ (∃ n, wc = W.drewN n) ∧ (if t then s.learn ⟨credRole c, p.f1⟩ else some s) = some s')
  case first =>
    unfold bothF bothSecond at h
    by_cases e1 : p.f0 = c.f4
    · rw [if_pos e1] at h
      have hb1 := eqRole_t e1; clear e1
      by_cases k1 : okPair ⟨c.f5, p.f1⟩
      · rw [if_pos k1] at h
        have l1 := fun n => L c.f5 p.f1 k1 n
        by_cases i1 : (⟨c.f5, p.f1⟩ : Pair) ∈ s.known
        · rw [if_pos i1] at h
          simp only [decide_eq_true i1] at l1
          go_quiet (fail)
          all_goals
            go_wp2_with fail
            go_meet
            case rel => exact ⟨true, rfl, ⟨_, rfl⟩, h⟩
        · rw [if_neg i1] at h
          simp only [decide_eq_false i1] at l1
          by_cases e2 : p.f0 = c.f5
          · rw [if_pos e2] at h
            have hb2 := eqRole_t e2; clear e2
            by_cases k2 : okPair ⟨c.f4, p.f1⟩
            · rw [if_pos k2] at h
              have l2 := fun n => L c.f4 p.f1 k2 n
              clear L k1 k2
              by_cases i2 : (⟨c.f4, p.f1⟩ : Pair) ∈ s.known
              · rw [if_pos i2] at h
                simp only [decide_eq_true i2] at l2
                go_quiet (fail)
                all_goals
                  go_wp2_with fail
                  go_meet
                  case rel => exact ⟨true, rfl, ⟨_, rfl⟩, h⟩
              · rw [if_neg i2] at h
                simp only [decide_eq_false i2] at l2
                go_quiet (fail)
                all_goals
                  go_wp2_with fail
                  go_meet
                  case rel => exact ⟨false, rfl, ⟨_, rfl⟩, h⟩
            · rw [if_neg k2] at h
              cases h
          · rw [if_neg e2] at h
            have hb2 := eqRole_f e2; clear e2
            go_quiet (fail)
            all_goals
              go_wp2_with fail
              go_meet
              case rel => exact ⟨false, rfl, ⟨_, rfl⟩, h⟩
      · rw [if_neg k1] at h
        cases h
    · rw [if_neg e1] at h
      have hb1 := eqRole_f e1; clear e1
      by_cases e2 : p.f0 = c.f5
      · rw [if_pos e2] at h
        have hb2 := eqRole_t e2; clear e2
        by_cases k2 : okPair ⟨c.f4, p.f1⟩
        · rw [if_pos k2] at h
          have l2 := fun n => L c.f4 p.f1 k2 n
          clear L k2
          by_cases i2 : (⟨c.f4, p.f1⟩ : Pair) ∈ s.known
          · rw [if_pos i2] at h
            simp only [decide_eq_true i2] at l2
            go_quiet (fail)
            all_goals
              go_wp2_with fail
              go_meet
              case rel => exact ⟨true, rfl, ⟨_, rfl⟩, h⟩
          · rw [if_neg i2] at h
            simp only [decide_eq_false i2] at l2
            go_quiet (fail)
            all_goals
              go_wp2_with fail
              go_meet
              case rel => exact ⟨false, rfl, ⟨_, rfl⟩, h⟩
        · rw [if_neg k2] at h
          cases h
      · rw [if_neg e2] at h
        have hb2 := eqRole_f e2; clear e2
        go_quiet (fail)
        all_goals
          go_wp2_with fail
          go_meet
          case rel => exact ⟨false, rfl, ⟨_, rfl⟩, h⟩
  case rest =>
    obtain ⟨t, rfl, ⟨n, rfl⟩, hh⟩ := hcut; clear L h s1; have HBn := Qaa HB n; have BCn := Qag BC n; have BPn := Qag BP n
    generalize W.drewN n = V at HBn BCn BPn ⊢
    clear c0 c1 c2 c3 c4 c5 c6 c7 c8 p0 p1 p2 BC BP HB; obtain ⟨c0, c1, c2, c3, c4, c5, c6, c7, c8⟩ := credCells BCn; obtain ⟨p0, p1, p2⟩ := pairCells BPn
    cases t with
    | true =>
      go_wp2
      go_region_with (first | (go_at_call 23; refine (credRole_calls c _).mono ?_; rintro e w3 ⟨rfl, hB3⟩; have HB3 : Below w.heap.size w w3 := Qak (by repeat (first | exact HBn | apply Qaa | apply Qac)) hB3; have p23 := QaJ hB3 p2) | (go_at_call 51; refine (learn_calls _ B g b ok vc creds s s' ⟨credRole c, p.f1⟩ ?_ hh).mono ?_; exact hS.below HB3; rintro e w5 ⟨rfl, hS5, hB5, hK5⟩))
      all_goals
        go_wp2; go_end0; exact ⟨rfl, hS5.mono (fun k h => h.imp_right (fun h => Nat.le_trans HB3.size h)), (HB3.mono hS.base).trans hB5, (Kept.of_below HB3 ok).trans hK5 HB3.size (fun _ _ h => h)⟩
    | false =>
      obtain rfl := Option.some.inj hh; go_wp2; go_end0; exact ⟨rfl, (hS.below HBn).mono (fun _ h => .inl h), HBn.mono hS.base, Kept.of_below HBn ok⟩
end Go.Proofs.YtmaipohgahdclaaGreatDoor.Pr
end
section
namespace Go.Proofs.YtmaipohgahdclaaGreatDoor.Pr
open Go.RowKit Go.Proofs.YtmaipohgahdclaaGreatDoorW.PrintWords Go.Proofs.YtmaipohgahdclaaGreatDoorW.PrintLast Go.Proofs.YtmaipohgahdclaaGreatDoorW.PrintMore
attribute [local go_sem] QaU QaS max_two min_two QaM QaL QaT QaR
set_option linter.unusedVariables false
set_option linter.unusedSimpArgs false
theorem roleLess_iff (a b : Role) : roleLess a b = true ↔ sLess a.f0 b.f0 = true ∨ (a.f0 = b.f0 ∧ sLess a.f1 b.f1 = true) := by
  unfold roleLess
  by_cases h : a = b
  · subst h
    rw [if_pos rfl, sLess_irrefl, sLess_irrefl]; simp
  · rw [if_neg h]
    show (sLess _ _ || (_ && sLess _ _)) = true ↔ _
    rw [Bool.or_eq_true, Bool.and_eq_true, Lib.bytes_beq_iff]
theorem pairLess_iff (a b : Pair) : pairLess a b = true ↔ roleLess a.f0 b.f0 = true ∨ (a.f0 = b.f0 ∧ sLess a.f1 b.f1 = true) := by
  unfold pairLess
  show (roleLess _ _ || (_ && sLess _ _)) = true ↔ _
  rw [Bool.or_eq_true, Bool.and_eq_true, decide_eq_true_eq]
theorem roleLess_irrefl (a : Role) : ¬ roleLess a a = true := by unfold roleLess; simp
theorem roleLess_trans {a b c : Role} (h1 : roleLess a b = true) (h2 : roleLess b c = true) : roleLess a c = true := by
  rw [roleLess_iff] at *
  rcases h1 with h1 | ⟨e1, h1⟩
  · rcases h2 with h2 | ⟨e2, h2⟩
    · exact .inl (sLess_trans h1 h2)
    · exact .inl (e2 ▸ h1)
  · rcases h2 with h2 | ⟨e2, h2⟩
    · exact .inl (e1 ▸ h2)
    · exact .inr ⟨e1.trans e2, sLess_trans h1 h2⟩
theorem roleLess_total {a b : Role} (h1 : ¬ roleLess a b = true) (h2 : ¬ roleLess b a = true) : a = b := by
  rw [roleLess_iff, not_or, not_and, Bool.not_eq_true, Bool.not_eq_true] at *; have e := sLess_total h1.1 h2.1; exact role_ext e (sLess_total (h1.2 e) (h2.2 e.symm))
theorem pairLess_irrefl (a : Pair) : ¬ pairLess a a = true := by
  rw [pairLess_iff, sLess_irrefl]; simp [roleLess_irrefl]
theorem pairLess_trans {a b c : Pair} (h1 : pairLess a b = true) (h2 : pairLess b c = true) : pairLess a c = true := by
  rw [pairLess_iff] at *
  rcases h1 with h1 | ⟨e1, h1⟩
  · rcases h2 with h2 | ⟨e2, h2⟩
    · exact .inl (roleLess_trans h1 h2)
    · exact .inl (e2 ▸ h1)
  · rcases h2 with h2 | ⟨e2, h2⟩
    · exact .inl (e1 ▸ h2)
    · exact .inr ⟨e1.trans e2, sLess_trans h1 h2⟩
theorem pairLess_total {a b : Pair} (h1 : ¬ pairLess a b = true) (h2 : ¬ pairLess b a = true) : a = b := by
  rw [pairLess_iff, not_or, not_and, Bool.not_eq_true] at *; have e := roleLess_total (by simpa using h1.1) (by simpa using h2.1); exact pair_ext e (sLess_total (by simpa using h1.2 e) (by simpa using h2.2 e.symm))
theorem pairCmp_lt (x y : Pair) : Go.Proofs.ltOf pairCmp x y = pairLess x y := by
  unfold Go.Proofs.ltOf pairCmp
  by_cases h : x = y
  · subst h
    rw [if_pos rfl]; have := pairLess_irrefl x
    simp_all
  · rw [if_neg h]
    by_cases h2 : pairLess x y = true
    · rw [if_pos h2, h2]
      rfl
    · rw [if_neg h2]
      simp_all
theorem pairSWO : Go.Sort.SWO (Go.Proofs.ltOf pairCmp) where
  irrefl x := by rw [pairCmp_lt]; have := pairLess_irrefl x; simp_all
  trans x y z h1 h2 := by rw [pairCmp_lt] at *; exact pairLess_trans h1 h2
  ntrans x y z h1 h2 := by
    rw [pairCmp_lt] at *; rw [Bool.eq_false_iff] at *; intro h3
    by_cases h4 : pairLess y x = true
    · exact h2 (pairLess_trans h4 h3)
    · rw [pairLess_total h1 h4] at h3
      exact h2 h3
def sortPairs (l : List Pair) : List Pair := l.mergeSort fun x y => !(Go.Proofs.ltOf pairCmp) y x
def encPairL (p : Pair) : List Value := [.string p.f0.f0, .string p.f0.f1, .string p.f1]
instance : Inhabited Pair := ⟨⟨⟨⟨#[]⟩, ⟨#[]⟩⟩, ⟨#[]⟩⟩⟩
theorem flatPair : Flat kPair encPairL where
  opens h := k51_openM h
  shuts w base ok x := k51_mkM w base ok x
  len _ := rfl
theorem isAggPair (w : World) : (isAgg 51).run Tryz.prog w = .ok true w := by kernel_rfl
theorem sizeOfPair (w : World) : (Go.sizeOf 51).run Tryz.prog w = .ok 3 w := by kernel_rfl
theorem sort_calls (w : World) (B : Nat) (v : Value) (l : List Pair) (hR : Kd.R kPair 51 w B (fun _ => True) v l) (hB : B ≤ w.heap.size) (hl : l.length < 4611686018427387904) : Calls Tryz.prog 55 #[v, .func (.func 56) #[] #[]] w fun e w' =>
    e = .returned (.tuple #[]) ∧ Kd.R kPair 51 w' B (fun _ => True) v (sortPairs l) ∧ Below B w w' := by
  obtain ⟨A, c, rfl⟩ := Kd.R_slice hR
  cases A with
  | none =>
    have hl : l = [] := by
      obtain ⟨_, inner, ⟨_, ho⟩, hr⟩ := hR
      rcases ho with ⟨_, h0⟩ | ⟨g', cap', cur, hv, _⟩
      · exact List.eq_nil_of_length_eq_zero h0
      · cases hv
    subst hl; refine (AnyF.slices_SortFunc_none Tryz.sortPair none c (.func (.func 56) #[] #[]) w).mono ?_; rintro e w' ⟨rfl, rfl⟩; exact ⟨rfl, by simpa [sortPairs] using hR, Below.refl _ _⟩
  | some a =>
    obtain ⟨g, off, fr⟩ := a
    have hfr : fr = none := by
      obtain ⟨_, inner, ⟨_, ho⟩, hr⟩ := hR
      rcases ho with ⟨h0, _⟩ | ⟨g', cap', cur, hv, _⟩
      · cases h0
      · simp only [Value.slice.injEq, Option.some.injEq, Addr.mk.injEq] at hv
        exact hv.1.2.2
    subst hfr; obtain ⟨rfl, _, hg, hH, hlt, hmax⟩ := holds_of_R flatPair hR; have eg : ∀ args w, (callFunc 56 args).run Tryz.prog w = .ok (.enter 56 args) w := enters_of Tryz.func56 (by kernel_rfl) rfl
    have hc : CmpLays Tryz.prog 56 #[] encPairL 3 pairCmp g 0 l.toArray.size w := fun _ _ _ _ x y => pairs1_calls x y _
    have hT : ∀ x y, (ltOf pairCmp) x y = false → (ltOf pairCmp) y x = false → x = y := fun x y h1 h2 => by
      rw [pairCmp_lt] at *; exact pairLess_total (by simp_all) (by simp_all)
    have hsz : l.toArray.size < 4611686018427387904 := by simpa using hl
    refine (AnyQ.slices_SortFunc_total Tryz.sortPair 3 isAggPair sizeOfPair encPairL (fun _ => rfl) (fun x v hv => by simp [encPairL] at hv; rcases hv with rfl | rfl | rfl <;> rfl) pairCmp pairSWO 56 #[] g 0 c l.toArray w eg hc hH hlt hsz hT).mono ?_; rintro e w' ⟨rfl, n, os, rfl⟩; exact ⟨rfl, R_of_sorted flatPair hR n (sortPairs l) os (List.length_mergeSort _), sorted_below encPairL w g 3 n (sortPairs l) os hB hg⟩
theorem sortPairs_length (l : List Pair) : (sortPairs l).length = l.length := List.length_mergeSort _
theorem R_keep {α : Type} {d : Kd α} {e : Nat} {w w1 : World} {base : Nat} {ok : Nat → Prop} {v : Value} {xs : List α} (h : Kd.R d e w base ok v xs) {row : Nat} (hg : w.grownBy w1 (some row)) (hrow : ∀ c t, w.heap[row]? ≠ some (.cells c t (0, 0))) : Kd.R d e w1 base ok v xs := by
  refine Kd.R_mono (Kd.R_move (Kd.R_bound h) (fun k hk => ?_)) (fun _ hk => hk.1); obtain ⟨_, _, hlt, q, _, cells, hc⟩ := hk; refine hg.block k hlt (fun e => ?_)
  injection e with e
  subst e; exact hrow _ _ hc
theorem rng_cells {w : World} {b r : Nat} {l left : List (Pair × Value)} (h : Rng encPair okPair w b r l left) : (∀ c t, w.heap[r]? ≠ some (.cells c t (0, 0))) ∧ (∀ c t, w.heap[b]? ≠ some (.cells c t (0, 0))) := by
  obtain ⟨es, clock, since, seen, c0, hb, hl, ho, hs, hm, hr, _⟩ := h; exact ⟨fun c t e => by (rw [hr] at e; cases e), fun c t e => by (rw [hb] at e; cases e)⟩
theorem knownT_split {left : List Pair} {a c : List (Pair × Value)} {x : Pair × Value} (h : knownT left = a ++ x :: c) : ∃ l1 p l2, left = l1 ++ p :: l2 ∧ a = knownT l1 ∧ c = knownT l2 ∧ x = (p, .bool true) := by
  unfold knownT at *; obtain ⟨l1, l2', rfl, h1, h2⟩ := List.map_eq_append_iff.mp h; obtain ⟨p, l2, rfl, h3, h4⟩ := List.map_eq_cons_iff.mp h2; exact ⟨l1, p, l2, rfl, h1.symm, h4.symm, h3.symm⟩
theorem sortPairs_perm {l l' : List Pair} (h : l.Perm l') : sortPairs l = sortPairs l' := by
  have hsort : ∀ x : List Pair, (sortPairs x).Pairwise (fun a b => (!(ltOf pairCmp) b a) = true) := fun x => by
    unfold sortPairs; refine List.pairwise_mergeSort (le := fun x y => !(ltOf pairCmp) y x) ?_ ?_ x
    · intro a b c h1 h2
      simp only [Bool.not_eq_true'] at *; exact pairSWO.ntrans _ _ _ h2 h1
    · intro a b
      rw [pairCmp_lt, pairCmp_lt]
      by_cases h1 : pairLess b a = true
      · have : ¬ pairLess a b = true := fun h2 => pairLess_irrefl _ (pairLess_trans h1 h2)
        simp_all
      · simp_all
  refine List.Perm.eq_of_pairwise (le := fun a b => (!(ltOf pairCmp) b a) = true) ?_ (hsort l) (hsort l') (((List.mergeSort_perm l _).trans h).trans (List.mergeSort_perm l' _).symm); intro a b _ _ h1 h2; simp only [pairCmp_lt] at h1 h2; exact pairLess_total (by simp_all) (by simp_all)
set_option maxRecDepth 100000 in
set_option maxHeartbeats 4000000 in
theorem pairs_calls (w : World) (B g b : Nat) (ok : Nat → Prop) (vc : Value) (creds : List Cred) (s : St) (hS : SolverAt w B ok g b vc creds s.known s.waits) (hroom : s.known.length ≤ 1000000) :
    Calls Tryz.prog 34 #[.pointer (some ⟨g, 0, none⟩)] w fun e w' => ∃ v, e = .returned v ∧ Kd.R kPair 51 w' w.heap.size (fun _ => True) v (sortPairs s.known) ∧ Below w.heap.size w w' := by
  have s1 := (SolverAt.cells hS).2; have _ := @look_known; obtain ⟨vw, hg, hBg, hBb, hvc, hT, hQ⟩ := hS; obtain ⟨O, hrun, hrng⟩ := hT.range (P := Tryz.prog) Tryz.underlying69; have hrun1 := hrun w rfl; have HR0 := Lib.hid (hrng w rfl); clear hrun hrng hT; clear hg hBg hBb hvc hQ; go_enter Tryz.func34, Tryz.ntmps34; go_wp2
  go_loopg [3, 4] (s.known.length + 1) (fun kq v3 _ w' => ∃ dn left : List Pair, Hid (kq = left.length + 1) ∧ Hid (Kd.R kPair 51 w' w.heap.size (fun _ => True) v3 dn) ∧ Hid (Rng encPair okPair w' b w.heap.size (knownT s.known) (knownT left)) ∧ Hid ((dn ++ left).Perm s.known) ∧ Hid (Below w.heap.size w w'))
  case atStart => exact ⟨[], s.known, Lib.hid rfl, Lib.hid (Kd.R_nil _ _ _ _ _), Lib.hid HR0.out, Lib.hid (List.Perm.refl _), Lib.hid (Qab (Below.refl _ _) _)⟩
  case round =>
    clear hrun1 HR0; obtain ⟨dn, left, HK, HO, HRng, HP, HB⟩ := hrel
    rcases HRng.out.next (P := Tryz.prog) 0 with ⟨hl, hnx⟩ | ⟨a, x, c, w1, hsp, hok, hnx, hrng1, hgr, hsz, hent⟩
    · have hl' : left = [] := by simpa [knownT] using hl
      have HE := Lib.hid hl'; clear hl hl'
      go_wp2_with (go_at_call 55; refine (sort_calls _ w.heap.size _ dn HO.out HB.out.size (by have := HP.out.length_eq; simp at this; omega)).mono ?_; rintro e w3 ⟨rfl, hR3, hB3⟩)
      go_ret; have hp := HP.out; rw [HE.out, List.append_nil] at hp; rw [sortPairs_perm hp] at hR3; exact ⟨_, rfl, hR3, HB.out.trans hB3⟩
    · obtain ⟨l1, p, l2, e0, rfl, rfl, rfl⟩ := knownT_split hsp
      have HE := Lib.hid e0; have HC := rng_cells HRng.out; have R1 := Lib.hid (R_keep HO.out hgr HC.1); have B1 := Lib.hid (HB.out.grown hgr HB.out.size (fun k hk => by injection hk with hk; omega)); have N1 := Lib.hid hrng1; have hent1 := hent w1 rfl rfl; have LM := Lib.hid (show dn.length < 1000001 by have := HP.out.length_eq; simp at this; omega); unfold encPair at hnx hent1; clear hsp e0 hok hrng1 hgr hsz hent HC HO HRng HB
      go_wp2_with ((with_reducible refine gate_builtin (b := .append) (xs := #[.tmp 14, .tmp 16]) rfl ?_); at_builtin; refine Kd.R_append kPair (w0 := w) w.heap.size rfl (.tmp 14) (.tmp 16) 49 51 (.agg #[(.string ⟨#[]⟩), (.string ⟨#[]⟩), (.string ⟨#[]⟩)]) 48 rfl Tryz.underlying49 infoPair rfl (by decide) (by omega) _ dn p [.string p.f0.f0, .string p.f0.f1, .string p.f1] (fun _ => True) (fun _ => False) rfl ?aX ?aP (fun _ hk => hk.elim) (fun _ _ => trivial) ?aO ?aB ?aS ?aL ?_; (case aX => (show Value.slice (some ⟨w1.heap.size + 1, 0, none⟩) 1 1 = _; simp)); (case aP => exact k51_mkM _ _ _ p); (case aB => exact (Qab B1.out _)); (case aO => exact (Kd.Qaw R1.out _)); (case aS => exact (Qas (Qab B1.out _))); (case aL => have := LM.out; omega); intro v2 w2 ho hb hg hat)
      have hne := rng_cells N1.out
      have hrow : ∀ i, (∀ c t, w1.heap[i]? ≠ some (.cells c t (0, 0))) → some i ≠ u3.ownBlock := fun i hi e => by
        obtain ⟨cells, hc⟩ := Kd.R_typed R1.out i e.symm; exact hi _ _ hc
      have hnew := (N1.out.below (Qab (Below.refl w1.heap.size w1) _)).grown hg (hrow b hne.2) (hrow _ hne.1); have HG := Lib.hid hnew; clear hnew hnx hent1
      go_roundg ((l1 ++ l2).length + 1)
      case measure =>
        have e1 := HK.out; rw [HE.out] at e1; simp at e1 ⊢; omega
      case rel =>
        refine ⟨dn ++ [p], l1 ++ l2, Lib.hid rfl, Lib.hid ho, Lib.hid ?_, Lib.hid ?_, Lib.hid hb⟩
        · have := HG.out
          rw [show knownT (l1 ++ l2) = knownT l1 ++ knownT l2 from List.map_append]; exact this
        · have hp := HP.out
          rw [HE.out] at hp; refine List.Perm.trans ?_ hp; rw [List.append_assoc]; exact List.Perm.append_left dn (show (p :: (l1 ++ l2)).Perm (l1 ++ p :: l2) from List.perm_middle.symm)
end Go.Proofs.YtmaipohgahdclaaGreatDoor.Pr
end
section
namespace Go.Proofs.YtmaipohgahdclaaGreatDoor.Pr
open Go.RowKit Go.Proofs.YtmaipohgahdclaaGreatDoorW.PrintWords Go.Proofs.YtmaipohgahdclaaGreatDoorW.PrintLast Go.Proofs.YtmaipohgahdclaaGreatDoorW.PrintMore
attribute [local go_sem] QaU QaS max_two min_two QaM QaL QaT QaR
set_option linter.unusedVariables false
set_option linter.unusedSimpArgs false
attribute [local go_sem high] eqA24
def linkFirst (c : Cred) : Role := ⟨domName c.f0.f0, c.f4.f1⟩
def learnMany (c : Cred) (second : Role) : List Pair → St → Option St
  | [], s => some s
  | q :: l, s => if q.f0 = second then (s.learn ⟨credRole c, q.f1⟩).bind (learnMany c second l) else learnMany c second l s
def linkA (c : Cred) (p : Pair) (s : St) : Option St :=
  if p.f0 = linkFirst c then (names_Number.f 20 p.f1).bind fun n => if n > 0 then (if s.known.length ≤ 1000000 then learnMany c ⟨p.f1, c.f5.f1⟩ (sortPairs s.known) s else none) else some s else some s
def linkB (c : Cred) (p : Pair) (s : St) : Option St :=
  if p.f0.f1 = c.f5.f1 then (if okPair ⟨linkFirst c, p.f0.f0⟩ then (if (⟨linkFirst c, p.f0.f0⟩ : Pair) ∈ s.known then s.learn ⟨credRole c, p.f1⟩ else some s) else none) else some s
def linkF (c : Cred) (p : Pair) (s : St) : Option St := (linkA c p s).bind (linkB c p)
abbrev roleObj (r : Role) : Obj := .cells #[.string r.f0, .string r.f1] 24
theorem roleCells {W : World} {k : Nat} {r : Role} (h : W.heap[k]? = some (roleObj r)) : W.cell? ⟨k, 0, none⟩ = some (.string r.f0) ∧ W.cell? ⟨k, 1, none⟩ = some (.string r.f1) :=
  ⟨(Qaj h 0).trans rfl, (Qaj h 1).trans rfl⟩
theorem wrap_id {n : Int} (h0 : -9223372036854775808 ≤ n) (h1 : n ≤ 9223372036854775807) : wrap64 n = n := by
  unfold wrap64; omega
set_option maxRecDepth 100000 in
set_option maxHeartbeats 4000000 in
theorem link_calls (w : World) (B g b : Nat) (ok : Nat → Prop) (vc : Value) (creds : List Cred) (s s' : St) (c : Cred) (p : Pair) (hS : SolverAt w B ok g b vc creds s.known s.waits) (hok : ∀ k, ok k → k < w.heap.size) (h : linkF c p s = some s') :
    Calls Tryz.prog 53 #[.pointer (some ⟨g, 0, none⟩), encCred c, encPair p] w fun e w' => e = .returned (.tuple #[]) ∧ SolverAt w' B (fun k => ok k ∨ w.heap.size ≤ k) g b vc creds s'.known s'.waits ∧ Below B w w' ∧ Kept w w' ok := by
  unfold encPair encCred; go_enter Tryz.func53, Tryz.ntmps53
  go_upto_region 1 with fail
  change Code.wp _ _ _ _ ((w.alloc (credObj c)).alloc (pairObj p))
  generalize hW : (w.alloc (credObj c)).alloc (pairObj p) = W
  obtain ⟨HB, BC, BP⟩ := boxed hW; obtain ⟨c0, c1, c2, c3, c4, c5, c6, c7, c8⟩ := credCells BC; obtain ⟨p0, p1, p2⟩ := pairCells BP; clear hW
  go_cut [6] from 6 to 78 (fun v wc => ∃ k1, v = .pointer (some ⟨k1, 0, none⟩) ∧ w.heap.size ≤ k1 ∧ wc.heap[k1]? = some (roleObj (linkFirst c)) ∧ Below W.heap.size W wc)
  case first =>
    have c0a := cell_alloc c0 (.cells #[.string ⟨#[]⟩, .string ⟨#[]⟩] 24); have c6a := cell_alloc c6 (.cells #[.string ⟨#[]⟩, .string ⟨#[]⟩] 24)
    --FIRST
    go_region_with (go_at_call 43; refine (domain_walk _ _).mono ?_; rintro e w' ⟨rfl, rfl⟩)
    all_goals
      go_wp2_with fail
      go_meet
      case rel => exact ⟨W.heap.size, rfl, HB.size, Qah (blk_new W _), Qac (Qab (Below.refl _ _) _)⟩
    --END
  case rest =>
    obtain ⟨k1, rfl, hk1, BF, HB1⟩ := hcut; have HBc := Qak HB HB1; have BCc := Qal BC HB1; have BPc := Qal BP HB1; clear c0 c1 c2 c3 c4 c5 c6 c7 c8 p0 p1 p2 BC BP HB HB1; obtain ⟨s1, hA, hB⟩ := Option.bind_eq_some_iff.mp h; clear h; have K1 := Lib.hid hk1; clear hk1
    go_upto_region 2 with fail
    have KA := Lib.hid hA; clear hA
    go_cut [27] from 10 to 78 (fun v w2 => ∃ t : Bool, v = .bool t ∧ (∃ n, w2 = wc.drewN n) ∧ (if t then (s.known.length ≤ 1000000 ∧ learnMany c ⟨p.f1, c.f5.f1⟩ (sortPairs s.known) s = some s1) else s = s1))
    case first =>
      clear hB; obtain ⟨c0, c1, c2, c3, c4, c5, c6, c7, c8⟩ := credCells BCc; obtain ⟨p0, p1, p2⟩ := pairCells BPc; obtain ⟨f0, f1⟩ := roleCells BF; have hA := KA.out; unfold linkA at hA
      by_cases e1 : p.f0 = linkFirst c
      · rw [if_pos e1] at hA
        obtain ⟨n, hn, hA⟩ := Option.bind_eq_some_iff.mp hA; have hb1 := eqRole_t e1; clear e1 KA; have HN := Lib.hid hn; clear hn
        by_cases hn0 : n > 0
        · rw [if_pos hn0] at hA
          have d1 : decide (0 < n) = true := decide_eq_true hn0; clear hn0
          by_cases hl : s.known.length ≤ 1000000
          · rw [if_pos hl] at hA
            have HA := Lib.hid hA; have HL := Lib.hid hl; clear hA hl
            go_wp2_with (go_at_call 48; refine (names_Number.calls 20 _ _ _ HN.out).mono ?_; rintro e w' ⟨rfl, ⟨nd, rfl⟩⟩)
            go_meet
            case rel => exact ⟨true, rfl, ⟨_, rfl⟩, HL.out, HA.out⟩
          · rw [if_neg hl] at hA
            cases hA
        · rw [if_neg hn0] at hA
          have HA := Lib.hid (Option.some.inj hA); have d1 : decide (0 < n) = false := decide_eq_false hn0; clear hn0 hA
          go_wp2_with (go_at_call 48; refine (names_Number.calls 20 _ _ _ HN.out).mono ?_; rintro e w' ⟨rfl, ⟨nd, rfl⟩⟩)
          go_meet
          case rel => exact ⟨false, rfl, ⟨_, rfl⟩, HA.out⟩
      · rw [if_neg e1] at hA
        have HA := Lib.hid (Option.some.inj hA); have hb1 := eqRole_f e1; clear e1 hA KA; go_wp2
        go_meet
        case rel => exact ⟨false, rfl, ⟨0, rfl⟩, HA.out⟩
    case rest =>
      obtain ⟨t, rfl, ⟨nd, rfl⟩, ht⟩ := hcut; have HBd := Qaa HBc nd; have BCd := Qag BCc nd; have BPd := Qag BPc nd; have BFd := Qag BF nd; clear HBc BCc BPc BF
      generalize wc.drewN nd = V at HBd BCd BPd BFd ⊢
      have HT := Lib.hid ht; clear ht KA
      go_upto_if 27 with fail
      go_cut [] from 7 to 78 (fun w2 => SolverAt w2 B (fun k => ok k ∨ w.heap.size ≤ k) g b vc creds s1.known s1.waits ∧ Below B w w2 ∧ Kept w w2 ok ∧ w2.heap[w.heap.size]? = some (credObj c) ∧ w2.heap[w.heap.size + 1]? = some (pairObj p) ∧ w2.heap[k1]? = some (roleObj (linkFirst c)))
      case first =>
        cases t with
        | false =>
          go_wp2
          go_meet
          case rel =>
            obtain rfl : s = s1 := HT.out; exact ⟨(hS.below HBd).mono (fun _ h => .inl h), HBd.mono hS.base, Kept.of_below HBd ok, BCd, BPd, BFd⟩
        | true =>
          obtain ⟨hl, hm⟩ : s.known.length ≤ 1000000 ∧ learnMany c ⟨p.f1, c.f5.f1⟩ (sortPairs s.known) s = some s1 := HT.out; obtain ⟨c0, c1, c2, c3, c4, c5, c6, c7, c8⟩ := credCells BCd; obtain ⟨p0, p1, p2⟩ := pairCells BPd; have HM := Lib.hid hm; have HL := Lib.hid hl; clear hm hl HT
          go_upto_region 4 with fail
          change Code.wp _ _ _ _ (V.alloc (.cells #[.string p.f1, .string c.f5.f1] 24)); have HB2 := Qab HBd (roleObj ⟨p.f1, c.f5.f1⟩); have BC2 := Qaf BCd (roleObj ⟨p.f1, c.f5.f1⟩); have BP2 := Qaf BPd (roleObj ⟨p.f1, c.f5.f1⟩); have BF2 := Qaf BFd (roleObj ⟨p.f1, c.f5.f1⟩); have BS2 := blk_new V (roleObj ⟨p.f1, c.f5.f1⟩); have HV := Lib.hid (HBd.size); clear c0 c1 c2 c3 c4 c5 c6 c7 c8 p0 p1 p2 HBd BCd BPd BFd; change Code.wp _ _ _ _ (V.alloc (roleObj ⟨p.f1, c.f5.f1⟩))
          generalize hU : V.alloc (roleObj ⟨p.f1, c.f5.f1⟩) = U at HB2 BC2 BP2 BF2 BS2 ⊢
          clear hU
          go_wp2_with (go_at_call 34; refine (pairs_calls _ B g b ok vc creds s (hS.below HB2) HL.out).mono ?_; rintro e w5 ⟨v5, rfl, hR5, hB5⟩; obtain ⟨A5, cc5, rfl⟩ := Kd.R_slice hR5; have HB5 := Qak HB2 hB5; have BC5 := Qal BC2 hB5; have BP5 := Qal BP2 hB5; have BF5 := Qal BF2 hB5; have BS5 := Qal BS2 hB5)
          have HU := Lib.hid HB2.size; have hS5 := hS.below HB5; have HS5 := Lib.hid hS5; have HB5' := Lib.hid HB5; have HR5 := Lib.hid hR5; have HC5 := Lib.hid BC5; have HP5 := Lib.hid BP5; have HF5 := Lib.hid BF5; have HT5 := Lib.hid BS5; have VLE := Lib.hid (show V.heap.size < w5.heap.size from blk_lt BS5); clear hR5 hB5 hS5 HB5 BC5 BP5 BF5 BS5 HB2 BC2 BP2 BF2 BS2; have HLL := Lib.hid (show (sortPairs s.known).length ≤ 1000000 by rw [sortPairs_length]; exact HL.out)
          generalize sortPairs s.known = L at HM HR5 HLL ⊢
          go_loopg [37, 9] (L.length + 1) (fun kq v37 _ w' => ∃ (i : Nat) (st : St), v37 = .int .i64 i ∧ Hid (kq = L.length + 1 - i) ∧ Hid (i ≤ L.length) ∧ Hid (learnMany c ⟨p.f1, c.f5.f1⟩ (L.drop i) st = some s1) ∧ Hid (SolverAt w' B (fun k => ok k ∨ w5.heap.size ≤ k) g b vc creds st.known st.waits) ∧ Hid (Below B w w') ∧ Hid (Kept w5 w' ok) ∧ Hid (w5.heap.size ≤ w'.heap.size))
          case atStart => exact ⟨0, s, rfl, Lib.hid rfl, Lib.hid (Nat.zero_le _), Lib.hid HM.out, Lib.hid (HS5.out.mono (fun _ h => .inl h)), Lib.hid (HB5'.out.mono hS.base), Lib.hid (fun _ _ _ => rfl), Lib.hid (Nat.le_refl _)⟩
          case round =>
            obtain ⟨i, st, rfl, HK, HI, HLM, HSt, HBt, HKt, HSz⟩ := hrel
            have box : ∀ {k : Nat} {o : Obj}, w5.heap[k]? = some o → w.heap.size ≤ k → ∀ w', Kept w5 w' ok → w'.heap[k]? = some o := fun hb hk w' hK => (hK _ (blk_lt hb) (fun e => by have := hok _ e; omega)).trans hb
            by_cases hi : i < L.length
            · have d1 : decide ((i : Int) < (L.length : Int)) = true := decide_eq_true (by omega)
              have d2 : decide (i < L.length) = true := decide_eq_true hi; have B4 := box HC5.out (Nat.le_refl _) _ HKt.out; have B5 := box HP5.out (by omega) _ HKt.out; have B7 := box HT5.out HV.out _ HKt.out
              have HKU : ∀ k, U.heap.size ≤ k → ¬ ok k := fun k hk e => by have := hok k e; have := HU.out; omega
              have R9 : Kd.R kPair 51 wr U.heap.size (fun _ => True) (.slice A5 L.length cc5) L := Kd.R_mono (Kd.R_move (Kd.R_bound HR5.out) (fun k hk => HKt.out k hk.2.2.1 (HKU k hk.2.1))) (fun _ h => h.1); obtain ⟨ad, e, hx0, hx1, hx2⟩ := at_T51 (Kd.QaQ R9).2.2 (i : Int) (by omega) (by omega); cases e
              obtain ⟨q, hq⟩ : ∃ q, q = L[i] := ⟨_, rfl⟩
              have erd : rd_T51 L (i : Int) = q := by
                unfold rd_T51; rw [hq, Int.toNat_natCast, List.getD_eq_getElem?_getD, List.getElem?_eq_getElem hi]; rfl
              rw [erd, Int.toNat_natCast] at hx0 hx1 hx2; have hm := HLM.out; rw [List.drop_eq_getElem_cons hi, ← hq] at hm; unfold learnMany at hm
              have p101 : 0 ≤ (i : Int) := by omega
              have q101 : (i : Int) < (L.length : Int) := by omega
              replace p101 := eq_true p101; replace q101 := eq_true q101; have HIL := Lib.hid hi; clear box hi hq erd R9
              go_upto_region 7 with fail
              change Code.wp _ _ _ _ (wr.alloc (pairObj q)); have HX := Qab (Below.refl wr.heap.size wr) (pairObj q); have B9 := blk_new wr (pairObj q); have B4x := Qal B4 HX; have B7x := Qal B7 HX; clear B4 B5 B7 hx0 hx1 hx2
              generalize wr.alloc (pairObj q) = X at HX B9 B4x B7x ⊢
              obtain ⟨c0, c1, c2, c3, c4, c5, c6, c7, c8⟩ := credCells B4x; obtain ⟨s0, s1'⟩ := roleCells B7x; obtain ⟨q0, q1, q2⟩ := pairCells B9
              have wrapI : wrap64 ((i : Int) + 1) = ((i + 1 : Nat) : Int) := by rw [wrap_id (by omega) (by have := HLL.out; have := HIL.out; omega)]; rfl
              by_cases e1 : q.f0 = ⟨p.f1, c.f5.f1⟩
              · rw [if_pos e1] at hm
                obtain ⟨st2, h1, h2⟩ := Option.bind_eq_some_iff.mp hm; have H1 := Lib.hid h1; have H2 := Lib.hid h2; have hb1 : (q.f0.f0.toList == p.f1.toList && (q.f0.f1.toList == c.f5.f1.toList)) = true := eqRole_t e1; clear e1 hm h1 h2; go_wp2
                go_region_with (first | (go_at_call 23; refine (credRole_calls c _).mono ?_; rintro e w3 ⟨rfl, hB3⟩; have HB3 : Below X.heap.size X w3 := Qak (by repeat (first | exact Below.refl _ _ | apply Qaa | apply Qac)) hB3; have p23 := QaJ hB3 q2) | (go_at_call 51; refine (learn_calls _ B g b (fun k => ok k ∨ w5.heap.size ≤ k) vc creds st st2 ⟨credRole c, q.f1⟩ ?_ H1.out).mono ?_; exact (HSt.out.below HX).below HB3; rintro e w8 ⟨rfl, hS8, hB8, hK8⟩))
                all_goals
                  go_wp2
                  go_roundg (L.length + 1 - (i + 1))
                  case measure => have := HK.out; have := HI.out; omega
                  case rel => exact ⟨i + 1, st2, by first | rfl | exact congrArg _ wrapI, Lib.hid rfl, Lib.hid (by have := HIL.out; omega), Lib.hid H2.out, Lib.hid (hS8.mono (fun k h => h.elim id (fun h => .inr (by have := HSz.out; have := HX.size; have := HB3.size; omega)))), Lib.hid ((HBt.out.trans (HX.mono (by have := HSt.out.base; omega))).trans ((HB3.mono (by have := HSt.out.base; have := HX.size; omega)).trans hB8)), Lib.hid (fun k hk hn => (hK8 k (by have := HSz.out; have := HX.size; have := HB3.size; omega) (fun e => e.elim hn (by omega))).trans ((HB3.block k (by have := HSz.out; have := HX.size; omega)).trans ((HX.block k (by have := HSz.out; omega)).trans (HKt.out k hk hn)))), Lib.hid (by have := HSz.out; have := HX.size; have := HB3.size; have := hB8.size; omega)⟩
              · rw [if_neg e1] at hm
                have H2 := Lib.hid hm; have hb1 : (q.f0.f0.toList == p.f1.toList && (q.f0.f1.toList == c.f5.f1.toList)) = false := eqRole_f e1; clear e1 hm; go_wp2
                go_roundg (L.length + 1 - (i + 1))
                case measure => have := HK.out; have := HI.out; omega
                case rel => exact ⟨i + 1, st, by first | rfl | exact congrArg _ wrapI, Lib.hid rfl, Lib.hid (by have := HIL.out; omega), Lib.hid H2.out, Lib.hid (HSt.out.below HX), Lib.hid (HBt.out.trans (HX.mono (by have := HSt.out.base; omega))), Lib.hid (fun k hk hn => (HX.block k (by have := HSz.out; omega)).trans (HKt.out k hk hn)), Lib.hid (by have := HSz.out; have := HX.size; omega)⟩
            · have d1 : decide ((i : Int) < (L.length : Int)) = false := decide_eq_false (by omega)
              have d2 : decide (i < L.length) = false := decide_eq_false hi; have HE := Lib.hid (show i = L.length by have := HI.out; omega); clear hi; go_wp2
              go_meet
              case rel =>
                have hm := HLM.out; rw [HE.out, List.drop_length] at hm; obtain rfl : st = s1 := Option.some.inj hm; exact ⟨HSt.out.mono (fun k h => h.imp_right (fun h => Nat.le_trans HB5'.out.size h)), HBt.out, (Kept.of_below HB5'.out ok).trans HKt.out HB5'.out.size (fun _ _ h => h), box HC5.out (Nat.le_refl _) _ HKt.out, box HP5.out (by omega) _ HKt.out, box HF5.out K1.out _ HKt.out⟩
      case rest =>
        obtain ⟨hS2, hB2, hK2, BC2, BP2, BF2⟩ := hcut; obtain ⟨c0, c1, c2, c3, c4, c5, c6, c7, c8⟩ := credCells BC2; obtain ⟨p0, p1, p2⟩ := pairCells BP2; obtain ⟨f0, f1⟩ := roleCells BF2; have s1c := (SolverAt.cells hS2).2; have HWc := Lib.hid (show w.heap.size ≤ wc.heap.size from Nat.le_of_lt (blk_lt BC2)); clear HT HBd BCd BPd BFd; have hBw := Below.refl wc.heap.size wc
        go_upto_region 10 with fail
        go_cut [71] from 53 to 78 (fun v w3 => ∃ t : Bool, v = .bool t ∧ (∃ n, w3 = wc.drewN n) ∧ (if t then s1.learn ⟨credRole c, p.f1⟩ else some s1) = some s')
        case first =>
          unfold linkB at hB
          by_cases e1 : p.f0.f1 = c.f5.f1
          · rw [if_pos e1] at hB
            have hb1 : (p.f0.f1.toList == c.f5.f1.toList) = true := by rw [e1]; simp
            clear e1
            by_cases k1' : okPair ⟨linkFirst c, p.f0.f0⟩
            · rw [if_pos k1'] at hB
              have l1 := fun n => look_known hS2 hBw (linkFirst c) p.f0.f0 k1' n
              by_cases i1 : (⟨linkFirst c, p.f0.f0⟩ : Pair) ∈ s1.known
              · rw [if_pos i1] at hB
                simp only [decide_eq_true i1] at l1; have HH := Lib.hid hB; clear hB k1'
                go_quiet (fail)
                all_goals
                  go_wp2_with fail
                  go_meet
                  case rel => exact ⟨true, rfl, ⟨_, rfl⟩, HH.out⟩
              · rw [if_neg i1] at hB
                simp only [decide_eq_false i1] at l1; have HH := Lib.hid hB; clear hB k1'
                go_quiet (fail)
                all_goals
                  go_wp2_with fail
                  go_meet
                  case rel => exact ⟨false, rfl, ⟨_, rfl⟩, HH.out⟩
            · rw [if_neg k1'] at hB
              cases hB
          · rw [if_neg e1] at hB
            have hb1 : (p.f0.f1.toList == c.f5.f1.toList) = false := (Lib.bytes_beq_false_iff _ _).mpr e1; have HH := Lib.hid hB; clear hB e1
            go_quiet (fail)
            all_goals
              go_wp2_with fail
              go_meet
              case rel => exact ⟨false, rfl, ⟨_, rfl⟩, HH.out⟩
        case rest =>
          obtain ⟨t, rfl, ⟨n3, rfl⟩, ht⟩ := hcut; have HBn := Qaa hBw n3; have BCn := Qag BC2 n3; have BPn := Qag BP2 n3; clear c0 c1 c2 c3 c4 c5 c6 c7 c8 p0 p1 p2 f0 f1 BC2 BP2 BF2; have HH := Lib.hid ht
          generalize wc.drewN n3 = Y at HBn BCn BPn ⊢
          obtain ⟨c0, c1, c2, c3, c4, c5, c6, c7, c8⟩ := credCells BCn; obtain ⟨p0, p1, p2⟩ := pairCells BPn; have HSY := Lib.hid (hS2.below HBn); have HBY := Lib.hid (hB2.trans (HBn.mono hS2.base)); have HKY := Lib.hid (show Kept w Y ok from hK2.trans (Kept.of_below HBn ok) HWc.out (fun _ _ h => h)); have HSZ := Lib.hid (show w.heap.size ≤ Y.heap.size by have := HWc.out; have := HBn.size; omega); clear HBn BCn BPn hS2 hB2 hK2 hBw s1c ht
          cases t with
          | false =>
            obtain rfl : s1 = s' := Option.some.inj HH.out; go_wp2; go_end0; exact ⟨rfl, HSY.out, HBY.out, HKY.out⟩
          | true =>
            go_wp2
            go_region_with (first | (go_at_call 23; refine (credRole_calls c _).mono ?_; rintro e w3 ⟨rfl, hB3⟩; have HB3 : Below Y.heap.size Y w3 := Qak (by repeat (first | exact Below.refl _ _ | apply Qaa | apply Qac)) hB3; have p23 := QaJ hB3 p2) | (go_at_call 51; refine (learn_calls _ B g b (fun k => ok k ∨ w.heap.size ≤ k) vc creds s1 s' ⟨credRole c, p.f1⟩ ?_ HH.out).mono ?_; exact HSY.out.below HB3; rintro e w8 ⟨rfl, hS8, hB8, hK8⟩))
            all_goals
              go_wp2; go_end0; exact ⟨rfl, hS8.mono (fun k h => h.elim id (fun h => .inr (by have := HSZ.out; have := HB3.size; omega))), (HBY.out.trans (HB3.mono HSY.out.base)).trans hB8, fun k hk hn => (hK8 k (by have := HSZ.out; have := HB3.size; omega) (fun e => e.elim hn (by omega))).trans ((HB3.block k (by have := HSZ.out; omega)).trans (HKY.out k hk hn))⟩
end Go.Proofs.YtmaipohgahdclaaGreatDoor.Pr
end
section
namespace Go.Proofs.YtmaipohgahdclaaGreatDoor.Pr
open Go.RowKit Go.Proofs.YtmaipohgahdclaaGreatDoorW.PrintWords Go.Proofs.YtmaipohgahdclaaGreatDoorW.PrintLast Go.Proofs.YtmaipohgahdclaaGreatDoorW.PrintMore
attribute [local go_sem] QaU QaS max_two min_two QaM QaL QaT QaR
set_option linter.unusedVariables false
set_option linter.unusedSimpArgs false
def membersF : List Cred → St → Option St
  | [], s => some s
  | c :: l, s => if c.f2 = 1 then (s.learn ⟨credRole c, c.f3⟩).bind (membersF l) else membersF l s
def stepF (p : Pair) (c : Cred) (s : St) : Option St := if c.f2 = 1 then some s else if c.f2 = 3 then linkF c p s else if c.f2 = 4 then bothF c p s else includeF c p s
def stepsF (p : Pair) : List Cred → St → Option St
  | [], s => some s
  | c :: l, s => (stepF p c s).bind (stepsF p l)
def loopF (creds : List Cred) : Nat → St → Option St
  | 0, _ => none
  | k + 1, s => match s.waits with
    | [] => some s
    | p :: ws => (stepsF p creds ⟨s.known, ws⟩).bind (loopF creds k)
def runF (k : Nat) (creds : List Cred) : Option St := (membersF creds ⟨[], []⟩).bind (loopF creds k)
theorem addr_zero (ad : Addr) : ad.add 0 = ad := by
  obtain ⟨b, o, f⟩ := ad; unfold Addr.add
  split <;> simp_all
theorem SolverAt.bound {w : World} {B g b : Nat} {ok : Nat → Prop} {vc : Value} {creds : List Cred} {known waits : List Pair} (h : SolverAt w B ok g b vc creds known waits) : SolverAt w B (fun k => ok k ∧ k < w.heap.size) g b vc creds known waits := by
  obtain ⟨vw, hg, hBg, hBb, hvc, hT, hQ⟩ := h; exact ⟨vw, hg, ⟨hBg.1, hBg.2, blk_lt hg⟩, ⟨hBb.1, hBb.2, hT.lt⟩, hvc, hT, Kd.Q_mono (Kd.Q_bound hQ) (fun k hk => ⟨hk.1, hk.2.2.1⟩)⟩
theorem SolverAt.waits' {w : World} {B g b : Nat} {ok : Nat → Prop} {vc : Value} {creds : List Cred} {known waits : List Pair} (h : SolverAt w B ok g b vc creds known waits) : ∃ A c, waits.length ≤ c ∧ w.heap[g]? = some (.cells #[vc, .map (some b), .slice A waits.length c] 71 (0, 0)) ∧ Kd.C kPair w A waits.length waits := by
  obtain ⟨vw, hg, hBg, hBb, hvc, hT, hQ⟩ := h; obtain ⟨A, c, rfl, hl, hC⟩ := Kd.Q_reads hQ; exact ⟨A, c, hl, hg, hC⟩
theorem SolverAt.creds' {w : World} {B g b : Nat} {ok : Nat → Prop} {A : Option Addr} {n c : Nat} {creds : List Cred} {known waits : List Pair} (h : SolverAt w B ok g b (.slice A n c) creds known waits) : n = creds.length ∧ Kd.C kCred w A creds.length creds := by
  obtain ⟨vw, hg, hBg, hBb, hvc, hT, hQ⟩ := h; have := Kd.QaQ hvc; exact ⟨this.1, this.2.2⟩
theorem SolverAt.pop {w W : World} {B g b : Nat} {ok : Nat → Prop} {vc : Value} {creds : List Cred} {known ws : List Pair} {p : Pair} {A : Option Addr} {c : Nat} (h : SolverAt w B ok g b vc creds known (p :: ws)) (hg : w.heap[g]? = some (.cells #[vc, .map (some b), .slice A (ws.length + 1) c] 71 (0, 0)))
    (hb : Below w.heap.size w W) : SolverAt (W.setCell ⟨g, 2, none⟩ (.slice (if c = 1 then A else A.map (·.add 3)) ws.length (c - 1))) B ok g b vc creds known ws := by
  have hgW := (hb.block g (blk_lt hg)).trans hg; obtain ⟨vw, hg', hBg, hBb, hvc, hT, hQ⟩ := h; rw [hg] at hg'
  injection hg' with hg'
  injection hg' with hg'
  have e : vw = .slice A (ws.length + 1) c := by
    injection hg' with hg'
    injection hg' with _ hg'
    injection hg' with _ hg'
    injection hg' with hg' _
    exact hg'.symm
  subst e; have hQ2 := Kd.Q_drop (k := 1) (Kd.Q_below hQ hb) (by simp); simp only [Nat.one_mul, List.drop_succ_cons, List.drop_zero, Nat.add_sub_cancel] at hQ2
  have hbg : b ≠ g := by
    rintro rfl; obtain ⟨es, clock, hb, _⟩ := hT; rw [hg] at hb; cases hb
  exact ⟨.slice (if c = 1 then A else A.map (·.add 3)) ws.length (c - 1), by simpa using blk_set hgW 2 _, hBg, hBb, Kd.R_set (Kd.R_below hvc hb) hgW (by decide) 2 _, (hT.below hb).set hbg _, Kd.Q_set hQ2 hgW (by decide) 2 _⟩
set_option maxRecDepth 100000 in
set_option maxHeartbeats 4000000 in
theorem run_calls (w : World) (B g b : Nat) (ok : Nat → Prop) (vc : Value) (creds : List Cred) (fuel : Nat) (s' : St) (hS : SolverAt w B ok g b vc creds [] []) (hcl : creds.length ≤ 1000000) (h : runF fuel creds = some s') :
    Calls Tryz.prog 33 #[.pointer (some ⟨g, 0, none⟩)] w fun e w' => e = .returned (.tuple #[]) ∧ SolverAt w' B (fun k => ok k ∨ w.heap.size ≤ k) g b vc creds s'.known s'.waits ∧ Below B w w' := by
  obtain ⟨s1, hM, hL⟩ := Option.bind_eq_some_iff.mp h; clear h
  obtain ⟨A0, cc0, rfl⟩ : ∃ A c, vc = .slice A creds.length c := by
    obtain ⟨vw, hg, hBg, hBb, hvc, hT, hQ⟩ := hS; exact Kd.R_slice hvc
  have g0 := (SolverAt.cells hS).1; have HS := Lib.hid hS; have HM := Lib.hid hM; have HL := Lib.hid hL; have HC := Lib.hid hcl; clear hS hM hL hcl; go_enter Tryz.func33, Tryz.ntmps33; go_wp2
  go_loopg [3, 13] (creds.length + 1) (fun kq _ v13 w' => ∃ (i : Nat) (st : St), v13 = .int .i64 i ∧ Hid (kq = creds.length + 1 - i) ∧ Hid (i ≤ creds.length) ∧ Hid (membersF (creds.drop i) st = some s1) ∧ Hid (SolverAt w' B (fun k => ok k ∨ w.heap.size ≤ k) g b (.slice A0 creds.length cc0) creds st.known st.waits) ∧ Hid (Below B w w') ∧ Hid (w.heap.size ≤ w'.heap.size))
  case atStart => exact ⟨0, ⟨[], []⟩, rfl, Lib.hid rfl, Lib.hid (Nat.zero_le _), Lib.hid HM.out, Lib.hid (HS.out.mono (fun _ h => .inl h)), Lib.hid (Below.refl _ _), Lib.hid (Nat.le_refl _)⟩
  case round =>
    obtain ⟨i, st, rfl, HK, HI, HMs, HSt, HBt, HSz⟩ := hrel
    by_cases hi : i < creds.length
    · have d1 : decide ((i : Int) < (creds.length : Int)) = true := decide_eq_true (by omega)
      have d2 : decide (i < creds.length) = true := decide_eq_true hi; obtain ⟨ad, e, hx0, hx1, hx2, hx3, hx4, hx5, hx6, hx7, hx8⟩ := at_T42 (SolverAt.creds' HSt.out).2 (i : Int) (by omega) (by omega); cases e
      obtain ⟨c, hc⟩ : ∃ c, c = creds[i] := ⟨_, rfl⟩
      have erd : Qam creds (i : Int) = c := by
        unfold Qam; rw [hc, Int.toNat_natCast, List.getD_eq_getElem?_getD, List.getElem?_eq_getElem hi]; rfl
      rw [erd, Int.toNat_natCast] at hx0 hx1 hx2 hx3 hx4 hx5 hx6 hx7 hx8; have hm := HMs.out; rw [List.drop_eq_getElem_cons hi, ← hc] at hm; unfold membersF at hm; have p101 : (0 ≤ (i : Int)) = True := eq_true (by omega); have q101 : ((i : Int) < (creds.length : Int)) = True := eq_true (by omega); have HIL := Lib.hid hi; clear hi hc erd
      have wrapI : wrap64 ((i : Int) + 1) = ((i + 1 : Nat) : Int) := by rw [wrap_id (by omega) (by have := HC.out; have := HIL.out; omega)]; rfl
      go_upto_region 3 with fail
      change Code.wp _ _ _ _ (wr.alloc (credObj c)); have HX := Qab (Below.refl wr.heap.size wr) (credObj c); have B3 := blk_new wr (credObj c); clear hx0 hx1 hx2 hx3 hx4 hx5 hx6 hx7 hx8
      generalize wr.alloc (credObj c) = X at HX B3 ⊢
      obtain ⟨c0, c1, c2, c3, c4, c5, c6, c7, c8⟩ := credCells B3
      by_cases e1 : c.f2 = 1
      · rw [if_pos e1] at hm
        obtain ⟨st2, h1, h2⟩ := Option.bind_eq_some_iff.mp hm; have H1 := Lib.hid h1; have H2 := Lib.hid h2; have hb1 : (c.f2 == 1) = true := beq_iff_eq.mpr e1; clear e1 hm h1 h2
        --FIRST
        go_wp2
        go_region_with (first | (go_at_call 23; refine (credRole_calls c _).mono ?_; rintro e w3 ⟨rfl, hB3⟩; have HB3 : Below X.heap.size X w3 := Qak (by repeat (first | exact Below.refl _ _ | apply Qaa | apply Qac)) hB3; have p23 := QaJ hB3 c4) | (go_at_call 51; refine (learn_calls _ B g b (fun k => ok k ∨ w.heap.size ≤ k) (.slice (some ad) creds.length cc0) creds st st2 ⟨credRole c, c.f3⟩ ?_ H1.out).mono ?_; exact (HSt.out.below HX).below HB3; rintro e w8 ⟨rfl, hS8, hB8, hK8⟩))
        all_goals
          go_wp2
          go_roundg (creds.length + 1 - (i + 1))
          case measure => have := HK.out; have := HI.out; omega
          case rel => exact ⟨i + 1, st2, by first | rfl | exact congrArg _ wrapI, Lib.hid rfl, Lib.hid (by have := HIL.out; omega), Lib.hid H2.out, Lib.hid (hS8.mono (fun k h => h.elim id (fun h => .inr (by have := HSz.out; have := HX.size; have := HB3.size; omega)))), Lib.hid ((HBt.out.trans (HX.mono (by have := HSt.out.base; omega))).trans ((HB3.mono (by have := HSt.out.base; have := HX.size; omega)).trans hB8)), Lib.hid (by have := HSz.out; have := HX.size; have := HB3.size; have := hB8.size; omega)⟩
        --END
      · rw [if_neg e1] at hm
        have H2 := Lib.hid hm; have hb1 : (c.f2 == 1) = false := beq_eq_false_iff_ne.mpr e1; clear e1 hm; go_wp2
        go_roundg (creds.length + 1 - (i + 1))
        case measure => have := HK.out; have := HI.out; omega
        case rel => exact ⟨i + 1, st, by first | rfl | exact congrArg _ wrapI, Lib.hid rfl, Lib.hid (by have := HIL.out; omega), Lib.hid H2.out, Lib.hid (HSt.out.below HX), Lib.hid (HBt.out.trans (HX.mono (by have := HSt.out.base; omega))), Lib.hid (by have := HSz.out; have := HX.size; omega)⟩
    · have d1 : decide ((i : Int) < (creds.length : Int)) = false := decide_eq_false (by omega)
      have d2 : decide (i < creds.length) = false := decide_eq_false hi; have HE := Lib.hid (show i = creds.length by have := HI.out; omega); clear hi; go_wp2; have hm := HMs.out; rw [HE.out, List.drop_length] at hm; obtain rfl : st = s1 := Option.some.inj hm; have HS1 := Lib.hid HSt.out; have HB1 := Lib.hid HBt.out; have HZ1 := Lib.hid HSz.out; clear HSt HBt HSz hm HM HMs HK HI HE d1 d2
      go_loopg [4, 6, 7, 53] fuel (fun kq _ _ _ _ w' => ∃ st : St, Hid (loopF creds kq st = some s') ∧ Hid (SolverAt w' B (fun k => ok k ∨ w.heap.size ≤ k) g b (.slice A0 creds.length cc0) creds st.known st.waits) ∧ Hid (Below B w w') ∧ Hid (w.heap.size ≤ w'.heap.size))
      case atStart => exact ⟨st, Lib.hid HL.out, Lib.hid HS1.out, Lib.hid HB1.out, Lib.hid HZ1.out⟩
      case round =>
        clear HS1 HB1 HZ1 HL; obtain ⟨st, HLo, HSt, HBt, HSz⟩ := hrel; have hl := HLo.out; clear HLo
        cases gk with
        | zero => cases hl
        | succ k1 =>
          unfold loopF at hl; obtain ⟨kn, wts⟩ := st; obtain ⟨A, cc, hcc, hgw, hC⟩ := SolverAt.waits' HSt.out
          cases wts with
          | nil =>
            obtain rfl := Option.some.inj hl; clear hl; have g2 := (Qaj hgw 2).trans (rfl : _ = some (Value.slice A 0 cc)); clear hgw hC; go_wp2; go_end0; exact ⟨rfl, HSt.out, HBt.out⟩
          | cons p ws =>
            simp only at hl; obtain ⟨st2, h1, h2⟩ := Option.bind_eq_some_iff.mp hl; have H1 := Lib.hid h1; have H2 := Lib.hid h2; clear hl h1 h2
            obtain ⟨n, hn⟩ : ∃ n, n = ws.length + 1 := ⟨_, rfl⟩
            have HN := Lib.hid hn; have d1 : decide ((0 : Int) < (n : Int)) = true := decide_eq_true (by omega); have d2 : decide (0 < n) = true := decide_eq_true (by omega); have g2 := (Qaj hgw 2).trans (show _ = some (Value.slice A n cc) by rw [hn]; rfl); obtain ⟨ad, e, hx0, hx1, hx2⟩ := at_T51 hC (0 : Int) (by omega) (by simp); cases e; have p101 : ((0 : Int) ≤ 0) = True := eq_true (by omega); have q101 : ((0 : Int) < (n : Int)) = True := eq_true (by omega); have erd : rd_T51 (p :: ws) (0 : Int) = p := rfl; have had : ad.add ((0 : Int).toNat * 3) = ad := addr_zero ad; have r101 : (0 < n) = True := eq_true (by omega); rw [erd, had] at hx0 hx1 hx2; have HGW := Lib.hid hgw; clear hgw hC hn erd
            go_upto_region 8 with fail
            change Code.wp _ _ _ _ (wr.alloc (pairObj p)); have HX := Qab (Below.refl wr.heap.size wr) (pairObj p); have B4 := blk_new wr (pairObj p); have gX := (HX.block g (blk_lt HGW.out)).trans HGW.out; have HPop := Lib.hid (SolverAt.pop (SolverAt.bound HSt.out) HGW.out HX)
            have HXs : (wr.alloc (pairObj p)).heap.size = wr.heap.size + 1 := by simp
            clear hx0 hx1 hx2 g2 had
            generalize wr.alloc (pairObj p) = X at HX B4 gX HPop HXs ⊢
            have g2 := (Qaj gX 2).trans (show _ = some (Value.slice (some ad) n cc) by rw [HN.out]; rfl); have f2 := blk_thaw gX 2; obtain ⟨i04, hi04, _, hsz4, _⟩ := info_parts infoPair; have hcut := cut_from (P := Tryz.prog) 49 51 .i64 Tryz.underlying49 hi04 3 hsz4 (some ad) n cc 1 (by omega) (by have := HN.out; omega); simp only [Int.toNat_one, Nat.one_mul] at hcut
            obtain ⟨A2, hA2⟩ : ∃ A2, A2 = (if cc = 1 then some ad else (some ad).map (·.add 3)) := ⟨_, rfl⟩
            obtain ⟨n2, hn2⟩ : ∃ n2, n2 = n - 1 := ⟨_, rfl⟩
            obtain ⟨cc2, hc2⟩ : ∃ cc2, cc2 = cc - 1 := ⟨_, rfl⟩
            rw [← hA2, ← hn2, ← hc2] at hcut; have HPop2 := Lib.hid (show SolverAt (X.setCell ⟨g, 2, none⟩ (.slice A2 n2 cc2)) B (fun k => (ok k ∨ w.heap.size ≤ k) ∧ k < wr.heap.size) g b (.slice A0 creds.length cc0) creds kn ws by rw [hn2, HN.out, Nat.add_sub_cancel, hA2, hc2]; exact HPop.out); clear hA2 hn2 hc2 HPop hi04 hsz4
            have hne4 : wr.heap.size ≠ g := by have := blk_lt HGW.out; omega
            have B4z : (X.setCell ⟨g, 2, none⟩ (.slice A2 n2 cc2)).heap[wr.heap.size]? = some (pairObj p) := (Below.heap_setCell X ⟨g, 2, none⟩ (.slice A2 n2 cc2) _ hne4).trans B4
            have SZz : (X.setCell ⟨g, 2, none⟩ (.slice A2 n2 cc2)).heap.size = X.heap.size := by simp
            have hBg : B ≤ g := by obtain ⟨_, _, hh, _⟩ := HSt.out; exact hh.1
            have BZz := (HX.mono (by have := HSt.out.base; omega)).setCell (p := ⟨g, 2, none⟩) hBg (.slice A2 n2 cc2); have H4z := Lib.hid B4z; have HSZz := Lib.hid SZz; have HBZz := Lib.hid BZz; have HX2 := Lib.hid (show X.heap.size = wr.heap.size + 1 from HXs); clear hne4 B4z SZz hBg BZz
            go_upto_region 9 with fail
            change Code.wp _ _ _ _ (X.setCell ⟨g, 2, none⟩ (.slice A2 n2 cc2))
            generalize X.setCell ⟨g, 2, none⟩ (.slice A2 n2 cc2) = Z at H4z HSZz HBZz HPop2 ⊢
            have z0 := (SolverAt.cells HPop2.out).1; have HB' := Lib.hid (HX.size); clear B4 gX g2 f2 hcut HX HGW; go_wp2; have HSZ2 := Lib.hid (show Z.heap.size = wr.heap.size + 1 by have := HSZz.out; have := HX2.out; omega)
            obtain ⟨wO, hwO⟩ : ∃ x, x = wr := ⟨_, rfl⟩
            subst hwO
            go_loopg [6, 7, 53] (creds.length + 1) (fun kq _ _ v53 w' => ∃ (j : Nat) (st3 : St), v53 = .int .i64 j ∧ Hid (kq = creds.length + 1 - j) ∧ Hid (j ≤ creds.length) ∧ Hid (stepsF p (creds.drop j) st3 = some st2) ∧ Hid (SolverAt w' B (fun k => ((ok k ∨ w.heap.size ≤ k) ∧ k < wO.heap.size) ∨ Z.heap.size ≤ k) g b (.slice A0 creds.length cc0) creds st3.known st3.waits) ∧ Hid (Below B wO w') ∧ Hid (w'.heap[wO.heap.size]? = some (pairObj p)) ∧ Hid (Z.heap.size ≤ w'.heap.size))
            case atStart => exact ⟨0, ⟨kn, ws⟩, rfl, Lib.hid rfl, Lib.hid (Nat.zero_le _), Lib.hid H1.out, Lib.hid (HPop2.out.mono (fun _ h => .inl h)), Lib.hid HBZz.out, Lib.hid H4z.out, Lib.hid (Nat.le_refl _)⟩
            case round =>
              clear z0 HPop2 H4z HBZz; obtain ⟨j, st3, rfl, HK3, HJ, HM3, HS3, HB3, HP3, HZ3⟩ := hrel
              by_cases hj : j < creds.length
              · have d1 : decide ((j : Int) < (creds.length : Int)) = true := decide_eq_true (by omega)
                have d2 : decide (j < creds.length) = true := decide_eq_true hj; obtain ⟨ad3, e, hx0, hx1, hx2, hx3, hx4, hx5, hx6, hx7, hx8⟩ := at_T42 (SolverAt.creds' HS3.out).2 (j : Int) (by omega) (by omega); cases e
                obtain ⟨c, hc⟩ : ∃ c, c = creds[j] := ⟨_, rfl⟩
                have erd : Qam creds (j : Int) = c := by
                  unfold Qam; rw [hc, Int.toNat_natCast, List.getD_eq_getElem?_getD, List.getElem?_eq_getElem hj]; rfl
                rw [erd, Int.toNat_natCast] at hx0 hx1 hx2 hx3 hx4 hx5 hx6 hx7 hx8; have hm := HM3.out; rw [List.drop_eq_getElem_cons hj, ← hc] at hm; unfold stepsF at hm; obtain ⟨st4, h1j, h2j⟩ := Option.bind_eq_some_iff.mp hm; have H2j := Lib.hid h2j; have p101 : (0 ≤ (j : Int)) = True := eq_true (by omega); have q101 : ((j : Int) < (creds.length : Int)) = True := eq_true (by omega); have HJL := Lib.hid hj
                have wrapJ : wrap64 ((j : Int) + 1) = ((j + 1 : Nat) : Int) := by rw [wrap_id (by omega) (by have := HC.out; have := HJL.out; omega)]; rfl
                clear hj hc erd hm h2j
                go_upto_region 12 with fail
                change Code.wp _ _ _ _ (wr.alloc (credObj c)); have HX3 := Qab (Below.refl wr.heap.size wr) (credObj c); have B3 := blk_new wr (credObj c); have B4x := Qaf HP3.out (credObj c); clear hx0 hx1 hx2 hx3 hx4 hx5 hx6 hx7 hx8
                generalize wr.alloc (credObj c) = X3 at HX3 B3 B4x ⊢
                obtain ⟨c0, c1, c2, c3, c4, c5, c6, c7, c8⟩ := credCells B3; obtain ⟨p0, p1, p2⟩ := pairCells B4x; unfold stepF at h1j
                by_cases e1 : c.f2 = 1
                · rw [if_pos e1] at h1j
                  have b1 : (c.f2 == 1) = true := beq_iff_eq.mpr e1; obtain rfl := Option.some.inj h1j; clear e1 h1j; go_wp2
                  go_roundg (creds.length + 1 - (j + 1))
                  case measure => have := HK3.out; have := HJ.out; omega
                  case rel => exact ⟨j + 1, st3, by first | rfl | exact congrArg _ wrapJ, Lib.hid rfl, Lib.hid (by have := HJL.out; omega), Lib.hid H2j.out, Lib.hid (HS3.out.below HX3), Lib.hid (HB3.out.trans (HX3.mono (by have := HS3.out.base; omega))), Lib.hid B4x, Lib.hid (by have := HZ3.out; have := HX3.size; omega)⟩
                · rw [if_neg e1] at h1j
                  have b1 : (c.f2 == 1) = false := beq_eq_false_iff_ne.mpr e1
                  by_cases e3 : c.f2 = 3
                  · rw [if_pos e3] at h1j
                    have b3 : (c.f2 == 3) = true := beq_iff_eq.mpr e3; have H1j := Lib.hid h1j; clear e1 e3 h1j; have hS3 := SolverAt.bound (HS3.out.below HX3)
                    go_wp2_with (go_at_call 53; refine (link_calls X3 B g b _ _ creds st3 st4 c p hS3 (fun k h => h.2) H1j.out).mono ?_; rintro e w8 ⟨rfl, hS8, hB8, hK8⟩)
                    go_roundg (creds.length + 1 - (j + 1))
                    case measure => have := HK3.out; have := HJ.out; omega
                    case rel => exact ⟨j + 1, st4, by first | rfl | exact congrArg _ wrapJ, Lib.hid rfl, Lib.hid (by have := HJL.out; omega), Lib.hid H2j.out, Lib.hid (hS8.mono (fun k h => h.elim (fun h => h.1) (fun h => .inr (by have := HZ3.out; have := HX3.size; omega)))), Lib.hid ((HB3.out.trans (HX3.mono (by have := HS3.out.base; omega))).trans hB8), Lib.hid ((hK8 _ (blk_lt B4x) (fun h => by have := HSZ2.out; rcases h.1 with h | h; (exact absurd h.2 (by omega)); omega)).trans B4x), Lib.hid (by have := HZ3.out; have := HX3.size; have := hB8.size; omega)⟩
                  · rw [if_neg e3] at h1j
                    have b3 : (c.f2 == 3) = false := beq_eq_false_iff_ne.mpr e3
                    by_cases e4 : c.f2 = 4
                    · rw [if_pos e4] at h1j
                      have b4 : (c.f2 == 4) = true := beq_iff_eq.mpr e4; have H1j := Lib.hid h1j; clear e1 e3 e4 h1j; have hS3 := SolverAt.bound (HS3.out.below HX3)
                      go_wp2_with (go_at_call 54; refine (both_calls X3 B g b _ _ creds st3 st4 c p hS3 H1j.out).mono ?_; rintro e w8 ⟨rfl, hS8, hB8, hK8⟩)
                      go_roundg (creds.length + 1 - (j + 1))
                      case measure => have := HK3.out; have := HJ.out; omega
                      case rel => exact ⟨j + 1, st4, by first | rfl | exact congrArg _ wrapJ, Lib.hid rfl, Lib.hid (by have := HJL.out; omega), Lib.hid H2j.out, Lib.hid (hS8.mono (fun k h => h.elim (fun h => h.1) (fun h => .inr (by have := HZ3.out; have := HX3.size; omega)))), Lib.hid ((HB3.out.trans (HX3.mono (by have := HS3.out.base; omega))).trans hB8), Lib.hid ((hK8 _ (blk_lt B4x) (fun h => by have := HSZ2.out; rcases h.1 with h | h; (exact absurd h.2 (by omega)); omega)).trans B4x), Lib.hid (by have := HZ3.out; have := HX3.size; have := hB8.size; omega)⟩
                    · rw [if_neg e4] at h1j
                      have b4 : (c.f2 == 4) = false := beq_eq_false_iff_ne.mpr e4; have H1j := Lib.hid h1j; clear e1 e3 e4 h1j; have hS3 := SolverAt.bound (HS3.out.below HX3)
                      go_wp2_with (go_at_call 52; refine (include_calls X3 B g b _ _ creds st3 st4 c p hS3 H1j.out).mono ?_; rintro e w8 ⟨rfl, hS8, hB8, hK8⟩)
                      go_roundg (creds.length + 1 - (j + 1))
                      case measure => have := HK3.out; have := HJ.out; omega
                      case rel => exact ⟨j + 1, st4, by first | rfl | exact congrArg _ wrapJ, Lib.hid rfl, Lib.hid (by have := HJL.out; omega), Lib.hid H2j.out, Lib.hid (hS8.mono (fun k h => h.elim (fun h => h.1) (fun h => .inr (by have := HZ3.out; have := HX3.size; omega)))), Lib.hid ((HB3.out.trans (HX3.mono (by have := HS3.out.base; omega))).trans hB8), Lib.hid ((hK8 _ (blk_lt B4x) (fun h => by have := HSZ2.out; rcases h.1 with h | h; (exact absurd h.2 (by omega)); omega)).trans B4x), Lib.hid (by have := HZ3.out; have := HX3.size; have := hB8.size; omega)⟩
              · have d1 : decide ((j : Int) < (creds.length : Int)) = false := decide_eq_false (by omega)
                have d2 : decide (j < creds.length) = false := decide_eq_false hj; have HE := Lib.hid (show j = creds.length by have := HJ.out; omega); clear hj; go_wp2; have hm := HM3.out; rw [HE.out, List.drop_length] at hm; obtain rfl : st3 = st2 := Option.some.inj hm
                go_roundg k1
                case measure => omega
                case rel => exact ⟨st3, Lib.hid H2.out, Lib.hid (HS3.out.mono (fun k h => h.elim (fun h => h.1) (fun h => .inr (by have := HSz.out; have := HSZ2.out; omega)))), Lib.hid (HBt.out.trans HB3.out), Lib.hid (by have := HSz.out; have := HSZ2.out; have := HZ3.out; omega)⟩
def solve_All.f (l0 : List (S42)) : Option (List (S51)) := (cred_Counts.f l0).bind fun cs => if cs.length ≤ 1000000 then (runF 2000 cs).bind fun s => (if s.known.length ≤ 1000000 then some (sortPairs s.known) else none) else none
theorem solver_made {w w3 : World} {v : Value} {cs : List Cred} (hR : Kd.R kCred 42 w3 w.heap.size (fun _ => True) v cs) (hB : Below w.heap.size w w3) :
    SolverAt ((w3.alloc (.map #[] 0)).alloc (.cells #[v, .map (some w3.heap.size), .slice none 0 0] 71)) w.heap.size (fun _ => True) (w3.heap.size + 1) w3.heap.size v cs [] [] := by
  have h1 := Qab (Below.refl w3.heap.size w3) (.map #[] 0); have h2 := Qab h1 (.cells #[v, .map (some w3.heap.size), .slice none 0 0] 71); refine ⟨.slice none 0 0, ?_, ⟨by have := hB.size; omega, trivial⟩, ⟨hB.size, trivial⟩, Kd.R_below hR h2, ?_, Kd.Q_nil _ _ _ _ _⟩
  · have := blk_new (w3.alloc (.map #[] 0)) (.cells #[v, .map (some w3.heap.size), .slice none 0 0] 71)
    simpa using this
  · exact (Tbl.made encPair okPair w3).below (Qab (Below.refl _ _) _)
set_option maxRecDepth 100000 in
set_option maxHeartbeats 4000000 in
theorem solve_All.calls (A0 : Option Addr) (c0 : Nat) (l0 : List (S42)) (r : List (S51)) (w : World) (hr0 : Kd.C k42 w A0 l0.length l0) (hc0 : l0.length ≤ c0) (h : solve_All.f l0 = some r) :
    Calls Tryz.prog 18 #[.slice A0 l0.length c0] w fun e w' => ∃ v0_ : Value, e = .returned (v0_) ∧ Kd.R k51 51 w' w.heap.size (fun _ => True) v0_ r ∧ Below w.heap.size w w' := by
  unfold solve_All.f at h; obtain ⟨cs, hcs, h⟩ := Option.bind_eq_some_iff.mp h
  by_cases hl : cs.length ≤ 1000000
  · rw [if_pos hl] at h
    obtain ⟨s, hs, h⟩ := Option.bind_eq_some_iff.mp h
    by_cases hk : s.known.length ≤ 1000000
    · rw [if_pos hk] at h
      obtain rfl := Option.some.inj h; have hct := cred_Counts.calls A0 c0 l0 cs w hr0 hc0 hcs; have HC := Lib.hid hl; have HS := Lib.hid hs; have HK := Lib.hid hk
      have hmk := fun W => run_makeMap (P := Tryz.prog) 69 W
      clear hr0 hc0 h hl hs hk hcs; go_enter Tryz.func18, Tryz.ntmps18
      go_wp2_with (first | (go_at_call 11; refine hct.mono ?_; rintro e w3 ⟨v3, rfl, hR3, hB3⟩; obtain ⟨A3, c3, rfl⟩ := Kd.R_slice hR3) | (go_at_call 33; refine (run_calls _ w.heap.size (w3.heap.size + 1) w3.heap.size (fun _ => True) _ cs 2000 s (solver_made hR3 hB3) HC.out HS.out).mono ?_; rintro e w5 ⟨rfl, hS5, hB5⟩) | (go_at_call 34; refine (pairs_calls w5 w.heap.size (w3.heap.size + 1) w3.heap.size _ _ cs s hS5 HK.out).mono ?_; rintro e w6 ⟨v6, rfl, hR6, hB6⟩))
      go_ret; have hT := (hB3.trans ((Qab (Qab (Below.refl w3.heap.size w3) _) _).mono hB3.size)).trans hB5; exact ⟨v6, rfl, Kd.R_lower hR6 hT.size, hT.trans (hB6.mono hT.size)⟩
    · rw [if_neg hk] at h
      cases h
  · rw [if_neg hl] at h
    cases h
def solve_Has.f (k : Nat) (l0 : List (S42)) (a1 : ByteArray) (a2_0 : ByteArray) (a2_1 : ByteArray) : Option (Bool) := (solve_All.f l0).bind fun t102 => ((solve_Pair_17.f k t102 a2_0 a2_1 a1).bind fun t105 => (some t105))
set_option maxHeartbeats 8000000 in
set_option maxRecDepth 100000 in
theorem solve_Has.calls (k : Nat) (A0 : Option Addr) (c0 : Nat) (l0 : List (S42)) (a1 : ByteArray) (a2_0 : ByteArray) (a2_1 : ByteArray) (r : Bool) (w : World) (hr0 : Kd.C k42 w A0 l0.length l0) (hc0 : l0.length ≤ c0) (h : solve_Has.f k l0 a1 a2_0 a2_1 = some r) :
  Calls Tryz.prog 8 #[.slice A0 l0.length c0, .string a1, .agg #[.string a2_0, .string a2_1]] w fun e w' => e = .returned (.bool r) ∧ Below w.heap.size w w' := by
 have hu24 := Tryz.underlying24; have hu51 := Tryz.underlying51; have HR0 := Qad.mk hr0; have HC0 := Qad.mk hc0; clear hr0 hc0; have HB := Qad.mk (Below.refl w.heap.size w); have H : ((solve_All.f l0).bind fun t102 => ((solve_Pair_17.f k t102 a2_0 a2_1 a1).bind fun t105 => (some t105))) = some r := h; clear h; replace H := Option.bind_eq_some_iff.mp H; obtain ⟨t102, A40, H⟩ := H; replace H : ((solve_Pair_17.f k t102 a2_0 a2_1 a1).bind fun t105 => (some t105)) = some r := H; have A4 := Qad.mk A40; clear A40; replace H := Option.bind_eq_some_iff.mp H; obtain ⟨t105, A50, H⟩ := H; replace H : (some t105) = some r := H; have A5 := Qad.mk A50; clear A50; obtain rfl := Option.some.inj H; go_enter Tryz.func8, Tryz.ntmps8
 try go_wp2_with (first | ((with_reducible refine QaN (N := 5) rfl ?_); refine QaK ?hg (N := 5) ?hd (cs := #[.string a2_0, .string a2_1]) (t := 24) ?hr ?_; (case hd => rfl); (case hg => rfl); (case hr => first | (go_simp; done) | (go_simp; rfl)); intro gb101 hg w6 hbox hb; have n0_ := Qad.mk (Qak (by repeat (first | (with_reducible first | exact HB.out | apply Qab | apply Qaa | apply Qac) | exact HB.out)) hb); have n1_ := Qad.mk (hbox); have n2_ := Qad.mk ((by rw [hg]; exact (Qas (by repeat (first | (with_reducible first | exact HB.out | apply Qab | apply Qaa | apply Qac) | exact HB.out))) : w.heap.size ≤ gb101)); have n3_ := n2_; clear HB; have HB := n0_; have BK101 := n1_; have GW101 := n2_; have GE101 := n3_; clear n0_ n1_ n2_ n3_; clear hb hbox hg))
 have n0_ := Qad.mk (Qah BK101.out); have n1_ := Qad.mk (Qac HB.out); clear BK101; clear HB; have BK101 := n0_; have HB := n1_; clear n0_ n1_; refine start_ (n := 7) (S := fun w' => w'.cell? ⟨gb101, 0, none⟩ = some (.string a2_0) ∧ w'.cell? ⟨gb101, 1, none⟩ = some (.string a2_1)) (ds := []) #[ff,ff,ff,ff,ff,ff,ff] (by kernel_rfl) rfl rfl ⟨(Qaj BK101.out 0).trans rfl, (Qaj BK101.out 1).trans rfl⟩ (fun hHeld => ?_)
 generalize w6.drew = w7 at BK101 HB hHeld ⊢
 refine QaI (i := 0) (N := some 7) (v := ?_) (a' := ?_) #[tt,ff,ff,ff,ff,ff,ff] rfl rfl (by kernel_rfl) (fun _ _ _ h => h) (Or.inl ⟨by rfl, ?_⟩) ?_ ?_; rotate_left
 ·intro w'; go_simp; (with_reducible rfl)
 rotate_left
 ·simp only [Act.put, put_, Qax, Qaz]; rfl
 refine QaI (i := 3) (N := some 10) (v := ?_) (a' := ?_) #[tt,ff,ff,tt,ff,ff,ff] rfl rfl (by kernel_rfl) (fun _ _ _ h => h) (Or.inl ⟨by rfl, ?_⟩) ?_ ?_; rotate_left
 ·intro w'; go_simp; (with_reducible rfl)
 rotate_left
 ·simp only [Act.put, put_, Qax, Qaz]; rfl
 refine take_ (i := 2) (N := some 9) (v := ?_) (a' := ?_) #[tt,ff,tt,tt,ff,ff,ff] rfl rfl (by kernel_rfl) (fun _ _ _ h => h) (Or.inl ⟨by rfl, ?_⟩) hHeld ?_ ?_; rotate_left
 ·rintro w' ⟨s0, s1⟩; go_simp; (with_reducible rfl)
 rotate_left
 ·simp only [Act.put, put_, Qax, Qaz]; rfl
 refine QaI (i := 4) (N := some 11) (v := ?_) (a' := ?_) #[tt,ff,tt,tt,tt,ff,ff] rfl rfl (by kernel_rfl) (fun _ _ _ h => h) (Or.inl ⟨by rfl, ?_⟩) ?_ ?_; rotate_left
 ·intro w'; go_simp; (with_reducible rfl)
 rotate_left
 ·simp only [Act.put, put_, Qax, Qaz]; rfl
 refine one_ (i := 1) (N := some 8) #[tt,tt,tt,tt,tt,ff,ff] rfl rfl (by kernel_rfl) (by decide) (fun K hK => ?_); refine goes_ Tryz.func18 (by kernel_rfl) rfl #[.slice A0 l0.length c0] (by rfl) rfl rfl (by (try simp only [List.map_toArray, List.map_cons, List.map_nil]); first | done | rfl | (simp only [List.length_drop, List.length_take]; rfl)) ?_
 with_reducible refine (solve_All.calls _ _ l0 t102 _ ?side1 ?side2 A4.out).mono ?_
 (case side1 => repeat (first | exact (Kd.C_below HR0.out HB.out) | (with_reducible refine Kd.C_alloc ?_ _) | (with_reducible refine Kd.C_drewN ?_ _) | (with_reducible refine Kd.C_drew ?_)))
 (case side2 => exact HC0.out)
 rintro e w8 ⟨v103, rfl, ho0, hb⟩; refine ⟨_, rfl, ?_⟩; have n0_ := Qad.mk (Kd.R_lower ho0 (Qas (by repeat (first | (with_reducible first | exact HB.out | apply Qab | apply Qaa | apply Qac | refine Qai ?_ GE101.out) | exact HB.out)))); have n1_ := Qad.mk (Qal (g := gb101) (o := ob_ss a2_0 a2_1 24) (by (with_reducible repeat (first | refine Qag ?_ _ | refine Qah ?_ | refine Qaf ?_ _)); exact BK101.out) hb); have n2_ := Qad.mk (Qak (by repeat (first | (with_reducible first | exact HB.out | apply Qab | apply Qaa | apply Qac | refine Qai ?_ GE101.out) | exact HB.out)) hb); clear BK101; clear HB; have HO104 := n0_; have BK101 := n1_; have HB := n2_; clear n0_ n1_ n2_
 (try clear hb)
 (try clear hb2)
 (try clear hk)
 (try clear hi)
 (try clear ho0)
 obtain ⟨Ao9, co9, eo9⟩ := Kd.R_slice HO104.out
 (first | subst eo9 | (injection eo9 with f1_ f2_ f3_; have f4_ := f1_.symm; have f5_ := f3_.symm; clear f1_ f2_ f3_; subst f4_; subst f5_))
 refine hK.out _ _ ⟨(Qaj BK101.out 0).trans rfl, (Qaj BK101.out 1).trans rfl⟩ (fun hHeld => ?_); clear hK K; refine norm_ (a' := ?_) ?_ ?_; rotate_left
 ·show Act.put _ (some 8) _ = _
  simp only [Act.put, put_, Qax, Qaz]; rfl
 refine one_ (i := 5) (N := some 12) #[tt,tt,tt,tt,tt,tt,ff] rfl rfl (by kernel_rfl) (by decide) (fun K hK => ?_); refine goes_ Tryz.func17 (by kernel_rfl) rfl #[.slice Ao9 t102.length co9, .agg #[.string a2_0, .string a2_1, .string a1]] (by rfl) rfl rfl (by (try simp only [List.map_toArray, List.map_cons, List.map_nil]); first | done | rfl | (simp only [List.length_drop, List.length_take]; rfl)) ?_
 with_reducible refine (solve_Pair_17.calls k _ _ t102 a2_0 a2_1 a1 t105 _ ?side1 ?side2 A5.out).mono ?_
 (case side1 => repeat (first | exact (Kd.QaQ HO104.out).2.2 | (with_reducible refine Kd.C_alloc ?_ _) | (with_reducible refine Kd.C_drewN ?_ _) | (with_reducible refine Kd.C_drew ?_)))
 (case side2 => exact (Kd.QaQ HO104.out).2.1)
 rintro e w10 ⟨rfl, hb⟩; refine ⟨_, rfl, ?_⟩; have n0_ := Qad.mk (Kd.R_below (by (with_reducible repeat (first | apply Kd.Qaw | apply Kd.Qay | apply Kd.QaE)); exact HO104.out) hb); have n1_ := Qad.mk (Qal (g := gb101) (o := ob_ss a2_0 a2_1 24) (by (with_reducible repeat (first | refine Qag ?_ _ | refine Qah ?_ | refine Qaf ?_ _)); exact BK101.out) hb); have n2_ := Qad.mk (Qak (by repeat (first | (with_reducible first | exact HB.out | apply Qab | apply Qaa | apply Qac | refine Qai ?_ GE101.out) | exact HB.out)) hb); clear HO104; clear BK101; clear HB; have HO104 := n0_; have BK101 := n1_; have HB := n2_; clear n0_ n1_ n2_
 (try clear hb)
 (try clear hb2)
 (try clear hk)
 (try clear hi)
 refine hK.out _ _ ⟨(Qaj BK101.out 0).trans rfl, (Qaj BK101.out 1).trans rfl⟩ (fun hHeld => ?_); clear hK K; refine norm_ (a' := ?_) ?_ ?_; rotate_left
 ·show Act.put _ (some 12) _ = _
  simp only [Act.put, put_, Qax, Qaz]; rfl
 refine QaI (i := 6) (N := some 6) (v := ?_) (a' := ?_) #[tt,tt,tt,tt,tt,tt,tt] rfl rfl (by kernel_rfl) (fun _ _ _ h => h) (Or.inl ⟨by rfl, ?_⟩) ?_ ?_; rotate_left
 ·intro w'; go_simp; (with_reducible rfl)
 rotate_left
 ·simp only [Act.put, put_, Qax, Qaz]; rfl
 refine done_ (by kernel_rfl) ?_
 try go_wp2
 go_ret; exact ⟨by first | rfl | (simp [Qar, Qaq] <;> rfl) | (simp [*, Qar, Qaq] <;> rfl), by repeat (first | (with_reducible first | exact HB.out | apply Qab | apply Qaa | apply Qac | refine Qai ?_ GE101.out) | exact HB.out)⟩
end Go.Proofs.YtmaipohgahdclaaGreatDoor.Pr
end
section
namespace Go.Proofs.YtmaipohgahdclaaGreatDoor.Pr
open Go.RowKit Go.Proofs.YtmaipohgahdclaaGreatDoorW.PrintWords Go.Proofs.YtmaipohgahdclaaGreatDoorW.PrintLast Go.Proofs.YtmaipohgahdclaaGreatDoorW.PrintMore
attribute [local go_sem] QaU QaS max_two min_two QaM QaL QaT QaR
set_option linter.unusedVariables false
set_option linter.unusedSimpArgs false
attribute [local go_sem high] eqA56
def QaP.l0 : Nat → List (S56) → Int → ByteArray → ByteArray → ByteArray → Option (Bool)
 | 0, _, _, _, _, _ => none
 | k + 1, x0, x5, x102000, x102001, x102002 => if x5 < (x0.length : Int) then (if 0 ≤ x5 then (if (((((Qap x0 x5).f0.f0).toList) == x102000.toList && ((((Qap x0 x5).f0.f1).toList) == x102001.toList)) && ((((Qap x0 x5).f1).toList) == x102002.toList)) = true then (some true) else (QaP.l0 k x0 (wrap64 (x5 + 1)) x102000 x102001 x102002)) else (none)) else (some false)
def QaP.f (k : Nat) (l0 : List (S56)) (a1_0 : ByteArray) (a1_1 : ByteArray) (a1_2 : ByteArray) : Option (Bool) := QaP.l0 k l0 0 a1_0 a1_1 a1_2
set_option maxHeartbeats 8000000 in
set_option maxRecDepth 100000 in
theorem QaP.calls (k : Nat) (A0 : Option Addr) (c0 : Nat) (l0 : List (S56)) (a1_0 : ByteArray) (a1_1 : ByteArray) (a1_2 : ByteArray) (r : Bool) (w : World) (hr0 : Kd.C k56 w A0 l0.length l0) (hc0 : l0.length ≤ c0) (h : QaP.f k l0 a1_0 a1_1 a1_2 = some r) :
  Calls Tryz.prog 19 #[.slice A0 l0.length c0, .agg #[.string a1_0, .string a1_1, .string a1_2]] w fun e w' => e = .returned (.bool r) ∧ Below w.heap.size w w' := by
 have hu56 := Tryz.underlying56; have HR0 := Qad.mk hr0; have HC0 := Qad.mk hc0; clear hr0 hc0; have HB := Qad.mk (Below.refl w.heap.size w); have H : (QaP.l0 k l0 0 a1_0 a1_1 a1_2) = some r := h; clear h; have H' := Qad.mk H; clear H; go_enter Tryz.func19, Tryz.ntmps19
 go_wp2_with (first | ((with_reducible refine QaN (N := 3) rfl ?_); refine QaK ?hg (N := 3) ?hd (cs := #[.string a1_0, .string a1_1, .string a1_2]) (t := 56) ?hr ?_; (case hd => rfl); (case hg => rfl); (case hr => first | (go_simp; done) | (go_simp; rfl)); intro gb101 hg w3 hbox hb; have n0_ := Qad.mk (Qak (by repeat (first | (with_reducible first | exact HB.out | apply Qab | apply Qaa | apply Qac) | exact HB.out)) hb); have n1_ := Qad.mk (hbox); have n2_ := Qad.mk ((by rw [hg]; exact (Qas (by repeat (first | (with_reducible first | exact HB.out | apply Qab | apply Qaa | apply Qac) | exact HB.out))) : w.heap.size ≤ gb101)); have n3_ := n2_; clear HB; have HB := n0_; have BK101 := n1_; have GW101 := n2_; have GE101 := n3_; clear n0_ n1_ n2_ n3_; clear hb hbox hg))
 repeat (go_quiet (first | ((with_reducible refine QaN (N := 3) rfl ?_); refine QaK ?hg (N := 3) ?hd (cs := #[.string a1_0, .string a1_1, .string a1_2]) (t := 56) ?hr ?_; (case hd => rfl); (case hg => rfl); (case hr => first | (go_simp; done) | (go_simp; rfl)); intro gb101 hg w3 hbox hb; have n0_ := Qad.mk (Qak (by repeat (first | (with_reducible first | exact HB.out | apply Qab | apply Qaa | apply Qac) | exact HB.out)) hb); have n1_ := Qad.mk (hbox); have n2_ := Qad.mk ((by rw [hg]; exact (Qas (by repeat (first | (with_reducible first | exact HB.out | apply Qab | apply Qaa | apply Qac) | exact HB.out))) : w.heap.size ≤ gb101)); have n3_ := n2_; clear HB; have HB := n0_; have BK101 := n1_; have GW101 := n2_; have GE101 := n3_; clear n0_ n1_ n2_ n3_; clear hb hbox hg)); try go_wp2_with (first | ((with_reducible refine QaN (N := 3) rfl ?_); refine QaK ?hg (N := 3) ?hd (cs := #[.string a1_0, .string a1_1, .string a1_2]) (t := 56) ?hr ?_; (case hd => rfl); (case hg => rfl); (case hr => first | (go_simp; done) | (go_simp; rfl)); intro gb101 hg w3 hbox hb; have n0_ := Qad.mk (Qak (by repeat (first | (with_reducible first | exact HB.out | apply Qab | apply Qaa | apply Qac) | exact HB.out)) hb); have n1_ := Qad.mk (hbox); have n2_ := Qad.mk ((by rw [hg]; exact (Qas (by repeat (first | (with_reducible first | exact HB.out | apply Qab | apply Qaa | apply Qac) | exact HB.out))) : w.heap.size ≤ gb101)); have n3_ := n2_; clear HB; have HB := n0_; have BK101 := n1_; have GW101 := n2_; have GE101 := n3_; clear n0_ n1_ n2_ n3_; clear hb hbox hg)))
 go_loopg [5] k (fun kq v5 w' => ∃ (x5_1 : Int), v5 = .int .i64 x5_1 ∧ Qad (QaP.l0 kq l0 x5_1 a1_0 a1_1 a1_2 = some r) ∧ Qad (kq ≤ k) ∧ Qad (w'.heap[gb101]? = some (.cells #[.string a1_0, .string a1_1, .string a1_2] 56 (0, 0))) ∧ Qad (Below w.heap.size w w'))
 case atStart => exact ⟨(0), (by first | rfl | (simp; done) | (simp [*]; done)), H', ⟨Nat.le_refl _⟩, ⟨by (with_reducible repeat (first | refine Qag ?_ _ | refine Qah ?_ | refine Qaf ?_ _)); exact BK101.out⟩, ⟨by repeat (first | (with_reducible first | exact HB.out | apply Qab | apply Qaa | apply Qac | refine Qai ?_ GE101.out) | exact HB.out)⟩⟩
 case round =>
  clear H'; (try clear c1); (try clear p2); obtain ⟨x5_1, rfl, HA, HK1, BK101, HB⟩ := hrel
  cases gk with
  | zero => exact absurd HA.out (by simp [QaP.l0])
  | succ k1 =>
   have H := HA.out; clear HA; simp only [QaP.l0] at H
   by_cases c4 : x5_1 < (l0.length : Int)
   ·rw [if_pos c4] at H; have c4b0 : decide (x5_1 < (l0.length : Int)) = true := decide_eq_true c4; clear c4
    by_cases c5 : 0 ≤ x5_1
    ·rw [if_pos c5] at H; have c5b0 : decide (0 ≤ x5_1) = true := decide_eq_true c5; clear c5
     by_cases c6 : (((((Qap l0 x5_1).f0.f0).toList) == a1_0.toList && ((((Qap l0 x5_1).f0.f1).toList) == a1_1.toList)) && ((((Qap l0 x5_1).f1).toList) == a1_2.toList)) = true
     ·rw [if_pos c6] at H; have c6b0 : (((((Qap l0 x5_1).f0.f0).toList) == a1_0.toList && ((((Qap l0 x5_1).f0.f1).toList) == a1_1.toList)) && ((((Qap l0 x5_1).f1).toList) == a1_2.toList)) = true := c6; clear c6; obtain rfl := Option.some.inj H; have p102 : 0 ≤ (x5_1 : Int) := of_decide_eq_true (by first | (with_reducible assumption) | assumption); have q102 : x5_1 < (l0.length : Int) := of_decide_eq_true (by first | (with_reducible assumption) | assumption); obtain ⟨ad102, e102, hx102_0, hx102_1, hx102_2⟩ := at_T56 HR0.out x5_1 p102 q102; cases e102; replace hx102_0 := (HB.out.cell (World.block_lt_of_cell? w _ hx102_0)).trans hx102_0; replace hx102_1 := (HB.out.cell (World.block_lt_of_cell? w _ hx102_1)).trans hx102_1; replace hx102_2 := (HB.out.cell (World.block_lt_of_cell? w _ hx102_2)).trans hx102_2; replace p102 := eq_true p102; replace q102 := eq_true q102; have hcz7_0 : wr.cell? ⟨gb101, 0, none⟩ = some (.string a1_0) := (Qaj BK101.out 0).trans rfl; have hcz7_1 : wr.cell? ⟨gb101, 1, none⟩ = some (.string a1_1) := (Qaj BK101.out 1).trans rfl; have hcz7_2 : wr.cell? ⟨gb101, 2, none⟩ = some (.string a1_2) := (Qaj BK101.out 2).trans rfl; obtain ⟨hfz7_0, hfz7_1, hfz7_2⟩ := fz_3 BK101.out; go_wp2
      repeat (go_quiet (fail); try go_wp2)
      go_ret; exact ⟨by first | rfl | (simp [Qar, Qaq] <;> rfl) | (simp [*, Qar, Qaq] <;> rfl), by repeat (first | (with_reducible first | exact HB.out | apply Qab | apply Qaa | apply Qac | refine Qai ?_ GE101.out) | exact HB.out)⟩
     ·rw [if_neg c6] at H
      have c6b0 : (((((Qap l0 x5_1).f0.f0).toList) == a1_0.toList && ((((Qap l0 x5_1).f0.f1).toList) == a1_1.toList)) && ((((Qap l0 x5_1).f1).toList) == a1_2.toList)) = false := by simpa using c6
      clear c6; have H' := Qad.mk H; clear H; have p102 : 0 ≤ (x5_1 : Int) := of_decide_eq_true (by first | (with_reducible assumption) | assumption); have q102 : x5_1 < (l0.length : Int) := of_decide_eq_true (by first | (with_reducible assumption) | assumption); obtain ⟨ad102, e102, hx102_0, hx102_1, hx102_2⟩ := at_T56 HR0.out x5_1 p102 q102; cases e102; replace hx102_0 := (HB.out.cell (World.block_lt_of_cell? w _ hx102_0)).trans hx102_0; replace hx102_1 := (HB.out.cell (World.block_lt_of_cell? w _ hx102_1)).trans hx102_1; replace hx102_2 := (HB.out.cell (World.block_lt_of_cell? w _ hx102_2)).trans hx102_2; replace p102 := eq_true p102; replace q102 := eq_true q102; have hcz8_0 : wr.cell? ⟨gb101, 0, none⟩ = some (.string a1_0) := (Qaj BK101.out 0).trans rfl; have hcz8_1 : wr.cell? ⟨gb101, 1, none⟩ = some (.string a1_1) := (Qaj BK101.out 1).trans rfl; have hcz8_2 : wr.cell? ⟨gb101, 2, none⟩ = some (.string a1_2) := (Qaj BK101.out 2).trans rfl; obtain ⟨hfz8_0, hfz8_1, hfz8_2⟩ := fz_3 BK101.out; go_wp2
      repeat (go_quiet (fail); try go_wp2)
      go_roundg k1
      case measure => have := HK1.out; omega
      case rel => exact ⟨(wrap64 (x5_1 + 1)), (by first | rfl | (simp; done) | (simp [*]; done)), H', ⟨by have := HK1.out; omega⟩, ⟨by (with_reducible repeat (first | refine Qag ?_ _ | refine Qah ?_ | refine Qaf ?_ _)); exact BK101.out⟩, ⟨by repeat (first | (with_reducible first | exact HB.out | apply Qab | apply Qaa | apply Qac | refine Qai ?_ GE101.out) | exact HB.out)⟩⟩
    ·rw [if_neg c5] at H; exact absurd H (by simp)
   ·rw [if_neg c4] at H; have c4b0 : decide (x5_1 < (l0.length : Int)) = false := decide_eq_false c4; clear c4; obtain rfl := Option.some.inj H; go_wp2
    repeat (go_quiet (fail); try go_wp2)
    go_ret; exact ⟨by first | rfl | (simp [Qar, Qaq] <;> rfl) | (simp [*, Qar, Qaq] <;> rfl), by repeat (first | (with_reducible first | exact HB.out | apply Qab | apply Qaa | apply Qac | refine Qai ?_ GE101.out) | exact HB.out)⟩
end Go.Proofs.YtmaipohgahdclaaGreatDoor.Pr
end
section
namespace Go.Proofs.YtmaipohgahdclaaGreatDoor.Pr
open Go.RowKit Go.Proofs.YtmaipohgahdclaaGreatDoorW.PrintWords Go.Proofs.YtmaipohgahdclaaGreatDoorW.PrintLast Go.Proofs.YtmaipohgahdclaaGreatDoorW.PrintMore
attribute [local go_sem] QaU QaS max_two min_two QaM QaL QaT QaR
set_option linter.unusedVariables false
set_option linter.unusedSimpArgs false
mutual
def QaD.j0 : Nat → ByteArray → Bool → Option (Bool)
 | 0, _, _ => none
 | k + 1, x0, x23 => if x23 = true then (some false) else (QaD.l0 k x0 1)
def QaD.l0 : Nat → ByteArray → Int → Option (Bool)
 | 0, _, _ => none
 | k + 1, x0, x3 => if x3 < (x0.size : Int) then (if 0 ≤ x3 then (if (bt x0 x3) ≥ 97 then (if (bt x0 x3) ≥ 48 then (if ((bt x0 x3) ≤ 122) then (QaD.l0 k x0 (wrap64 (x3 + 1))) else (if ((bt x0 x3) ≤ 57) then (QaD.l0 k x0 (wrap64 (x3 + 1))) else (some false))) else (if ((bt x0 x3) ≤ 122) then (QaD.l0 k x0 (wrap64 (x3 + 1))) else (some false))) else (if (bt x0 x3) ≥ 48 then (if ((bt x0 x3) ≤ 57) then (QaD.l0 k x0 (wrap64 (x3 + 1))) else (some false)) else (some false))) else (none)) else (some true)
end
def QaD.f (k : Nat) (a0 : ByteArray) : Option (Bool) := if (a0.size : Int) < 1 then (QaD.j0 k a0 true) else (if (a0.size : Int) > 8 then (QaD.j0 k a0 true) else (if 0 < (a0.size : Int) then (if (bt a0 0) < 97 then (QaD.j0 k a0 true) else (QaD.j0 k a0 (decide ((bt a0 0) > 122)))) else (none)))
set_option maxHeartbeats 8000000 in
set_option maxRecDepth 100000 in
theorem QaD.calls (k : Nat) (a0 : ByteArray) (r : Bool) (w : World) (h : QaD.f k a0 = some r) :
  Calls Tryz.prog 76 #[.string a0] w fun e w' => e = .returned (.bool r) ∧ Drawn0 w w' := by
 have H : (if (a0.size : Int) < 1 then (QaD.j0 k a0 true) else (if (a0.size : Int) > 8 then (QaD.j0 k a0 true) else (if 0 < (a0.size : Int) then (if (bt a0 0) < 97 then (QaD.j0 k a0 true) else (QaD.j0 k a0 (decide ((bt a0 0) > 122)))) else (none)))) = some r := h; clear h; have HC2 := Qad.mk H; clear H; go_enter Tryz.func76, Tryz.ntmps76
 go_upto_region 1 with (fail)
 go_cut [23] (fun v23 wc => ∃ (kq : Nat) (x23_1 : Bool), v23 = .bool x23_1 ∧ Qad (QaD.j0 kq a0 x23_1 = some r) ∧ Qad (kq ≤ k) ∧ Drawn0 w wc)
 case first =>
  have H := HC2.out; clear HC2
  by_cases c3 : (a0.size : Int) < 1
  ·rw [if_pos c3] at H; have c3b0 : decide ((a0.size : Int) < 1) = true := decide_eq_true c3; have c3b1 : decide (a0.size < 1) = true := decide_eq_true (by omega); clear c3
   (first | rw [c3b0] | (simp only [Qax, Qaz]; rw [c3b0]) | skip)
   have H' := Qad.mk H; clear H; go_wp2
   go_meet
   case rel => exact ⟨_, (true), (by first | rfl | (simp; done) | (simp [*]; done)), H', ⟨by first | omega | exact Nat.le_refl _⟩, by repeat (first | exact Drawn0.refl _ | apply Drawn0.step)⟩
  ·rw [if_neg c3] at H; have c3b0 : decide ((a0.size : Int) < 1) = false := decide_eq_false c3; have c3b1 : decide (a0.size < 1) = false := decide_eq_false (by omega); clear c3
   (first | rw [c3b0] | (simp only [Qax, Qaz]; rw [c3b0]) | skip)
   by_cases c4 : (a0.size : Int) > 8
   ·rw [if_pos c4] at H; have c4b0 : decide (8 < (a0.size : Int)) = true := decide_eq_true c4; have c4b1 : decide (8 < a0.size) = true := decide_eq_true (by omega); clear c4; have H' := Qad.mk H; clear H; go_wp2
    go_meet
    case rel => exact ⟨_, (true), (by first | rfl | (simp; done) | (simp [*]; done)), H', ⟨by first | omega | exact Nat.le_refl _⟩, by repeat (first | exact Drawn0.refl _ | apply Drawn0.step)⟩
   ·rw [if_neg c4] at H; have c4b0 : decide (8 < (a0.size : Int)) = false := decide_eq_false c4; have c4b1 : decide (8 < a0.size) = false := decide_eq_false (by omega); clear c4
    by_cases c5 : 0 < (a0.size : Int)
    ·rw [if_pos c5] at H; have c5b0 : decide (0 < (a0.size : Int)) = true := decide_eq_true c5; have c5b1 : decide (0 < a0.size) = true := decide_eq_true (by omega); clear c5
     by_cases c7 : (bt a0 0) < 97
     ·rw [if_pos c7] at H; have c7b0 : decide ((bt a0 0) < 97) = true := decide_eq_true c7; clear c7; have H' := Qad.mk H; clear H
      have p6 : 0 ≤ (0 : Int) := (by omega)
      have q6 : 0 < a0.size := (by have : (0 : Int) < (a0.size : Int) := of_decide_eq_true (by first | (with_reducible assumption) | assumption); omega)
      have hx6 : ∀ h : 0 < a0.size, ((a0[0]'h).toNat : Int) = bt a0 0 := bt_at a0 0; clear p6; have qi6 : (0 < (a0.size : Int)) = True := eq_true (of_decide_eq_true (by first | (with_reducible assumption) | assumption)); replace q6 := eq_true q6; go_wp2
      go_meet
      case rel => exact ⟨_, (true), (by first | rfl | (simp; done) | (simp [*]; done)), H', ⟨by first | omega | exact Nat.le_refl _⟩, by repeat (first | exact Drawn0.refl _ | apply Drawn0.step)⟩
     ·rw [if_neg c7] at H; have c7b0 : decide ((bt a0 0) < 97) = false := decide_eq_false c7; clear c7; have H' := Qad.mk H; clear H
      have p6 : 0 ≤ (0 : Int) := (by omega)
      have q6 : 0 < a0.size := (by have : (0 : Int) < (a0.size : Int) := of_decide_eq_true (by first | (with_reducible assumption) | assumption); omega)
      have hx6 : ∀ h : 0 < a0.size, ((a0[0]'h).toNat : Int) = bt a0 0 := bt_at a0 0; clear p6; have qi6 : (0 < (a0.size : Int)) = True := eq_true (of_decide_eq_true (by first | (with_reducible assumption) | assumption)); replace q6 := eq_true q6
      have p8 : 0 ≤ (0 : Int) := (by omega)
      have q8 : 0 < a0.size := (by have : (0 : Int) < (a0.size : Int) := of_decide_eq_true (by first | (with_reducible assumption) | assumption); omega)
      have hx8 : ∀ h : 0 < a0.size, ((a0[0]'h).toNat : Int) = bt a0 0 := bt_at a0 0; clear p8; have qi8 : (0 < (a0.size : Int)) = True := eq_true (of_decide_eq_true (by first | (with_reducible assumption) | assumption)); replace q8 := eq_true q8; go_wp2
      go_meet
      case rel => exact ⟨_, (decide ((bt a0 0) > 122)), (by first | rfl | (simp; done) | (simp [*]; done)), H', ⟨by first | omega | exact Nat.le_refl _⟩, by repeat (first | exact Drawn0.refl _ | apply Drawn0.step)⟩
    ·rw [if_neg c5] at H; exact absurd H (by simp)
 case rest =>
  clear HC2; (try clear p2); (try clear c3); (try clear c3b0); (try clear c3b1); (try clear c4); (try clear c4b0); (try clear c4b1); (try clear c5); (try clear c5b0); (try clear c5b1); (try clear p6); (try clear q6); (try clear hx6); (try clear qi6); (try clear c7); (try clear c7b0); (try clear p8); (try clear q8); (try clear hx8); (try clear qi8); (try clear p6); (try clear p8); (try clear q6); (try clear q8); obtain ⟨kq, x23_1, rfl, HA, HJ1, ⟨mc1, rfl⟩⟩ := hcut
  cases kq with
  | zero => exact absurd HA.out (by simp [QaD.j0])
  | succ kj1 =>
   have H := HA.out; clear HA; simp only [QaD.j0] at H
   by_cases c9 : x23_1 = true
   ·subst c9
    have H1 : (some false) = some r := by rw [if_pos rfl] at H; exact H
    clear H; have H := H1; clear H1; obtain rfl := Option.some.inj H; go_wp2; go_ret; exact ⟨by first | rfl | (simp; done) | (simp [*]; done), by repeat (first | exact Drawn0.refl _ | apply Drawn0.step)⟩
   ·replace c9 := Bool.eq_false_iff.mpr c9; subst c9
    have H1 : (QaD.l0 kj1 a0 1) = some r := by rw [if_neg (show ¬ (false = true) by decide)] at H; exact H
    clear H; have H := H1; clear H1; have H' := Qad.mk H; clear H; go_wp2
    go_loopg [3] kj1 (fun kq v3 w' => ∃ (x3_2 : Int), v3 = .int .i64 x3_2 ∧ Qad (QaD.l0 kq a0 x3_2 = some r) ∧ Qad (kq ≤ kj1) ∧ Drawn0 w w')
    case atStart => exact ⟨(1), (by first | rfl | (simp; done) | (simp [*]; done)), H', ⟨Nat.le_refl _⟩, by repeat (first | exact Drawn0.refl _ | apply Drawn0.step)⟩
    case round =>
     clear H'; (try clear c1); (try clear p2); (try clear c3); (try clear c3b0); (try clear c3b1); (try clear c4); (try clear c4b0); (try clear c4b1); (try clear c5); (try clear c5b0); (try clear c5b1); (try clear p6); (try clear q6); (try clear hx6); (try clear qi6); (try clear c7); (try clear c7b0); (try clear p8); (try clear q8); (try clear hx8); (try clear qi8); (try clear c9); (try clear p2); (try clear p6); (try clear p8); (try clear q6); (try clear q8); obtain ⟨x3_2, rfl, HA, HK2, ⟨m2, rfl⟩⟩ := hrel
     cases gk with
     | zero => exact absurd HA.out (by simp [QaD.l0])
     | succ k2 =>
      have H := HA.out; clear HA; simp only [QaD.l0] at H
      by_cases c10 : x3_2 < (a0.size : Int)
      ·rw [if_pos c10] at H; have c10b0 : decide (x3_2 < (a0.size : Int)) = true := decide_eq_true c10; clear c10
       by_cases c11 : 0 ≤ x3_2
       ·rw [if_pos c11] at H; have c11b0 : decide (0 ≤ x3_2) = true := decide_eq_true c11; clear c11
        by_cases c13 : (bt a0 x3_2) ≥ 97
        ·rw [if_pos c13] at H; have c13b0 : decide (97 ≤ (bt a0 x3_2)) = true := decide_eq_true c13; clear c13
         by_cases c16 : (bt a0 x3_2) ≥ 48
         ·rw [if_pos c16] at H; have c16b0 : decide (48 ≤ (bt a0 x3_2)) = true := decide_eq_true c16; clear c16
          by_cases c18 : ((bt a0 x3_2) ≤ 122)
          ·rw [if_pos c18] at H; have c18b0 : decide ((bt a0 x3_2) ≤ 122) = true := decide_eq_true c18; clear c18; have H' := Qad.mk H; clear H; have p12 : 0 ≤ (x3_2 : Int) := of_decide_eq_true (by first | (with_reducible assumption) | assumption); have q12 : x3_2 < (a0.size : Int) := of_decide_eq_true (by first | (with_reducible assumption) | assumption); have hx12 := bt_at a0 x3_2; replace p12 := eq_true p12; replace q12 := eq_true q12; have p14 : 0 ≤ (x3_2 : Int) := of_decide_eq_true (by first | (with_reducible assumption) | assumption); have q14 : x3_2 < (a0.size : Int) := of_decide_eq_true (by first | (with_reducible assumption) | assumption); have hx14 := bt_at a0 x3_2; replace p14 := eq_true p14; replace q14 := eq_true q14; have p15 : 0 ≤ (x3_2 : Int) := of_decide_eq_true (by first | (with_reducible assumption) | assumption); have q15 : x3_2 < (a0.size : Int) := of_decide_eq_true (by first | (with_reducible assumption) | assumption); have hx15 := bt_at a0 x3_2; replace p15 := eq_true p15; replace q15 := eq_true q15; have p17 : 0 ≤ (x3_2 : Int) := of_decide_eq_true (by first | (with_reducible assumption) | assumption); have q17 : x3_2 < (a0.size : Int) := of_decide_eq_true (by first | (with_reducible assumption) | assumption); have hx17 := bt_at a0 x3_2; replace p17 := eq_true p17; replace q17 := eq_true q17; go_wp2
           go_roundg k2
           case measure => have := HJ1.out; have := HK2.out; omega
           case rel => exact ⟨(wrap64 (x3_2 + 1)), (by first | rfl | (simp; done) | (simp [*]; done)), H', ⟨by have := HJ1.out; have := HK2.out; omega⟩, by repeat (first | exact Drawn0.refl _ | apply Drawn0.step)⟩
          ·rw [if_neg c18] at H; have c18b0 : decide ((bt a0 x3_2) ≤ 122) = false := decide_eq_false c18; clear c18
           by_cases c19 : ((bt a0 x3_2) ≤ 57)
           ·rw [if_pos c19] at H; have c19b0 : decide ((bt a0 x3_2) ≤ 57) = true := decide_eq_true c19; clear c19; have H' := Qad.mk H; clear H; have p12 : 0 ≤ (x3_2 : Int) := of_decide_eq_true (by first | (with_reducible assumption) | assumption); have q12 : x3_2 < (a0.size : Int) := of_decide_eq_true (by first | (with_reducible assumption) | assumption); have hx12 := bt_at a0 x3_2; replace p12 := eq_true p12; replace q12 := eq_true q12; have p14 : 0 ≤ (x3_2 : Int) := of_decide_eq_true (by first | (with_reducible assumption) | assumption); have q14 : x3_2 < (a0.size : Int) := of_decide_eq_true (by first | (with_reducible assumption) | assumption); have hx14 := bt_at a0 x3_2; replace p14 := eq_true p14; replace q14 := eq_true q14; have p15 : 0 ≤ (x3_2 : Int) := of_decide_eq_true (by first | (with_reducible assumption) | assumption); have q15 : x3_2 < (a0.size : Int) := of_decide_eq_true (by first | (with_reducible assumption) | assumption); have hx15 := bt_at a0 x3_2; replace p15 := eq_true p15; replace q15 := eq_true q15; have p17 : 0 ≤ (x3_2 : Int) := of_decide_eq_true (by first | (with_reducible assumption) | assumption); have q17 : x3_2 < (a0.size : Int) := of_decide_eq_true (by first | (with_reducible assumption) | assumption); have hx17 := bt_at a0 x3_2; replace p17 := eq_true p17; replace q17 := eq_true q17; go_wp2
            go_roundg k2
            case measure => have := HJ1.out; have := HK2.out; omega
            case rel => exact ⟨(wrap64 (x3_2 + 1)), (by first | rfl | (simp; done) | (simp [*]; done)), H', ⟨by have := HJ1.out; have := HK2.out; omega⟩, by repeat (first | exact Drawn0.refl _ | apply Drawn0.step)⟩
           ·rw [if_neg c19] at H; have c19b0 : decide ((bt a0 x3_2) ≤ 57) = false := decide_eq_false c19; clear c19; obtain rfl := Option.some.inj H; have p12 : 0 ≤ (x3_2 : Int) := of_decide_eq_true (by first | (with_reducible assumption) | assumption); have q12 : x3_2 < (a0.size : Int) := of_decide_eq_true (by first | (with_reducible assumption) | assumption); have hx12 := bt_at a0 x3_2; replace p12 := eq_true p12; replace q12 := eq_true q12; have p14 : 0 ≤ (x3_2 : Int) := of_decide_eq_true (by first | (with_reducible assumption) | assumption); have q14 : x3_2 < (a0.size : Int) := of_decide_eq_true (by first | (with_reducible assumption) | assumption); have hx14 := bt_at a0 x3_2; replace p14 := eq_true p14; replace q14 := eq_true q14; have p15 : 0 ≤ (x3_2 : Int) := of_decide_eq_true (by first | (with_reducible assumption) | assumption); have q15 : x3_2 < (a0.size : Int) := of_decide_eq_true (by first | (with_reducible assumption) | assumption); have hx15 := bt_at a0 x3_2; replace p15 := eq_true p15; replace q15 := eq_true q15; have p17 : 0 ≤ (x3_2 : Int) := of_decide_eq_true (by first | (with_reducible assumption) | assumption); have q17 : x3_2 < (a0.size : Int) := of_decide_eq_true (by first | (with_reducible assumption) | assumption); have hx17 := bt_at a0 x3_2; replace p17 := eq_true p17; replace q17 := eq_true q17; go_wp2; go_ret; exact ⟨by first | rfl | (simp; done) | (simp [*]; done), by repeat (first | exact Drawn0.refl _ | apply Drawn0.step)⟩
         ·rw [if_neg c16] at H; have c16b0 : decide (48 ≤ (bt a0 x3_2)) = false := decide_eq_false c16; clear c16
          by_cases c20 : ((bt a0 x3_2) ≤ 122)
          ·rw [if_pos c20] at H; have c20b0 : decide ((bt a0 x3_2) ≤ 122) = true := decide_eq_true c20; clear c20; have H' := Qad.mk H; clear H; have p12 : 0 ≤ (x3_2 : Int) := of_decide_eq_true (by first | (with_reducible assumption) | assumption); have q12 : x3_2 < (a0.size : Int) := of_decide_eq_true (by first | (with_reducible assumption) | assumption); have hx12 := bt_at a0 x3_2; replace p12 := eq_true p12; replace q12 := eq_true q12; have p14 : 0 ≤ (x3_2 : Int) := of_decide_eq_true (by first | (with_reducible assumption) | assumption); have q14 : x3_2 < (a0.size : Int) := of_decide_eq_true (by first | (with_reducible assumption) | assumption); have hx14 := bt_at a0 x3_2; replace p14 := eq_true p14; replace q14 := eq_true q14; have p15 : 0 ≤ (x3_2 : Int) := of_decide_eq_true (by first | (with_reducible assumption) | assumption); have q15 : x3_2 < (a0.size : Int) := of_decide_eq_true (by first | (with_reducible assumption) | assumption); have hx15 := bt_at a0 x3_2; replace p15 := eq_true p15; replace q15 := eq_true q15; go_wp2
           go_roundg k2
           case measure => have := HJ1.out; have := HK2.out; omega
           case rel => exact ⟨(wrap64 (x3_2 + 1)), (by first | rfl | (simp; done) | (simp [*]; done)), H', ⟨by have := HJ1.out; have := HK2.out; omega⟩, by repeat (first | exact Drawn0.refl _ | apply Drawn0.step)⟩
          ·rw [if_neg c20] at H; have c20b0 : decide ((bt a0 x3_2) ≤ 122) = false := decide_eq_false c20; clear c20; obtain rfl := Option.some.inj H; have p12 : 0 ≤ (x3_2 : Int) := of_decide_eq_true (by first | (with_reducible assumption) | assumption); have q12 : x3_2 < (a0.size : Int) := of_decide_eq_true (by first | (with_reducible assumption) | assumption); have hx12 := bt_at a0 x3_2; replace p12 := eq_true p12; replace q12 := eq_true q12; have p14 : 0 ≤ (x3_2 : Int) := of_decide_eq_true (by first | (with_reducible assumption) | assumption); have q14 : x3_2 < (a0.size : Int) := of_decide_eq_true (by first | (with_reducible assumption) | assumption); have hx14 := bt_at a0 x3_2; replace p14 := eq_true p14; replace q14 := eq_true q14; have p15 : 0 ≤ (x3_2 : Int) := of_decide_eq_true (by first | (with_reducible assumption) | assumption); have q15 : x3_2 < (a0.size : Int) := of_decide_eq_true (by first | (with_reducible assumption) | assumption); have hx15 := bt_at a0 x3_2; replace p15 := eq_true p15; replace q15 := eq_true q15; go_wp2; go_ret; exact ⟨by first | rfl | (simp; done) | (simp [*]; done), by repeat (first | exact Drawn0.refl _ | apply Drawn0.step)⟩
        ·rw [if_neg c13] at H; have c13b0 : decide (97 ≤ (bt a0 x3_2)) = false := decide_eq_false c13; clear c13
         by_cases c22 : (bt a0 x3_2) ≥ 48
         ·rw [if_pos c22] at H; have c22b0 : decide (48 ≤ (bt a0 x3_2)) = true := decide_eq_true c22; clear c22
          by_cases c24 : ((bt a0 x3_2) ≤ 57)
          ·rw [if_pos c24] at H; have c24b0 : decide ((bt a0 x3_2) ≤ 57) = true := decide_eq_true c24; clear c24; have H' := Qad.mk H; clear H; have p12 : 0 ≤ (x3_2 : Int) := of_decide_eq_true (by first | (with_reducible assumption) | assumption); have q12 : x3_2 < (a0.size : Int) := of_decide_eq_true (by first | (with_reducible assumption) | assumption); have hx12 := bt_at a0 x3_2; replace p12 := eq_true p12; replace q12 := eq_true q12; have p21 : 0 ≤ (x3_2 : Int) := of_decide_eq_true (by first | (with_reducible assumption) | assumption); have q21 : x3_2 < (a0.size : Int) := of_decide_eq_true (by first | (with_reducible assumption) | assumption); have hx21 := bt_at a0 x3_2; replace p21 := eq_true p21; replace q21 := eq_true q21; have p23 : 0 ≤ (x3_2 : Int) := of_decide_eq_true (by first | (with_reducible assumption) | assumption); have q23 : x3_2 < (a0.size : Int) := of_decide_eq_true (by first | (with_reducible assumption) | assumption); have hx23 := bt_at a0 x3_2; replace p23 := eq_true p23; replace q23 := eq_true q23; go_wp2
           go_roundg k2
           case measure => have := HJ1.out; have := HK2.out; omega
           case rel => exact ⟨(wrap64 (x3_2 + 1)), (by first | rfl | (simp; done) | (simp [*]; done)), H', ⟨by have := HJ1.out; have := HK2.out; omega⟩, by repeat (first | exact Drawn0.refl _ | apply Drawn0.step)⟩
          ·rw [if_neg c24] at H; have c24b0 : decide ((bt a0 x3_2) ≤ 57) = false := decide_eq_false c24; clear c24; obtain rfl := Option.some.inj H; have p12 : 0 ≤ (x3_2 : Int) := of_decide_eq_true (by first | (with_reducible assumption) | assumption); have q12 : x3_2 < (a0.size : Int) := of_decide_eq_true (by first | (with_reducible assumption) | assumption); have hx12 := bt_at a0 x3_2; replace p12 := eq_true p12; replace q12 := eq_true q12; have p21 : 0 ≤ (x3_2 : Int) := of_decide_eq_true (by first | (with_reducible assumption) | assumption); have q21 : x3_2 < (a0.size : Int) := of_decide_eq_true (by first | (with_reducible assumption) | assumption); have hx21 := bt_at a0 x3_2; replace p21 := eq_true p21; replace q21 := eq_true q21; have p23 : 0 ≤ (x3_2 : Int) := of_decide_eq_true (by first | (with_reducible assumption) | assumption); have q23 : x3_2 < (a0.size : Int) := of_decide_eq_true (by first | (with_reducible assumption) | assumption); have hx23 := bt_at a0 x3_2; replace p23 := eq_true p23; replace q23 := eq_true q23; go_wp2; go_ret; exact ⟨by first | rfl | (simp; done) | (simp [*]; done), by repeat (first | exact Drawn0.refl _ | apply Drawn0.step)⟩
         ·rw [if_neg c22] at H; have c22b0 : decide (48 ≤ (bt a0 x3_2)) = false := decide_eq_false c22; clear c22; obtain rfl := Option.some.inj H; have p12 : 0 ≤ (x3_2 : Int) := of_decide_eq_true (by first | (with_reducible assumption) | assumption); have q12 : x3_2 < (a0.size : Int) := of_decide_eq_true (by first | (with_reducible assumption) | assumption); have hx12 := bt_at a0 x3_2; replace p12 := eq_true p12; replace q12 := eq_true q12; have p21 : 0 ≤ (x3_2 : Int) := of_decide_eq_true (by first | (with_reducible assumption) | assumption); have q21 : x3_2 < (a0.size : Int) := of_decide_eq_true (by first | (with_reducible assumption) | assumption); have hx21 := bt_at a0 x3_2; replace p21 := eq_true p21; replace q21 := eq_true q21; go_wp2; go_ret; exact ⟨by first | rfl | (simp; done) | (simp [*]; done), by repeat (first | exact Drawn0.refl _ | apply Drawn0.step)⟩
       ·rw [if_neg c11] at H; exact absurd H (by simp)
      ·rw [if_neg c10] at H; have c10b0 : decide (x3_2 < (a0.size : Int)) = false := decide_eq_false c10; clear c10; obtain rfl := Option.some.inj H; go_wp2; go_ret; exact ⟨by first | rfl | (simp; done) | (simp [*]; done), by repeat (first | exact Drawn0.refl _ | apply Drawn0.step)⟩
mutual
def Qat.j0 : Nat → ByteArray → Bool → Option (Int)
 | 0, _, _ => none
 | k + 1, x0, x26 => if x26 = true then (some 0) else (if 1 < (x0.size : Int) then (if (x0.size : Int) = 3 then (if 2 < (x0.size : Int) then (if (bt x0 2) < 48 then (Qat.j1 k x0 (((bt x0 1) - 48) % 256) true) else (Qat.j1 k x0 (((bt x0 1) - 48) % 256) (decide ((bt x0 2) > 57)))) else (none)) else (if (((bt x0 1) - 48) % 256) > 16 then (some 0) else (some (((bt x0 1) - 48) % 256)))) else (none))
def Qat.j1 : Nat → ByteArray → Int → Bool → Option (Int)
 | 0, _, _, _ => none
 | k + 1, x0, x3, x41 => if x41 = true then (some 0) else (if 2 < (x0.size : Int) then (if (((10 * x3) + (((bt x0 2) - 48) % 256))) > 16 then (some 0) else (some (((10 * x3) + (((bt x0 2) - 48) % 256))))) else (none))
end
def Qat.f (k : Nat) (a0 : ByteArray) : Option (Int) := if (a0.size : Int) < 2 then (Qat.j0 k a0 true) else (if (a0.size : Int) > 3 then (Qat.j0 k a0 true) else (if 0 < (a0.size : Int) then (if (bt a0 0) = 100 then (if 1 < (a0.size : Int) then (if (bt a0 1) < 49 then (Qat.j0 k a0 true) else (Qat.j0 k a0 (decide ((bt a0 1) > 57)))) else (none)) else (Qat.j0 k a0 true)) else (none)))
set_option maxHeartbeats 8000000 in
set_option maxRecDepth 100000 in
theorem Qat.calls (k : Nat) (a0 : ByteArray) (r : Int) (w : World) (h : Qat.f k a0 = some r) :
  Calls Tryz.prog 82 #[.string a0] w fun e w' => e = .returned (.int .i64 r) ∧ Drawn0 w w' := by
 have H : (if (a0.size : Int) < 2 then (Qat.j0 k a0 true) else (if (a0.size : Int) > 3 then (Qat.j0 k a0 true) else (if 0 < (a0.size : Int) then (if (bt a0 0) = 100 then (if 1 < (a0.size : Int) then (if (bt a0 1) < 49 then (Qat.j0 k a0 true) else (Qat.j0 k a0 (decide ((bt a0 1) > 57)))) else (none)) else (Qat.j0 k a0 true)) else (none)))) = some r := h; clear h; have HC2 := Qad.mk H; clear H; go_enter Tryz.func82, Tryz.ntmps82
 go_upto_region 1 with (fail)
 go_cut [26] (fun v26 wc => ∃ (kq : Nat) (x26_1 : Bool), v26 = .bool x26_1 ∧ Qad (Qat.j0 kq a0 x26_1 = some r) ∧ Qad (kq ≤ k) ∧ Drawn0 w wc)
 case first =>
  have H := HC2.out; clear HC2
  by_cases c3 : (a0.size : Int) < 2
  ·rw [if_pos c3] at H; have c3b0 : decide ((a0.size : Int) < 2) = true := decide_eq_true c3; have c3b1 : decide (a0.size < 2) = true := decide_eq_true (by omega); clear c3
   (first | rw [c3b0] | (simp only [Qax, Qaz]; rw [c3b0]) | skip)
   have H' := Qad.mk H; clear H; go_wp2
   go_meet
   case rel => exact ⟨_, (true), (by first | rfl | (simp; done) | (simp [*]; done)), H', ⟨by first | omega | exact Nat.le_refl _⟩, by repeat (first | exact Drawn0.refl _ | apply Drawn0.step)⟩
  ·rw [if_neg c3] at H; have c3b0 : decide ((a0.size : Int) < 2) = false := decide_eq_false c3; have c3b1 : decide (a0.size < 2) = false := decide_eq_false (by omega); clear c3
   (first | rw [c3b0] | (simp only [Qax, Qaz]; rw [c3b0]) | skip)
   by_cases c4 : (a0.size : Int) > 3
   ·rw [if_pos c4] at H; have c4b0 : decide (3 < (a0.size : Int)) = true := decide_eq_true c4; have c4b1 : decide (3 < a0.size) = true := decide_eq_true (by omega); clear c4; have H' := Qad.mk H; clear H; go_wp2
    go_meet
    case rel => exact ⟨_, (true), (by first | rfl | (simp; done) | (simp [*]; done)), H', ⟨by first | omega | exact Nat.le_refl _⟩, by repeat (first | exact Drawn0.refl _ | apply Drawn0.step)⟩
   ·rw [if_neg c4] at H; have c4b0 : decide (3 < (a0.size : Int)) = false := decide_eq_false c4; have c4b1 : decide (3 < a0.size) = false := decide_eq_false (by omega); clear c4
    by_cases c5 : 0 < (a0.size : Int)
    ·rw [if_pos c5] at H; have c5b0 : decide (0 < (a0.size : Int)) = true := decide_eq_true c5; have c5b1 : decide (0 < a0.size) = true := decide_eq_true (by omega); clear c5
     by_cases c7 : (bt a0 0) = 100
     ·rw [if_pos c7] at H; have c7b0 : ((bt a0 0) == 100) = true := beq_iff_eq.mpr c7; have c7b1 : ((bt a0 0) != 100) = false := bne_eq_false_iff_eq.mpr c7; clear c7
      by_cases c8 : 1 < (a0.size : Int)
      ·rw [if_pos c8] at H; have c8b0 : decide (1 < (a0.size : Int)) = true := decide_eq_true c8; have c8b1 : decide (1 < a0.size) = true := decide_eq_true (by omega); clear c8
       by_cases c10 : (bt a0 1) < 49
       ·rw [if_pos c10] at H; have c10b0 : decide ((bt a0 1) < 49) = true := decide_eq_true c10; clear c10; have H' := Qad.mk H; clear H
        have p6 : 0 ≤ (0 : Int) := (by omega)
        have q6 : 0 < a0.size := (by have : (0 : Int) < (a0.size : Int) := of_decide_eq_true (by first | (with_reducible assumption) | assumption); omega)
        have hx6 : ∀ h : 0 < a0.size, ((a0[0]'h).toNat : Int) = bt a0 0 := bt_at a0 0; clear p6; have qi6 : (0 < (a0.size : Int)) = True := eq_true (of_decide_eq_true (by first | (with_reducible assumption) | assumption)); replace q6 := eq_true q6
        have p9 : 0 ≤ (1 : Int) := (by omega)
        have q9 : 1 < a0.size := (by have : (1 : Int) < (a0.size : Int) := of_decide_eq_true (by first | (with_reducible assumption) | assumption); omega)
        have hx9 : ∀ h : 1 < a0.size, ((a0[1]'h).toNat : Int) = bt a0 1 := bt_at a0 1; clear p9; have qi9 : (1 < (a0.size : Int)) = True := eq_true (of_decide_eq_true (by first | (with_reducible assumption) | assumption)); replace q9 := eq_true q9; go_wp2
        go_meet
        case rel => exact ⟨_, (true), (by first | rfl | (simp; done) | (simp [*]; done)), H', ⟨by first | omega | exact Nat.le_refl _⟩, by repeat (first | exact Drawn0.refl _ | apply Drawn0.step)⟩
       ·rw [if_neg c10] at H; have c10b0 : decide ((bt a0 1) < 49) = false := decide_eq_false c10; clear c10; have H' := Qad.mk H; clear H
        have p6 : 0 ≤ (0 : Int) := (by omega)
        have q6 : 0 < a0.size := (by have : (0 : Int) < (a0.size : Int) := of_decide_eq_true (by first | (with_reducible assumption) | assumption); omega)
        have hx6 : ∀ h : 0 < a0.size, ((a0[0]'h).toNat : Int) = bt a0 0 := bt_at a0 0; clear p6; have qi6 : (0 < (a0.size : Int)) = True := eq_true (of_decide_eq_true (by first | (with_reducible assumption) | assumption)); replace q6 := eq_true q6
        have p9 : 0 ≤ (1 : Int) := (by omega)
        have q9 : 1 < a0.size := (by have : (1 : Int) < (a0.size : Int) := of_decide_eq_true (by first | (with_reducible assumption) | assumption); omega)
        have hx9 : ∀ h : 1 < a0.size, ((a0[1]'h).toNat : Int) = bt a0 1 := bt_at a0 1; clear p9; have qi9 : (1 < (a0.size : Int)) = True := eq_true (of_decide_eq_true (by first | (with_reducible assumption) | assumption)); replace q9 := eq_true q9
        have p11 : 0 ≤ (1 : Int) := (by omega)
        have q11 : 1 < a0.size := (by have : (1 : Int) < (a0.size : Int) := of_decide_eq_true (by first | (with_reducible assumption) | assumption); omega)
        have hx11 : ∀ h : 1 < a0.size, ((a0[1]'h).toNat : Int) = bt a0 1 := bt_at a0 1; clear p11; have qi11 : (1 < (a0.size : Int)) = True := eq_true (of_decide_eq_true (by first | (with_reducible assumption) | assumption)); replace q11 := eq_true q11; go_wp2
        go_meet
        case rel => exact ⟨_, (decide ((bt a0 1) > 57)), (by first | rfl | (simp; done) | (simp [*]; done)), H', ⟨by first | omega | exact Nat.le_refl _⟩, by repeat (first | exact Drawn0.refl _ | apply Drawn0.step)⟩
      ·rw [if_neg c8] at H; exact absurd H (by simp)
     ·rw [if_neg c7] at H; have c7b0 : ((bt a0 0) == 100) = false := beq_eq_false_iff_ne.mpr c7; have c7b1 : ((bt a0 0) != 100) = true := bne_iff_ne.mpr c7; have H' := Qad.mk H; clear H
      have p6 : 0 ≤ (0 : Int) := (by omega)
      have q6 : 0 < a0.size := (by have : (0 : Int) < (a0.size : Int) := of_decide_eq_true (by first | (with_reducible assumption) | assumption); omega)
      have hx6 : ∀ h : 0 < a0.size, ((a0[0]'h).toNat : Int) = bt a0 0 := bt_at a0 0; clear p6; have qi6 : (0 < (a0.size : Int)) = True := eq_true (of_decide_eq_true (by first | (with_reducible assumption) | assumption)); replace q6 := eq_true q6; go_wp2
      go_meet
      case rel => exact ⟨_, (true), (by first | rfl | (simp; done) | (simp [*]; done)), H', ⟨by first | omega | exact Nat.le_refl _⟩, by repeat (first | exact Drawn0.refl _ | apply Drawn0.step)⟩
    ·rw [if_neg c5] at H; exact absurd H (by simp)
 case rest =>
  clear HC2; (try clear c1); (try clear p1); (try clear q1); (try clear hx1); (try clear qi1); (try clear p2); (try clear c3); (try clear c3b0); (try clear c3b1); (try clear c4); (try clear c4b0); (try clear c4b1); (try clear c5); (try clear c5b0); (try clear c5b1); (try clear p6); (try clear q6); (try clear hx6); (try clear qi6); (try clear c7); (try clear c7b0); (try clear c7b1); (try clear c8); (try clear c8b0); (try clear c8b1); (try clear p9); (try clear q9); (try clear hx9); (try clear qi9); (try clear c10); (try clear c10b0); (try clear p11); (try clear q11); (try clear hx11); (try clear qi11); (try clear p11); (try clear p6); (try clear p9); (try clear q11); (try clear q6); (try clear q9); obtain ⟨kq, x26_1, rfl, HA, HJ1, ⟨mc1, rfl⟩⟩ := hcut
  cases kq with
  | zero => exact absurd HA.out (by simp [Qat.j0])
  | succ kj1 =>
   have H := HA.out; clear HA; simp only [Qat.j0] at H
   by_cases c12 : x26_1 = true
   ·subst c12
    have H1 : (some 0) = some r := by rw [if_pos rfl] at H; exact H
    clear H; have H := H1; clear H1; obtain rfl := Option.some.inj H; go_wp2; go_ret; exact ⟨by first | rfl | (simp; done) | (simp [*]; done), by repeat (first | exact Drawn0.refl _ | apply Drawn0.step)⟩
   ·replace c12 := Bool.eq_false_iff.mpr c12; subst c12
    have H1 : (if 1 < (a0.size : Int) then (if (a0.size : Int) = 3 then (if 2 < (a0.size : Int) then (if (bt a0 2) < 48 then (Qat.j1 kj1 a0 (((bt a0 1) - 48) % 256) true) else (Qat.j1 kj1 a0 (((bt a0 1) - 48) % 256) (decide ((bt a0 2) > 57)))) else (none)) else (if (((bt a0 1) - 48) % 256) > 16 then (some 0) else (some (((bt a0 1) - 48) % 256)))) else (none)) = some r := by rw [if_neg (show ¬ (false = true) by decide)] at H; exact H
    clear H; have H := H1; clear H1
    by_cases c13 : 1 < (a0.size : Int)
    ·rw [if_pos c13] at H; have c13b0 : decide (1 < (a0.size : Int)) = true := decide_eq_true c13; have c13b1 : decide (1 < a0.size) = true := decide_eq_true (by omega); clear c13
     by_cases c15 : (a0.size : Int) = 3
     ·rw [if_pos c15] at H; have c15b0 : ((a0.size : Int) == 3) = true := beq_iff_eq.mpr c15; have c15b1 : ((a0.size : Int) != 3) = false := bne_eq_false_iff_eq.mpr c15; clear c15; have HC16 := Qad.mk H; clear H
      have p14 : 0 ≤ (1 : Int) := (by omega)
      have q14 : 1 < a0.size := (by have : (1 : Int) < (a0.size : Int) := of_decide_eq_true (by first | (with_reducible assumption) | assumption); omega)
      have hx14 : ∀ h : 1 < a0.size, ((a0[1]'h).toNat : Int) = bt a0 1 := bt_at a0 1; clear p14; have qi14 : (1 < (a0.size : Int)) = True := eq_true (of_decide_eq_true (by first | (with_reducible assumption) | assumption)); replace q14 := eq_true q14
      go_upto_region 5 with (fail)
      go_cut [41] (fun v41 wc => ∃ (kq : Nat) (x41_15 : Bool), v41 = .bool x41_15 ∧ Qad (Qat.j1 kq a0 (((bt a0 1) - 48) % 256) x41_15 = some r) ∧ Qad (kq ≤ kj1) ∧ Drawn0 w wc)
      case first =>
       have H := HC16.out; clear HC16
       by_cases c17 : 2 < (a0.size : Int)
       ·rw [if_pos c17] at H; have c17b0 : decide (2 < (a0.size : Int)) = true := decide_eq_true c17; have c17b1 : decide (2 < a0.size) = true := decide_eq_true (by omega); clear c17
        (first | rw [c17b0] | (simp only [Qax, Qaz]; rw [c17b0]) | skip)
        by_cases c19 : (bt a0 2) < 48
        ·rw [if_pos c19] at H; have c19b0 : decide ((bt a0 2) < 48) = true := decide_eq_true c19; clear c19; have H' := Qad.mk H; clear H
         have p18 : 0 ≤ (2 : Int) := (by omega)
         have q18 : 2 < a0.size := (by have : (2 : Int) < (a0.size : Int) := of_decide_eq_true (by first | (with_reducible assumption) | assumption); omega)
         have hx18 : ∀ h : 2 < a0.size, ((a0[2]'h).toNat : Int) = bt a0 2 := bt_at a0 2; clear p18; have qi18 : (2 < (a0.size : Int)) = True := eq_true (of_decide_eq_true (by first | (with_reducible assumption) | assumption)); replace q18 := eq_true q18; go_wp2
         go_meet
         case rel => exact ⟨_, (true), (by first | rfl | (simp; done) | (simp [*]; done)), H', ⟨by have := HJ1.out; first | omega | exact Nat.le_refl _⟩, by repeat (first | exact Drawn0.refl _ | apply Drawn0.step)⟩
        ·rw [if_neg c19] at H; have c19b0 : decide ((bt a0 2) < 48) = false := decide_eq_false c19; clear c19; have H' := Qad.mk H; clear H
         have p18 : 0 ≤ (2 : Int) := (by omega)
         have q18 : 2 < a0.size := (by have : (2 : Int) < (a0.size : Int) := of_decide_eq_true (by first | (with_reducible assumption) | assumption); omega)
         have hx18 : ∀ h : 2 < a0.size, ((a0[2]'h).toNat : Int) = bt a0 2 := bt_at a0 2; clear p18; have qi18 : (2 < (a0.size : Int)) = True := eq_true (of_decide_eq_true (by first | (with_reducible assumption) | assumption)); replace q18 := eq_true q18
         have p20 : 0 ≤ (2 : Int) := (by omega)
         have q20 : 2 < a0.size := (by have : (2 : Int) < (a0.size : Int) := of_decide_eq_true (by first | (with_reducible assumption) | assumption); omega)
         have hx20 : ∀ h : 2 < a0.size, ((a0[2]'h).toNat : Int) = bt a0 2 := bt_at a0 2; clear p20; have qi20 : (2 < (a0.size : Int)) = True := eq_true (of_decide_eq_true (by first | (with_reducible assumption) | assumption)); replace q20 := eq_true q20; go_wp2
         go_meet
         case rel => exact ⟨_, (decide ((bt a0 2) > 57)), (by first | rfl | (simp; done) | (simp [*]; done)), H', ⟨by have := HJ1.out; first | omega | exact Nat.le_refl _⟩, by repeat (first | exact Drawn0.refl _ | apply Drawn0.step)⟩
       ·rw [if_neg c17] at H; exact absurd H (by simp)
      case rest =>
       clear HC16; (try clear c1); (try clear p1); (try clear q1); (try clear hx1); (try clear qi1); (try clear p2); (try clear q2); (try clear hx2); (try clear qi2); (try clear c3); (try clear c3b0); (try clear c3b1); (try clear c4); (try clear c4b0); (try clear c4b1); (try clear c5); (try clear c5b0); (try clear c5b1); (try clear p6); (try clear q6); (try clear hx6); (try clear qi6); (try clear c7); (try clear c7b0); (try clear c7b1); (try clear c8); (try clear c8b0); (try clear c8b1); (try clear p9); (try clear q9); (try clear hx9); (try clear qi9); (try clear c10); (try clear c10b0); (try clear p11); (try clear q11); (try clear hx11); (try clear qi11); (try clear c12); (try clear c13); (try clear c13b0); (try clear c13b1); (try clear p14); (try clear q14); (try clear hx14); (try clear qi14); (try clear c15); (try clear c15b0); (try clear c15b1); (try clear c17); (try clear c17b0); (try clear c17b1); (try clear p18); (try clear q18); (try clear hx18); (try clear qi18); (try clear c19); (try clear c19b0); (try clear p20); (try clear q20); (try clear hx20); (try clear qi20); (try clear p1); (try clear p11); (try clear p14); (try clear p18); (try clear p2); (try clear p20); (try clear p6); (try clear p9); (try clear q1); (try clear q11); (try clear q14); (try clear q18); (try clear q20); (try clear q6); (try clear q9); obtain ⟨kq, x41_15, rfl, HA, HJ15, ⟨mc15, rfl⟩⟩ := hcut
       cases kq with
       | zero => exact absurd HA.out (by simp [Qat.j1])
       | succ kj15 =>
        have H := HA.out; clear HA; simp only [Qat.j1] at H
        by_cases c21 : x41_15 = true
        ·subst c21
         have H1 : (some 0) = some r := by rw [if_pos rfl] at H; exact H
         clear H; have H := H1; clear H1; obtain rfl := Option.some.inj H; go_wp2; go_ret; exact ⟨by first | rfl | (simp; done) | (simp [*]; done), by repeat (first | exact Drawn0.refl _ | apply Drawn0.step)⟩
        ·replace c21 := Bool.eq_false_iff.mpr c21; subst c21
         have H1 : (if 2 < (a0.size : Int) then (if (((10 * (((bt a0 1) - 48) % 256)) + (((bt a0 2) - 48) % 256))) > 16 then (some 0) else (some (((10 * (((bt a0 1) - 48) % 256)) + (((bt a0 2) - 48) % 256))))) else (none)) = some r := by rw [if_neg (show ¬ (false = true) by decide)] at H; exact H
         clear H; have H := H1; clear H1
         by_cases c22 : 2 < (a0.size : Int)
         ·rw [if_pos c22] at H; have c22b0 : decide (2 < (a0.size : Int)) = true := decide_eq_true c22; have c22b1 : decide (2 < a0.size) = true := decide_eq_true (by omega); clear c22
          by_cases c24 : (((10 * (((bt a0 1) - 48) % 256)) + (((bt a0 2) - 48) % 256))) > 16
          ·rw [if_pos c24] at H; have c24b0 : decide (16 < (((10 * (((bt a0 1) - 48) % 256)) + (((bt a0 2) - 48) % 256)))) = true := decide_eq_true c24; clear c24; obtain rfl := Option.some.inj H
           have p23 : 0 ≤ (2 : Int) := (by omega)
           have q23 : 2 < a0.size := (by have : (2 : Int) < (a0.size : Int) := of_decide_eq_true (by first | (with_reducible assumption) | assumption); omega)
           have hx23 : ∀ h : 2 < a0.size, ((a0[2]'h).toNat : Int) = bt a0 2 := bt_at a0 2; clear p23; have qi23 : (2 < (a0.size : Int)) = True := eq_true (of_decide_eq_true (by first | (with_reducible assumption) | assumption)); replace q23 := eq_true q23; go_wp2; go_ret; exact ⟨by first | rfl | (simp; done) | (simp [*]; done), by repeat (first | exact Drawn0.refl _ | apply Drawn0.step)⟩
          ·rw [if_neg c24] at H; have c24b0 : decide (16 < (((10 * (((bt a0 1) - 48) % 256)) + (((bt a0 2) - 48) % 256)))) = false := decide_eq_false c24; clear c24; obtain rfl := Option.some.inj H
           have p23 : 0 ≤ (2 : Int) := (by omega)
           have q23 : 2 < a0.size := (by have : (2 : Int) < (a0.size : Int) := of_decide_eq_true (by first | (with_reducible assumption) | assumption); omega)
           have hx23 : ∀ h : 2 < a0.size, ((a0[2]'h).toNat : Int) = bt a0 2 := bt_at a0 2; clear p23; have qi23 : (2 < (a0.size : Int)) = True := eq_true (of_decide_eq_true (by first | (with_reducible assumption) | assumption)); replace q23 := eq_true q23; go_wp2; go_ret; exact ⟨by first | rfl | (simp; done) | (simp [*]; done), by repeat (first | exact Drawn0.refl _ | apply Drawn0.step)⟩
         ·rw [if_neg c22] at H; exact absurd H (by simp)
     ·rw [if_neg c15] at H; have c15b0 : ((a0.size : Int) == 3) = false := beq_eq_false_iff_ne.mpr c15; have c15b1 : ((a0.size : Int) != 3) = true := bne_iff_ne.mpr c15
      by_cases c25 : (((bt a0 1) - 48) % 256) > 16
      ·rw [if_pos c25] at H; have c25b0 : decide (16 < (((bt a0 1) - 48) % 256)) = true := decide_eq_true c25; clear c25; obtain rfl := Option.some.inj H
       have p14 : 0 ≤ (1 : Int) := (by omega)
       have q14 : 1 < a0.size := (by have : (1 : Int) < (a0.size : Int) := of_decide_eq_true (by first | (with_reducible assumption) | assumption); omega)
       have hx14 : ∀ h : 1 < a0.size, ((a0[1]'h).toNat : Int) = bt a0 1 := bt_at a0 1; clear p14; have qi14 : (1 < (a0.size : Int)) = True := eq_true (of_decide_eq_true (by first | (with_reducible assumption) | assumption)); replace q14 := eq_true q14; go_wp2; go_ret; exact ⟨by first | rfl | (simp; done) | (simp [*]; done), by repeat (first | exact Drawn0.refl _ | apply Drawn0.step)⟩
      ·rw [if_neg c25] at H; have c25b0 : decide (16 < (((bt a0 1) - 48) % 256)) = false := decide_eq_false c25; clear c25; obtain rfl := Option.some.inj H
       have p14 : 0 ≤ (1 : Int) := (by omega)
       have q14 : 1 < a0.size := (by have : (1 : Int) < (a0.size : Int) := of_decide_eq_true (by first | (with_reducible assumption) | assumption); omega)
       have hx14 : ∀ h : 1 < a0.size, ((a0[1]'h).toNat : Int) = bt a0 1 := bt_at a0 1; clear p14; have qi14 : (1 < (a0.size : Int)) = True := eq_true (of_decide_eq_true (by first | (with_reducible assumption) | assumption)); replace q14 := eq_true q14; go_wp2; go_ret; exact ⟨by first | rfl | (simp; done) | (simp [*]; done), by repeat (first | exact Drawn0.refl _ | apply Drawn0.step)⟩
    ·rw [if_neg c13] at H; exact absurd H (by simp)
def liveryref04_Role.f (k : Nat) (a0_0 : ByteArray) (a0_1 : ByteArray) : Option (Bool) := (QaD.f k a0_1).bind fun t102 => (if t102 = true then ((Qat.f k a0_0).bind fun t103 => (some (t103 != 0))) else (some false))
set_option maxHeartbeats 8000000 in
set_option maxRecDepth 100000 in
theorem liveryref04_Role.calls (k : Nat) (a0_0 : ByteArray) (a0_1 : ByteArray) (r : Bool) (w : World) (h : liveryref04_Role.f k a0_0 a0_1 = some r) :
  Calls Tryz.prog 77 #[.agg #[.string a0_0, .string a0_1]] w fun e w' => e = .returned (.bool r) ∧ Below w.heap.size w w' := by
 have hu24 := Tryz.underlying24; have HB := Qad.mk (Below.refl w.heap.size w); have H : ((QaD.f k a0_1).bind fun t102 => (if t102 = true then ((Qat.f k a0_0).bind fun t103 => (some (t103 != 0))) else (some false))) = some r := h; clear h; replace H := Option.bind_eq_some_iff.mp H; obtain ⟨t102, A20, H⟩ := H; replace H : (if t102 = true then ((Qat.f k a0_0).bind fun t103 => (some (t103 != 0))) else (some false)) = some r := H; have A2 := Qad.mk A20; clear A20
 by_cases c3 : t102 = true
 ·subst c3
  have H1 : ((Qat.f k a0_0).bind fun t103 => (some (t103 != 0))) = some r := by rw [if_pos rfl] at H; exact H
  clear H; have H := H1; clear H1; replace H := Option.bind_eq_some_iff.mp H; obtain ⟨t103, A40, H⟩ := H; replace H : (some (t103 != 0)) = some r := H; have A4 := Qad.mk A40; clear A40; obtain rfl := Option.some.inj H; go_enter Tryz.func77, Tryz.ntmps77
  go_wp2_with (first | ((with_reducible refine QaN (N := 1) rfl ?_); refine QaK ?hg (N := 1) ?hd (cs := #[.string a0_0, .string a0_1]) (t := 24) ?hr ?_; (case hd => rfl); (case hg => rfl); (case hr => first | (go_simp; done) | (go_simp; rfl)); intro gb101 hg w5 hbox hb; have n0_ := Qad.mk (Qak (by repeat (first | (with_reducible first | exact HB.out | apply Qab | apply Qaa | apply Qac) | exact HB.out)) hb); have n1_ := Qad.mk (hbox); have n2_ := Qad.mk ((by rw [hg]; exact (Qas (by repeat (first | (with_reducible first | exact HB.out | apply Qab | apply Qaa | apply Qac) | exact HB.out))) : w.heap.size ≤ gb101)); have n3_ := n2_; clear HB; have HB := n0_; have BK101 := n1_; have GW101 := n2_; have GE101 := n3_; clear n0_ n1_ n2_ n3_; clear hb hbox hg; obtain ⟨hcz6_0, hcz6_1⟩ := cz_ss BK101.out; obtain ⟨hfz6_0, hfz6_1⟩ := fz_2 BK101.out) | ((with_reducible refine QaO (f := 76) rfl ?_); refine goesL_ (some 6) rfl rfl Tryz.func76 (by kernel_rfl) rfl #[.string a0_1] rfl (by (try simp only [List.map_toArray, List.map_cons, List.map_nil]); first | done | rfl | (simp only [List.length_drop, List.length_take]; rfl)) ?_; (with_reducible refine (QaD.calls k a0_1 true _ A2.out).mono ?_); rintro e w' ⟨rfl, ⟨nd, rfl⟩⟩; refine ⟨_, rfl, ?_⟩) | (go_at_call 82; (with_reducible refine (Qat.calls k a0_0 t103 _ A4.out).mono ?_); rintro e w' ⟨rfl, ⟨nd, rfl⟩⟩))
  go_ret; exact ⟨by first | rfl | (simp [Qar, Qaq] <;> rfl) | (simp [*, Qar, Qaq] <;> rfl), by repeat (first | (with_reducible first | exact HB.out | apply Qab | apply Qaa | apply Qac | refine Qai ?_ GE101.out) | exact HB.out)⟩
 ·replace c3 := Bool.eq_false_iff.mpr c3; subst c3
  have H1 : (some false) = some r := by rw [if_neg (show ¬ (false = true) by decide)] at H; exact H
  clear H; have H := H1; clear H1; obtain rfl := Option.some.inj H; go_enter Tryz.func77, Tryz.ntmps77
  go_wp2_with (first | ((with_reducible refine QaN (N := 1) rfl ?_); refine QaK ?hg (N := 1) ?hd (cs := #[.string a0_0, .string a0_1]) (t := 24) ?hr ?_; (case hd => rfl); (case hg => rfl); (case hr => first | (go_simp; done) | (go_simp; rfl)); intro gb101 hg w7 hbox hb; have n0_ := Qad.mk (Qak (by repeat (first | (with_reducible first | exact HB.out | apply Qab | apply Qaa | apply Qac) | exact HB.out)) hb); have n1_ := Qad.mk (hbox); have n2_ := Qad.mk ((by rw [hg]; exact (Qas (by repeat (first | (with_reducible first | exact HB.out | apply Qab | apply Qaa | apply Qac) | exact HB.out))) : w.heap.size ≤ gb101)); have n3_ := n2_; clear HB; have HB := n0_; have BK101 := n1_; have GW101 := n2_; have GE101 := n3_; clear n0_ n1_ n2_ n3_; clear hb hbox hg; obtain ⟨hcz8_0, hcz8_1⟩ := cz_ss BK101.out; obtain ⟨hfz8_0, hfz8_1⟩ := fz_2 BK101.out) | ((with_reducible refine QaO (f := 76) rfl ?_); refine goesL_ (some 6) rfl rfl Tryz.func76 (by kernel_rfl) rfl #[.string a0_1] rfl (by (try simp only [List.map_toArray, List.map_cons, List.map_nil]); first | done | rfl | (simp only [List.length_drop, List.length_take]; rfl)) ?_; (with_reducible refine (QaD.calls k a0_1 false _ A2.out).mono ?_); rintro e w' ⟨rfl, ⟨nd, rfl⟩⟩; refine ⟨_, rfl, ?_⟩))
  go_ret; exact ⟨by first | rfl | (simp [Qar, Qaq] <;> rfl) | (simp [*, Qar, Qaq] <;> rfl), by repeat (first | (with_reducible first | exact HB.out | apply Qab | apply Qaa | apply Qac | refine Qai ?_ GE101.out) | exact HB.out)⟩
def liveryref05_bare.f (k : Nat) (a0_0 : ByteArray) (a0_1 : ByteArray) : Option (Bool) := (QaD.f k a0_1).bind fun t102 => (if t102 = true then (some (a0_0.toList == ([] : List UInt8))) else (some false))
set_option maxHeartbeats 8000000 in
set_option maxRecDepth 100000 in
theorem liveryref05_bare.calls (k : Nat) (a0_0 : ByteArray) (a0_1 : ByteArray) (r : Bool) (w : World) (h : liveryref05_bare.f k a0_0 a0_1 = some r) :
  Calls Tryz.prog 78 #[.agg #[.string a0_0, .string a0_1]] w fun e w' => e = .returned (.bool r) ∧ Below w.heap.size w w' := by
 have hu24 := Tryz.underlying24; have HB := Qad.mk (Below.refl w.heap.size w); have H : ((QaD.f k a0_1).bind fun t102 => (if t102 = true then (some (a0_0.toList == ([] : List UInt8))) else (some false))) = some r := h; clear h; replace H := Option.bind_eq_some_iff.mp H; obtain ⟨t102, A20, H⟩ := H; replace H : (if t102 = true then (some (a0_0.toList == ([] : List UInt8))) else (some false)) = some r := H; have A2 := Qad.mk A20; clear A20
 by_cases c3 : t102 = true
 ·subst c3
  have H1 : (some (a0_0.toList == ([] : List UInt8))) = some r := by rw [if_pos rfl] at H; exact H
  clear H; have H := H1; clear H1; obtain rfl := Option.some.inj H; go_enter Tryz.func78, Tryz.ntmps78
  go_wp2_with (first | ((with_reducible refine QaN (N := 1) rfl ?_); refine QaK ?hg (N := 1) ?hd (cs := #[.string a0_0, .string a0_1]) (t := 24) ?hr ?_; (case hd => rfl); (case hg => rfl); (case hr => first | (go_simp; done) | (go_simp; rfl)); intro gb101 hg w4 hbox hb; have n0_ := Qad.mk (Qak (by repeat (first | (with_reducible first | exact HB.out | apply Qab | apply Qaa | apply Qac) | exact HB.out)) hb); have n1_ := Qad.mk (hbox); have n2_ := Qad.mk ((by rw [hg]; exact (Qas (by repeat (first | (with_reducible first | exact HB.out | apply Qab | apply Qaa | apply Qac) | exact HB.out))) : w.heap.size ≤ gb101)); have n3_ := n2_; clear HB; have HB := n0_; have BK101 := n1_; have GW101 := n2_; have GE101 := n3_; clear n0_ n1_ n2_ n3_; clear hb hbox hg; obtain ⟨hcz5_0, hcz5_1⟩ := cz_ss BK101.out; obtain ⟨hfz5_0, hfz5_1⟩ := fz_2 BK101.out) | ((with_reducible refine QaO (f := 76) rfl ?_); refine goesL_ (some 6) rfl rfl Tryz.func76 (by kernel_rfl) rfl #[.string a0_1] rfl (by (try simp only [List.map_toArray, List.map_cons, List.map_nil]); first | done | rfl | (simp only [List.length_drop, List.length_take]; rfl)) ?_; (with_reducible refine (QaD.calls k a0_1 true _ A2.out).mono ?_); rintro e w' ⟨rfl, ⟨nd, rfl⟩⟩; refine ⟨_, rfl, ?_⟩))
  go_ret; exact ⟨by first | rfl | (simp [Qar, Qaq] <;> rfl) | (simp [*, Qar, Qaq] <;> rfl), by repeat (first | (with_reducible first | exact HB.out | apply Qab | apply Qaa | apply Qac | refine Qai ?_ GE101.out) | exact HB.out)⟩
 ·replace c3 := Bool.eq_false_iff.mpr c3; subst c3
  have H1 : (some false) = some r := by rw [if_neg (show ¬ (false = true) by decide)] at H; exact H
  clear H; have H := H1; clear H1; obtain rfl := Option.some.inj H; go_enter Tryz.func78, Tryz.ntmps78
  go_wp2_with (first | ((with_reducible refine QaN (N := 1) rfl ?_); refine QaK ?hg (N := 1) ?hd (cs := #[.string a0_0, .string a0_1]) (t := 24) ?hr ?_; (case hd => rfl); (case hg => rfl); (case hr => first | (go_simp; done) | (go_simp; rfl)); intro gb101 hg w6 hbox hb; have n0_ := Qad.mk (Qak (by repeat (first | (with_reducible first | exact HB.out | apply Qab | apply Qaa | apply Qac) | exact HB.out)) hb); have n1_ := Qad.mk (hbox); have n2_ := Qad.mk ((by rw [hg]; exact (Qas (by repeat (first | (with_reducible first | exact HB.out | apply Qab | apply Qaa | apply Qac) | exact HB.out))) : w.heap.size ≤ gb101)); have n3_ := n2_; clear HB; have HB := n0_; have BK101 := n1_; have GW101 := n2_; have GE101 := n3_; clear n0_ n1_ n2_ n3_; clear hb hbox hg; obtain ⟨hcz7_0, hcz7_1⟩ := cz_ss BK101.out; obtain ⟨hfz7_0, hfz7_1⟩ := fz_2 BK101.out) | ((with_reducible refine QaO (f := 76) rfl ?_); refine goesL_ (some 6) rfl rfl Tryz.func76 (by kernel_rfl) rfl #[.string a0_1] rfl (by (try simp only [List.map_toArray, List.map_cons, List.map_nil]); first | done | rfl | (simp only [List.length_drop, List.length_take]; rfl)) ?_; (with_reducible refine (QaD.calls k a0_1 false _ A2.out).mono ?_); rintro e w' ⟨rfl, ⟨nd, rfl⟩⟩; refine ⟨_, rfl, ?_⟩))
  go_ret; exact ⟨by first | rfl | (simp [Qar, Qaq] <;> rfl) | (simp [*, Qar, Qaq] <;> rfl), by repeat (first | (with_reducible first | exact HB.out | apply Qab | apply Qaa | apply Qac | refine Qai ?_ GE101.out) | exact HB.out)⟩
def liveryref05_Before.f (a0_0 : Int) (a0_1 : Int) (a1_0 : Int) (a1_1 : Int) : Option (Bool) := if a0_0 = a1_0 then (some (decide (a0_1 < a1_1))) else (some (decide (a0_0 < a1_0)))
set_option maxHeartbeats 8000000 in
set_option maxRecDepth 100000 in
theorem liveryref05_Before.calls (a0_0 : Int) (a0_1 : Int) (a1_0 : Int) (a1_1 : Int) (r : Bool) (w : World) (h : liveryref05_Before.f a0_0 a0_1 a1_0 a1_1 = some r) :
  Calls Tryz.prog 79 #[.agg #[.int .i64 a0_0, .int .i64 a0_1], .agg #[.int .i64 a1_0, .int .i64 a1_1]] w fun e w' => e = .returned (.bool r) ∧ Below w.heap.size w w' := by
 have hu26 := Tryz.underlying26; have HB := Qad.mk (Below.refl w.heap.size w); have H : (if a0_0 = a1_0 then (some (decide (a0_1 < a1_1))) else (some (decide (a0_0 < a1_0)))) = some r := h; clear h
 by_cases c3 : a0_0 = a1_0
 ·rw [if_pos c3] at H; have c3b0 : (a0_0 == a1_0) = true := beq_iff_eq.mpr c3; have c3b1 : (a0_0 != a1_0) = false := bne_eq_false_iff_eq.mpr c3; clear c3; obtain rfl := Option.some.inj H; go_enter Tryz.func79, Tryz.ntmps79
  go_wp2_with (first | ((with_reducible refine QaN (N := 2) rfl ?_); refine QaK ?hg (N := 2) ?hd (cs := #[.int .i64 a0_0, .int .i64 a0_1]) (t := 26) ?hr ?_; (case hd => rfl); (case hg => rfl); (case hr => first | (go_simp; done) | (go_simp; rfl)); intro gb101 hg w4 hbox hb; have n0_ := Qad.mk (Qak (by repeat (first | (with_reducible first | exact HB.out | apply Qab | apply Qaa | apply Qac) | exact HB.out)) hb); have n1_ := Qad.mk (hbox); have n2_ := Qad.mk ((by rw [hg]; exact (Qas (by repeat (first | (with_reducible first | exact HB.out | apply Qab | apply Qaa | apply Qac) | exact HB.out))) : w.heap.size ≤ gb101)); have n3_ := n2_; clear HB; have HB := n0_; have BK101 := n1_; have GW101 := n2_; have GE101 := n3_; clear n0_ n1_ n2_ n3_; clear hb hbox hg) | ((with_reducible refine QaN (N := 3) rfl ?_); refine QaK ?hg (N := 3) ?hd (cs := #[.int .i64 a1_0, .int .i64 a1_1]) (t := 26) ?hr ?_; (case hd => rfl); (case hg => rfl); (case hr => first | (go_simp; done) | (go_simp; rfl)); intro gb102 hg w5 hbox hb; have n0_ := Qad.mk (Qal (g := gb101) (o := ob_ii a0_0 a0_1 26) (by (with_reducible repeat (first | refine Qag ?_ _ | refine Qah ?_ | refine Qaf ?_ _)); exact BK101.out) hb); have n1_ := Qad.mk (Qak (by repeat (first | (with_reducible first | exact HB.out | apply Qab | apply Qaa | apply Qac | refine Qai ?_ GE101.out) | exact HB.out)) hb); have n2_ := Qad.mk (hbox); have n3_ := Qad.mk ((by rw [hg]; exact (Qas (by repeat (first | (with_reducible first | exact HB.out | apply Qab | apply Qaa | apply Qac | refine Qai ?_ GE101.out) | exact HB.out))) : w.heap.size ≤ gb102)); have n4_ := n3_; have n5_ := Qad.mk ((by rw [hg]; exact Nat.ne_of_lt (blk_lt (g := gb101) (o := ob_ii a0_0 a0_1 26) (by (with_reducible repeat (first | refine Qag ?_ _ | refine Qah ?_ | refine Qaf ?_ _)); exact BK101.out)) : gb101 ≠ gb102)); have n6_ := Qad.mk ((by rw [hg]; exact Nat.ne_of_gt (blk_lt (g := gb101) (o := ob_ii a0_0 a0_1 26) (by (with_reducible repeat (first | refine Qag ?_ _ | refine Qah ?_ | refine Qaf ?_ _)); exact BK101.out)) : gb102 ≠ gb101)); clear BK101; clear HB; have BK101 := n0_; have HB := n1_; have BK102 := n2_; have GW102 := n3_; have GE102 := n4_; have NB101_102 := n5_; have NB102_101 := n6_; clear n0_ n1_ n2_ n3_ n4_ n5_ n6_; clear hb hbox hg; have hnb6 := NB101_102.out; have hnc6 := NB102_101.out; obtain ⟨hcz7_0, hcz7_1⟩ := cz_ii BK101.out; obtain ⟨hfz7_0, hfz7_1⟩ := fz_2 BK101.out; obtain ⟨hcz8_0, hcz8_1⟩ := cz_ii BK102.out; obtain ⟨hfz8_0, hfz8_1⟩ := fz_2 BK102.out))
  go_ret; exact ⟨by first | rfl | (simp [Qar, Qaq] <;> rfl) | (simp [*, Qar, Qaq] <;> rfl), by repeat (first | (with_reducible first | exact HB.out | apply Qab | apply Qaa | apply Qac | refine Qai ?_ GE101.out | refine Qai ?_ GE102.out) | exact HB.out)⟩
 ·rw [if_neg c3] at H; have c3b0 : (a0_0 == a1_0) = false := beq_eq_false_iff_ne.mpr c3; have c3b1 : (a0_0 != a1_0) = true := bne_iff_ne.mpr c3; obtain rfl := Option.some.inj H; go_enter Tryz.func79, Tryz.ntmps79
  go_wp2_with (first | ((with_reducible refine QaN (N := 2) rfl ?_); refine QaK ?hg (N := 2) ?hd (cs := #[.int .i64 a0_0, .int .i64 a0_1]) (t := 26) ?hr ?_; (case hd => rfl); (case hg => rfl); (case hr => first | (go_simp; done) | (go_simp; rfl)); intro gb101 hg w9 hbox hb; have n0_ := Qad.mk (Qak (by repeat (first | (with_reducible first | exact HB.out | apply Qab | apply Qaa | apply Qac) | exact HB.out)) hb); have n1_ := Qad.mk (hbox); have n2_ := Qad.mk ((by rw [hg]; exact (Qas (by repeat (first | (with_reducible first | exact HB.out | apply Qab | apply Qaa | apply Qac) | exact HB.out))) : w.heap.size ≤ gb101)); have n3_ := n2_; clear HB; have HB := n0_; have BK101 := n1_; have GW101 := n2_; have GE101 := n3_; clear n0_ n1_ n2_ n3_; clear hb hbox hg) | ((with_reducible refine QaN (N := 3) rfl ?_); refine QaK ?hg (N := 3) ?hd (cs := #[.int .i64 a1_0, .int .i64 a1_1]) (t := 26) ?hr ?_; (case hd => rfl); (case hg => rfl); (case hr => first | (go_simp; done) | (go_simp; rfl)); intro gb102 hg w10 hbox hb; have n0_ := Qad.mk (Qal (g := gb101) (o := ob_ii a0_0 a0_1 26) (by (with_reducible repeat (first | refine Qag ?_ _ | refine Qah ?_ | refine Qaf ?_ _)); exact BK101.out) hb); have n1_ := Qad.mk (Qak (by repeat (first | (with_reducible first | exact HB.out | apply Qab | apply Qaa | apply Qac | refine Qai ?_ GE101.out) | exact HB.out)) hb); have n2_ := Qad.mk (hbox); have n3_ := Qad.mk ((by rw [hg]; exact (Qas (by repeat (first | (with_reducible first | exact HB.out | apply Qab | apply Qaa | apply Qac | refine Qai ?_ GE101.out) | exact HB.out))) : w.heap.size ≤ gb102)); have n4_ := n3_; have n5_ := Qad.mk ((by rw [hg]; exact Nat.ne_of_lt (blk_lt (g := gb101) (o := ob_ii a0_0 a0_1 26) (by (with_reducible repeat (first | refine Qag ?_ _ | refine Qah ?_ | refine Qaf ?_ _)); exact BK101.out)) : gb101 ≠ gb102)); have n6_ := Qad.mk ((by rw [hg]; exact Nat.ne_of_gt (blk_lt (g := gb101) (o := ob_ii a0_0 a0_1 26) (by (with_reducible repeat (first | refine Qag ?_ _ | refine Qah ?_ | refine Qaf ?_ _)); exact BK101.out)) : gb102 ≠ gb101)); clear BK101; clear HB; have BK101 := n0_; have HB := n1_; have BK102 := n2_; have GW102 := n3_; have GE102 := n4_; have NB101_102 := n5_; have NB102_101 := n6_; clear n0_ n1_ n2_ n3_ n4_ n5_ n6_; clear hb hbox hg; have hnb11 := NB101_102.out; have hnc11 := NB102_101.out; obtain ⟨hcz12_0, hcz12_1⟩ := cz_ii BK101.out; obtain ⟨hfz12_0, hfz12_1⟩ := fz_2 BK101.out; obtain ⟨hcz13_0, hcz13_1⟩ := cz_ii BK102.out; obtain ⟨hfz13_0, hfz13_1⟩ := fz_2 BK102.out))
  go_ret; exact ⟨by first | rfl | (simp [Qar, Qaq] <;> rfl) | (simp [*, Qar, Qaq] <;> rfl), by repeat (first | (with_reducible first | exact HB.out | apply Qab | apply Qaa | apply Qac | refine Qai ?_ GE101.out | refine Qai ?_ GE102.out) | exact HB.out)⟩
def liveryref04_Domain.j0 : Nat → Int → Bool → Option (ByteArray)
 | 0, _, _ => none
 | k + 1, x0, x8 => if x8 = true then (some (⟨#[]⟩ : ByteArray)) else (if x0 < 10 then ((some (([(wrap64 (48 + x0)) % 256] : List Int) : List Int)).bind fun y101 => (if 1 + (strOfNums y101).size ≤ 9223372036854775807 then (some ((⟨#[100]⟩ : ByteArray) ++ (strOfNums y101))) else (none))) else ((some (([(wrap64 ((wrap64 (48 + x0)) - 10)) % 256] : List Int) : List Int)).bind fun y104 => (if 2 + (strOfNums y104).size ≤ 9223372036854775807 then (some ((⟨#[100, 49]⟩ : ByteArray) ++ (strOfNums y104))) else (none))))
def liveryref04_Domain.f (k : Nat) (a0 : Int) : Option (ByteArray) := if a0 < 1 then (liveryref04_Domain.j0 k a0 true) else (liveryref04_Domain.j0 k a0 (decide (a0 > 16)))
set_option maxHeartbeats 8000000 in
set_option maxRecDepth 100000 in
theorem liveryref04_Domain.calls (k : Nat) (a0 : Int) (r : ByteArray) (w : World) (h : liveryref04_Domain.f k a0 = some r) :
  Calls Tryz.prog 99 #[.int .i64 a0] w fun e w' => e = .returned (.string r) ∧ Below w.heap.size w w' := by
 have HB := Qad.mk (Below.refl w.heap.size w); have H : (if a0 < 1 then (liveryref04_Domain.j0 k a0 true) else (liveryref04_Domain.j0 k a0 (decide (a0 > 16)))) = some r := h; clear h; have HC2 := Qad.mk H; clear H; go_enter Tryz.func99, Tryz.ntmps99
 go_upto_region 1 with (fail)
 go_cut [8] (fun v8 wc => ∃ (kq : Nat) (x8_1 : Bool), v8 = .bool x8_1 ∧ Qad (liveryref04_Domain.j0 kq a0 x8_1 = some r) ∧ Qad (kq ≤ k) ∧ Qad (Below w.heap.size w wc))
 case first =>
  have H := HC2.out; clear HC2
  by_cases c3 : a0 < 1
  ·rw [if_pos c3] at H; have c3b0 : decide (a0 < 1) = true := decide_eq_true c3; clear c3
   (first | rw [c3b0] | (simp only [Qax, Qaz]; rw [c3b0]) | skip)
   have H' := Qad.mk H; clear H; go_wp2
   go_meet
   case rel => exact ⟨_, (true), (by first | rfl | (simp; done) | (simp [*]; done)), H', ⟨by first | omega | exact Nat.le_refl _⟩, ⟨by repeat (first | (with_reducible first | exact HB.out | apply Qab | apply Qaa | apply Qac) | exact HB.out)⟩⟩
  ·rw [if_neg c3] at H; have c3b0 : decide (a0 < 1) = false := decide_eq_false c3; clear c3
   (first | rw [c3b0] | (simp only [Qax, Qaz]; rw [c3b0]) | skip)
   have H' := Qad.mk H; clear H; go_wp2
   go_meet
   case rel => exact ⟨_, (decide (a0 > 16)), (by first | rfl | (simp; done) | (simp [*]; done)), H', ⟨by first | omega | exact Nat.le_refl _⟩, ⟨by repeat (first | (with_reducible first | exact HB.out | apply Qab | apply Qaa | apply Qac) | exact HB.out)⟩⟩
 case rest =>
  clear HC2; (try clear p2); (try clear c3); (try clear c3b0); obtain ⟨kq, x8_1, rfl, HA, HJ1, HB⟩ := hcut
  cases kq with
  | zero => exact absurd HA.out (by simp [liveryref04_Domain.j0])
  | succ kj1 =>
   have H := HA.out; clear HA; simp only [liveryref04_Domain.j0] at H
   by_cases c4 : x8_1 = true
   ·subst c4
    have H1 : (some (⟨#[]⟩ : ByteArray)) = some r := by rw [if_pos rfl] at H; exact H
    clear H; have H := H1; clear H1; obtain rfl := Option.some.inj H; go_wp2; go_ret; exact ⟨by first | rfl | (simp [Qar, Qaq] <;> rfl) | (simp [*, Qar, Qaq] <;> rfl), by repeat (first | (with_reducible first | exact HB.out | apply Qab | apply Qaa | apply Qac) | exact HB.out)⟩
   ·replace c4 := Bool.eq_false_iff.mpr c4; subst c4
    have H1 : (if a0 < 10 then ((some (([(wrap64 (48 + a0)) % 256] : List Int) : List Int)).bind fun y101 => (if 1 + (strOfNums y101).size ≤ 9223372036854775807 then (some ((⟨#[100]⟩ : ByteArray) ++ (strOfNums y101))) else (none))) else ((some (([(wrap64 ((wrap64 (48 + a0)) - 10)) % 256] : List Int) : List Int)).bind fun y104 => (if 2 + (strOfNums y104).size ≤ 9223372036854775807 then (some ((⟨#[100, 49]⟩ : ByteArray) ++ (strOfNums y104))) else (none)))) = some r := by rw [if_neg (show ¬ (false = true) by decide)] at H; exact H
    clear H; have H := H1; clear H1
    by_cases c5 : a0 < 10
    ·rw [if_pos c5] at H; have c5b0 : decide (a0 < 10) = true := decide_eq_true c5; clear c5
     obtain ⟨y101, hy101⟩ : ∃ y_ : List Int, y_ = (([(wrap64 (48 + a0)) % 256] : List Int)) := ⟨_, rfl⟩
     replace H : (if 1 + (strOfNums y101).size ≤ 9223372036854775807 then (some ((⟨#[100]⟩ : ByteArray) ++ (strOfNums y101))) else (none)) = some r := by first | (rw [hy101]; with_reducible exact H) | (have H2_ := (Option.bind_some _ _).symm.trans H; rw [hy101]; with_reducible exact H2_) | (have H2_ := (Option.bind_some _ _).symm.trans H; with_reducible exact H2_) | with_reducible exact H | (rw [hy101]; exact H) | exact H
     have Ny101 := Qad.mk hy101; clear hy101
     by_cases c6 : 1 + (strOfNums y101).size ≤ 9223372036854775807
     ·rw [if_pos c6] at H; have c6b0 := eq_true c6; have c6b1 : decide (1 + (strOfNums y101).size ≤ 9223372036854775807) = true := decide_eq_true c6
      try have c6b2 : (9223372036854775807 < 1 + (strOfNums y101).size) = False := eq_false (Nat.not_lt.2 c6)
      obtain rfl := Option.some.inj H
      go_wp2_with (first | ((with_reducible refine QaN (N := 14) rfl ?_); refine Kd.R_lit (Kd.int .u8) _ 5 ?hg (N := 14) ?hd (xs := ([(wrap64 (48 + a0)) % 256] : List Int)) (inner := [.int .u8 ((wrap64 (48 + a0)) % 256)]) (ok := fun _ => True) (okp := fun _ => True) ?hr ?hp (fun _ hk => hk) trivial (Below.refl _ _) (Nat.le_refl _) (by simp) ?_; (case hd => rfl); (case hg => rfl); (case hr => first | (go_simp; done) | (go_simp; rfl)); (case hp => exact (Reps.one (show Kd.M (Kd.int .u8) _ _ _ ((wrap64 (48 + a0)) % 256) [.int .u8 ((wrap64 (48 + a0)) % 256)] from rfl) (Reps.none _ _))); intro v102 w7 ho8 hb hg_ hnew_; clear hg_ hnew_; (first | rw [← Ny101.out] at ho8 | (simp only [Int.reduceToNat] at ho8; rw [← Ny101.out] at ho8)); have n0_ := Qad.mk (Kd.R_lower ho8 (Qas (by repeat (first | (with_reducible first | exact HB.out | apply Qab | apply Qaa | apply Qac) | exact HB.out)))); have n1_ := Qad.mk (Qak (by repeat (first | (with_reducible first | exact HB.out | apply Qab | apply Qaa | apply Qac) | exact HB.out)) hb); clear HB; have HO103 := n0_; have HB := n1_; clear n0_ n1_; clear hb ho8; have hcv9 := own_string (P := Tryz.prog) Tryz.underlying128 Tryz.underlying5 Tryz.underlying9 (Kd.own_of_R HO103.out)))
      go_ret; exact ⟨by first | rfl | (simp [Qar, Qaq] <;> rfl) | (simp [*, Qar, Qaq] <;> rfl), by repeat (first | (with_reducible first | exact HB.out | apply Qab | apply Qaa | apply Qac) | exact HB.out)⟩
     ·rw [if_neg c6] at H; exact absurd H (by simp)
    ·rw [if_neg c5] at H; have c5b0 : decide (a0 < 10) = false := decide_eq_false c5; clear c5
     obtain ⟨y104, hy104⟩ : ∃ y_ : List Int, y_ = (([(wrap64 ((wrap64 (48 + a0)) - 10)) % 256] : List Int)) := ⟨_, rfl⟩
     replace H : (if 2 + (strOfNums y104).size ≤ 9223372036854775807 then (some ((⟨#[100, 49]⟩ : ByteArray) ++ (strOfNums y104))) else (none)) = some r := by first | (rw [hy104]; with_reducible exact H) | (have H2_ := (Option.bind_some _ _).symm.trans H; rw [hy104]; with_reducible exact H2_) | (have H2_ := (Option.bind_some _ _).symm.trans H; with_reducible exact H2_) | with_reducible exact H | (rw [hy104]; exact H) | exact H
     have Ny104 := Qad.mk hy104; clear hy104
     by_cases c10 : 2 + (strOfNums y104).size ≤ 9223372036854775807
     ·rw [if_pos c10] at H; have c10b0 := eq_true c10; have c10b1 : decide (2 + (strOfNums y104).size ≤ 9223372036854775807) = true := decide_eq_true c10
      try have c10b2 : (9223372036854775807 < 2 + (strOfNums y104).size) = False := eq_false (Nat.not_lt.2 c10)
      obtain rfl := Option.some.inj H
      go_wp2_with (first | ((with_reducible refine QaN (N := 21) rfl ?_); refine Kd.R_lit (Kd.int .u8) _ 5 ?hg (N := 21) ?hd (xs := ([(wrap64 ((wrap64 (48 + a0)) - 10)) % 256] : List Int)) (inner := [.int .u8 ((wrap64 ((wrap64 (48 + a0)) - 10)) % 256)]) (ok := fun _ => True) (okp := fun _ => True) ?hr ?hp (fun _ hk => hk) trivial (Below.refl _ _) (Nat.le_refl _) (by simp) ?_; (case hd => rfl); (case hg => rfl); (case hr => first | (go_simp; done) | (go_simp; rfl)); (case hp => exact (Reps.one (show Kd.M (Kd.int .u8) _ _ _ ((wrap64 ((wrap64 (48 + a0)) - 10)) % 256) [.int .u8 ((wrap64 ((wrap64 (48 + a0)) - 10)) % 256)] from rfl) (Reps.none _ _))); intro v105 w11 ho12 hb hg_ hnew_; clear hg_ hnew_; (first | rw [← Ny104.out] at ho12 | (simp only [Int.reduceToNat] at ho12; rw [← Ny104.out] at ho12)); have n0_ := Qad.mk (Kd.R_lower ho12 (Qas (by repeat (first | (with_reducible first | exact HB.out | apply Qab | apply Qaa | apply Qac) | exact HB.out)))); have n1_ := Qad.mk (Qak (by repeat (first | (with_reducible first | exact HB.out | apply Qab | apply Qaa | apply Qac) | exact HB.out)) hb); clear HB; have HO106 := n0_; have HB := n1_; clear n0_ n1_; clear hb ho12; have hcv13 := own_string (P := Tryz.prog) Tryz.underlying128 Tryz.underlying5 Tryz.underlying9 (Kd.own_of_R HO106.out)))
      go_ret; exact ⟨by first | rfl | (simp [Qar, Qaq] <;> rfl) | (simp [*, Qar, Qaq] <;> rfl), by repeat (first | (with_reducible first | exact HB.out | apply Qab | apply Qaa | apply Qac) | exact HB.out)⟩
     ·rw [if_neg c10] at H; exact absurd H (by simp)
def liveryref05_Role.f (k : Nat) (a0_0 : Int) (a0_1 : Int) (a0_2 : ByteArray) (a0_3 : Int) (a0_4 : ByteArray) (a0_5 : ByteArray) (a0_6 : ByteArray) (a0_7 : ByteArray) (a0_8 : ByteArray) : Option (ByteArray × ByteArray) := (liveryref04_Domain.f k a0_0).bind fun t103 => (some (t103, a0_2))
def liveryref05_Role.T1 : Bool × List (List Nat × List Nat) := (true, [([], []), ([0], [0]), ([1], [1]), ([2], [2]), ([], []), ([4], [4]), ([3, 5], [3, 5]), ([6, 3, 0, 1, 2, 3, 4, 5, 6], [6])])
def liveryref05_Role.B1 : List Nat := [0, 1, 3, 7, 0, 16, 63, 127]
theorem liveryref05_Role.tab1 : rtab .any (opsOf Tryz.f80 1) = liveryref05_Role.T1 := by kernel_rfl
theorem liveryref05_Role.bits1 : waitsOk liveryref05_Role.T1.2 liveryref05_Role.B1 = true := by kernel_rfl
set_option maxHeartbeats 8000000 in
set_option maxRecDepth 100000 in
theorem liveryref05_Role.calls (k : Nat) (a0_0 : Int) (a0_1 : Int) (a0_2 : ByteArray) (a0_3 : Int) (a0_4 : ByteArray) (a0_5 : ByteArray) (a0_6 : ByteArray) (a0_7 : ByteArray) (a0_8 : ByteArray) (r1 : ByteArray) (r2 : ByteArray) (w : World) (h : liveryref05_Role.f k a0_0 a0_1 a0_2 a0_3 a0_4 a0_5 a0_6 a0_7 a0_8 = some (r1, r2)) :
  Calls Tryz.prog 80 #[.agg #[.int .i64 a0_0, .int .i64 a0_1, .string a0_2, .int .i64 a0_3, .string a0_4, .string a0_5, .string a0_6, .string a0_7, .string a0_8]] w fun e w' => e = .returned (.agg #[.string r1, .string r2]) ∧ Below w.heap.size w w' := by
 have hu42 := Tryz.underlying42; have hu24 := Tryz.underlying24; have HB := Qad.mk (Below.refl w.heap.size w); have H : ((liveryref04_Domain.f k a0_0).bind fun t103 => (some (t103, a0_2))) = some (r1, r2) := h; clear h; replace H := Option.bind_eq_some_iff.mp H; obtain ⟨t103, A20, H⟩ := H; replace H : (some (t103, a0_2)) = some (r1, r2) := H; have A2 := Qad.mk A20; clear A20; simp only [Option.some.injEq, Prod.mk.injEq] at H; obtain ⟨rfl, rfl⟩ := H; go_enter Tryz.func80, Tryz.ntmps80
 try go_wp2_with (first | ((with_reducible refine QaN (N := 1) rfl ?_); refine QaK ?hg (N := 1) ?hd (cs := #[.int .i64 a0_0, .int .i64 a0_1, .string a0_2, .int .i64 a0_3, .string a0_4, .string a0_5, .string a0_6, .string a0_7, .string a0_8]) (t := 42) ?hr ?_; (case hd => rfl); (case hg => rfl); (case hr => first | (go_simp; done) | (go_simp; rfl)); intro gb101 hg w3 hbox hb; have n0_ := Qad.mk (Qak (by repeat (first | (with_reducible first | exact HB.out | apply Qab | apply Qaa | apply Qac) | exact HB.out)) hb); have n1_ := Qad.mk (hbox); have n2_ := Qad.mk ((by rw [hg]; exact (Qas (by repeat (first | (with_reducible first | exact HB.out | apply Qab | apply Qaa | apply Qac) | exact HB.out))) : w.heap.size ≤ gb101)); have n3_ := n2_; clear HB; have HB := n0_; have BK101 := n1_; have GW101 := n2_; have GE101 := n3_; clear n0_ n1_ n2_ n3_; clear hb hbox hg) | ((with_reducible refine QaN (N := 2) rfl ?_); refine QaK ?hg (N := 2) ?hd (cs := #[.string (⟨#[]⟩ : ByteArray), .string (⟨#[]⟩ : ByteArray)]) (t := 24) ?hr ?_; (case hd => rfl); (case hg => rfl); (case hr => first | (go_simp; done) | (go_simp; rfl)); intro gb102 hg w4 hbox hb; have n0_ := Qad.mk (Qal (g := gb101) (o := Qau a0_0 a0_1 a0_2 a0_3 a0_4 a0_5 a0_6 a0_7 a0_8 42) (by (with_reducible repeat (first | refine Qag ?_ _ | refine Qah ?_ | refine Qaf ?_ _)); exact BK101.out) hb); have n1_ := Qad.mk (Qak (by repeat (first | (with_reducible first | exact HB.out | apply Qab | apply Qaa | apply Qac | refine Qai ?_ GE101.out) | exact HB.out)) hb); have n2_ := Qad.mk (hbox); have n3_ := Qad.mk ((by rw [hg]; exact (Qas (by repeat (first | (with_reducible first | exact HB.out | apply Qab | apply Qaa | apply Qac | refine Qai ?_ GE101.out) | exact HB.out))) : w.heap.size ≤ gb102)); have n4_ := n3_; have n5_ := Qad.mk ((by rw [hg]; exact Nat.ne_of_lt (blk_lt (g := gb101) (o := Qau a0_0 a0_1 a0_2 a0_3 a0_4 a0_5 a0_6 a0_7 a0_8 42) (by (with_reducible repeat (first | refine Qag ?_ _ | refine Qah ?_ | refine Qaf ?_ _)); exact BK101.out)) : gb101 ≠ gb102)); have n6_ := Qad.mk ((by rw [hg]; exact Nat.ne_of_gt (blk_lt (g := gb101) (o := Qau a0_0 a0_1 a0_2 a0_3 a0_4 a0_5 a0_6 a0_7 a0_8 42) (by (with_reducible repeat (first | refine Qag ?_ _ | refine Qah ?_ | refine Qaf ?_ _)); exact BK101.out)) : gb102 ≠ gb101)); clear BK101; clear HB; have BK101 := n0_; have HB := n1_; have BK102 := n2_; have GW102 := n3_; have GE102 := n4_; have NB101_102 := n5_; have NB102_101 := n6_; clear n0_ n1_ n2_ n3_ n4_ n5_ n6_; clear hb hbox hg))
 have n0_ := Qad.mk (Qah BK101.out); have n1_ := Qad.mk (Qah BK102.out); have n2_ := Qad.mk (Qac HB.out); clear BK101; clear BK102; clear HB; have BK101 := n0_; have BK102 := n1_; have HB := n2_; clear n0_ n1_ n2_; refine start_ (n := 8) (S := fun w' => w'.cell? ⟨gb101, 0, none⟩ = some (.int .i64 a0_0) ∧ w'.cell? ⟨gb101, 1, none⟩ = some (.int .i64 a0_1) ∧ w'.cell? ⟨gb101, 2, none⟩ = some (.string a0_2) ∧ w'.cell? ⟨gb101, 3, none⟩ = some (.int .i64 a0_3) ∧ w'.cell? ⟨gb101, 4, none⟩ = some (.string a0_4) ∧ w'.cell? ⟨gb101, 5, none⟩ = some (.string a0_5) ∧ w'.cell? ⟨gb101, 6, none⟩ = some (.string a0_6) ∧ w'.cell? ⟨gb101, 7, none⟩ = some (.string a0_7) ∧ w'.cell? ⟨gb101, 8, none⟩ = some (.string a0_8)) (ds := []) #[ff,ff,ff,ff,ff,ff,ff,ff] (by kernel_rfl) rfl rfl ⟨(Qaj BK101.out 0).trans rfl, (Qaj BK101.out 1).trans rfl, (Qaj BK101.out 2).trans rfl, (Qaj BK101.out 3).trans rfl, (Qaj BK101.out 4).trans rfl, (Qaj BK101.out 5).trans rfl, (Qaj BK101.out 6).trans rfl, (Qaj BK101.out 7).trans rfl, (Qaj BK101.out 8).trans rfl⟩ (fun hHeld => ?_); refine with_tabW liveryref05_Role.tab1 liveryref05_Role.bits1 (fun HT_ HW_ => ?_)
 generalize w4.drew = w5 at BK101 BK102 HB hHeld ⊢
 refine QaI (i := 0) (N := some 3) (v := ?_) (a' := ?_) #[tt,ff,ff,ff,ff,ff,ff,ff] rfl rfl (QaA HT_.out (by kernel_rfl)) (fun _ _ _ h => h) (Or.inl ⟨by rfl, ?_⟩) ?_ ?_; rotate_left
 ·intro w'; go_simp; (with_reducible rfl)
 rotate_left
 ·simp only [Act.put, put_, Qax, Qaz]; rfl
 refine QaI (i := 1) (N := some 4) (v := ?_) (a' := ?_) #[tt,tt,ff,ff,ff,ff,ff,ff] rfl rfl (QaA HT_.out (by kernel_rfl)) (fun _ _ _ h => h) (Or.inl ⟨by rfl, ?_⟩) ?_ ?_; rotate_left
 ·intro w'; go_simp; (with_reducible rfl)
 rotate_left
 ·simp only [Act.put, put_, Qax, Qaz]; rfl
 refine QaI (i := 4) (N := some 7) (v := ?_) (a' := ?_) #[tt,tt,ff,ff,tt,ff,ff,ff] rfl rfl (QaA HT_.out (by kernel_rfl)) (fun _ _ _ h => h) (Or.inl ⟨by rfl, ?_⟩) ?_ ?_; rotate_left
 ·intro w'; go_simp; (with_reducible rfl)
 rotate_left
 ·simp only [Act.put, put_, Qax, Qaz]; rfl
 refine take_ (i := 2) (N := some 5) (v := ?_) (a' := ?_) #[tt,tt,tt,ff,tt,ff,ff,ff] rfl rfl (take_ofW HT_.out HW_.out (by kernel_rfl)) (fun _ _ _ h => h) (Or.inl ⟨by rfl, ?_⟩) hHeld ?_ ?_; rotate_left
 ·rintro w' ⟨s0, s1, s2, s3, s4, s5, s6, s7, s8⟩; go_simp; (with_reducible rfl)
 rotate_left
 ·simp only [Act.put, put_, Qax, Qaz]; rfl
 refine take_ (i := 5) (N := some 8) (v := ?_) (a' := ?_) #[tt,tt,tt,ff,tt,tt,ff,ff] rfl rfl (take_ofW HT_.out HW_.out (by kernel_rfl)) (fun _ _ _ h => h) (Or.inl ⟨by rfl, ?_⟩) hHeld ?_ ?_; rotate_left
 ·rintro w' ⟨s0, s1, s2, s3, s4, s5, s6, s7, s8⟩; go_simp; (with_reducible rfl)
 rotate_left
 ·simp only [Act.put, put_, Qax, Qaz]; rfl
 refine one_ (i := 3) (N := some 6) #[tt,tt,tt,tt,tt,tt,ff,ff] rfl rfl (one_of HT_.out (by kernel_rfl)) (by decide) (fun K hK => ?_); refine goes_ Tryz.func99 (by kernel_rfl) rfl #[.int .i64 a0_0] (by rfl) rfl rfl (by (try simp only [List.map_toArray, List.map_cons, List.map_nil]); first | done | rfl | (simp only [List.length_drop, List.length_take]; rfl)) ?_
 with_reducible refine (liveryref04_Domain.calls k a0_0 t103 _ A2.out).mono ?_
 rintro e w6 ⟨rfl, hb⟩; refine ⟨_, rfl, ?_⟩; have n0_ := Qad.mk (Qal (g := gb101) (o := Qau a0_0 a0_1 a0_2 a0_3 a0_4 a0_5 a0_6 a0_7 a0_8 42) (by (with_reducible repeat (first | refine Qag ?_ _ | refine Qah ?_ | refine Qaf ?_ _)); exact BK101.out) hb); have n1_ := Qad.mk (Qal (g := gb102) (o := ob_ss (⟨#[]⟩ : ByteArray) (⟨#[]⟩ : ByteArray) 24) (by (with_reducible repeat (first | refine Qag ?_ _ | refine Qah ?_ | refine Qaf ?_ _)); exact BK102.out) hb); have n2_ := Qad.mk (Qak (by repeat (first | (with_reducible first | exact HB.out | apply Qab | apply Qaa | apply Qac | refine Qai ?_ GE101.out | refine Qai ?_ GE102.out) | exact HB.out)) hb); clear BK101; clear BK102; clear HB; have BK101 := n0_; have BK102 := n1_; have HB := n2_; clear n0_ n1_ n2_
 (try clear hb)
 (try clear hb2)
 (try clear hk)
 (try clear hi)
 refine hK.out _ _ ⟨(Qaj BK101.out 0).trans rfl, (Qaj BK101.out 1).trans rfl, (Qaj BK101.out 2).trans rfl, (Qaj BK101.out 3).trans rfl, (Qaj BK101.out 4).trans rfl, (Qaj BK101.out 5).trans rfl, (Qaj BK101.out 6).trans rfl, (Qaj BK101.out 7).trans rfl, (Qaj BK101.out 8).trans rfl⟩ (fun hHeld => ?_); clear hK K; refine norm_ (a' := ?_) ?_ ?_; rotate_left
 ·show Act.put _ (some 6) _ = _
  simp only [Act.put, put_, Qax, Qaz]; rfl
 refine QaI (i := 6) (N := some 9) (v := ?_) (a' := ?_) #[tt,tt,tt,tt,tt,tt,tt,ff] rfl rfl (QaA HT_.out (by kernel_rfl)) (fun _ _ _ h => h) (Or.inl ⟨by rfl, ?_⟩) ?_ ?_; rotate_left
 ·intro w'; go_simp; (with_reducible rfl)
 rotate_left
 ·simp only [Act.put, put_, Qax, Qaz]; rfl
 refine one_ (i := 7) (N := none) #[tt,tt,tt,tt,tt,tt,tt,tt] rfl rfl (one_of HT_.out (by kernel_rfl)) (by decide) (fun K hK => ?_); have hs7 : w6.cell? ⟨gb102, 0, none⟩ = some (.string (⟨#[]⟩ : ByteArray)) := (Qaj BK102.out 0).trans rfl; have hfs7 := blk_frozen BK102.out 0; have hns7_0 := NB101_102.out; have hms7_0 := NB102_101.out; have hs8 : w6.cell? ⟨gb102, 1, none⟩ = some (.string (⟨#[]⟩ : ByteArray)) := (Qaj BK102.out 1).trans rfl; have hfs8 := blk_frozen BK102.out 1; have hns8_0 := NB101_102.out; have hms8_0 := NB102_101.out; refine skip_ (w1 := ?_) (by rfl) rfl ?_ ?_; rotate_left
 ·go_simp; rfl
 refine hK.out _ _ ⟨((cell_far (p := ⟨gb102, _, none⟩) NB101_102.out _).trans (((cell_far (p := ⟨gb102, _, none⟩) NB101_102.out _).trans (hHeld.1)))), ((cell_far (p := ⟨gb102, _, none⟩) NB101_102.out _).trans (((cell_far (p := ⟨gb102, _, none⟩) NB101_102.out _).trans (hHeld.2.1)))), ((cell_far (p := ⟨gb102, _, none⟩) NB101_102.out _).trans (((cell_far (p := ⟨gb102, _, none⟩) NB101_102.out _).trans (hHeld.2.2.1)))), ((cell_far (p := ⟨gb102, _, none⟩) NB101_102.out _).trans (((cell_far (p := ⟨gb102, _, none⟩) NB101_102.out _).trans (hHeld.2.2.2.1)))), ((cell_far (p := ⟨gb102, _, none⟩) NB101_102.out _).trans (((cell_far (p := ⟨gb102, _, none⟩) NB101_102.out _).trans (hHeld.2.2.2.2.1)))), ((cell_far (p := ⟨gb102, _, none⟩) NB101_102.out _).trans (((cell_far (p := ⟨gb102, _, none⟩) NB101_102.out _).trans (hHeld.2.2.2.2.2.1)))), ((cell_far (p := ⟨gb102, _, none⟩) NB101_102.out _).trans (((cell_far (p := ⟨gb102, _, none⟩) NB101_102.out _).trans (hHeld.2.2.2.2.2.2.1)))), ((cell_far (p := ⟨gb102, _, none⟩) NB101_102.out _).trans (((cell_far (p := ⟨gb102, _, none⟩) NB101_102.out _).trans (hHeld.2.2.2.2.2.2.2.1)))), ((cell_far (p := ⟨gb102, _, none⟩) NB101_102.out _).trans (((cell_far (p := ⟨gb102, _, none⟩) NB101_102.out _).trans (hHeld.2.2.2.2.2.2.2.2))))⟩ (fun hHeld => ?_); clear hK K; refine done_ (done_of HT_.out (by kernel_rfl)) ?_
 try go_wp2
 refine bodyPost_ret (results_cell_row rfl _ _ gb102 24 #[.string t103, .string a0_2] (0, 0) _ rfl (by (with_reducible repeat (first | refine Qag ?_ _ | refine Qah ?_ | refine Qaf ?_ _)); refine blk_put (cs := #[.string t103, .string (⟨#[]⟩ : ByteArray)]) ?_ 1 _ rfl; (with_reducible repeat (first | refine Qag ?_ _ | refine Qah ?_ | refine Qaf ?_ _)); refine blk_put (cs := #[.string (⟨#[]⟩ : ByteArray), .string (⟨#[]⟩ : ByteArray)]) ?_ 0 _ rfl; (with_reducible repeat (first | refine Qag ?_ _ | refine Qah ?_ | refine Qaf ?_ _)); exact BK102.out) Tryz.underlying24 rfl (by kernel_rfl)) rfl ?_; exact ⟨by first | rfl | (simp [Qar, Qaq] <;> rfl) | (simp [*, Qar, Qaq] <;> rfl), by repeat (first | (with_reducible first | exact HB.out | apply Qab | apply Qaa | apply Qac | refine Qai ?_ GE101.out | refine Qai ?_ GE102.out) | exact HB.out)⟩
def liveryref06_First.f (k : Nat) (a0_0 : Int) (a0_1 : Int) (a0_2 : ByteArray) (a0_3 : Int) (a0_4 : ByteArray) (a0_5 : ByteArray) (a0_6 : ByteArray) (a0_7 : ByteArray) (a0_8 : ByteArray) : Option (ByteArray × ByteArray) := (liveryref04_Domain.f k a0_0).bind fun t103 => (some (t103, a0_6))
def liveryref06_First.T1 : Bool × List (List Nat × List Nat) := (true, [([], []), ([0], [0]), ([1], [1]), ([2], [2]), ([], []), ([4], [4]), ([5], [5]), ([3, 6], [3, 6]), ([7, 3, 0, 1, 2, 3, 4, 5, 6, 7], [7])])
def liveryref06_First.B1 : List Nat := [0, 1, 3, 7, 0, 16, 48, 127, 255]
theorem liveryref06_First.tab1 : rtab .any (opsOf Tryz.f81 1) = liveryref06_First.T1 := by kernel_rfl
theorem liveryref06_First.bits1 : waitsOk liveryref06_First.T1.2 liveryref06_First.B1 = true := by kernel_rfl
set_option maxHeartbeats 8000000 in
set_option maxRecDepth 100000 in
theorem liveryref06_First.calls (k : Nat) (a0_0 : Int) (a0_1 : Int) (a0_2 : ByteArray) (a0_3 : Int) (a0_4 : ByteArray) (a0_5 : ByteArray) (a0_6 : ByteArray) (a0_7 : ByteArray) (a0_8 : ByteArray) (r1 : ByteArray) (r2 : ByteArray) (w : World) (h : liveryref06_First.f k a0_0 a0_1 a0_2 a0_3 a0_4 a0_5 a0_6 a0_7 a0_8 = some (r1, r2)) :
  Calls Tryz.prog 81 #[.agg #[.int .i64 a0_0, .int .i64 a0_1, .string a0_2, .int .i64 a0_3, .string a0_4, .string a0_5, .string a0_6, .string a0_7, .string a0_8]] w fun e w' => e = .returned (.agg #[.string r1, .string r2]) ∧ Below w.heap.size w w' := by
 have hu42 := Tryz.underlying42; have hu24 := Tryz.underlying24; have HB := Qad.mk (Below.refl w.heap.size w); have H : ((liveryref04_Domain.f k a0_0).bind fun t103 => (some (t103, a0_6))) = some (r1, r2) := h; clear h; replace H := Option.bind_eq_some_iff.mp H; obtain ⟨t103, A20, H⟩ := H; replace H : (some (t103, a0_6)) = some (r1, r2) := H; have A2 := Qad.mk A20; clear A20; simp only [Option.some.injEq, Prod.mk.injEq] at H; obtain ⟨rfl, rfl⟩ := H; go_enter Tryz.func81, Tryz.ntmps81
 try go_wp2_with (first | ((with_reducible refine QaN (N := 1) rfl ?_); refine QaK ?hg (N := 1) ?hd (cs := #[.int .i64 a0_0, .int .i64 a0_1, .string a0_2, .int .i64 a0_3, .string a0_4, .string a0_5, .string a0_6, .string a0_7, .string a0_8]) (t := 42) ?hr ?_; (case hd => rfl); (case hg => rfl); (case hr => first | (go_simp; done) | (go_simp; rfl)); intro gb101 hg w3 hbox hb; have n0_ := Qad.mk (Qak (by repeat (first | (with_reducible first | exact HB.out | apply Qab | apply Qaa | apply Qac) | exact HB.out)) hb); have n1_ := Qad.mk (hbox); have n2_ := Qad.mk ((by rw [hg]; exact (Qas (by repeat (first | (with_reducible first | exact HB.out | apply Qab | apply Qaa | apply Qac) | exact HB.out))) : w.heap.size ≤ gb101)); have n3_ := n2_; clear HB; have HB := n0_; have BK101 := n1_; have GW101 := n2_; have GE101 := n3_; clear n0_ n1_ n2_ n3_; clear hb hbox hg) | ((with_reducible refine QaN (N := 2) rfl ?_); refine QaK ?hg (N := 2) ?hd (cs := #[.string (⟨#[]⟩ : ByteArray), .string (⟨#[]⟩ : ByteArray)]) (t := 24) ?hr ?_; (case hd => rfl); (case hg => rfl); (case hr => first | (go_simp; done) | (go_simp; rfl)); intro gb102 hg w4 hbox hb; have n0_ := Qad.mk (Qal (g := gb101) (o := Qau a0_0 a0_1 a0_2 a0_3 a0_4 a0_5 a0_6 a0_7 a0_8 42) (by (with_reducible repeat (first | refine Qag ?_ _ | refine Qah ?_ | refine Qaf ?_ _)); exact BK101.out) hb); have n1_ := Qad.mk (Qak (by repeat (first | (with_reducible first | exact HB.out | apply Qab | apply Qaa | apply Qac | refine Qai ?_ GE101.out) | exact HB.out)) hb); have n2_ := Qad.mk (hbox); have n3_ := Qad.mk ((by rw [hg]; exact (Qas (by repeat (first | (with_reducible first | exact HB.out | apply Qab | apply Qaa | apply Qac | refine Qai ?_ GE101.out) | exact HB.out))) : w.heap.size ≤ gb102)); have n4_ := n3_; have n5_ := Qad.mk ((by rw [hg]; exact Nat.ne_of_lt (blk_lt (g := gb101) (o := Qau a0_0 a0_1 a0_2 a0_3 a0_4 a0_5 a0_6 a0_7 a0_8 42) (by (with_reducible repeat (first | refine Qag ?_ _ | refine Qah ?_ | refine Qaf ?_ _)); exact BK101.out)) : gb101 ≠ gb102)); have n6_ := Qad.mk ((by rw [hg]; exact Nat.ne_of_gt (blk_lt (g := gb101) (o := Qau a0_0 a0_1 a0_2 a0_3 a0_4 a0_5 a0_6 a0_7 a0_8 42) (by (with_reducible repeat (first | refine Qag ?_ _ | refine Qah ?_ | refine Qaf ?_ _)); exact BK101.out)) : gb102 ≠ gb101)); clear BK101; clear HB; have BK101 := n0_; have HB := n1_; have BK102 := n2_; have GW102 := n3_; have GE102 := n4_; have NB101_102 := n5_; have NB102_101 := n6_; clear n0_ n1_ n2_ n3_ n4_ n5_ n6_; clear hb hbox hg))
 have n0_ := Qad.mk (Qah BK101.out); have n1_ := Qad.mk (Qah BK102.out); have n2_ := Qad.mk (Qac HB.out); clear BK101; clear BK102; clear HB; have BK101 := n0_; have BK102 := n1_; have HB := n2_; clear n0_ n1_ n2_; refine start_ (n := 9) (S := fun w' => w'.cell? ⟨gb101, 0, none⟩ = some (.int .i64 a0_0) ∧ w'.cell? ⟨gb101, 1, none⟩ = some (.int .i64 a0_1) ∧ w'.cell? ⟨gb101, 2, none⟩ = some (.string a0_2) ∧ w'.cell? ⟨gb101, 3, none⟩ = some (.int .i64 a0_3) ∧ w'.cell? ⟨gb101, 4, none⟩ = some (.string a0_4) ∧ w'.cell? ⟨gb101, 5, none⟩ = some (.string a0_5) ∧ w'.cell? ⟨gb101, 6, none⟩ = some (.string a0_6) ∧ w'.cell? ⟨gb101, 7, none⟩ = some (.string a0_7) ∧ w'.cell? ⟨gb101, 8, none⟩ = some (.string a0_8)) (ds := []) #[ff,ff,ff,ff,ff,ff,ff,ff,ff] (by kernel_rfl) rfl rfl ⟨(Qaj BK101.out 0).trans rfl, (Qaj BK101.out 1).trans rfl, (Qaj BK101.out 2).trans rfl, (Qaj BK101.out 3).trans rfl, (Qaj BK101.out 4).trans rfl, (Qaj BK101.out 5).trans rfl, (Qaj BK101.out 6).trans rfl, (Qaj BK101.out 7).trans rfl, (Qaj BK101.out 8).trans rfl⟩ (fun hHeld => ?_); refine with_tabW liveryref06_First.tab1 liveryref06_First.bits1 (fun HT_ HW_ => ?_)
 generalize w4.drew = w5 at BK101 BK102 HB hHeld ⊢
 refine QaI (i := 0) (N := some 3) (v := ?_) (a' := ?_) #[tt,ff,ff,ff,ff,ff,ff,ff,ff] rfl rfl (QaA HT_.out (by kernel_rfl)) (fun _ _ _ h => h) (Or.inl ⟨by rfl, ?_⟩) ?_ ?_; rotate_left
 ·intro w'; go_simp; (with_reducible rfl)
 rotate_left
 ·simp only [Act.put, put_, Qax, Qaz]; rfl
 refine QaI (i := 1) (N := some 4) (v := ?_) (a' := ?_) #[tt,tt,ff,ff,ff,ff,ff,ff,ff] rfl rfl (QaA HT_.out (by kernel_rfl)) (fun _ _ _ h => h) (Or.inl ⟨by rfl, ?_⟩) ?_ ?_; rotate_left
 ·intro w'; go_simp; (with_reducible rfl)
 rotate_left
 ·simp only [Act.put, put_, Qax, Qaz]; rfl
 refine QaI (i := 4) (N := some 7) (v := ?_) (a' := ?_) #[tt,tt,ff,ff,tt,ff,ff,ff,ff] rfl rfl (QaA HT_.out (by kernel_rfl)) (fun _ _ _ h => h) (Or.inl ⟨by rfl, ?_⟩) ?_ ?_; rotate_left
 ·intro w'; go_simp; (with_reducible rfl)
 rotate_left
 ·simp only [Act.put, put_, Qax, Qaz]; rfl
 refine QaI (i := 5) (N := some 8) (v := ?_) (a' := ?_) #[tt,tt,ff,ff,tt,tt,ff,ff,ff] rfl rfl (QaA HT_.out (by kernel_rfl)) (fun _ _ _ h => h) (Or.inl ⟨by rfl, ?_⟩) ?_ ?_; rotate_left
 ·intro w'; go_simp; (with_reducible rfl)
 rotate_left
 ·simp only [Act.put, put_, Qax, Qaz]; rfl
 refine take_ (i := 2) (N := some 5) (v := ?_) (a' := ?_) #[tt,tt,tt,ff,tt,tt,ff,ff,ff] rfl rfl (take_ofW HT_.out HW_.out (by kernel_rfl)) (fun _ _ _ h => h) (Or.inl ⟨by rfl, ?_⟩) hHeld ?_ ?_; rotate_left
 ·rintro w' ⟨s0, s1, s2, s3, s4, s5, s6, s7, s8⟩; go_simp; (with_reducible rfl)
 rotate_left
 ·simp only [Act.put, put_, Qax, Qaz]; rfl
 refine take_ (i := 6) (N := some 9) (v := ?_) (a' := ?_) #[tt,tt,tt,ff,tt,tt,tt,ff,ff] rfl rfl (take_ofW HT_.out HW_.out (by kernel_rfl)) (fun _ _ _ h => h) (Or.inl ⟨by rfl, ?_⟩) hHeld ?_ ?_; rotate_left
 ·rintro w' ⟨s0, s1, s2, s3, s4, s5, s6, s7, s8⟩; go_simp; (with_reducible rfl)
 rotate_left
 ·simp only [Act.put, put_, Qax, Qaz]; rfl
 refine one_ (i := 3) (N := some 6) #[tt,tt,tt,tt,tt,tt,tt,ff,ff] rfl rfl (one_of HT_.out (by kernel_rfl)) (by decide) (fun K hK => ?_); refine goes_ Tryz.func99 (by kernel_rfl) rfl #[.int .i64 a0_0] (by rfl) rfl rfl (by (try simp only [List.map_toArray, List.map_cons, List.map_nil]); first | done | rfl | (simp only [List.length_drop, List.length_take]; rfl)) ?_
 with_reducible refine (liveryref04_Domain.calls k a0_0 t103 _ A2.out).mono ?_
 rintro e w6 ⟨rfl, hb⟩; refine ⟨_, rfl, ?_⟩; have n0_ := Qad.mk (Qal (g := gb101) (o := Qau a0_0 a0_1 a0_2 a0_3 a0_4 a0_5 a0_6 a0_7 a0_8 42) (by (with_reducible repeat (first | refine Qag ?_ _ | refine Qah ?_ | refine Qaf ?_ _)); exact BK101.out) hb); have n1_ := Qad.mk (Qal (g := gb102) (o := ob_ss (⟨#[]⟩ : ByteArray) (⟨#[]⟩ : ByteArray) 24) (by (with_reducible repeat (first | refine Qag ?_ _ | refine Qah ?_ | refine Qaf ?_ _)); exact BK102.out) hb); have n2_ := Qad.mk (Qak (by repeat (first | (with_reducible first | exact HB.out | apply Qab | apply Qaa | apply Qac | refine Qai ?_ GE101.out | refine Qai ?_ GE102.out) | exact HB.out)) hb); clear BK101; clear BK102; clear HB; have BK101 := n0_; have BK102 := n1_; have HB := n2_; clear n0_ n1_ n2_
 (try clear hb)
 (try clear hb2)
 (try clear hk)
 (try clear hi)
 refine hK.out _ _ ⟨(Qaj BK101.out 0).trans rfl, (Qaj BK101.out 1).trans rfl, (Qaj BK101.out 2).trans rfl, (Qaj BK101.out 3).trans rfl, (Qaj BK101.out 4).trans rfl, (Qaj BK101.out 5).trans rfl, (Qaj BK101.out 6).trans rfl, (Qaj BK101.out 7).trans rfl, (Qaj BK101.out 8).trans rfl⟩ (fun hHeld => ?_); clear hK K; refine norm_ (a' := ?_) ?_ ?_; rotate_left
 ·show Act.put _ (some 6) _ = _
  simp only [Act.put, put_, Qax, Qaz]; rfl
 refine QaI (i := 7) (N := some 10) (v := ?_) (a' := ?_) #[tt,tt,tt,tt,tt,tt,tt,tt,ff] rfl rfl (QaA HT_.out (by kernel_rfl)) (fun _ _ _ h => h) (Or.inl ⟨by rfl, ?_⟩) ?_ ?_; rotate_left
 ·intro w'; go_simp; (with_reducible rfl)
 rotate_left
 ·simp only [Act.put, put_, Qax, Qaz]; rfl
 refine one_ (i := 8) (N := none) #[tt,tt,tt,tt,tt,tt,tt,tt,tt] rfl rfl (one_of HT_.out (by kernel_rfl)) (by decide) (fun K hK => ?_); have hs7 : w6.cell? ⟨gb102, 0, none⟩ = some (.string (⟨#[]⟩ : ByteArray)) := (Qaj BK102.out 0).trans rfl; have hfs7 := blk_frozen BK102.out 0; have hns7_0 := NB101_102.out; have hms7_0 := NB102_101.out; have hs8 : w6.cell? ⟨gb102, 1, none⟩ = some (.string (⟨#[]⟩ : ByteArray)) := (Qaj BK102.out 1).trans rfl; have hfs8 := blk_frozen BK102.out 1; have hns8_0 := NB101_102.out; have hms8_0 := NB102_101.out; refine skip_ (w1 := ?_) (by rfl) rfl ?_ ?_; rotate_left
 ·go_simp; rfl
 refine hK.out _ _ ⟨((cell_far (p := ⟨gb102, _, none⟩) NB101_102.out _).trans (((cell_far (p := ⟨gb102, _, none⟩) NB101_102.out _).trans (hHeld.1)))), ((cell_far (p := ⟨gb102, _, none⟩) NB101_102.out _).trans (((cell_far (p := ⟨gb102, _, none⟩) NB101_102.out _).trans (hHeld.2.1)))), ((cell_far (p := ⟨gb102, _, none⟩) NB101_102.out _).trans (((cell_far (p := ⟨gb102, _, none⟩) NB101_102.out _).trans (hHeld.2.2.1)))), ((cell_far (p := ⟨gb102, _, none⟩) NB101_102.out _).trans (((cell_far (p := ⟨gb102, _, none⟩) NB101_102.out _).trans (hHeld.2.2.2.1)))), ((cell_far (p := ⟨gb102, _, none⟩) NB101_102.out _).trans (((cell_far (p := ⟨gb102, _, none⟩) NB101_102.out _).trans (hHeld.2.2.2.2.1)))), ((cell_far (p := ⟨gb102, _, none⟩) NB101_102.out _).trans (((cell_far (p := ⟨gb102, _, none⟩) NB101_102.out _).trans (hHeld.2.2.2.2.2.1)))), ((cell_far (p := ⟨gb102, _, none⟩) NB101_102.out _).trans (((cell_far (p := ⟨gb102, _, none⟩) NB101_102.out _).trans (hHeld.2.2.2.2.2.2.1)))), ((cell_far (p := ⟨gb102, _, none⟩) NB101_102.out _).trans (((cell_far (p := ⟨gb102, _, none⟩) NB101_102.out _).trans (hHeld.2.2.2.2.2.2.2.1)))), ((cell_far (p := ⟨gb102, _, none⟩) NB101_102.out _).trans (((cell_far (p := ⟨gb102, _, none⟩) NB101_102.out _).trans (hHeld.2.2.2.2.2.2.2.2))))⟩ (fun hHeld => ?_); clear hK K; refine done_ (done_of HT_.out (by kernel_rfl)) ?_
 try go_wp2
 refine bodyPost_ret (results_cell_row rfl _ _ gb102 24 #[.string t103, .string a0_6] (0, 0) _ rfl (by (with_reducible repeat (first | refine Qag ?_ _ | refine Qah ?_ | refine Qaf ?_ _)); refine blk_put (cs := #[.string t103, .string (⟨#[]⟩ : ByteArray)]) ?_ 1 _ rfl; (with_reducible repeat (first | refine Qag ?_ _ | refine Qah ?_ | refine Qaf ?_ _)); refine blk_put (cs := #[.string (⟨#[]⟩ : ByteArray), .string (⟨#[]⟩ : ByteArray)]) ?_ 0 _ rfl; (with_reducible repeat (first | refine Qag ?_ _ | refine Qah ?_ | refine Qaf ?_ _)); exact BK102.out) Tryz.underlying24 rfl (by kernel_rfl)) rfl ?_; exact ⟨by first | rfl | (simp [Qar, Qaq] <;> rfl) | (simp [*, Qar, Qaq] <;> rfl), by repeat (first | (with_reducible first | exact HB.out | apply Qab | apply Qaa | apply Qac | refine Qai ?_ GE101.out | refine Qai ?_ GE102.out) | exact HB.out)⟩
def liveryref04_Less.f (a0_0 : ByteArray) (a0_1 : ByteArray) (a1_0 : ByteArray) (a1_1 : ByteArray) : Option (Bool) := if a0_0.toList = a1_0.toList then (some (Op.bytesLess a0_1.toList a1_1.toList)) else (some (Op.bytesLess a0_0.toList a1_0.toList))
set_option maxHeartbeats 8000000 in
set_option maxRecDepth 100000 in
theorem liveryref04_Less.calls (a0_0 : ByteArray) (a0_1 : ByteArray) (a1_0 : ByteArray) (a1_1 : ByteArray) (r : Bool) (w : World) (h : liveryref04_Less.f a0_0 a0_1 a1_0 a1_1 = some r) :
  Calls Tryz.prog 61 #[.agg #[.string a0_0, .string a0_1], .agg #[.string a1_0, .string a1_1]] w fun e w' => e = .returned (.bool r) ∧ Below w.heap.size w w' := by
 have hu24 := Tryz.underlying24; have HB := Qad.mk (Below.refl w.heap.size w); have H : (if a0_0.toList = a1_0.toList then (some (Op.bytesLess a0_1.toList a1_1.toList)) else (some (Op.bytesLess a0_0.toList a1_0.toList))) = some r := h; clear h
 by_cases c3 : a0_0.toList = a1_0.toList
 ·rw [if_pos c3] at H; have c3b0 : (a0_0.toList == a1_0.toList) = true := beq_iff_eq.mpr c3; have c3b1 : (a0_0.toList != a1_0.toList) = false := bne_eq_false_iff_eq.mpr c3; clear c3; obtain rfl := Option.some.inj H; go_enter Tryz.func61, Tryz.ntmps61
  go_wp2_with (first | ((with_reducible refine QaN (N := 2) rfl ?_); refine QaK ?hg (N := 2) ?hd (cs := #[.string a0_0, .string a0_1]) (t := 24) ?hr ?_; (case hd => rfl); (case hg => rfl); (case hr => first | (go_simp; done) | (go_simp; rfl)); intro gb101 hg w4 hbox hb; have n0_ := Qad.mk (Qak (by repeat (first | (with_reducible first | exact HB.out | apply Qab | apply Qaa | apply Qac) | exact HB.out)) hb); have n1_ := Qad.mk (hbox); have n2_ := Qad.mk ((by rw [hg]; exact (Qas (by repeat (first | (with_reducible first | exact HB.out | apply Qab | apply Qaa | apply Qac) | exact HB.out))) : w.heap.size ≤ gb101)); have n3_ := n2_; clear HB; have HB := n0_; have BK101 := n1_; have GW101 := n2_; have GE101 := n3_; clear n0_ n1_ n2_ n3_; clear hb hbox hg) | ((with_reducible refine QaN (N := 3) rfl ?_); refine QaK ?hg (N := 3) ?hd (cs := #[.string a1_0, .string a1_1]) (t := 24) ?hr ?_; (case hd => rfl); (case hg => rfl); (case hr => first | (go_simp; done) | (go_simp; rfl)); intro gb102 hg w5 hbox hb; have n0_ := Qad.mk (Qal (g := gb101) (o := ob_ss a0_0 a0_1 24) (by (with_reducible repeat (first | refine Qag ?_ _ | refine Qah ?_ | refine Qaf ?_ _)); exact BK101.out) hb); have n1_ := Qad.mk (Qak (by repeat (first | (with_reducible first | exact HB.out | apply Qab | apply Qaa | apply Qac | refine Qai ?_ GE101.out) | exact HB.out)) hb); have n2_ := Qad.mk (hbox); have n3_ := Qad.mk ((by rw [hg]; exact (Qas (by repeat (first | (with_reducible first | exact HB.out | apply Qab | apply Qaa | apply Qac | refine Qai ?_ GE101.out) | exact HB.out))) : w.heap.size ≤ gb102)); have n4_ := n3_; have n5_ := Qad.mk ((by rw [hg]; exact Nat.ne_of_lt (blk_lt (g := gb101) (o := ob_ss a0_0 a0_1 24) (by (with_reducible repeat (first | refine Qag ?_ _ | refine Qah ?_ | refine Qaf ?_ _)); exact BK101.out)) : gb101 ≠ gb102)); have n6_ := Qad.mk ((by rw [hg]; exact Nat.ne_of_gt (blk_lt (g := gb101) (o := ob_ss a0_0 a0_1 24) (by (with_reducible repeat (first | refine Qag ?_ _ | refine Qah ?_ | refine Qaf ?_ _)); exact BK101.out)) : gb102 ≠ gb101)); clear BK101; clear HB; have BK101 := n0_; have HB := n1_; have BK102 := n2_; have GW102 := n3_; have GE102 := n4_; have NB101_102 := n5_; have NB102_101 := n6_; clear n0_ n1_ n2_ n3_ n4_ n5_ n6_; clear hb hbox hg; have hnb6 := NB101_102.out; have hnc6 := NB102_101.out; obtain ⟨hcz7_0, hcz7_1⟩ := cz_ss BK101.out; obtain ⟨hfz7_0, hfz7_1⟩ := fz_2 BK101.out; obtain ⟨hcz8_0, hcz8_1⟩ := cz_ss BK102.out; obtain ⟨hfz8_0, hfz8_1⟩ := fz_2 BK102.out))
  go_ret; exact ⟨by first | rfl | (simp [Qar, Qaq] <;> rfl) | (simp [*, Qar, Qaq] <;> rfl), by repeat (first | (with_reducible first | exact HB.out | apply Qab | apply Qaa | apply Qac | refine Qai ?_ GE101.out | refine Qai ?_ GE102.out) | exact HB.out)⟩
 ·rw [if_neg c3] at H; have c3b0 : (a0_0.toList == a1_0.toList) = false := beq_eq_false_iff_ne.mpr c3; have c3b1 : (a0_0.toList != a1_0.toList) = true := bne_iff_ne.mpr c3; obtain rfl := Option.some.inj H; go_enter Tryz.func61, Tryz.ntmps61
  go_wp2_with (first | ((with_reducible refine QaN (N := 2) rfl ?_); refine QaK ?hg (N := 2) ?hd (cs := #[.string a0_0, .string a0_1]) (t := 24) ?hr ?_; (case hd => rfl); (case hg => rfl); (case hr => first | (go_simp; done) | (go_simp; rfl)); intro gb101 hg w9 hbox hb; have n0_ := Qad.mk (Qak (by repeat (first | (with_reducible first | exact HB.out | apply Qab | apply Qaa | apply Qac) | exact HB.out)) hb); have n1_ := Qad.mk (hbox); have n2_ := Qad.mk ((by rw [hg]; exact (Qas (by repeat (first | (with_reducible first | exact HB.out | apply Qab | apply Qaa | apply Qac) | exact HB.out))) : w.heap.size ≤ gb101)); have n3_ := n2_; clear HB; have HB := n0_; have BK101 := n1_; have GW101 := n2_; have GE101 := n3_; clear n0_ n1_ n2_ n3_; clear hb hbox hg) | ((with_reducible refine QaN (N := 3) rfl ?_); refine QaK ?hg (N := 3) ?hd (cs := #[.string a1_0, .string a1_1]) (t := 24) ?hr ?_; (case hd => rfl); (case hg => rfl); (case hr => first | (go_simp; done) | (go_simp; rfl)); intro gb102 hg w10 hbox hb; have n0_ := Qad.mk (Qal (g := gb101) (o := ob_ss a0_0 a0_1 24) (by (with_reducible repeat (first | refine Qag ?_ _ | refine Qah ?_ | refine Qaf ?_ _)); exact BK101.out) hb); have n1_ := Qad.mk (Qak (by repeat (first | (with_reducible first | exact HB.out | apply Qab | apply Qaa | apply Qac | refine Qai ?_ GE101.out) | exact HB.out)) hb); have n2_ := Qad.mk (hbox); have n3_ := Qad.mk ((by rw [hg]; exact (Qas (by repeat (first | (with_reducible first | exact HB.out | apply Qab | apply Qaa | apply Qac | refine Qai ?_ GE101.out) | exact HB.out))) : w.heap.size ≤ gb102)); have n4_ := n3_; have n5_ := Qad.mk ((by rw [hg]; exact Nat.ne_of_lt (blk_lt (g := gb101) (o := ob_ss a0_0 a0_1 24) (by (with_reducible repeat (first | refine Qag ?_ _ | refine Qah ?_ | refine Qaf ?_ _)); exact BK101.out)) : gb101 ≠ gb102)); have n6_ := Qad.mk ((by rw [hg]; exact Nat.ne_of_gt (blk_lt (g := gb101) (o := ob_ss a0_0 a0_1 24) (by (with_reducible repeat (first | refine Qag ?_ _ | refine Qah ?_ | refine Qaf ?_ _)); exact BK101.out)) : gb102 ≠ gb101)); clear BK101; clear HB; have BK101 := n0_; have HB := n1_; have BK102 := n2_; have GW102 := n3_; have GE102 := n4_; have NB101_102 := n5_; have NB102_101 := n6_; clear n0_ n1_ n2_ n3_ n4_ n5_ n6_; clear hb hbox hg; have hnb11 := NB101_102.out; have hnc11 := NB102_101.out; obtain ⟨hcz12_0, hcz12_1⟩ := cz_ss BK101.out; obtain ⟨hfz12_0, hfz12_1⟩ := fz_2 BK101.out; obtain ⟨hcz13_0, hcz13_1⟩ := cz_ss BK102.out; obtain ⟨hfz13_0, hfz13_1⟩ := fz_2 BK102.out))
  go_ret; exact ⟨by first | rfl | (simp [Qar, Qaq] <;> rfl) | (simp [*, Qar, Qaq] <;> rfl), by repeat (first | (with_reducible first | exact HB.out | apply Qab | apply Qaa | apply Qac | refine Qai ?_ GE101.out | refine Qai ?_ GE102.out) | exact HB.out)⟩
end Go.Proofs.YtmaipohgahdclaaGreatDoor.Pr
end
section
namespace Go.Proofs.YtmaipohgahdclaaGreatDoor.Pr
open Go.RowKit Go.Proofs.YtmaipohgahdclaaGreatDoorW.PrintWords Go.Proofs.YtmaipohgahdclaaGreatDoorW.PrintLast Go.Proofs.YtmaipohgahdclaaGreatDoorW.PrintMore
attribute [local go_sem] QaU QaS max_two min_two QaM QaL QaT QaR
set_option linter.unusedVariables false
set_option linter.unusedSimpArgs false
attribute [local go_sem high] eqA24
def liveryref06_less.f (a0_0 : ByteArray) (a0_1 : ByteArray) (a0_2 : ByteArray) (a1_0 : ByteArray) (a1_1 : ByteArray) (a1_2 : ByteArray) : Option (Bool) := if (!(a0_0.toList == a1_0.toList) || (!(a0_1.toList == a1_1.toList))) = true then ((liveryref04_Less.f a0_0 a0_1 a1_0 a1_1).bind fun t103 => (some t103)) else (some (Op.bytesLess a0_2.toList a1_2.toList))
set_option maxHeartbeats 8000000 in
set_option maxRecDepth 100000 in
theorem liveryref06_less.calls (a0_0 : ByteArray) (a0_1 : ByteArray) (a0_2 : ByteArray) (a1_0 : ByteArray) (a1_1 : ByteArray) (a1_2 : ByteArray) (r : Bool) (w : World) (h : liveryref06_less.f a0_0 a0_1 a0_2 a1_0 a1_1 a1_2 = some r) :
  Calls Tryz.prog 37 #[.agg #[.string a0_0, .string a0_1, .string a0_2], .agg #[.string a1_0, .string a1_1, .string a1_2]] w fun e w' => e = .returned (.bool r) ∧ Below w.heap.size w w' := by
 have hu56 := Tryz.underlying56; have hu24 := Tryz.underlying24; have HB := Qad.mk (Below.refl w.heap.size w); have H : (if (!(a0_0.toList == a1_0.toList) || (!(a0_1.toList == a1_1.toList))) = true then ((liveryref04_Less.f a0_0 a0_1 a1_0 a1_1).bind fun t103 => (some t103)) else (some (Op.bytesLess a0_2.toList a1_2.toList))) = some r := h; clear h
 by_cases c3 : (!(a0_0.toList == a1_0.toList) || (!(a0_1.toList == a1_1.toList))) = true
 ·rw [if_pos c3] at H; have c3b0 : (!(a0_0.toList == a1_0.toList) || (!(a0_1.toList == a1_1.toList))) = true := c3; clear c3; replace H := Option.bind_eq_some_iff.mp H; obtain ⟨t103, A40, H⟩ := H; replace H : (some t103) = some r := H; have A4 := Qad.mk A40; clear A40; obtain rfl := Option.some.inj H; go_enter Tryz.func37, Tryz.ntmps37
  go_wp2_with (first | ((with_reducible refine QaN (N := 2) rfl ?_); refine QaK ?hg (N := 2) ?hd (cs := #[.string a0_0, .string a0_1, .string a0_2]) (t := 56) ?hr ?_; (case hd => rfl); (case hg => rfl); (case hr => first | (go_simp; done) | (go_simp; rfl)); intro gb101 hg w5 hbox hb; have n0_ := Qad.mk (Qak (by repeat (first | (with_reducible first | exact HB.out | apply Qab | apply Qaa | apply Qac) | exact HB.out)) hb); have n1_ := Qad.mk (hbox); have n2_ := Qad.mk ((by rw [hg]; exact (Qas (by repeat (first | (with_reducible first | exact HB.out | apply Qab | apply Qaa | apply Qac) | exact HB.out))) : w.heap.size ≤ gb101)); have n3_ := n2_; clear HB; have HB := n0_; have BK101 := n1_; have GW101 := n2_; have GE101 := n3_; clear n0_ n1_ n2_ n3_; clear hb hbox hg) | ((with_reducible refine QaN (N := 3) rfl ?_); refine QaK ?hg (N := 3) ?hd (cs := #[.string a1_0, .string a1_1, .string a1_2]) (t := 56) ?hr ?_; (case hd => rfl); (case hg => rfl); (case hr => first | (go_simp; done) | (go_simp; rfl)); intro gb102 hg w6 hbox hb; have n0_ := Qad.mk (Qal (g := gb101) (o := ob_sss a0_0 a0_1 a0_2 56) (by (with_reducible repeat (first | refine Qag ?_ _ | refine Qah ?_ | refine Qaf ?_ _)); exact BK101.out) hb); have n1_ := Qad.mk (Qak (by repeat (first | (with_reducible first | exact HB.out | apply Qab | apply Qaa | apply Qac | refine Qai ?_ GE101.out) | exact HB.out)) hb); have n2_ := Qad.mk (hbox); have n3_ := Qad.mk ((by rw [hg]; exact (Qas (by repeat (first | (with_reducible first | exact HB.out | apply Qab | apply Qaa | apply Qac | refine Qai ?_ GE101.out) | exact HB.out))) : w.heap.size ≤ gb102)); have n4_ := n3_; have n5_ := Qad.mk ((by rw [hg]; exact Nat.ne_of_lt (blk_lt (g := gb101) (o := ob_sss a0_0 a0_1 a0_2 56) (by (with_reducible repeat (first | refine Qag ?_ _ | refine Qah ?_ | refine Qaf ?_ _)); exact BK101.out)) : gb101 ≠ gb102)); have n6_ := Qad.mk ((by rw [hg]; exact Nat.ne_of_gt (blk_lt (g := gb101) (o := ob_sss a0_0 a0_1 a0_2 56) (by (with_reducible repeat (first | refine Qag ?_ _ | refine Qah ?_ | refine Qaf ?_ _)); exact BK101.out)) : gb102 ≠ gb101)); clear BK101; clear HB; have BK101 := n0_; have HB := n1_; have BK102 := n2_; have GW102 := n3_; have GE102 := n4_; have NB101_102 := n5_; have NB102_101 := n6_; clear n0_ n1_ n2_ n3_ n4_ n5_ n6_; clear hb hbox hg; have hnb7 := NB101_102.out; have hnc7 := NB102_101.out; obtain ⟨hcz8_0, hcz8_1, hcz8_2⟩ := cz_sss BK101.out; obtain ⟨hfz8_0, hfz8_1, hfz8_2⟩ := fz_3 BK101.out; obtain ⟨hcz9_0, hcz9_1, hcz9_2⟩ := cz_sss BK102.out; obtain ⟨hfz9_0, hfz9_1, hfz9_2⟩ := fz_3 BK102.out) | ((with_reducible refine QaO (f := 61) rfl ?_); refine goesL_ (some 14) rfl rfl Tryz.func61 (by kernel_rfl) rfl #[.agg #[.string a0_0, .string a0_1], .agg #[.string a1_0, .string a1_1]] rfl (by (try simp only [List.map_toArray, List.map_cons, List.map_nil]); first | done | rfl | (simp only [List.length_drop, List.length_take]; rfl)) ?_; (with_reducible refine (liveryref04_Less.calls a0_0 a0_1 a1_0 a1_1 t103 _ A4.out).mono ?_); rintro e w10 ⟨rfl, hb⟩; refine ⟨_, rfl, ?_⟩; have n0_ := Qad.mk (Qal (g := gb101) (o := ob_sss a0_0 a0_1 a0_2 56) (by (with_reducible repeat (first | refine Qag ?_ _ | refine Qah ?_ | refine Qaf ?_ _)); exact BK101.out) hb); have n1_ := Qad.mk (Qal (g := gb102) (o := ob_sss a1_0 a1_1 a1_2 56) (by (with_reducible repeat (first | refine Qag ?_ _ | refine Qah ?_ | refine Qaf ?_ _)); exact BK102.out) hb); have n2_ := Qad.mk (Qak (by repeat (first | (with_reducible first | exact HB.out | apply Qab | apply Qaa | apply Qac | refine Qai ?_ GE101.out | refine Qai ?_ GE102.out) | exact HB.out)) hb); clear BK101; clear BK102; clear HB; have BK101 := n0_; have BK102 := n1_; have HB := n2_; clear n0_ n1_ n2_; (try clear hb); (try clear hb2); (try clear hk); (try clear hi)))
  go_ret; exact ⟨by first | rfl | (simp [Qar, Qaq] <;> rfl) | (simp [*, Qar, Qaq] <;> rfl), by repeat (first | (with_reducible first | exact HB.out | apply Qab | apply Qaa | apply Qac | refine Qai ?_ GE101.out | refine Qai ?_ GE102.out) | exact HB.out)⟩
 ·rw [if_neg c3] at H
  have c3b0 : (!(a0_0.toList == a1_0.toList) || (!(a0_1.toList == a1_1.toList))) = false := by simpa using c3
  clear c3; obtain rfl := Option.some.inj H; go_enter Tryz.func37, Tryz.ntmps37
  go_wp2_with (first | ((with_reducible refine QaN (N := 2) rfl ?_); refine QaK ?hg (N := 2) ?hd (cs := #[.string a0_0, .string a0_1, .string a0_2]) (t := 56) ?hr ?_; (case hd => rfl); (case hg => rfl); (case hr => first | (go_simp; done) | (go_simp; rfl)); intro gb101 hg w11 hbox hb; have n0_ := Qad.mk (Qak (by repeat (first | (with_reducible first | exact HB.out | apply Qab | apply Qaa | apply Qac) | exact HB.out)) hb); have n1_ := Qad.mk (hbox); have n2_ := Qad.mk ((by rw [hg]; exact (Qas (by repeat (first | (with_reducible first | exact HB.out | apply Qab | apply Qaa | apply Qac) | exact HB.out))) : w.heap.size ≤ gb101)); have n3_ := n2_; clear HB; have HB := n0_; have BK101 := n1_; have GW101 := n2_; have GE101 := n3_; clear n0_ n1_ n2_ n3_; clear hb hbox hg) | ((with_reducible refine QaN (N := 3) rfl ?_); refine QaK ?hg (N := 3) ?hd (cs := #[.string a1_0, .string a1_1, .string a1_2]) (t := 56) ?hr ?_; (case hd => rfl); (case hg => rfl); (case hr => first | (go_simp; done) | (go_simp; rfl)); intro gb102 hg w12 hbox hb; have n0_ := Qad.mk (Qal (g := gb101) (o := ob_sss a0_0 a0_1 a0_2 56) (by (with_reducible repeat (first | refine Qag ?_ _ | refine Qah ?_ | refine Qaf ?_ _)); exact BK101.out) hb); have n1_ := Qad.mk (Qak (by repeat (first | (with_reducible first | exact HB.out | apply Qab | apply Qaa | apply Qac | refine Qai ?_ GE101.out) | exact HB.out)) hb); have n2_ := Qad.mk (hbox); have n3_ := Qad.mk ((by rw [hg]; exact (Qas (by repeat (first | (with_reducible first | exact HB.out | apply Qab | apply Qaa | apply Qac | refine Qai ?_ GE101.out) | exact HB.out))) : w.heap.size ≤ gb102)); have n4_ := n3_; have n5_ := Qad.mk ((by rw [hg]; exact Nat.ne_of_lt (blk_lt (g := gb101) (o := ob_sss a0_0 a0_1 a0_2 56) (by (with_reducible repeat (first | refine Qag ?_ _ | refine Qah ?_ | refine Qaf ?_ _)); exact BK101.out)) : gb101 ≠ gb102)); have n6_ := Qad.mk ((by rw [hg]; exact Nat.ne_of_gt (blk_lt (g := gb101) (o := ob_sss a0_0 a0_1 a0_2 56) (by (with_reducible repeat (first | refine Qag ?_ _ | refine Qah ?_ | refine Qaf ?_ _)); exact BK101.out)) : gb102 ≠ gb101)); clear BK101; clear HB; have BK101 := n0_; have HB := n1_; have BK102 := n2_; have GW102 := n3_; have GE102 := n4_; have NB101_102 := n5_; have NB102_101 := n6_; clear n0_ n1_ n2_ n3_ n4_ n5_ n6_; clear hb hbox hg; have hnb13 := NB101_102.out; have hnc13 := NB102_101.out; obtain ⟨hcz14_0, hcz14_1, hcz14_2⟩ := cz_sss BK101.out; obtain ⟨hfz14_0, hfz14_1, hfz14_2⟩ := fz_3 BK101.out; obtain ⟨hcz15_0, hcz15_1, hcz15_2⟩ := cz_sss BK102.out; obtain ⟨hfz15_0, hfz15_1, hfz15_2⟩ := fz_3 BK102.out))
  go_ret; exact ⟨by first | rfl | (simp [Qar, Qaq] <;> rfl) | (simp [*, Qar, Qaq] <;> rfl), by repeat (first | (with_reducible first | exact HB.out | apply Qab | apply Qaa | apply Qac | refine Qai ?_ GE101.out | refine Qai ?_ GE102.out) | exact HB.out)⟩
end Go.Proofs.YtmaipohgahdclaaGreatDoor.Pr
end
section
namespace Go.Proofs.YtmaipohgahdclaaGreatDoor.Pr
theorem nodup_le {α : Type} [DecidableEq α] : ∀ {l m : List α}, l.Nodup → (∀ x ∈ l, x ∈ m) → l.length ≤ m.length
  | [], m, _, _ => Nat.zero_le _
  | a :: l, m, h, hs => by
    have ha := hs a (List.mem_cons_self ..); rw [List.nodup_cons] at h; have := nodup_le (m := m.erase a) h.2 (fun x hx => (List.mem_erase_of_ne (fun e : x = a => h.1 (e ▸ hx))).mpr (hs x (List.mem_cons_of_mem _ hx))); rw [List.length_erase_of_mem ha] at this; have := List.length_pos_of_mem ha; simp only [List.length_cons]; omega
theorem sorted_eq {α : Type} {R : α → α → Prop} (hi : ∀ x, ¬ R x x) (ht : ∀ x y z, R x y → R y z → R x z) : ∀ {a b : List α}, a.Pairwise R → b.Pairwise R → (∀ x, x ∈ a ↔ x ∈ b) → a = b
  | [], [], _, _, _ => rfl
  | [], y :: b, _, _, h => absurd ((h y).mpr (List.mem_cons_self ..)) (List.not_mem_nil)
  | x :: a, [], _, _, h => absurd ((h x).mp (List.mem_cons_self ..)) (List.not_mem_nil)
  | x :: a, y :: b, ha, hb, h => by
    rw [List.pairwise_cons] at ha hb
    have exy : x = y := by
      rcases List.mem_cons.mp ((h x).mp (List.mem_cons_self ..)) with e | h1
      · exact e
      · rcases List.mem_cons.mp ((h y).mpr (List.mem_cons_self ..)) with e | h2
        · exact e.symm
        · exact absurd (ht _ _ _ (ha.1 _ h2) (hb.1 _ h1)) (hi x)
    subst exy
    congr 1
    refine sorted_eq hi ht ha.2 hb.2 fun z => ⟨fun hz => ?_, fun hz => ?_⟩
    · rcases List.mem_cons.mp ((h z).mp (List.mem_cons_of_mem _ hz)) with e | h1
      · subst e; exact absurd (ha.1 _ hz) (hi z)
      · exact h1
    · rcases List.mem_cons.mp ((h z).mpr (List.mem_cons_of_mem _ hz)) with e | h1
      · subst e; exact absurd (hb.1 _ hz) (hi z)
      · exact h1
theorem sorted_nodup {α : Type} {R : α → α → Prop} (hi : ∀ x, ¬ R x x) {l : List α} (h : l.Pairwise R) : l.Nodup :=
  h.imp fun {a b} hab (e : a = b) => hi a (by subst e; exact hab)
section
variable {α : Type} [Inhabited α]
theorem swp_split (d : Array α) (j : Nat) (h : j + 1 < d.size) : ∃ a b, d.toList = a ++ d[j]! :: d[j + 1]! :: b ∧ (Go.Sort.swp d (j + 1) j).toList = a ++ d[j + 1]! :: d[j]! :: b := by
  have h1 : j < d.toList.length := by simp; omega
  have h2 : j + 1 < d.toList.length := by simp; omega
  have e : d.toList = d.toList.take j ++ d[j]! :: d[j + 1]! :: d.toList.drop (j + 2) := by
    rw [getElem!_pos d j (by omega), getElem!_pos d (j + 1) h]
    conv => lhs; rw [← List.take_append_drop j d.toList, List.drop_eq_getElem_cons h1, List.drop_eq_getElem_cons h2]
    rfl
  have hl : (d.toList.take j).length = j := by simp; omega
  generalize d.toList.take j = a at e hl
  generalize d.toList.drop (j + 2) = b at e
  refine ⟨a, b, e, ?_⟩; unfold Go.Sort.swp; rw [Array.toList_setIfInBounds, Array.toList_setIfInBounds]
  generalize d[j]! = x at *
  generalize d[j + 1]! = y at *
  rw [e]; rw [List.set_append_right _ _ (by omega), show j + 1 - a.length = 1 by omega, List.set_append_right _ _ (by omega), show j - a.length = 0 by omega]; rfl
theorem swp_size (d : Array α) (i j : Nat) : (Go.Sort.swp d i j).size = d.size := by simp [Go.Sort.swp]
theorem inner_filter (lt : α → α → Bool) (q : α → Bool) (hq : ∀ x y, lt x y = true → q x = true → q y = true → False) (a : Nat) : ∀ (j : Nat) (d : Array α), j < d.size → (Go.Sort.insInner lt a j d).toList.filter q = d.toList.filter q ∧ (Go.Sort.insInner lt a j d).size = d.size
  | 0, d, _ => ⟨rfl, rfl⟩
  | j + 1, d, h => by
    rw [Go.Sort.insInner]
    by_cases c : (decide (j + 1 > a) && lt d[j + 1]! d[j]!) = true
    · rw [if_pos c]
      rw [Bool.and_eq_true] at c; obtain ⟨l, r, e1, e2⟩ := swp_split d j h; have ih := inner_filter lt q hq a j (Go.Sort.swp d (j + 1) j) (by rw [swp_size]; omega); refine ⟨ih.1.trans ?_, ih.2.trans (swp_size _ _ _)⟩; rw [e1, e2, List.filter_append, List.filter_append]
      congr 1
      have := hq _ _ c.2; simp only [List.filter_cons]
      cases h1 : q d[j]! <;> cases h2 : q d[j + 1]! <;> simp_all
    · rw [if_neg c]
      exact ⟨rfl, rfl⟩
theorem outer_filter (lt : α → α → Bool) (q : α → Bool) (hq : ∀ x y, lt x y = true → q x = true → q y = true → False) (a b : Nat) : ∀ (n i : Nat) (d : Array α), b - i ≤ n → b ≤ d.size → (Go.Sort.insOuter lt a b i d).toList.filter q = d.toList.filter q
  | 0, i, d, h, hb => by
    rw [Go.Sort.insOuter, if_neg (by omega)]
  | n + 1, i, d, h, hb => by
    rw [Go.Sort.insOuter]
    by_cases c : i < b
    · rw [if_pos c]
      have := inner_filter lt q hq a i d (by omega); exact (outer_filter lt q hq a b n (i + 1) _ (by omega) (by rw [this.2]; exact hb)).trans this.1
    · rw [if_neg c]
theorem insertion_filter (lt : α → α → Bool) (q : α → Bool) (hq : ∀ x y, lt x y = true → q x = true → q y = true → False) (l : List α) : (Go.Sort.insertionSort lt l.toArray 0 l.length).toList.filter q = l.filter q := by
  have := outer_filter lt q hq 0 l.length l.length 1 l.toArray (by omega) (by simp)
  simpa [Go.Sort.insertionSort] using this
theorem insertion_sorted (lt : α → α → Bool) (h : Go.Sort.SWO lt) (l : List α) : (Go.Sort.insertionSort lt l.toArray 0 l.length).toList.Pairwise (fun x y => lt y x = false) := by
  obtain ⟨⟨hs, _, _⟩, hp⟩ := Go.Sort.insertionSort_holds h l.toArray 0 l.length (Nat.zero_le _) (by simp); rw [List.pairwise_iff_getElem]; intro i j hi hj hij
  have hsz : (Go.Sort.insertionSort lt l.toArray 0 l.length).size = l.length := by rw [hs]; simp
  have hj' : j < (Go.Sort.insertionSort lt l.toArray 0 l.length).size := by simpa using hj
  have := hp i j (Nat.zero_le _) hij (by omega); rw [getElem!_pos _ j hj', getElem!_pos _ i (by omega)] at this
  simpa using this
end
def Ev {α : Type} (f : Nat → Option α) (v : α) : Prop := ∃ K, ∀ k, K ≤ k → f k = some v
theorem Ev.from {α : Type} {f : Nat → Option α} {v : α} (K : Nat) (h : ∀ k, K ≤ k → f k = some v) : Ev f v := ⟨K, h⟩
theorem Ev.pure {α : Type} (v : α) : Ev (fun _ => some v) v := ⟨0, fun _ _ => rfl⟩
theorem Ev.step {α : Type} {f g : Nat → Option α} {v : α} (e : ∀ k, f (k + 1) = g k) (h : Ev g v) : Ev f v := by
  obtain ⟨K, h⟩ := h; refine ⟨K + 1, fun k hk => ?_⟩
  obtain ⟨j, rfl⟩ : ∃ j, k = j + 1 := ⟨k - 1, by omega⟩
  rw [e, h j (by omega)]
theorem Ev.congr {α : Type} {f g : Nat → Option α} {v : α} (e : ∀ k, f k = g k) (h : Ev g v) : Ev f v := by
  obtain ⟨K, h⟩ := h; exact ⟨K, fun k hk => (e k).trans (h k hk)⟩
theorem Ev.bind {α β : Type} {g : Nat → Option β} {h : Nat → β → Option α} {a : β} {v : α} (hg : Ev g a) (hh : Ev (fun k => h k a) v) : Ev (fun k => (g k).bind (h k)) v := by
  obtain ⟨K, hg⟩ := hg; obtain ⟨K', hh⟩ := hh; refine ⟨K + K', fun k hk => ?_⟩
  show (g k).bind (h k) = some v
  rw [hg k (by omega), Option.bind_some]; exact hh k (by omega)
theorem Ev.eq {α : Type} {f : Nat → Option α} {v v' : α} (h : Ev f v) (h' : Ev f v') : v = v' := by
  obtain ⟨K, h⟩ := h; obtain ⟨K', h'⟩ := h'; exact Option.some.inj ((h (K + K') (by omega)).symm.trans (h' (K + K') (by omega)))
section
variable {α : Type} [Inhabited α]
def selLeast (less : α → α → Bool) (l : List α) : Nat → Nat → Nat → Nat
  | 0, m, _ => m
  | n + 1, m, i => selLeast less l n (if less l[i]! l[m]! then i else m) (i + 1)
theorem selLeast_spec (less : α → α → Bool) (hi : ∀ x, less x x = false) (ht : ∀ x y z, less x y = true → less y z = true → less x z = true) (l : List α) : ∀ (n m i : Nat), n + i = l.length → m < i → 0 < i → (∀ j, j < i → less l[j]! l[m]! = false) →
    selLeast less l n m i < l.length ∧ ∀ j, j < l.length → less l[j]! l[selLeast less l n m i]! = false
  | 0, m, i, hn, hm, h0, h => by
    rw [selLeast]; exact ⟨by omega, fun j hj => h j (by omega)⟩
  | n + 1, m, i, hn, hm, h0, h => by
    rw [selLeast]
    by_cases c : less l[i]! l[m]! = true
    · rw [if_pos c]
      refine selLeast_spec less hi ht l n i (i + 1) (by omega) (by omega) (by omega) fun j hj => ?_
      by_cases e : j = i
      · rw [e]; exact hi _
      · rw [Bool.eq_false_iff]
        intro h2; have := h j (by omega); rw [ht _ _ _ h2 c] at this; cases this
    · rw [if_neg c]
      refine selLeast_spec less hi ht l n m (i + 1) (by omega) (by omega) (by omega) fun j hj => ?_
      by_cases e : j = i
      · rw [e]; simpa using c
      · exact h j (by omega)
def selSort (less : α → α → Bool) : Nat → List α → List α → List α
  | 0, _, out => out
  | n + 1, l, out => if l.length > 0 then selSort less n (l.take (selLeast less l (l.length - 1) 0 1) ++ l.drop (selLeast less l (l.length - 1) 0 1 + 1)) (out ++ [l[selLeast less l (l.length - 1) 0 1]!]) else out
theorem sel_split (l : List α) (m : Nat) (h : m < l.length) : l = l.take m ++ l[m]! :: l.drop (m + 1) := by
  rw [getElem!_pos l m h]
  conv => lhs; rw [← List.take_append_drop m l, List.drop_eq_getElem_cons h]
theorem selSort_spec (less : α → α → Bool) (hi : ∀ x, less x x = false) (ht : ∀ x y z, less x y = true → less y z = true → less x z = true) : ∀ (n : Nat) (l out : List α), l.length ≤ n → (out ++ l).Pairwise (fun a b => less a b = true ∨ less b a = true) → out.Pairwise (fun a b => less a b = true) → (∀ a ∈ out, ∀ b ∈ l, less a b = true) →
    (selSort less n l out).Pairwise (fun a b => less a b = true) ∧ ∀ x, x ∈ selSort less n l out ↔ x ∈ out ∨ x ∈ l
  | 0, l, out, hl, _, ho, _ => by
    have : l = [] := List.eq_nil_of_length_eq_zero (by omega); subst this; rw [selSort]; exact ⟨ho, fun x => by simp⟩
  | n + 1, l, out, hl, hd, ho, hol => by
    rw [selSort]
    by_cases c : l.length > 0
    · rw [if_pos c]
      obtain ⟨hm, hleast⟩ := selLeast_spec less hi ht l (l.length - 1) 0 1 (by omega) (by omega) (by omega) (fun j hj => by rw [show j = 0 by omega]; exact hi _)
      generalize selLeast less l (l.length - 1) 0 1 = m at hm hleast ⊢
      have hs := sel_split l m hm
      generalize hx : l[m]! = x at hs hleast ⊢
      generalize ha : l.take m = a at hs ⊢
      generalize hb : l.drop (m + 1) = b at hs ⊢
      have hmem : ∀ y, y ∈ l ↔ y = x ∨ y ∈ a ++ b := fun y => by
        rw [hs]; simp only [List.mem_append, List.mem_cons]; constructor
        · rintro (h | h | h)
          · exact .inr (.inl h)
          · exact .inl h
          · exact .inr (.inr h)
        · rintro (h | h | h)
          · exact .inr (.inl h)
          · exact .inl h
          · exact .inr (.inr h)
      have hlen : (a ++ b).length + 1 = l.length := by rw [hs]; simp; omega
      have hpx : ((out ++ [x]) ++ (a ++ b)).Pairwise (fun p q => less p q = true ∨ less q p = true) := by
        refine List.Pairwise.perm hd ?_ (fun h => h.symm); rw [hs, List.append_assoc]; refine List.Perm.append_left out ?_; exact List.perm_middle
      have hxl : ∀ y ∈ a ++ b, less x y = true := fun y hy => by
        have h1 : less x y = true ∨ less y x = true := by
          rw [List.append_assoc, List.pairwise_append] at hpx; have h2 := hpx.2.1; rw [List.singleton_append, List.pairwise_cons] at h2; exact h2.1 y hy
        rcases h1 with h1 | h1
        · exact h1
        · obtain ⟨j, hj, e⟩ := List.getElem_of_mem ((hmem y).mpr (.inr hy))
          have h3 := hleast j hj; rw [getElem!_pos l j hj, e, h1] at h3; cases h3
      obtain ⟨s1, s2⟩ := selSort_spec less hi ht n (a ++ b) (out ++ [x]) (by omega) hpx (by
        rw [List.pairwise_append]
        exact ⟨ho, List.pairwise_singleton _ _, fun p hp q hq => by rw [List.mem_singleton.mp hq]; exact hol p hp x ((hmem x).mpr (.inl rfl))⟩) (by
        intro p hp q hq
        rcases List.mem_append.mp hp with h | h
        · exact hol p h q ((hmem q).mpr (.inr hq))
        · rw [List.mem_singleton.mp h]; exact hxl q hq)
      refine ⟨s1, fun y => (s2 y).trans ?_⟩; rw [hmem y, List.mem_append, List.mem_singleton, or_assoc]
    · rw [if_neg c]
      have : l = [] := List.eq_nil_of_length_eq_zero (by omega); subst this; exact ⟨ho, fun x => by simp⟩
end
end Go.Proofs.YtmaipohgahdclaaGreatDoor.Pr
end
section
namespace Go.Proofs.YtmaipohgahdclaaGreatDoor.Pr
open Go.RowKit Go.Proofs.YtmaipohgahdclaaGreatDoorW.PrintWords Go.Proofs.YtmaipohgahdclaaGreatDoorW.PrintLast Go.Proofs.YtmaipohgahdclaaGreatDoorW.PrintMore
mutual
def ids : S29 → List ID
  | ⟨_, _, i, ps⟩ => i :: idsL ps
def idsL : List S29 → List ID
  | [] => []
  | p :: ps => ids p ++ idsL ps
end
mutual
def dep : S29 → Nat
  | ⟨_, _, _, ps⟩ => depL ps
def depL : List S29 → Nat
  | [] => 0
  | p :: ps => Nat.max (dep p + 1) (depL ps)
end
theorem ids_eq (p : Proof) : ids p = p.f2 :: idsL p.f3 := by cases p; rw [ids]
theorem dep_eq (p : Proof) : dep p = depL p.f3 := by cases p; rw [dep]
theorem idsL_nil : idsL [] = [] := by rw [idsL]
theorem idsL_cons (p : Proof) (ps : List Proof) : idsL (p :: ps) = ids p ++ idsL ps := by rw [idsL]
theorem depL_nil : depL [] = 0 := by rw [depL]
theorem depL_cons (p : Proof) (ps : List Proof) : depL (p :: ps) = Nat.max (dep p + 1) (depL ps) := by rw [depL]
def cnt (p : Proof) : Nat := (ids p).length
theorem cnt_pos (p : Proof) : 0 < cnt p := by
  unfold cnt; rw [ids_eq]; exact Nat.zero_lt_succ _
theorem mem_idsL {q : Proof} {ps : List Proof} (h : q ∈ ps) : ∀ i ∈ ids q, i ∈ idsL ps := by
  induction ps with
  | nil => cases h
  | cons p ps ih =>
    intro i hi; rw [idsL_cons, List.mem_append]
    rcases List.mem_cons.mp h with rfl | h
    · exact .inl hi
    · exact .inr (ih h i hi)
theorem mem_ids {q p : Proof} (h : q ∈ p.f3) : ∀ i ∈ ids q, i ∈ ids p := fun i hi => by
  rw [ids_eq]; exact List.mem_cons_of_mem _ (mem_idsL h i hi)
theorem self_ids (p : Proof) : p.f2 ∈ ids p := by
  rw [ids_eq]; exact List.mem_cons_self ..
theorem cnt_memL {q : Proof} {ps : List Proof} (h : q ∈ ps) : cnt q ≤ (idsL ps).length := by
  unfold cnt
  induction ps with
  | nil => cases h
  | cons p ps ih =>
    rw [idsL_cons, List.length_append]
    rcases List.mem_cons.mp h with rfl | h
    · omega
    · have := ih h
      omega
theorem cnt_mem {q p : Proof} (h : q ∈ p.f3) : cnt q < cnt p := by
  have := cnt_memL h
  show _ < (ids p).length
  rw [ids_eq, List.length_cons]; omega
theorem dep_memL {q : Proof} {ps : List Proof} (h : q ∈ ps) : dep q < depL ps := by
  induction ps with
  | nil => cases h
  | cons p ps ih =>
    rw [depL_cons]
    rcases List.mem_cons.mp h with rfl | h
    · exact Nat.lt_of_lt_of_le (Nat.lt_succ_self _) (Nat.le_max_left _ _)
    · exact Nat.lt_of_lt_of_le (ih h) (Nat.le_max_right _ _)
theorem dep_mem {q p : Proof} (h : q ∈ p.f3) : dep q < dep p := by rw [dep_eq p]; exact dep_memL h
theorem treeInd {P : Proof → Prop} (h : ∀ p, (∀ q ∈ p.f3, P q) → P p) : ∀ p, P p := by
  have : ∀ n p, cnt p ≤ n → P p := by
    intro n
    induction n with
    | zero => intro p hp; have := cnt_pos p; omega
    | succ n ih => exact fun p hp => h p fun q hq => ih q (by have := cnt_mem hq; omega)
  exact fun p => this (cnt p) p (Nat.le_refl _)
theorem depL_le : ∀ (ps : List Proof), (∀ q ∈ ps, dep q + 1 ≤ cnt q) → depL ps ≤ (idsL ps).length
  | [], _ => by rw [depL_nil]; omega
  | p :: ps, h => by
    rw [depL_cons, idsL_cons, List.length_append]; have h1 := h p (List.mem_cons_self ..)
    have h2 := depL_le ps fun q hq => h q (List.mem_cons_of_mem _ hq)
    unfold cnt at h1; exact Nat.max_le.mpr ⟨by omega, by omega⟩
theorem dep_lt : ∀ p, dep p + 1 ≤ cnt p := treeInd fun p ih => by
  have := depL_le p.f3 ih; rw [dep_eq]; unfold cnt; rw [ids_eq, List.length_cons]; omega
theorem parts_le : ∀ ps : List Proof, ps.length ≤ (idsL ps).length
  | [] => Nat.zero_le _
  | p :: ps => by
    rw [idsL_cons, List.length_append, List.length_cons]; have h1 := cnt_pos p; have h2 := parts_le ps; unfold cnt at h1; omega
theorem parts_lt (p : Proof) : p.f3.length < cnt p := by
  unfold cnt; rw [ids_eq, List.length_cons]; have := parts_le p.f3; omega
theorem rdP (ps : List Proof) (i : Nat) (h : i < ps.length) : QaF ps (i : Int) = ps[i] := by
  unfold QaF; rw [Int.toNat_natCast, List.getD_eq_getElem?_getD, List.getElem?_eq_getElem h]; rfl
theorem dropP (ps : List Proof) (i : Nat) (h : i < ps.length) : ps.drop i = ps[i] :: ps.drop (i + 1) := List.drop_eq_getElem_cons h
def okTree (p : Proof) : Prop := ∀ i ∈ ids p, okID i
theorem okTree.mem {p q : Proof} (h : okTree p) (hq : q ∈ p.f3) : okTree q := fun i hi => h i (mem_ids hq i hi)
end Go.Proofs.YtmaipohgahdclaaGreatDoor.Pr
end
