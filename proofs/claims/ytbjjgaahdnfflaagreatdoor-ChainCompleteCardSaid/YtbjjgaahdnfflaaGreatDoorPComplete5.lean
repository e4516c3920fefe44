/- The proof's own texts, joined: part 5. No conditions. -/
import Derived.WalkKit
import Derived.WalkSpells
import Derived.WalkLawsBesides
import Derived.Lib.Hide
import Derived.Deep.QuietTactic
import Derived.Deep.RegionWith
import Derived.BigQuiet
import Derived.RegionTactic
import Derived.ChangeAlike
import Derived.Deep.RegionLaw
import Derived.Lib.SmallJoins
import Derived.Lib.SlicesS
import Derived.StillTailTactics
import Derived.Test.YtbjjgaahdnfflaaGreatDoorProg
import Derived.Below
import Derived.Outline
import Derived.DeepKeys4
import Derived.KernelRfl
import Derived.Deep.Draws
import Derived.Deep.AppendLies
import Derived.Maps.AppendAt
import Derived.OwnWalk
import Derived.Laws.BytesArg
import Derived.Laws.MakeOwn
import Derived.Laws.OwnMore
import Derived.Deep.OwnRows
import Derived.Tactics
import Derived.Lib.ConvBytes
import Derived.Laws.Slices
import Derived.RowKit3
import Derived.Deep.LoopGhost
import Derived.WideLaws
import Derived.Deep.DeepCutAuto
import Derived.Deep.CutBlock
import Derived.Deep.RegionHeld3
import Derived.Laws.Rows
import Derived.Lib.AppendStr
import Derived.ArgAppend
import Derived.Laws.IdiomCopy
import Derived.OrdersHeld
import Derived.Laws.BitsLemmas
import Derived.RowKit
import Derived.Shelf.SlicesG.Cmp
import Derived.Sort.Grow
import Derived.Shelf.GgSortFunc.InsertionK
import Derived.Ground.SlgcProg
import Derived.Maps.OwnSet
import Derived.Maps.RangeRun
import Derived.Maps.Range
import Derived.Carry
import Derived.Laws.StructEq
import Derived.Laws.RangeAny
import Derived.Laws.Closers25
import Derived.Shelf.SlicesE.Clone
import Derived.Shelf.SlSortCmp.NoneTotal
import Derived.Shelf.SlSortCmp.WholeK
import Derived.Ground.SlsfProg
import Derived.Ground.SlgnProg
import Derived.Sort.LotA
import Derived.Test.YtbjjgaahdnfflaaGreatDoorPComplete0
import Derived.Test.YtbjjgaahdnfflaaGreatDoorPComplete1
import Derived.Test.YtbjjgaahdnfflaaGreatDoorPComplete2
import Derived.Test.YtbjjgaahdnfflaaGreatDoorPComplete3
import Derived.Test.YtbjjgaahdnfflaaGreatDoorPComplete4
section
namespace Go.Proofs.YtbjjgaahdnfflaaGreatDoor.Pr
open Go.RowKit Go.Proofs.YtbjjgaahdnfflaaGreatDoorW.PrintWords Go.Proofs.YtbjjgaahdnfflaaGreatDoorW.PrintLast Go.Proofs.YtbjjgaahdnfflaaGreatDoorW.PrintMore
set_option linter.unusedVariables false
set_option linter.unusedSimpArgs false
section
attribute [local go_sem high] eqA24 eqA27
theorem neStr_f {a b : ByteArray} (h : a = b) : (!(a.toList == b.toList)) = false := by subst h; simp
theorem neStr_t {a b : ByteArray} (h : ¬ a = b) : (!(a.toList == b.toList)) = true := by rw [str_f h]; rfl
abbrev OfT := Proof → Role → ByteArray → Option Bool
def ofLink (F : OfT) (c : Cred) (p : Proof) (who : ByteArray) : Option Bool :=
  (Qas.f 20 (pt p 0).f1).bind fun n => if n > 0 then (QaQ.f 20 c.f0.f0 c.f0.f1 c.f1 c.f2 c.f3 c.f4.f0 c.f4.f1 c.f5.f0 c.f5.f1).bind (fun ff => (F (pt p 0) ⟨ff.1, ff.2⟩ (pt p 0).f1).bind fun b => if b = true then F (pt p 1) ⟨(pt p 0).f1, c.f5.f1⟩ who else some false) else some false
def ofBy (F : OfT) (c : Cred) (p : Proof) (who : ByteArray) : Option Bool :=
  if c.f2 = 1 then some (decide (c.f3 = who) && decide (p.f3.length = 0))
  else if c.f2 = 2 then (if p.f3.length = 1 then F (pt p 0) c.f4 who else some false)
  else if p.f3.length = 2 then (if c.f2 = 4 then (F (pt p 0) c.f4 who).bind fun b => if b = true then F (pt p 1) c.f5 who else some false else ofLink F c p who)
  else some false
def ofHit (F : OfT) (c : Cred) (p : Proof) (role : Role) (who : ByteArray) : Option Bool :=
  (QaZ.f 20 c.f0.f0 c.f0.f1 c.f1 c.f2 c.f3 c.f4.f0 c.f4.f1 c.f5.f0 c.f5.f1).bind fun rr => if (⟨rr.1, rr.2⟩ : Role) = role then ofBy F c p who else some false
def ofAt (F : OfT) (cs : List Cred) (p : Proof) (role : Role) (who : ByteArray) : Option Bool :=
  match cs.find? (fun c => decide (c.f0 = p.f2)) with
  | none => some false
  | some c => ofHit F c p role who
def ofStep (F : OfT) (cs : List Cred) : OfT := fun p role who => if p.f0 = role then (if p.f1 = who then ofAt F cs p role who else some false) else some false
def ofN (cs : List Cred) : Nat → OfT
  | 0 => fun _ _ _ => none
  | k + 1 => ofStep (ofN cs k) cs
def Ofs (F : OfT) (cs : List Cred) : Prop := ∀ (w : World) (A0 : Option Addr) (c0 : Nat) (p : Proof) (A : Option Addr) (c : Nat) (role : Role) (who : ByteArray) (r : Bool), Kd.C kCred w A0 cs.length cs → cs.length ≤ c0 → Kd.C kProof w A p.f3.length p.f3 → p.f3.length ≤ c → F p role who = some r →
  Calls Tryz.prog 34 #[.slice A0 cs.length c0, encProof p A c, .agg #[.string role.f0, .string role.f1], .string who] w fun e w' => e = .returned (.bool r) ∧ Below w.heap.size w w'
theorem Ofs.use {F : OfT} {cs : List Cred} (HC : Ofs F cs) (w : World) (A0 : Option Addr) (c0 : Nat) (p : Proof) (A : Option Addr) (c : Nat) (role : Role) (who : ByteArray) (r : Bool) (h0 : Kd.C kCred w A0 cs.length cs) (h1 : cs.length ≤ c0) (h2 : Kd.C kProof w A p.f3.length p.f3) (h3 : p.f3.length ≤ c) (h4 : F p role who = some r) :
    Calls Tryz.prog 34 #[.slice A0 cs.length c0, encProof p A c, .agg #[.string role.f0, .string role.f1], .string who] w fun e w' => e = .returned (.bool r) ∧ Below w.heap.size w w' := HC w A0 c0 p A c role who r h0 h1 h2 h3 h4
theorem refNumber_below (a : ByteArray) (r : Int) (w : World) (h : Qas.f 20 a = some r) : Calls Tryz.prog 48 #[.string a] w fun e w' => e = .returned (.int .i64 r) ∧ Below w.heap.size w w' :=
  (Qas.calls 20 a r w h).mono fun e w' ⟨he, ⟨nd, hw⟩⟩ => ⟨he, by subst hw; exact Qar (Below.refl _ _) nd⟩
set_option maxRecDepth 100000 in
set_option maxHeartbeats 8000000 in
theorem of_step {F : OfT} {cs : List Cred} (HC : Ofs F cs) (hlen : cs.length ≤ 1000000) : Ofs (ofStep F cs) cs := by
  intro w A0 c0 p A c role who r hR0 hc0 hR hc h; unfold ofStep at h; go_enter Tryz.func34, Tryz.ntmps34
  go_upto_region 1 with fail
  change Code.wp _ _ _ _ ((w.alloc (proofObj p A c)).alloc (roleObj2 role))
  generalize hW : (w.alloc (proofObj p A c)).alloc (roleObj2 role) = W
  obtain ⟨HB, BP, BR, hsz⟩ := boxed2 hW; obtain ⟨p0, p1, p2, p3, p4, p5⟩ := proofCells BP; obtain ⟨r0, r1⟩ := roleCells2 BR; have HSZ := Lib.hid (show w.heap.size + 1 < W.heap.size by omega); clear hW hsz
  by_cases e1 : p.f0 = role
  · rw [if_pos e1] at h
    have hb1 := neRole_f e1; clear e1
    by_cases e2 : p.f1 = who
    · rw [if_pos e2] at h
      have hb2 := neStr_f e2; clear e2; have HF := Lib.hid h; have HP := Lib.hid BP; have HRo := Lib.hid BR; have HBh := Lib.hid HB; have HRc := Lib.hid hR0; have HRp := Lib.hid hR; have HLn := Lib.hid hlen; have HCc := Lib.hid hc0; have HCp := Lib.hid hc; have HX := Lib.hid (Ofs.use HC); clear h BP BR HB hR0 hR hlen hc0 hc HC; go_wp2; clear hb1 hb2 p0 p1 p2 p3 p4 p5 r0 r1
      go_loopg [9] (cs.length + 1) (fun kq v9 w' => ∃ i : Nat, v9 = .int .i64 i ∧ Hid (kq = cs.length + 1 - i) ∧ Hid (i ≤ cs.length) ∧ Hid (ofAt F (cs.drop i) p role who = some r) ∧ Hid (w'.heap[w.heap.size]? = some (proofObj p A c)) ∧ Hid (w'.heap[w.heap.size + 1]? = some (roleObj2 role)) ∧ Hid (Below w.heap.size w w'))
      case atStart => exact ⟨0, rfl, Lib.hid rfl, Lib.hid (Nat.zero_le _), HF, HP, HRo, HBh⟩
      case round =>
        clear HF HP HRo HBh; obtain ⟨i, rfl, HKq, HI, HF, HP, HRo, HW⟩ := hrel
        by_cases hi : i < cs.length
        · have d1 : decide ((i : Int) < (cs.length : Int)) = true := decide_eq_true (by omega)
          have d2 : decide (i < cs.length) = true := decide_eq_true hi; obtain ⟨ad, e, hx0, hx1, hx2, hx3, hx4, hx5, hx6, hx7, hx8⟩ := at_T46 (Kd.QaR HRc.out HW.out) (i : Int) (by omega) (by omega); obtain rfl := e
          obtain ⟨x, hx⟩ : ∃ x, x = cs[i] := ⟨_, rfl⟩
          have erd : Qam cs (i : Int) = x := by
            unfold Qam; rw [hx, Int.toNat_natCast, List.getD_eq_getElem?_getD, List.getElem?_eq_getElem hi]; rfl
          rw [erd, Int.toNat_natCast] at hx0 hx1 hx2 hx3 hx4 hx5 hx6 hx7 hx8; have p101 : (0 ≤ (i : Int)) = True := eq_true (by omega); have q101 : ((i : Int) < (cs.length : Int)) = True := eq_true (by omega); have hF := HF.out; unfold ofAt at hF; rw [List.drop_eq_getElem_cons hi, ← hx, List.find?_cons] at hF
          have wrapI : wrap64 ((i : Int) + 1) = ((i + 1 : Nat) : Int) := by unfold wrap64; have := HLn.out; omega
          have HIL := Lib.hid hi; clear hx erd hi HF; have HF := Lib.hid hF; clear hF
          go_upto_region 7 with fail
          change Code.wp _ _ _ _ (wr.alloc (credObj x)); have HXa := Qal (Below.refl wr.heap.size wr) (credObj x); have B3 := Qa9 wr (credObj x); have BP := Qad HP.out HXa; have BR := Qad HRo.out HXa; have WX := Qac HW.out HXa
          obtain ⟨kx, hkx⟩ : ∃ kx, kx = wr.heap.size := ⟨_, rfl⟩
          rw [← hkx] at B3 ⊢; clear hx0 hx1 hx2 hx3 hx4 hx5 hx6 hx7 hx8 HXa HP HRo HW hkx
          generalize wr.alloc (credObj x) = X at B3 BP BR WX ⊢
          obtain ⟨kc0, kc1, kc2, kc3, kc4, kc5, kc6, kc7, kc8⟩ := credCells B3; obtain ⟨p0, p1, p2, p3, p4, p5⟩ := proofCells BP; obtain ⟨r0, r1⟩ := roleCells2 BR; have HBX := Lib.hid B3; have HBP := Lib.hid BP; have HBR := Lib.hid BR; have HWX := Lib.hid WX; clear B3 BP BR WX
          by_cases e3 : x.f0 = p.f2
          · have hF := HF.out
            rw [decide_eq_true e3] at hF; simp only [ofHit] at hF; obtain ⟨rr, hrr, hF⟩ := Option.bind_eq_some_iff.mp hF; have hb3 := neID_f e3; have HRR := Lib.hid hrr; have HF := Lib.hid hF; clear e3 hF hrr
            go_upto_region 8 with fail
            clear hb3; have g0 := Qau kc0; have g1 := Qau kc1; have g2 := Qau kc2; have g3 := Qau kc3; have g4 := Qau kc4; have g5 := Qau kc5; have g6 := Qau kc6; have g7 := Qau kc7; have g8 := Qau kc8; have s0 := Qau r0; have s1 := Qau r1; clear kc0 kc1 kc2 kc3 kc4 kc5 kc6 kc7 kc8 p0 p1 p2 p3 p4 p5 r0 r1
            by_cases e4 : (⟨rr.1, rr.2⟩ : Role) = role
            · have hF := HF.out
              rw [if_pos e4] at hF; have hb4 := neRole_f e4; clear e4 HF; refine QaT (by kernel_rfl) (by kernel_rfl) ?_
              repeat (go_big_quiet_step (with_reducible refine Qbq (QaZ.calls 20 _ _ _ _ _ _ _ _ _ _ _ _ HRR.out)))
              refine wpQuiet_nil ?_; rintro _ ⟨u, rfl⟩; have HW := Qac HWX.out u.ok; have BX := Qad HBX.out u.ok; have BP := Qad HBP.out u.ok; clear g0 g1 g2 g3 g4 g5 g6 g7 g8 s0 s1 HWX HBX HBP HBR
              generalize u.now = Y at HW BX BP ⊢
              clear u; unfold ofBy at hF; obtain ⟨kc0, kc1, kc2, kc3, kc4, kc5, kc6, kc7, kc8⟩ := credCells BX; obtain ⟨p0, p1, p2, p3, p4, p5⟩ := proofCells BP; have hR2 := Kd.QaR HRp.out HW
              by_cases k1 : x.f2 = 1
              · rw [if_pos k1] at hF
                have hr := Option.some.inj hF; have d3 : (x.f2 == 1) = true := beq_iff_eq.mpr k1; clear HF hF hR2 k1
                by_cases e5 : x.f3 = who
                · have hb5 := str_t e5
                  by_cases e6 : p.f3.length = 0
                  · have hb6 : ((p.f3.length : Int) == 0) = true := beq_iff_eq.mpr (by omega)
                    have hb7 : (p.f3.length == 0) = true := beq_iff_eq.mpr e6
                    obtain rfl : true = r := by rw [← hr, decide_eq_true e5, decide_eq_true e6]; rfl
                    clear e5 hr; go_wp2; go_ret; exact ⟨rfl, HW⟩
                  · have hb6 : ((p.f3.length : Int) == 0) = false := beq_eq_false_iff_ne.mpr (by omega)
                    have hb7 : (p.f3.length == 0) = false := beq_eq_false_iff_ne.mpr e6
                    obtain rfl : false = r := by rw [← hr, decide_eq_true e5, decide_eq_false e6]; rfl
                    clear e5 hr; go_wp2; go_ret; exact ⟨rfl, HW⟩
                · have hb5 := str_f e5
                  obtain rfl : false = r := by rw [← hr, decide_eq_false e5]; rfl
                  clear e5 hr; go_wp2; go_ret; exact ⟨rfl, HW⟩
              · rw [if_neg k1] at hF
                have d3 : (x.f2 == 1) = false := beq_eq_false_iff_ne.mpr k1; clear k1
                by_cases k2 : x.f2 = 2
                · rw [if_pos k2] at hF
                  have d4 : (x.f2 == 2) = true := beq_iff_eq.mpr k2; clear k2
                  go_upto_region 13 with fail
                  clear d3 d4
                  by_cases e5 : p.f3.length = 1
                  · rw [if_pos e5] at hF
                    have n1 : 0 < p.f3.length := by omega
                    have n2 : (0 : Int) < (p.f3.length : Int) := by omega
                    have n3 : (((p.f3.length : Nat) : Int) == 1) = true := beq_iff_eq.mpr (by omega); have n4 : (p.f3.length == 1) = true := beq_iff_eq.mpr (by omega); obtain ⟨ad1, A5, cc5, hA, ⟨q0, q1, q2, q3, q4, q5⟩, ql, qR⟩ := part0 hR2 (by omega); obtain rfl := hA
                    obtain ⟨P0, hP0⟩ : ∃ P0, P0 = pt p 0 := ⟨_, rfl⟩
                    rw [← hP0] at hF q0 q1 q2 q3 q4 q5 ql qR; have HRY := Lib.hid (Kd.QaR HRc.out HW); have HQ := Lib.hid qR; have HL := Lib.hid ql; have HH := Lib.hid hF; have t0 := Qau q0; have t1 := Qau q1; have t2 := Qau q2; have t3 := Qau q3; have t4 := Qau q4; have t5 := Qau q5; have y5 := Qau p5; have z5 := Qau kc5; have z6 := Qau kc6; clear hP0 hF qR ql e5 hR2 q0 q1 q2 q3 q4 q5 p0 p1 p2 p3 p4 p5 kc0 kc1 kc2 kc3 kc4 kc5 kc6 kc7 kc8; refine QaT (by kernel_rfl) (by kernel_rfl) ?_
                    repeat (go_big_quiet_step ((with_reducible refine Qbq (HX.out _ (some ad) c0 P0 A5 cc5 x.f4 who r (Kd.QaR HRY.out (BW.ok _)) HCc.out (Kd.QaR HQ.out (BW.ok _)) HL.out HH.out))))
                    refine wpQuiet_nil ?_; rintro _ ⟨u, rfl⟩; have HBu := Qac HW u.ok
                    go_wp2_with fail
                    go_ret; exact ⟨rfl, HBu⟩
                  · rw [if_neg e5] at hF
                    obtain rfl := Option.some.inj hF; have n3 : (((p.f3.length : Nat) : Int) == 1) = false := beq_eq_false_iff_ne.mpr (by omega); have n4 : (p.f3.length == 1) = false := beq_eq_false_iff_ne.mpr (by omega); have y5 := Qau p5; clear hF e5 hR2 p0 p1 p2 p3 p4 p5 kc0 kc1 kc2 kc3 kc4 kc5 kc6 kc7 kc8; refine QaT (by kernel_rfl) (by kernel_rfl) ?_
                    repeat (go_big_quiet_step (fail))
                    refine wpQuiet_nil ?_; rintro _ ⟨u, rfl⟩; have HBu := Qac HW u.ok
                    go_wp2_with fail
                    go_ret; exact ⟨rfl, HBu⟩
                · rw [if_neg k2] at hF
                  have d4 : (x.f2 == 2) = false := beq_eq_false_iff_ne.mpr k2; clear k2
                  by_cases e5 : p.f3.length = 2
                  · rw [if_pos e5] at hF
                    have n1 : 0 < p.f3.length := by omega
                    have n2 : (0 : Int) < (p.f3.length : Int) := by omega
                    have n3 : 1 < p.f3.length := by omega
                    have n4 : (1 : Int) < (p.f3.length : Int) := by omega
                    have n5 : (((p.f3.length : Nat) : Int) == 2) = true := beq_iff_eq.mpr (by omega); have n6 : (p.f3.length == 2) = true := beq_iff_eq.mpr (by omega)
                    have n7 : (((p.f3.length : Nat) : Int) != 2) = false := by simp; omega
                    have n8 : (p.f3.length != 2) = false := by simp; omega
                    obtain ⟨ad1, A5, cc5, hA, ⟨q0, q1, q2, q3, q4, q5⟩, ql, qR⟩ := part0 hR2 (by omega); obtain rfl := hA; obtain ⟨B5, dd5, ⟨s0, s1, s2, s3, s4, s5⟩, ⟨s6, s7, s8, s9, s10⟩, sl, sR⟩ := part1 hR2 (by omega)
                    obtain ⟨P0, hP0⟩ : ∃ P0, P0 = pt p 0 := ⟨_, rfl⟩
                    obtain ⟨P1, hP1⟩ : ∃ P1, P1 = pt p 1 := ⟨_, rfl⟩
                    rw [← hP0] at q0 q1 q2 q3 q4 q5 ql qR; rw [← hP1] at s0 s6 s7 s8 s9 s10 sl sR
                    by_cases k4 : x.f2 = 4
                    · rw [if_pos k4, ← hP0, ← hP1] at hF
                      have d5 : (x.f2 == 4) = true := beq_iff_eq.mpr k4; obtain ⟨b1, h1, hF⟩ := Option.bind_eq_some_iff.mp hF; clear k4 hP0 hP1
                      go_upto_region 17 with fail
                      clear d3 d4 d5; have t0 := Qau q0; have t1 := Qau q1; have t2 := Qau q2; have t3 := Qau q3; have t4 := Qau q4; have t5 := Qau q5; have v0 := Qau s0; have v6 := Qau s6; have v7 := Qau s7; have v8 := Qau s8; have v9 := Qau s9; have v10 := Qau s10; have y5 := Qau p5; have z5 := Qau kc5; have z6 := Qau kc6; have z7 := Qau kc7; have z8 := Qau kc8; have HRY := Lib.hid (Kd.QaR HRc.out HW); have HQ := Lib.hid qR; have HL := Lib.hid ql; have HS := Lib.hid sR; have HM := Lib.hid sl; have H0 := Lib.hid h1; clear h1; clear qR ql sR sl e5 hR2 q0 q1 q2 q3 q4 q5 s0 s1 s2 s3 s4 s5 s6 s7 s8 s9 s10 p0 p1 p2 p3 p4 p5 kc0 kc1 kc2 kc3 kc4 kc5 kc6 kc7 kc8; cases b1
                      · rw [if_neg (by decide)] at hF
                        obtain rfl := Option.some.inj hF; clear hF; refine QaT (by kernel_rfl) (by kernel_rfl) ?_
                        repeat (go_big_quiet_step ((with_reducible refine Qbq (HX.out _ (some ad) c0 P0 A5 cc5 x.f4 who false (Kd.QaR HRY.out (BW.ok _)) HCc.out (Kd.QaR HQ.out (BW.ok _)) HL.out H0.out))))
                        refine wpQuiet_nil ?_; rintro _ ⟨u, rfl⟩; have HBu := Qac HW u.ok
                        go_wp2_with fail
                        go_ret; exact ⟨rfl, HBu⟩
                      · rw [if_pos rfl] at hF
                        have H1 := Lib.hid hF; clear hF; refine QaT (by kernel_rfl) (by kernel_rfl) ?_
                        repeat (go_big_quiet_step (first | (with_reducible refine Qbq (HX.out _ (some ad) c0 P0 A5 cc5 x.f4 who true (Kd.QaR HRY.out (BW.ok _)) HCc.out (Kd.QaR HQ.out (BW.ok _)) HL.out H0.out)) | (with_reducible refine Qbq (HX.out _ (some ad) c0 P1 B5 dd5 x.f5 who r (Kd.QaR HRY.out (BW.ok _)) HCc.out (Kd.QaR HS.out (BW.ok _)) HM.out H1.out))))
                        refine wpQuiet_nil ?_; rintro _ ⟨u, rfl⟩; have HBu := Qac HW u.ok
                        go_wp2_with fail
                        go_ret; exact ⟨rfl, HBu⟩
                    · rw [if_neg k4] at hF
                      have d5 : (x.f2 == 4) = false := beq_eq_false_iff_ne.mpr k4; unfold ofLink at hF; rw [← hP0, ← hP1] at hF; obtain ⟨n, hn, hF⟩ := Option.bind_eq_some_iff.mp hF; have HN := Lib.hid hn; have HH := Lib.hid hF; clear k4 hP0 hP1 hn hF
                      go_upto_region 19 with fail
                      clear d3 d4 d5; have t0 := Qau q0; have t1 := Qau q1; have t2 := Qau q2; have t3 := Qau q3; have t4 := Qau q4; have t5 := Qau q5; have v0 := Qau s0; have v6 := Qau s6; have v7 := Qau s7; have v8 := Qau s8; have v9 := Qau s9; have v10 := Qau s10; have y5 := Qau p5; have z0 := Qau kc0; have z1 := Qau kc1; have z2 := Qau kc2; have z3 := Qau kc3; have z4 := Qau kc4; have z5 := Qau kc5; have z6 := Qau kc6; have z7 := Qau kc7; have z8 := Qau kc8; have HRY := Lib.hid (Kd.QaR HRc.out HW); have HQ := Lib.hid qR; have HL := Lib.hid ql; have HS := Lib.hid sR; have HM := Lib.hid sl; clear qR ql sR sl e5 hR2 q0 q1 q2 q3 q4 q5 s0 s1 s2 s3 s4 s5 s6 s7 s8 s9 s10 p0 p1 p2 p3 p4 p5 kc0 kc1 kc2 kc3 kc4 kc5 kc6 kc7 kc8
                      by_cases e6 : n > 0
                      · have hF := HH.out
                        rw [if_pos e6] at hF; have f1 : decide (0 < n) = true := decide_eq_true e6; have f2 : 0 < n := e6; obtain ⟨ff, hff, hF⟩ := Option.bind_eq_some_iff.mp hF; obtain ⟨b1, h1, hF⟩ := Option.bind_eq_some_iff.mp hF; have HFF := Lib.hid hff; have H0 := Lib.hid h1; clear hff h1 HH e6; cases b1
                        · rw [if_neg (by decide)] at hF
                          obtain rfl := Option.some.inj hF; clear hF; refine QaT (by kernel_rfl) (by kernel_rfl) ?_
                          repeat (go_big_quiet_step (first | (with_reducible refine Qbq (refNumber_below _ _ _ HN.out)) | (with_reducible refine Qbq (QaQ.calls 20 _ _ _ _ _ _ _ _ _ _ _ _ HFF.out)) | (with_reducible refine Qbq (HX.out _ (some ad) c0 P0 A5 cc5 ⟨ff.1, ff.2⟩ P0.f1 false (Kd.QaR HRY.out (BW.ok _)) HCc.out (Kd.QaR HQ.out (BW.ok _)) HL.out H0.out))))
                          refine wpQuiet_nil ?_; rintro _ ⟨u, rfl⟩; have HBu := Qac HW u.ok
                          go_wp2_with fail
                          go_ret; exact ⟨rfl, HBu⟩
                        · rw [if_pos rfl] at hF
                          have H1 := Lib.hid hF; clear hF; refine QaT (by kernel_rfl) (by kernel_rfl) ?_
                          repeat (go_big_quiet_step (first | (with_reducible refine Qbq (refNumber_below _ _ _ HN.out)) | (with_reducible refine Qbq (QaQ.calls 20 _ _ _ _ _ _ _ _ _ _ _ _ HFF.out)) | (with_reducible refine Qbq (HX.out _ (some ad) c0 P0 A5 cc5 ⟨ff.1, ff.2⟩ P0.f1 true (Kd.QaR HRY.out (BW.ok _)) HCc.out (Kd.QaR HQ.out (BW.ok _)) HL.out H0.out)) | (with_reducible refine Qbq (HX.out _ (some ad) c0 P1 B5 dd5 ⟨P0.f1, x.f5.f1⟩ who r (Kd.QaR HRY.out (BW.ok _)) HCc.out (Kd.QaR HS.out (BW.ok _)) HM.out H1.out))))
                          refine wpQuiet_nil ?_; rintro _ ⟨u, rfl⟩; have HBu := Qac HW u.ok
                          go_wp2_with fail
                          go_ret; exact ⟨rfl, HBu⟩
                      · have hF := HH.out
                        rw [if_neg e6] at hF; obtain rfl := Option.some.inj hF; have f1 : decide (0 < n) = false := decide_eq_false e6; clear hF HH e6; refine QaT (by kernel_rfl) (by kernel_rfl) ?_
                        repeat (go_big_quiet_step (with_reducible refine Qbq (refNumber_below _ _ _ HN.out)))
                        refine wpQuiet_nil ?_; rintro _ ⟨u, rfl⟩; have HBu := Qac HW u.ok
                        go_wp2_with fail
                        go_ret; exact ⟨rfl, HBu⟩
                  · rw [if_neg e5] at hF
                    obtain rfl := Option.some.inj hF
                    have n7 : (((p.f3.length : Nat) : Int) != 2) = true := by simp; omega
                    have n8 : (p.f3.length != 2) = true := by simp; omega
                    clear hF hR2; go_wp2; go_ret; exact ⟨rfl, HW⟩
            · have hF := HF.out
              rw [if_neg e4] at hF; obtain rfl := Option.some.inj hF; have hb4 := neRole_t e4; clear e4 HF hF; refine QaT (by kernel_rfl) (by kernel_rfl) ?_
              repeat (go_big_quiet_step (with_reducible refine Qbq (QaZ.calls 20 _ _ _ _ _ _ _ _ _ _ _ _ HRR.out)))
              refine wpQuiet_nil ?_; rintro _ ⟨u, rfl⟩; have HW := Qac HWX.out u.ok; have BX := Qad HBX.out u.ok; have BP := Qad HBP.out u.ok; clear g0 g1 g2 g3 g4 g5 g6 g7 g8 s0 s1 HWX HBX HBP HBR
              generalize u.now = Y at HW BX BP ⊢
              clear u; go_wp2; go_ret; exact ⟨rfl, HW⟩
          · have hF := HF.out
            rw [decide_eq_false e3] at hF; have hb3 := neID_t e3; have HF := Lib.hid (show ofAt F (cs.drop (i + 1)) p role who = some r from hF); clear e3 hF; go_wp2
            go_roundg (cs.length + 1 - (i + 1))
            case measure => have := HKq.out; have := HIL.out; omega
            case rel => exact ⟨i + 1, by first | rfl | exact congrArg _ wrapI, Lib.hid rfl, Lib.hid HIL.out, HF, HBP, HBR, HWX⟩
        · have d1 : decide ((i : Int) < (cs.length : Int)) = false := decide_eq_false (by omega)
          have d2 : decide (i < cs.length) = false := decide_eq_false hi; have hF := HF.out; unfold ofAt at hF; rw [List.drop_eq_nil_of_le (by omega)] at hF; obtain rfl := Option.some.inj hF; clear hF HF hi; go_wp2; go_ret; exact ⟨rfl, HW.out⟩
    · rw [if_neg e2] at h
      have hb2 := neStr_t e2; obtain rfl := Option.some.inj h; clear e2 h; go_wp2; go_ret; exact ⟨rfl, HB⟩
  · rw [if_neg e1] at h
    have hb1 := neRole_t e1; obtain rfl := Option.some.inj h; clear e1 h; go_wp2; go_ret; exact ⟨rfl, HB⟩
theorem of_calls {cs : List Cred} (hlen : cs.length ≤ 1000000) : ∀ k, Ofs (ofN cs k) cs
  | 0 => fun _ _ _ _ _ _ _ _ _ _ _ _ _ h => by cases h
  | k + 1 => of_step (of_calls hlen k) hlen
end
section
attribute [local go_sem] QaO QaM Qa2 Qa1 QaD QaC QaN QaL
def Qbt.f (l0 : List (S46)) (a1_0 : ByteArray) (a1_1 : ByteArray) (a1_2 : ByteArray) (a1_3 : Int) (a1_4 : Int) (l1_5 : List (S30)) (a2_0 : ByteArray) (a2_1 : ByteArray) (a3 : ByteArray) : Option Bool := if l0.length ≤ 1000000 then ofN l0 200 ⟨⟨a1_0, a1_1⟩, a1_2, ⟨a1_3, a1_4⟩, l1_5⟩ ⟨a2_0, a2_1⟩ a3 else none
theorem Qbt.calls (A0 : Option Addr) (c0 : Nat) (l0 : List (S46)) (a1_0 : ByteArray) (a1_1 : ByteArray) (a1_2 : ByteArray) (a1_3 : Int) (a1_4 : Int) (A1_5 : Option Addr) (c1_5 : Nat) (l1_5 : List (S30)) (a2_0 : ByteArray) (a2_1 : ByteArray) (a3 : ByteArray) (r : Bool) (w : World) (hr0 : Kd.C k46 w A0 l0.length l0) (hc0 : l0.length ≤ c0) (hr1_5 : Kd.C k30 w A1_5 l1_5.length l1_5) (hc1_5 : l1_5.length ≤ c1_5) (h : Qbt.f l0 a1_0 a1_1 a1_2 a1_3 a1_4 l1_5 a2_0 a2_1 a3 = some r) :
    Calls Tryz.prog 34 #[.slice A0 l0.length c0, .agg #[.string a1_0, .string a1_1, .string a1_2, .int .i64 a1_3, .int .i64 a1_4, .slice A1_5 l1_5.length c1_5], .agg #[.string a2_0, .string a2_1], .string a3] w fun e w' => e = .returned (.bool r) ∧ Below w.heap.size w w' := by
  unfold Qbt.f at h
  by_cases hl : l0.length ≤ 1000000
  · rw [if_pos hl] at h
    exact of_calls hl 200 w A0 c0 ⟨⟨a1_0, a1_1⟩, a1_2, ⟨a1_3, a1_4⟩, l1_5⟩ A1_5 c1_5 ⟨a2_0, a2_1⟩ a3 r hr0 hc0 hr1_5 hc1_5 h
  · rw [if_neg hl] at h
    cases h

def QaW.f (k : Nat) (l0 : List (S46)) (a1_0 : ByteArray) (a1_1 : ByteArray) (a1_2 : ByteArray) (a1_3 : Int) (a1_4 : Int) (l1_5 : List (S30)) : Option (Int) := (Qat.f k l0).bind fun t102 => ((Qbt.f t102 a1_0 a1_1 a1_2 a1_3 a1_4 l1_5 a1_0 a1_1 a1_2).bind fun t105 => (if t105 = true then (some 0) else (some 15)))
def QaW.T1 : Bool × List (List Nat × List Nat) := (true, [([], []), ([0], [0]), ([], []), ([], []), ([3], [3]), ([], []), ([5], [5]), ([1, 2, 4, 6, 1], [1, 2, 4, 6]), ([7, 7, 0, 1, 2, 3, 4, 5, 6, 7], [7])])
def QaW.B1 : List Nat := [0, 1, 0, 0, 8, 0, 32, 127, 255]
theorem QaW.tab1 : rtab .any (opsOf Tryz.f19 1) = QaW.T1 := by kernel_rfl
theorem QaW.bits1 : waitsOk QaW.T1.2 QaW.B1 = true := by kernel_rfl
set_option maxHeartbeats 8000000 in
set_option maxRecDepth 100000 in
theorem QaW.calls (k : Nat) (A0 : Option Addr) (c0 : Nat) (l0 : List (S46)) (a1_0 : ByteArray) (a1_1 : ByteArray) (a1_2 : ByteArray) (a1_3 : Int) (a1_4 : Int) (A1_5 : Option Addr) (c1_5 : Nat) (l1_5 : List (S30)) (r : Int) (w : World) (hr0 : Kd.C k46 w A0 l0.length l0) (hc0 : l0.length ≤ c0) (hr1_5 : Kd.C k30 w A1_5 l1_5.length l1_5) (hc1_5 : l1_5.length ≤ c1_5) (h : QaW.f k l0 a1_0 a1_1 a1_2 a1_3 a1_4 l1_5 = some r) :
  Calls Tryz.prog 19 #[.slice A0 l0.length c0, .agg #[.string a1_0, .string a1_1, .string a1_2, .int .i64 a1_3, .int .i64 a1_4, .slice A1_5 l1_5.length c1_5]] w fun e w' => e = .returned (.int .i64 r) ∧ Below w.heap.size w w' := by
 have hu30 := Tryz.underlying30; have hu24 := Tryz.underlying24; have HR0 := Qaa.mk hr0; have HC0 := Qaa.mk hc0; clear hr0 hc0; have HR1_5 := Qaa.mk hr1_5; have HC1_5 := Qaa.mk hc1_5; clear hr1_5 hc1_5; have HB := Qaa.mk (Below.refl w.heap.size w); have H : ((Qat.f k l0).bind fun t102 => ((Qbt.f t102 a1_0 a1_1 a1_2 a1_3 a1_4 l1_5 a1_0 a1_1 a1_2).bind fun t105 => (if t105 = true then (some 0) else (some 15)))) = some r := h; clear h; replace H := Option.bind_eq_some_iff.mp H; obtain ⟨t102, A30, H⟩ := H; replace H : ((Qbt.f t102 a1_0 a1_1 a1_2 a1_3 a1_4 l1_5 a1_0 a1_1 a1_2).bind fun t105 => (if t105 = true then (some 0) else (some 15))) = some r := H; have A3 := Qaa.mk A30; clear A30; replace H := Option.bind_eq_some_iff.mp H; obtain ⟨t105, A40, H⟩ := H; replace H : (if t105 = true then (some 0) else (some 15)) = some r := H; have A4 := Qaa.mk A40; clear A40
 by_cases c5 : t105 = true
 ·subst c5
  have H1 : (some 0) = some r := by rw [if_pos rfl] at H; exact H
  clear H; have H := H1; clear H1; obtain rfl := Option.some.inj H; go_enter Tryz.func19, Tryz.ntmps19
  try go_wp2_with (first | ((with_reducible refine QaV (N := 3) rfl ?_); refine QaP ?hg (N := 3) ?hd (cs := #[.string a1_0, .string a1_1, .string a1_2, .int .i64 a1_3, .int .i64 a1_4, .slice A1_5 l1_5.length c1_5]) (t := 30) ?hr ?_; (case hd => rfl); (case hg => rfl); (case hr => first | (go_simp; done) | (go_simp; rfl)); intro gb101 hg w6 hbox hb; have BK101 := Qaa.mk (hbox); have GW101 := (gz_ hg : Qaa (w.heap.size ≤ gb101)); have GE101 := (gz_ hg : Qaa (w.heap.size ≤ gb101)); replace HB := Qaa.mk (Qac bw_ hb); clear hb hbox hg))
  replace BK101 := Qaa.mk (Qai BK101.out); replace HB := Qaa.mk (Qan HB.out); refine Qbv (n := 9) (S := fun w' => cgl_sssiiv w' gb101 a1_0 a1_1 a1_2 a1_3 a1_4 (.slice A1_5 l1_5.length c1_5)) (ds := []) #[ff,ff,ff,ff,ff,ff,ff,ff,ff] (by kernel_rfl) rfl rfl (cl_6 BK101.out) (fun hHeld => ?_); refine Qbc QaW.tab1 QaW.bits1 (fun HT_ HW_ => ?_)
  generalize w6.drew = w7 at BK101 HB hHeld ⊢
  refine pz 0 6 ?_; refine pz 3 9 ?_; refine pz 5 11 ?_; refine tk6 2 8 ?_; refine tk6 4 10 ?_; refine tk6 6 12 ?_; refine one_ (i := 1) (N := some 7) #[tt,tt,tt,tt,tt,tt,tt,ff,ff] rfl rfl (Qbr HT_.out (by kernel_rfl)) (by decide) (fun K hK => ?_); refine QbW Tryz.func18 (by kernel_rfl) rfl #[.slice A0 l0.length c0] (by rfl) rfl rfl (by (try simp only [List.map_toArray, List.map_cons, List.map_nil]); first | done | rfl | (simp only [List.length_drop, List.length_take]; rfl)) ?_
  with_reducible refine (Qat.calls k _ _ l0 t102 _ ?side1 ?side2 A3.out).mono ?_
  (case side1 => exact kd_ (Kd.QaR HR0.out HB.out))
  (case side2 => exact HC0.out)
  rintro e w8 ⟨v103, rfl, ho0, hb⟩; refine ⟨_, rfl, ?_⟩; have HO104 := Qaa.mk (Kd.Qba ho0 (QaJ bw_)); replace BK101 := Qaa.mk (Qad (g := gb101) bk_ hb); replace HB := Qaa.mk (Qac bw_ hb)
  (try clear hb)
  (try clear hb2)
  (try clear hk)
  (try clear hi)
  (try clear ho0)
  obtain ⟨Ao9, co9, eo9⟩ := Kd.Qa6 HO104.out
  (first | subst eo9 | (injection eo9 with f1_ f2_ f3_; have f4_ := f1_.symm; have f5_ := f3_.symm; clear f1_ f2_ f3_; subst f4_; subst f5_))
  refine hK.out _ _ (cl_6 BK101.out) (fun hHeld => ?_); clear hK K; refine Qbj (a' := ?_) ?_ ?_; rotate_left
  ·show Act.put _ (some 7) _ = _
   simp only [Act.put, put_, Qbh, Qbk]; rfl
  refine one_ (i := 7) (N := some 13) #[tt,tt,tt,tt,tt,tt,tt,tt,ff] rfl rfl (Qbr HT_.out (by kernel_rfl)) (by decide) (fun K hK => ?_); refine QbW Tryz.func34 (by kernel_rfl) rfl #[.slice Ao9 t102.length co9, .agg #[.string a1_0, .string a1_1, .string a1_2, .int .i64 a1_3, .int .i64 a1_4, .slice A1_5 l1_5.length c1_5], .agg #[.string a1_0, .string a1_1], .string a1_2] (by rfl) rfl rfl (by (try simp only [List.map_toArray, List.map_cons, List.map_nil]); first | done | rfl | (simp only [List.length_drop, List.length_take]; rfl)) ?_
  with_reducible refine (Qbt.calls _ _ t102 a1_0 a1_1 a1_2 a1_3 a1_4 _ _ l1_5 a1_0 a1_1 a1_2 true _ ?side1 ?side2 ?side3 ?side4 A4.out).mono ?_
  (case side1 => exact kd_ ((Kd.QaB HO104.out).2.2))
  (case side2 => exact (Kd.QaB HO104.out).2.1)
  (case side3 => exact kd_ (Kd.QaR HR1_5.out HB.out))
  (case side4 => exact HC1_5.out)
  rintro e w10 ⟨rfl, hb⟩; refine ⟨_, rfl, ?_⟩; replace HO104 := Qaa.mk (Kd.QaA (ro_ HO104) hb); replace BK101 := Qaa.mk (Qad (g := gb101) bk_ hb); replace HB := Qaa.mk (Qac bw_ hb)
  (try clear hb)
  (try clear hb2)
  (try clear hk)
  (try clear hi)
  refine hK.out _ _ (cl_6 BK101.out) (fun hHeld => ?_); clear hK K; refine Qbj (a' := ?_) ?_ ?_; rotate_left
  ·show Act.put _ (some 13) _ = _
   simp only [Act.put, put_, Qbh, Qbk]; rfl
  refine pz 8 5 ?_; refine QbS (Qbu HT_.out (by kernel_rfl)) ?_
  try go_wp2
  go_ret; exact ⟨by first | rfl | (simp [Qay, Qax] <;> rfl) | (simp [*, Qay, Qax] <;> rfl), bw_⟩
 ·replace c5 := Bool.eq_false_iff.mpr c5; subst c5
  have H1 : (some 15) = some r := by rw [if_neg (show ¬ (false = true) by decide)] at H; exact H
  clear H; have H := H1; clear H1; obtain rfl := Option.some.inj H; go_enter Tryz.func19, Tryz.ntmps19
  try go_wp2_with (first | ((with_reducible refine QaV (N := 3) rfl ?_); refine QaP ?hg (N := 3) ?hd (cs := #[.string a1_0, .string a1_1, .string a1_2, .int .i64 a1_3, .int .i64 a1_4, .slice A1_5 l1_5.length c1_5]) (t := 30) ?hr ?_; (case hd => rfl); (case hg => rfl); (case hr => first | (go_simp; done) | (go_simp; rfl)); intro gb101 hg w11 hbox hb; have BK101 := Qaa.mk (hbox); have GW101 := (gz_ hg : Qaa (w.heap.size ≤ gb101)); have GE101 := (gz_ hg : Qaa (w.heap.size ≤ gb101)); replace HB := Qaa.mk (Qac bw_ hb); clear hb hbox hg))
  replace BK101 := Qaa.mk (Qai BK101.out); replace HB := Qaa.mk (Qan HB.out); refine Qbv (n := 9) (S := fun w' => cgl_sssiiv w' gb101 a1_0 a1_1 a1_2 a1_3 a1_4 (.slice A1_5 l1_5.length c1_5)) (ds := []) #[ff,ff,ff,ff,ff,ff,ff,ff,ff] (by kernel_rfl) rfl rfl (cl_6 BK101.out) (fun hHeld => ?_); refine Qbc QaW.tab1 QaW.bits1 (fun HT_ HW_ => ?_)
  generalize w11.drew = w12 at BK101 HB hHeld ⊢
  refine pz 0 6 ?_; refine pz 3 9 ?_; refine pz 5 11 ?_; refine tk6 2 8 ?_; refine tk6 4 10 ?_; refine tk6 6 12 ?_; refine one_ (i := 1) (N := some 7) #[tt,tt,tt,tt,tt,tt,tt,ff,ff] rfl rfl (Qbr HT_.out (by kernel_rfl)) (by decide) (fun K hK => ?_); refine QbW Tryz.func18 (by kernel_rfl) rfl #[.slice A0 l0.length c0] (by rfl) rfl rfl (by (try simp only [List.map_toArray, List.map_cons, List.map_nil]); first | done | rfl | (simp only [List.length_drop, List.length_take]; rfl)) ?_
  with_reducible refine (Qat.calls k _ _ l0 t102 _ ?side1 ?side2 A3.out).mono ?_
  (case side1 => exact kd_ (Kd.QaR HR0.out HB.out))
  (case side2 => exact HC0.out)
  rintro e w13 ⟨v103, rfl, ho0, hb⟩; refine ⟨_, rfl, ?_⟩; have HO104 := Qaa.mk (Kd.Qba ho0 (QaJ bw_)); replace BK101 := Qaa.mk (Qad (g := gb101) bk_ hb); replace HB := Qaa.mk (Qac bw_ hb)
  (try clear hb)
  (try clear hb2)
  (try clear hk)
  (try clear hi)
  (try clear ho0)
  obtain ⟨Ao14, co14, eo14⟩ := Kd.Qa6 HO104.out
  (first | subst eo14 | (injection eo14 with f1_ f2_ f3_; have f4_ := f1_.symm; have f5_ := f3_.symm; clear f1_ f2_ f3_; subst f4_; subst f5_))
  refine hK.out _ _ (cl_6 BK101.out) (fun hHeld => ?_); clear hK K; refine Qbj (a' := ?_) ?_ ?_; rotate_left
  ·show Act.put _ (some 7) _ = _
   simp only [Act.put, put_, Qbh, Qbk]; rfl
  refine one_ (i := 7) (N := some 13) #[tt,tt,tt,tt,tt,tt,tt,tt,ff] rfl rfl (Qbr HT_.out (by kernel_rfl)) (by decide) (fun K hK => ?_); refine QbW Tryz.func34 (by kernel_rfl) rfl #[.slice Ao14 t102.length co14, .agg #[.string a1_0, .string a1_1, .string a1_2, .int .i64 a1_3, .int .i64 a1_4, .slice A1_5 l1_5.length c1_5], .agg #[.string a1_0, .string a1_1], .string a1_2] (by rfl) rfl rfl (by (try simp only [List.map_toArray, List.map_cons, List.map_nil]); first | done | rfl | (simp only [List.length_drop, List.length_take]; rfl)) ?_
  with_reducible refine (Qbt.calls _ _ t102 a1_0 a1_1 a1_2 a1_3 a1_4 _ _ l1_5 a1_0 a1_1 a1_2 false _ ?side1 ?side2 ?side3 ?side4 A4.out).mono ?_
  (case side1 => exact kd_ ((Kd.QaB HO104.out).2.2))
  (case side2 => exact (Kd.QaB HO104.out).2.1)
  (case side3 => exact kd_ (Kd.QaR HR1_5.out HB.out))
  (case side4 => exact HC1_5.out)
  rintro e w15 ⟨rfl, hb⟩; refine ⟨_, rfl, ?_⟩; replace HO104 := Qaa.mk (Kd.QaA (ro_ HO104) hb); replace BK101 := Qaa.mk (Qad (g := gb101) bk_ hb); replace HB := Qaa.mk (Qac bw_ hb)
  (try clear hb)
  (try clear hb2)
  (try clear hk)
  (try clear hi)
  refine hK.out _ _ (cl_6 BK101.out) (fun hHeld => ?_); clear hK K; refine Qbj (a' := ?_) ?_ ?_; rotate_left
  ·show Act.put _ (some 13) _ = _
   simp only [Act.put, put_, Qbh, Qbk]; rfl
  refine pz 8 5 ?_; refine QbS (Qbu HT_.out (by kernel_rfl)) ?_
  try go_wp2
  go_ret; exact ⟨by first | rfl | (simp [Qay, Qax] <;> rfl) | (simp [*, Qay, Qax] <;> rfl), bw_⟩
end
section
attribute [local go_sem high] eqA24
def credT (T : List (ID × Cred)) : List (ID × Value) := T.map fun x => (x.1, encCred x.2)
def tfind (T : List (ID × Cred)) (x : ID) : Option Cred := (T.find? fun y => decide (y.1 = x)).map (·.2)
theorem tfind_get (T : List (ID × Cred)) (x : ID) : tget (credT T) x = (tfind T x).map encCred := by
  unfold tget tfind credT
  induction T with
  | nil => rfl
  | cons y T ih =>
    rw [List.map_cons, List.find?_cons, List.find?_cons]; cases decide (y.1 = x)
    · exact ih
    · rfl
abbrev chkObj (b : Nat) : Obj := .cells #[.map (some b)] 74
theorem chkCells {W : World} {k b : Nat} (h : W.heap[k]? = some (chkObj b)) : W.cell? ⟨k, 0, none⟩ = some (.map (some b)) := (Qap h 0).trans rfl
def partF (F : Proof → Option Bool) (p : Proof) (role : Role) (who : ByteArray) : Option Bool := if p.f0 = role then (if p.f1 = who then F p else some false) else some false
def Checks (F : Proof → Option Bool) (T : List (ID × Cred)) : Prop := ∀ (w : World) (b : Nat) (p : Proof) (A : Option Addr) (c : Nat) (r : Bool), Tbl encID okID w b (credT T) → Kd.C kProof w A p.f3.length p.f3 → p.f3.length ≤ c → F p = some r →
  Calls Tryz.prog 37 #[.agg #[.map (some b)], encProof p A c] w fun e w' => e = .returned (.bool r) ∧ Below w.heap.size w w'
set_option maxRecDepth 100000 in
set_option maxHeartbeats 4000000 in
theorem part_calls {F : Proof → Option Bool} {T : List (ID × Cred)} (HC : Checks F T) (w : World) (b : Nat) (p : Proof) (A : Option Addr) (c : Nat) (role : Role) (who : ByteArray) (r : Bool) (hT : Tbl encID okID w b (credT T)) (hR : Kd.C kProof w A p.f3.length p.f3) (hc : p.f3.length ≤ c) (h : partF F p role who = some r) :
    Calls Tryz.prog 73 #[.agg #[.map (some b)], encProof p A c, .agg #[.string role.f0, .string role.f1], .string who] w fun e w' => e = .returned (.bool r) ∧ Below w.heap.size w w' := by
  unfold partF at h; go_enter Tryz.func73, Tryz.ntmps73
  go_upto_region 1 with fail
  change Code.wp _ _ _ _ (((w.alloc (chkObj b)).alloc (proofObj p A c)).alloc (roleObj2 role))
  generalize hW : ((w.alloc (chkObj b)).alloc (proofObj p A c)).alloc (roleObj2 role) = W
  obtain ⟨HB, BC, BP, BR⟩ := boxed3 hW; have k0 := chkCells BC; obtain ⟨p0, p1, p2, p3, p4, p5⟩ := proofCells BP; obtain ⟨r0, r1⟩ := roleCells2 BR; clear hW
  by_cases e1 : p.f0 = role
  · rw [if_pos e1] at h
    have hb1 := eqRole_t e1; clear e1
    by_cases e2 : p.f1 = who
    · rw [if_pos e2] at h
      have hb2 := str_t e2; clear e2
      go_wp2_with (go_at_call 37; refine (HC _ b p A c r (hT.below (by repeat (first | exact HB | apply Qar | apply Qan))) (Kd.QaR hR (by repeat (first | exact HB | apply Qar | apply Qan))) hc h).mono ?_; rintro e w3 ⟨rfl, hB3⟩; have HB3 := Qac HB hB3)
      go_ret; exact ⟨rfl, HB3⟩
    · rw [if_neg e2] at h
      have hb2 := str_f e2; obtain rfl := Option.some.inj h; clear e2; go_wp2; go_ret; exact ⟨rfl, HB⟩
  · rw [if_neg e1] at h
    have hb1 := Qb3 e1; obtain rfl := Option.some.inj h; clear e1; go_wp2; go_ret; exact ⟨rfl, HB⟩
def includeP (F : Proof → Option Bool) (c : Cred) (p : Proof) : Option Bool := if p.f3.length = 1 then partF F (pt p 0) c.f4 p.f1 else some false
set_option maxRecDepth 100000 in
set_option maxHeartbeats 4000000 in
theorem includeP_calls {F : Proof → Option Bool} {T : List (ID × Cred)} (HC : Checks F T) (w : World) (b : Nat) (x : Cred) (p : Proof) (A : Option Addr) (c : Nat) (r : Bool) (hT : Tbl encID okID w b (credT T)) (hR : Kd.C kProof w A p.f3.length p.f3) (hc : p.f3.length ≤ c) (h : includeP F x p = some r) :
    Calls Tryz.prog 54 #[.agg #[.map (some b)], encCred x, encProof p A c] w fun e w' => e = .returned (.bool r) ∧ Below w.heap.size w w' := by
  unfold includeP at h; unfold encCred; go_enter Tryz.func54, Tryz.ntmps54
  go_upto_region 1 with fail
  change Code.wp _ _ _ _ (((w.alloc (chkObj b)).alloc (credObj x)).alloc (proofObj p A c))
  generalize hW : ((w.alloc (chkObj b)).alloc (credObj x)).alloc (proofObj p A c) = W
  obtain ⟨HB, BC, BX, BP⟩ := boxed3 hW; have k0 := chkCells BC; obtain ⟨c0, c1, c2, c3, c4, c5, c6, c7, c8⟩ := credCells BX; obtain ⟨p0, p1, p2, p3, p4, p5⟩ := proofCells BP; clear hW
  by_cases e1 : p.f3.length = 1
  · rw [if_pos e1] at h
    have d1 : decide ((p.f3.length : Int) = 1) = true := decide_eq_true (by omega); have d2 : decide ((0 : Int) < (p.f3.length : Int)) = true := decide_eq_true (by omega); have d3 : decide (0 < p.f3.length) = true := decide_eq_true (by omega)
    have n1 : 0 < p.f3.length := by omega
    have n2 : (0 : Int) < (p.f3.length : Int) := by omega
    have d4 : (((p.f3.length : Nat) : Int) == 1) = true := beq_iff_eq.mpr (by omega); have d5 : (p.f3.length == 1) = true := beq_iff_eq.mpr (by omega); have hR2 := Kd.QaR hR HB; obtain ⟨ad, A5, cc5, rfl, ⟨q0, q1, q2, q3, q4, q5⟩, ql, qR⟩ := part0 hR2 (by omega); have HX := Lib.hid (part_calls HC); have HQ := Lib.hid qR; have HL := Lib.hid ql; have HH := Lib.hid h; have HTT := Lib.hid (hT.below HB); have g0 := Qau k0; have g1 := Qau p5; have g2 := Qau p2; have g3 := Qau c5; have g4 := Qau c6; have g5 := Qau q0; have g6 := Qau q1; have g7 := Qau q2; have g8 := Qau q3; have g9 := Qau q4; have g10 := Qau q5; clear hR hR2 qR ql h e1 k0 p0 p1 p2 p3 p4 p5 c0 c1 c2 c3 c4 c5 c6 c7 c8 q0 q1 q2 q3 q4 q5; refine QaT (by kernel_rfl) (by kernel_rfl) ?_
    repeat (go_big_quiet_step (first | (with_reducible refine Qbq (HX.out _ b (pt p 0) A5 cc5 x.f4 p.f1 r (HTT.out.below (BW.ok _)) (Kd.QaR HQ.out (BW.ok _)) HL.out HH.out))))
    refine wpQuiet_nil ?_; rintro _ ⟨u, rfl⟩; have HBu := Qac HB u.ok
    go_wp2_with fail
    go_ret; exact ⟨rfl, HBu⟩
  · rw [if_neg e1] at h
    obtain rfl := Option.some.inj h; have d1 : decide ((p.f3.length : Int) = 1) = false := decide_eq_false (by omega); have d4 : (((p.f3.length : Nat) : Int) == 1) = false := beq_eq_false_iff_ne.mpr (by omega); have d5 : (p.f3.length == 1) = false := beq_eq_false_iff_ne.mpr (by omega); have g0 := Qau k0; have g1 := Qau p5; clear k0 p0 p1 p2 p3 p4 p5 c0 c1 c2 c3 c4 c5 c6 c7 c8 hT hR; refine QaT (by kernel_rfl) (by kernel_rfl) ?_
    repeat (go_big_quiet_step (fail))
    refine wpQuiet_nil ?_; rintro _ ⟨u, rfl⟩; have HBu := Qac HB u.ok
    go_wp2_with fail
    go_ret; exact ⟨rfl, HBu⟩
def bothP (F : Proof → Option Bool) (c : Cred) (p : Proof) : Option Bool := if p.f3.length = 2 then (partF F (pt p 0) c.f4 p.f1).bind fun b => if b = true then partF F (pt p 1) c.f5 p.f1 else some false else some false
set_option maxRecDepth 100000 in
set_option maxHeartbeats 4000000 in
theorem bothP_calls {F : Proof → Option Bool} {T : List (ID × Cred)} (HC : Checks F T) (w : World) (b : Nat) (x : Cred) (p : Proof) (A : Option Addr) (c : Nat) (r : Bool) (hT : Tbl encID okID w b (credT T)) (hR : Kd.C kProof w A p.f3.length p.f3) (hc : p.f3.length ≤ c) (h : bothP F x p = some r) :
    Calls Tryz.prog 56 #[.agg #[.map (some b)], encCred x, encProof p A c] w fun e w' => e = .returned (.bool r) ∧ Below w.heap.size w w' := by
  unfold bothP at h; unfold encCred; go_enter Tryz.func56, Tryz.ntmps56
  go_upto_region 1 with fail
  change Code.wp _ _ _ _ (((w.alloc (chkObj b)).alloc (credObj x)).alloc (proofObj p A c))
  generalize hW : ((w.alloc (chkObj b)).alloc (credObj x)).alloc (proofObj p A c) = W
  obtain ⟨HB, BC, BX, BP⟩ := boxed3 hW; have g0 := Qau (chkCells BC); obtain ⟨p0, p1, p2, p3, p4, p5⟩ := proofCells BP; have g2 := Qau p2; clear hW p0 p1 p2 p3 p4
  by_cases e1 : p.f3.length = 2
  · rw [if_pos e1] at h
    have n1 : 0 < p.f3.length := by omega
    have n2 : (0 : Int) < (p.f3.length : Int) := by omega
    have n3 : 1 < p.f3.length := by omega
    have n4 : (1 : Int) < (p.f3.length : Int) := by omega
    have d4 : (((p.f3.length : Nat) : Int) == 2) = true := beq_iff_eq.mpr (by omega); have d5 : (p.f3.length == 2) = true := beq_iff_eq.mpr (by omega); obtain ⟨b1, h1, h⟩ := Option.bind_eq_some_iff.mp h; have hR2 := Kd.QaR hR HB; obtain ⟨ad, A5, cc5, rfl, ⟨q0, q1, q2, q3, q4, q5⟩, ql, qR⟩ := part0 hR2 (by omega); obtain ⟨B5, dd5, ⟨s0, s1, s2, s3, s4, s5⟩, ⟨s6, s7, s8, s9, s10⟩, sl, sR⟩ := part1 hR2 (by omega)
    obtain ⟨P0, hP0⟩ : ∃ P0, P0 = pt p 0 := ⟨_, rfl⟩
    obtain ⟨P1, hP1⟩ : ∃ P1, P1 = pt p 1 := ⟨_, rfl⟩
    rw [← hP0] at h1 q0 q1 q2 q3 q4 q5 ql qR; rw [← hP1] at h s0 s6 s7 s8 s9 s10 sl sR; clear hP0 hP1; have g1 := Qau p5; obtain ⟨c0, c1, c2, c3, c4, c5, c6, c7, c8⟩ := credCells BX; have g3 := Qau c5; have g4 := Qau c6; have g5 := Qau c7; have g6 := Qau c8; have t0 := Qau q0; have t1 := Qau q1; have t2 := Qau q2; have t3 := Qau q3; have t4 := Qau q4; have t5 := Qau q5; have v0 := Qau s0; have v6 := Qau s6; have v7 := Qau s7; have v8 := Qau s8; have v9 := Qau s9; have v10 := Qau s10; have HX := Lib.hid (part_calls HC); have HQ := Lib.hid qR; have HL := Lib.hid ql; have HS := Lib.hid sR; have HM := Lib.hid sl; have H0 := Lib.hid h1; have HTT := Lib.hid (hT.below HB); clear hR hR2 qR ql sR sl h1 e1 p5 c0 c1 c2 c3 c4 c5 c6 c7 c8 q0 q1 q2 q3 q4 q5 s0 s1 s2 s3 s4 s5 s6 s7 s8 s9 s10 hT; cases b1
    · rw [if_neg (by decide)] at h
      obtain rfl := Option.some.inj h; clear h; refine QaT (by kernel_rfl) (by kernel_rfl) ?_
      repeat (go_big_quiet_step (first | (with_reducible refine Qbq (HX.out _ b P0 A5 cc5 x.f4 p.f1 false (HTT.out.below (BW.ok _)) (Kd.QaR HQ.out (BW.ok _)) HL.out H0.out))))
      refine wpQuiet_nil ?_; rintro _ ⟨u, rfl⟩; have HBu := Qac HB u.ok
      go_wp2_with fail
      go_ret; exact ⟨rfl, HBu⟩
    · rw [if_pos rfl] at h
      have H1 := Lib.hid h; clear h; refine QaT (by kernel_rfl) (by kernel_rfl) ?_
      repeat (go_big_quiet_step (first | (with_reducible refine Qbq (HX.out _ b P0 A5 cc5 x.f4 p.f1 true (HTT.out.below (BW.ok _)) (Kd.QaR HQ.out (BW.ok _)) HL.out H0.out)) | (with_reducible refine Qbq (HX.out _ b P1 B5 dd5 x.f5 p.f1 r (HTT.out.below (BW.ok _)) (Kd.QaR HS.out (BW.ok _)) HM.out H1.out))))
      refine wpQuiet_nil ?_; rintro _ ⟨u, rfl⟩; have HBu := Qac HB u.ok
      go_wp2_with fail
      go_ret; exact ⟨rfl, HBu⟩
  · rw [if_neg e1] at h
    obtain rfl := Option.some.inj h; have d4 : (((p.f3.length : Nat) : Int) == 2) = false := beq_eq_false_iff_ne.mpr (by omega); have d5 : (p.f3.length == 2) = false := beq_eq_false_iff_ne.mpr (by omega); have g1 := Qau p5; clear p5 hT hR; refine QaT (by kernel_rfl) (by kernel_rfl) ?_
    repeat (go_big_quiet_step (fail))
    refine wpQuiet_nil ?_; rintro _ ⟨u, rfl⟩; have HBu := Qac HB u.ok
    go_wp2_with fail
    go_ret; exact ⟨rfl, HBu⟩
def linkP (F : Proof → Option Bool) (c : Cred) (p : Proof) : Option Bool := if p.f3.length = 2 then (Qa7.f 20 (pt p 0).f1).bind fun n => if n = 0 then some false else (partF F (pt p 0) (chkFirst c) (pt p 0).f1).bind fun b => if b = true then partF F (pt p 1) ⟨(pt p 0).f1, c.f5.f1⟩ p.f1 else some false else some false
set_option maxRecDepth 100000 in
set_option maxHeartbeats 4000000 in
theorem linkP_calls {F : Proof → Option Bool} {T : List (ID × Cred)} (HC : Checks F T) (w : World) (b : Nat) (x : Cred) (p : Proof) (A : Option Addr) (c : Nat) (r : Bool) (hT : Tbl encID okID w b (credT T)) (hR : Kd.C kProof w A p.f3.length p.f3) (hc : p.f3.length ≤ c) (h : linkP F x p = some r) :
    Calls Tryz.prog 55 #[.agg #[.map (some b)], encCred x, encProof p A c] w fun e w' => e = .returned (.bool r) ∧ Below w.heap.size w w' := by
  unfold linkP at h; unfold encCred; go_enter Tryz.func55, Tryz.ntmps55
  go_upto_region 1 with fail
  change Code.wp _ _ _ _ (((w.alloc (chkObj b)).alloc (credObj x)).alloc (proofObj p A c))
  generalize hW : ((w.alloc (chkObj b)).alloc (credObj x)).alloc (proofObj p A c) = W
  obtain ⟨HB, BC, BX, BP⟩ := boxed3 hW; obtain ⟨p0, p1, p2, p3, p4, p5⟩ := proofCells BP; clear hW
  by_cases e1 : p.f3.length = 2
  · rw [if_pos e1] at h
    have n1 : 0 < p.f3.length := by omega
    have n2 : (0 : Int) < (p.f3.length : Int) := by omega
    have n3 : 1 < p.f3.length := by omega
    have n4 : (1 : Int) < (p.f3.length : Int) := by omega
    have d4 : (((p.f3.length : Nat) : Int) != 2) = false := by simp; omega
    have d5 : (p.f3.length != 2) = false := by simp; omega
    obtain ⟨n, hn, h⟩ := Option.bind_eq_some_iff.mp h; have hR2 := Kd.QaR hR HB; obtain ⟨ad, A5, cc5, rfl, ⟨q0, q1, q2, q3, q4, q5⟩, ql, qR⟩ := part0 hR2 (by omega); obtain ⟨B5, dd5, ⟨s0, s1, s2, s3, s4, s5⟩, ⟨s6, s7, s8, s9, s10⟩, sl, sR⟩ := part1 hR2 (by omega)
    obtain ⟨P0, hP0⟩ : ∃ P0, P0 = pt p 0 := ⟨_, rfl⟩
    obtain ⟨P1, hP1⟩ : ∃ P1, P1 = pt p 1 := ⟨_, rfl⟩
    rw [← hP0] at h hn q0 q1 q2 q3 q4 q5 ql qR; rw [← hP1] at h s0 s6 s7 s8 s9 s10 sl sR; clear hP0 hP1 s1 s2 s3 s4 s5 e1 hR hR2; have HQ := Lib.hid qR; have HL := Lib.hid ql; have HS := Lib.hid sR; have HM := Lib.hid sl; have HTT := Lib.hid (hT.below HB); have HN := Lib.hid hn; have HH := Lib.hid h; clear qR ql sR sl hT hn h
    by_cases e2 : n = 0
    · have h := HH.out
      rw [if_pos e2] at h; obtain rfl := Option.some.inj h; have f1 : (n == 0) = true := beq_iff_eq.mpr e2; clear h HH e2
      go_wp2_with (go_at_call 74; refine (Qa7.calls 20 _ _ _ HN.out).mono ?_; rintro e w' ⟨rfl, ⟨nd, rfl⟩⟩)
      go_ret; exact ⟨rfl, by repeat (first | exact HB | apply Qar | apply Qan)⟩
    · have h := HH.out
      rw [if_neg e2] at h; have f1 : (n == 0) = false := beq_eq_false_iff_ne.mpr e2; clear HH e2; obtain ⟨b1, h1, h⟩ := Option.bind_eq_some_iff.mp h; have H0 := Lib.hid h1; have HH := Lib.hid h; clear h h1
      go_upto_region 4 with (go_at_call 74; refine (Qa7.calls 20 _ _ _ HN.out).mono ?_; rintro e w' ⟨rfl, ⟨nd, rfl⟩⟩)
      have HBd := Qar HB nd; have BCd := Qak BC nd; have BXd := Qak BX nd; have BPd := Qak BP nd; have HBn := Qar (Below.refl W.heap.size W) nd; have t0 := QaF HBn q0; have t1 := QaF HBn q1; have t2 := QaF HBn q2; have t3 := QaF HBn q3; have t4 := QaF HBn q4; have t5 := QaF HBn q5; have v0 := QaF HBn s0; have v6 := QaF HBn s6; have v7 := QaF HBn s7; have v8 := QaF HBn s8; have v9 := QaF HBn s9; have v10 := QaF HBn s10; have HQ := Lib.hid (Kd.QaR HQ.out HBn); have HS := Lib.hid (Kd.QaR HS.out HBn); have HTT := Lib.hid (HTT.out.below HBn); clear HB BC BX BP HBn q0 q1 q2 q3 q4 q5 s0 s6 s7 s8 s9 s10 p0 p1 p2 p3 p4 p5
      generalize W.drewN nd = V at HBd BCd BXd BPd t0 t1 t2 t3 t4 t5 v0 v6 v7 v8 v9 v10 HQ HS HTT ⊢
      go_cut [8] from 8 to 58 (fun v wc => ∃ k1, v = .pointer (some ⟨k1, 0, none⟩) ∧ wc.heap[k1]? = some (roleObj2 (chkFirst x)) ∧ Below V.heap.size V wc)
      case first =>
        obtain ⟨c0, c1, c2, c3, c4, c5, c6, c7, c8⟩ := credCells BXd; have c0a := QbZ c0 (.cells #[.string ⟨#[]⟩, .string ⟨#[]⟩] 24); have c6a := QbZ c6 (.cells #[.string ⟨#[]⟩, .string ⟨#[]⟩] 24)
        go_region_with (go_at_call 69; refine (QbF _ _).mono ?_; rintro e w' ⟨rfl, rfl⟩)
        all_goals
          go_wp2_with fail
          go_meet
          case rel => exact ⟨V.heap.size, rfl, Qai (Qa9 V _), Qan (Qal (Below.refl _ _) _)⟩
      case rest =>
        obtain ⟨k1, rfl, BF, HBF⟩ := hcut
        go_upto_region 5 with fail
        have HBw := Qac HBd HBF; have g0 := Qau (chkCells (Qad BCd HBF)); obtain ⟨c0, c1, c2, c3, c4, c5, c6, c7, c8⟩ := credCells (Qad BXd HBF); obtain ⟨p0, p1, p2, p3, p4, p5⟩ := proofCells (Qad BPd HBF); obtain ⟨r0, r1⟩ := roleCells2 BF; have g1 := Qau p5; have g2 := Qau p2; have g3 := Qau c8; have g4 := Qau r0; have g5 := Qau r1; have t0 := Qau (QaF HBF t0); have t1 := Qau (QaF HBF t1); have t2 := Qau (QaF HBF t2); have t3 := Qau (QaF HBF t3); have t4 := Qau (QaF HBF t4); have t5 := Qau (QaF HBF t5); have v0 := Qau (QaF HBF v0); have v6 := Qau (QaF HBF v6); have v7 := Qau (QaF HBF v7); have v8 := Qau (QaF HBF v8); have v9 := Qau (QaF HBF v9); have v10 := Qau (QaF HBF v10); have HX := Lib.hid (part_calls HC); have HQ := Lib.hid (Kd.QaR HQ.out HBF); have HS := Lib.hid (Kd.QaR HS.out HBF); have HTT := Lib.hid (HTT.out.below HBF); clear HBd BCd BXd BPd HBF BF c0 c1 c2 c3 c4 c5 c6 c7 c8 p0 p1 p2 p3 p4 p5 r0 r1 HN; cases b1
        · have h := HH.out
          rw [if_neg (by decide)] at h; obtain rfl := Option.some.inj h; clear h HH; refine QaT (by kernel_rfl) (by kernel_rfl) ?_
          repeat (go_big_quiet_step (first | (with_reducible refine Qbq (HX.out _ b P0 A5 cc5 (chkFirst x) P0.f1 false (HTT.out.below (BW.ok _)) (Kd.QaR HQ.out (BW.ok _)) HL.out H0.out))))
          refine wpQuiet_nil ?_; rintro _ ⟨u, rfl⟩; have HBu := Qac HBw u.ok
          go_wp2_with fail
          go_ret; exact ⟨rfl, HBu⟩
        · have h := HH.out
          rw [if_pos rfl] at h; have H1 := Lib.hid h; clear h HH; refine QaT (by kernel_rfl) (by kernel_rfl) ?_
          repeat (go_big_quiet_step (first | (with_reducible refine Qbq (HX.out _ b P0 A5 cc5 (chkFirst x) P0.f1 true (HTT.out.below (BW.ok _)) (Kd.QaR HQ.out (BW.ok _)) HL.out H0.out)) | (with_reducible refine Qbq (HX.out _ b P1 B5 dd5 ⟨P0.f1, x.f5.f1⟩ p.f1 r (HTT.out.below (BW.ok _)) (Kd.QaR HS.out (BW.ok _)) HM.out H1.out))))
          refine wpQuiet_nil ?_; rintro _ ⟨u, rfl⟩; have HBu := Qac HBw u.ok
          go_wp2_with fail
          go_ret; exact ⟨rfl, HBu⟩
  · rw [if_neg e1] at h
    obtain rfl := Option.some.inj h
    have d4 : (((p.f3.length : Nat) : Int) != 2) = true := by simp; omega
    have d5 : (p.f3.length != 2) = true := by simp; omega
    clear h e1; go_wp2; go_ret; exact ⟨rfl, HB⟩

def checkF (T : List (ID × Cred)) : Nat → Proof → Option Bool
  | 0, _ => none
  | k + 1, p => if okID p.f2 then (match tfind T p.f2 with
    | none => some false
    | some c => if credRole c = p.f0 then (if c.f2 = 1 then some (decide (c.f3 = p.f1) && decide (p.f3.length = 0)) else if c.f2 = 3 then linkP (checkF T k) c p else if c.f2 = 4 then bothP (checkF T k) c p else includeP (checkF T k) c p) else some false) else none
def zeroCred : Cred := ⟨⟨0, 0⟩, ⟨#[]⟩, 0, ⟨#[]⟩, ⟨⟨#[]⟩, ⟨#[]⟩⟩, ⟨⟨#[]⟩, ⟨#[]⟩⟩⟩
theorem zeroCred_run (w : World) : (zeroValue 46).run Tryz.prog w = .ok (encCred zeroCred) w := by kernel_rfl
set_option maxRecDepth 100000 in
set_option maxHeartbeats 4000000 in
theorem check_none {T : List (ID × Cred)} (w : World) (b : Nat) (p : Proof) (A : Option Addr) (c : Nat) (hT : Tbl encID okID w b (credT T)) (hok : okID p.f2) (hf : tfind T p.f2 = none) :
    Calls Tryz.prog 37 #[.agg #[.map (some b)], encProof p A c] w fun e w' => e = .returned (.bool false) ∧ Below w.heap.size w w' := by
  have hl := fun W hW => hT.look idKey Tryz.underlying72 zeroCred_run hok true W hW
  rw [tfind_get, hf] at hl; go_enter Tryz.func37, Tryz.ntmps37
  go_upto_region 1 with fail
  change Code.wp _ _ _ _ ((w.alloc (chkObj b)).alloc (proofObj p A c))
  generalize hW : (w.alloc (chkObj b)).alloc (proofObj p A c) = W
  obtain ⟨HB, BC, BP, hsz⟩ := boxed2 hW; have k0 := chkCells BC; obtain ⟨p0, p1, p2, p3, p4, p5⟩ := proofCells BP; have l1 := hl W (HB.block b hT.lt); simp only [Option.map_none, Option.getD_none, Option.isSome_none, if_true, encCred, encID, zeroCred] at l1; clear hW hl
  go_upto_region 2 with fail
  have HV := Qal HB (credObj zeroCred); change Code.wp _ _ _ _ (W.alloc (credObj zeroCred)); clear k0 p0 p1 p2 p3 p4 p5 l1 BC BP hT
  generalize W.alloc (credObj zeroCred) = V at HV ⊢
  refine QaT (by kernel_rfl) (by kernel_rfl) ?_
  repeat (go_big_quiet_step (fail))
  refine wpQuiet_nil ?_; rintro _ ⟨u, rfl⟩; have HBu := Qac HV u.ok
  go_wp2_with fail
  go_ret; exact ⟨rfl, HBu⟩
set_option maxRecDepth 100000 in
set_option maxHeartbeats 4000000 in
theorem check_some {T : List (ID × Cred)} {F : Proof → Option Bool} (HC : Checks F T) (w : World) (b : Nat) (p : Proof) (A : Option Addr) (c : Nat) (x : Cred) (r : Bool) (hT : Tbl encID okID w b (credT T)) (hR : Kd.C kProof w A p.f3.length p.f3) (hc : p.f3.length ≤ c) (hok : okID p.f2) (hf : tfind T p.f2 = some x)
    (h : (if credRole x = p.f0 then (if x.f2 = 1 then some (decide (x.f3 = p.f1) && decide (p.f3.length = 0)) else if x.f2 = 3 then linkP F x p else if x.f2 = 4 then bothP F x p else includeP F x p) else some false) = some r) :
    Calls Tryz.prog 37 #[.agg #[.map (some b)], encProof p A c] w fun e w' => e = .returned (.bool r) ∧ Below w.heap.size w w' := by
  have hl := fun W hW => hT.look idKey Tryz.underlying72 zeroCred_run hok true W hW
  rw [tfind_get, hf] at hl; go_enter Tryz.func37, Tryz.ntmps37
  go_upto_region 1 with fail
  change Code.wp _ _ _ _ ((w.alloc (chkObj b)).alloc (proofObj p A c))
  generalize hW : (w.alloc (chkObj b)).alloc (proofObj p A c) = W
  obtain ⟨HB, BC, BP, hsz⟩ := boxed2 hW; have k0 := chkCells BC; obtain ⟨p0, p1, p2, p3, p4, p5⟩ := proofCells BP; have l1 := hl W (HB.block b hT.lt); simp only [Option.map_some, Option.getD_some, Option.isSome_some, if_true, encCred, encID] at l1; clear hW hl
  go_upto_region 2 with fail
  have HV := Qal HB (credObj x); have BCv := Qah BC (credObj x); have BPv := Qah BP (credObj x); have BXv := Qa9 W (credObj x); rw [hsz] at BXv; change Code.wp _ _ _ _ (W.alloc (credObj x)); have HTT := Lib.hid (hT.below HV); have HR := Lib.hid (Kd.QaR hR HV); clear k0 p0 p1 p2 p3 p4 p5 l1 BC BP hT hR
  generalize hV : W.alloc (credObj x) = V at HV BCv BPv BXv HTT HR ⊢
  clear hV; obtain ⟨p0, p1, p2, p3, p4, p5⟩ := proofCells BPv; obtain ⟨c0, c1, c2, c3, c4, c5, c6, c7, c8⟩ := credCells BXv; have g0 := Qau p0; have g1 := Qau p1; have x0 := Qau c0; have x1 := Qau c1; have x2 := Qau c2; have x3 := Qau c3; have x4 := Qau c4; have x5 := Qau c5; have x6 := Qau c6; have x7 := Qau c7; have x8 := Qau c8; clear p0 p1 p2 p3 p4 p5 c0 c1 c2 c3 c4 c5 c6 c7 c8
  have HCR := fun W' => QbG x W'
  unfold encCred at HCR; have HCR := Lib.hid HCR
  by_cases e1 : credRole x = p.f0
  · rw [if_pos e1] at h
    have hb1 := eqRole_t e1; clear e1; refine QaT (by kernel_rfl) (by kernel_rfl) ?_
    repeat (go_big_quiet_step (with_reducible refine Qbq (HCR.out _)))
    refine wpQuiet_nil ?_; rintro _ ⟨u, rfl⟩; have HU := Qac HV u.ok; have BCu := Qad BCv u.ok; have BPu := Qad BPv u.ok; have BXu := Qad BXv u.ok; have HTu := Lib.hid (HTT.out.below u.ok); have HRu := Lib.hid (Kd.QaR HR.out u.ok); clear HTT HR HV BCv BPv BXv g0 g1 x0 x1 x2 x3 x4 x5 x6 x7 x8
    generalize u.now = U at HU BCu BPu BXu HTu HRu ⊢
    have k0 := chkCells BCu; obtain ⟨p0, p1, p2, p3, p4, p5⟩ := proofCells BPu; obtain ⟨c0, c1, c2, c3, c4, c5, c6, c7, c8⟩ := credCells BXu
    by_cases k1 : x.f2 = 1
    · rw [if_pos k1] at h
      have f1 : (x.f2 == 1) = true := beq_iff_eq.mpr k1; obtain hr := Option.some.inj h; clear h k1
      by_cases e2 : x.f3 = p.f1
      · have f2 := str_t e2
        rw [decide_eq_true e2, Bool.true_and] at hr; clear e2
        by_cases e3 : p.f3.length = 0
        · rw [decide_eq_true e3] at hr
          subst hr; have d4 : (((p.f3.length : Nat) : Int) == 0) = true := beq_iff_eq.mpr (by omega); have d5 : (p.f3.length == 0) = true := beq_iff_eq.mpr (by omega); have d6 : decide ((p.f3.length : Int) = 0) = true := decide_eq_true (by omega); clear e3; go_wp2; go_ret; exact ⟨rfl, HU⟩
        · rw [decide_eq_false e3] at hr
          subst hr; have d4 : (((p.f3.length : Nat) : Int) == 0) = false := beq_eq_false_iff_ne.mpr (by omega); have d5 : (p.f3.length == 0) = false := beq_eq_false_iff_ne.mpr (by omega); have d6 : decide ((p.f3.length : Int) = 0) = false := decide_eq_false (by omega); clear e3; go_wp2; go_ret; exact ⟨rfl, HU⟩
      · have f2 := str_f e2
        rw [decide_eq_false e2, Bool.false_and] at hr; subst hr; clear e2; go_wp2; go_ret; exact ⟨rfl, HU⟩
    · rw [if_neg k1] at h
      have f1 : (x.f2 == 1) = false := beq_eq_false_iff_ne.mpr k1; clear k1
      by_cases k3 : x.f2 = 3
      · rw [if_pos k3] at h
        have f3 : (x.f2 == 3) = true := beq_iff_eq.mpr k3; have HH := Lib.hid h; clear h k3
        go_wp2_with (go_at_call 55; refine (linkP_calls HC _ b x p A c r (HTu.out.below (by repeat (first | exact Below.refl _ _ | apply Qar | apply Qan))) (Kd.QaR HRu.out (by repeat (first | exact Below.refl _ _ | apply Qar | apply Qan))) hc HH.out).mono ?_; rintro e w3 ⟨rfl, hB3⟩; have HB3 := Qac HU hB3)
        go_ret; exact ⟨rfl, HB3⟩
      · rw [if_neg k3] at h
        have f3 : (x.f2 == 3) = false := beq_eq_false_iff_ne.mpr k3; clear k3
        by_cases k4 : x.f2 = 4
        · rw [if_pos k4] at h
          have f4 : (x.f2 == 4) = true := beq_iff_eq.mpr k4; have HH := Lib.hid h; clear h k4
          go_wp2_with (go_at_call 56; refine (bothP_calls HC _ b x p A c r (HTu.out.below (by repeat (first | exact Below.refl _ _ | apply Qar | apply Qan))) (Kd.QaR HRu.out (by repeat (first | exact Below.refl _ _ | apply Qar | apply Qan))) hc HH.out).mono ?_; rintro e w3 ⟨rfl, hB3⟩; have HB3 := Qac HU hB3)
          go_ret; exact ⟨rfl, HB3⟩
        · rw [if_neg k4] at h
          have f4 : (x.f2 == 4) = false := beq_eq_false_iff_ne.mpr k4; have HH := Lib.hid h; clear h k4
          go_wp2_with (go_at_call 54; refine (includeP_calls HC _ b x p A c r (HTu.out.below (by repeat (first | exact Below.refl _ _ | apply Qar | apply Qan))) (Kd.QaR HRu.out (by repeat (first | exact Below.refl _ _ | apply Qar | apply Qan))) hc HH.out).mono ?_; rintro e w3 ⟨rfl, hB3⟩; have HB3 := Qac HU hB3)
          go_ret; exact ⟨rfl, HB3⟩
  · rw [if_neg e1] at h
    obtain rfl := Option.some.inj h; have hb1 := Qb3 e1; clear e1; refine QaT (by kernel_rfl) (by kernel_rfl) ?_
    repeat (go_big_quiet_step (with_reducible refine Qbq (HCR.out _)))
    refine wpQuiet_nil ?_; rintro _ ⟨u, rfl⟩; have HBu := Qac HV u.ok
    go_wp2_with fail
    go_ret; exact ⟨rfl, HBu⟩
theorem check_calls (T : List (ID × Cred)) : ∀ k, Checks (checkF T k) T
  | 0 => fun w b p A c r hT hR hc h => by cases h
  | k + 1 => fun w b p A c r hT hR hc h => by
    rw [checkF] at h
    by_cases hok : okID p.f2
    · rw [if_pos hok] at h
      cases hf : tfind T p.f2 with
      | none =>
        rw [hf] at h; obtain rfl := Option.some.inj h; exact check_none w b p A c hT hok hf
      | some x =>
        rw [hf] at h; exact check_some (check_calls T k) w b p A c x r hT hR hc hok hf h
    · rw [if_neg hok] at h
      cases h
end
section
open Go.ChangeMaps (setBlock)
def tputC (T : List (ID × Cred)) (c : Cred) : List (ID × Cred) := if T.any (fun y => decide (y.1 = c.f0)) then T.map (fun y => if y.1 = c.f0 then (c.f0, c) else y) else T ++ [(c.f0, c)]
theorem credT_put (T : List (ID × Cred)) (c : Cred) : tput (credT T) c.f0 (encCred c) = credT (tputC T c) := by
  unfold tput tputC credT; rw [List.any_map]
  by_cases h : (T.any fun y => decide (y.1 = c.f0)) = true
  · have h' : (T.any ((fun y : ID × Value => decide (y.1 = c.f0)) ∘ fun x : ID × Cred => (x.1, encCred x.2))) = true := h
    rw [if_pos h, if_pos h', List.map_map, List.map_map]
    apply List.map_congr_left
    intro y _
    by_cases e : y.1 = c.f0
    · simp [e]
    · simp [e]
  · have h' : ¬ (T.any ((fun y : ID × Value => decide (y.1 = c.f0)) ∘ fun x : ID × Cred => (x.1, encCred x.2))) = true := h
    rw [if_neg h, if_neg h']; simp
def tableOf (cs : List Cred) : List (ID × Cred) := cs.foldl tputC []
theorem tputC_length (T : List (ID × Cred)) (c : Cred) : (tputC T c).length ≤ T.length + 1 := by
  unfold tputC
  split <;> simp
theorem tableOf_snoc (cs : List Cred) (c : Cred) : tableOf (cs ++ [c]) = tputC (tableOf cs) c := by
  unfold tableOf; rw [List.foldl_append]; rfl
theorem foldT_length : ∀ (cs : List Cred) (T : List (ID × Cred)), (cs.foldl tputC T).length ≤ T.length + cs.length
  | [], T => Nat.le_refl _
  | c :: cs, T => by
    rw [List.foldl_cons]; have := foldT_length cs (tputC T c); have := tputC_length T c; simp only [List.length_cons]; omega
theorem tableOf_length (cs : List Cred) : (tableOf cs).length ≤ cs.length := by
  have := foldT_length cs []
  simpa [tableOf] using this
theorem take_snoc {cs : List Cred} {i : Nat} (h : i < cs.length) : tableOf (cs.take (i + 1)) = tputC (tableOf (cs.take i)) cs[i] := by
  rw [List.take_add_one, List.getElem?_eq_getElem h]; exact tableOf_snoc _ _
abbrev goodIDs (cs : List Cred) : Prop := ∀ c ∈ cs, okID c.f0
set_option maxRecDepth 100000 in
set_option maxHeartbeats 4000000 in
theorem check_walk (w : World) (p : Proof) (A : Option Addr) (c : Nat) (A0 : Option Addr) (c0 : Nat) (l : List Cred) (cs : List Cred) (k : Nat) (r : Bool) (hr0 : Kd.C kCred w A0 l.length l) (hc0 : l.length ≤ c0) (hR : Kd.C kProof w A p.f3.length p.f3) (hc : p.f3.length ≤ c)
    (hcs : Qbx.f l = some cs) (hlen : cs.length ≤ 1000000) (hid : goodIDs cs) (h : checkF (tableOf cs) k p = some r) :
    Calls Tryz.prog 22 #[.slice A0 l.length c0, encProof p A c] w fun e w' => e = .returned (.int .i64 (if r = true then 0 else 15)) ∧ Below w.heap.size w w' := by
  have hmk := fun W => run_makeMap (P := Tryz.prog) 72 W
  have hb1 := Qal (Below.refl w.heap.size w) (proofObj p A c); have hb2 := Qal hb1 (.map #[] 0); have hb3 := Qal hb2 (chkObj (w.heap.size + 1))
  have hct := fun W hW => Qbx.calls A0 c0 l cs W (Kd.QaR hr0 hW) hc0 hcs
  go_enter Tryz.func22, Tryz.ntmps22
  go_upto_region 2 with fail
  change Code.wp _ _ _ _ (((w.alloc (proofObj p A c)).alloc (.map #[] 0)).alloc (chkObj (w.heap.size + 1)))
  obtain ⟨V, hV⟩ : ∃ V, V = ((w.alloc (proofObj p A c)).alloc (.map #[] 0)).alloc (chkObj (w.heap.size + 1)) := ⟨_, rfl⟩
  obtain ⟨HB, BP, BM, BK⟩ := boxed3 hV.symm
  have HT0 : Tbl encID okID V (w.heap.size + 1) (credT (tableOf [])) := by
    have h1 := Tbl.made encID okID (w.alloc (proofObj p A c))
    have e1 : (w.alloc (proofObj p A c)).heap.size = w.heap.size + 1 := by simp
    rw [e1] at h1; rw [hV]; exact h1.below (Qal (Below.refl _ _) _)
  have hsz : w.heap.size + 1 + 1 < V.heap.size := QbN BK; rw [← hV]; have hct1 := hct V HB; clear hmk hb1 hb2 hb3 hct hV BM hr0
  generalize hb : w.heap.size + 1 = b at *
  obtain ⟨g, hg⟩ : ∃ g, g = b + 1 := ⟨_, rfl⟩
  rw [← hg] at BK hsz ⊢; have HIDS := Lib.hid hid; have HF := Lib.hid h; have HL := Lib.hid hlen; have HRp := Lib.hid (Kd.QaR hR HB); have HBW := Lib.hid (show w.heap.size < b ∧ b < g ∧ g < V.heap.size ∧ w.heap.size < V.heap.size by omega); have HZ := Lib.hid hc; have HR0 := Lib.hid hR; clear hid h hlen hR hg hsz hb hc
  go_wp2_with (go_at_call 36; refine hct1.mono ?_; rintro e w3 ⟨v3, rfl, hR3, hB3⟩; obtain ⟨A3, cc3, rfl⟩ := Kd.Qa6 hR3)
  have HP3 := Qad BP hB3; have HK3 := Qad BK hB3; have HT3 := HT0.below hB3; have HW3 := Qac HB hB3; have HRq := Lib.hid (Kd.QaR HRp.out hB3); have HB3s := Lib.hid (hB3.size); clear BP BK HT0 HB HRp hct1 hB3
  go_loopg [7, 13] (cs.length + 1) (fun kq _ v13 w' => ∃ i : Nat, v13 = .int .i64 i ∧ Hid (kq = cs.length + 1 - i) ∧ Hid (i ≤ cs.length) ∧ Hid (Tbl encID okID w' b (credT (tableOf (cs.take i)))) ∧ Hid (w'.heap[w.heap.size]? = some (proofObj p A c)) ∧ Hid (w'.heap[g]? = some (chkObj b)) ∧ Hid (Kd.R kCred 46 w' V.heap.size (fun _ => True) (.slice A3 cs.length cc3) cs) ∧ Hid (Below w.heap.size w w') ∧ Hid (w3.heap.size ≤ w'.heap.size))
  case atStart => exact ⟨0, rfl, Lib.hid rfl, Lib.hid (Nat.zero_le _), Lib.hid HT3, Lib.hid HP3, Lib.hid HK3, Lib.hid hR3, Lib.hid HW3, Lib.hid (Nat.le_refl _)⟩
  case round =>
    clear HP3 HK3 HT3 HW3 hR3; obtain ⟨i, rfl, HKq, HI, HT, HP, HK, HR, HW, HS⟩ := hrel
    by_cases hi : i < cs.length
    · have d1 : decide ((i : Int) < (cs.length : Int)) = true := decide_eq_true (by omega)
      have d2 : decide (i < cs.length) = true := decide_eq_true hi; obtain ⟨ad, e, hx0, hx1, hx2, hx3, hx4, hx5, hx6, hx7, hx8⟩ := at_T46 (Kd.QaB HR.out).2.2 (i : Int) (by omega) (by omega); cases e
      obtain ⟨x, hx⟩ : ∃ x, x = cs[i] := ⟨_, rfl⟩
      have erd : Qam cs (i : Int) = x := by
        unfold Qam; rw [hx, Int.toNat_natCast, List.getD_eq_getElem?_getD, List.getElem?_eq_getElem hi]; rfl
      rw [erd, Int.toNat_natCast] at hx0 hx1 hx2 hx3 hx4 hx5 hx6 hx7 hx8; have p101 : (0 ≤ (i : Int)) = True := eq_true (by omega); have q101 : ((i : Int) < (cs.length : Int)) = True := eq_true (by omega); have hokx : okID x.f0 := HIDS.out x (by rw [hx]; exact List.getElem_mem hi); have hnext := take_snoc hi; rw [← hx] at hnext; have HN := Lib.hid hnext; have HIL := Lib.hid hi; have HOK := Lib.hid hokx; clear hx erd hnext hokx
      have wrapI : wrap64 ((i : Int) + 1) = ((i + 1 : Nat) : Int) := by unfold wrap64; have := HL.out; have := HIL.out; omega
      clear hi
      go_upto_region 5 with fail
      change Code.wp _ _ _ _ (wr.alloc (credObj x)); have HX := Qal (Below.refl wr.heap.size wr) (credObj x); have B3 := Qa9 wr (credObj x); have BK := Qad HK.out HX; have BP := Qad HP.out HX; have RX := Kd.QaA HR.out HX; have TX := HT.out.below HX; have WX := Qac HW.out HX; have hbX := HT.out.lt
      obtain ⟨O, hu, hT'⟩ := TX.store idKey Tryz.underlying72 HOK.out (encCred x) (by
        unfold credT; rw [List.length_map]; have h1 := tableOf_length (cs.take i); have h2 := List.length_take_le i cs; have h3 := HI.out; have h4 := HL.out
        have : maxLen = 9223372036854775807 := by decide
        omega)
      clear hx0 hx1 hx2 hx3 hx4 hx5 hx6 hx7 hx8; have SZX := Lib.hid (show (wr.alloc (credObj x)).heap.size = wr.heap.size + 1 by simp)
      generalize wr.alloc (credObj x) = X at HX B3 BK BP RX TX WX hu hT' SZX ⊢
      have hu1 := hu X rfl; unfold encID encCred at hu1; have k0 := chkCells BK; obtain ⟨c0, c1, c2, c3, c4, c5, c6, c7, c8⟩ := credCells B3; have HTX := Lib.hid TX; have HRX := Lib.hid RX; have HPX := Lib.hid BP; have HKX := Lib.hid BK; have HWX := Lib.hid WX; have HO := Lib.hid hT'; have HBX := Lib.hid hbX; clear hu BK BP B3 RX TX WX hT' hbX HX; go_wp2
      go_roundg (cs.length + 1 - (i + 1))
      case measure => have := HKq.out; have := HIL.out; omega
      case rel =>
        have hlt : b < X.heap.size := by have := HBX.out; have := SZX.out; omega
        obtain ⟨hs, ho, hbw⟩ := map_turned (Y := setBlock X b O) (B := w.heap.size) hlt rfl (by have := HBW.out; omega)
        have hne1 : w.heap.size ≠ b := by have := HBW.out; omega
        refine ⟨i + 1, by first | rfl | exact congrArg _ wrapI, Lib.hid rfl, Lib.hid HIL.out, Lib.hid ?_, Lib.hid ((ho _ hne1).trans HPX.out), Lib.hid ((ho _ (by have := HBW.out; omega)).trans HKX.out), Lib.hid (R_turned HRX.out HTX.out ho), Lib.hid (HWX.out.trans hbw), Lib.hid ?_⟩
        · rw [HN.out, ← credT_put]
          exact HO.out X hlt
        · rw [hs]
          have := HS.out; have := SZX.out; omega
    · have d1 : decide ((i : Int) < (cs.length : Int)) = false := decide_eq_false (by omega)
      have d2 : decide (i < cs.length) = false := decide_eq_false hi
      have hend : tableOf (cs.take i) = tableOf cs := by rw [List.take_of_length_le (by omega)]
      have hTe := HT.out; rw [hend] at hTe; have HTe := Lib.hid hTe; have k0 := chkCells HK.out; obtain ⟨p0, p1, p2, p3, p4, p5⟩ := proofCells HP.out; have HRe := Lib.hid (Kd.QaR HR0.out HW.out); have HWe := Lib.hid HW.out; clear hi hend hTe HT HP HK HR HW; cases r
      · go_wp2_with (go_at_call 37; refine (check_calls (tableOf cs) k _ b p A c false (HTe.out.below (by repeat (first | exact Below.refl _ _ | apply Qar | apply Qan))) (Kd.QaR HRe.out (by repeat (first | exact Below.refl _ _ | apply Qar | apply Qan))) HZ.out HF.out).mono ?_; rintro e w5 ⟨rfl, hB5⟩; have HB5 := Qac HWe.out hB5)
        go_ret; exact ⟨rfl, HB5⟩
      · go_wp2_with (go_at_call 37; refine (check_calls (tableOf cs) k _ b p A c true (HTe.out.below (by repeat (first | exact Below.refl _ _ | apply Qar | apply Qan))) (Kd.QaR HRe.out (by repeat (first | exact Below.refl _ _ | apply Qar | apply Qan))) HZ.out HF.out).mono ?_; rintro e w5 ⟨rfl, hB5⟩; have HB5 := Qac HWe.out hB5)
        go_ret; exact ⟨rfl, HB5⟩
end
section
attribute [local go_sem] QaO QaM Qa2 Qa1 QaD QaC QaN QaL
def Qbm.f (l0 : List (S46)) (a1_0 : ByteArray) (a1_1 : ByteArray) (a1_2 : ByteArray) (a1_3 : Int) (a1_4 : Int) (l1_5 : List (S30)) : Option Int := (Qbx.f l0).bind fun cs => if cs.length ≤ 1000000 ∧ goodIDs cs then (checkF (tableOf cs) 200 ⟨⟨a1_0, a1_1⟩, a1_2, ⟨a1_3, a1_4⟩, l1_5⟩).map (fun r => if r = true then 0 else 15) else none
set_option maxRecDepth 100000 in
theorem Qbm.calls (A0 : Option Addr) (c0 : Nat) (l0 : List (S46)) (a1_0 : ByteArray) (a1_1 : ByteArray) (a1_2 : ByteArray) (a1_3 : Int) (a1_4 : Int) (A1_5 : Option Addr) (c1_5 : Nat) (l1_5 : List (S30)) (r : Int) (w : World) (hr0 : Kd.C k46 w A0 l0.length l0) (hc0 : l0.length ≤ c0) (hr1_5 : Kd.C k30 w A1_5 l1_5.length l1_5) (hc1_5 : l1_5.length ≤ c1_5) (h : Qbm.f l0 a1_0 a1_1 a1_2 a1_3 a1_4 l1_5 = some r) :
    Calls Tryz.prog 22 #[.slice A0 l0.length c0, .agg #[.string a1_0, .string a1_1, .string a1_2, .int .i64 a1_3, .int .i64 a1_4, .slice A1_5 l1_5.length c1_5]] w fun e w' => e = .returned (.int .i64 r) ∧ Below w.heap.size w w' := by
  unfold Qbm.f at h; obtain ⟨cs, hcs, h⟩ := Option.bind_eq_some_iff.mp h
  by_cases hl : cs.length ≤ 1000000 ∧ goodIDs cs
  · rw [if_pos hl] at h
    obtain ⟨b, hb, rfl⟩ := Option.map_eq_some_iff.mp h; exact check_walk w ⟨⟨a1_0, a1_1⟩, a1_2, ⟨a1_3, a1_4⟩, l1_5⟩ A1_5 c1_5 A0 c0 l0 cs 200 b hr0 hc0 hr1_5 hc1_5 hcs hl.1 hl.2 hb
  · rw [if_neg hl] at h
    cases h
end
mutual
def ids : S30 → List ID
  | ⟨_, _, i, ps⟩ => i :: idsL ps
def idsL : List S30 → List ID
  | [] => []
  | p :: ps => ids p ++ idsL ps
end
mutual
def dep : S30 → Nat
  | ⟨_, _, _, ps⟩ => depL ps
def depL : List S30 → Nat
  | [] => 0
  | p :: ps => Nat.max (dep p + 1) (depL ps)
end
theorem ids_eq (p : Proof) : ids p = p.f2 :: idsL p.f3 := by cases p; rw [ids]
theorem dep_eq (p : Proof) : dep p = depL p.f3 := by cases p; rw [dep]
theorem idsL_nil : idsL [] = [] := by rw [idsL]
theorem idsL_cons (p : Proof) (ps : List Proof) : idsL (p :: ps) = ids p ++ idsL ps := by rw [idsL]
theorem depL_nil : depL [] = 0 := by rw [depL]
theorem depL_cons (p : Proof) (ps : List Proof) : depL (p :: ps) = Nat.max (dep p + 1) (depL ps) := by rw [depL]
theorem mem_idsL {q : Proof} {ps : List Proof} (h : q ∈ ps) : ∀ i ∈ ids q, i ∈ idsL ps := by
  induction ps with
  | nil => cases h
  | cons p ps ih =>
    intro i hi; rw [idsL_cons, List.mem_append]
    rcases List.mem_cons.mp h with rfl | h
    · exact .inl hi
    · exact .inr (ih h i hi)
theorem mem_ids {q p : Proof} (h : q ∈ p.f3) : ∀ i ∈ ids q, i ∈ ids p := fun i hi => by
  rw [ids_eq]; exact List.mem_cons_of_mem _ (mem_idsL h i hi)
theorem self_ids (p : Proof) : p.f2 ∈ ids p := by
  rw [ids_eq]; exact List.mem_cons_self ..
theorem dep_memL {q : Proof} {ps : List Proof} (h : q ∈ ps) : dep q < depL ps := by
  induction ps with
  | nil => cases h
  | cons p ps ih =>
    rw [depL_cons]
    rcases List.mem_cons.mp h with rfl | h
    · exact Nat.lt_of_lt_of_le (Nat.lt_succ_self _) (Nat.le_max_left _ _)
    · exact Nat.lt_of_lt_of_le (ih h) (Nat.le_max_right _ _)
theorem dep_mem {q p : Proof} (h : q ∈ p.f3) : dep q < dep p := by rw [dep_eq p]; exact dep_memL h
theorem rdP (ps : List Proof) (i : Nat) (h : i < ps.length) : rd_T30 ps (i : Int) = ps[i] := by
  unfold rd_T30; rw [Int.toNat_natCast, List.getD_eq_getElem?_getD, List.getElem?_eq_getElem h]; rfl
def okTree (p : Proof) : Prop := ∀ i ∈ ids p, okID i
theorem okTree.mem {p q : Proof} (h : okTree p) (hq : q ∈ p.f3) : okTree q := fun i hi => h i (mem_ids hq i hi)
theorem wrapN {i : Nat} (h : i < 1000000000000) : wrap64 ((i : Int) + 1) = ((i + 1 : Nat) : Int) := by unfold wrap64; omega
end Go.Proofs.YtbjjgaahdnfflaaGreatDoor.Pr
end
