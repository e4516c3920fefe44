/- The proof's own texts, joined: part 2. No conditions. -/
import Derived.Below
import Derived.Deep.Draws
import Derived.Deep.AppendLies
import Derived.Maps.AppendAt
import Derived.OwnWalk
import Derived.Laws.BytesArg
import Derived.Laws.MakeOwn
import Derived.Laws.OwnMore
import Derived.Deep.OwnRows
import Derived.Tactics
import Derived.Lib.ConvBytes
import Derived.Laws.Slices
import Derived.WalkKit
import Derived.KernelRfl
import Derived.RowKit3
import Derived.Deep.LoopGhost
import Derived.Deep.QuietTactic
import Derived.BigQuiet
import Derived.WideLaws
import Derived.Deep.DeepCutAuto
import Derived.Deep.CutBlock
import Derived.Deep.RegionHeld3
import Derived.Laws.Rows
import Derived.Lib.AppendStr
import Derived.ArgAppend
import Derived.Laws.IdiomCopy
import Derived.RowKit
import Derived.Test.YtpjddgmdgfjlfaaDoorProg
import Derived.OrdersHeld
import Derived.Laws.BitsLemmas
import Derived.WalkSpells
import Derived.Sort.Grow
import Derived.Maps.OwnSet
import Derived.Maps.RangeRun
import Derived.Maps.Range
import Derived.Carry
import Derived.Laws.StructEq
import Derived.DeepKeys4
import Derived.WalkLawsBesides
import Derived.Lib.Hide
import Derived.Deep.RegionWith
import Derived.RegionTactic
import Derived.ChangeAlike
import Derived.Deep.RegionLaw
import Derived.Lib.SmallJoins
import Derived.Lib.SlicesS
import Derived.Outline
import Derived.Sort.Walk0
import Derived.Laws.Strings
import Derived.Shelf.SlSortCmp.NoneTotal
import Derived.Shelf.SlSortCmp.WholeK
import Derived.Shelf.SlicesE.Clone
import Derived.Ground.SlsfProg
import Derived.Ground.SlgnProg
import Derived.Shelf.GgSortFunc.InsertionK
import Derived.Sort.LotA
import Derived.Test.YtpjddgmdgfjlfaaDoorPm0
import Derived.Test.YtpjddgmdgfjlfaaDoorPm1
section
namespace Go.Proofs.YtpjddgmdgfjlfaaDoor.Pr
open Go.RowKit Go.Proofs.YtpjddgmdgfjlfaaDoorW.PrintWords Go.Proofs.YtpjddgmdgfjlfaaDoorW.PrintLast Go.Proofs.YtpjddgmdgfjlfaaDoorW.PrintMore
attribute [local go_sem] QaF QaD max_two min_two QaB QaA QaE QaC
set_option linter.unusedVariables false
set_option linter.unusedSimpArgs false
attribute [local go_sem high] eqA33
attribute [local go_sem high] eqA47
def pairLess (a b : Pair) : Bool := roleLess a.f0 b.f0 || (decide (a.f0 = b.f0) && Op.bytesLess a.f1.toList b.f1.toList)
def pairCmp (x y : Pair) : Int := if x = y then 0 else if pairLess x y = true then -1 else 1
theorem eqPair_t {a b : Pair} (h : a = b) : ((a.f0.f0.toList == b.f0.f0.toList && (a.f0.f1.toList == b.f0.f1.toList)) && (a.f1.toList == b.f1.toList)) = true := by subst h; simp
theorem eqPair_f {a b : Pair} (h : ¬ a = b) : ((a.f0.f0.toList == b.f0.f0.toList && (a.f0.f1.toList == b.f0.f1.toList)) && (a.f1.toList == b.f1.toList)) = false := by
  rw [Bool.eq_false_iff]; intro e; rw [Bool.and_eq_true] at e; refine h (pair_ext ?_ ((Lib.bytes_beq_iff _ _).mp e.2))
  apply Decidable.byContradiction
  intro hr; rw [eqRole_f hr] at e; exact absurd e.1 (by decide)
theorem boxed_grow {W w3 : World} {x y : Pair} {q : Nat} {os : Array Obj} (h : w3 = Sort.grow (((W.alloc (pairObj x)).alloc (pairObj y)).drewN q) os) : w3.heap[W.heap.size]? = some (pairObj x) ∧ w3.heap[W.heap.size + 1]? = some (pairObj y) ∧ ∃ q os', w3 = Sort.grow (W.drewN q) os' := by
  have hs : ((W.alloc (pairObj x)).alloc (pairObj y)).heap.size = W.heap.size + 2 := by simp
  have hb : ∀ k, k < W.heap.size + 2 → w3.heap[k]? = ((W.alloc (pairObj x)).alloc (pairObj y)).heap[k]? := fun k hk => by
    rw [h]
    show (((W.alloc (pairObj x)).alloc (pairObj y)).heap ++ os)[k]? = _
    rw [Array.getElem?_append_left (by rw [hs]; exact hk)]
  refine ⟨(hb _ (by omega)).trans (Qag (blk_new W _) _), (hb _ (by omega)).trans ?_, q, #[pairObj x] ++ #[pairObj y] ++ os, ?_⟩
  · have := blk_new (W.alloc (pairObj x)) (pairObj y)
    simpa using this
  · rw [h, Sort.alloc_eq_grow, Sort.alloc_eq_grow, Sort.grow_grow]
    exact Sort.grow_grow (W.drewN q) _ os
set_option maxHeartbeats 2000000 in
theorem pairs1_calls (x y : Pair) (W : World) : Calls Tryd.prog 37 #[encPair x, encPair y] W fun e w' => e = .returned (.int .i64 (pairCmp x y)) ∧ ∃ q os', w' = Sort.grow (W.drewN q) os' := by
  unfold pairCmp pairLess encPair
  by_cases h : x = y
  · rw [if_pos h]
    have hb := eqPair_t h; clear h; go_enter Tryd.func37, Tryd.ntmps37; go_wp2; go_ret; exact ⟨rfl, 0, _, by rw [Sort.alloc_eq_grow, Sort.alloc_eq_grow, Sort.grow_grow]; rfl⟩
  · rw [if_neg h]
    have hb := eqPair_f h; clear h
    have HL := fun W' => less_calls x.f0 y.f0 W'
    obtain ⟨b2, h2, hr⟩ : ∃ b2 : Bool, (x.f0.f0.toList == y.f0.f0.toList && (x.f0.f1.toList == y.f0.f1.toList)) = b2 ∧ decide (x.f0 = y.f0) = b2 := by
      by_cases hr : x.f0 = y.f0
      · exact ⟨true, eqRole_t hr, decide_eq_true hr⟩
      · exact ⟨false, eqRole_f hr, decide_eq_false hr⟩
    rw [hr]; clear hr; unfold encRole at HL
    generalize roleLess x.f0 y.f0 = b1 at HL ⊢
    generalize h3 : Op.bytesLess x.f1.toList y.f1.toList = b3
    rw [h2] at hb
    cases b1 <;> cases b2 <;> cases b3 <;> simp only [Bool.true_and, Bool.false_and] at hb <;> (
      go_enter Tryd.func37, Tryd.ntmps37
      go_upto_region 1 with fail
      change Code.wp _ _ _ _ ((W.alloc (pairObj x)).alloc (pairObj y))
      go_wp2_with (go_at_call 38; refine (HL _).mono ?_; rintro e w3 ⟨rfl, q, os, hw3⟩; obtain ⟨BX, BY, hos⟩ := boxed_grow hw3; clear hw3; obtain ⟨x0, x1, x2⟩ := pairCells BX; obtain ⟨y0, y1, y2⟩ := pairCells BY; clear BX BY)
      go_ret
      exact ⟨rfl, hos⟩)
end Go.Proofs.YtpjddgmdgfjlfaaDoor.Pr
end
section
namespace Go.Proofs.YtpjddgmdgfjlfaaDoor.Pr
open Go.RowKit Go.Proofs.YtpjddgmdgfjlfaaDoorW.PrintWords Go.Proofs.YtpjddgmdgfjlfaaDoorW.PrintLast Go.Proofs.YtpjddgmdgfjlfaaDoorW.PrintMore
attribute [local go_sem] QaF QaD max_two min_two QaB QaA QaE QaC
set_option linter.unusedVariables false
set_option linter.unusedSimpArgs false
attribute [local go_sem high] eqA33
theorem look_known {w W : World} {B g b : Nat} {ok : Nat → Prop} {vc : Value} {creds : List Cred} {known waits : List Pair} (hS : SolverAt w B ok g b vc creds known waits) (hB : Below w.heap.size w W) (r : Role) (u : ByteArray) (hq : okPair ⟨r, u⟩) (n : Nat) :
    (Instr.lookup 49 (.map (some b)) (.agg #[.string r.f0, .string r.f1, .string u]) false).run Tryd.prog (W.drewN n) = .ok (.bool (decide ((⟨r, u⟩ : Pair) ∈ known))) (W.drewN n) := by
  obtain ⟨vw, hg, hBg, hBb, hvc, hT, hQ⟩ := hS; have hl := hT.look pairKey Tryd.underlying49 zeroBool hq false (W.drewN n) (hB.block b hT.lt); rw [knownT_get] at hl; refine hl.trans ?_
  by_cases hin : (⟨r, u⟩ : Pair) ∈ known
  · simp [hin]
  · simp [hin]
theorem SolverAt.cells {w : World} {B g b : Nat} {ok : Nat → Prop} {vc : Value} {creds : List Cred} {known waits : List Pair} (hS : SolverAt w B ok g b vc creds known waits) : w.cell? ⟨g, 0, none⟩ = some vc ∧ w.cell? ⟨g, 1, none⟩ = some (.map (some b)) := by
  obtain ⟨vw, hg, hBg, hBb, hvc, hT, hQ⟩ := hS; exact ⟨(Qam hg 0).trans rfl, (Qam hg 1).trans rfl⟩
def bothSecond (c : Cred) (p : Pair) (s : St) : Option St := if p.f0 = c.f5 then (if okPair ⟨c.f4, p.f1⟩ then (if (⟨c.f4, p.f1⟩ : Pair) ∈ s.known then s.learn ⟨credRole c, p.f1⟩ else some s) else none) else some s
def bothF (c : Cred) (p : Pair) (s : St) : Option St := if p.f0 = c.f4 then (if okPair ⟨c.f5, p.f1⟩ then (if (⟨c.f5, p.f1⟩ : Pair) ∈ s.known then s.learn ⟨credRole c, p.f1⟩ else bothSecond c p s) else none) else bothSecond c p s
set_option maxRecDepth 100000 in
set_option maxHeartbeats 2000000 in
theorem both_calls (w : World) (B g b : Nat) (ok : Nat → Prop) (vc : Value) (creds : List Cred) (s s' : St) (c : Cred) (p : Pair) (hS : SolverAt w B ok g b vc creds s.known s.waits) (h : bothF c p s = some s') :
    Calls Tryd.prog 35 #[.pointer (some ⟨g, 0, none⟩), encCred c, encPair p] w fun e w' => e = .returned (.tuple #[]) ∧ SolverAt w' B (fun k => ok k ∨ w.heap.size ≤ k) g b vc creds s'.known s'.waits ∧ Below B w w' ∧ Kept w w' ok := by
  unfold encPair encCred; go_enter Tryd.func35, Tryd.ntmps35
  go_upto_region 1 with fail
  change Code.wp _ _ _ _ ((w.alloc (credObj c)).alloc (pairObj p))
  generalize hW : (w.alloc (credObj c)).alloc (pairObj p) = W
  obtain ⟨HB, BC, BP⟩ := boxed hW; obtain ⟨c0, c1, c2, c3, c4, c5, c6, c7, c8⟩ := credCells BC; obtain ⟨p0, p1, p2⟩ := pairCells BP; have s1 := (hS.below HB).cells.2; have L := look_known hS HB; clear hW
  go_cut [41] from 6 to 48 (fun v wc => ∃ t : Bool, v = .bool t ∧ (∃ n, wc = W.drewN n) ∧ (if t then s.learn ⟨credRole c, p.f1⟩ else some s) = some s')
  case first =>
    unfold bothF bothSecond at h
    by_cases e1 : p.f0 = c.f4
    · rw [if_pos e1] at h
      have hb1 := eqRole_t e1; clear e1
      by_cases k1 : okPair ⟨c.f5, p.f1⟩
      · rw [if_pos k1] at h
        have l1 := fun n => L c.f5 p.f1 k1 n
        by_cases i1 : (⟨c.f5, p.f1⟩ : Pair) ∈ s.known
        · rw [if_pos i1] at h
          simp only [decide_eq_true i1] at l1
          go_quiet (fail)
          all_goals
            go_wp2_with fail
            go_meet
            case rel => exact ⟨true, rfl, ⟨_, rfl⟩, h⟩
        · rw [if_neg i1] at h
          simp only [decide_eq_false i1] at l1
          by_cases e2 : p.f0 = c.f5
          · rw [if_pos e2] at h
            have hb2 := eqRole_t e2; clear e2
            by_cases k2 : okPair ⟨c.f4, p.f1⟩
            · rw [if_pos k2] at h
              have l2 := fun n => L c.f4 p.f1 k2 n
              clear L k1 k2
              by_cases i2 : (⟨c.f4, p.f1⟩ : Pair) ∈ s.known
              · rw [if_pos i2] at h
                simp only [decide_eq_true i2] at l2
                go_quiet (fail)
                all_goals
                  go_wp2_with fail
                  go_meet
                  case rel => exact ⟨true, rfl, ⟨_, rfl⟩, h⟩
              · rw [if_neg i2] at h
                simp only [decide_eq_false i2] at l2
                go_quiet (fail)
                all_goals
                  go_wp2_with fail
                  go_meet
                  case rel => exact ⟨false, rfl, ⟨_, rfl⟩, h⟩
            · rw [if_neg k2] at h
              cases h
          · rw [if_neg e2] at h
            have hb2 := eqRole_f e2; clear e2
            go_quiet (fail)
            all_goals
              go_wp2_with fail
              go_meet
              case rel => exact ⟨false, rfl, ⟨_, rfl⟩, h⟩
      · rw [if_neg k1] at h
        cases h
    · rw [if_neg e1] at h
      have hb1 := eqRole_f e1; clear e1
      by_cases e2 : p.f0 = c.f5
      · rw [if_pos e2] at h
        have hb2 := eqRole_t e2; clear e2
        by_cases k2 : okPair ⟨c.f4, p.f1⟩
        · rw [if_pos k2] at h
          have l2 := fun n => L c.f4 p.f1 k2 n
          clear L k2
          by_cases i2 : (⟨c.f4, p.f1⟩ : Pair) ∈ s.known
          · rw [if_pos i2] at h
            simp only [decide_eq_true i2] at l2
            go_quiet (fail)
            all_goals
              go_wp2_with fail
              go_meet
              case rel => exact ⟨true, rfl, ⟨_, rfl⟩, h⟩
          · rw [if_neg i2] at h
            simp only [decide_eq_false i2] at l2
            go_quiet (fail)
            all_goals
              go_wp2_with fail
              go_meet
              case rel => exact ⟨false, rfl, ⟨_, rfl⟩, h⟩
        · rw [if_neg k2] at h
          cases h
      · rw [if_neg e2] at h
        have hb2 := eqRole_f e2; clear e2
        go_quiet (fail)
        all_goals
          go_wp2_with fail
          go_meet
          case rel => exact ⟨false, rfl, ⟨_, rfl⟩, h⟩
  case rest =>
    obtain ⟨t, rfl, ⟨n, rfl⟩, hh⟩ := hcut; clear L h s1; have HBn := Qaa HB n; have BCn := Qaf BC n; have BPn := Qaf BP n
    generalize W.drewN n = V at HBn BCn BPn ⊢
    clear c0 c1 c2 c3 c4 c5 c6 c7 c8 p0 p1 p2 BC BP HB; obtain ⟨c0, c1, c2, c3, c4, c5, c6, c7, c8⟩ := credCells BCn; obtain ⟨p0, p1, p2⟩ := pairCells BPn
    cases t with
    | true =>
      go_wp2
      go_region_with (first | (go_at_call 32; refine (credRole_calls c _).mono ?_; rintro e w3 ⟨rfl, hB3⟩; have HB3 : Below w.heap.size w w3 := Qal (by repeat (first | exact HBn | apply Qaa | apply Qad)) hB3; have p23 := pw_cell_below hB3 p2) | (go_at_call 31; refine (learn_calls _ B g b ok vc creds s s' ⟨credRole c, p.f1⟩ ?_ hh).mono ?_; exact hS.below HB3; rintro e w5 ⟨rfl, hS5, hB5, hK5⟩))
      all_goals
        go_wp2; go_end0; exact ⟨rfl, hS5.mono (fun k h => h.imp_right (fun h => Nat.le_trans HB3.size h)), (HB3.mono hS.base).trans hB5, (Kept.of_below HB3 ok).trans hK5 HB3.size (fun _ _ h => h)⟩
    | false =>
      obtain rfl := Option.some.inj hh; go_wp2; go_end0; exact ⟨rfl, (hS.below HBn).mono (fun _ h => .inl h), HBn.mono hS.base, Kept.of_below HBn ok⟩
end Go.Proofs.YtpjddgmdgfjlfaaDoor.Pr
end
section
namespace Go.Proofs.YtpjddgmdgfjlfaaDoor
theorem bl_irrefl : ∀ x : List UInt8, Op.bytesLess x x = false
  | [] => rfl
  | a :: x => by
    unfold Op.bytesLess; simp [bl_irrefl x]
theorem bl_trans : ∀ x y z : List UInt8, Op.bytesLess x y = true → Op.bytesLess y z = true → Op.bytesLess x z = true
  | [], [], z => fun h _ => by simp [Op.bytesLess] at h
  | [], b :: y, [] => fun _ h => by simp [Op.bytesLess] at h
  | [], b :: y, c :: z => fun _ _ => by simp [Op.bytesLess]
  | a :: x, [], z => fun h _ => by simp [Op.bytesLess] at h
  | a :: x, b :: y, [] => fun _ h => by simp [Op.bytesLess] at h
  | a :: x, b :: y, c :: z => fun h1 h2 => by
    have ih := bl_trans x y z; simp only [Op.bytesLess] at *; simp only [UInt8.lt_iff_toNat_lt, Bool.or_eq_true, decide_eq_true_eq, Bool.and_eq_true, beq_iff_eq] at *
    rcases h1 with h1 | ⟨rfl, h1⟩
    · rcases h2 with h2 | ⟨rfl, h2⟩
      · exact .inl (Nat.lt_trans h1 h2)
      · exact .inl h1
    · rcases h2 with h2 | ⟨rfl, h2⟩
      · exact .inl h2
      · exact .inr ⟨rfl, ih h1 h2⟩
theorem bl_total : ∀ x y : List UInt8, Op.bytesLess x y = false → Op.bytesLess y x = false → x = y
  | [], [] => fun _ _ => rfl
  | [], b :: y => fun h _ => by simp [Op.bytesLess] at h
  | a :: x, [] => fun _ h => by simp [Op.bytesLess] at h
  | a :: x, b :: y => fun h1 h2 => by
    have ih := bl_total x y; simp only [Op.bytesLess] at *; simp only [UInt8.lt_iff_toNat_lt, Bool.or_eq_false_iff, decide_eq_false_iff_not, Bool.and_eq_false_iff, beq_eq_false_iff_ne] at *; have e : a = b := UInt8.toNat_inj.mp (by omega); subst e; rw [ih (h1.2.resolve_left (fun h => h rfl)) (h2.2.resolve_left (fun h => h rfl))]
def sLess (a b : ByteArray) : Bool := Op.bytesLess a.toList b.toList
theorem sLess_irrefl (a : ByteArray) : sLess a a = false := bl_irrefl _
theorem sLess_trans {a b c : ByteArray} (h : sLess a b = true) (h' : sLess b c = true) : sLess a c = true := bl_trans _ _ _ h h'
theorem sLess_total {a b : ByteArray} (h : sLess a b = false) (h' : sLess b a = false) : a = b := by
  have := bl_total _ _ h h'; exact (Lib.bytes_beq_iff a b).mp (by rw [beq_iff_eq]; exact this)
end Go.Proofs.YtpjddgmdgfjlfaaDoor
end
section
namespace Go.Proofs.YtpjddgmdgfjlfaaDoor.Pr
open Go.RowKit Go.Proofs.YtpjddgmdgfjlfaaDoorW.PrintWords Go.Proofs.YtpjddgmdgfjlfaaDoorW.PrintLast Go.Proofs.YtpjddgmdgfjlfaaDoorW.PrintMore
attribute [local go_sem] QaF QaD max_two min_two QaB QaA QaE QaC
set_option linter.unusedVariables false
set_option linter.unusedSimpArgs false
theorem roleLess_iff (a b : Role) : roleLess a b = true ↔ sLess a.f0 b.f0 = true ∨ (a.f0 = b.f0 ∧ sLess a.f1 b.f1 = true) := by
  unfold roleLess
  by_cases h : a = b
  · subst h
    rw [if_pos rfl, sLess_irrefl, sLess_irrefl]; simp
  · rw [if_neg h]
    show (sLess _ _ || (_ && sLess _ _)) = true ↔ _
    rw [Bool.or_eq_true, Bool.and_eq_true, Lib.bytes_beq_iff]
theorem pairLess_iff (a b : Pair) : pairLess a b = true ↔ roleLess a.f0 b.f0 = true ∨ (a.f0 = b.f0 ∧ sLess a.f1 b.f1 = true) := by
  unfold pairLess
  show (roleLess _ _ || (_ && sLess _ _)) = true ↔ _
  rw [Bool.or_eq_true, Bool.and_eq_true, decide_eq_true_eq]
theorem roleLess_irrefl (a : Role) : ¬ roleLess a a = true := by unfold roleLess; simp
theorem roleLess_trans {a b c : Role} (h1 : roleLess a b = true) (h2 : roleLess b c = true) : roleLess a c = true := by
  rw [roleLess_iff] at *
  rcases h1 with h1 | ⟨e1, h1⟩
  · rcases h2 with h2 | ⟨e2, h2⟩
    · exact .inl (sLess_trans h1 h2)
    · exact .inl (e2 ▸ h1)
  · rcases h2 with h2 | ⟨e2, h2⟩
    · exact .inl (e1 ▸ h2)
    · exact .inr ⟨e1.trans e2, sLess_trans h1 h2⟩
theorem roleLess_total {a b : Role} (h1 : ¬ roleLess a b = true) (h2 : ¬ roleLess b a = true) : a = b := by
  rw [roleLess_iff, not_or, not_and, Bool.not_eq_true, Bool.not_eq_true] at *; have e := sLess_total h1.1 h2.1; exact role_ext e (sLess_total (h1.2 e) (h2.2 e.symm))
theorem pairLess_irrefl (a : Pair) : ¬ pairLess a a = true := by
  rw [pairLess_iff, sLess_irrefl]; simp [roleLess_irrefl]
theorem pairLess_trans {a b c : Pair} (h1 : pairLess a b = true) (h2 : pairLess b c = true) : pairLess a c = true := by
  rw [pairLess_iff] at *
  rcases h1 with h1 | ⟨e1, h1⟩
  · rcases h2 with h2 | ⟨e2, h2⟩
    · exact .inl (roleLess_trans h1 h2)
    · exact .inl (e2 ▸ h1)
  · rcases h2 with h2 | ⟨e2, h2⟩
    · exact .inl (e1 ▸ h2)
    · exact .inr ⟨e1.trans e2, sLess_trans h1 h2⟩
theorem pairLess_total {a b : Pair} (h1 : ¬ pairLess a b = true) (h2 : ¬ pairLess b a = true) : a = b := by
  rw [pairLess_iff, not_or, not_and, Bool.not_eq_true] at *; have e := roleLess_total (by simpa using h1.1) (by simpa using h2.1); exact pair_ext e (sLess_total (by simpa using h1.2 e) (by simpa using h2.2 e.symm))
theorem pairCmp_lt (x y : Pair) : Go.Proofs.ltOf pairCmp x y = pairLess x y := by
  unfold Go.Proofs.ltOf pairCmp
  by_cases h : x = y
  · subst h
    rw [if_pos rfl]; have := pairLess_irrefl x
    simp_all
  · rw [if_neg h]
    by_cases h2 : pairLess x y = true
    · rw [if_pos h2, h2]
      rfl
    · rw [if_neg h2]
      simp_all
theorem pairSWO : Go.Sort.SWO (Go.Proofs.ltOf pairCmp) where
  irrefl x := by rw [pairCmp_lt]; have := pairLess_irrefl x; simp_all
  trans x y z h1 h2 := by rw [pairCmp_lt] at *; exact pairLess_trans h1 h2
  ntrans x y z h1 h2 := by
    rw [pairCmp_lt] at *; rw [Bool.eq_false_iff] at *; intro h3
    by_cases h4 : pairLess y x = true
    · exact h2 (pairLess_trans h4 h3)
    · rw [pairLess_total h1 h4] at h3
      exact h2 h3
def sortPairs (l : List Pair) : List Pair := l.mergeSort fun x y => !(Go.Proofs.ltOf pairCmp) y x
def encPairL (p : Pair) : List Value := [.string p.f0.f0, .string p.f0.f1, .string p.f1]
instance : Inhabited Pair := ⟨⟨⟨⟨#[]⟩, ⟨#[]⟩⟩, ⟨#[]⟩⟩⟩
theorem flatPair : Flat kPair encPairL where
  opens h := k47_openM h
  shuts w base ok x := k47_mkM w base ok x
  len _ := rfl
theorem isAggPair (w : World) : (isAgg 47).run Tryd.prog w = .ok true w := by kernel_rfl
theorem sizeOfPair (w : World) : (Go.sizeOf 47).run Tryd.prog w = .ok 3 w := by kernel_rfl
theorem sort_calls (w : World) (B : Nat) (v : Value) (l : List Pair) (hR : Kd.R kPair 47 w B (fun _ => True) v l) (hB : B ≤ w.heap.size) (hl : l.length < 4611686018427387904) : Calls Tryd.prog 36 #[v, .func (.func 37) #[] #[]] w fun e w' =>
    e = .returned (.tuple #[]) ∧ Kd.R kPair 47 w' B (fun _ => True) v (sortPairs l) ∧ Below B w w' := by
  obtain ⟨A, c, rfl⟩ := Kd.R_slice hR
  cases A with
  | none =>
    have hl : l = [] := by
      obtain ⟨_, inner, ⟨_, ho⟩, hr⟩ := hR
      rcases ho with ⟨_, h0⟩ | ⟨g', cap', cur, hv, _⟩
      · exact List.eq_nil_of_length_eq_zero h0
      · cases hv
    subst hl; refine (AnyF.slices_SortFunc_none Tryd.sortPair none c (.func (.func 37) #[] #[]) w).mono ?_; rintro e w' ⟨rfl, rfl⟩; exact ⟨rfl, by simpa [sortPairs] using hR, Below.refl _ _⟩
  | some a =>
    obtain ⟨g, off, fr⟩ := a
    have hfr : fr = none := by
      obtain ⟨_, inner, ⟨_, ho⟩, hr⟩ := hR
      rcases ho with ⟨h0, _⟩ | ⟨g', cap', cur, hv, _⟩
      · cases h0
      · simp only [Value.slice.injEq, Option.some.injEq, Addr.mk.injEq] at hv
        exact hv.1.2.2
    subst hfr; obtain ⟨rfl, _, hg, hH, hlt, hmax⟩ := holds_of_R flatPair hR; have eg : ∀ args w, (callFunc 37 args).run Tryd.prog w = .ok (.enter 37 args) w := enters_of Tryd.func37 (by kernel_rfl) rfl
    have hc : CmpLays Tryd.prog 37 #[] encPairL 3 pairCmp g 0 l.toArray.size w := fun _ _ _ _ x y => pairs1_calls x y _
    have hT : ∀ x y, (ltOf pairCmp) x y = false → (ltOf pairCmp) y x = false → x = y := fun x y h1 h2 => by
      rw [pairCmp_lt] at *; exact pairLess_total (by simp_all) (by simp_all)
    have hsz : l.toArray.size < 4611686018427387904 := by simpa using hl
    refine (AnyQ.slices_SortFunc_total Tryd.sortPair 3 isAggPair sizeOfPair encPairL (fun _ => rfl) (fun x v hv => by simp [encPairL] at hv; rcases hv with rfl | rfl | rfl <;> rfl) pairCmp pairSWO 37 #[] g 0 c l.toArray w eg hc hH hlt hsz hT).mono ?_; rintro e w' ⟨rfl, n, os, rfl⟩; exact ⟨rfl, R_of_sorted flatPair hR n (sortPairs l) os (List.length_mergeSort _), sorted_below encPairL w g 3 n (sortPairs l) os hB hg⟩
theorem sortPairs_length (l : List Pair) : (sortPairs l).length = l.length := List.length_mergeSort _
theorem R_keep {α : Type} {d : Kd α} {e : Nat} {w w1 : World} {base : Nat} {ok : Nat → Prop} {v : Value} {xs : List α} (h : Kd.R d e w base ok v xs) {row : Nat} (hg : w.grownBy w1 (some row)) (hrow : ∀ c t, w.heap[row]? ≠ some (.cells c t (0, 0))) : Kd.R d e w1 base ok v xs := by
  refine Kd.R_mono (Kd.R_move (Kd.R_bound h) (fun k hk => ?_)) (fun _ hk => hk.1); obtain ⟨_, _, hlt, q, _, cells, hc⟩ := hk; refine hg.block k hlt (fun e => ?_)
  injection e with e
  subst e; exact hrow _ _ hc
theorem rng_cells {w : World} {b r : Nat} {l left : List (Pair × Value)} (h : Rng encPair okPair w b r l left) : (∀ c t, w.heap[r]? ≠ some (.cells c t (0, 0))) ∧ (∀ c t, w.heap[b]? ≠ some (.cells c t (0, 0))) := by
  obtain ⟨es, clock, since, seen, c0, hb, hl, ho, hs, hm, hr, _⟩ := h; exact ⟨fun c t e => by (rw [hr] at e; cases e), fun c t e => by (rw [hb] at e; cases e)⟩
theorem knownT_split {left : List Pair} {a c : List (Pair × Value)} {x : Pair × Value} (h : knownT left = a ++ x :: c) : ∃ l1 p l2, left = l1 ++ p :: l2 ∧ a = knownT l1 ∧ c = knownT l2 ∧ x = (p, .bool true) := by
  unfold knownT at *; obtain ⟨l1, l2', rfl, h1, h2⟩ := List.map_eq_append_iff.mp h; obtain ⟨p, l2, rfl, h3, h4⟩ := List.map_eq_cons_iff.mp h2; exact ⟨l1, p, l2, rfl, h1.symm, h4.symm, h3.symm⟩
theorem sortPairs_perm {l l' : List Pair} (h : l.Perm l') : sortPairs l = sortPairs l' := by
  have hsort : ∀ x : List Pair, (sortPairs x).Pairwise (fun a b => (!(ltOf pairCmp) b a) = true) := fun x => by
    unfold sortPairs; refine List.pairwise_mergeSort (le := fun x y => !(ltOf pairCmp) y x) ?_ ?_ x
    · intro a b c h1 h2
      simp only [Bool.not_eq_true'] at *; exact pairSWO.ntrans _ _ _ h2 h1
    · intro a b
      rw [pairCmp_lt, pairCmp_lt]
      by_cases h1 : pairLess b a = true
      · have : ¬ pairLess a b = true := fun h2 => pairLess_irrefl _ (pairLess_trans h1 h2)
        simp_all
      · simp_all
  refine List.Perm.eq_of_pairwise (le := fun a b => (!(ltOf pairCmp) b a) = true) ?_ (hsort l) (hsort l') (((List.mergeSort_perm l _).trans h).trans (List.mergeSort_perm l' _).symm); intro a b _ _ h1 h2; simp only [pairCmp_lt] at h1 h2; exact pairLess_total (by simp_all) (by simp_all)
set_option maxRecDepth 100000 in
set_option maxHeartbeats 4000000 in
theorem pairs_calls (w : World) (B g b : Nat) (ok : Nat → Prop) (vc : Value) (creds : List Cred) (s : St) (hS : SolverAt w B ok g b vc creds s.known s.waits) (hroom : s.known.length ≤ 1000000) :
    Calls Tryd.prog 23 #[.pointer (some ⟨g, 0, none⟩)] w fun e w' => ∃ v, e = .returned v ∧ Kd.R kPair 47 w' w.heap.size (fun _ => True) v (sortPairs s.known) ∧ Below w.heap.size w w' := by
  have s1 := (SolverAt.cells hS).2; have _ := @look_known; obtain ⟨vw, hg, hBg, hBb, hvc, hT, hQ⟩ := hS; obtain ⟨O, hrun, hrng⟩ := hT.range (P := Tryd.prog) Tryd.underlying49; have hrun1 := hrun w rfl; have HR0 := Lib.hid (hrng w rfl); clear hrun hrng hT; clear hg hBg hBb hvc hQ; go_enter Tryd.func23, Tryd.ntmps23; go_wp2
  go_loopg [3, 4] (s.known.length + 1) (fun kq v3 _ w' => ∃ dn left : List Pair, Hid (kq = left.length + 1) ∧ Hid (Kd.R kPair 47 w' w.heap.size (fun _ => True) v3 dn) ∧ Hid (Rng encPair okPair w' b w.heap.size (knownT s.known) (knownT left)) ∧ Hid ((dn ++ left).Perm s.known) ∧ Hid (Below w.heap.size w w'))
  case atStart => exact ⟨[], s.known, Lib.hid rfl, Lib.hid (Kd.R_nil _ _ _ _ _), Lib.hid HR0.out, Lib.hid (List.Perm.refl _), Lib.hid (Qac (Below.refl _ _) _)⟩
  case round =>
    clear hrun1 HR0; obtain ⟨dn, left, HK, HO, HRng, HP, HB⟩ := hrel
    rcases HRng.out.next (P := Tryd.prog) 0 with ⟨hl, hnx⟩ | ⟨a, x, c, w1, hsp, hok, hnx, hrng1, hgr, hsz, hent⟩
    · have hl' : left = [] := by simpa [knownT] using hl
      have HE := Lib.hid hl'; clear hl hl'
      go_wp2_with (go_at_call 36; refine (sort_calls _ w.heap.size _ dn HO.out HB.out.size (by have := HP.out.length_eq; simp at this; omega)).mono ?_; rintro e w3 ⟨rfl, hR3, hB3⟩)
      go_ret; have hp := HP.out; rw [HE.out, List.append_nil] at hp; rw [sortPairs_perm hp] at hR3; exact ⟨_, rfl, hR3, HB.out.trans hB3⟩
    · obtain ⟨l1, p, l2, e0, rfl, rfl, rfl⟩ := knownT_split hsp
      have HE := Lib.hid e0; have HC := rng_cells HRng.out; have R1 := Lib.hid (R_keep HO.out hgr HC.1); have B1 := Lib.hid (HB.out.grown hgr HB.out.size (fun k hk => by injection hk with hk; omega)); have N1 := Lib.hid hrng1; have hent1 := hent w1 rfl rfl; have LM := Lib.hid (show dn.length < 1000001 by have := HP.out.length_eq; simp at this; omega); unfold encPair at hnx hent1; clear hsp e0 hok hrng1 hgr hsz hent HC HO HRng HB
      go_wp2_with ((with_reducible refine gate_builtin (b := .append) (xs := #[.tmp 14, .tmp 16]) rfl ?_); at_builtin; refine Kd.R_append kPair (w0 := w) w.heap.size rfl (.tmp 14) (.tmp 16) 27 47 (.agg #[(.string ⟨#[]⟩), (.string ⟨#[]⟩), (.string ⟨#[]⟩)]) 48 rfl Tryd.underlying27 infoPair rfl (by decide) (by omega) _ dn p [.string p.f0.f0, .string p.f0.f1, .string p.f1] (fun _ => True) (fun _ => False) rfl ?aX ?aP (fun _ hk => hk.elim) (fun _ _ => trivial) ?aO ?aB ?aS ?aL ?_; (case aX => (show Value.slice (some ⟨w1.heap.size + 1, 0, none⟩) 1 1 = _; simp)); (case aP => exact k47_mkM _ _ _ p); (case aB => exact (Qac B1.out _)); (case aO => exact (Kd.Qan R1.out _)); (case aS => exact (Qaq (Qac B1.out _))); (case aL => have := LM.out; omega); intro v2 w2 ho hb hg hat)
      have hne := rng_cells N1.out
      have hrow : ∀ i, (∀ c t, w1.heap[i]? ≠ some (.cells c t (0, 0))) → some i ≠ u3.ownBlock := fun i hi e => by
        obtain ⟨cells, hc⟩ := Kd.R_typed R1.out i e.symm; exact hi _ _ hc
      have hnew := (N1.out.below (Qac (Below.refl w1.heap.size w1) _)).grown hg (hrow b hne.2) (hrow _ hne.1); have HG := Lib.hid hnew; clear hnew hnx hent1
      go_roundg ((l1 ++ l2).length + 1)
      case measure =>
        have e1 := HK.out; rw [HE.out] at e1; simp at e1 ⊢; omega
      case rel =>
        refine ⟨dn ++ [p], l1 ++ l2, Lib.hid rfl, Lib.hid ho, Lib.hid ?_, Lib.hid ?_, Lib.hid hb⟩
        · have := HG.out
          rw [show knownT (l1 ++ l2) = knownT l1 ++ knownT l2 from List.map_append]; exact this
        · have hp := HP.out
          rw [HE.out] at hp; refine List.Perm.trans ?_ hp; rw [List.append_assoc]; exact List.Perm.append_left dn (show (p :: (l1 ++ l2)).Perm (l1 ++ p :: l2) from List.perm_middle.symm)
end Go.Proofs.YtpjddgmdgfjlfaaDoor.Pr
end
section
namespace Go.Proofs.YtpjddgmdgfjlfaaDoor.Pr
open Go.RowKit Go.Proofs.YtpjddgmdgfjlfaaDoorW.PrintWords Go.Proofs.YtpjddgmdgfjlfaaDoorW.PrintLast Go.Proofs.YtpjddgmdgfjlfaaDoorW.PrintMore
attribute [local go_sem] QaF QaD max_two min_two QaB QaA QaE QaC
set_option linter.unusedVariables false
set_option linter.unusedSimpArgs false
attribute [local go_sem high] eqA33
def linkFirst (c : Cred) : Role := ⟨domName c.f0.f0, c.f4.f1⟩
def learnMany (c : Cred) (second : Role) : List Pair → St → Option St
  | [], s => some s
  | q :: l, s => if q.f0 = second then (s.learn ⟨credRole c, q.f1⟩).bind (learnMany c second l) else learnMany c second l s
def linkA (c : Cred) (p : Pair) (s : St) : Option St :=
  if p.f0 = linkFirst c then (names_Number.f 20 p.f1).bind fun n => if n > 0 then (if s.known.length ≤ 1000000 then learnMany c ⟨p.f1, c.f5.f1⟩ (sortPairs s.known) s else none) else some s else some s
def linkB (c : Cred) (p : Pair) (s : St) : Option St :=
  if p.f0.f1 = c.f5.f1 then (if okPair ⟨linkFirst c, p.f0.f0⟩ then (if (⟨linkFirst c, p.f0.f0⟩ : Pair) ∈ s.known then s.learn ⟨credRole c, p.f1⟩ else some s) else none) else some s
def linkF (c : Cred) (p : Pair) (s : St) : Option St := (linkA c p s).bind (linkB c p)
abbrev roleObj (r : Role) : Obj := .cells #[.string r.f0, .string r.f1] 33
theorem roleCells {W : World} {k : Nat} {r : Role} (h : W.heap[k]? = some (roleObj r)) : W.cell? ⟨k, 0, none⟩ = some (.string r.f0) ∧ W.cell? ⟨k, 1, none⟩ = some (.string r.f1) :=
  ⟨(Qam h 0).trans rfl, (Qam h 1).trans rfl⟩
theorem wrap_id {n : Int} (h0 : -9223372036854775808 ≤ n) (h1 : n ≤ 9223372036854775807) : wrap64 n = n := by
  unfold wrap64; omega
set_option maxRecDepth 100000 in
set_option maxHeartbeats 4000000 in
theorem link_calls (w : World) (B g b : Nat) (ok : Nat → Prop) (vc : Value) (creds : List Cred) (s s' : St) (c : Cred) (p : Pair) (hS : SolverAt w B ok g b vc creds s.known s.waits) (hok : ∀ k, ok k → k < w.heap.size) (h : linkF c p s = some s') :
    Calls Tryd.prog 34 #[.pointer (some ⟨g, 0, none⟩), encCred c, encPair p] w fun e w' => e = .returned (.tuple #[]) ∧ SolverAt w' B (fun k => ok k ∨ w.heap.size ≤ k) g b vc creds s'.known s'.waits ∧ Below B w w' ∧ Kept w w' ok := by
  unfold encPair encCred; go_enter Tryd.func34, Tryd.ntmps34
  go_upto_region 1 with fail
  change Code.wp _ _ _ _ ((w.alloc (credObj c)).alloc (pairObj p))
  generalize hW : (w.alloc (credObj c)).alloc (pairObj p) = W
  obtain ⟨HB, BC, BP⟩ := boxed hW; obtain ⟨c0, c1, c2, c3, c4, c5, c6, c7, c8⟩ := credCells BC; obtain ⟨p0, p1, p2⟩ := pairCells BP; clear hW
  go_cut [6] from 6 to 78 (fun v wc => ∃ k1, v = .pointer (some ⟨k1, 0, none⟩) ∧ w.heap.size ≤ k1 ∧ wc.heap[k1]? = some (roleObj (linkFirst c)) ∧ Below W.heap.size W wc)
  case first =>
    have c0a := cell_alloc c0 (.cells #[.string ⟨#[]⟩, .string ⟨#[]⟩] 33); have c6a := cell_alloc c6 (.cells #[.string ⟨#[]⟩, .string ⟨#[]⟩] 33)
    --FIRST
    go_region_with (go_at_call 53; refine (domain_walk _ _).mono ?_; rintro e w' ⟨rfl, rfl⟩)
    all_goals
      go_wp2_with fail
      go_meet
      case rel => exact ⟨W.heap.size, rfl, HB.size, Qaj (blk_new W _), Qad (Qac (Below.refl _ _) _)⟩
    --END
  case rest =>
    obtain ⟨k1, rfl, hk1, BF, HB1⟩ := hcut; have HBc := Qal HB HB1; have BCc := Qax BC HB1; have BPc := Qax BP HB1; clear c0 c1 c2 c3 c4 c5 c6 c7 c8 p0 p1 p2 BC BP HB HB1; obtain ⟨s1, hA, hB⟩ := Option.bind_eq_some_iff.mp h; clear h; have K1 := Lib.hid hk1; clear hk1
    go_upto_region 2 with fail
    have KA := Lib.hid hA; clear hA
    go_cut [27] from 10 to 78 (fun v w2 => ∃ t : Bool, v = .bool t ∧ (∃ n, w2 = wc.drewN n) ∧ (if t then (s.known.length ≤ 1000000 ∧ learnMany c ⟨p.f1, c.f5.f1⟩ (sortPairs s.known) s = some s1) else s = s1))
    case first =>
      clear hB; obtain ⟨c0, c1, c2, c3, c4, c5, c6, c7, c8⟩ := credCells BCc; obtain ⟨p0, p1, p2⟩ := pairCells BPc; obtain ⟨f0, f1⟩ := roleCells BF; have hA := KA.out; unfold linkA at hA
      by_cases e1 : p.f0 = linkFirst c
      · rw [if_pos e1] at hA
        obtain ⟨n, hn, hA⟩ := Option.bind_eq_some_iff.mp hA; have hb1 := eqRole_t e1; clear e1 KA; have HN := Lib.hid hn; clear hn
        by_cases hn0 : n > 0
        · rw [if_pos hn0] at hA
          have d1 : decide (0 < n) = true := decide_eq_true hn0; clear hn0
          by_cases hl : s.known.length ≤ 1000000
          · rw [if_pos hl] at hA
            have HA := Lib.hid hA; have HL := Lib.hid hl; clear hA hl
            go_wp2_with (go_at_call 57; refine (names_Number.calls 20 _ _ _ HN.out).mono ?_; rintro e w' ⟨rfl, ⟨nd, rfl⟩⟩)
            go_meet
            case rel => exact ⟨true, rfl, ⟨_, rfl⟩, HL.out, HA.out⟩
          · rw [if_neg hl] at hA
            cases hA
        · rw [if_neg hn0] at hA
          have HA := Lib.hid (Option.some.inj hA); have d1 : decide (0 < n) = false := decide_eq_false hn0; clear hn0 hA
          go_wp2_with (go_at_call 57; refine (names_Number.calls 20 _ _ _ HN.out).mono ?_; rintro e w' ⟨rfl, ⟨nd, rfl⟩⟩)
          go_meet
          case rel => exact ⟨false, rfl, ⟨_, rfl⟩, HA.out⟩
      · rw [if_neg e1] at hA
        have HA := Lib.hid (Option.some.inj hA); have hb1 := eqRole_f e1; clear e1 hA KA; go_wp2
        go_meet
        case rel => exact ⟨false, rfl, ⟨0, rfl⟩, HA.out⟩
    case rest =>
      obtain ⟨t, rfl, ⟨nd, rfl⟩, ht⟩ := hcut; have HBd := Qaa HBc nd; have BCd := Qaf BCc nd; have BPd := Qaf BPc nd; have BFd := Qaf BF nd; clear HBc BCc BPc BF
      generalize wc.drewN nd = V at HBd BCd BPd BFd ⊢
      have HT := Lib.hid ht; clear ht KA
      go_upto_if 27 with fail
      go_cut [] from 7 to 78 (fun w2 => SolverAt w2 B (fun k => ok k ∨ w.heap.size ≤ k) g b vc creds s1.known s1.waits ∧ Below B w w2 ∧ Kept w w2 ok ∧ w2.heap[w.heap.size]? = some (credObj c) ∧ w2.heap[w.heap.size + 1]? = some (pairObj p) ∧ w2.heap[k1]? = some (roleObj (linkFirst c)))
      case first =>
        cases t with
        | false =>
          go_wp2
          go_meet
          case rel =>
            obtain rfl : s = s1 := HT.out; exact ⟨(hS.below HBd).mono (fun _ h => .inl h), HBd.mono hS.base, Kept.of_below HBd ok, BCd, BPd, BFd⟩
        | true =>
          obtain ⟨hl, hm⟩ : s.known.length ≤ 1000000 ∧ learnMany c ⟨p.f1, c.f5.f1⟩ (sortPairs s.known) s = some s1 := HT.out; obtain ⟨c0, c1, c2, c3, c4, c5, c6, c7, c8⟩ := credCells BCd; obtain ⟨p0, p1, p2⟩ := pairCells BPd; have HM := Lib.hid hm; have HL := Lib.hid hl; clear hm hl HT
          go_upto_region 4 with fail
          change Code.wp _ _ _ _ (V.alloc (.cells #[.string p.f1, .string c.f5.f1] 33)); have HB2 := Qac HBd (roleObj ⟨p.f1, c.f5.f1⟩); have BC2 := Qag BCd (roleObj ⟨p.f1, c.f5.f1⟩); have BP2 := Qag BPd (roleObj ⟨p.f1, c.f5.f1⟩); have BF2 := Qag BFd (roleObj ⟨p.f1, c.f5.f1⟩); have BS2 := blk_new V (roleObj ⟨p.f1, c.f5.f1⟩); have HV := Lib.hid (HBd.size); clear c0 c1 c2 c3 c4 c5 c6 c7 c8 p0 p1 p2 HBd BCd BPd BFd; change Code.wp _ _ _ _ (V.alloc (roleObj ⟨p.f1, c.f5.f1⟩))
          generalize hU : V.alloc (roleObj ⟨p.f1, c.f5.f1⟩) = U at HB2 BC2 BP2 BF2 BS2 ⊢
          clear hU
          go_wp2_with (go_at_call 23; refine (pairs_calls _ B g b ok vc creds s (hS.below HB2) HL.out).mono ?_; rintro e w5 ⟨v5, rfl, hR5, hB5⟩; obtain ⟨A5, cc5, rfl⟩ := Kd.R_slice hR5; have HB5 := Qal HB2 hB5; have BC5 := Qax BC2 hB5; have BP5 := Qax BP2 hB5; have BF5 := Qax BF2 hB5; have BS5 := Qax BS2 hB5)
          have HU := Lib.hid HB2.size; have hS5 := hS.below HB5; have HS5 := Lib.hid hS5; have HB5' := Lib.hid HB5; have HR5 := Lib.hid hR5; have HC5 := Lib.hid BC5; have HP5 := Lib.hid BP5; have HF5 := Lib.hid BF5; have HT5 := Lib.hid BS5; have VLE := Lib.hid (show V.heap.size < w5.heap.size from blk_lt BS5); clear hR5 hB5 hS5 HB5 BC5 BP5 BF5 BS5 HB2 BC2 BP2 BF2 BS2; have HLL := Lib.hid (show (sortPairs s.known).length ≤ 1000000 by rw [sortPairs_length]; exact HL.out)
          generalize sortPairs s.known = L at HM HR5 HLL ⊢
          go_loopg [37, 9] (L.length + 1) (fun kq v37 _ w' => ∃ (i : Nat) (st : St), v37 = .int .i64 i ∧ Hid (kq = L.length + 1 - i) ∧ Hid (i ≤ L.length) ∧ Hid (learnMany c ⟨p.f1, c.f5.f1⟩ (L.drop i) st = some s1) ∧ Hid (SolverAt w' B (fun k => ok k ∨ w5.heap.size ≤ k) g b vc creds st.known st.waits) ∧ Hid (Below B w w') ∧ Hid (Kept w5 w' ok) ∧ Hid (w5.heap.size ≤ w'.heap.size))
          case atStart => exact ⟨0, s, rfl, Lib.hid rfl, Lib.hid (Nat.zero_le _), Lib.hid HM.out, Lib.hid (HS5.out.mono (fun _ h => .inl h)), Lib.hid (HB5'.out.mono hS.base), Lib.hid (fun _ _ _ => rfl), Lib.hid (Nat.le_refl _)⟩
          case round =>
            obtain ⟨i, st, rfl, HK, HI, HLM, HSt, HBt, HKt, HSz⟩ := hrel
            have box : ∀ {k : Nat} {o : Obj}, w5.heap[k]? = some o → w.heap.size ≤ k → ∀ w', Kept w5 w' ok → w'.heap[k]? = some o := fun hb hk w' hK => (hK _ (blk_lt hb) (fun e => by have := hok _ e; omega)).trans hb
            by_cases hi : i < L.length
            · have d1 : decide ((i : Int) < (L.length : Int)) = true := decide_eq_true (by omega)
              have d2 : decide (i < L.length) = true := decide_eq_true hi; have B4 := box HC5.out (Nat.le_refl _) _ HKt.out; have B5 := box HP5.out (by omega) _ HKt.out; have B7 := box HT5.out HV.out _ HKt.out
              have HKU : ∀ k, U.heap.size ≤ k → ¬ ok k := fun k hk e => by have := hok k e; have := HU.out; omega
              have R9 : Kd.R kPair 47 wr U.heap.size (fun _ => True) (.slice A5 L.length cc5) L := Kd.R_mono (Kd.R_move (Kd.R_bound HR5.out) (fun k hk => HKt.out k hk.2.2.1 (HKU k hk.2.1))) (fun _ h => h.1); obtain ⟨ad, e, hx0, hx1, hx2⟩ := at_T47 (Kd.Qaw R9).2.2 (i : Int) (by omega) (by omega); cases e
              obtain ⟨q, hq⟩ : ∃ q, q = L[i] := ⟨_, rfl⟩
              have erd : rd_T47 L (i : Int) = q := by
                unfold rd_T47; rw [hq, Int.toNat_natCast, List.getD_eq_getElem?_getD, List.getElem?_eq_getElem hi]; rfl
              rw [erd, Int.toNat_natCast] at hx0 hx1 hx2; have hm := HLM.out; rw [List.drop_eq_getElem_cons hi, ← hq] at hm; unfold learnMany at hm
              have p101 : 0 ≤ (i : Int) := by omega
              have q101 : (i : Int) < (L.length : Int) := by omega
              replace p101 := eq_true p101; replace q101 := eq_true q101; have HIL := Lib.hid hi; clear box hi hq erd R9
              go_upto_region 7 with fail
              change Code.wp _ _ _ _ (wr.alloc (pairObj q)); have HX := Qac (Below.refl wr.heap.size wr) (pairObj q); have B9 := blk_new wr (pairObj q); have B4x := Qax B4 HX; have B7x := Qax B7 HX; clear B4 B5 B7 hx0 hx1 hx2
              generalize wr.alloc (pairObj q) = X at HX B9 B4x B7x ⊢
              obtain ⟨c0, c1, c2, c3, c4, c5, c6, c7, c8⟩ := credCells B4x; obtain ⟨s0, s1'⟩ := roleCells B7x; obtain ⟨q0, q1, q2⟩ := pairCells B9
              have wrapI : wrap64 ((i : Int) + 1) = ((i + 1 : Nat) : Int) := by rw [wrap_id (by omega) (by have := HLL.out; have := HIL.out; omega)]; rfl
              by_cases e1 : q.f0 = ⟨p.f1, c.f5.f1⟩
              · rw [if_pos e1] at hm
                obtain ⟨st2, h1, h2⟩ := Option.bind_eq_some_iff.mp hm; have H1 := Lib.hid h1; have H2 := Lib.hid h2; have hb1 : (q.f0.f0.toList == p.f1.toList && (q.f0.f1.toList == c.f5.f1.toList)) = true := eqRole_t e1; clear e1 hm h1 h2; go_wp2
                go_region_with (first | (go_at_call 32; refine (credRole_calls c _).mono ?_; rintro e w3 ⟨rfl, hB3⟩; have HB3 : Below X.heap.size X w3 := Qal (by repeat (first | exact Below.refl _ _ | apply Qaa | apply Qad)) hB3; have p23 := pw_cell_below hB3 q2) | (go_at_call 31; refine (learn_calls _ B g b (fun k => ok k ∨ w5.heap.size ≤ k) vc creds st st2 ⟨credRole c, q.f1⟩ ?_ H1.out).mono ?_; exact (HSt.out.below HX).below HB3; rintro e w8 ⟨rfl, hS8, hB8, hK8⟩))
                all_goals
                  go_wp2
                  go_roundg (L.length + 1 - (i + 1))
                  case measure => have := HK.out; have := HI.out; omega
                  case rel => exact ⟨i + 1, st2, by first | rfl | exact congrArg _ wrapI, Lib.hid rfl, Lib.hid (by have := HIL.out; omega), Lib.hid H2.out, Lib.hid (hS8.mono (fun k h => h.elim id (fun h => .inr (by have := HSz.out; have := HX.size; have := HB3.size; omega)))), Lib.hid ((HBt.out.trans (HX.mono (by have := HSt.out.base; omega))).trans ((HB3.mono (by have := HSt.out.base; have := HX.size; omega)).trans hB8)), Lib.hid (fun k hk hn => (hK8 k (by have := HSz.out; have := HX.size; have := HB3.size; omega) (fun e => e.elim hn (by omega))).trans ((HB3.block k (by have := HSz.out; have := HX.size; omega)).trans ((HX.block k (by have := HSz.out; omega)).trans (HKt.out k hk hn)))), Lib.hid (by have := HSz.out; have := HX.size; have := HB3.size; have := hB8.size; omega)⟩
              · rw [if_neg e1] at hm
                have H2 := Lib.hid hm; have hb1 : (q.f0.f0.toList == p.f1.toList && (q.f0.f1.toList == c.f5.f1.toList)) = false := eqRole_f e1; clear e1 hm; go_wp2
                go_roundg (L.length + 1 - (i + 1))
                case measure => have := HK.out; have := HI.out; omega
                case rel => exact ⟨i + 1, st, by first | rfl | exact congrArg _ wrapI, Lib.hid rfl, Lib.hid (by have := HIL.out; omega), Lib.hid H2.out, Lib.hid (HSt.out.below HX), Lib.hid (HBt.out.trans (HX.mono (by have := HSt.out.base; omega))), Lib.hid (fun k hk hn => (HX.block k (by have := HSz.out; omega)).trans (HKt.out k hk hn)), Lib.hid (by have := HSz.out; have := HX.size; omega)⟩
            · have d1 : decide ((i : Int) < (L.length : Int)) = false := decide_eq_false (by omega)
              have d2 : decide (i < L.length) = false := decide_eq_false hi; have HE := Lib.hid (show i = L.length by have := HI.out; omega); clear hi; go_wp2
              go_meet
              case rel =>
                have hm := HLM.out; rw [HE.out, List.drop_length] at hm; obtain rfl : st = s1 := Option.some.inj hm; exact ⟨HSt.out.mono (fun k h => h.imp_right (fun h => Nat.le_trans HB5'.out.size h)), HBt.out, (Kept.of_below HB5'.out ok).trans HKt.out HB5'.out.size (fun _ _ h => h), box HC5.out (Nat.le_refl _) _ HKt.out, box HP5.out (by omega) _ HKt.out, box HF5.out K1.out _ HKt.out⟩
      case rest =>
        obtain ⟨hS2, hB2, hK2, BC2, BP2, BF2⟩ := hcut; obtain ⟨c0, c1, c2, c3, c4, c5, c6, c7, c8⟩ := credCells BC2; obtain ⟨p0, p1, p2⟩ := pairCells BP2; obtain ⟨f0, f1⟩ := roleCells BF2; have s1c := (SolverAt.cells hS2).2; have HWc := Lib.hid (show w.heap.size ≤ wc.heap.size from Nat.le_of_lt (blk_lt BC2)); clear HT HBd BCd BPd BFd; have hBw := Below.refl wc.heap.size wc
        go_upto_region 10 with fail
        go_cut [71] from 53 to 78 (fun v w3 => ∃ t : Bool, v = .bool t ∧ (∃ n, w3 = wc.drewN n) ∧ (if t then s1.learn ⟨credRole c, p.f1⟩ else some s1) = some s')
        case first =>
          unfold linkB at hB
          by_cases e1 : p.f0.f1 = c.f5.f1
          · rw [if_pos e1] at hB
            have hb1 : (p.f0.f1.toList == c.f5.f1.toList) = true := by rw [e1]; simp
            clear e1
            by_cases k1' : okPair ⟨linkFirst c, p.f0.f0⟩
            · rw [if_pos k1'] at hB
              have l1 := fun n => look_known hS2 hBw (linkFirst c) p.f0.f0 k1' n
              by_cases i1 : (⟨linkFirst c, p.f0.f0⟩ : Pair) ∈ s1.known
              · rw [if_pos i1] at hB
                simp only [decide_eq_true i1] at l1; have HH := Lib.hid hB; clear hB k1'
                go_quiet (fail)
                all_goals
                  go_wp2_with fail
                  go_meet
                  case rel => exact ⟨true, rfl, ⟨_, rfl⟩, HH.out⟩
              · rw [if_neg i1] at hB
                simp only [decide_eq_false i1] at l1; have HH := Lib.hid hB; clear hB k1'
                go_quiet (fail)
                all_goals
                  go_wp2_with fail
                  go_meet
                  case rel => exact ⟨false, rfl, ⟨_, rfl⟩, HH.out⟩
            · rw [if_neg k1'] at hB
              cases hB
          · rw [if_neg e1] at hB
            have hb1 : (p.f0.f1.toList == c.f5.f1.toList) = false := (Lib.bytes_beq_false_iff _ _).mpr e1; have HH := Lib.hid hB; clear hB e1
            go_quiet (fail)
            all_goals
              go_wp2_with fail
              go_meet
              case rel => exact ⟨false, rfl, ⟨_, rfl⟩, HH.out⟩
        case rest =>
          obtain ⟨t, rfl, ⟨n3, rfl⟩, ht⟩ := hcut; have HBn := Qaa hBw n3; have BCn := Qaf BC2 n3; have BPn := Qaf BP2 n3; clear c0 c1 c2 c3 c4 c5 c6 c7 c8 p0 p1 p2 f0 f1 BC2 BP2 BF2; have HH := Lib.hid ht
          generalize wc.drewN n3 = Y at HBn BCn BPn ⊢
          obtain ⟨c0, c1, c2, c3, c4, c5, c6, c7, c8⟩ := credCells BCn; obtain ⟨p0, p1, p2⟩ := pairCells BPn; have HSY := Lib.hid (hS2.below HBn); have HBY := Lib.hid (hB2.trans (HBn.mono hS2.base)); have HKY := Lib.hid (show Kept w Y ok from hK2.trans (Kept.of_below HBn ok) HWc.out (fun _ _ h => h)); have HSZ := Lib.hid (show w.heap.size ≤ Y.heap.size by have := HWc.out; have := HBn.size; omega); clear HBn BCn BPn hS2 hB2 hK2 hBw s1c ht
          cases t with
          | false =>
            obtain rfl : s1 = s' := Option.some.inj HH.out; go_wp2; go_end0; exact ⟨rfl, HSY.out, HBY.out, HKY.out⟩
          | true =>
            go_wp2
            go_region_with (first | (go_at_call 32; refine (credRole_calls c _).mono ?_; rintro e w3 ⟨rfl, hB3⟩; have HB3 : Below Y.heap.size Y w3 := Qal (by repeat (first | exact Below.refl _ _ | apply Qaa | apply Qad)) hB3; have p23 := pw_cell_below hB3 p2) | (go_at_call 31; refine (learn_calls _ B g b (fun k => ok k ∨ w.heap.size ≤ k) vc creds s1 s' ⟨credRole c, p.f1⟩ ?_ HH.out).mono ?_; exact HSY.out.below HB3; rintro e w8 ⟨rfl, hS8, hB8, hK8⟩))
            all_goals
              go_wp2; go_end0; exact ⟨rfl, hS8.mono (fun k h => h.elim id (fun h => .inr (by have := HSZ.out; have := HB3.size; omega))), (HBY.out.trans (HB3.mono HSY.out.base)).trans hB8, fun k hk hn => (hK8 k (by have := HSZ.out; have := HB3.size; omega) (fun e => e.elim hn (by omega))).trans ((HB3.block k (by have := HSZ.out; omega)).trans (HKY.out k hk hn))⟩
end Go.Proofs.YtpjddgmdgfjlfaaDoor.Pr
end
section
namespace Go.Proofs.YtpjddgmdgfjlfaaDoor.Pr
open Go.RowKit Go.Proofs.YtpjddgmdgfjlfaaDoorW.PrintWords Go.Proofs.YtpjddgmdgfjlfaaDoorW.PrintLast Go.Proofs.YtpjddgmdgfjlfaaDoorW.PrintMore
attribute [local go_sem] QaF QaD max_two min_two QaB QaA QaE QaC
set_option linter.unusedVariables false
set_option linter.unusedSimpArgs false
def membersF : List Cred → St → Option St
  | [], s => some s
  | c :: l, s => if c.f2 = 1 then (s.learn ⟨credRole c, c.f3⟩).bind (membersF l) else membersF l s
def stepF (p : Pair) (c : Cred) (s : St) : Option St := if c.f2 = 1 then some s else if c.f2 = 3 then linkF c p s else if c.f2 = 4 then bothF c p s else includeF c p s
def stepsF (p : Pair) : List Cred → St → Option St
  | [], s => some s
  | c :: l, s => (stepF p c s).bind (stepsF p l)
def loopF (creds : List Cred) : Nat → St → Option St
  | 0, _ => none
  | k + 1, s => match s.waits with
    | [] => some s
    | p :: ws => (stepsF p creds ⟨s.known, ws⟩).bind (loopF creds k)
def runF (k : Nat) (creds : List Cred) : Option St := (membersF creds ⟨[], []⟩).bind (loopF creds k)
theorem addr_zero (ad : Addr) : ad.add 0 = ad := by
  obtain ⟨b, o, f⟩ := ad; unfold Addr.add
  split <;> simp_all
theorem SolverAt.bound {w : World} {B g b : Nat} {ok : Nat → Prop} {vc : Value} {creds : List Cred} {known waits : List Pair} (h : SolverAt w B ok g b vc creds known waits) : SolverAt w B (fun k => ok k ∧ k < w.heap.size) g b vc creds known waits := by
  obtain ⟨vw, hg, hBg, hBb, hvc, hT, hQ⟩ := h; exact ⟨vw, hg, ⟨hBg.1, hBg.2, blk_lt hg⟩, ⟨hBb.1, hBb.2, hT.lt⟩, hvc, hT, Kd.Q_mono (Kd.Q_bound hQ) (fun k hk => ⟨hk.1, hk.2.2.1⟩)⟩
theorem SolverAt.waits' {w : World} {B g b : Nat} {ok : Nat → Prop} {vc : Value} {creds : List Cred} {known waits : List Pair} (h : SolverAt w B ok g b vc creds known waits) : ∃ A c, waits.length ≤ c ∧ w.heap[g]? = some (.cells #[vc, .map (some b), .slice A waits.length c] 51 (0, 0)) ∧ Kd.C kPair w A waits.length waits := by
  obtain ⟨vw, hg, hBg, hBb, hvc, hT, hQ⟩ := h; obtain ⟨A, c, rfl, hl, hC⟩ := Kd.Q_reads hQ; exact ⟨A, c, hl, hg, hC⟩
theorem SolverAt.creds' {w : World} {B g b : Nat} {ok : Nat → Prop} {A : Option Addr} {n c : Nat} {creds : List Cred} {known waits : List Pair} (h : SolverAt w B ok g b (.slice A n c) creds known waits) : n = creds.length ∧ Kd.C kCred w A creds.length creds := by
  obtain ⟨vw, hg, hBg, hBb, hvc, hT, hQ⟩ := h; have := Kd.Qaw hvc; exact ⟨this.1, this.2.2⟩
theorem SolverAt.pop {w W : World} {B g b : Nat} {ok : Nat → Prop} {vc : Value} {creds : List Cred} {known ws : List Pair} {p : Pair} {A : Option Addr} {c : Nat} (h : SolverAt w B ok g b vc creds known (p :: ws)) (hg : w.heap[g]? = some (.cells #[vc, .map (some b), .slice A (ws.length + 1) c] 51 (0, 0)))
    (hb : Below w.heap.size w W) : SolverAt (W.setCell ⟨g, 2, none⟩ (.slice (if c = 1 then A else A.map (·.add 3)) ws.length (c - 1))) B ok g b vc creds known ws := by
  have hgW := (hb.block g (blk_lt hg)).trans hg; obtain ⟨vw, hg', hBg, hBb, hvc, hT, hQ⟩ := h; rw [hg] at hg'
  injection hg' with hg'
  injection hg' with hg'
  have e : vw = .slice A (ws.length + 1) c := by
    injection hg' with hg'
    injection hg' with _ hg'
    injection hg' with _ hg'
    injection hg' with hg' _
    exact hg'.symm
  subst e; have hQ2 := Kd.Q_drop (k := 1) (Kd.Q_below hQ hb) (by simp); simp only [Nat.one_mul, List.drop_succ_cons, List.drop_zero, Nat.add_sub_cancel] at hQ2
  have hbg : b ≠ g := by
    rintro rfl; obtain ⟨es, clock, hb, _⟩ := hT; rw [hg] at hb; cases hb
  exact ⟨.slice (if c = 1 then A else A.map (·.add 3)) ws.length (c - 1), by simpa using blk_set hgW 2 _, hBg, hBb, Kd.R_set (Kd.Qay hvc hb) hgW (by decide) 2 _, (hT.below hb).set hbg _, Kd.Q_set hQ2 hgW (by decide) 2 _⟩
set_option maxRecDepth 100000 in
set_option maxHeartbeats 4000000 in
theorem run_calls (w : World) (B g b : Nat) (ok : Nat → Prop) (vc : Value) (creds : List Cred) (fuel : Nat) (s' : St) (hS : SolverAt w B ok g b vc creds [] []) (hcl : creds.length ≤ 1000000) (h : runF fuel creds = some s') :
    Calls Tryd.prog 22 #[.pointer (some ⟨g, 0, none⟩)] w fun e w' => e = .returned (.tuple #[]) ∧ SolverAt w' B (fun k => ok k ∨ w.heap.size ≤ k) g b vc creds s'.known s'.waits ∧ Below B w w' := by
  obtain ⟨s1, hM, hL⟩ := Option.bind_eq_some_iff.mp h; clear h
  obtain ⟨A0, cc0, rfl⟩ : ∃ A c, vc = .slice A creds.length c := by
    obtain ⟨vw, hg, hBg, hBb, hvc, hT, hQ⟩ := hS; exact Kd.R_slice hvc
  have g0 := (SolverAt.cells hS).1; have HS := Lib.hid hS; have HM := Lib.hid hM; have HL := Lib.hid hL; have HC := Lib.hid hcl; clear hS hM hL hcl; go_enter Tryd.func22, Tryd.ntmps22; go_wp2
  go_loopg [3, 13] (creds.length + 1) (fun kq _ v13 w' => ∃ (i : Nat) (st : St), v13 = .int .i64 i ∧ Hid (kq = creds.length + 1 - i) ∧ Hid (i ≤ creds.length) ∧ Hid (membersF (creds.drop i) st = some s1) ∧ Hid (SolverAt w' B (fun k => ok k ∨ w.heap.size ≤ k) g b (.slice A0 creds.length cc0) creds st.known st.waits) ∧ Hid (Below B w w') ∧ Hid (w.heap.size ≤ w'.heap.size))
  case atStart => exact ⟨0, ⟨[], []⟩, rfl, Lib.hid rfl, Lib.hid (Nat.zero_le _), Lib.hid HM.out, Lib.hid (HS.out.mono (fun _ h => .inl h)), Lib.hid (Below.refl _ _), Lib.hid (Nat.le_refl _)⟩
  case round =>
    obtain ⟨i, st, rfl, HK, HI, HMs, HSt, HBt, HSz⟩ := hrel
    by_cases hi : i < creds.length
    · have d1 : decide ((i : Int) < (creds.length : Int)) = true := decide_eq_true (by omega)
      have d2 : decide (i < creds.length) = true := decide_eq_true hi; obtain ⟨ad, e, hx0, hx1, hx2, hx3, hx4, hx5, hx6, hx7, hx8⟩ := at_T46 (SolverAt.creds' HSt.out).2 (i : Int) (by omega) (by omega); cases e
      obtain ⟨c, hc⟩ : ∃ c, c = creds[i] := ⟨_, rfl⟩
      have erd : Qab creds (i : Int) = c := by
        unfold Qab; rw [hc, Int.toNat_natCast, List.getD_eq_getElem?_getD, List.getElem?_eq_getElem hi]; rfl
      rw [erd, Int.toNat_natCast] at hx0 hx1 hx2 hx3 hx4 hx5 hx6 hx7 hx8; have hm := HMs.out; rw [List.drop_eq_getElem_cons hi, ← hc] at hm; unfold membersF at hm; have p101 : (0 ≤ (i : Int)) = True := eq_true (by omega); have q101 : ((i : Int) < (creds.length : Int)) = True := eq_true (by omega); have HIL := Lib.hid hi; clear hi hc erd
      have wrapI : wrap64 ((i : Int) + 1) = ((i + 1 : Nat) : Int) := by rw [wrap_id (by omega) (by have := HC.out; have := HIL.out; omega)]; rfl
      go_upto_region 3 with fail
      change Code.wp _ _ _ _ (wr.alloc (credObj c)); have HX := Qac (Below.refl wr.heap.size wr) (credObj c); have B3 := blk_new wr (credObj c); clear hx0 hx1 hx2 hx3 hx4 hx5 hx6 hx7 hx8
      generalize wr.alloc (credObj c) = X at HX B3 ⊢
      obtain ⟨c0, c1, c2, c3, c4, c5, c6, c7, c8⟩ := credCells B3
      by_cases e1 : c.f2 = 1
      · rw [if_pos e1] at hm
        obtain ⟨st2, h1, h2⟩ := Option.bind_eq_some_iff.mp hm; have H1 := Lib.hid h1; have H2 := Lib.hid h2; have hb1 : (c.f2 == 1) = true := beq_iff_eq.mpr e1; clear e1 hm h1 h2
        --FIRST
        go_wp2
        go_region_with (first | (go_at_call 32; refine (credRole_calls c _).mono ?_; rintro e w3 ⟨rfl, hB3⟩; have HB3 : Below X.heap.size X w3 := Qal (by repeat (first | exact Below.refl _ _ | apply Qaa | apply Qad)) hB3; have p23 := pw_cell_below hB3 c4) | (go_at_call 31; refine (learn_calls _ B g b (fun k => ok k ∨ w.heap.size ≤ k) (.slice (some ad) creds.length cc0) creds st st2 ⟨credRole c, c.f3⟩ ?_ H1.out).mono ?_; exact (HSt.out.below HX).below HB3; rintro e w8 ⟨rfl, hS8, hB8, hK8⟩))
        all_goals
          go_wp2
          go_roundg (creds.length + 1 - (i + 1))
          case measure => have := HK.out; have := HI.out; omega
          case rel => exact ⟨i + 1, st2, by first | rfl | exact congrArg _ wrapI, Lib.hid rfl, Lib.hid (by have := HIL.out; omega), Lib.hid H2.out, Lib.hid (hS8.mono (fun k h => h.elim id (fun h => .inr (by have := HSz.out; have := HX.size; have := HB3.size; omega)))), Lib.hid ((HBt.out.trans (HX.mono (by have := HSt.out.base; omega))).trans ((HB3.mono (by have := HSt.out.base; have := HX.size; omega)).trans hB8)), Lib.hid (by have := HSz.out; have := HX.size; have := HB3.size; have := hB8.size; omega)⟩
        --END
      · rw [if_neg e1] at hm
        have H2 := Lib.hid hm; have hb1 : (c.f2 == 1) = false := beq_eq_false_iff_ne.mpr e1; clear e1 hm; go_wp2
        go_roundg (creds.length + 1 - (i + 1))
        case measure => have := HK.out; have := HI.out; omega
        case rel => exact ⟨i + 1, st, by first | rfl | exact congrArg _ wrapI, Lib.hid rfl, Lib.hid (by have := HIL.out; omega), Lib.hid H2.out, Lib.hid (HSt.out.below HX), Lib.hid (HBt.out.trans (HX.mono (by have := HSt.out.base; omega))), Lib.hid (by have := HSz.out; have := HX.size; omega)⟩
    · have d1 : decide ((i : Int) < (creds.length : Int)) = false := decide_eq_false (by omega)
      have d2 : decide (i < creds.length) = false := decide_eq_false hi; have HE := Lib.hid (show i = creds.length by have := HI.out; omega); clear hi; go_wp2; have hm := HMs.out; rw [HE.out, List.drop_length] at hm; obtain rfl : st = s1 := Option.some.inj hm; have HS1 := Lib.hid HSt.out; have HB1 := Lib.hid HBt.out; have HZ1 := Lib.hid HSz.out; clear HSt HBt HSz hm HM HMs HK HI HE d1 d2
      go_loopg [4, 6, 7, 53] fuel (fun kq _ _ _ _ w' => ∃ st : St, Hid (loopF creds kq st = some s') ∧ Hid (SolverAt w' B (fun k => ok k ∨ w.heap.size ≤ k) g b (.slice A0 creds.length cc0) creds st.known st.waits) ∧ Hid (Below B w w') ∧ Hid (w.heap.size ≤ w'.heap.size))
      case atStart => exact ⟨st, Lib.hid HL.out, Lib.hid HS1.out, Lib.hid HB1.out, Lib.hid HZ1.out⟩
      case round =>
        clear HS1 HB1 HZ1 HL; obtain ⟨st, HLo, HSt, HBt, HSz⟩ := hrel; have hl := HLo.out; clear HLo
        cases gk with
        | zero => cases hl
        | succ k1 =>
          unfold loopF at hl; obtain ⟨kn, wts⟩ := st; obtain ⟨A, cc, hcc, hgw, hC⟩ := SolverAt.waits' HSt.out
          cases wts with
          | nil =>
            obtain rfl := Option.some.inj hl; clear hl; have g2 := (Qam hgw 2).trans (rfl : _ = some (Value.slice A 0 cc)); clear hgw hC; go_wp2; go_end0; exact ⟨rfl, HSt.out, HBt.out⟩
          | cons p ws =>
            simp only at hl; obtain ⟨st2, h1, h2⟩ := Option.bind_eq_some_iff.mp hl; have H1 := Lib.hid h1; have H2 := Lib.hid h2; clear hl h1 h2
            obtain ⟨n, hn⟩ : ∃ n, n = ws.length + 1 := ⟨_, rfl⟩
            have HN := Lib.hid hn; have d1 : decide ((0 : Int) < (n : Int)) = true := decide_eq_true (by omega); have d2 : decide (0 < n) = true := decide_eq_true (by omega); have g2 := (Qam hgw 2).trans (show _ = some (Value.slice A n cc) by rw [hn]; rfl); obtain ⟨ad, e, hx0, hx1, hx2⟩ := at_T47 hC (0 : Int) (by omega) (by simp); cases e; have p101 : ((0 : Int) ≤ 0) = True := eq_true (by omega); have q101 : ((0 : Int) < (n : Int)) = True := eq_true (by omega); have erd : rd_T47 (p :: ws) (0 : Int) = p := rfl; have had : ad.add ((0 : Int).toNat * 3) = ad := addr_zero ad; have r101 : (0 < n) = True := eq_true (by omega); rw [erd, had] at hx0 hx1 hx2; have HGW := Lib.hid hgw; clear hgw hC hn erd
            go_upto_region 8 with fail
            change Code.wp _ _ _ _ (wr.alloc (pairObj p)); have HX := Qac (Below.refl wr.heap.size wr) (pairObj p); have B4 := blk_new wr (pairObj p); have gX := (HX.block g (blk_lt HGW.out)).trans HGW.out; have HPop := Lib.hid (SolverAt.pop (SolverAt.bound HSt.out) HGW.out HX)
            have HXs : (wr.alloc (pairObj p)).heap.size = wr.heap.size + 1 := by simp
            clear hx0 hx1 hx2 g2 had
            generalize wr.alloc (pairObj p) = X at HX B4 gX HPop HXs ⊢
            have g2 := (Qam gX 2).trans (show _ = some (Value.slice (some ad) n cc) by rw [HN.out]; rfl); have f2 := blk_thaw gX 2; obtain ⟨i04, hi04, _, hsz4, _⟩ := info_parts infoPair; have hcut := cut_from (P := Tryd.prog) 27 47 .i64 Tryd.underlying27 hi04 3 hsz4 (some ad) n cc 1 (by omega) (by have := HN.out; omega); simp only [Int.toNat_one, Nat.one_mul] at hcut
            obtain ⟨A2, hA2⟩ : ∃ A2, A2 = (if cc = 1 then some ad else (some ad).map (·.add 3)) := ⟨_, rfl⟩
            obtain ⟨n2, hn2⟩ : ∃ n2, n2 = n - 1 := ⟨_, rfl⟩
            obtain ⟨cc2, hc2⟩ : ∃ cc2, cc2 = cc - 1 := ⟨_, rfl⟩
            rw [← hA2, ← hn2, ← hc2] at hcut; have HPop2 := Lib.hid (show SolverAt (X.setCell ⟨g, 2, none⟩ (.slice A2 n2 cc2)) B (fun k => (ok k ∨ w.heap.size ≤ k) ∧ k < wr.heap.size) g b (.slice A0 creds.length cc0) creds kn ws by rw [hn2, HN.out, Nat.add_sub_cancel, hA2, hc2]; exact HPop.out); clear hA2 hn2 hc2 HPop hi04 hsz4
            have hne4 : wr.heap.size ≠ g := by have := blk_lt HGW.out; omega
            have B4z : (X.setCell ⟨g, 2, none⟩ (.slice A2 n2 cc2)).heap[wr.heap.size]? = some (pairObj p) := (Below.heap_setCell X ⟨g, 2, none⟩ (.slice A2 n2 cc2) _ hne4).trans B4
            have SZz : (X.setCell ⟨g, 2, none⟩ (.slice A2 n2 cc2)).heap.size = X.heap.size := by simp
            have hBg : B ≤ g := by obtain ⟨_, _, hh, _⟩ := HSt.out; exact hh.1
            have BZz := (HX.mono (by have := HSt.out.base; omega)).setCell (p := ⟨g, 2, none⟩) hBg (.slice A2 n2 cc2); have H4z := Lib.hid B4z; have HSZz := Lib.hid SZz; have HBZz := Lib.hid BZz; have HX2 := Lib.hid (show X.heap.size = wr.heap.size + 1 from HXs); clear hne4 B4z SZz hBg BZz
            go_upto_region 9 with fail
            change Code.wp _ _ _ _ (X.setCell ⟨g, 2, none⟩ (.slice A2 n2 cc2))
            generalize X.setCell ⟨g, 2, none⟩ (.slice A2 n2 cc2) = Z at H4z HSZz HBZz HPop2 ⊢
            have z0 := (SolverAt.cells HPop2.out).1; have HB' := Lib.hid (HX.size); clear B4 gX g2 f2 hcut HX HGW; go_wp2; have HSZ2 := Lib.hid (show Z.heap.size = wr.heap.size + 1 by have := HSZz.out; have := HX2.out; omega)
            obtain ⟨wO, hwO⟩ : ∃ x, x = wr := ⟨_, rfl⟩
            subst hwO
            go_loopg [6, 7, 53] (creds.length + 1) (fun kq _ _ v53 w' => ∃ (j : Nat) (st3 : St), v53 = .int .i64 j ∧ Hid (kq = creds.length + 1 - j) ∧ Hid (j ≤ creds.length) ∧ Hid (stepsF p (creds.drop j) st3 = some st2) ∧ Hid (SolverAt w' B (fun k => ((ok k ∨ w.heap.size ≤ k) ∧ k < wO.heap.size) ∨ Z.heap.size ≤ k) g b (.slice A0 creds.length cc0) creds st3.known st3.waits) ∧ Hid (Below B wO w') ∧ Hid (w'.heap[wO.heap.size]? = some (pairObj p)) ∧ Hid (Z.heap.size ≤ w'.heap.size))
            case atStart => exact ⟨0, ⟨kn, ws⟩, rfl, Lib.hid rfl, Lib.hid (Nat.zero_le _), Lib.hid H1.out, Lib.hid (HPop2.out.mono (fun _ h => .inl h)), Lib.hid HBZz.out, Lib.hid H4z.out, Lib.hid (Nat.le_refl _)⟩
            case round =>
              clear z0 HPop2 H4z HBZz; obtain ⟨j, st3, rfl, HK3, HJ, HM3, HS3, HB3, HP3, HZ3⟩ := hrel
              by_cases hj : j < creds.length
              · have d1 : decide ((j : Int) < (creds.length : Int)) = true := decide_eq_true (by omega)
                have d2 : decide (j < creds.length) = true := decide_eq_true hj; obtain ⟨ad3, e, hx0, hx1, hx2, hx3, hx4, hx5, hx6, hx7, hx8⟩ := at_T46 (SolverAt.creds' HS3.out).2 (j : Int) (by omega) (by omega); cases e
                obtain ⟨c, hc⟩ : ∃ c, c = creds[j] := ⟨_, rfl⟩
                have erd : Qab creds (j : Int) = c := by
                  unfold Qab; rw [hc, Int.toNat_natCast, List.getD_eq_getElem?_getD, List.getElem?_eq_getElem hj]; rfl
                rw [erd, Int.toNat_natCast] at hx0 hx1 hx2 hx3 hx4 hx5 hx6 hx7 hx8; have hm := HM3.out; rw [List.drop_eq_getElem_cons hj, ← hc] at hm; unfold stepsF at hm; obtain ⟨st4, h1j, h2j⟩ := Option.bind_eq_some_iff.mp hm; have H2j := Lib.hid h2j; have p101 : (0 ≤ (j : Int)) = True := eq_true (by omega); have q101 : ((j : Int) < (creds.length : Int)) = True := eq_true (by omega); have HJL := Lib.hid hj
                have wrapJ : wrap64 ((j : Int) + 1) = ((j + 1 : Nat) : Int) := by rw [wrap_id (by omega) (by have := HC.out; have := HJL.out; omega)]; rfl
                clear hj hc erd hm h2j
                go_upto_region 12 with fail
                change Code.wp _ _ _ _ (wr.alloc (credObj c)); have HX3 := Qac (Below.refl wr.heap.size wr) (credObj c); have B3 := blk_new wr (credObj c); have B4x := Qag HP3.out (credObj c); clear hx0 hx1 hx2 hx3 hx4 hx5 hx6 hx7 hx8
                generalize wr.alloc (credObj c) = X3 at HX3 B3 B4x ⊢
                obtain ⟨c0, c1, c2, c3, c4, c5, c6, c7, c8⟩ := credCells B3; obtain ⟨p0, p1, p2⟩ := pairCells B4x; unfold stepF at h1j
                by_cases e1 : c.f2 = 1
                · rw [if_pos e1] at h1j
                  have b1 : (c.f2 == 1) = true := beq_iff_eq.mpr e1; obtain rfl := Option.some.inj h1j; clear e1 h1j; go_wp2
                  go_roundg (creds.length + 1 - (j + 1))
                  case measure => have := HK3.out; have := HJ.out; omega
                  case rel => exact ⟨j + 1, st3, by first | rfl | exact congrArg _ wrapJ, Lib.hid rfl, Lib.hid (by have := HJL.out; omega), Lib.hid H2j.out, Lib.hid (HS3.out.below HX3), Lib.hid (HB3.out.trans (HX3.mono (by have := HS3.out.base; omega))), Lib.hid B4x, Lib.hid (by have := HZ3.out; have := HX3.size; omega)⟩
                · rw [if_neg e1] at h1j
                  have b1 : (c.f2 == 1) = false := beq_eq_false_iff_ne.mpr e1
                  by_cases e3 : c.f2 = 3
                  · rw [if_pos e3] at h1j
                    have b3 : (c.f2 == 3) = true := beq_iff_eq.mpr e3; have H1j := Lib.hid h1j; clear e1 e3 h1j; have hS3 := SolverAt.bound (HS3.out.below HX3)
                    go_wp2_with (go_at_call 34; refine (link_calls X3 B g b _ _ creds st3 st4 c p hS3 (fun k h => h.2) H1j.out).mono ?_; rintro e w8 ⟨rfl, hS8, hB8, hK8⟩)
                    go_roundg (creds.length + 1 - (j + 1))
                    case measure => have := HK3.out; have := HJ.out; omega
                    case rel => exact ⟨j + 1, st4, by first | rfl | exact congrArg _ wrapJ, Lib.hid rfl, Lib.hid (by have := HJL.out; omega), Lib.hid H2j.out, Lib.hid (hS8.mono (fun k h => h.elim (fun h => h.1) (fun h => .inr (by have := HZ3.out; have := HX3.size; omega)))), Lib.hid ((HB3.out.trans (HX3.mono (by have := HS3.out.base; omega))).trans hB8), Lib.hid ((hK8 _ (blk_lt B4x) (fun h => by have := HSZ2.out; rcases h.1 with h | h; (exact absurd h.2 (by omega)); omega)).trans B4x), Lib.hid (by have := HZ3.out; have := HX3.size; have := hB8.size; omega)⟩
                  · rw [if_neg e3] at h1j
                    have b3 : (c.f2 == 3) = false := beq_eq_false_iff_ne.mpr e3
                    by_cases e4 : c.f2 = 4
                    · rw [if_pos e4] at h1j
                      have b4 : (c.f2 == 4) = true := beq_iff_eq.mpr e4; have H1j := Lib.hid h1j; clear e1 e3 e4 h1j; have hS3 := SolverAt.bound (HS3.out.below HX3)
                      go_wp2_with (go_at_call 35; refine (both_calls X3 B g b _ _ creds st3 st4 c p hS3 H1j.out).mono ?_; rintro e w8 ⟨rfl, hS8, hB8, hK8⟩)
                      go_roundg (creds.length + 1 - (j + 1))
                      case measure => have := HK3.out; have := HJ.out; omega
                      case rel => exact ⟨j + 1, st4, by first | rfl | exact congrArg _ wrapJ, Lib.hid rfl, Lib.hid (by have := HJL.out; omega), Lib.hid H2j.out, Lib.hid (hS8.mono (fun k h => h.elim (fun h => h.1) (fun h => .inr (by have := HZ3.out; have := HX3.size; omega)))), Lib.hid ((HB3.out.trans (HX3.mono (by have := HS3.out.base; omega))).trans hB8), Lib.hid ((hK8 _ (blk_lt B4x) (fun h => by have := HSZ2.out; rcases h.1 with h | h; (exact absurd h.2 (by omega)); omega)).trans B4x), Lib.hid (by have := HZ3.out; have := HX3.size; have := hB8.size; omega)⟩
                    · rw [if_neg e4] at h1j
                      have b4 : (c.f2 == 4) = false := beq_eq_false_iff_ne.mpr e4; have H1j := Lib.hid h1j; clear e1 e3 e4 h1j; have hS3 := SolverAt.bound (HS3.out.below HX3)
                      go_wp2_with (go_at_call 33; refine (include_calls X3 B g b _ _ creds st3 st4 c p hS3 H1j.out).mono ?_; rintro e w8 ⟨rfl, hS8, hB8, hK8⟩)
                      go_roundg (creds.length + 1 - (j + 1))
                      case measure => have := HK3.out; have := HJ.out; omega
                      case rel => exact ⟨j + 1, st4, by first | rfl | exact congrArg _ wrapJ, Lib.hid rfl, Lib.hid (by have := HJL.out; omega), Lib.hid H2j.out, Lib.hid (hS8.mono (fun k h => h.elim (fun h => h.1) (fun h => .inr (by have := HZ3.out; have := HX3.size; omega)))), Lib.hid ((HB3.out.trans (HX3.mono (by have := HS3.out.base; omega))).trans hB8), Lib.hid ((hK8 _ (blk_lt B4x) (fun h => by have := HSZ2.out; rcases h.1 with h | h; (exact absurd h.2 (by omega)); omega)).trans B4x), Lib.hid (by have := HZ3.out; have := HX3.size; have := hB8.size; omega)⟩
              · have d1 : decide ((j : Int) < (creds.length : Int)) = false := decide_eq_false (by omega)
                have d2 : decide (j < creds.length) = false := decide_eq_false hj; have HE := Lib.hid (show j = creds.length by have := HJ.out; omega); clear hj; go_wp2; have hm := HM3.out; rw [HE.out, List.drop_length] at hm; obtain rfl : st3 = st2 := Option.some.inj hm
                go_roundg k1
                case measure => omega
                case rel => exact ⟨st3, Lib.hid H2.out, Lib.hid (HS3.out.mono (fun k h => h.elim (fun h => h.1) (fun h => .inr (by have := HSz.out; have := HSZ2.out; omega)))), Lib.hid (HBt.out.trans HB3.out), Lib.hid (by have := HSz.out; have := HSZ2.out; have := HZ3.out; omega)⟩
end Go.Proofs.YtpjddgmdgfjlfaaDoor.Pr
end
section
namespace Go.Proofs.YtpjddgmdgfjlfaaDoor.Pr
open Go.RowKit Go.Proofs.YtpjddgmdgfjlfaaDoorW.PrintWords Go.Proofs.YtpjddgmdgfjlfaaDoorW.PrintLast Go.Proofs.YtpjddgmdgfjlfaaDoorW.PrintMore
attribute [local go_sem] QaF QaD max_two min_two QaB QaA QaE QaC
set_option linter.unusedVariables false
set_option linter.unusedSimpArgs false
attribute [local go_sem high] eqA36
def liveryref06_In.l0 : Nat → List (S36) → Int → ByteArray → ByteArray → ByteArray → Option (Bool)
 | 0, _, _, _, _, _ => none
 | k + 1, x0, x5, x102000, x102001, x102002 => if x5 < (x0.length : Int) then (if 0 ≤ x5 then (if (((((rd_T36 x0 x5).f0.f0).toList) == x102000.toList && ((((rd_T36 x0 x5).f0.f1).toList) == x102001.toList)) && ((((rd_T36 x0 x5).f1).toList) == x102002.toList)) = true then (some true) else (liveryref06_In.l0 k x0 (wrap64 (x5 + 1)) x102000 x102001 x102002)) else (none)) else (some false)
def liveryref06_In.f (k : Nat) (l0 : List (S36)) (a1_0 : ByteArray) (a1_1 : ByteArray) (a1_2 : ByteArray) : Option (Bool) := liveryref06_In.l0 k l0 0 a1_0 a1_1 a1_2
set_option maxHeartbeats 8000000 in
set_option maxRecDepth 100000 in
theorem liveryref06_In.calls (k : Nat) (A0 : Option Addr) (c0 : Nat) (l0 : List (S36)) (a1_0 : ByteArray) (a1_1 : ByteArray) (a1_2 : ByteArray) (r : Bool) (w : World) (hr0 : Kd.C k36 w A0 l0.length l0) (hc0 : l0.length ≤ c0) (h : liveryref06_In.f k l0 a1_0 a1_1 a1_2 = some r) :
  Calls Tryd.prog 15 #[.slice A0 l0.length c0, .agg #[.string a1_0, .string a1_1, .string a1_2]] w fun e w' => e = .returned (.bool r) ∧ Below w.heap.size w w' := by
 have hu36 := Tryd.underlying36; have HR0 := Qae.mk hr0; have HC0 := Qae.mk hc0; clear hr0 hc0; have HB := Qae.mk (Below.refl w.heap.size w); have H : (liveryref06_In.l0 k l0 0 a1_0 a1_1 a1_2) = some r := h; clear h; have H' := Qae.mk H; clear H; go_enter Tryd.func15, Tryd.ntmps15
 go_wp2_with (first | ((with_reducible refine gate_dst (N := 3) rfl ?_); refine box_event ?hg (N := 3) ?hd (cs := #[.string a1_0, .string a1_1, .string a1_2]) (t := 36) ?hr ?_; (case hd => rfl); (case hg => rfl); (case hr => first | (go_simp; done) | (go_simp; rfl)); intro gb101 hg w3 hbox hb; have n0_ := Qae.mk (Qal (by repeat (first | (with_reducible first | exact HB.out | apply Qac | apply Qaa | apply Qad) | exact HB.out)) hb); have n1_ := Qae.mk (hbox); have n2_ := Qae.mk ((by rw [hg]; exact (Qaq (by repeat (first | (with_reducible first | exact HB.out | apply Qac | apply Qaa | apply Qad) | exact HB.out))) : w.heap.size ≤ gb101)); have n3_ := n2_; clear HB; have HB := n0_; have BK101 := n1_; have GW101 := n2_; have GE101 := n3_; clear n0_ n1_ n2_ n3_; clear hb hbox hg))
 repeat (go_quiet (first | ((with_reducible refine gate_dst (N := 3) rfl ?_); refine box_event ?hg (N := 3) ?hd (cs := #[.string a1_0, .string a1_1, .string a1_2]) (t := 36) ?hr ?_; (case hd => rfl); (case hg => rfl); (case hr => first | (go_simp; done) | (go_simp; rfl)); intro gb101 hg w3 hbox hb; have n0_ := Qae.mk (Qal (by repeat (first | (with_reducible first | exact HB.out | apply Qac | apply Qaa | apply Qad) | exact HB.out)) hb); have n1_ := Qae.mk (hbox); have n2_ := Qae.mk ((by rw [hg]; exact (Qaq (by repeat (first | (with_reducible first | exact HB.out | apply Qac | apply Qaa | apply Qad) | exact HB.out))) : w.heap.size ≤ gb101)); have n3_ := n2_; clear HB; have HB := n0_; have BK101 := n1_; have GW101 := n2_; have GE101 := n3_; clear n0_ n1_ n2_ n3_; clear hb hbox hg)); try go_wp2_with (first | ((with_reducible refine gate_dst (N := 3) rfl ?_); refine box_event ?hg (N := 3) ?hd (cs := #[.string a1_0, .string a1_1, .string a1_2]) (t := 36) ?hr ?_; (case hd => rfl); (case hg => rfl); (case hr => first | (go_simp; done) | (go_simp; rfl)); intro gb101 hg w3 hbox hb; have n0_ := Qae.mk (Qal (by repeat (first | (with_reducible first | exact HB.out | apply Qac | apply Qaa | apply Qad) | exact HB.out)) hb); have n1_ := Qae.mk (hbox); have n2_ := Qae.mk ((by rw [hg]; exact (Qaq (by repeat (first | (with_reducible first | exact HB.out | apply Qac | apply Qaa | apply Qad) | exact HB.out))) : w.heap.size ≤ gb101)); have n3_ := n2_; clear HB; have HB := n0_; have BK101 := n1_; have GW101 := n2_; have GE101 := n3_; clear n0_ n1_ n2_ n3_; clear hb hbox hg)))
 go_loopg [5] k (fun kq v5 w' => ∃ (x5_1 : Int), v5 = .int .i64 x5_1 ∧ Qae (liveryref06_In.l0 kq l0 x5_1 a1_0 a1_1 a1_2 = some r) ∧ Qae (kq ≤ k) ∧ Qae (w'.heap[gb101]? = some (.cells #[.string a1_0, .string a1_1, .string a1_2] 36 (0, 0))) ∧ Qae (Below w.heap.size w w'))
 case atStart => exact ⟨(0), (by first | rfl | (simp; done) | (simp [*]; done)), H', ⟨Nat.le_refl _⟩, ⟨by (with_reducible repeat (first | refine Qaf ?_ _ | refine Qaj ?_ | refine Qag ?_ _)); exact BK101.out⟩, ⟨by repeat (first | (with_reducible first | exact HB.out | apply Qac | apply Qaa | apply Qad | refine Qak ?_ GE101.out) | exact HB.out)⟩⟩
 case round =>
  clear H'; (try clear c1); (try clear p2); obtain ⟨x5_1, rfl, HA, HK1, BK101, HB⟩ := hrel
  cases gk with
  | zero => exact absurd HA.out (by simp [liveryref06_In.l0])
  | succ k1 =>
   have H := HA.out; clear HA; simp only [liveryref06_In.l0] at H
   by_cases c4 : x5_1 < (l0.length : Int)
   ·rw [if_pos c4] at H; have c4b0 : decide (x5_1 < (l0.length : Int)) = true := decide_eq_true c4; clear c4
    by_cases c5 : 0 ≤ x5_1
    ·rw [if_pos c5] at H; have c5b0 : decide (0 ≤ x5_1) = true := decide_eq_true c5; clear c5
     by_cases c6 : (((((rd_T36 l0 x5_1).f0.f0).toList) == a1_0.toList && ((((rd_T36 l0 x5_1).f0.f1).toList) == a1_1.toList)) && ((((rd_T36 l0 x5_1).f1).toList) == a1_2.toList)) = true
     ·rw [if_pos c6] at H; have c6b0 : (((((rd_T36 l0 x5_1).f0.f0).toList) == a1_0.toList && ((((rd_T36 l0 x5_1).f0.f1).toList) == a1_1.toList)) && ((((rd_T36 l0 x5_1).f1).toList) == a1_2.toList)) = true := c6; clear c6; obtain rfl := Option.some.inj H; have p102 : 0 ≤ (x5_1 : Int) := of_decide_eq_true (by first | (with_reducible assumption) | assumption); have q102 : x5_1 < (l0.length : Int) := of_decide_eq_true (by first | (with_reducible assumption) | assumption); obtain ⟨ad102, e102, hx102_0, hx102_1, hx102_2⟩ := at_T36 HR0.out x5_1 p102 q102; cases e102; replace hx102_0 := (HB.out.cell (World.block_lt_of_cell? w _ hx102_0)).trans hx102_0; replace hx102_1 := (HB.out.cell (World.block_lt_of_cell? w _ hx102_1)).trans hx102_1; replace hx102_2 := (HB.out.cell (World.block_lt_of_cell? w _ hx102_2)).trans hx102_2; replace p102 := eq_true p102; replace q102 := eq_true q102; have hcz7_0 : wr.cell? ⟨gb101, 0, none⟩ = some (.string a1_0) := (Qam BK101.out 0).trans rfl; have hcz7_1 : wr.cell? ⟨gb101, 1, none⟩ = some (.string a1_1) := (Qam BK101.out 1).trans rfl; have hcz7_2 : wr.cell? ⟨gb101, 2, none⟩ = some (.string a1_2) := (Qam BK101.out 2).trans rfl; obtain ⟨hfz7_0, hfz7_1, hfz7_2⟩ := fz_3 BK101.out; go_wp2
      repeat (go_quiet (fail); try go_wp2)
      go_ret; exact ⟨by first | rfl | (simp [Qau, Qat] <;> rfl) | (simp [*, Qau, Qat] <;> rfl), by repeat (first | (with_reducible first | exact HB.out | apply Qac | apply Qaa | apply Qad | refine Qak ?_ GE101.out) | exact HB.out)⟩
     ·rw [if_neg c6] at H
      have c6b0 : (((((rd_T36 l0 x5_1).f0.f0).toList) == a1_0.toList && ((((rd_T36 l0 x5_1).f0.f1).toList) == a1_1.toList)) && ((((rd_T36 l0 x5_1).f1).toList) == a1_2.toList)) = false := by simpa using c6
      clear c6; have H' := Qae.mk H; clear H; have p102 : 0 ≤ (x5_1 : Int) := of_decide_eq_true (by first | (with_reducible assumption) | assumption); have q102 : x5_1 < (l0.length : Int) := of_decide_eq_true (by first | (with_reducible assumption) | assumption); obtain ⟨ad102, e102, hx102_0, hx102_1, hx102_2⟩ := at_T36 HR0.out x5_1 p102 q102; cases e102; replace hx102_0 := (HB.out.cell (World.block_lt_of_cell? w _ hx102_0)).trans hx102_0; replace hx102_1 := (HB.out.cell (World.block_lt_of_cell? w _ hx102_1)).trans hx102_1; replace hx102_2 := (HB.out.cell (World.block_lt_of_cell? w _ hx102_2)).trans hx102_2; replace p102 := eq_true p102; replace q102 := eq_true q102; have hcz8_0 : wr.cell? ⟨gb101, 0, none⟩ = some (.string a1_0) := (Qam BK101.out 0).trans rfl; have hcz8_1 : wr.cell? ⟨gb101, 1, none⟩ = some (.string a1_1) := (Qam BK101.out 1).trans rfl; have hcz8_2 : wr.cell? ⟨gb101, 2, none⟩ = some (.string a1_2) := (Qam BK101.out 2).trans rfl; obtain ⟨hfz8_0, hfz8_1, hfz8_2⟩ := fz_3 BK101.out; go_wp2
      repeat (go_quiet (fail); try go_wp2)
      go_roundg k1
      case measure => have := HK1.out; omega
      case rel => exact ⟨(wrap64 (x5_1 + 1)), (by first | rfl | (simp; done) | (simp [*]; done)), H', ⟨by have := HK1.out; omega⟩, ⟨by (with_reducible repeat (first | refine Qaf ?_ _ | refine Qaj ?_ | refine Qag ?_ _)); exact BK101.out⟩, ⟨by repeat (first | (with_reducible first | exact HB.out | apply Qac | apply Qaa | apply Qad | refine Qak ?_ GE101.out) | exact HB.out)⟩⟩
    ·rw [if_neg c5] at H; exact absurd H (by simp)
   ·rw [if_neg c4] at H; have c4b0 : decide (x5_1 < (l0.length : Int)) = false := decide_eq_false c4; clear c4; obtain rfl := Option.some.inj H; go_wp2
    repeat (go_quiet (fail); try go_wp2)
    go_ret; exact ⟨by first | rfl | (simp [Qau, Qat] <;> rfl) | (simp [*, Qau, Qat] <;> rfl), by repeat (first | (with_reducible first | exact HB.out | apply Qac | apply Qaa | apply Qad | refine Qak ?_ GE101.out) | exact HB.out)⟩
end Go.Proofs.YtpjddgmdgfjlfaaDoor.Pr
end
section
namespace Go.Proofs.YtpjddgmdgfjlfaaDoor.Pr
open Go.RowKit Go.Proofs.YtpjddgmdgfjlfaaDoorW.PrintWords Go.Proofs.YtpjddgmdgfjlfaaDoorW.PrintLast Go.Proofs.YtpjddgmdgfjlfaaDoorW.PrintMore
attribute [local go_sem] QaF QaD max_two min_two QaB QaA QaE QaC
set_option linter.unusedVariables false
set_option linter.unusedSimpArgs false




end Go.Proofs.YtpjddgmdgfjlfaaDoor.Pr
end
section
namespace Go.Proofs.YtpjddgmdgfjlfaaDoor.Pr
open Go.RowKit Go.Proofs.YtpjddgmdgfjlfaaDoorW.PrintWords Go.Proofs.YtpjddgmdgfjlfaaDoorW.PrintLast Go.Proofs.YtpjddgmdgfjlfaaDoorW.PrintMore
attribute [local go_sem] QaF QaD max_two min_two QaB QaA QaE QaC
set_option linter.unusedVariables false
set_option linter.unusedSimpArgs false
attribute [local go_sem high] eqA33

end Go.Proofs.YtpjddgmdgfjlfaaDoor.Pr
end
section
namespace Go.Proofs.YtpjddgmdgfjlfaaDoor.Pr
open Go.RowKit Go.Proofs.YtpjddgmdgfjlfaaDoorW.PrintWords Go.Proofs.YtpjddgmdgfjlfaaDoorW.PrintLast Go.Proofs.YtpjddgmdgfjlfaaDoorW.PrintMore
attribute [local go_sem] QaF QaD max_two min_two QaB QaA QaE QaC
set_option linter.unusedVariables false
set_option linter.unusedSimpArgs false




end Go.Proofs.YtpjddgmdgfjlfaaDoor.Pr
end
section
namespace Go.Proofs.YtpjddgmdgfjlfaaDoor.Pr
open Go.RowKit Go.Proofs.YtpjddgmdgfjlfaaDoorW.PrintWords Go.Proofs.YtpjddgmdgfjlfaaDoorW.PrintLast Go.Proofs.YtpjddgmdgfjlfaaDoorW.PrintMore
attribute [local go_sem] QaF QaD max_two min_two QaB QaA QaE QaC
set_option linter.unusedVariables false
set_option linter.unusedSimpArgs false
attribute [local go_sem high] eqA33

end Go.Proofs.YtpjddgmdgfjlfaaDoor.Pr
end
section
namespace Go.Proofs.YtpjddgmdgfjlfaaDoor.Pr
open Go.RowKit Go.Proofs.YtpjddgmdgfjlfaaDoorW.PrintWords Go.Proofs.YtpjddgmdgfjlfaaDoorW.PrintLast Go.Proofs.YtpjddgmdgfjlfaaDoorW.PrintMore
attribute [local go_sem] QaF QaD max_two min_two QaB QaA QaE QaC
set_option linter.unusedVariables false
set_option linter.unusedSimpArgs false


end Go.Proofs.YtpjddgmdgfjlfaaDoor.Pr
end
section
namespace Go.Proofs.YtpjddgmdgfjlfaaDoor.Pr
open Go.RowKit Go.Proofs.YtpjddgmdgfjlfaaDoorW.PrintWords Go.Proofs.YtpjddgmdgfjlfaaDoorW.PrintLast Go.Proofs.YtpjddgmdgfjlfaaDoorW.PrintMore
attribute [local go_sem] QaF QaD max_two min_two QaB QaA QaE QaC
set_option linter.unusedVariables false
set_option linter.unusedSimpArgs false
attribute [local go_sem high] eqA44

end Go.Proofs.YtpjddgmdgfjlfaaDoor.Pr
end
section
namespace Go.Proofs.YtpjddgmdgfjlfaaDoor.Pr
open Go.RowKit Go.Proofs.YtpjddgmdgfjlfaaDoorW.PrintWords Go.Proofs.YtpjddgmdgfjlfaaDoorW.PrintLast Go.Proofs.YtpjddgmdgfjlfaaDoorW.PrintMore
attribute [local go_sem] QaF QaD max_two min_two QaB QaA QaE QaC
set_option linter.unusedVariables false
set_option linter.unusedSimpArgs false

end Go.Proofs.YtpjddgmdgfjlfaaDoor.Pr
end
section
namespace Go.Proofs.YtpjddgmdgfjlfaaDoor.Pr
open Go.RowKit Go.Proofs.YtpjddgmdgfjlfaaDoorW.PrintWords Go.Proofs.YtpjddgmdgfjlfaaDoorW.PrintLast Go.Proofs.YtpjddgmdgfjlfaaDoorW.PrintMore
attribute [local go_sem] QaF QaD max_two min_two QaB QaA QaE QaC
set_option linter.unusedVariables false
set_option linter.unusedSimpArgs false
attribute [local go_sem high] eqA33

end Go.Proofs.YtpjddgmdgfjlfaaDoor.Pr
end
section
namespace Go.Proofs.YtpjddgmdgfjlfaaDoor.Pr
open Go.RowKit Go.Proofs.YtpjddgmdgfjlfaaDoorW.PrintWords Go.Proofs.YtpjddgmdgfjlfaaDoorW.PrintLast Go.Proofs.YtpjddgmdgfjlfaaDoorW.PrintMore
attribute [local go_sem] QaF QaD max_two min_two QaB QaA QaE QaC
set_option linter.unusedVariables false
set_option linter.unusedSimpArgs false

end Go.Proofs.YtpjddgmdgfjlfaaDoor.Pr
end
section
namespace Go.Proofs.YtpjddgmdgfjlfaaDoor.Pr
open Go.RowKit Go.Proofs.YtpjddgmdgfjlfaaDoorW.PrintWords Go.Proofs.YtpjddgmdgfjlfaaDoorW.PrintLast Go.Proofs.YtpjddgmdgfjlfaaDoorW.PrintMore
attribute [local go_sem] QaF QaD max_two min_two QaB QaA QaE QaC
set_option linter.unusedVariables false
set_option linter.unusedSimpArgs false
attribute [local go_sem high] eqA47
def solve_Pair_40.l0 : Nat → List (S47) → Int → Int → ByteArray → ByteArray → ByteArray → Option (Int)
 | 0, _, _, _, _, _, _ => none
 | k + 1, x0, x7, x8, x102000, x102001, x102002 => if x8 < x7 then (if 0 ≤ x8 then (if x8 < (x0.length : Int) then (if ((x102000.toList == (((rd_T47 x0 x8).f0.f0).toList) && (x102001.toList == (((rd_T47 x0 x8).f0.f1).toList))) && (x102002.toList == (((rd_T47 x0 x8).f1).toList))) = true then (some x8) else (solve_Pair_40.l0 k x0 x7 (wrap64 (x8 + 1)) x102000 x102001 x102002)) else (none)) else (none)) else (some (-1))
def solve_Pair_40.f (k : Nat) (l0 : List (S47)) (a1_0 : ByteArray) (a1_1 : ByteArray) (a1_2 : ByteArray) : Option (Int) := solve_Pair_40.l0 k l0 (l0.length : Int) 0 a1_0 a1_1 a1_2
set_option maxHeartbeats 8000000 in
set_option maxRecDepth 100000 in
theorem solve_Pair_40.calls (k : Nat) (A0 : Option Addr) (c0 : Nat) (l0 : List (S47)) (a1_0 : ByteArray) (a1_1 : ByteArray) (a1_2 : ByteArray) (r : Int) (w : World) (hr0 : Kd.C k47 w A0 l0.length l0) (hc0 : l0.length ≤ c0) (h : solve_Pair_40.f k l0 a1_0 a1_1 a1_2 = some r) :
  Calls Tryd.prog 40 #[.slice A0 l0.length c0, .agg #[.string a1_0, .string a1_1, .string a1_2]] w fun e w' => e = .returned (.int .i64 r) ∧ Below w.heap.size w w' := by
 have hu47 := Tryd.underlying47; have HR0 := Qae.mk hr0; have HC0 := Qae.mk hc0; clear hr0 hc0; have HB := Qae.mk (Below.refl w.heap.size w); have H : (solve_Pair_40.l0 k l0 (l0.length : Int) 0 a1_0 a1_1 a1_2) = some r := h; clear h; have H' := Qae.mk H; clear H; go_enter Tryd.func40, Tryd.ntmps40
 go_wp2_with (first | ((with_reducible refine gate_dst (N := 3) rfl ?_); refine box_event ?hg (N := 3) ?hd (cs := #[.string a1_0, .string a1_1, .string a1_2]) (t := 47) ?hr ?_; (case hd => rfl); (case hg => rfl); (case hr => first | (go_simp; done) | (go_simp; rfl)); intro gb101 hg w3 hbox hb; have n0_ := Qae.mk (Qal (by repeat (first | (with_reducible first | exact HB.out | apply Qac | apply Qaa | apply Qad) | exact HB.out)) hb); have n1_ := Qae.mk (hbox); have n2_ := Qae.mk ((by rw [hg]; exact (Qaq (by repeat (first | (with_reducible first | exact HB.out | apply Qac | apply Qaa | apply Qad) | exact HB.out))) : w.heap.size ≤ gb101)); have n3_ := n2_; clear HB; have HB := n0_; have BK101 := n1_; have GW101 := n2_; have GE101 := n3_; clear n0_ n1_ n2_ n3_; clear hb hbox hg))
 repeat (go_quiet (first | ((with_reducible refine gate_dst (N := 3) rfl ?_); refine box_event ?hg (N := 3) ?hd (cs := #[.string a1_0, .string a1_1, .string a1_2]) (t := 47) ?hr ?_; (case hd => rfl); (case hg => rfl); (case hr => first | (go_simp; done) | (go_simp; rfl)); intro gb101 hg w3 hbox hb; have n0_ := Qae.mk (Qal (by repeat (first | (with_reducible first | exact HB.out | apply Qac | apply Qaa | apply Qad) | exact HB.out)) hb); have n1_ := Qae.mk (hbox); have n2_ := Qae.mk ((by rw [hg]; exact (Qaq (by repeat (first | (with_reducible first | exact HB.out | apply Qac | apply Qaa | apply Qad) | exact HB.out))) : w.heap.size ≤ gb101)); have n3_ := n2_; clear HB; have HB := n0_; have BK101 := n1_; have GW101 := n2_; have GE101 := n3_; clear n0_ n1_ n2_ n3_; clear hb hbox hg)); try go_wp2_with (first | ((with_reducible refine gate_dst (N := 3) rfl ?_); refine box_event ?hg (N := 3) ?hd (cs := #[.string a1_0, .string a1_1, .string a1_2]) (t := 47) ?hr ?_; (case hd => rfl); (case hg => rfl); (case hr => first | (go_simp; done) | (go_simp; rfl)); intro gb101 hg w3 hbox hb; have n0_ := Qae.mk (Qal (by repeat (first | (with_reducible first | exact HB.out | apply Qac | apply Qaa | apply Qad) | exact HB.out)) hb); have n1_ := Qae.mk (hbox); have n2_ := Qae.mk ((by rw [hg]; exact (Qaq (by repeat (first | (with_reducible first | exact HB.out | apply Qac | apply Qaa | apply Qad) | exact HB.out))) : w.heap.size ≤ gb101)); have n3_ := n2_; clear HB; have HB := n0_; have BK101 := n1_; have GW101 := n2_; have GE101 := n3_; clear n0_ n1_ n2_ n3_; clear hb hbox hg)))
 go_loopg [8] k (fun kq v8 w' => ∃ (x8_1 : Int), v8 = .int .i64 x8_1 ∧ Qae (solve_Pair_40.l0 kq l0 (l0.length : Int) x8_1 a1_0 a1_1 a1_2 = some r) ∧ Qae (kq ≤ k) ∧ Qae (w'.heap[gb101]? = some (.cells #[.string a1_0, .string a1_1, .string a1_2] 47 (0, 0))) ∧ Qae (Below w.heap.size w w'))
 case atStart => exact ⟨(0), (by first | rfl | (simp; done) | (simp [*]; done)), H', ⟨Nat.le_refl _⟩, ⟨by (with_reducible repeat (first | refine Qaf ?_ _ | refine Qaj ?_ | refine Qag ?_ _)); exact BK101.out⟩, ⟨by repeat (first | (with_reducible first | exact HB.out | apply Qac | apply Qaa | apply Qad | refine Qak ?_ GE101.out) | exact HB.out)⟩⟩
 case round =>
  clear H'; (try clear p2); obtain ⟨x8_1, rfl, HA, HK1, BK101, HB⟩ := hrel
  cases gk with
  | zero => exact absurd HA.out (by simp [solve_Pair_40.l0])
  | succ k1 =>
   have H := HA.out; clear HA; simp only [solve_Pair_40.l0] at H
   by_cases c4 : x8_1 < (l0.length : Int)
   ·rw [if_pos c4] at H; have c4b0 : decide (x8_1 < (l0.length : Int)) = true := decide_eq_true c4; clear c4
    by_cases c5 : 0 ≤ x8_1
    ·rw [if_pos c5] at H; have c5b0 : decide (0 ≤ x8_1) = true := decide_eq_true c5; clear c5
     by_cases c6 : x8_1 < (l0.length : Int)
     ·rw [if_pos c6] at H; have c6b0 : decide (x8_1 < (l0.length : Int)) = true := decide_eq_true c6; clear c6
      by_cases c7 : ((a1_0.toList == (((rd_T47 l0 x8_1).f0.f0).toList) && (a1_1.toList == (((rd_T47 l0 x8_1).f0.f1).toList))) && (a1_2.toList == (((rd_T47 l0 x8_1).f1).toList))) = true
      ·rw [if_pos c7] at H; have c7b0 : ((a1_0.toList == (((rd_T47 l0 x8_1).f0.f0).toList) && (a1_1.toList == (((rd_T47 l0 x8_1).f0.f1).toList))) && (a1_2.toList == (((rd_T47 l0 x8_1).f1).toList))) = true := c7; clear c7; obtain rfl := Option.some.inj H; have hcz8_0 : wr.cell? ⟨gb101, 0, none⟩ = some (.string a1_0) := (Qam BK101.out 0).trans rfl; have hcz8_1 : wr.cell? ⟨gb101, 1, none⟩ = some (.string a1_1) := (Qam BK101.out 1).trans rfl; have hcz8_2 : wr.cell? ⟨gb101, 2, none⟩ = some (.string a1_2) := (Qam BK101.out 2).trans rfl; obtain ⟨hfz8_0, hfz8_1, hfz8_2⟩ := fz_3 BK101.out; have p102 : 0 ≤ (x8_1 : Int) := of_decide_eq_true (by first | (with_reducible assumption) | assumption); have q102 : x8_1 < (l0.length : Int) := of_decide_eq_true (by first | (with_reducible assumption) | assumption); obtain ⟨ad102, e102, hx102_0, hx102_1, hx102_2⟩ := at_T47 HR0.out x8_1 p102 q102; cases e102; replace hx102_0 := (HB.out.cell (World.block_lt_of_cell? w _ hx102_0)).trans hx102_0; replace hx102_1 := (HB.out.cell (World.block_lt_of_cell? w _ hx102_1)).trans hx102_1; replace hx102_2 := (HB.out.cell (World.block_lt_of_cell? w _ hx102_2)).trans hx102_2; replace p102 := eq_true p102; replace q102 := eq_true q102; go_wp2
       repeat (go_quiet (fail); try go_wp2)
       go_ret; exact ⟨by first | rfl | (simp [Qau, Qat] <;> rfl) | (simp [*, Qau, Qat] <;> rfl), by repeat (first | (with_reducible first | exact HB.out | apply Qac | apply Qaa | apply Qad | refine Qak ?_ GE101.out) | exact HB.out)⟩
      ·rw [if_neg c7] at H
       have c7b0 : ((a1_0.toList == (((rd_T47 l0 x8_1).f0.f0).toList) && (a1_1.toList == (((rd_T47 l0 x8_1).f0.f1).toList))) && (a1_2.toList == (((rd_T47 l0 x8_1).f1).toList))) = false := by simpa using c7
       clear c7; have H' := Qae.mk H; clear H; have hcz9_0 : wr.cell? ⟨gb101, 0, none⟩ = some (.string a1_0) := (Qam BK101.out 0).trans rfl; have hcz9_1 : wr.cell? ⟨gb101, 1, none⟩ = some (.string a1_1) := (Qam BK101.out 1).trans rfl; have hcz9_2 : wr.cell? ⟨gb101, 2, none⟩ = some (.string a1_2) := (Qam BK101.out 2).trans rfl; obtain ⟨hfz9_0, hfz9_1, hfz9_2⟩ := fz_3 BK101.out; have p102 : 0 ≤ (x8_1 : Int) := of_decide_eq_true (by first | (with_reducible assumption) | assumption); have q102 : x8_1 < (l0.length : Int) := of_decide_eq_true (by first | (with_reducible assumption) | assumption); obtain ⟨ad102, e102, hx102_0, hx102_1, hx102_2⟩ := at_T47 HR0.out x8_1 p102 q102; cases e102; replace hx102_0 := (HB.out.cell (World.block_lt_of_cell? w _ hx102_0)).trans hx102_0; replace hx102_1 := (HB.out.cell (World.block_lt_of_cell? w _ hx102_1)).trans hx102_1; replace hx102_2 := (HB.out.cell (World.block_lt_of_cell? w _ hx102_2)).trans hx102_2; replace p102 := eq_true p102; replace q102 := eq_true q102; go_wp2
       repeat (go_quiet (fail); try go_wp2)
       go_roundg k1
       case measure => have := HK1.out; omega
       case rel => exact ⟨(wrap64 (x8_1 + 1)), (by first | rfl | (simp; done) | (simp [*]; done)), H', ⟨by have := HK1.out; omega⟩, ⟨by (with_reducible repeat (first | refine Qaf ?_ _ | refine Qaj ?_ | refine Qag ?_ _)); exact BK101.out⟩, ⟨by repeat (first | (with_reducible first | exact HB.out | apply Qac | apply Qaa | apply Qad | refine Qak ?_ GE101.out) | exact HB.out)⟩⟩
     ·rw [if_neg c6] at H; exact absurd H (by simp)
    ·rw [if_neg c5] at H; exact absurd H (by simp)
   ·rw [if_neg c4] at H; have c4b0 : decide (x8_1 < (l0.length : Int)) = false := decide_eq_false c4; clear c4; obtain rfl := Option.some.inj H; go_wp2
    repeat (go_quiet (fail); try go_wp2)
    go_ret; exact ⟨by first | rfl | (simp [Qau, Qat] <;> rfl) | (simp [*, Qau, Qat] <;> rfl), by repeat (first | (with_reducible first | exact HB.out | apply Qac | apply Qaa | apply Qad | refine Qak ?_ GE101.out) | exact HB.out)⟩
end Go.Proofs.YtpjddgmdgfjlfaaDoor.Pr
end
section
namespace Go.Proofs.YtpjddgmdgfjlfaaDoor.Pr
open Go.RowKit Go.Proofs.YtpjddgmdgfjlfaaDoorW.PrintWords Go.Proofs.YtpjddgmdgfjlfaaDoorW.PrintLast Go.Proofs.YtpjddgmdgfjlfaaDoorW.PrintMore
attribute [local go_sem] QaF QaD max_two min_two QaB QaA QaE QaC
set_option linter.unusedVariables false
set_option linter.unusedSimpArgs false
def solve_Pair_25.f (k : Nat) (l0 : List (S47)) (a1_0 : ByteArray) (a1_1 : ByteArray) (a1_2 : ByteArray) : Option (Bool) := (solve_Pair_40.f k l0 a1_0 a1_1 a1_2).bind fun t102 => (some (decide (t102 ≥ 0)))
set_option maxHeartbeats 8000000 in
set_option maxRecDepth 100000 in
theorem solve_Pair_25.calls (k : Nat) (A0 : Option Addr) (c0 : Nat) (l0 : List (S47)) (a1_0 : ByteArray) (a1_1 : ByteArray) (a1_2 : ByteArray) (r : Bool) (w : World) (hr0 : Kd.C k47 w A0 l0.length l0) (hc0 : l0.length ≤ c0) (h : solve_Pair_25.f k l0 a1_0 a1_1 a1_2 = some r) :
  Calls Tryd.prog 25 #[.slice A0 l0.length c0, .agg #[.string a1_0, .string a1_1, .string a1_2]] w fun e w' => e = .returned (.bool r) ∧ Below w.heap.size w w' := by
 have hu47 := Tryd.underlying47; have HR0 := Qae.mk hr0; have HC0 := Qae.mk hc0; clear hr0 hc0; have HB := Qae.mk (Below.refl w.heap.size w); have H : ((solve_Pair_40.f k l0 a1_0 a1_1 a1_2).bind fun t102 => (some (decide (t102 ≥ 0)))) = some r := h; clear h; replace H := Option.bind_eq_some_iff.mp H; obtain ⟨t102, A30, H⟩ := H; replace H : (some (decide (t102 ≥ 0))) = some r := H; have A3 := Qae.mk A30; clear A30; obtain rfl := Option.some.inj H; go_enter Tryd.func25, Tryd.ntmps25
 go_wp2_with (first | ((with_reducible refine gate_dst (N := 3) rfl ?_); refine box_event ?hg (N := 3) ?hd (cs := #[.string a1_0, .string a1_1, .string a1_2]) (t := 47) ?hr ?_; (case hd => rfl); (case hg => rfl); (case hr => first | (go_simp; done) | (go_simp; rfl)); intro gb101 hg w4 hbox hb; have n0_ := Qae.mk (Qal (by repeat (first | (with_reducible first | exact HB.out | apply Qac | apply Qaa | apply Qad) | exact HB.out)) hb); have n1_ := Qae.mk (hbox); have n2_ := Qae.mk ((by rw [hg]; exact (Qaq (by repeat (first | (with_reducible first | exact HB.out | apply Qac | apply Qaa | apply Qad) | exact HB.out))) : w.heap.size ≤ gb101)); have n3_ := n2_; clear HB; have HB := n0_; have BK101 := n1_; have GW101 := n2_; have GE101 := n3_; clear n0_ n1_ n2_ n3_; clear hb hbox hg; obtain ⟨hcz5_0, hcz5_1, hcz5_2⟩ := cz_sss BK101.out; obtain ⟨hfz5_0, hfz5_1, hfz5_2⟩ := fz_3 BK101.out) | ((with_reducible refine Qav (f := 40) rfl ?_); refine goesL_ (some 7) rfl rfl Tryd.func40 (by kernel_rfl) rfl #[.slice A0 l0.length c0, .agg #[.string a1_0, .string a1_1, .string a1_2]] rfl (by (try simp only [List.map_toArray, List.map_cons, List.map_nil]); first | done | rfl | (simp only [List.length_drop, List.length_take]; rfl)) ?_; (with_reducible refine (solve_Pair_40.calls k _ _ l0 a1_0 a1_1 a1_2 t102 _ ?side1 ?side2 A3.out).mono ?_); (case side1 => repeat (first | exact (Kd.C_below HR0.out HB.out) | (with_reducible refine Kd.C_alloc ?_ _) | (with_reducible refine Kd.C_drewN ?_ _) | (with_reducible refine Kd.C_drew ?_))); (case side2 => exact HC0.out); rintro e w6 ⟨rfl, hb⟩; refine ⟨_, rfl, ?_⟩; have n0_ := Qae.mk (Qax (g := gb101) (o := ob_sss a1_0 a1_1 a1_2 47) (by (with_reducible repeat (first | refine Qaf ?_ _ | refine Qaj ?_ | refine Qag ?_ _)); exact BK101.out) hb); have n1_ := Qae.mk (Qal (by repeat (first | (with_reducible first | exact HB.out | apply Qac | apply Qaa | apply Qad | refine Qak ?_ GE101.out) | exact HB.out)) hb); clear BK101; clear HB; have BK101 := n0_; have HB := n1_; clear n0_ n1_; (try clear hb); (try clear hb2); (try clear hk); (try clear hi)))
 go_ret; exact ⟨by first | rfl | (simp [Qau, Qat] <;> rfl) | (simp [*, Qau, Qat] <;> rfl), by repeat (first | (with_reducible first | exact HB.out | apply Qac | apply Qaa | apply Qad | refine Qak ?_ GE101.out) | exact HB.out)⟩
end Go.Proofs.YtpjddgmdgfjlfaaDoor.Pr
end
section
namespace Go.Proofs.YtpjddgmdgfjlfaaDoor.Pr
open Go.RowKit Go.Proofs.YtpjddgmdgfjlfaaDoorW.PrintWords Go.Proofs.YtpjddgmdgfjlfaaDoorW.PrintLast Go.Proofs.YtpjddgmdgfjlfaaDoorW.PrintMore
attribute [local go_sem] QaF QaD max_two min_two QaB QaA QaE QaC
set_option linter.unusedVariables false
set_option linter.unusedSimpArgs false
attribute [local go_sem high] eqA46

end Go.Proofs.YtpjddgmdgfjlfaaDoor.Pr
end
section
namespace Go.Proofs.YtpjddgmdgfjlfaaDoor.Pr
theorem nodup_le {α : Type} [DecidableEq α] : ∀ {l m : List α}, l.Nodup → (∀ x ∈ l, x ∈ m) → l.length ≤ m.length
  | [], m, _, _ => Nat.zero_le _
  | a :: l, m, h, hs => by
    have ha := hs a (List.mem_cons_self ..); rw [List.nodup_cons] at h; have := nodup_le (m := m.erase a) h.2 (fun x hx => (List.mem_erase_of_ne (fun e : x = a => h.1 (e ▸ hx))).mpr (hs x (List.mem_cons_of_mem _ hx))); rw [List.length_erase_of_mem ha] at this; have := List.length_pos_of_mem ha; simp only [List.length_cons]; omega
theorem sorted_eq {α : Type} {R : α → α → Prop} (hi : ∀ x, ¬ R x x) (ht : ∀ x y z, R x y → R y z → R x z) : ∀ {a b : List α}, a.Pairwise R → b.Pairwise R → (∀ x, x ∈ a ↔ x ∈ b) → a = b
  | [], [], _, _, _ => rfl
  | [], y :: b, _, _, h => absurd ((h y).mpr (List.mem_cons_self ..)) (List.not_mem_nil)
  | x :: a, [], _, _, h => absurd ((h x).mp (List.mem_cons_self ..)) (List.not_mem_nil)
  | x :: a, y :: b, ha, hb, h => by
    rw [List.pairwise_cons] at ha hb
    have exy : x = y := by
      rcases List.mem_cons.mp ((h x).mp (List.mem_cons_self ..)) with e | h1
      · exact e
      · rcases List.mem_cons.mp ((h y).mpr (List.mem_cons_self ..)) with e | h2
        · exact e.symm
        · exact absurd (ht _ _ _ (ha.1 _ h2) (hb.1 _ h1)) (hi x)
    subst exy
    congr 1
    refine sorted_eq hi ht ha.2 hb.2 fun z => ⟨fun hz => ?_, fun hz => ?_⟩
    · rcases List.mem_cons.mp ((h z).mp (List.mem_cons_of_mem _ hz)) with e | h1
      · subst e; exact absurd (ha.1 _ hz) (hi z)
      · exact h1
    · rcases List.mem_cons.mp ((h z).mpr (List.mem_cons_of_mem _ hz)) with e | h1
      · subst e; exact absurd (hb.1 _ hz) (hi z)
      · exact h1
theorem sorted_nodup {α : Type} {R : α → α → Prop} (hi : ∀ x, ¬ R x x) {l : List α} (h : l.Pairwise R) : l.Nodup :=
  h.imp fun {a b} hab (e : a = b) => hi a (by subst e; exact hab)
section
variable {α : Type} [Inhabited α]
theorem swp_split (d : Array α) (j : Nat) (h : j + 1 < d.size) : ∃ a b, d.toList = a ++ d[j]! :: d[j + 1]! :: b ∧ (Go.Sort.swp d (j + 1) j).toList = a ++ d[j + 1]! :: d[j]! :: b := by
  have h1 : j < d.toList.length := by simp; omega
  have h2 : j + 1 < d.toList.length := by simp; omega
  have e : d.toList = d.toList.take j ++ d[j]! :: d[j + 1]! :: d.toList.drop (j + 2) := by
    rw [getElem!_pos d j (by omega), getElem!_pos d (j + 1) h]
    conv => lhs; rw [← List.take_append_drop j d.toList, List.drop_eq_getElem_cons h1, List.drop_eq_getElem_cons h2]
    rfl
  have hl : (d.toList.take j).length = j := by simp; omega
  generalize d.toList.take j = a at e hl
  generalize d.toList.drop (j + 2) = b at e
  refine ⟨a, b, e, ?_⟩; unfold Go.Sort.swp; rw [Array.toList_setIfInBounds, Array.toList_setIfInBounds]
  generalize d[j]! = x at *
  generalize d[j + 1]! = y at *
  rw [e]; rw [List.set_append_right _ _ (by omega), show j + 1 - a.length = 1 by omega, List.set_append_right _ _ (by omega), show j - a.length = 0 by omega]; rfl
theorem swp_size (d : Array α) (i j : Nat) : (Go.Sort.swp d i j).size = d.size := by simp [Go.Sort.swp]
theorem inner_filter (lt : α → α → Bool) (q : α → Bool) (hq : ∀ x y, lt x y = true → q x = true → q y = true → False) (a : Nat) : ∀ (j : Nat) (d : Array α), j < d.size → (Go.Sort.insInner lt a j d).toList.filter q = d.toList.filter q ∧ (Go.Sort.insInner lt a j d).size = d.size
  | 0, d, _ => ⟨rfl, rfl⟩
  | j + 1, d, h => by
    rw [Go.Sort.insInner]
    by_cases c : (decide (j + 1 > a) && lt d[j + 1]! d[j]!) = true
    · rw [if_pos c]
      rw [Bool.and_eq_true] at c; obtain ⟨l, r, e1, e2⟩ := swp_split d j h; have ih := inner_filter lt q hq a j (Go.Sort.swp d (j + 1) j) (by rw [swp_size]; omega); refine ⟨ih.1.trans ?_, ih.2.trans (swp_size _ _ _)⟩; rw [e1, e2, List.filter_append, List.filter_append]
      congr 1
      have := hq _ _ c.2; simp only [List.filter_cons]
      cases h1 : q d[j]! <;> cases h2 : q d[j + 1]! <;> simp_all
    · rw [if_neg c]
      exact ⟨rfl, rfl⟩
theorem outer_filter (lt : α → α → Bool) (q : α → Bool) (hq : ∀ x y, lt x y = true → q x = true → q y = true → False) (a b : Nat) : ∀ (n i : Nat) (d : Array α), b - i ≤ n → b ≤ d.size → (Go.Sort.insOuter lt a b i d).toList.filter q = d.toList.filter q
  | 0, i, d, h, hb => by
    rw [Go.Sort.insOuter, if_neg (by omega)]
  | n + 1, i, d, h, hb => by
    rw [Go.Sort.insOuter]
    by_cases c : i < b
    · rw [if_pos c]
      have := inner_filter lt q hq a i d (by omega); exact (outer_filter lt q hq a b n (i + 1) _ (by omega) (by rw [this.2]; exact hb)).trans this.1
    · rw [if_neg c]
theorem insertion_filter (lt : α → α → Bool) (q : α → Bool) (hq : ∀ x y, lt x y = true → q x = true → q y = true → False) (l : List α) : (Go.Sort.insertionSort lt l.toArray 0 l.length).toList.filter q = l.filter q := by
  have := outer_filter lt q hq 0 l.length l.length 1 l.toArray (by omega) (by simp)
  simpa [Go.Sort.insertionSort] using this
theorem insertion_sorted (lt : α → α → Bool) (h : Go.Sort.SWO lt) (l : List α) : (Go.Sort.insertionSort lt l.toArray 0 l.length).toList.Pairwise (fun x y => lt y x = false) := by
  obtain ⟨⟨hs, _, _⟩, hp⟩ := Go.Sort.insertionSort_holds h l.toArray 0 l.length (Nat.zero_le _) (by simp); rw [List.pairwise_iff_getElem]; intro i j hi hj hij
  have hsz : (Go.Sort.insertionSort lt l.toArray 0 l.length).size = l.length := by rw [hs]; simp
  have hj' : j < (Go.Sort.insertionSort lt l.toArray 0 l.length).size := by simpa using hj
  have := hp i j (Nat.zero_le _) hij (by omega); rw [getElem!_pos _ j hj', getElem!_pos _ i (by omega)] at this
  simpa using this
end
def Ev {α : Type} (f : Nat → Option α) (v : α) : Prop := ∃ K, ∀ k, K ≤ k → f k = some v
theorem Ev.from {α : Type} {f : Nat → Option α} {v : α} (K : Nat) (h : ∀ k, K ≤ k → f k = some v) : Ev f v := ⟨K, h⟩
theorem Ev.pure {α : Type} (v : α) : Ev (fun _ => some v) v := ⟨0, fun _ _ => rfl⟩
theorem Ev.step {α : Type} {f g : Nat → Option α} {v : α} (e : ∀ k, f (k + 1) = g k) (h : Ev g v) : Ev f v := by
  obtain ⟨K, h⟩ := h; refine ⟨K + 1, fun k hk => ?_⟩
  obtain ⟨j, rfl⟩ : ∃ j, k = j + 1 := ⟨k - 1, by omega⟩
  rw [e, h j (by omega)]
theorem Ev.congr {α : Type} {f g : Nat → Option α} {v : α} (e : ∀ k, f k = g k) (h : Ev g v) : Ev f v := by
  obtain ⟨K, h⟩ := h; exact ⟨K, fun k hk => (e k).trans (h k hk)⟩
theorem Ev.bind {α β : Type} {g : Nat → Option β} {h : Nat → β → Option α} {a : β} {v : α} (hg : Ev g a) (hh : Ev (fun k => h k a) v) : Ev (fun k => (g k).bind (h k)) v := by
  obtain ⟨K, hg⟩ := hg; obtain ⟨K', hh⟩ := hh; refine ⟨K + K', fun k hk => ?_⟩
  show (g k).bind (h k) = some v
  rw [hg k (by omega), Option.bind_some]; exact hh k (by omega)
theorem Ev.eq {α : Type} {f : Nat → Option α} {v v' : α} (h : Ev f v) (h' : Ev f v') : v = v' := by
  obtain ⟨K, h⟩ := h; obtain ⟨K', h'⟩ := h'; exact Option.some.inj ((h (K + K') (by omega)).symm.trans (h' (K + K') (by omega)))
section
variable {α : Type} [Inhabited α]
end
end Go.Proofs.YtpjddgmdgfjlfaaDoor.Pr
end
