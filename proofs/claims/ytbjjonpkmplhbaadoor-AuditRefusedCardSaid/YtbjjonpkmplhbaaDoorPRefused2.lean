/- The proof's own texts, joined: part 2. No conditions. -/
import Derived.WalkKit
import Derived.WalkSpells
import Derived.WalkLawsBesides
import Derived.Lib.Hide
import Derived.Deep.QuietTactic
import Derived.Deep.RegionWith
import Derived.BigQuiet
import Derived.RegionTactic
import Derived.ChangeAlike
import Derived.Deep.RegionLaw
import Derived.Lib.SmallJoins
import Derived.Lib.SlicesS
import Derived.StillTailTactics
import Derived.Test.YtbjjonpkmplhbaaDoorProg
import Derived.Below
import Derived.Outline
import Derived.DeepKeys4
import Derived.KernelRfl
import Derived.Laws.RangeAny
import Derived.Laws.Closers25
import Derived.Sort.Walk0
import Derived.Laws.Strings
import Derived.Deep.Draws
import Derived.Deep.AppendLies
import Derived.Maps.AppendAt
import Derived.OwnWalk
import Derived.Laws.BytesArg
import Derived.Laws.MakeOwn
import Derived.Laws.OwnMore
import Derived.Deep.OwnRows
import Derived.Tactics
import Derived.Lib.ConvBytes
import Derived.Laws.Slices
import Derived.RowKit3
import Derived.Deep.LoopGhost
import Derived.WideLaws
import Derived.Deep.DeepCutAuto
import Derived.Deep.CutBlock
import Derived.Deep.RegionHeld3
import Derived.Laws.Rows
import Derived.Lib.AppendStr
import Derived.ArgAppend
import Derived.Laws.IdiomCopy
import Derived.OrdersHeld
import Derived.Laws.BitsLemmas
import Derived.RowKit
import Derived.Shelf.SlSortCmp.NoneTotal
import Derived.Shelf.SlicesE.Clone
import Derived.Sort.Grow
import Derived.Shelf.SlicesG.Cmp
import Derived.Shelf.GgSortFunc.InsertionK
import Derived.Shelf.SlSortCmp.WholeK
import Derived.Ground.SlsfProg
import Derived.Ground.SlgnProg
import Derived.Ground.SlgcProg
import Derived.Maps.OwnSet
import Derived.Maps.RangeRun
import Derived.Maps.Range
import Derived.Carry
import Derived.Laws.StructEq
import Derived.ProofKit
import Derived.ChangeSlices
import Derived.DataElems
import Derived.Deep.MidRow
import Derived.Deep.WholeRow
import Derived.Sort.LotA
import Derived.ChangeMaps4
import Derived.Test.YtbjjonpkmplhbaaDoorPRefused0
import Derived.Test.YtbjjonpkmplhbaaDoorPRefused1
section
namespace Go.Proofs.YtbjjonpkmplhbaaDoor.Pr
open Go.RowKit Go.Proofs.YtbjjonpkmplhbaaDoorW.PrintWords Go.Proofs.YtbjjonpkmplhbaaDoorW.PrintLast Go.Proofs.YtbjjonpkmplhbaaDoorW.PrintMore
set_option linter.unusedVariables false
set_option linter.unusedSimpArgs false
theorem empty_iff (x : ByteArray) : x.toList = [] ↔ x = ⟨#[]⟩ := by
  rw [← toList_iff, show (⟨#[]⟩ : ByteArray).toList = [] by unfold ByteArray.toList; rw [ByteArray.toList.loop]; rfl]
def roleOk (r : Role) : Bool := decide (numName r.f0 > 0) && mayName r.f1
def bareOk (r : Role) : Bool := noText r.f0 && mayName r.f1
def credMay (c : Cred) : Bool :=
  (decide (1 ≤ c.f0.f0 ∧ c.f0.f0 ≤ 16) && decide (1 ≤ c.f0.f1 ∧ c.f0.f1 ≤ 4000) && mayName c.f1) &&
  (if c.f2 = 1 then mayName c.f3 && (noRole c.f4 && noRole c.f5) else if c.f2 = 2 then roleOk c.f4 && (noRole c.f5 && noText c.f3)
    else if c.f2 = 3 then bareOk c.f4 && (bareOk c.f5 && noText c.f3) else if c.f2 = 4 then roleOk c.f4 && (roleOk c.f5 && noText c.f3) else false)
def okCred (c : Cred) : Prop := c.f1.size ≤ maxLen ∧ c.f3.size ≤ maxLen ∧ (c.f4.f0.size ≤ maxLen ∧ c.f4.f1.size ≤ maxLen) ∧ c.f5.f0.size ≤ maxLen ∧ c.f5.f1.size ≤ maxLen
theorem may_is {s : ByteArray} (h : s.size ≤ maxLen) : QaE.f s = some (mayName s) := by
  unfold QaE.f; rw [if_pos h]
theorem role_is (r : Role) (h : r.f1.size ≤ maxLen) (k : Nat) (hk : 17 ≤ k) : QaD.f k r.f0 r.f1 = some (roleOk r) := by
  unfold QaD.f roleOk; rw [number_is _ k hk, Option.bind_some, may_is h, Option.bind_some]
  by_cases c : numName r.f0 > 0
  · rw [if_pos c, decide_eq_true c]; rfl
  · rw [if_neg c, decide_eq_false c]; rfl
theorem bare_is (r : Role) (h : r.f1.size ≤ maxLen) : QaX.f r.f0 r.f1 = some (bareOk r) := by
  unfold QaX.f bareOk noText; rw [may_is h, Option.bind_some]
  by_cases c : r.f0.toList = []
  · rw [if_pos c, c]; rfl
  · rw [if_neg c, beq_eq_false_iff_ne.mpr c]; rfl
theorem and3_is (x y z : Bool) : and3 (some x) (some y) (some z) = some (x && (y && z)) := by
  cases x <;> cases y <;> rfl
theorem credMay_is (c : Cred) (h : okCred c) : cred_May.f c.f0.f0 c.f0.f1 c.f1 c.f2 c.f3 c.f4.f0 c.f4.f1 c.f5.f0 c.f5.f1 = some (credMay c) := by
  obtain ⟨h1, h3, ⟨h40, h41⟩, h50, h51⟩ := h
  show mayF c = some (credMay c)
  unfold mayF credMay
  by_cases d : 1 ≤ c.f0.f0 ∧ c.f0.f0 ≤ 16
  · have hn : ¬ noText (domName c.f0.f0) = true := fun e => domName_ne d.1 d.2 ((empty_iff _).mp (beq_iff_eq.mp e))
    rw [if_neg hn, decide_eq_true d]
    by_cases s1 : c.f0.f1 < 1
    · rw [if_pos s1, decide_eq_false (p := 1 ≤ c.f0.f1 ∧ c.f0.f1 ≤ 4000) (by omega)]; rfl
    · rw [if_neg s1]
      by_cases s2 : c.f0.f1 > 4000
      · rw [if_pos s2, decide_eq_false (p := 1 ≤ c.f0.f1 ∧ c.f0.f1 ≤ 4000) (by omega)]; rfl
      · rw [if_neg s2, decide_eq_true (p := 1 ≤ c.f0.f1 ∧ c.f0.f1 ≤ 4000) (by omega), may_is h1, Option.bind_some]
        cases hm : mayName c.f1
        · rfl
        · rw [if_pos rfl]
          unfold mayKind
          by_cases k1 : c.f2 = 1
          · rw [if_pos k1, if_pos k1, may_is h3, and3_is]; rfl
          · rw [if_neg k1, if_neg k1]
            by_cases k2 : c.f2 = 2
            · rw [if_pos k2, if_pos k2, role_is c.f4 h41 20 (by omega), and3_is]; rfl
            · rw [if_neg k2, if_neg k2]
              by_cases k3 : c.f2 = 3
              · rw [if_pos k3, if_pos k3, bare_is c.f4 h41, bare_is c.f5 h51, and3_is]; rfl
              · rw [if_neg k3, if_neg k3]
                by_cases k4 : c.f2 = 4
                · rw [if_pos k4, if_pos k4, role_is c.f4 h41 20 (by omega), role_is c.f5 h51 20 (by omega), and3_is]; rfl
                · rw [if_neg k4, if_neg k4]; rfl
  · have e : domName c.f0.f0 = ⟨#[]⟩ := domName_out _ (by omega)
    rw [if_pos (show noText (domName c.f0.f0) = true from beq_iff_eq.mpr ((empty_iff _).mpr e)), decide_eq_false d]; rfl
section
open Go.RowKit Go.ChangeShapes Go.WideShapes Go.Proofs.YtbjjonpkmplhbaaDoorW.PrintWords Go.Proofs.YtbjjonpkmplhbaaDoorW.PrintLast Go.Proofs.YtbjjonpkmplhbaaDoorW.PrintMore
def Opens {α : Type} (P : Program) (e : TypeId) (d : Kd α) (Q : α → Prop) : Prop :=
  ∀ (H : Type) (enc : TypeId × Value → H) (w : World) (base : Nat) (spare : Nat → Bool) (held : Bool) (fuel : Nat) (cs : List Value) (x : DataW H × List MemPlace), DataW.trod enc P w base spare held fuel e cs = some x → ∃ a, d.K w a cs ∧ Q a
section
variable {H : Type} {enc : TypeId × Value → H} {P : Program} {w : World} {base : Nat} {spare : Nat → Bool} {held : Bool}
theorem field_at {t : TypeId} {fs : Array Field} {fuel : Nat} {cs : List Value} {x : DataW H × List MemPlace} (ht : P.underlying t = some (.struct fs)) (h : DataW.trod enc P w base spare held fuel t cs = some x) :
    cs.length = P.cellsOf t ∧ ∃ n, ∀ (i : Nat) (f : Field), fs[i]? = some f → ∃ y, DataW.trod enc P w base spare held n f.type ((cs.drop f.offset).take (P.cellsOf f.type)) = some y := by
  obtain ⟨xs, n, _, _, hl, hx, hf⟩ := DataW.trod_struct ht h; refine ⟨hl, n, fun i f hi => ?_⟩; have hi' : i < fs.size := (Array.getElem?_eq_some_iff.mp hi).1; exact ⟨xs[i]'(by omega), (hf i f hi).trans (List.getElem?_eq_getElem (by omega))⟩
theorem list_of {α : Type} {R : Nat → α → Prop} : ∀ n, (∀ i, i < n → ∃ y, R i y) → ∃ xs : List α, xs.length = n ∧ ∀ i y, xs[i]? = some y → R i y
  | 0, _ => ⟨[], rfl, fun i y h => by simp at h⟩
  | n + 1, h => by
    obtain ⟨xs, hl, hx⟩ := list_of n (fun i hi => h i (by omega)); obtain ⟨y, hy⟩ := h n (by omega); refine ⟨xs ++ [y], by simp [hl], fun i z hz => ?_⟩
    by_cases hi : i < n
    · rw [List.getElem?_append_left (by omega)] at hz
      exact hx i z hz
    · rw [List.getElem?_append_right (by omega)] at hz
      have hi2 : i - xs.length = 0 := by
        have := (List.getElem?_eq_some_iff.mp hz).1; simp at this; omega
      rw [hi2] at hz
      have : y = z := by simpa using hz
      rw [show i = n by omega, ← this]; exact hy
theorem cells_at {a : Addr} {n : Nat} {cs : List Value} (h : w.cells? base a n = some cs) : cs.length = n ∧ ∀ i u, cs[i]? = some u → w.cell? (a.add i) = some u := by
  unfold World.cells? at h
  split at h
  · have hl := mapM_some_length h
    rw [List.length_range] at hl; refine ⟨hl, fun i u hu => ?_⟩
    have hi : i < n := by have := (List.getElem?_eq_some_iff.mp hu).1; omega
    have := mapM_some_get h i i (by simp [hi]); rw [this, hu]
  · cases h
theorem open_row {α : Type} {d : Kd α} {Q : α → Prop} {t e : TypeId} {fuel : Nat} {a : Option Addr} {len cap : Nat} {x : DataW H × List MemPlace} (ht : P.underlying t = some (.slice e)) (hc : P.cellsOf e = d.sz) (ho : Opens P e d Q)
    (h : DataW.trod enc P w base spare held fuel t [.slice a len cap] = some x) : ∃ xs : List α, xs.length = len ∧ d.C w a xs.length xs ∧ xs.length ≤ cap ∧ ∀ y ∈ xs, Q y := by
  rcases DataW.trod_slice ht h with ⟨hcs, _⟩ | ⟨a', len', cap', elems, rest, n, _, hcs, _, hb, hl, hm, hlen, hel, _, _⟩
  · simp only [List.cons.injEq, Value.slice.injEq, and_true] at hcs
    obtain ⟨rfl, rfl, rfl⟩ := hcs; exact ⟨[], rfl, ⟨rfl, Nat.zero_le _, fun h => absurd h (Nat.lt_irrefl _)⟩, Nat.le_refl _, fun y hy => by cases hy⟩
  · simp only [List.cons.injEq, Value.slice.injEq, and_true] at hcs
    obtain ⟨rfl, rfl, rfl⟩ := hcs
    obtain ⟨xs, hxl, hx⟩ := list_of (R := fun i y => ∃ cs, w.cells? base (a'.add (i * P.cellsOf e)) (P.cellsOf e) = some cs ∧ d.K w y cs ∧ Q y) len (fun i hi => by
      have h1 := hel i hi; rw [List.getElem?_eq_getElem (by omega)] at h1; obtain ⟨cs, hcs, hy⟩ := Option.bind_eq_some_iff.mp h1; obtain ⟨y, hk, hq⟩ := ho _ _ _ _ _ _ _ _ _ hy
      exact ⟨y, cs, hcs, hk, hq⟩)
    refine ⟨xs, hxl, ⟨rfl, ?_, fun _ => ⟨a', rfl, fun j p hj => ?_⟩⟩, by omega, fun y hy => ?_⟩
    · have : maxLen = 9223372036854775807 := by decide
      omega
    · obtain ⟨cs, h1, h2, _⟩ := hx j p hj
      obtain ⟨hl1, hl2⟩ := cells_at h1; refine ⟨cs, by omega, h2, fun i u hu => ?_⟩; rw [← hc, ← Addr.add_add]; exact hl2 i u hu
    · obtain ⟨i, hi, e⟩ := List.getElem_of_mem hy
      obtain ⟨_, _, _, hq⟩ := hx i y (by rw [List.getElem?_eq_getElem hi, e]); exact hq
end
theorem list2 {α : Type} : ∀ {l : List α}, l.length = 2 → ∃ a b, l = [a, b]
  | [a, b], _ => ⟨a, b, rfl⟩
theorem list9 {α : Type} : ∀ {l : List α}, l.length = 9 → ∃ a b c d e f g h i, l = [a, b, c, d, e, f, g, h, i]
  | [a, b, c, d, e, f, g, h, i], _ => ⟨a, b, c, d, e, f, g, h, i, rfl⟩
theorem opens_role : Opens Tryd.prog 32 k32 (fun r => r.f0.size ≤ maxLen ∧ r.f1.size ≤ maxLen) := by
  intro H enc w base spare held fuel cs x h; obtain ⟨hl, n, hf⟩ := field_at Tryd.underlying32 h; rw [Tryd.cellsRole] at hl; obtain ⟨y0, h0⟩ : ∃ y, DataW.trod enc Tryd.prog w base spare held n 9 ((cs.drop 0).take (Tryd.prog.cellsOf 9)) = some y := hf 0 _ rfl; obtain ⟨y1, h1⟩ : ∃ y, DataW.trod enc Tryd.prog w base spare held n 9 ((cs.drop 1).take (Tryd.prog.cellsOf 9)) = some y := hf 1 _ rfl; rw [Tryd.cellsStr] at h0 h1; obtain ⟨c0, c1, rfl⟩ := list2 hl; obtain ⟨s0, e0, _, z0⟩ := DataW.trod_string Tryd.underlying9 h0; obtain ⟨s1, e1, _, z1⟩ := DataW.trod_string Tryd.underlying9 h1
  obtain rfl : c0 = .string s0 := by simpa using e0
  obtain rfl : c1 = .string s1 := by simpa using e1
  exact ⟨⟨s0, s1⟩, k32_mk w ⟨s0, s1⟩, z0, z1⟩
theorem Tryd.cellsInt : Tryd.prog.cellsOf 3 = 1 := by kernel_rfl
theorem Tryd.cellsID : Tryd.prog.cellsOf 30 = 2 := by kernel_rfl
theorem Tryd.cellsCred : Tryd.prog.cellsOf 34 = 9 := by kernel_rfl
theorem opens_id : Opens Tryd.prog 30 k30 (fun _ => True) := by
  intro H enc w base spare held fuel cs x h; obtain ⟨hl, n, hf⟩ := field_at Tryd.underlying30 h; rw [Tryd.cellsID] at hl; obtain ⟨y0, h0⟩ : ∃ y, DataW.trod enc Tryd.prog w base spare held n 3 ((cs.drop 0).take (Tryd.prog.cellsOf 3)) = some y := hf 0 _ rfl; obtain ⟨y1, h1⟩ : ∃ y, DataW.trod enc Tryd.prog w base spare held n 3 ((cs.drop 1).take (Tryd.prog.cellsOf 3)) = some y := hf 1 _ rfl; rw [Tryd.cellsInt] at h0 h1; obtain ⟨c0, c1, rfl⟩ := list2 hl; obtain ⟨s0, e0, _, z0⟩ := DataW.trod_int Tryd.underlying3 h0; obtain ⟨s1, e1, _, z1⟩ := DataW.trod_int Tryd.underlying3 h1
  obtain rfl : c0 = .int .i64 s0 := by simpa using e0
  obtain rfl : c1 = .int .i64 s1 := by simpa using e1
  exact ⟨⟨s0, s1⟩, k30_mk w ⟨s0, s1⟩, trivial⟩
theorem opens_cred : Opens Tryd.prog 34 k34 okCred := by
  intro H enc w base spare held fuel cs x h; obtain ⟨hl, n, hf⟩ := field_at Tryd.underlying34 h; rw [Tryd.cellsCred] at hl; obtain ⟨y0, h0⟩ : ∃ y, DataW.trod enc Tryd.prog w base spare held n 30 ((cs.drop 0).take (Tryd.prog.cellsOf 30)) = some y := hf 0 _ rfl; obtain ⟨y1, h1⟩ : ∃ y, DataW.trod enc Tryd.prog w base spare held n 9 ((cs.drop 2).take (Tryd.prog.cellsOf 9)) = some y := hf 1 _ rfl; obtain ⟨y2, h2⟩ : ∃ y, DataW.trod enc Tryd.prog w base spare held n 3 ((cs.drop 3).take (Tryd.prog.cellsOf 3)) = some y := hf 2 _ rfl; obtain ⟨y3, h3⟩ : ∃ y, DataW.trod enc Tryd.prog w base spare held n 9 ((cs.drop 4).take (Tryd.prog.cellsOf 9)) = some y := hf 3 _ rfl; obtain ⟨y4, h4⟩ : ∃ y, DataW.trod enc Tryd.prog w base spare held n 32 ((cs.drop 5).take (Tryd.prog.cellsOf 32)) = some y := hf 4 _ rfl; obtain ⟨y5, h5⟩ : ∃ y, DataW.trod enc Tryd.prog w base spare held n 32 ((cs.drop 7).take (Tryd.prog.cellsOf 32)) = some y := hf 5 _ rfl; rw [Tryd.cellsID] at h0; rw [Tryd.cellsStr] at h1 h3; rw [Tryd.cellsInt] at h2; rw [Tryd.cellsRole] at h4 h5; obtain ⟨c0, c1, c2, c3, c4, c5, c6, c7, c8, rfl⟩ := list9 hl; obtain ⟨a, ka, _⟩ := opens_id _ _ _ _ _ _ _ _ _ h0
  obtain ⟨rfl, rfl⟩ : c0 = .int .i64 a.f0 ∧ c1 = .int .i64 a.f1 := by simpa using k30_open ka
  obtain ⟨s1, e1, _, z1⟩ := DataW.trod_string Tryd.underlying9 h1; obtain ⟨s2, e2, _, z2⟩ := DataW.trod_int Tryd.underlying3 h2; obtain ⟨s3, e3, _, z3⟩ := DataW.trod_string Tryd.underlying9 h3
  obtain rfl : c2 = .string s1 := by simpa using e1
  obtain rfl : c3 = .int .i64 s2 := by simpa using e2
  obtain rfl : c4 = .string s3 := by simpa using e3
  obtain ⟨r4, k4, z4⟩ := opens_role _ _ _ _ _ _ _ _ _ h4
  obtain ⟨rfl, rfl⟩ : c5 = .string r4.f0 ∧ c6 = .string r4.f1 := by simpa using k32_open k4
  obtain ⟨r5, k5, z5⟩ := opens_role _ _ _ _ _ _ _ _ _ h5
  obtain ⟨rfl, rfl⟩ : c7 = .string r5.f0 ∧ c8 = .string r5.f1 := by simpa using k32_open k5
  exact ⟨⟨a, s1, s2, s3, r4, r5⟩, k34_mk w ⟨a, s1, s2, s3, r4, r5⟩, z1, z3, z4, z5⟩
end
section
variable {P : Program}
theorem run_loadAt_cells (w : World) (a : Addr) (ty : TypeId) (cs : List Value) (d : TypeDesc) (hc : ∀ j v, cs[j]? = some v → w.cell? (a.add j) = some v)
    (hu : P.underlying ty = some d) (hd : d.isRow = true) (hi : (P.info? ty).map (·.size) = some cs.length) : (Instr.loadAt ty (.pointer (some a))).run P w = .ok (.agg cs.toArray) w := by
  have hl : (loadCells a cs.length).run P w = .ok cs.toArray w := run_loadCells_list (P := P) w a cs hc
  cases hq : P.info? ty with
  | none => simp [hq] at hi
  | some i =>
    have hs : i.size = cs.length := by simpa [hq] using hi
    have hagg : (isAgg ty).run P w = .ok true w := by
      unfold isAgg; rw [Sem.run_bind, run_underlying hu w]
      cases d <;> simp_all
    simp [Instr.loadAt, Instr.sureAddr, loadVar, Sem.run_bind, hagg, sizeOf, typeInfo, hq, hs, hl]
theorem Qah {op : Oper} {rest : List Oper} {ops : Array Oper} {a : Act} {w : World} {Q : Exit → Act → World → Prop} (hgd : op.guard = none) (ty : TypeId) (x : Operand) (ho : op.op = .load ty x) (a0 : Addr) (hx : a.eval x = .pointer (some a0)) (E : Array Value) (d : TypeDesc)
    (hc : ∀ j v, E[j]? = some v → w.cell? (a0.add j) = some v) (hu : P.underlying ty = some d) (hd : d.isRow = true) (hi : (P.info? ty).map (·.size) = some E.size) (h : wpList P ops Q rest (a.put op.dst (.agg E)) w) : wpList P ops Q (op :: rest) a w :=
  wpList_plain hgd fun _ hK => by
    unfold Oper.wp execOp; have hr := run_loadAt_cells w a0 ty E.toList d (fun j v hv => hc j v (by simpa using hv)) hu hd (by simpa using hi); rw [Array.toArray_toList] at hr; simp only [ho, hx, hr, Sem.run_bind, Sem.run_pure, Result.andThen_ok]; exact hK _ _ h
theorem range_block {w : World} {b : Nat} {C : Array Value} {t : TypeId} {fr : Nat × Nat} (hb : w.heap[b]? = some (.cells C t fr)) (o n : Nat) : ∀ j v, (C.extract o (o + n))[j]? = some v → w.cell? ((⟨b, o, none⟩ : Addr).add j) = some v := fun j v hv => by
  rw [Addr.add_mid]; exact World.rangeAt_of_block hb o n j v (by rw [Array.getElem?_toList]; exact hv)
theorem QaQ {w : World} {b : Nat} {C : Array Value} {t : TypeId} {fr : Nat × Nat} (hb : w.heap[b]? = some (.cells C t fr)) : ∀ j v, C[j]? = some v → w.cell? ((⟨b, 0, none⟩ : Addr).add j) = some v := fun j v hv => by
  rw [Addr.add_mid, cell_of_row w b (0 + j) C t fr hb, Nat.zero_add]; exact hv
theorem QaU {op : Oper} {rest : List Oper} {ops : Array Oper} {a : Act} {w V : World} {Q : Exit → Act → World → Prop} {Z : Array Value} (hgd : op.guard = none) (ty : TypeId) (x y : Operand) (ho : op.op = .store ty x y) (hw : w = V.alloc (.cells Z ty)) (hx : a.eval x = .pointer (some ⟨V.heap.size, 0, none⟩)) (U : Array Value) (hy : a.eval y = .agg U)
    (hi : (P.info? ty).map (·.size) = some U.size) (hz : Z.size = U.size) (h1 : U.all (·.oneCell') = true) (h : wpList P ops Q rest (a.put op.dst undef) (V.alloc (.cells U ty))) : wpList P ops Q (op :: rest) a w :=
  wpList_plain hgd fun _ hK => by
    subst hw; unfold Oper.wp execOp; simp only [ho, hx, hy, run_storeAt_new V ty Z U hi hz h1, Sem.run_bind, Sem.run_pure, Result.andThen_ok]; exact hK _ _ h
theorem wpList_putRow {op : Oper} {rest : List Oper} {ops : Array Oper} {a : Act} {w : World} {Q : Exit → Act → World → Prop} (hgd : op.guard = none) (ty : TypeId) (x y : Operand) (ho : op.op = .store ty x y) {b : Nat} {C : Array Value} {t : TypeId} (hb : w.heap[b]? = some (.cells C t (0, 0))) (hx : a.eval x = .pointer (some ⟨b, 0, none⟩)) (U : Array Value) (hy : a.eval y = .agg U)
    (hi : (P.info? ty).map (·.size) = some U.size) (hz : C.size = U.size) (h1 : U.all (·.oneCell') = true) (h : wpList P ops Q rest (a.put op.dst undef) (w.setRow b U)) : wpList P ops Q (op :: rest) a w :=
  wpList_plain hgd fun _ hK => by
    unfold Oper.wp execOp; simp only [ho, hx, hy, Instr.storeAt, Instr.sureAddr, run_storeVar_row w b t ty C U hb hi hz h1, Sem.run_bind, Sem.run_pure, Result.andThen_ok]; exact hK _ _ h
end
theorem nodup_le {α : Type} [DecidableEq α] : ∀ {l m : List α}, l.Nodup → (∀ x ∈ l, x ∈ m) → l.length ≤ m.length
  | [], m, _, _ => Nat.zero_le _
  | a :: l, m, h, hs => by
    have ha := hs a (List.mem_cons_self ..); rw [List.nodup_cons] at h; have := nodup_le (m := m.erase a) h.2 (fun x hx => (List.mem_erase_of_ne (fun e : x = a => h.1 (e ▸ hx))).mpr (hs x (List.mem_cons_of_mem _ hx))); rw [List.length_erase_of_mem ha] at this; have := List.length_pos_of_mem ha; simp only [List.length_cons]; omega
theorem sorted_nodup {α : Type} {R : α → α → Prop} (hi : ∀ x, ¬ R x x) {l : List α} (h : l.Pairwise R) : l.Nodup :=
  h.imp fun {a b} hab (e : a = b) => hi a (by subst e; exact hab)
section
variable {α : Type} [Inhabited α]
theorem swp_split (d : Array α) (j : Nat) (h : j + 1 < d.size) : ∃ a b, d.toList = a ++ d[j]! :: d[j + 1]! :: b ∧ (Go.Sort.swp d (j + 1) j).toList = a ++ d[j + 1]! :: d[j]! :: b := by
  have h1 : j < d.toList.length := by simp; omega
  have h2 : j + 1 < d.toList.length := by simp; omega
  have e : d.toList = d.toList.take j ++ d[j]! :: d[j + 1]! :: d.toList.drop (j + 2) := by
    rw [getElem!_pos d j (by omega), getElem!_pos d (j + 1) h]
    conv => lhs; rw [← List.take_append_drop j d.toList, List.drop_eq_getElem_cons h1, List.drop_eq_getElem_cons h2]
    rfl
  have hl : (d.toList.take j).length = j := by simp; omega
  generalize d.toList.take j = a at e hl
  generalize d.toList.drop (j + 2) = b at e
  refine ⟨a, b, e, ?_⟩; unfold Go.Sort.swp; rw [Array.toList_setIfInBounds, Array.toList_setIfInBounds]
  generalize d[j]! = x at *
  generalize d[j + 1]! = y at *
  rw [e]; rw [List.set_append_right _ _ (by omega), show j + 1 - a.length = 1 by omega, List.set_append_right _ _ (by omega), show j - a.length = 0 by omega]; rfl
theorem swp_size (d : Array α) (i j : Nat) : (Go.Sort.swp d i j).size = d.size := by simp [Go.Sort.swp]
theorem inner_filter (lt : α → α → Bool) (q : α → Bool) (hq : ∀ x y, lt x y = true → q x = true → q y = true → False) (a : Nat) : ∀ (j : Nat) (d : Array α), j < d.size → (Go.Sort.insInner lt a j d).toList.filter q = d.toList.filter q ∧ (Go.Sort.insInner lt a j d).size = d.size
  | 0, d, _ => ⟨rfl, rfl⟩
  | j + 1, d, h => by
    rw [Go.Sort.insInner]
    by_cases c : (decide (j + 1 > a) && lt d[j + 1]! d[j]!) = true
    · rw [if_pos c]
      rw [Bool.and_eq_true] at c; obtain ⟨l, r, e1, e2⟩ := swp_split d j h; have ih := inner_filter lt q hq a j (Go.Sort.swp d (j + 1) j) (by rw [swp_size]; omega); refine ⟨ih.1.trans ?_, ih.2.trans (swp_size _ _ _)⟩; rw [e1, e2, List.filter_append, List.filter_append]
      congr 1
      have := hq _ _ c.2; simp only [List.filter_cons]
      cases h1 : q d[j]! <;> cases h2 : q d[j + 1]! <;> simp_all
    · rw [if_neg c]
      exact ⟨rfl, rfl⟩
theorem outer_filter (lt : α → α → Bool) (q : α → Bool) (hq : ∀ x y, lt x y = true → q x = true → q y = true → False) (a b : Nat) : ∀ (n i : Nat) (d : Array α), b - i ≤ n → b ≤ d.size → (Go.Sort.insOuter lt a b i d).toList.filter q = d.toList.filter q
  | 0, i, d, h, hb => by
    rw [Go.Sort.insOuter, if_neg (by omega)]
  | n + 1, i, d, h, hb => by
    rw [Go.Sort.insOuter]
    by_cases c : i < b
    · rw [if_pos c]
      have := inner_filter lt q hq a i d (by omega); exact (outer_filter lt q hq a b n (i + 1) _ (by omega) (by rw [this.2]; exact hb)).trans this.1
    · rw [if_neg c]
theorem insertion_filter (lt : α → α → Bool) (q : α → Bool) (hq : ∀ x y, lt x y = true → q x = true → q y = true → False) (l : List α) : (Go.Sort.insertionSort lt l.toArray 0 l.length).toList.filter q = l.filter q := by
  have := outer_filter lt q hq 0 l.length l.length 1 l.toArray (by omega) (by simp)
  simpa [Go.Sort.insertionSort] using this
theorem insertion_sorted (lt : α → α → Bool) (h : Go.Sort.SWO lt) (l : List α) : (Go.Sort.insertionSort lt l.toArray 0 l.length).toList.Pairwise (fun x y => lt y x = false) := by
  obtain ⟨⟨hs, _, _⟩, hp⟩ := Go.Sort.insertionSort_holds h l.toArray 0 l.length (Nat.zero_le _) (by simp); rw [List.pairwise_iff_getElem]; intro i j hi hj hij
  have hsz : (Go.Sort.insertionSort lt l.toArray 0 l.length).size = l.length := by rw [hs]; simp
  have hj' : j < (Go.Sort.insertionSort lt l.toArray 0 l.length).size := by simpa using hj
  have := hp i j (Nat.zero_le _) hij (by omega); rw [getElem!_pos _ j hj', getElem!_pos _ i (by omega)] at this
  simpa using this
end
def Ev {α : Type} (f : Nat → Option α) (v : α) : Prop := ∃ K, ∀ k, K ≤ k → f k = some v
theorem Ev.pure {α : Type} (v : α) : Ev (fun _ => some v) v := ⟨0, fun _ _ => rfl⟩
theorem Ev.step {α : Type} {f g : Nat → Option α} {v : α} (e : ∀ k, f (k + 1) = g k) (h : Ev g v) : Ev f v := by
  obtain ⟨K, h⟩ := h; refine ⟨K + 1, fun k hk => ?_⟩
  obtain ⟨j, rfl⟩ : ∃ j, k = j + 1 := ⟨k - 1, by omega⟩
  rw [e, h j (by omega)]
theorem Ev.bind {α β : Type} {g : Nat → Option β} {h : Nat → β → Option α} {a : β} {v : α} (hg : Ev g a) (hh : Ev (fun k => h k a) v) : Ev (fun k => (g k).bind (h k)) v := by
  obtain ⟨K, hg⟩ := hg; obtain ⟨K', hh⟩ := hh; refine ⟨K + K', fun k hk => ?_⟩
  show (g k).bind (h k) = some v
  rw [hg k (by omega), Option.bind_some]; exact hh k (by omega)
section
variable {α : Type} [Inhabited α]
end
theorem neRole_is (a b : Role) : ((!(a.f0.toList == b.f0.toList)) || (!(a.f1.toList == b.f1.toList))) = !decide (a = b) := by
  rw [Bool.eq_iff_iff]; simp only [Bool.or_eq_true, Bool.not_eq_true', decide_eq_false_iff_not, Lib.bytes_beq_false_iff]; refine ⟨fun h e => ?_, fun h => ?_⟩
  · subst e
    rcases h with h | h <;> exact h rfl
  · by_cases h0 : a.f0 = b.f0
    · exact .inr (fun h1 => h (role_ext h0 h1))
    · exact .inl h0
theorem eqRole_is (a b : Role) : ((a.f0.toList == b.f0.toList) && (a.f1.toList == b.f1.toList)) = decide (a = b) := by
  have h := congrArg (fun x => !x) (neRole_is a b)
  simpa using h
theorem drop_cons_at {α : Type} (l : List α) (z : α) (i : Nat) (h : i < l.length) : l.drop i = l.getD i z :: l.drop (i + 1) := by
  rw [List.drop_eq_getElem_cons h]; simp [List.getD, List.getElem?_eq_getElem h]
theorem equalRole_l0 (l l' : List Role) (hl : l.length = l'.length) (hm : l.length ≤ 9223372036854775807) : ∀ (n i : Nat), n + i = l.length → Ev (fun k => QaL.l0 k l l' (l.length : Int) (i : Int)) (decide (l.drop i = l'.drop i))
  | 0, i, hn => by
    refine Ev.step (g := fun _ => some true) (fun k => ?_) ?_
    · show (if (i : Int) < (l.length : Int) then _ else some true) = some true
      rw [if_neg (by omega)]
    · rw [List.drop_eq_nil_of_le (show l.length ≤ i by omega), List.drop_eq_nil_of_le (show l'.length ≤ i by omega)]
      exact Ev.pure _
  | n + 1, i, hn => by
    have hi : i < l.length := by omega
    have ih := equalRole_l0 l l' hl hm n (i + 1) (by omega)
    have hw : wrap64 ((i : Int) + 1) = ((i + 1 : Nat) : Int) := by unfold wrap64; omega
    rw [drop_cons_at l z32 i hi, drop_cons_at l' z32 i (by omega)]; have ht : (i : Int).toNat = i := rfl
    by_cases e : l.getD i z32 = l'.getD i z32
    · have hd : decide (l.getD i z32 :: l.drop (i + 1) = l'.getD i z32 :: l'.drop (i + 1)) = decide (l.drop (i + 1) = l'.drop (i + 1)) := by
        rw [e]; exact decide_eq_decide.mpr ⟨fun h => (List.cons.inj h).2, fun h => by rw [h]⟩
      rw [hd]; refine Ev.step (fun k => ?_) ih; have hne := neRole_is (l.getD i z32) (l'.getD i z32); rw [decide_eq_true e] at hne
      show (if (i : Int) < (l.length : Int) then _ else _) = _
      rw [if_pos (by omega), if_pos (by omega), if_pos (by omega), if_pos (by omega), hw]; unfold QaG; rw [ht, hne]; rfl
    · have hd : decide (l.getD i z32 :: l.drop (i + 1) = l'.getD i z32 :: l'.drop (i + 1)) = false := decide_eq_false (fun h => e (List.cons.inj h).1)
      rw [hd]; refine Ev.step (g := fun _ => some false) (fun k => ?_) (Ev.pure _); have hne := neRole_is (l.getD i z32) (l'.getD i z32); rw [decide_eq_false e] at hne
      show (if (i : Int) < (l.length : Int) then _ else _) = _
      rw [if_pos (by omega), if_pos (by omega), if_pos (by omega), if_pos (by omega)]; unfold QaG; rw [ht, hne]; rfl
theorem equalRole_ev (l l' : List Role) (hm : l.length ≤ 9223372036854775807) : Ev (fun k => QaL.f k l l') (decide (l = l')) := by
  unfold QaL.f
  by_cases hl : l.length = l'.length
  · simp only [show ((l.length : Int) = (l'.length : Int)) = True from eq_true (by omega), if_true]
    exact equalRole_l0 l l' hl hm l.length 0 (by omega)
  · simp only [show ((l.length : Int) = (l'.length : Int)) = False from eq_false (by omega), if_false]
    rw [decide_eq_false (fun e => hl (by rw [e]))]; exact Ev.pure _
theorem equalID_l0 (l l' : List ID) (hl : l.length = l'.length) (hm : l.length ≤ 9223372036854775807) : ∀ (n i : Nat), n + i = l.length → Ev (fun k => api_ID.l0 k l l' (l.length : Int) (i : Int)) (decide (l.drop i = l'.drop i))
  | 0, i, hn => by
    refine Ev.step (g := fun _ => some true) (fun k => ?_) ?_
    · show (if (i : Int) < (l.length : Int) then _ else some true) = some true
      rw [if_neg (by omega)]
    · rw [List.drop_eq_nil_of_le (show l.length ≤ i by omega), List.drop_eq_nil_of_le (show l'.length ≤ i by omega)]
      exact Ev.pure _
  | n + 1, i, hn => by
    have hi : i < l.length := by omega
    have ih := equalID_l0 l l' hl hm n (i + 1) (by omega)
    have hw : wrap64 ((i : Int) + 1) = ((i + 1 : Nat) : Int) := by unfold wrap64; omega
    rw [drop_cons_at l z30 i hi, drop_cons_at l' z30 i (by omega)]; have ht : (i : Int).toNat = i := rfl
    by_cases e : l.getD i z30 = l'.getD i z30
    · have hd : decide (l.getD i z30 :: l.drop (i + 1) = l'.getD i z30 :: l'.drop (i + 1)) = decide (l.drop (i + 1) = l'.drop (i + 1)) := by
        rw [e]; exact decide_eq_decide.mpr ⟨fun h => (List.cons.inj h).2, fun h => by rw [h]⟩
      rw [hd]; refine Ev.step (fun k => ?_) ih; have hne := neID_f e
      show (if (i : Int) < (l.length : Int) then _ else _) = _
      rw [if_pos (by omega), if_pos (by omega), if_pos (by omega), if_pos (by omega), hw]; unfold Qa4; rw [ht, hne]; rfl
    · have hd : decide (l.getD i z30 :: l.drop (i + 1) = l'.getD i z30 :: l'.drop (i + 1)) = false := decide_eq_false (fun h => e (List.cons.inj h).1)
      rw [hd]; refine Ev.step (g := fun _ => some false) (fun k => ?_) (Ev.pure _); have hne := neID_t e
      show (if (i : Int) < (l.length : Int) then _ else _) = _
      rw [if_pos (by omega), if_pos (by omega), if_pos (by omega), if_pos (by omega)]; unfold Qa4; rw [ht, hne]; rfl
theorem equalID_ev (l l' : List ID) (hm : l.length ≤ 9223372036854775807) : Ev (fun k => api_ID.f k l l') (decide (l = l')) := by
  unfold api_ID.f
  by_cases hl : l.length = l'.length
  · simp only [show ((l.length : Int) = (l'.length : Int)) = True from eq_true (by omega), if_true]
    exact equalID_l0 l l' hl hm l.length 0 (by omega)
  · simp only [show ((l.length : Int) = (l'.length : Int)) = False from eq_false (by omega), if_false]
    rw [decide_eq_false (fun e => hl (by rw [e]))]; exact Ev.pure _
theorem indexRole_l0 (l : List Role) (hm : l.length ≤ 9223372036854775807) (r : Role) : ∀ (n i : Nat), n + i = l.length → ∃ v : Int, Ev (fun k => QaK.l0 k l (l.length : Int) (i : Int) r.f0 r.f1) v ∧ (v ≥ 0 ↔ r ∈ l.drop i)
  | 0, i, hn => by
    refine ⟨-1, Ev.step (g := fun _ => some (-1)) (fun k => ?_) (Ev.pure _), ?_⟩
    · show (if (i : Int) < (l.length : Int) then _ else some (-1)) = some (-1)
      rw [if_neg (by omega)]
    · rw [List.drop_eq_nil_of_le (show l.length ≤ i by omega)]
      simp
  | n + 1, i, hn => by
    have hi : i < l.length := by omega
    have hw : wrap64 ((i : Int) + 1) = ((i + 1 : Nat) : Int) := by unfold wrap64; omega
    rw [drop_cons_at l z32 i hi]; have ht : (i : Int).toNat = i := rfl; have hq := eqRole_is r (l.getD i z32)
    by_cases e : r = l.getD i z32
    · rw [decide_eq_true e] at hq
      refine ⟨i, Ev.step (g := fun _ => some (i : Int)) (fun k => ?_) (Ev.pure _), ⟨fun _ => by rw [← e]; simp, fun _ => by omega⟩⟩
      show (if (i : Int) < (l.length : Int) then _ else _) = _
      rw [if_pos (by omega), if_pos (by omega), if_pos (by omega)]; unfold QaG; rw [ht, hq]; rfl
    · rw [decide_eq_false e] at hq
      obtain ⟨v, h1, h2⟩ := indexRole_l0 l hm r n (i + 1) (by omega); refine ⟨v, Ev.step (fun k => ?_) h1, ?_⟩
      · show (if (i : Int) < (l.length : Int) then _ else _) = _
        rw [if_pos (by omega), if_pos (by omega), if_pos (by omega), hw]; unfold QaG; rw [ht, hq]; rfl
      · rw [h2]
        exact ⟨fun h => List.mem_cons_of_mem _ h, fun h => (List.mem_cons.mp h).resolve_left e⟩
theorem containsRole_ev (l : List Role) (hm : l.length ≤ 9223372036854775807) (r : Role) : Ev (fun k => api_Role_28.f k l r.f0 r.f1) (decide (r ∈ l)) := by
  obtain ⟨v, h1, h2⟩ := indexRole_l0 l hm r l.length 0 (by omega); rw [List.drop_zero] at h2; unfold api_Role_28.f QaK.f; refine Ev.bind h1 ?_; rw [show decide (r ∈ l) = decide (v ≥ 0) from decide_eq_decide.mpr h2.symm]; exact Ev.pure _
structure S61 where
  f0 : Int
  f1 : (List S32)
  f2 : Int
  f3 : ByteArray
def z61 : S61 := ⟨(0 : Int), ([] : List S32), (0 : Int), (⟨#[]⟩ : ByteArray)⟩
def k61 : Kd S61 := Kd.iso (Kd.pair (Kd.int .i64) (Kd.pair (Kd.slice 32 k32) (Kd.pair (Kd.int .i64) Kd.string))) (fun x : S61 => (x.f0, x.f1, x.f2, x.f3))
theorem k61_open {w : World} {x : S61} {cs : List Value} (h : k61.K w x cs) : ∃ A1 c1, cs = [.int .i64 x.f0, .slice A1 x.f1.length c1, .int .i64 x.f2, .string x.f3] ∧ x.f1.length ≤ c1 ∧ k32.C w A1 x.f1.length x.f1 := by
  obtain ⟨_, _, rfl, rfl, ⟨_, _, rfl, ⟨A1, c1, rfl, l1, g1⟩, ⟨_, _, rfl, rfl, rfl⟩⟩⟩ := h; exact ⟨A1, c1, rfl, l1, g1⟩
theorem k61_mk (w : World) (x : S61) {A1 : Option Addr} {c1 : Nat} (l1 : x.f1.length ≤ c1) (g1 : k32.C w A1 x.f1.length x.f1) : k61.K w x [.int .i64 x.f0, .slice A1 x.f1.length c1, .int .i64 x.f2, .string x.f3] := ⟨[.int .i64 x.f0], [.slice A1 x.f1.length c1, .int .i64 x.f2, .string x.f3], rfl, rfl, ⟨[.slice A1 x.f1.length c1], [.int .i64 x.f2, .string x.f3], rfl, ⟨A1, c1, rfl, l1, g1⟩, ⟨[.int .i64 x.f2], [.string x.f3], rfl, rfl, rfl⟩⟩⟩
structure S40 where
  f0 : Int
  f1 : Int
  f2 : Int
  f3 : ByteArray
  f4 : (List S32)
  f5 : Int
  f6 : (List S30)
  f7 : (List S61)
  f8 : (List Int)
def z40 : S40 := ⟨(0 : Int), (0 : Int), (0 : Int), (⟨#[]⟩ : ByteArray), ([] : List S32), (0 : Int), ([] : List S30), ([] : List S61), ([] : List Int)⟩
def k40 : Kd S40 := Kd.iso (Kd.pair (Kd.int .i64) (Kd.pair (Kd.int .i64) (Kd.pair (Kd.int .i64) (Kd.pair Kd.string (Kd.pair (Kd.slice 32 k32) (Kd.pair (Kd.int .i64) (Kd.pair (Kd.slice 30 k30) (Kd.pair (Kd.slice 61 k61) (Kd.slice 5 (Kd.int .u8)))))))))) (fun x : S40 => (x.f0, x.f1, x.f2, x.f3, x.f4, x.f5, x.f6, x.f7, x.f8))
theorem k40_open {w : World} {x : S40} {cs : List Value} (h : k40.K w x cs) : ∃ A4 c4 A6 c6 A7 c7 A8 c8, cs = [.int .i64 x.f0, .int .i64 x.f1, .int .i64 x.f2, .string x.f3, .slice A4 x.f4.length c4, .int .i64 x.f5, .slice A6 x.f6.length c6, .slice A7 x.f7.length c7, .slice A8 x.f8.length c8] ∧ x.f4.length ≤ c4 ∧ k32.C w A4 x.f4.length x.f4 ∧ x.f6.length ≤ c6 ∧ k30.C w A6 x.f6.length x.f6 ∧ x.f7.length ≤ c7 ∧ k61.C w A7 x.f7.length x.f7 ∧ x.f8.length ≤ c8 ∧ (Kd.int .u8).C w A8 x.f8.length x.f8 := by
  obtain ⟨_, _, rfl, rfl, ⟨_, _, rfl, rfl, ⟨_, _, rfl, rfl, ⟨_, _, rfl, rfl, ⟨_, _, rfl, ⟨A4, c4, rfl, l4, g4⟩, ⟨_, _, rfl, rfl, ⟨_, _, rfl, ⟨A6, c6, rfl, l6, g6⟩, ⟨_, _, rfl, ⟨A7, c7, rfl, l7, g7⟩, ⟨A8, c8, rfl, l8, g8⟩⟩⟩⟩⟩⟩⟩⟩⟩ := h; exact ⟨A4, c4, A6, c6, A7, c7, A8, c8, rfl, l4, g4, l6, g6, l7, g7, l8, g8⟩
theorem k40_mk (w : World) (x : S40) {A4 : Option Addr} {c4 : Nat} (l4 : x.f4.length ≤ c4) (g4 : k32.C w A4 x.f4.length x.f4) {A6 : Option Addr} {c6 : Nat} (l6 : x.f6.length ≤ c6) (g6 : k30.C w A6 x.f6.length x.f6) {A7 : Option Addr} {c7 : Nat} (l7 : x.f7.length ≤ c7) (g7 : k61.C w A7 x.f7.length x.f7) {A8 : Option Addr} {c8 : Nat} (l8 : x.f8.length ≤ c8) (g8 : (Kd.int .u8).C w A8 x.f8.length x.f8) : k40.K w x [.int .i64 x.f0, .int .i64 x.f1, .int .i64 x.f2, .string x.f3, .slice A4 x.f4.length c4, .int .i64 x.f5, .slice A6 x.f6.length c6, .slice A7 x.f7.length c7, .slice A8 x.f8.length c8] := ⟨[.int .i64 x.f0], [.int .i64 x.f1, .int .i64 x.f2, .string x.f3, .slice A4 x.f4.length c4, .int .i64 x.f5, .slice A6 x.f6.length c6, .slice A7 x.f7.length c7, .slice A8 x.f8.length c8], rfl, rfl, ⟨[.int .i64 x.f1], [.int .i64 x.f2, .string x.f3, .slice A4 x.f4.length c4, .int .i64 x.f5, .slice A6 x.f6.length c6, .slice A7 x.f7.length c7, .slice A8 x.f8.length c8], rfl, rfl, ⟨[.int .i64 x.f2], [.string x.f3, .slice A4 x.f4.length c4, .int .i64 x.f5, .slice A6 x.f6.length c6, .slice A7 x.f7.length c7, .slice A8 x.f8.length c8], rfl, rfl, ⟨[.string x.f3], [.slice A4 x.f4.length c4, .int .i64 x.f5, .slice A6 x.f6.length c6, .slice A7 x.f7.length c7, .slice A8 x.f8.length c8], rfl, rfl, ⟨[.slice A4 x.f4.length c4], [.int .i64 x.f5, .slice A6 x.f6.length c6, .slice A7 x.f7.length c7, .slice A8 x.f8.length c8], rfl, ⟨A4, c4, rfl, l4, g4⟩, ⟨[.int .i64 x.f5], [.slice A6 x.f6.length c6, .slice A7 x.f7.length c7, .slice A8 x.f8.length c8], rfl, rfl, ⟨[.slice A6 x.f6.length c6], [.slice A7 x.f7.length c7, .slice A8 x.f8.length c8], rfl, ⟨A6, c6, rfl, l6, g6⟩, ⟨[.slice A7 x.f7.length c7], [.slice A8 x.f8.length c8], rfl, ⟨A7, c7, rfl, l7, g7⟩, ⟨A8, c8, rfl, l8, g8⟩⟩⟩⟩⟩⟩⟩⟩⟩
structure S42 where
  f0 : Int
  f1 : S34
  f2 : Int
  f3 : ByteArray
  f4 : (List S32)
  f5 : ByteArray
  f6 : S40
  f7 : Int
def z42 : S42 := ⟨(0 : Int), z34, (0 : Int), (⟨#[]⟩ : ByteArray), ([] : List S32), (⟨#[]⟩ : ByteArray), z40, (0 : Int)⟩
def k42 : Kd S42 := Kd.iso (Kd.pair (Kd.int .i64) (Kd.pair k34 (Kd.pair (Kd.int .i64) (Kd.pair Kd.string (Kd.pair (Kd.slice 32 k32) (Kd.pair Kd.string (Kd.pair k40 (Kd.int .i64)))))))) (fun x : S42 => (x.f0, x.f1, x.f2, x.f3, x.f4, x.f5, x.f6, x.f7))
theorem k42_open {w : World} {x : S42} {cs : List Value} (h : k42.K w x cs) : ∃ A12 c12 A18 c18 A20 c20 A21 c21 A22 c22, cs = [.int .i64 x.f0, .int .i64 x.f1.f0.f0, .int .i64 x.f1.f0.f1, .string x.f1.f1, .int .i64 x.f1.f2, .string x.f1.f3, .string x.f1.f4.f0, .string x.f1.f4.f1, .string x.f1.f5.f0, .string x.f1.f5.f1, .int .i64 x.f2, .string x.f3, .slice A12 x.f4.length c12, .string x.f5, .int .i64 x.f6.f0, .int .i64 x.f6.f1, .int .i64 x.f6.f2, .string x.f6.f3, .slice A18 x.f6.f4.length c18, .int .i64 x.f6.f5, .slice A20 x.f6.f6.length c20, .slice A21 x.f6.f7.length c21, .slice A22 x.f6.f8.length c22, .int .i64 x.f7] ∧ x.f4.length ≤ c12 ∧ k32.C w A12 x.f4.length x.f4 ∧ x.f6.f4.length ≤ c18 ∧ k32.C w A18 x.f6.f4.length x.f6.f4 ∧ x.f6.f6.length ≤ c20 ∧ k30.C w A20 x.f6.f6.length x.f6.f6 ∧ x.f6.f7.length ≤ c21 ∧ k61.C w A21 x.f6.f7.length x.f6.f7 ∧ x.f6.f8.length ≤ c22 ∧ (Kd.int .u8).C w A22 x.f6.f8.length x.f6.f8 := by
  obtain ⟨_, _, rfl, rfl, ⟨_, _, rfl, s1, ⟨_, _, rfl, rfl, ⟨_, _, rfl, rfl, ⟨_, _, rfl, ⟨A12, c12, rfl, l12, g12⟩, ⟨_, _, rfl, rfl, ⟨_, _, rfl, s14, rfl⟩⟩⟩⟩⟩⟩⟩ := h; obtain rfl := k34_open s1; obtain ⟨A18, c18, A20, c20, A21, c21, A22, c22, rfl, l18, g18, l20, g20, l21, g21, l22, g22⟩ := k40_open s14; exact ⟨A12, c12, A18, c18, A20, c20, A21, c21, A22, c22, rfl, l12, g12, l18, g18, l20, g20, l21, g21, l22, g22⟩
theorem k42_mk (w : World) (x : S42) {A12 : Option Addr} {c12 : Nat} (l12 : x.f4.length ≤ c12) (g12 : k32.C w A12 x.f4.length x.f4) {A18 : Option Addr} {c18 : Nat} (l18 : x.f6.f4.length ≤ c18) (g18 : k32.C w A18 x.f6.f4.length x.f6.f4) {A20 : Option Addr} {c20 : Nat} (l20 : x.f6.f6.length ≤ c20) (g20 : k30.C w A20 x.f6.f6.length x.f6.f6) {A21 : Option Addr} {c21 : Nat} (l21 : x.f6.f7.length ≤ c21) (g21 : k61.C w A21 x.f6.f7.length x.f6.f7) {A22 : Option Addr} {c22 : Nat} (l22 : x.f6.f8.length ≤ c22) (g22 : (Kd.int .u8).C w A22 x.f6.f8.length x.f6.f8) : k42.K w x [.int .i64 x.f0, .int .i64 x.f1.f0.f0, .int .i64 x.f1.f0.f1, .string x.f1.f1, .int .i64 x.f1.f2, .string x.f1.f3, .string x.f1.f4.f0, .string x.f1.f4.f1, .string x.f1.f5.f0, .string x.f1.f5.f1, .int .i64 x.f2, .string x.f3, .slice A12 x.f4.length c12, .string x.f5, .int .i64 x.f6.f0, .int .i64 x.f6.f1, .int .i64 x.f6.f2, .string x.f6.f3, .slice A18 x.f6.f4.length c18, .int .i64 x.f6.f5, .slice A20 x.f6.f6.length c20, .slice A21 x.f6.f7.length c21, .slice A22 x.f6.f8.length c22, .int .i64 x.f7] := ⟨[.int .i64 x.f0], [.int .i64 x.f1.f0.f0, .int .i64 x.f1.f0.f1, .string x.f1.f1, .int .i64 x.f1.f2, .string x.f1.f3, .string x.f1.f4.f0, .string x.f1.f4.f1, .string x.f1.f5.f0, .string x.f1.f5.f1, .int .i64 x.f2, .string x.f3, .slice A12 x.f4.length c12, .string x.f5, .int .i64 x.f6.f0, .int .i64 x.f6.f1, .int .i64 x.f6.f2, .string x.f6.f3, .slice A18 x.f6.f4.length c18, .int .i64 x.f6.f5, .slice A20 x.f6.f6.length c20, .slice A21 x.f6.f7.length c21, .slice A22 x.f6.f8.length c22, .int .i64 x.f7], rfl, rfl, ⟨[.int .i64 x.f1.f0.f0, .int .i64 x.f1.f0.f1, .string x.f1.f1, .int .i64 x.f1.f2, .string x.f1.f3, .string x.f1.f4.f0, .string x.f1.f4.f1, .string x.f1.f5.f0, .string x.f1.f5.f1], [.int .i64 x.f2, .string x.f3, .slice A12 x.f4.length c12, .string x.f5, .int .i64 x.f6.f0, .int .i64 x.f6.f1, .int .i64 x.f6.f2, .string x.f6.f3, .slice A18 x.f6.f4.length c18, .int .i64 x.f6.f5, .slice A20 x.f6.f6.length c20, .slice A21 x.f6.f7.length c21, .slice A22 x.f6.f8.length c22, .int .i64 x.f7], rfl, (k34_mk w x.f1 ), ⟨[.int .i64 x.f2], [.string x.f3, .slice A12 x.f4.length c12, .string x.f5, .int .i64 x.f6.f0, .int .i64 x.f6.f1, .int .i64 x.f6.f2, .string x.f6.f3, .slice A18 x.f6.f4.length c18, .int .i64 x.f6.f5, .slice A20 x.f6.f6.length c20, .slice A21 x.f6.f7.length c21, .slice A22 x.f6.f8.length c22, .int .i64 x.f7], rfl, rfl, ⟨[.string x.f3], [.slice A12 x.f4.length c12, .string x.f5, .int .i64 x.f6.f0, .int .i64 x.f6.f1, .int .i64 x.f6.f2, .string x.f6.f3, .slice A18 x.f6.f4.length c18, .int .i64 x.f6.f5, .slice A20 x.f6.f6.length c20, .slice A21 x.f6.f7.length c21, .slice A22 x.f6.f8.length c22, .int .i64 x.f7], rfl, rfl, ⟨[.slice A12 x.f4.length c12], [.string x.f5, .int .i64 x.f6.f0, .int .i64 x.f6.f1, .int .i64 x.f6.f2, .string x.f6.f3, .slice A18 x.f6.f4.length c18, .int .i64 x.f6.f5, .slice A20 x.f6.f6.length c20, .slice A21 x.f6.f7.length c21, .slice A22 x.f6.f8.length c22, .int .i64 x.f7], rfl, ⟨A12, c12, rfl, l12, g12⟩, ⟨[.string x.f5], [.int .i64 x.f6.f0, .int .i64 x.f6.f1, .int .i64 x.f6.f2, .string x.f6.f3, .slice A18 x.f6.f4.length c18, .int .i64 x.f6.f5, .slice A20 x.f6.f6.length c20, .slice A21 x.f6.f7.length c21, .slice A22 x.f6.f8.length c22, .int .i64 x.f7], rfl, rfl, ⟨[.int .i64 x.f6.f0, .int .i64 x.f6.f1, .int .i64 x.f6.f2, .string x.f6.f3, .slice A18 x.f6.f4.length c18, .int .i64 x.f6.f5, .slice A20 x.f6.f6.length c20, .slice A21 x.f6.f7.length c21, .slice A22 x.f6.f8.length c22], [.int .i64 x.f7], rfl, (k40_mk w x.f6 l18 g18 l20 g20 l21 g21 l22 g22), rfl⟩⟩⟩⟩⟩⟩⟩
structure S44 where
  f0 : Int
  f1 : Int
  f2 : S40
def z44 : S44 := ⟨(0 : Int), (0 : Int), z40⟩
def k44 : Kd S44 := Kd.iso (Kd.pair (Kd.int .i64) (Kd.pair (Kd.int .i64) k40)) (fun x : S44 => (x.f0, x.f1, x.f2))
theorem k44_open {w : World} {x : S44} {cs : List Value} (h : k44.K w x cs) : ∃ A6 c6 A8 c8 A9 c9 A10 c10, cs = [.int .i64 x.f0, .int .i64 x.f1, .int .i64 x.f2.f0, .int .i64 x.f2.f1, .int .i64 x.f2.f2, .string x.f2.f3, .slice A6 x.f2.f4.length c6, .int .i64 x.f2.f5, .slice A8 x.f2.f6.length c8, .slice A9 x.f2.f7.length c9, .slice A10 x.f2.f8.length c10] ∧ x.f2.f4.length ≤ c6 ∧ k32.C w A6 x.f2.f4.length x.f2.f4 ∧ x.f2.f6.length ≤ c8 ∧ k30.C w A8 x.f2.f6.length x.f2.f6 ∧ x.f2.f7.length ≤ c9 ∧ k61.C w A9 x.f2.f7.length x.f2.f7 ∧ x.f2.f8.length ≤ c10 ∧ (Kd.int .u8).C w A10 x.f2.f8.length x.f2.f8 := by
  obtain ⟨_, _, rfl, rfl, ⟨_, _, rfl, rfl, s2⟩⟩ := h; obtain ⟨A6, c6, A8, c8, A9, c9, A10, c10, rfl, l6, g6, l8, g8, l9, g9, l10, g10⟩ := k40_open s2; exact ⟨A6, c6, A8, c8, A9, c9, A10, c10, rfl, l6, g6, l8, g8, l9, g9, l10, g10⟩
theorem k44_mk (w : World) (x : S44) {A6 : Option Addr} {c6 : Nat} (l6 : x.f2.f4.length ≤ c6) (g6 : k32.C w A6 x.f2.f4.length x.f2.f4) {A8 : Option Addr} {c8 : Nat} (l8 : x.f2.f6.length ≤ c8) (g8 : k30.C w A8 x.f2.f6.length x.f2.f6) {A9 : Option Addr} {c9 : Nat} (l9 : x.f2.f7.length ≤ c9) (g9 : k61.C w A9 x.f2.f7.length x.f2.f7) {A10 : Option Addr} {c10 : Nat} (l10 : x.f2.f8.length ≤ c10) (g10 : (Kd.int .u8).C w A10 x.f2.f8.length x.f2.f8) : k44.K w x [.int .i64 x.f0, .int .i64 x.f1, .int .i64 x.f2.f0, .int .i64 x.f2.f1, .int .i64 x.f2.f2, .string x.f2.f3, .slice A6 x.f2.f4.length c6, .int .i64 x.f2.f5, .slice A8 x.f2.f6.length c8, .slice A9 x.f2.f7.length c9, .slice A10 x.f2.f8.length c10] := ⟨[.int .i64 x.f0], [.int .i64 x.f1, .int .i64 x.f2.f0, .int .i64 x.f2.f1, .int .i64 x.f2.f2, .string x.f2.f3, .slice A6 x.f2.f4.length c6, .int .i64 x.f2.f5, .slice A8 x.f2.f6.length c8, .slice A9 x.f2.f7.length c9, .slice A10 x.f2.f8.length c10], rfl, rfl, ⟨[.int .i64 x.f1], [.int .i64 x.f2.f0, .int .i64 x.f2.f1, .int .i64 x.f2.f2, .string x.f2.f3, .slice A6 x.f2.f4.length c6, .int .i64 x.f2.f5, .slice A8 x.f2.f6.length c8, .slice A9 x.f2.f7.length c9, .slice A10 x.f2.f8.length c10], rfl, rfl, (k40_mk w x.f2 l6 g6 l8 g8 l9 g9 l10 g10)⟩⟩
structure S46 where
  f0 : Int
  f1 : Int
  f2 : S42
  f3 : S44
def z46 : S46 := ⟨(0 : Int), (0 : Int), z42, z44⟩
def k46 : Kd S46 := Kd.iso (Kd.pair (Kd.int .i64) (Kd.pair (Kd.int .i64) (Kd.pair k42 k44))) (fun x : S46 => (x.f0, x.f1, x.f2, x.f3))
theorem Qbb {w : World} {x : S46} {cs : List Value} (h : k46.K w x cs) : ∃ A14 c14 A20 c20 A22 c22 A23 c23 A24 c24 A32 c32 A34 c34 A35 c35 A36 c36, cs = [.int .i64 x.f0, .int .i64 x.f1, .int .i64 x.f2.f0, .int .i64 x.f2.f1.f0.f0, .int .i64 x.f2.f1.f0.f1, .string x.f2.f1.f1, .int .i64 x.f2.f1.f2, .string x.f2.f1.f3, .string x.f2.f1.f4.f0, .string x.f2.f1.f4.f1, .string x.f2.f1.f5.f0, .string x.f2.f1.f5.f1, .int .i64 x.f2.f2, .string x.f2.f3, .slice A14 x.f2.f4.length c14, .string x.f2.f5, .int .i64 x.f2.f6.f0, .int .i64 x.f2.f6.f1, .int .i64 x.f2.f6.f2, .string x.f2.f6.f3, .slice A20 x.f2.f6.f4.length c20, .int .i64 x.f2.f6.f5, .slice A22 x.f2.f6.f6.length c22, .slice A23 x.f2.f6.f7.length c23, .slice A24 x.f2.f6.f8.length c24, .int .i64 x.f2.f7, .int .i64 x.f3.f0, .int .i64 x.f3.f1, .int .i64 x.f3.f2.f0, .int .i64 x.f3.f2.f1, .int .i64 x.f3.f2.f2, .string x.f3.f2.f3, .slice A32 x.f3.f2.f4.length c32, .int .i64 x.f3.f2.f5, .slice A34 x.f3.f2.f6.length c34, .slice A35 x.f3.f2.f7.length c35, .slice A36 x.f3.f2.f8.length c36] ∧ x.f2.f4.length ≤ c14 ∧ k32.C w A14 x.f2.f4.length x.f2.f4 ∧ x.f2.f6.f4.length ≤ c20 ∧ k32.C w A20 x.f2.f6.f4.length x.f2.f6.f4 ∧ x.f2.f6.f6.length ≤ c22 ∧ k30.C w A22 x.f2.f6.f6.length x.f2.f6.f6 ∧ x.f2.f6.f7.length ≤ c23 ∧ k61.C w A23 x.f2.f6.f7.length x.f2.f6.f7 ∧ x.f2.f6.f8.length ≤ c24 ∧ (Kd.int .u8).C w A24 x.f2.f6.f8.length x.f2.f6.f8 ∧ x.f3.f2.f4.length ≤ c32 ∧ k32.C w A32 x.f3.f2.f4.length x.f3.f2.f4 ∧ x.f3.f2.f6.length ≤ c34 ∧ k30.C w A34 x.f3.f2.f6.length x.f3.f2.f6 ∧ x.f3.f2.f7.length ≤ c35 ∧ k61.C w A35 x.f3.f2.f7.length x.f3.f2.f7 ∧ x.f3.f2.f8.length ≤ c36 ∧ (Kd.int .u8).C w A36 x.f3.f2.f8.length x.f3.f2.f8 := by
  obtain ⟨_, _, rfl, rfl, ⟨_, _, rfl, rfl, ⟨_, _, rfl, s2, s26⟩⟩⟩ := h; obtain ⟨A14, c14, A20, c20, A22, c22, A23, c23, A24, c24, rfl, l14, g14, l20, g20, l22, g22, l23, g23, l24, g24⟩ := k42_open s2; obtain ⟨A32, c32, A34, c34, A35, c35, A36, c36, rfl, l32, g32, l34, g34, l35, g35, l36, g36⟩ := k44_open s26; exact ⟨A14, c14, A20, c20, A22, c22, A23, c23, A24, c24, A32, c32, A34, c34, A35, c35, A36, c36, rfl, l14, g14, l20, g20, l22, g22, l23, g23, l24, g24, l32, g32, l34, g34, l35, g35, l36, g36⟩
theorem k46_mk (w : World) (x : S46) {A14 : Option Addr} {c14 : Nat} (l14 : x.f2.f4.length ≤ c14) (g14 : k32.C w A14 x.f2.f4.length x.f2.f4) {A20 : Option Addr} {c20 : Nat} (l20 : x.f2.f6.f4.length ≤ c20) (g20 : k32.C w A20 x.f2.f6.f4.length x.f2.f6.f4) {A22 : Option Addr} {c22 : Nat} (l22 : x.f2.f6.f6.length ≤ c22) (g22 : k30.C w A22 x.f2.f6.f6.length x.f2.f6.f6) {A23 : Option Addr} {c23 : Nat} (l23 : x.f2.f6.f7.length ≤ c23) (g23 : k61.C w A23 x.f2.f6.f7.length x.f2.f6.f7) {A24 : Option Addr} {c24 : Nat} (l24 : x.f2.f6.f8.length ≤ c24) (g24 : (Kd.int .u8).C w A24 x.f2.f6.f8.length x.f2.f6.f8) {A32 : Option Addr} {c32 : Nat} (l32 : x.f3.f2.f4.length ≤ c32) (g32 : k32.C w A32 x.f3.f2.f4.length x.f3.f2.f4) {A34 : Option Addr} {c34 : Nat} (l34 : x.f3.f2.f6.length ≤ c34) (g34 : k30.C w A34 x.f3.f2.f6.length x.f3.f2.f6) {A35 : Option Addr} {c35 : Nat} (l35 : x.f3.f2.f7.length ≤ c35) (g35 : k61.C w A35 x.f3.f2.f7.length x.f3.f2.f7) {A36 : Option Addr} {c36 : Nat} (l36 : x.f3.f2.f8.length ≤ c36) (g36 : (Kd.int .u8).C w A36 x.f3.f2.f8.length x.f3.f2.f8) : k46.K w x [.int .i64 x.f0, .int .i64 x.f1, .int .i64 x.f2.f0, .int .i64 x.f2.f1.f0.f0, .int .i64 x.f2.f1.f0.f1, .string x.f2.f1.f1, .int .i64 x.f2.f1.f2, .string x.f2.f1.f3, .string x.f2.f1.f4.f0, .string x.f2.f1.f4.f1, .string x.f2.f1.f5.f0, .string x.f2.f1.f5.f1, .int .i64 x.f2.f2, .string x.f2.f3, .slice A14 x.f2.f4.length c14, .string x.f2.f5, .int .i64 x.f2.f6.f0, .int .i64 x.f2.f6.f1, .int .i64 x.f2.f6.f2, .string x.f2.f6.f3, .slice A20 x.f2.f6.f4.length c20, .int .i64 x.f2.f6.f5, .slice A22 x.f2.f6.f6.length c22, .slice A23 x.f2.f6.f7.length c23, .slice A24 x.f2.f6.f8.length c24, .int .i64 x.f2.f7, .int .i64 x.f3.f0, .int .i64 x.f3.f1, .int .i64 x.f3.f2.f0, .int .i64 x.f3.f2.f1, .int .i64 x.f3.f2.f2, .string x.f3.f2.f3, .slice A32 x.f3.f2.f4.length c32, .int .i64 x.f3.f2.f5, .slice A34 x.f3.f2.f6.length c34, .slice A35 x.f3.f2.f7.length c35, .slice A36 x.f3.f2.f8.length c36] := ⟨[.int .i64 x.f0], [.int .i64 x.f1, .int .i64 x.f2.f0, .int .i64 x.f2.f1.f0.f0, .int .i64 x.f2.f1.f0.f1, .string x.f2.f1.f1, .int .i64 x.f2.f1.f2, .string x.f2.f1.f3, .string x.f2.f1.f4.f0, .string x.f2.f1.f4.f1, .string x.f2.f1.f5.f0, .string x.f2.f1.f5.f1, .int .i64 x.f2.f2, .string x.f2.f3, .slice A14 x.f2.f4.length c14, .string x.f2.f5, .int .i64 x.f2.f6.f0, .int .i64 x.f2.f6.f1, .int .i64 x.f2.f6.f2, .string x.f2.f6.f3, .slice A20 x.f2.f6.f4.length c20, .int .i64 x.f2.f6.f5, .slice A22 x.f2.f6.f6.length c22, .slice A23 x.f2.f6.f7.length c23, .slice A24 x.f2.f6.f8.length c24, .int .i64 x.f2.f7, .int .i64 x.f3.f0, .int .i64 x.f3.f1, .int .i64 x.f3.f2.f0, .int .i64 x.f3.f2.f1, .int .i64 x.f3.f2.f2, .string x.f3.f2.f3, .slice A32 x.f3.f2.f4.length c32, .int .i64 x.f3.f2.f5, .slice A34 x.f3.f2.f6.length c34, .slice A35 x.f3.f2.f7.length c35, .slice A36 x.f3.f2.f8.length c36], rfl, rfl, ⟨[.int .i64 x.f1], [.int .i64 x.f2.f0, .int .i64 x.f2.f1.f0.f0, .int .i64 x.f2.f1.f0.f1, .string x.f2.f1.f1, .int .i64 x.f2.f1.f2, .string x.f2.f1.f3, .string x.f2.f1.f4.f0, .string x.f2.f1.f4.f1, .string x.f2.f1.f5.f0, .string x.f2.f1.f5.f1, .int .i64 x.f2.f2, .string x.f2.f3, .slice A14 x.f2.f4.length c14, .string x.f2.f5, .int .i64 x.f2.f6.f0, .int .i64 x.f2.f6.f1, .int .i64 x.f2.f6.f2, .string x.f2.f6.f3, .slice A20 x.f2.f6.f4.length c20, .int .i64 x.f2.f6.f5, .slice A22 x.f2.f6.f6.length c22, .slice A23 x.f2.f6.f7.length c23, .slice A24 x.f2.f6.f8.length c24, .int .i64 x.f2.f7, .int .i64 x.f3.f0, .int .i64 x.f3.f1, .int .i64 x.f3.f2.f0, .int .i64 x.f3.f2.f1, .int .i64 x.f3.f2.f2, .string x.f3.f2.f3, .slice A32 x.f3.f2.f4.length c32, .int .i64 x.f3.f2.f5, .slice A34 x.f3.f2.f6.length c34, .slice A35 x.f3.f2.f7.length c35, .slice A36 x.f3.f2.f8.length c36], rfl, rfl, ⟨[.int .i64 x.f2.f0, .int .i64 x.f2.f1.f0.f0, .int .i64 x.f2.f1.f0.f1, .string x.f2.f1.f1, .int .i64 x.f2.f1.f2, .string x.f2.f1.f3, .string x.f2.f1.f4.f0, .string x.f2.f1.f4.f1, .string x.f2.f1.f5.f0, .string x.f2.f1.f5.f1, .int .i64 x.f2.f2, .string x.f2.f3, .slice A14 x.f2.f4.length c14, .string x.f2.f5, .int .i64 x.f2.f6.f0, .int .i64 x.f2.f6.f1, .int .i64 x.f2.f6.f2, .string x.f2.f6.f3, .slice A20 x.f2.f6.f4.length c20, .int .i64 x.f2.f6.f5, .slice A22 x.f2.f6.f6.length c22, .slice A23 x.f2.f6.f7.length c23, .slice A24 x.f2.f6.f8.length c24, .int .i64 x.f2.f7], [.int .i64 x.f3.f0, .int .i64 x.f3.f1, .int .i64 x.f3.f2.f0, .int .i64 x.f3.f2.f1, .int .i64 x.f3.f2.f2, .string x.f3.f2.f3, .slice A32 x.f3.f2.f4.length c32, .int .i64 x.f3.f2.f5, .slice A34 x.f3.f2.f6.length c34, .slice A35 x.f3.f2.f7.length c35, .slice A36 x.f3.f2.f8.length c36], rfl, (k42_mk w x.f2 l14 g14 l20 g20 l22 g22 l23 g23 l24 g24), (k44_mk w x.f3 l32 g32 l34 g34 l35 g35 l36 g36)⟩⟩⟩
abbrev Tok := S40
abbrev Evt := S46
abbrev kTok := k40
def TokA (w : World) (t : Tok) (T : Array Value) : Prop := kTok.K w t T.toList
abbrev tokV (t : Tok) (A4 : Option Addr) (c4 : Nat) (A6 : Option Addr) (c6 : Nat) (A7 : Option Addr) (c7 : Nat) (A8 : Option Addr) (c8 : Nat) : Array Value := #[.int .i64 t.f0, .int .i64 t.f1, .int .i64 t.f2, .string t.f3, .slice A4 t.f4.length c4, .int .i64 t.f5, .slice A6 t.f6.length c6, .slice A7 t.f7.length c7, .slice A8 t.f8.length c8]
theorem TokA.size {w : World} {t : Tok} {T : Array Value} (h : TokA w t T) : T.size = 9 := by
  have := kTok.K_len h; rw [Array.length_toList] at this; exact this
theorem TokA.below {w w' : World} {t : Tok} {T : Array Value} (h : TokA w t T) (hb : Below w.heap.size w w') : TokA w' t T := kTok.K_below hb h
theorem TokA.form {w : World} {t : Tok} {T : Array Value} (h : TokA w t T) : ∃ A4 c4 A6 c6 A7 c7 A8 c8, T = tokV t A4 c4 A6 c6 A7 c7 A8 c8 ∧ t.f4.length ≤ c4 ∧ k32.C w A4 t.f4.length t.f4 ∧ t.f6.length ≤ c6 ∧ k30.C w A6 t.f6.length t.f6 ∧ t.f7.length ≤ c7 ∧ k61.C w A7 t.f7.length t.f7 ∧ t.f8.length ≤ c8 ∧ (Kd.int .u8).C w A8 t.f8.length t.f8 := by
  obtain ⟨A4, c4, A6, c6, A7, c7, A8, c8, hc, r⟩ := k40_open h; exact ⟨A4, c4, A6, c6, A7, c7, A8, c8, by rw [← Array.toArray_toList (xs := T), hc], r⟩
theorem tok_cells {w : World} {b : Nat} {t : Tok} {A4 : Option Addr} {c4 : Nat} {A6 : Option Addr} {c6 : Nat} {A7 : Option Addr} {c7 : Nat} {A8 : Option Addr} {c8 : Nat} {ty : TypeId} (h : w.heap[b]? = some (.cells (tokV t A4 c4 A6 c6 A7 c7 A8 c8) ty (0, 0))) :
    w.cell? ⟨b, 0, none⟩ = some (.int .i64 t.f0) ∧ w.cell? ⟨b, 1, none⟩ = some (.int .i64 t.f1) ∧ w.cell? ⟨b, 2, none⟩ = some (.int .i64 t.f2) ∧ w.cell? ⟨b, 3, none⟩ = some (.string t.f3) ∧ w.cell? ⟨b, 4, none⟩ = some (.slice A4 t.f4.length c4) ∧ w.cell? ⟨b, 5, none⟩ = some (.int .i64 t.f5) ∧ w.cell? ⟨b, 6, none⟩ = some (.slice A6 t.f6.length c6) :=
  ⟨(Qaf h 0).trans rfl, (Qaf h 1).trans rfl, (Qaf h 2).trans rfl, (Qaf h 3).trans rfl, (Qaf h 4).trans rfl, (Qaf h 5).trans rfl, (Qaf h 6).trans rfl⟩
def headB (t u : Tok) : Bool := decide (t.f0 = u.f0) && (decide (t.f1 = u.f1) && (decide (t.f2 = u.f2) && (decide (t.f5 = u.f5) && (decide (t.f3 = u.f3) && (decide (t.f4 = u.f4) && decide (t.f6 = u.f6))))))
theorem head_cases (t u : Tok) :
    (headB t u = false ∧ (t.f0 == u.f0) = false) ∨ (headB t u = false ∧ (t.f0 == u.f0) = true ∧ (t.f1 == u.f1) = false) ∨ (headB t u = false ∧ (t.f0 == u.f0) = true ∧ (t.f1 == u.f1) = true ∧ (t.f2 == u.f2) = false)
    ∨ (headB t u = false ∧ (t.f0 == u.f0) = true ∧ (t.f1 == u.f1) = true ∧ (t.f2 == u.f2) = true ∧ (t.f5 == u.f5) = false) ∨ (headB t u = false ∧ (t.f0 == u.f0) = true ∧ (t.f1 == u.f1) = true ∧ (t.f2 == u.f2) = true ∧ (t.f5 == u.f5) = true ∧ (t.f3.toList == u.f3.toList) = false)
    ∨ (headB t u = false ∧ (t.f0 == u.f0) = true ∧ (t.f1 == u.f1) = true ∧ (t.f2 == u.f2) = true ∧ (t.f5 == u.f5) = true ∧ (t.f3.toList == u.f3.toList) = true ∧ decide (t.f4 = u.f4) = false)
    ∨ (headB t u = decide (t.f6 = u.f6) ∧ (t.f0 == u.f0) = true ∧ (t.f1 == u.f1) = true ∧ (t.f2 == u.f2) = true ∧ (t.f5 == u.f5) = true ∧ (t.f3.toList == u.f3.toList) = true ∧ decide (t.f4 = u.f4) = true) := by
  have e3 : (t.f3.toList == u.f3.toList) = decide (t.f3 = u.f3) := by rw [Bool.eq_iff_iff, Lib.bytes_beq_iff, decide_eq_true_eq]
  have e (a b : Int) : (a == b) = decide (a = b) := rfl; unfold headB; rw [e3]; simp only [e]
  cases decide (t.f0 = u.f0) <;> cases decide (t.f1 = u.f1) <;> cases decide (t.f2 = u.f2) <;> cases decide (t.f5 = u.f5) <;> cases decide (t.f3 = u.f3) <;> cases decide (t.f4 = u.f4) <;> cases decide (t.f6 = u.f6) <;> simp
set_option maxRecDepth 100000 in
set_option maxHeartbeats 4000000 in
theorem head_calls (w : World) (t u : Tok) (T U : Array Value) (hT : TokA w t T) (hU : TokA w u U) :
    Calls Tryd.prog 27 #[.agg T, .agg U] w fun e w' => e = .returned (.bool (headB t u)) ∧ Below w.heap.size w w' := by
  obtain ⟨A4, c4, A6, c6, A7, c7, A8, c8, rfl, l4, g4, l6, g6, -, -, -, -⟩ := hT.form; obtain ⟨B4, d4, B6, d6, B7, d7, B8, d8, rfl, m4, h4, m6, h6, -, -, -, -⟩ := hU.form; obtain ⟨K4, k4⟩ := equalRole_ev t.f4 u.f4 (g4.2.1); obtain ⟨K6, k6⟩ := equalID_ev t.f6 u.f6 (g6.2.1); have k4 := k4 K4 (Nat.le_refl _); have k6 := k6 K6 (Nat.le_refl _); have HK4 := Lib.hid k4; have HK6 := Lib.hid k6; have G4 := Lib.hid (And.intro l4 (And.intro m4 (And.intro g4 h4))); have G6 := Lib.hid (And.intro l6 (And.intro m6 (And.intro g6 h6))); have hcs := head_cases t u; clear l4 g4 l6 g6 m4 h4 m6 h6 k4 k6 hT hU; go_enter Tryd.func27, Tryd.ntmps27
  rcases hcs with ⟨e, f0⟩ | ⟨e, f0, f1⟩ | ⟨e, f0, f1, f2⟩ | ⟨e, f0, f1, f2, f3⟩ | ⟨e, f0, f1, f2, f3, f4⟩ | ⟨e, f0, f1, f2, f3, f4, f5⟩ | ⟨e, f0, f1, f2, f3, f4, f5⟩
  all_goals
    rw [e]; clear e
    go_wp2_with (first | (go_at_call 23; refine (QaL.calls K4 _ _ t.f4 _ _ u.f4 _ _ (Kd.QaN G4.out.2.2.1 (Qad (Qad (Below.refl _ _) _) _)) G4.out.1 (Kd.QaN G4.out.2.2.2 (Qad (Qad (Below.refl _ _) _) _)) G4.out.2.1 HK4.out).mono ?_; rintro e w3 ⟨rfl, m, rfl⟩) | (go_at_call 37; refine (api_ID.calls K6 _ _ t.f6 _ _ u.f6 _ _ (Kd.QaN G6.out.2.2.1 (Qak (Qad (Qad (Below.refl _ _) _) _) _)) G6.out.1 (Kd.QaN G6.out.2.2.2 (Qak (Qad (Qad (Below.refl _ _) _) _) _)) G6.out.2.1 HK6.out).mono ?_; rintro e w4 ⟨rfl, m', rfl⟩))
    go_ret; exact ⟨rfl, by repeat (first | exact Below.refl _ _ | apply Qak | apply Qat | apply Qad)⟩
theorem verify1_calls (w : World) (b : Nat) (t u : Tok) (T U : Array Value) (hb : w.heap[b]? = some (.cells T 40 (0, 0))) (hT : TokA w t T) (hU : TokA w u U) :
    Calls Tryd.prog 26 #[.agg U, .pointer (some ⟨b, 0, none⟩)] w fun e w' => e = .returned (.bool (headB t u)) ∧ Below w.heap.size w w' := by
  have HH := Lib.hid (head_calls (w.alloc (.cells U 40 (0, 0))) t u T U (hT.below (Qad (Below.refl _ _) _)) (hU.below (Qad (Below.refl _ _) _))); have sT := hT.size; have sU := hU.size; have h1 := Lib.hid (range_block (Qav hb (.cells U 40 (0, 0))) 0 9); have h2 := Lib.hid (range_block (Qau w (.cells U 40 (0, 0))) 0 9); rw [show T.extract 0 (0 + 9) = T by rw [← sT]; simp] at h1; rw [show U.extract 0 (0 + 9) = U by rw [← sU]; simp] at h2; go_enter Tryd.func26, Tryd.ntmps26
  go_wp2_with (first | (refine Qah rfl 40 (.tmp 1) rfl _ rfl T _ h1.out Tryd.underlying40 rfl (by rw [sT]; kernel_rfl) ?_) | (refine Qah rfl 40 (.tmp 2) rfl _ rfl U _ h2.out Tryd.underlying40 rfl (by rw [sU]; kernel_rfl) ?_) | (go_at_call 27; refine HH.out.mono ?_; rintro e w3 ⟨rfl, hb3⟩; have HB3 := Lib.hid hb3; clear hb3))
  go_ret; exact ⟨rfl, Qab (Qad (Below.refl _ _) _) HB3.out⟩
def kRaw (n : Nat) : Kd (Array Value) where
  sz := n
  E := []
  K := fun _ x cs => cs = x.toList ∧ x.size = n ∧ ∀ u ∈ x.toList, u.oneCell' = true
  M := fun _ _ _ x cs => cs = x.toList ∧ x.size = n ∧ ∀ u ∈ x.toList, u.oneCell' = true
  K_len := by rintro _ x cs ⟨rfl, h, _⟩; simpa using h
  K_one := by rintro _ x cs ⟨rfl, _, h⟩; exact h
  K_below := fun _ h => h
  K_of_M := fun h => h
  M_mono := fun _ h => h
  M_bound := fun h => h
  M_move := fun _ h => h
  M_lower := fun _ h => h
theorem raw_get {n : Nat} {w : World} {A : Option Addr} {Ts : List (Array Value)} (h : Kd.C (kRaw n) w A Ts.length Ts) (i : Nat) (hi : i < Ts.length) : ∃ ad T, A = some ad ∧ Ts[i]? = some T ∧ T ∈ Ts ∧ Ts.take (i + 1) = Ts.take i ++ [T] ∧ T.size = n ∧ ∀ j v, T[j]? = some v → w.cell? ((ad.add (i * n)).add j) = some v := by
  obtain ⟨ad, c, e, _, hK, hc0⟩ := Kd.C_get h #[] (i : Int) (by omega) (by omega)
  have e1 : Ts.getD (i : Int).toNat #[] = Ts[i] := by rw [show (i : Int).toNat = i from rfl]; simp [List.getD, List.getElem?_eq_getElem hi]
  rw [e1] at hK; obtain ⟨rfl, h2, _⟩ := hK; exact ⟨ad, Ts[i], e, List.getElem?_eq_getElem hi, List.getElem_mem hi, by rw [List.take_add_one, List.getElem?_eq_getElem hi]; rfl, h2, fun j v hv => by rw [Addr.add_add]; exact hc0 j v (by rw [Array.getElem?_toList]; exact hv)⟩
set_option maxRecDepth 100000 in
set_option maxHeartbeats 4000000 in
theorem indexTok_calls (w : World) (A : Option Addr) (c b : Nat) (Ts : List (Array Value)) (fs : List Bool) (hfl : fs.length = Ts.length) (hC : Kd.C (kRaw 9) w A Ts.length Ts) (hc : Ts.length ≤ c)
    (hF : ∀ W, Below w.heap.size w W → ∀ (i : Nat) (T : Array Value) (y : Bool), Ts[i]? = some T → fs[i]? = some y → Calls Tryd.prog 26 #[.agg T, .pointer (some ⟨b, 0, none⟩)] W fun e w' => e = .returned (.bool y) ∧ Below W.heap.size W w') :
    Calls Tryd.prog 36 #[.slice A Ts.length c, .func (.func 26) #[] #[.pointer (some ⟨b, 0, none⟩)]] w fun e w' => ∃ v : Int, e = .returned (.int .i64 v) ∧ (v ≥ 0 ↔ fs.any id = true) ∧ Below w.heap.size w w' := by
  have HC := Lib.hid hC; have HF := Lib.hid hF; have hm := hC.2.1; clear hC hF; go_enter Tryd.func36, Tryd.ntmps36
  go_wp2_with fail
  go_loopg [8] (Ts.length + 1) (fun kq v8 w' => ∃ i : Nat, v8 = .int .i64 i ∧ Hid (kq = Ts.length + 1 - i) ∧ Hid (i ≤ Ts.length) ∧ Hid ((fs.take i).any id = false) ∧ Hid (Below w.heap.size w w'))
  case atStart => exact ⟨0, rfl, Lib.hid rfl, Lib.hid (Nat.zero_le _), Lib.hid rfl, Lib.hid (by repeat (first | exact Below.refl _ _ | apply Qak | apply Qat))⟩
  case round =>
    obtain ⟨i, rfl, HKq, HI, HN, HB⟩ := hrel
    by_cases hi : i < Ts.length
    · have d1 : decide ((i : Int) < (Ts.length : Int)) = true := decide_eq_true (by omega)
      have d2 : decide (i < Ts.length) = true := decide_eq_true hi
      have wrapI : wrap64 ((i : Int) + 1) = ((i + 1 : Nat) : Int) := by unfold wrap64; omega
      obtain ⟨ad, T, rfl, hget, hmem, htk, sT, hcell⟩ := raw_get (Kd.QaN HC.out HB.out) i hi; have HCell := Lib.hid hcell
      have q1 : (0 : Int) ≤ (i : Int) := by omega
      have q2 : (i : Int) < (Ts.length : Int) := by omega
      have HI2 := Lib.hid hi; clear hcell
      obtain ⟨y, hy⟩ : ∃ y, fs[i]? = some y := ⟨_, List.getElem?_eq_getElem (by omega)⟩
      have hst : (fs.take (i + 1)).any id = y := by
        rw [List.take_add_one, hy, List.any_append, HN.out]; simp
      have HSt := Lib.hid hst; have HAny := Lib.hid (show y = true → fs.any id = true from fun h => List.any_eq_true.mpr ⟨_, List.mem_of_getElem? hy, h⟩); have HT := Lib.hid (HF.out wr HB.out i T y hget hy); clear hst hi hmem htk hget hy
      cases y with
      | true =>
        go_wp2_with (first | (refine Qah rfl 40 (.tmp 14) rfl _ rfl T _ HCell.out Tryd.underlying40 rfl (by rw [sT]; kernel_rfl) ?_) | (go_at_call 26; refine HT.out.mono ?_; rintro e w3 ⟨rfl, hb3⟩; have HB3 := Lib.hid (Qab HB.out hb3); clear hb3))
        go_ret; exact ⟨(i : Int), rfl, ⟨fun _ => by first | exact HAny.out rfl | exact HAny.out trivial, fun _ => q1⟩, HB3.out⟩
      | false =>
        go_wp2_with (first | (refine Qah rfl 40 (.tmp 14) rfl _ rfl T _ HCell.out Tryd.underlying40 rfl (by rw [sT]; kernel_rfl) ?_) | (go_at_call 26; refine HT.out.mono ?_; rintro e w3 ⟨rfl, hb3⟩; have HB3 := Lib.hid (Qab HB.out hb3); clear hb3))
        go_roundg (Ts.length + 1 - (i + 1))
        case measure => have := HKq.out; have := HI2.out; omega
        case rel => exact ⟨i + 1, by first | rfl | exact congrArg _ wrapI, Lib.hid rfl, Lib.hid HI2.out, HSt, HB3⟩
    · have d1 : decide ((i : Int) < (Ts.length : Int)) = false := decide_eq_false (by omega)
      have d2 : decide (i < Ts.length) = false := decide_eq_false hi; have hN := HN.out; rw [List.take_of_length_le (by omega)] at hN; have HN2 := Lib.hid hN; clear hi hN
      go_wp2_with fail
      go_ret; exact ⟨-1, rfl, ⟨fun h => absurd h (by decide), fun h => by rw [HN2.out] at h; cases h⟩, HB.out⟩
set_option maxRecDepth 100000 in
set_option maxHeartbeats 4000000 in
theorem containsTok_calls (w : World) (A : Option Addr) (c b : Nat) (Ts : List (Array Value)) (fs : List Bool) (hfl : fs.length = Ts.length) (hC : Kd.C (kRaw 9) w A Ts.length Ts) (hc : Ts.length ≤ c)
    (hF : ∀ W, Below w.heap.size w W → ∀ (i : Nat) (T : Array Value) (y : Bool), Ts[i]? = some T → fs[i]? = some y → Calls Tryd.prog 26 #[.agg T, .pointer (some ⟨b, 0, none⟩)] W fun e w' => e = .returned (.bool y) ∧ Below W.heap.size W w') :
    Calls Tryd.prog 25 #[.slice A Ts.length c, .func (.func 26) #[] #[.pointer (some ⟨b, 0, none⟩)]] w fun e w' => e = .returned (.bool (fs.any id)) ∧ Below w.heap.size w w' := by
  have HI := Lib.hid (indexTok_calls w A c b Ts fs hfl hC hc hF); clear hC hF hc; go_enter Tryd.func25, Tryd.ntmps25
  go_wp2_with (go_at_call 36; refine HI.out.mono ?_; rintro e w3 ⟨v, rfl, hv, hb3⟩; have HV := Lib.hid hv; have HB3 := Lib.hid hb3; clear hb3 hv)
  go_ret
  have e : decide (0 ≤ v) = fs.any id := by
    rw [Bool.eq_iff_iff, decide_eq_true_eq, ← HV.out]
  exact ⟨congrArg (fun b => Ending.returned (.bool b)) e, HB3.out⟩
set_option maxRecDepth 100000 in
set_option maxHeartbeats 4000000 in
theorem indexRol_calls (w : World) (A : Option Addr) (c b b2 : Nat) (Ts : List (Array Value)) (fs : List Bool) (hfl : fs.length = Ts.length) (hC : Kd.C (kRaw 2) w A Ts.length Ts) (hc : Ts.length ≤ c)
    (hF : ∀ W, Below w.heap.size w W → ∀ (i : Nat) (T : Array Value) (y : Bool), Ts[i]? = some T → fs[i]? = some y → Calls Tryd.prog 34 #[.agg T, .pointer (some ⟨b, 0, none⟩), .pointer (some ⟨b2, 0, none⟩)] W fun e w' => e = .returned (.bool y) ∧ Below W.heap.size W w') :
    Calls Tryd.prog 41 #[.slice A Ts.length c, .func (.func 34) #[] #[.pointer (some ⟨b, 0, none⟩), .pointer (some ⟨b2, 0, none⟩)]] w fun e w' => ∃ v : Int, e = .returned (.int .i64 v) ∧ (v ≥ 0 ↔ fs.any id = true) ∧ Below w.heap.size w w' := by
  have HC := Lib.hid hC; have HF := Lib.hid hF; have hm := hC.2.1; clear hC hF; go_enter Tryd.func41, Tryd.ntmps41
  go_wp2_with fail
  go_loopg [8] (Ts.length + 1) (fun kq v8 w' => ∃ i : Nat, v8 = .int .i64 i ∧ Hid (kq = Ts.length + 1 - i) ∧ Hid (i ≤ Ts.length) ∧ Hid ((fs.take i).any id = false) ∧ Hid (Below w.heap.size w w'))
  case atStart => exact ⟨0, rfl, Lib.hid rfl, Lib.hid (Nat.zero_le _), Lib.hid rfl, Lib.hid (by repeat (first | exact Below.refl _ _ | apply Qak | apply Qat))⟩
  case round =>
    obtain ⟨i, rfl, HKq, HI, HN, HB⟩ := hrel
    by_cases hi : i < Ts.length
    · have d1 : decide ((i : Int) < (Ts.length : Int)) = true := decide_eq_true (by omega)
      have d2 : decide (i < Ts.length) = true := decide_eq_true hi
      have wrapI : wrap64 ((i : Int) + 1) = ((i + 1 : Nat) : Int) := by unfold wrap64; omega
      obtain ⟨ad, T, rfl, hget, hmem, htk, sT, hcell⟩ := raw_get (Kd.QaN HC.out HB.out) i hi; have HCell := Lib.hid hcell
      have q1 : (0 : Int) ≤ (i : Int) := by omega
      have q2 : (i : Int) < (Ts.length : Int) := by omega
      have HI2 := Lib.hid hi; clear hcell
      obtain ⟨y, hy⟩ : ∃ y, fs[i]? = some y := ⟨_, List.getElem?_eq_getElem (by omega)⟩
      have hst : (fs.take (i + 1)).any id = y := by
        rw [List.take_add_one, hy, List.any_append, HN.out]; simp
      have HSt := Lib.hid hst; have HAny := Lib.hid (show y = true → fs.any id = true from fun h => List.any_eq_true.mpr ⟨_, List.mem_of_getElem? hy, h⟩); have HT := Lib.hid (HF.out wr HB.out i T y hget hy); clear hst hi hmem htk hget hy
      cases y with
      | true =>
        go_wp2_with (first | (refine Qah rfl 32 (.tmp 14) rfl _ rfl T _ HCell.out Tryd.underlying32 rfl (by rw [sT]; kernel_rfl) ?_) | (go_at_call 34; refine HT.out.mono ?_; rintro e w3 ⟨rfl, hb3⟩; have HB3 := Lib.hid (Qab HB.out hb3); clear hb3))
        go_ret; exact ⟨(i : Int), rfl, ⟨fun _ => by first | exact HAny.out rfl | exact HAny.out trivial, fun _ => q1⟩, HB3.out⟩
      | false =>
        go_wp2_with (first | (refine Qah rfl 32 (.tmp 14) rfl _ rfl T _ HCell.out Tryd.underlying32 rfl (by rw [sT]; kernel_rfl) ?_) | (go_at_call 34; refine HT.out.mono ?_; rintro e w3 ⟨rfl, hb3⟩; have HB3 := Lib.hid (Qab HB.out hb3); clear hb3))
        go_roundg (Ts.length + 1 - (i + 1))
        case measure => have := HKq.out; have := HI2.out; omega
        case rel => exact ⟨i + 1, by first | rfl | exact congrArg _ wrapI, Lib.hid rfl, Lib.hid HI2.out, HSt, HB3⟩
    · have d1 : decide ((i : Int) < (Ts.length : Int)) = false := decide_eq_false (by omega)
      have d2 : decide (i < Ts.length) = false := decide_eq_false hi; have hN := HN.out; rw [List.take_of_length_le (by omega)] at hN; have HN2 := Lib.hid hN; clear hi hN
      go_wp2_with fail
      go_ret; exact ⟨-1, rfl, ⟨fun h => absurd h (by decide), fun h => by rw [HN2.out] at h; cases h⟩, HB.out⟩
set_option maxRecDepth 100000 in
set_option maxHeartbeats 4000000 in
theorem containsRol_calls (w : World) (A : Option Addr) (c b b2 : Nat) (Ts : List (Array Value)) (fs : List Bool) (hfl : fs.length = Ts.length) (hC : Kd.C (kRaw 2) w A Ts.length Ts) (hc : Ts.length ≤ c)
    (hF : ∀ W, Below w.heap.size w W → ∀ (i : Nat) (T : Array Value) (y : Bool), Ts[i]? = some T → fs[i]? = some y → Calls Tryd.prog 34 #[.agg T, .pointer (some ⟨b, 0, none⟩), .pointer (some ⟨b2, 0, none⟩)] W fun e w' => e = .returned (.bool y) ∧ Below W.heap.size W w') :
    Calls Tryd.prog 33 #[.slice A Ts.length c, .func (.func 34) #[] #[.pointer (some ⟨b, 0, none⟩), .pointer (some ⟨b2, 0, none⟩)]] w fun e w' => e = .returned (.bool (fs.any id)) ∧ Below w.heap.size w w' := by
  have HI := Lib.hid (indexRol_calls w A c b b2 Ts fs hfl hC hc hF); clear hC hF hc; go_enter Tryd.func33, Tryd.ntmps33
  go_wp2_with (go_at_call 41; refine HI.out.mono ?_; rintro e w3 ⟨v, rfl, hv, hb3⟩; have HV := Lib.hid hv; have HB3 := Lib.hid hb3; clear hb3 hv)
  go_ret
  have e : decide (0 ≤ v) = fs.any id := by
    rw [Bool.eq_iff_iff, decide_eq_true_eq, ← HV.out]
  exact ⟨congrArg (fun b => Ending.returned (.bool b)) e, HB3.out⟩
inductive Said (cs : List Cred) : Pair → Prop
  | member {c : Cred} : c ∈ cs → c.f2 = 1 → Said cs ⟨credRole c, c.f3⟩
  | incl {c : Cred} {u : ByteArray} : c ∈ cs → c.f2 = 2 → Said cs ⟨c.f4, u⟩ → Said cs ⟨credRole c, u⟩
  | link {c : Cred} {u v : ByteArray} : c ∈ cs → c.f2 = 3 → Said cs ⟨linkFirst c, u⟩ → numName u > 0 → Said cs ⟨⟨u, c.f5.f1⟩, v⟩ → Said cs ⟨credRole c, v⟩
  | both {c : Cred} {u : ByteArray} : c ∈ cs → c.f2 = 4 → Said cs ⟨c.f4, u⟩ → Said cs ⟨c.f5, u⟩ → Said cs ⟨credRole c, u⟩
def small (s : ByteArray) : Prop := s.size ≤ 8
def smallR (r : Role) : Prop := small r.f0 ∧ small r.f1
theorem Qbl {s : ByteArray} (h : small s) : s.size ≤ maxLen := Nat.le_trans h (by decide)
theorem mayName_small {s : ByteArray} (h : mayName s = true) : small s := by
  unfold mayName at h; simp only [Bool.and_eq_true, decide_eq_true_eq] at h; unfold small; omega
theorem domName_small (n : Int) : small (domName n) := by
  by_cases h : 1 ≤ n ∧ n ≤ 16
  · obtain ⟨h, h'⟩ := h
    have : n = 1 ∨ n = 2 ∨ n = 3 ∨ n = 4 ∨ n = 5 ∨ n = 6 ∨ n = 7 ∨ n = 8 ∨ n = 9 ∨ n = 10 ∨ n = 11 ∨ n = 12 ∨ n = 13 ∨ n = 14 ∨ n = 15 ∨ n = 16 := by omega
    rcases this with rfl | rfl | rfl | rfl | rfl | rfl | rfl | rfl | rfl | rfl | rfl | rfl | rfl | rfl | rfl | rfl <;> (unfold small; decide)
  · rw [domName_out n (by omega)]
    unfold small
    decide
theorem numName_small {s : ByteArray} (h : numName s > 0) : small s := by
  rcases numName_spec s with ⟨m, _, _, h3, _⟩ | ⟨_, h2⟩
  · rw [← h3]; exact domName_small m
  · omega
theorem numName_dom {n : Int} (h : 1 ≤ n) (h' : n ≤ 16) : numName (domName n) > 0 := by
  rcases numName_spec (domName n) with ⟨m, h1, _, _, h4⟩ | ⟨h1, _⟩
  · omega
  · exact absurd rfl (h1 n h h')
theorem roleOk_small {r : Role} (h : roleOk r = true) : smallR r := by
  unfold roleOk at h; rw [Bool.and_eq_true, decide_eq_true_eq] at h; exact ⟨numName_small h.1, mayName_small h.2⟩
theorem bareOk_small {r : Role} (h : bareOk r = true) : small r.f1 := by
  unfold bareOk at h; rw [Bool.and_eq_true] at h; exact mayName_small h.2
theorem Qa2 {c : Cred} (h : credMay c = true) : (1 ≤ c.f0.f0 ∧ c.f0.f0 ≤ 16) ∧ small c.f1 ∧ ((c.f2 = 1 ∧ small c.f3) ∨ (c.f2 = 2 ∧ smallR c.f4) ∨ (c.f2 = 3 ∧ small c.f4.f1 ∧ small c.f5.f1) ∨ (c.f2 = 4 ∧ smallR c.f4 ∧ smallR c.f5)) := by
  unfold credMay at h; rw [Bool.and_eq_true, Bool.and_eq_true, Bool.and_eq_true, decide_eq_true_eq] at h; refine ⟨h.1.1.1, mayName_small h.1.2, ?_⟩; have h2 := h.2
  by_cases k1 : c.f2 = 1
  · rw [if_pos k1, Bool.and_eq_true] at h2
    exact .inl ⟨k1, mayName_small h2.1⟩
  rw [if_neg k1] at h2
  by_cases k2 : c.f2 = 2
  · rw [if_pos k2, Bool.and_eq_true] at h2
    exact .inr (.inl ⟨k2, roleOk_small h2.1⟩)
  rw [if_neg k2] at h2
  by_cases k3 : c.f2 = 3
  · rw [if_pos k3, Bool.and_eq_true, Bool.and_eq_true] at h2
    exact .inr (.inr (.inl ⟨k3, bareOk_small h2.1, bareOk_small h2.2.1⟩))
  rw [if_neg k3] at h2
  by_cases k4 : c.f2 = 4
  · rw [if_pos k4, Bool.and_eq_true, Bool.and_eq_true] at h2
    exact .inr (.inr (.inr ⟨k4, roleOk_small h2.1, roleOk_small h2.2.1⟩))
  rw [if_neg k4] at h2; cases h2
def Mays (cs : List Cred) : Prop := ∀ c ∈ cs, credMay c = true
theorem Said.within {cs : List Cred} {p : Pair} (h : Said cs p) : (∃ c ∈ cs, p.f0 = credRole c) ∧ ∃ c ∈ cs, c.f2 = 1 ∧ p.f1 = c.f3 := by
  induction h with
  | member hc hk => exact ⟨⟨_, hc, rfl⟩, _, hc, hk, rfl⟩
  | incl hc hk _ ih => exact ⟨⟨_, hc, rfl⟩, ih.2⟩
  | link hc hk _ _ _ _ ih => exact ⟨⟨_, hc, rfl⟩, ih.2⟩
  | both hc hk _ _ ih _ => exact ⟨⟨_, hc, rfl⟩, ih.2⟩
theorem Said.smalls {cs : List Cred} (hm : Mays cs) {p : Pair} (h : Said cs p) : smallR p.f0 ∧ small p.f1 := by
  obtain ⟨⟨c, hc, e⟩, c', hc', hk, e'⟩ := h.within; obtain ⟨_, h1, _⟩ := Qa2 (hm c hc); obtain ⟨_, _, h2⟩ := Qa2 (hm c' hc'); rw [e, e']; refine ⟨⟨domName_small _, h1⟩, ?_⟩
  rcases h2 with h2 | h2 | h2 | h2
  · exact h2.2
  · omega
  · omega
  · omega
theorem Said.okPair {cs : List Cred} (hm : Mays cs) {p : Pair} (h : Said cs p) : okPair p := by
  obtain ⟨⟨h0, h1⟩, h2⟩ := h.smalls hm; exact ⟨Qbl h0, Qbl h1, Qbl h2⟩
theorem Said.owner {cs : List Cred} (hm : Mays cs) {p : Pair} (h : Said cs p) : numName p.f0.f0 > 0 := by
  obtain ⟨⟨c, hc, e⟩, _⟩ := h.within; obtain ⟨h0, _⟩ := Qa2 (hm c hc); rw [e]; exact numName_dom h0.1 h0.2
theorem flatMap_len {α β : Type} (f : α → List β) (n : Nat) (h : ∀ c, (f c).length = n) : ∀ l : List α, (l.flatMap f).length = l.length * n
  | [] => by simp
  | a :: l => by rw [List.flatMap_cons, List.length_append, h a, flatMap_len f n h l, List.length_cons, Nat.succ_mul, Nat.add_comm]
theorem said_all {cs : List Cred} {l : List Pair} (hn : l.Nodup) (h : ∀ p ∈ l, Said cs p) : l.length ≤ cs.length * cs.length := by
  have := nodup_le (m := cs.flatMap fun c => cs.map fun c' => (⟨credRole c, c'.f3⟩ : Pair)) hn (fun p hp => by
    obtain ⟨⟨c, hc, e⟩, c', hc', _, e'⟩ := (h p hp).within
    exact List.mem_flatMap.mpr ⟨c, hc, List.mem_map.mpr ⟨c', hc', QaW e.symm e'.symm⟩⟩)
  exact Nat.le_trans this (Nat.le_of_eq (flatMap_len _ cs.length (fun c => by simp) cs))
theorem said_400 {cs : List Cred} (hl : cs.length ≤ 20) {l : List Pair} (hn : l.Nodup) (h : ∀ p ∈ l, Said cs p) : l.length ≤ 400 :=
  Nat.le_trans (said_all hn h) (Nat.mul_le_mul hl hl)
structure Good (cs : List Cred) (s : St) : Prop where
  nodup : s.known.Nodup
  said : ∀ p ∈ s.known, Said cs p
  suffix : ∃ done, s.known = done ++ s.waits
def Grows (s s' : St) : Prop := ∃ l, s'.known = s.known ++ l ∧ s'.waits = s.waits ++ l
theorem Grows.refl (s : St) : Grows s s := ⟨[], by simp, by simp⟩
theorem Grows.trans {s s' s'' : St} (h : Grows s s') (h' : Grows s' s'') : Grows s s'' := by
  obtain ⟨l, h1, h2⟩ := h; obtain ⟨l', h3, h4⟩ := h'; exact ⟨l ++ l', by rw [h3, h1, List.append_assoc], by rw [h4, h2, List.append_assoc]⟩
theorem Grows.mem {s s' : St} (h : Grows s s') {p : Pair} (hp : p ∈ s.known) : p ∈ s'.known := by
  obtain ⟨l, h1, _⟩ := h; rw [h1]; exact List.mem_append_left _ hp
def Runs (cs : List Cred) (s : St) (r : Option St) (W : Pair → Prop) : Prop := ∃ s', r = some s' ∧ Good cs s' ∧ Grows s s' ∧ ∀ q, W q → q ∈ s'.known
theorem Runs.none {cs : List Cred} {s : St} {W : Pair → Prop} (h : Good cs s) (hW : ∀ q, ¬ W q) : Runs cs s (some s) W := ⟨s, rfl, h, .refl s, fun q hq => absurd hq (hW q)⟩
theorem Runs.bind {cs : List Cred} {s : St} {r : Option St} {f : St → Option St} {W1 W2 W : Pair → Prop} (h : Runs cs s r W1) (hf : ∀ s', Good cs s' → Grows s s' → Runs cs s' (f s') W2) (hW : ∀ q, W q → W1 q ∨ W2 q) : Runs cs s (r.bind f) W := by
  obtain ⟨s1, rfl, g1, gr1, w1⟩ := h; obtain ⟨s2, e2, g2, gr2, w2⟩ := hf s1 g1 gr1; exact ⟨s2, e2, g2, gr1.trans gr2, fun q hq => (hW q hq).elim (fun h => gr2.mem (w1 q h)) (w2 q)⟩
theorem Runs.imp {cs : List Cred} {s : St} {r : Option St} {W W' : Pair → Prop} (h : Runs cs s r W) (hW : ∀ q, W' q → W q) : Runs cs s r W' := by
  obtain ⟨s1, e, g1, gr1, w1⟩ := h; exact ⟨s1, e, g1, gr1, fun q hq => w1 q (hW q hq)⟩
theorem learn_runs {cs : List Cred} (hm : Mays cs) (hl : cs.length ≤ 20) {s : St} (g : Good cs s) {p : Pair} (hp : Said cs p) : Runs cs s (s.learn p) (fun q => q = p) := by
  unfold St.learn
  by_cases hin : p ∈ s.known
  · rw [if_pos hin]
    exact ⟨s, rfl, g, .refl s, fun q e => e ▸ hin⟩
  · have h400 := said_400 hl g.nodup g.said
    obtain ⟨done, hd⟩ := g.suffix
    have hw : s.waits.length ≤ 400 := by
      have := congrArg List.length hd; rw [List.length_append] at this; omega
    rw [if_neg hin, if_pos ⟨by omega, by omega, hp.okPair hm⟩]; refine ⟨_, rfl, ⟨?_, ?_, done, ?_⟩, ⟨[p], rfl, rfl⟩, fun q e => ?_⟩
    · show (s.known ++ [p]).Nodup
      rw [List.nodup_append]; refine ⟨g.nodup, by simp, ?_⟩; intro a ha b hb e; rw [List.mem_singleton] at hb; exact hin (hb ▸ e ▸ ha)
    · intro q hq
      rcases List.mem_append.mp hq with h | h
      · exact g.said q h
      · rw [List.mem_singleton.mp h]; exact hp
    · show s.known ++ [p] = done ++ (s.waits ++ [p])
      rw [hd, List.append_assoc]
    · subst e
      exact List.mem_append_right _ (by simp)
theorem members_runs {cs : List Cred} (hm : Mays cs) (hl : cs.length ≤ 20) : ∀ (l : List Cred) (s : St), (∀ c ∈ l, c ∈ cs) → Good cs s → Runs cs s (membersF l s) (fun q => ∃ c ∈ l, c.f2 = 1 ∧ q = ⟨credRole c, c.f3⟩)
  | [], s, _, g => .none g (fun q h => by obtain ⟨c, hc, _⟩ := h; cases hc)
  | c :: l, s, hs, g => by
    rw [membersF]
    by_cases k : c.f2 = 1
    · rw [if_pos k]
      refine (learn_runs hm hl g (.member (hs c (List.mem_cons_self ..)) k)).bind (fun s' g' _ => members_runs hm hl l s' (fun x hx => hs x (List.mem_cons_of_mem _ hx)) g') ?_; rintro q ⟨c', hc', hk', e⟩
      rcases List.mem_cons.mp hc' with rfl | h
      · exact .inl e
      · exact .inr ⟨c', h, hk', e⟩
    · rw [if_neg k]
      refine (members_runs hm hl l s (fun x hx => hs x (List.mem_cons_of_mem _ hx)) g).imp ?_; rintro q ⟨c', hc', hk', e⟩
      rcases List.mem_cons.mp hc' with rfl | h
      · exact absurd hk' k
      · exact ⟨c', h, hk', e⟩
theorem learnMany_runs {cs : List Cred} (hm : Mays cs) (hl : cs.length ≤ 20) (c : Cred) (second : Role) : ∀ (l : List Pair) (s : St), (∀ q ∈ l, q.f0 = second → Said cs ⟨credRole c, q.f1⟩) → Good cs s → Runs cs s (learnMany c second l s) (fun r => ∃ q ∈ l, q.f0 = second ∧ r = ⟨credRole c, q.f1⟩)
  | [], s, _, g => .none g (fun q h => by obtain ⟨c, hc, _⟩ := h; cases hc)
  | q :: l, s, hs, g => by
    rw [learnMany]
    by_cases k : q.f0 = second
    · rw [if_pos k]
      refine (learn_runs hm hl g (hs q (List.mem_cons_self ..) k)).bind (fun s' g' _ => learnMany_runs hm hl c second l s' (fun x hx => hs x (List.mem_cons_of_mem _ hx)) g') ?_; rintro r ⟨q', hq', hk', e⟩
      rcases List.mem_cons.mp hq' with rfl | h
      · exact .inl e
      · exact .inr ⟨q', h, hk', e⟩
    · rw [if_neg k]
      refine (learnMany_runs hm hl c second l s (fun x hx => hs x (List.mem_cons_of_mem _ hx)) g).imp ?_; rintro r ⟨q', hq', hk', e⟩
      rcases List.mem_cons.mp hq' with rfl | h
      · exact absurd hk' k
      · exact ⟨q', h, hk', e⟩
theorem sortPairs_mem {l : List Pair} {p : Pair} : p ∈ sortPairs l ↔ p ∈ l := (List.mergeSort_perm l _).mem_iff
inductive Rule (c : Cred) (p : Pair) (K : List Pair) : Pair → Prop
  | incl : c.f2 = 2 → p.f0 = c.f4 → Rule c p K ⟨credRole c, p.f1⟩
  | linkA {v : ByteArray} : c.f2 = 3 → p.f0 = linkFirst c → numName p.f1 > 0 → (⟨⟨p.f1, c.f5.f1⟩, v⟩ : Pair) ∈ K → Rule c p K ⟨credRole c, v⟩
  | linkB : c.f2 = 3 → p.f0.f1 = c.f5.f1 → (⟨linkFirst c, p.f0.f0⟩ : Pair) ∈ K → Rule c p K ⟨credRole c, p.f1⟩
  | bothA : c.f2 = 4 → p.f0 = c.f4 → (⟨c.f5, p.f1⟩ : Pair) ∈ K → Rule c p K ⟨credRole c, p.f1⟩
  | bothB : c.f2 = 4 → p.f0 = c.f5 → (⟨c.f4, p.f1⟩ : Pair) ∈ K → Rule c p K ⟨credRole c, p.f1⟩
theorem Rule.mono {c : Cred} {p : Pair} {K K' : List Pair} (h : ∀ x ∈ K, x ∈ K') {r : Pair} (hr : Rule c p K r) : Rule c p K' r := by
  cases hr with
  | incl a b => exact .incl a b
  | linkA a b d e => exact .linkA a b d (h _ e)
  | linkB a b d => exact .linkB a b (h _ d)
  | bothA a b d => exact .bothA a b (h _ d)
  | bothB a b d => exact .bothB a b (h _ d)
theorem linkA_runs {cs : List Cred} (hm : Mays cs) (hl : cs.length ≤ 20) {c : Cred} (hc : c ∈ cs) (k : c.f2 = 3) {p : Pair} (s : St) (hp : p ∈ s.known) (g : Good cs s) : Runs cs s (linkA c p s) (fun r => p.f0 = linkFirst c ∧ numName p.f1 > 0 ∧ ∃ v, (⟨⟨p.f1, c.f5.f1⟩, v⟩ : Pair) ∈ s.known ∧ r = ⟨credRole c, v⟩) := by
  unfold linkA
  by_cases e1 : p.f0 = linkFirst c
  · rw [if_pos e1, number_is _ 20 (by omega), Option.bind_some]
    by_cases hn : numName p.f1 > 0
    · have h400 := said_400 hl g.nodup g.said
      rw [if_pos hn, if_pos (by omega)]; refine (learnMany_runs hm hl c _ _ s ?_ g).imp ?_
      · intro q hq e
        have hq' := g.said q (sortPairs_mem.mp hq); have hp' := g.said p hp; have eq : q = ⟨⟨p.f1, c.f5.f1⟩, q.f1⟩ := QaW e rfl; have ep : p = ⟨linkFirst c, p.f1⟩ := QaW e1 rfl; rw [ep] at hp'; rw [eq] at hq'; exact .link hc k hp' hn hq'
      · rintro r ⟨_, _, v, hv, e⟩
        exact ⟨_, sortPairs_mem.mpr hv, rfl, e⟩
    · rw [if_neg hn]
      exact .none g (fun q h => hn h.2.1)
  · rw [if_neg e1]
    exact .none g (fun q h => e1 h.1)
theorem linkB_runs {cs : List Cred} (hm : Mays cs) (hl : cs.length ≤ 20) {c : Cred} (hc : c ∈ cs) (k : c.f2 = 3) {p : Pair} (s : St) (hp : p ∈ s.known) (g : Good cs s) : Runs cs s (linkB c p s) (fun r => p.f0.f1 = c.f5.f1 ∧ (⟨linkFirst c, p.f0.f0⟩ : Pair) ∈ s.known ∧ r = ⟨credRole c, p.f1⟩) := by
  unfold linkB; have hp' := g.said p hp
  by_cases e1 : p.f0.f1 = c.f5.f1
  · obtain ⟨_, h1, h2⟩ := Qa2 (hm c hc)
    have hok : okPair ⟨linkFirst c, p.f0.f0⟩ := by
      refine ⟨Qbl (domName_small _), ?_, (hp'.okPair hm).1⟩
      rcases h2 with h2 | h2 | h2 | h2
      · omega
      · omega
      · exact Qbl h2.2.1
      · omega
    rw [if_pos e1, if_pos hok]
    by_cases hin : (⟨linkFirst c, p.f0.f0⟩ : Pair) ∈ s.known
    · rw [if_pos hin]
      refine (learn_runs hm hl g ?_).imp ?_
      · have ep : p = ⟨⟨p.f0.f0, c.f5.f1⟩, p.f1⟩ := QaW (role_ext rfl e1) rfl
        have hn := hp'.owner hm; have hp2 := hp'; rw [ep] at hp2; exact .link hc k (g.said _ hin) hn hp2
      · rintro r ⟨_, _, e⟩
        exact e
    · rw [if_neg hin]
      exact .none g (fun q h => hin h.2.1)
  · rw [if_neg e1]
    exact .none g (fun q h => e1 h.1)
theorem bothS_runs {cs : List Cred} (hm : Mays cs) (hl : cs.length ≤ 20) {c : Cred} (hc : c ∈ cs) (k : c.f2 = 4) {p : Pair} (s : St) (hp : p ∈ s.known) (g : Good cs s) : Runs cs s (bothSecond c p s) (fun r => p.f0 = c.f5 ∧ (⟨c.f4, p.f1⟩ : Pair) ∈ s.known ∧ r = ⟨credRole c, p.f1⟩) := by
  unfold bothSecond; have hp' := g.said p hp
  by_cases e1 : p.f0 = c.f5
  · obtain ⟨_, h1, h2⟩ := Qa2 (hm c hc)
    have hok : okPair ⟨c.f4, p.f1⟩ := by
      rcases h2 with h2 | h2 | h2 | h2
      · omega
      · omega
      · omega
      · exact ⟨Qbl h2.2.1.1, Qbl h2.2.1.2, (hp'.okPair hm).2.2⟩
    rw [if_pos e1, if_pos hok]
    by_cases hin : (⟨c.f4, p.f1⟩ : Pair) ∈ s.known
    · rw [if_pos hin]
      refine (learn_runs hm hl g ?_).imp ?_
      · have ep : p = ⟨c.f5, p.f1⟩ := QaW e1 rfl
        have hp2 := hp'; rw [ep] at hp2; exact .both hc k (g.said _ hin) hp2
      · rintro r ⟨_, _, e⟩
        exact e
    · rw [if_neg hin]
      exact .none g (fun q h => hin h.2.1)
  · rw [if_neg e1]
    exact .none g (fun q h => e1 h.1)
theorem both_runs {cs : List Cred} (hm : Mays cs) (hl : cs.length ≤ 20) {c : Cred} (hc : c ∈ cs) (k : c.f2 = 4) {p : Pair} (s : St) (hp : p ∈ s.known) (g : Good cs s) : Runs cs s (bothF c p s) (fun r => Rule c p s.known r) := by
  unfold bothF; have hp' := g.said p hp; have key : Runs cs s (bothSecond c p s) (fun r => p.f0 = c.f5 ∧ (⟨c.f4, p.f1⟩ : Pair) ∈ s.known ∧ r = ⟨credRole c, p.f1⟩) := bothS_runs hm hl hc k s hp g
  have other : ∀ r, Rule c p s.known r → (¬ (p.f0 = c.f4 ∧ (⟨c.f5, p.f1⟩ : Pair) ∈ s.known)) → p.f0 = c.f5 ∧ (⟨c.f4, p.f1⟩ : Pair) ∈ s.known ∧ r = ⟨credRole c, p.f1⟩ := by
    intro r hr hno
    cases hr with
    | incl a b => omega
    | linkA a b d e => omega
    | linkB a b d => omega
    | bothA a b d => exact absurd ⟨b, d⟩ hno
    | bothB a b d => exact ⟨b, d, rfl⟩
  by_cases e1 : p.f0 = c.f4
  · obtain ⟨_, h1, h2⟩ := Qa2 (hm c hc)
    have hok : okPair ⟨c.f5, p.f1⟩ := by
      rcases h2 with h2 | h2 | h2 | h2
      · omega
      · omega
      · omega
      · exact ⟨Qbl h2.2.2.1, Qbl h2.2.2.2, (hp'.okPair hm).2.2⟩
    rw [if_pos e1, if_pos hok]
    by_cases hin : (⟨c.f5, p.f1⟩ : Pair) ∈ s.known
    · rw [if_pos hin]
      refine (learn_runs hm hl g ?_).imp ?_
      · have ep : p = ⟨c.f4, p.f1⟩ := QaW e1 rfl
        have hp2 := hp'; rw [ep] at hp2; exact .both hc k hp2 (g.said _ hin)
      · intro r hr
        cases hr with
        | incl a b => omega
        | linkA a b d e => omega
        | linkB a b d => omega
        | bothA a b d => rfl
        | bothB a b d => rfl
    · rw [if_neg hin]
      exact key.imp fun r hr => other r hr (fun h => hin h.2)
  · rw [if_neg e1]
    exact key.imp fun r hr => other r hr (fun h => e1 h.1)
theorem step_runs {cs : List Cred} (hm : Mays cs) (hl : cs.length ≤ 20) {c : Cred} (hc : c ∈ cs) {p : Pair} (s : St) (hp : p ∈ s.known) (g : Good cs s) : Runs cs s (stepF p c s) (fun r => Rule c p s.known r) := by
  unfold stepF
  by_cases k1 : c.f2 = 1
  · rw [if_pos k1]
    refine .none g (fun q h => ?_)
    cases h <;> omega
  rw [if_neg k1]
  by_cases k3 : c.f2 = 3
  · rw [if_pos k3]
    unfold linkF; refine (linkA_runs hm hl hc k3 s hp g).bind (W2 := fun r => p.f0.f1 = c.f5.f1 ∧ (⟨linkFirst c, p.f0.f0⟩ : Pair) ∈ s.known ∧ r = ⟨credRole c, p.f1⟩) (fun s' g' gr => (linkB_runs hm hl hc k3 s' (gr.mem hp) g').imp (fun q h => ⟨h.1, gr.mem h.2.1, h.2.2⟩)) ?_; intro r hr
    cases hr with
    | incl a b => omega
    | linkA a b d e => exact .inl ⟨b, d, _, e, rfl⟩
    | linkB a b d => exact .inr ⟨b, d, rfl⟩
    | bothA a b d => omega
    | bothB a b d => omega
  rw [if_neg k3]
  by_cases k4 : c.f2 = 4
  · rw [if_pos k4]
    exact both_runs hm hl hc k4 s hp g
  rw [if_neg k4]
  have k2 : c.f2 = 2 := by
    obtain ⟨_, _, h2⟩ := Qa2 (hm c hc)
    rcases h2 with h2 | h2 | h2 | h2
    · omega
    · exact h2.1
    · omega
    · omega
  unfold includeF
  by_cases e1 : p.f0 = c.f4
  · rw [if_pos e1]
    refine (learn_runs hm hl g ?_).imp ?_
    · have ep : p = ⟨c.f4, p.f1⟩ := QaW e1 rfl
      have hp2 := g.said p hp; rw [ep] at hp2; exact .incl hc k2 hp2
    · intro r hr
      cases hr with
      | incl a b => rfl
      | linkA a b d e => omega
      | linkB a b d => omega
      | bothA a b d => omega
      | bothB a b d => omega
  · rw [if_neg e1]
    refine .none g (fun r hr => ?_)
    cases hr with
    | incl a b => exact e1 b
    | linkA a b d e => omega
    | linkB a b d => omega
    | bothA a b d => omega
    | bothB a b d => omega
theorem steps_runs {cs : List Cred} (hm : Mays cs) (hl : cs.length ≤ 20) {p : Pair} (K : List Pair) : ∀ (l : List Cred) (s : St), (∀ c ∈ l, c ∈ cs) → p ∈ s.known → (∀ x ∈ K, x ∈ s.known) → Good cs s → Runs cs s (stepsF p l s) (fun r => ∃ c ∈ l, Rule c p K r)
  | [], s, _, _, _, g => .none g (fun q h => by obtain ⟨c, hc, _⟩ := h; cases hc)
  | c :: l, s, hs, hp, hK, g => by
    rw [stepsF]; refine (step_runs hm hl (hs c (List.mem_cons_self ..)) s hp g).bind (fun s' g' gr => steps_runs hm hl K l s' (fun x hx => hs x (List.mem_cons_of_mem _ hx)) (gr.mem hp) (fun x hx => gr.mem (hK x hx)) g') ?_; rintro r ⟨c', hc', hr⟩
    rcases List.mem_cons.mp hc' with rfl | h
    · exact .inl (hr.mono hK)
    · exact .inr ⟨c', h, hr⟩
def Dealt (cs : List Cred) (s : St) : Prop := (∀ c ∈ cs, c.f2 = 1 → (⟨credRole c, c.f3⟩ : Pair) ∈ s.known) ∧ ∃ done, s.known = done ++ s.waits ∧ ∀ a ∈ done, ∀ c ∈ cs, ∀ r, Rule c a done r → r ∈ s.known
theorem dealt_step {cs : List Cred} (hm : Mays cs) (hl : cs.length ≤ 20) {s : St} (g : Good cs s) (d : Dealt cs s) {p : Pair} {ws : List Pair} (e : s.waits = p :: ws) :
    ∃ s', stepsF p cs ⟨s.known, ws⟩ = some s' ∧ Good cs s' ∧ Dealt cs s' ∧ s'.known.length - s'.waits.length = s.known.length - s.waits.length + 1 ∧ s'.waits.length ≤ s'.known.length := by
  obtain ⟨hM, done, hd, hC⟩ := d
  have hd2 : s.known = (done ++ [p]) ++ ws := by rw [hd, e]; simp
  have g1 : Good cs ⟨s.known, ws⟩ := ⟨g.nodup, g.said, done ++ [p], hd2⟩
  have hpk : p ∈ s.known := by rw [hd2]; simp
  have hsub : ∀ x ∈ done ++ [p], x ∈ s.known := fun x hx => by rw [hd2]; exact List.mem_append_left _ hx
  obtain ⟨s', es, g', ⟨l, hk, hw⟩, hW⟩ := steps_runs hm hl (p := p) (done ++ [p]) cs ⟨s.known, ws⟩ (fun c h => h) hpk hsub g1; have hk' : s'.known = s.known ++ l := hk; have hw' : s'.waits = ws ++ l := hw
  have up : ∀ x ∈ s.known, x ∈ s'.known := fun x hx => by rw [hk']; exact List.mem_append_left _ hx
  refine ⟨s', es, g', ⟨fun c hc k => up _ (hM c hc k), done ++ [p], by rw [hk', hw', hd2]; simp, ?_⟩, ?_, ?_⟩
  · intro a ha c hc r hr
    by_cases eap : a = p
    · subst eap
      exact hW r ⟨c, hc, hr⟩
    · have had : a ∈ done := by
        rcases List.mem_append.mp ha with h | h
        · exact h
        · exact absurd (List.mem_singleton.mp h) eap
      have sa : Said cs a := g.said a (hsub a ha)
      have split : ∀ x, x ∈ done ++ [p] → x ∈ done ∨ x = p := fun x hx => (List.mem_append.mp hx).imp id (fun h => List.mem_singleton.mp h)
      cases hr with
      | incl k b => exact up _ (hC a had c hc _ (.incl k b))
      | linkA k b n h =>
        rcases split _ h with h | h
        · exact up _ (hC a had c hc _ (.linkA k b n h))
        · have e0 : p.f0.f0 = a.f1 := by rw [← h]
          have e1 : p.f0.f1 = c.f5.f1 := by rw [← h]
          have e2 := congrArg S85.f1 h; have := Rule.linkB (c := c) (p := p) (K := done ++ [p]) k e1 (by rw [e0, show (⟨linkFirst c, a.f1⟩ : Pair) = a from QaW b.symm rfl]; exact ha); rw [← e2] at this; exact hW _ ⟨c, hc, this⟩
      | linkB k b h =>
        rcases split _ h with h | h
        · exact up _ (hC a had c hc _ (.linkB k b h))
        · have e0 : p.f0 = linkFirst c := by rw [← h]
          have e1 : p.f1 = a.f0.f0 := by rw [← h]
          have := Rule.linkA (c := c) (p := p) (K := done ++ [p]) (v := a.f1) k e0 (by rw [e1]; exact sa.owner hm) (by rw [e1, show (⟨⟨a.f0.f0, c.f5.f1⟩, a.f1⟩ : Pair) = a from QaW (role_ext rfl b.symm) rfl]; exact ha); exact hW _ ⟨c, hc, this⟩
      | bothA k b h =>
        rcases split _ h with h | h
        · exact up _ (hC a had c hc _ (.bothA k b h))
        · have e0 : p.f0 = c.f5 := by rw [← h]
          have e1 : p.f1 = a.f1 := by rw [← h]
          have := Rule.bothB (c := c) (p := p) (K := done ++ [p]) k e0 (by rw [e1, show (⟨c.f4, a.f1⟩ : Pair) = a from QaW b.symm rfl]; exact ha); rw [e1] at this; exact hW _ ⟨c, hc, this⟩
      | bothB k b h =>
        rcases split _ h with h | h
        · exact up _ (hC a had c hc _ (.bothB k b h))
        · have e0 : p.f0 = c.f4 := by rw [← h]
          have e1 : p.f1 = a.f1 := by rw [← h]
          have := Rule.bothA (c := c) (p := p) (K := done ++ [p]) k e0 (by rw [e1, show (⟨c.f5, a.f1⟩ : Pair) = a from QaW b.symm rfl]; exact ha); rw [e1] at this; exact hW _ ⟨c, hc, this⟩
  · rw [hk', hw', hd2, e]
    simp; omega
  · rw [hk', hw', hd2]
    simp; omega
theorem loop_said {cs : List Cred} (hm : Mays cs) (hl : cs.length ≤ 20) : ∀ (k : Nat) (s : St), Good cs s → Dealt cs s → s.waits.length ≤ s.known.length → 401 - (s.known.length - s.waits.length) ≤ k → 1 ≤ k → ∃ s', loopF cs k s = some s' ∧ Good cs s' ∧ Dealt cs s' ∧ s'.waits = []
  | 0, s, _, _, _, _, h => by omega
  | k + 1, s, g, d, hle, hk, _ => by
    rw [loopF]
    cases e : s.waits with
    | nil => exact ⟨s, rfl, g, d, e⟩
    | cons p ws =>
      obtain ⟨s1, e1, g1, d1, h1, h2⟩ := dealt_step hm hl g d e; have h400 := said_400 hl g1.nodup g1.said
      show ∃ s', ((stepsF p cs ⟨s.known, ws⟩).bind (loopF cs k)) = some s' ∧ _
      rw [e1, Option.bind_some]; exact loop_said hm hl k s1 g1 d1 h2 (by omega) (by omega)
theorem run_said {cs : List Cred} (hm : Mays cs) (hl : cs.length ≤ 20) : ∃ s, runF 2000 cs = some s ∧ s.known.Nodup ∧ (∀ p, p ∈ s.known ↔ Said cs p) := by
  have g0 : Good cs ⟨[], []⟩ := ⟨List.nodup_nil, fun p hp => by (cases hp), [], rfl⟩
  obtain ⟨s1, e1, g1, ⟨l, hk, hw⟩, hW⟩ := members_runs hm hl cs ⟨[], []⟩ (fun c h => h) g0; have hk' : s1.known = l := hk; have hw' : s1.waits = l := hw
  have d1 : Dealt cs s1 := ⟨fun c hc k => hW _ ⟨c, hc, k, rfl⟩, [], by rw [hk', hw']; rfl, fun a ha => by (cases ha)⟩
  obtain ⟨s2, e2, g2, ⟨hM, done, hd, hC⟩, hws⟩ := loop_said hm hl 2000 s1 g1 d1 (by rw [hk', hw']; exact Nat.le_refl _) (by omega) (by omega); refine ⟨s2, ?_, g2.nodup, fun p => ⟨g2.said p, fun h => ?_⟩⟩
  · unfold runF
    rw [e1, Option.bind_some, e2]
  · rw [hws, List.append_nil] at hd
    rw [hd] at hM hC ⊢
    induction h with
    | member hc k => exact hM _ hc k
    | incl hc k _ ih => exact hC _ ih _ hc _ (.incl (p := ⟨_, _⟩) k rfl)
    | link hc k _ n _ ih1 ih2 => exact hC _ ih1 _ hc _ (.linkA (p := ⟨_, _⟩) k rfl n ih2)
    | both hc k _ _ ih1 ih2 => exact hC _ ih1 _ hc _ (.bothA (p := ⟨_, _⟩) k rfl ih2)
def sameID (a b : Cred) : Bool := decide (a.f0.f0 = b.f0.f0) && decide (a.f0.f1 = b.f0.f1)
theorem Qa6 {a b : Cred} : sameID a b = true ↔ a.f0.f0 = b.f0.f0 ∧ a.f0.f1 = b.f0.f1 := by
  unfold sameID; rw [Bool.and_eq_true, decide_eq_true_eq, decide_eq_true_eq]
def credLess (a b : Cred) : Prop := a.f0.f0 < b.f0.f0 ∨ (a.f0.f0 = b.f0.f0 ∧ a.f0.f1 < b.f0.f1)
def First (l : List Cred) (c : Cred) : Prop := l.find? (fun d => credMay d && sameID d c) = some c
structure Counts (l R : List Cred) : Prop where
  sorted : R.Pairwise credLess
  mem : ∀ c, c ∈ R ↔ First l c
theorem First.may {l : List Cred} {c : Cred} (h : First l c) : credMay c = true := by
  have := List.find?_some h; rw [Bool.and_eq_true] at this; exact this.1
def firsts (out : List Cred) : List Cred → List Cred
  | [] => out
  | c :: l => if credMay c && !(out.any fun d => sameID d c) then firsts (out ++ [c]) l else firsts out l
theorem firsts_mem (c : Cred) : ∀ (l out : List Cred), c ∈ firsts out l ↔ c ∈ out ∨ ((∀ d ∈ out, sameID d c = false) ∧ First l c)
  | [], out => by
    rw [firsts]; unfold First; simp
  | x :: l, out => by
    rw [firsts]; unfold First; rw [List.find?_cons]
    by_cases h : (credMay x && !(out.any fun d => sameID d x)) = true
    · rw [if_pos h, firsts_mem c l (out ++ [x])]
      rw [Bool.and_eq_true, Bool.not_eq_true', List.any_eq_false] at h
      by_cases hx : sameID x c = true
      · rw [h.1, hx]
        simp only [Bool.and_self, Option.some.injEq, List.mem_append, List.mem_singleton]; constructor
        · rintro ((h1 | h1) | ⟨h1, _⟩)
          · exact .inl h1
          · exact .inr ⟨fun d hd => by rw [h1]; simpa using h.2 d hd, h1.symm⟩
          · have := h1 x (by simp)
            rw [hx] at this; cases this
        · rintro (h1 | ⟨_, h1⟩)
          · exact .inl (.inl h1)
          · exact .inl (.inr h1.symm)
      · rw [Bool.not_eq_true] at hx
        rw [hx, Bool.and_false]; simp only [List.mem_append, List.mem_singleton]; unfold First; constructor
        · rintro ((h1 | h1) | ⟨h1, h2⟩)
          · exact .inl h1
          · subst h1
            rw [Bool.eq_false_iff] at hx; exact absurd (Qa6.mpr ⟨rfl, rfl⟩) hx
          · exact .inr ⟨fun d hd => h1 d (.inl hd), h2⟩
        · rintro (h1 | ⟨h1, h2⟩)
          · exact .inl (.inl h1)
          · refine .inr ⟨fun d hd => ?_, h2⟩
            rcases hd with hd | hd
            · exact h1 d hd
            · rw [hd]; exact hx
    · rw [if_neg h, firsts_mem c l out]
      by_cases hx : sameID x c = true
      · by_cases hm : credMay x = true
        · have hany : (out.any fun d => sameID d x) = true := by
            rw [hm, Bool.true_and] at h
            simpa using h
          obtain ⟨d, hd, hdx⟩ := List.any_eq_true.mp hany
          have hdc : sameID d c = true := by
            rw [Qa6] at *; omega
          have no : ∀ P : Prop, ¬ ((∀ d ∈ out, sameID d c = false) ∧ P) := fun P hP => by
            have := hP.1 d hd; rw [hdc] at this; cases this
          simp only [no]
        · rw [Bool.not_eq_true] at hm
          rw [hm, Bool.false_and]; rfl
      · rw [Bool.not_eq_true] at hx
        rw [hx, Bool.and_false]; rfl
theorem firsts_sorted : ∀ (l out : List Cred), out.Pairwise credLess → (∀ d ∈ out, ∀ c ∈ l, ¬ credLess c d) → l.Pairwise (fun x y => ¬ credLess y x) → (firsts out l).Pairwise credLess
  | [], out, h, _, _ => h
  | x :: l, out, h, hol, hl => by
    rw [firsts]; rw [List.pairwise_cons] at hl
    split
    · rename_i hc
      rw [Bool.and_eq_true, Bool.not_eq_true', List.any_eq_false] at hc; refine firsts_sorted l _ ?_ ?_ hl.2
      · rw [List.pairwise_append]
        refine ⟨h, List.pairwise_singleton _ _, fun a ha b hb => ?_⟩; rw [List.mem_singleton.mp hb]; have h1 := hol a ha x (List.mem_cons_self ..); have h2 := hc.2 a ha; rw [Qa6] at h2; unfold credLess at *; omega
      · intro d hd c hcl
        rcases List.mem_append.mp hd with h1 | h1
        · exact hol d h1 c (List.mem_cons_of_mem _ hcl)
        · rw [List.mem_singleton.mp h1]
          exact hl.1 c hcl
    · exact firsts_sorted l out h (fun d hd c hcl => hol d hd c (List.mem_cons_of_mem _ hcl)) hl.2
theorem sortCreds_filter (q : Cred → Bool) (hq : ∀ x y, q x = true → q y = true → sameID x y = true) (l : List Cred) : (sortCreds l).filter q = l.filter q := by
  refine insertion_filter _ q (fun x y h hx hy => ?_) l; have := hq x y hx hy; rw [credCmp_lt] at h; rw [Qa6] at this; omega
theorem sortCreds_sorted (l : List Cred) : (sortCreds l).Pairwise (fun x y => ¬ credLess y x) := by
  refine (insertion_sorted _ credSWO l).imp fun {a b} h => ?_
  rw [Bool.eq_false_iff, Ne, credCmp_lt] at h; exact h
theorem find_filter {α : Type} (p : α → Bool) (l : List α) : l.find? p = (l.filter p).head? := by
  rw [List.head?_filter]
theorem sortCreds_first (l : List Cred) (c : Cred) : First (sortCreds l) c ↔ First l c := by
  unfold First; rw [find_filter, find_filter]
  have e : ∀ m : List Cred, m.filter (fun d => credMay d && sameID d c) = (m.filter (fun d => sameID d c)).filter credMay := fun m => by rw [List.filter_filter]
  rw [e, e, sortCreds_filter _ (fun x y hx hy => by rw [Qa6] at *; omega)]
theorem prog_counts (l : List Cred) : Counts l (firsts [] (sortCreds l)) where
  sorted := firsts_sorted _ _ List.Pairwise.nil (fun d hd => by cases hd) (sortCreds_sorted l)
  mem c := by
    rw [firsts_mem, sortCreds_first]; simp
theorem firsts_length : ∀ (l out : List Cred), (firsts out l).length ≤ out.length + l.length
  | [], out => by rw [firsts]; simp
  | x :: l, out => by
    rw [firsts]
    split
    · have := firsts_length l (out ++ [x])
      simp at *; omega
    · have := firsts_length l out
      simp; omega
theorem wrap_succ {i : Nat} (h : i < 1000000000000) : wrap64 ((i : Int) + 1) = ((i + 1 : Nat) : Int) := by unfold wrap64; omega
theorem getBang {α : Type} [Inhabited α] {l : List α} {i : Nat} (h : i < l.length) : l[i]! = l[i] := getElem!_pos l i h
theorem drop_bang {α : Type} [Inhabited α] {l : List α} {i : Nat} (h : i < l.length) : l.drop i = l[i]! :: l.drop (i + 1) := by
  rw [getBang h]; exact List.drop_eq_getElem_cons h
theorem last_same {ini : List Cred} {z c : Cred} (hs : (ini ++ [z]).Pairwise credLess) (hc : ∀ d ∈ ini ++ [z], ¬ credLess c d) : ((ini ++ [z]).any fun d => sameID d c) = sameID z c := by
  rw [List.any_append]
  have h0 : (ini.any fun d => sameID d c) = false := by
    rw [List.any_eq_false]; intro d hd h; rw [List.pairwise_append] at hs; have h1 := hs.2.2 d hd z (by simp); have h2 := hc z (by simp); rw [Qa6] at h; unfold credLess at *; omega
  rw [h0]; simp
theorem progCounts_loop : ∀ (S out : List Cred), (∀ c ∈ S, okCred c) → S.Pairwise (fun x y => ¬ credLess y x) → out.Pairwise credLess → (∀ d ∈ out, ∀ c ∈ S, ¬ credLess c d) → countsF S out = some (firsts out S)
  | [], out, _, _, _, _ => by rw [countsF, firsts]
  | c :: S, out, hok, hpw, hs, hd => by
    have hmay := credMay_is c (hok c (List.mem_cons_self ..)); rw [List.pairwise_cons] at hpw
    have rest := fun (out' : List Cred) h2 h3 => progCounts_loop S out' (fun x hx => hok x (List.mem_cons_of_mem _ hx)) hpw.2 h2 h3
    have grown : ∀ (h : out.any (fun d => sameID d c) = false), countsF S (out ++ [c]) = some (firsts (out ++ [c]) S) := fun h => by
      rw [List.any_eq_false] at h; refine rest _ ?_ ?_
      · rw [List.pairwise_append]
        refine ⟨hs, List.pairwise_singleton _ _, fun a ha b hb => ?_⟩; rw [List.mem_singleton.mp hb]; have h1 := hd a ha c (List.mem_cons_self ..); have h2 := h a ha; rw [Qa6] at h2; unfold credLess at *; omega
      · intro d hdm x hx
        rcases List.mem_append.mp hdm with h1 | h1
        · exact hd d h1 x (List.mem_cons_of_mem _ hx)
        · rw [List.mem_singleton.mp h1]
          exact hpw.1 x hx
    have same : countsF S out = some (firsts out S) := rest out hs (fun d hdm x hx => hd d hdm x (List.mem_cons_of_mem _ hx)); rw [countsF, show mayOf c = some (credMay c) from hmay, Option.bind_some, firsts]
    by_cases m : credMay c = true
    · rw [if_pos m, m, Bool.true_and]
      rcases List.eq_nil_or_concat out with e | ⟨ini, z, e⟩
      · subst e
        rw [if_neg (by simp), if_pos (show (!(([] : List Cred).any fun d => sameID d c)) = true from rfl)]; exact grown rfl
      · rw [List.concat_eq_append] at e
        have hany : (out.any fun d => sameID d c) = sameID z c := by
          rw [e] at hs hd ⊢; exact last_same hs (fun d hdm => hd d hdm c (List.mem_cons_self ..))
        have hl : out.getLast?.map (·.f0) = some z.f0 := by rw [e, List.getLast?_concat]; rfl
        rw [hl, hany]; cases hb : sameID z c
        · rw [if_neg (fun h => by have := Option.some.inj h; rw [Bool.eq_false_iff, Ne, Qa6, this] at hb; exact hb ⟨rfl, rfl⟩), if_pos (show (!false) = true from rfl)]
          exact grown (hany.trans hb)
        · rw [if_pos (by obtain ⟨e0, e1⟩ := Qa6.mp hb; rw [id_ext e0 e1]), if_neg (show ¬ (!true) = true by decide)]
          exact same
    · rw [if_neg m]
      rw [Bool.not_eq_true] at m; rw [m, Bool.false_and]; exact same
theorem cred_ext {a b : Cred} (h0 : a.f0.f0 = b.f0.f0) (h0' : a.f0.f1 = b.f0.f1) (h1 : a.f1 = b.f1) (h2 : a.f2 = b.f2) (h3 : a.f3 = b.f3) (h4 : a.f4 = b.f4) (h5 : a.f5 = b.f5) : a = b := by
  obtain ⟨⟨_, _⟩, _, _, _, _, _⟩ := a; obtain ⟨⟨_, _⟩, _, _, _, _, _⟩ := b
  simp_all
instance credDec : DecidableEq Cred := fun a b => decidable_of_iff (a.f0.f0 = b.f0.f0 ∧ a.f0.f1 = b.f0.f1 ∧ a.f1 = b.f1 ∧ a.f2 = b.f2 ∧ a.f3 = b.f3 ∧ a.f4 = b.f4 ∧ a.f5 = b.f5)
  ⟨fun h => cred_ext h.1 h.2.1 h.2.2.1 h.2.2.2.1 h.2.2.2.2.1 h.2.2.2.2.2.1 h.2.2.2.2.2.2, fun h => by rw [h]; exact ⟨rfl, rfl, rfl, rfl, rfl, rfl, rfl⟩⟩
def counts (l : List Cred) : List Cred := firsts [] (sortCreds l)
theorem counts_spec (l : List Cred) : Counts l (counts l) := prog_counts l
theorem sortCreds_mem {l : List Cred} {c : Cred} : c ∈ sortCreds l ↔ c ∈ l := by
  have := sortCreds_filter (fun d => decide (d = c)) (fun x y hx hy => by
    rw [decide_eq_true_eq] at hx hy; rw [hx, hy]
    exact Qa6.mpr ⟨rfl, rfl⟩) l
  constructor
  · intro h
    have h1 : c ∈ (sortCreds l).filter (fun d => decide (d = c)) := List.mem_filter.mpr ⟨h, by simp⟩; rw [this] at h1; exact (List.mem_filter.mp h1).1
  · intro h
    have h1 : c ∈ l.filter (fun d => decide (d = c)) := List.mem_filter.mpr ⟨h, by simp⟩; rw [← this] at h1; exact (List.mem_filter.mp h1).1
theorem progCounts_is (l : List Cred) (hl : l.length < 21) (hok : ∀ c ∈ l, okCred c) : Qbg.f l = some (counts l) := by
  unfold Qbg.f Qbf.f; have hlen := QaT l; rw [if_pos hl, Option.bind_some, if_pos (by omega)]; exact progCounts_loop (sortCreds l) [] (fun c hc => hok c (sortCreds_mem.mp hc)) (sortCreds_sorted l) List.Pairwise.nil (fun d hd => by cases hd)
theorem counts_length (l : List Cred) : (counts l).length ≤ l.length := by
  unfold counts; have := firsts_length (sortCreds l) []; have h2 := QaT l; simp at this; omega
structure AllOf (cs : List Cred) (A : List Pair) : Prop where
  sorted : A.Pairwise (fun a b => pairLess a b = true)
  mem : ∀ p, p ∈ A ↔ Said cs p
theorem AllOf.nodup {cs : List Cred} {A : List Pair} (h : AllOf cs A) : A.Nodup := sorted_nodup (R := fun a b => pairLess a b = true) Qa9 h.sorted
theorem AllOf.length {cs : List Cred} {A : List Pair} (h : AllOf cs A) (hl : cs.length ≤ 20) : A.length ≤ 400 := said_400 hl h.nodup (fun p hp => (h.mem p).mp hp)
theorem sortPairs_sorted {l : List Pair} (hn : l.Nodup) : (sortPairs l).Pairwise (fun a b => pairLess a b = true) := by
  have h1 : (sortPairs l).Pairwise (fun a b => (!(ltOf pairCmp) b a) = true) := by
    unfold sortPairs; refine List.pairwise_mergeSort (le := fun x y => !(ltOf pairCmp) y x) ?_ ?_ l
    · intro a b c h1 h2
      simp only [Bool.not_eq_true'] at *; exact pairSWO.ntrans _ _ _ h2 h1
    · intro a b
      rw [Qa7, Qa7]
      by_cases h1 : pairLess b a = true
      · have : ¬ pairLess a b = true := fun h2 => Qa9 _ (pairLess_trans h1 h2)
        simp_all
      · simp_all
  have h2 : (sortPairs l).Nodup := (List.mergeSort_perm l _).nodup_iff.mpr hn
  refine (h1.and h2).imp fun {a b} hh => ?_
  obtain ⟨h, h'⟩ := hh; simp only [Qa7, Bool.not_eq_true'] at h
  by_cases h3 : pairLess a b = true
  · exact h3
  · exact absurd (pairLess_total h3 (by rw [h]; decide)) h'
theorem run_all {cs : List Cred} (hm : Mays cs) (hl : cs.length ≤ 20) : ∃ s A, runF 2000 cs = some s ∧ s.known.length ≤ 1000000 ∧ sortPairs s.known = A ∧ AllOf cs A := by
  obtain ⟨s, h1, h2, h3⟩ := run_said hm hl; have := said_400 hl h2 (fun p hp => (h3 p).mp hp); exact ⟨s, _, h1, by omega, rfl, sortPairs_sorted h2, fun p => sortPairs_mem.trans (h3 p)⟩
theorem counts_mays (l : List Cred) : Mays (counts l) := fun c hc => (((counts_spec l).mem c).mp hc).may
theorem all_is (l : List Cred) (hl : l.length < 21) (hok : ∀ c ∈ l, okCred c) : ∃ A, Qbk.f l = some A ∧ AllOf (counts l) A := by
  have hlen := counts_length l; obtain ⟨s, A, h1, h2, h3, h4⟩ := run_all (counts_mays l) (by omega); refine ⟨A, ?_, h4⟩; unfold Qbk.f; rw [progCounts_is l hl hok, Option.bind_some, if_pos (by omega), h1, Option.bind_some, if_pos h2, h3]
theorem beqB_dec (a b : ByteArray) : (a.toList == b.toList) = decide (a = b) := by
  rw [Bool.eq_iff_iff, Lib.bytes_beq_iff, decide_eq_true_eq]
theorem rdPair (l : List Pair) (i : Nat) : Qbi l (i : Int) = l[i]! := by
  unfold Qbi; rw [Int.toNat_natCast, List.getElem!_eq_getElem?_getD, List.getD_eq_getElem?_getD]; rfl
theorem pair_beq (p : Pair) (a b c : ByteArray) : ((a.toList == p.f0.f0.toList && (b.toList == p.f0.f1.toList)) && (c.toList == p.f1.toList)) = decide (p = ⟨⟨a, b⟩, c⟩) := by
  rw [beqB_dec, beqB_dec, beqB_dec, Bool.eq_iff_iff, Bool.and_eq_true, Bool.and_eq_true, decide_eq_true_eq, decide_eq_true_eq, decide_eq_true_eq, decide_eq_true_eq]; exact ⟨fun h => QaW (role_ext h.1.1.symm h.1.2.symm) h.2.symm, fun h => by rw [h]; exact ⟨⟨rfl, rfl⟩, rfl⟩⟩
theorem index_l0 (A : List Pair) (hA : A.length < 1000000) (a b c : ByteArray) : ∀ (n i : Nat), n + i = A.length → ∃ v : Int, Ev (fun k => Qaw.l0 k A (A.length : Int) (i : Int) a b c) v ∧ (v ≥ 0 ↔ (⟨⟨a, b⟩, c⟩ : Pair) ∈ A.drop i)
  | 0, i, hn => by
    rw [show A.drop i = [] from List.drop_eq_nil_of_le (by omega)]; refine ⟨-1, Ev.step (fun k => ?_) (Ev.pure _), by simp⟩; rw [Qaw.l0, if_neg (by omega)]
  | n + 1, i, hn => by
    rw [drop_bang (by omega : i < A.length)]
    by_cases e : A[i]! = ⟨⟨a, b⟩, c⟩
    · refine ⟨(i : Int), Ev.step (fun k => ?_) (Ev.pure _), ⟨fun _ => by rw [e]; exact List.mem_cons_self .., fun _ => by omega⟩⟩
      rw [Qaw.l0, if_pos (by omega), if_pos (by omega), if_pos (by omega), rdPair, pair_beq, decide_eq_true e, if_pos rfl]
    · obtain ⟨v, h1, h2⟩ := index_l0 A hA a b c n (i + 1) (by omega)
      refine ⟨v, Ev.step (fun k => ?_) h1, h2.trans ⟨fun h => List.mem_cons_of_mem _ h, fun h => (List.mem_cons.mp h).resolve_left (fun h => e h.symm)⟩⟩; rw [Qaw.l0, if_pos (by omega), if_pos (by omega), if_pos (by omega), wrap_succ (by omega), rdPair, pair_beq, decide_eq_false e, if_neg (by decide)]
theorem has_ev {l : List Cred} {A : List Pair} (h : Qbk.f l = some A) (hA : A.length < 1000000) (who : ByteArray) (r : Role) : Ev (fun k => solve_Has.f k l who r.f0 r.f1) (decide ((⟨r, who⟩ : Pair) ∈ A)) := by
  unfold solve_Has.f Qa0.f; rw [h]; obtain ⟨v, h1, h2⟩ := index_l0 A hA r.f0 r.f1 who A.length 0 (by omega); rw [List.drop_zero] at h2; refine Ev.bind (a := decide ((⟨r, who⟩ : Pair) ∈ A)) (Ev.bind h1 ?_) (Ev.pure _)
  have e : decide (v ≥ 0) = decide ((⟨r, who⟩ : Pair) ∈ A) := by
    rw [Bool.eq_iff_iff, decide_eq_true_eq, decide_eq_true_eq]; exact h2
  rw [e]; exact Ev.pure _
open Classical in
noncomputable def hasF (l : List Cred) (who : ByteArray) (r : Role) : Bool := decide (Said (counts l) ⟨r, who⟩)
theorem hasF_iff (l : List Cred) (who : ByteArray) (r : Role) : hasF l who r = true ↔ Said (counts l) ⟨r, who⟩ := by
  simp [hasF]
theorem hasF_ev {l : List Cred} (hl : l.length < 21) (hok : ∀ c ∈ l, okCred c) (who : ByteArray) (r : Role) : Ev (fun k => solve_Has.f k l who r.f0 r.f1) (hasF l who r) := by
  obtain ⟨A, h1, h2⟩ := all_is l hl hok; have hc := counts_length l; have hlen := h2.length (by omega)
  have e : hasF l who r = decide ((⟨r, who⟩ : Pair) ∈ A) := by
    rw [Bool.eq_iff_iff, hasF_iff, decide_eq_true_eq]; exact (h2.mem _).symm
  rw [e]; exact has_ev h1 (by omega) who r
section
open Go.Maps
open Go.ChangeMaps (setBlock)
section
variable {κ : Type} [DecidableEq κ]
theorem tget_cons (k : κ) (u : Value) (T : List (κ × Value)) (y : κ) : tget ((k, u) :: T) y = if k = y then some u else tget T y := by
  unfold tget; rw [List.find?_cons]
  by_cases h : k = y
  · simp [h]
  · simp [h]
theorem tget_map_ne (T : List (κ × Value)) (x y : κ) (v : Value) (h : x ≠ y) : tget (T.map fun z => if z.1 = x then (x, v) else z) y = tget T y := by
  induction T with
  | nil => rfl
  | cons a T ih =>
    obtain ⟨k, u⟩ := a; rw [List.map_cons, tget_cons]
    by_cases hk : k = x
    · subst hk
      rw [if_pos rfl, tget_cons, if_neg h, if_neg h, ih]
    · rw [if_neg hk, tget_cons, ih]
theorem tget_map_any (T : List (κ × Value)) (x : κ) (v : Value) (h : T.any (fun y => decide (y.1 = x)) = true) : tget (T.map fun z => if z.1 = x then (x, v) else z) x = some v := by
  induction T with
  | nil => simp at h
  | cons a T ih =>
    obtain ⟨k, u⟩ := a; rw [List.map_cons]
    by_cases hk : k = x
    · subst hk
      rw [if_pos rfl, tget_cons, if_pos rfl]
    · rw [if_neg hk, tget_cons, if_neg hk]
      rw [List.any_cons, Bool.or_eq_true] at h
      rcases h with h | h
      · simp [hk] at h
      · exact ih h
theorem tget_append (T : List (κ × Value)) (x : κ) (v : Value) (y : κ) (h : T.any (fun y => decide (y.1 = x)) = false) : tget (T ++ [(x, v)]) y = if x = y then some v else tget T y := by
  induction T with
  | nil => rw [List.nil_append, tget_cons]
  | cons a T ih =>
    obtain ⟨k, u⟩ := a; rw [List.any_cons, Bool.or_eq_false_iff] at h
    have hk : k ≠ x := by simpa using h.1
    rw [List.cons_append, tget_cons, tget_cons, ih h.2]
    by_cases h1 : k = y
    · subst h1
      rw [if_pos rfl, if_neg (Ne.symm hk), if_pos rfl]
    · rw [if_neg h1, if_neg h1]
theorem tget_tput (T : List (κ × Value)) (x : κ) (v : Value) (y : κ) : tget (tput T x v) y = if x = y then some v else tget T y := by
  unfold tput
  by_cases h : T.any (fun y => decide (y.1 = x)) = true
  · rw [if_pos h]
    by_cases hx : x = y
    · subst hx
      rw [if_pos rfl, tget_map_any T x v h]
    · rw [if_neg hx, tget_map_ne T x y v hx]
  · rw [if_neg h]
    exact tget_append T x v y (Bool.eq_false_iff.mpr h)
theorem tput_len_le (T : List (κ × Value)) (x : κ) (v : Value) : (tput T x v).length ≤ T.length + 1 := by
  unfold tput
  split
  · rw [List.length_map]
    omega
  · rw [List.length_append]
    exact Nat.le_refl _
end
def encI (x : Int) : Value := .int .i64 x
def okI (x : Int) : Prop := (Lit.int .i64 x).wf = true
theorem intKey : KeyK Tryd.prog 3 encI okI where
  keyed := int_keyed Tryd.underlying3
  lit x hx := by
    refine ⟨.int .i64 x, ?_⟩; unfold encI keyOf; rw [Tryd.underlying3]; have h : (Lit.int .i64 x).wf = true := hx; simp [mapKey, Tryd.underlying3, h]
  inj x y _ _ h := by
    unfold encI at h
    injection h
theorem zeroI (w : World) : (zeroValue 3).run Tryd.prog w = .ok (.int .i64 0) w := by kernel_rfl
structure AM where
  time : Int
  given : ID → Option (Cred × Int)
  last : Int → Int
  number : Int → Int
  issued : List Tok
abbrev credV (c : Cred) : Array Value := #[.int .i64 c.f0.f0, .int .i64 c.f0.f1, .string c.f1, .int .i64 c.f2, .string c.f3, .string c.f4.f0, .string c.f4.f1, .string c.f5.f0, .string c.f5.f1]
def encG (g : Cred × Int) : Value := .agg #[.int .i64 g.1.f0.f0, .int .i64 g.1.f0.f1, .string g.1.f1, .int .i64 g.1.f2, .string g.1.f3, .string g.1.f4.f0, .string g.1.f4.f1, .string g.1.f5.f0, .string g.1.f5.f1, .int .i64 g.2]
def zG : Cred × Int := (⟨⟨0, 0⟩, ⟨#[]⟩, 0, ⟨#[]⟩, ⟨⟨#[]⟩, ⟨#[]⟩⟩, ⟨⟨#[]⟩, ⟨#[]⟩⟩⟩, 0)
def GTab (w : World) (b n : Nat) (g : ID → Option (Cred × Int)) : Prop := ∃ T, Tbl encID okID w b T ∧ T.length ≤ n ∧ ∀ i, tget T i = (g i).map encG
def NTab (w : World) (b n : Nat) (g : Int → Int) : Prop := ∃ T, Tbl encI okI w b T ∧ T.length ≤ n ∧ ∀ i, (tget T i).getD (.int .i64 0) = .int .i64 (g i)
def TRows (w0 w : World) (v : Value) (n : Nat) (l : List Tok) : Prop := ∃ Ts : List (Array Value), Kd.R (kRaw 9) 40 w w0.heap.size (fun _ => True) v Ts ∧ Ts.length ≤ n ∧ Ts.length = l.length ∧ ∀ (i : Nat) (t : Tok) (T : Array Value), l[i]? = some t → Ts[i]? = some T → TokA w0 t T
theorem zeroG (w : World) : (zeroValue 66).run Tryd.prog w = .ok (encG zG) w := by kernel_rfl
theorem GTab.same {w w' : World} {b n : Nat} {g : ID → Option (Cred × Int)} (h : GTab w b n g) (hb : w'.heap[b]? = w.heap[b]?) : GTab w' b n g := by
  obtain ⟨T, h1, h2⟩ := h; exact ⟨T, h1.same hb, h2⟩
theorem NTab.same {w w' : World} {b n : Nat} {g : Int → Int} (h : NTab w b n g) (hb : w'.heap[b]? = w.heap[b]?) : NTab w' b n g := by
  obtain ⟨T, h1, h2⟩ := h; exact ⟨T, h1.same hb, h2⟩
theorem GTab.lt {w : World} {b n : Nat} {g : ID → Option (Cred × Int)} (h : GTab w b n g) : b < w.heap.size := by
  obtain ⟨T, h1, _⟩ := h; exact h1.lt
theorem NTab.lt {w : World} {b n : Nat} {g : Int → Int} (h : NTab w b n g) : b < w.heap.size := by
  obtain ⟨T, h1, _⟩ := h; exact h1.lt
theorem GTab.mono {w : World} {b n m : Nat} {g : ID → Option (Cred × Int)} (h : GTab w b n g) (hm : n ≤ m) : GTab w b m g := by
  obtain ⟨T, h1, h2, h3⟩ := h; exact ⟨T, h1, Nat.le_trans h2 hm, h3⟩
theorem NTab.mono {w : World} {b n m : Nat} {g : Int → Int} (h : NTab w b n g) (hm : n ≤ m) : NTab w b m g := by
  obtain ⟨T, h1, h2, h3⟩ := h; exact ⟨T, h1, Nat.le_trans h2 hm, h3⟩
theorem GTab.made (w : World) : GTab (w.alloc (.map #[] 0)) w.heap.size 0 (fun _ => none) := ⟨[], Tbl.made encID okID w, Nat.le_refl _, fun _ => rfl⟩
theorem NTab.made (w : World) : NTab (w.alloc (.map #[] 0)) w.heap.size 0 (fun _ => 0) := ⟨[], Tbl.made encI okI w, Nat.le_refl _, fun _ => rfl⟩
theorem GTab.look {w : World} {b n : Nat} {g : ID → Option (Cred × Int)} (h : GTab w b n g) {i : ID} (hi : okID i) : ∀ W : World, W.heap[b]? = w.heap[b]? → (Instr.lookup 51 (.map (some b)) (encID i) true).run Tryd.prog W = .ok (.tuple #[encG ((g i).getD zG), .bool (g i).isSome]) W := by
  obtain ⟨T, h1, _, h3⟩ := h; intro W hW; have := Tbl.look idKey h1 Tryd.underlying51 zeroG hi true W hW; rw [this, h3 i]
  cases g i <;> rfl
theorem NTab.look {w : World} {b n : Nat} {g : Int → Int} (h : NTab w b n g) {i : Int} (hi : okI i) : ∀ W : World, W.heap[b]? = w.heap[b]? → (Instr.lookup 52 (.map (some b)) (.int .i64 i) false).run Tryd.prog W = .ok (.int .i64 (g i)) W := by
  obtain ⟨T, h1, _, h3⟩ := h; intro W hW; have := Tbl.look intKey h1 Tryd.underlying52 zeroI hi false W hW; rw [h3 i] at this; exact this
theorem GTab.put {w : World} {b n : Nat} {g : ID → Option (Cred × Int)} (h : GTab w b n g) {i : ID} (hi : okID i) (c : Cred × Int) (hn : n < maxLen) :
    ∃ O, (∀ W : World, W.heap[b]? = w.heap[b]? → (Instr.mapUpdate 51 (.map (some b)) (encID i) (encG c)).run Tryd.prog W = .ok () (setBlock W b O)) ∧ ∀ W : World, b < W.heap.size → GTab (setBlock W b O) b (n + 1) (fun j => if i = j then some c else g j) := by
  obtain ⟨T, h1, h2, h3⟩ := h; obtain ⟨O, hr, ht⟩ := Tbl.store idKey h1 Tryd.underlying51 hi (encG c) (by omega); refine ⟨O, hr, fun W hW => ⟨_, ht W hW, by have := tput_len_le T i (encG c); omega, fun j => ?_⟩⟩; rw [tget_tput, h3 j]
  show _ = Option.map encG (if i = j then some c else g j)
  by_cases e : i = j
  · rw [if_pos e, if_pos e]; rfl
  · rw [if_neg e, if_neg e]
theorem NTab.put {w : World} {b n : Nat} {g : Int → Int} (h : NTab w b n g) {i : Int} (hi : okI i) (c : Int) (hn : n < maxLen) :
    ∃ O, (∀ W : World, W.heap[b]? = w.heap[b]? → (Instr.mapUpdate 52 (.map (some b)) (.int .i64 i) (.int .i64 c)).run Tryd.prog W = .ok () (setBlock W b O)) ∧ ∀ W : World, b < W.heap.size → NTab (setBlock W b O) b (n + 1) (fun j => if i = j then c else g j) := by
  obtain ⟨T, h1, h2, h3⟩ := h; obtain ⟨O, hr, ht⟩ := Tbl.store intKey h1 Tryd.underlying52 hi (.int .i64 c) (by omega); refine ⟨O, hr, fun W hW => ⟨_, ht W hW, by have := tput_len_le T i (.int .i64 c); omega, fun j => ?_⟩⟩; rw [tget_tput]
  show _ = Value.int .i64 (if i = j then c else g j)
  by_cases e : i = j
  · rw [if_pos e, if_pos e]; rfl
  · rw [if_neg e, if_neg e]
    exact h3 j
structure CAt (w0 w : World) (c0 bg bl bn : Nat) (v : Value) (n : Nat) (m : AM) : Prop where
  blk : w.heap[c0]? = some (.cells #[.int .i64 m.time, .map (some bg), .map (some bl), .map (some bn), v] 55 (0, 0))
  c0l : w0.heap.size ≤ c0
  bgl : w0.heap.size ≤ bg
  bll : w0.heap.size ≤ bl
  bnl : w0.heap.size ≤ bn
  gl : bg ≠ bl
  gn : bg ≠ bn
  ln : bl ≠ bn
  g : GTab w bg n m.given
  l : NTab w bl n m.last
  k : NTab w bn n m.number
  t : TRows w0 w v n m.issued
  old : Below w0.heap.size w0 w
theorem TRows.same {w0 w w' : World} {v : Value} {n : Nat} {l : List Tok} (h : TRows w0 w v n l) (hm : ∀ k, v.ownBlock = some k → w'.heap[k]? = w.heap[k]?) : TRows w0 w' v n l := by
  obtain ⟨Ts, h1, r⟩ := h; refine ⟨Ts, ?_, r⟩; obtain ⟨_, inner, ho, hr⟩ := h1; exact ⟨fun _ _ => trivial, inner, own_move ho hm, hr.imp_ (fun _ _ hp => hp)⟩
theorem TRows.lt {w0 w : World} {v : Value} {n : Nat} {l : List Tok} (h : TRows w0 w v n l) {k : Nat} (hk : v.ownBlock = some k) : k < w.heap.size ∧ w0.heap.size ≤ k ∧ ∃ cells, w.heap[k]? = some (.cells cells 40 (0, 0)) := by
  obtain ⟨Ts, ⟨_, inner, ho, hr⟩, _⟩ := h; exact ⟨own_lt ho k hk, own_base ho k hk, own_typed ho k hk⟩
theorem CAt.below {w0 w w' : World} {c0 bg bl bn : Nat} {v : Value} {n : Nat} {m : AM} (h : CAt w0 w c0 bg bl bn v n m) (hb : Below w.heap.size w w') : CAt w0 w' c0 bg bl bn v n m :=
  { h with
    blk := Qac h.blk hb
    g := h.g.same (hb.block _ h.g.lt)
    l := h.l.same (hb.block _ h.l.lt)
    k := h.k.same (hb.block _ h.k.lt)
    t := h.t.same (fun k hk => hb.block k (h.t.lt hk).1)
    old := Qab h.old hb }
theorem CAt.mono {w0 w : World} {c0 bg bl bn : Nat} {v : Value} {n n' : Nat} {m : AM} (h : CAt w0 w c0 bg bl bn v n m) (hn : n ≤ n') : CAt w0 w c0 bg bl bn v n' m := by
  obtain ⟨Ts, t1, t2, t3⟩ := h.t; exact { h with g := h.g.mono hn, l := h.l.mono hn, k := h.k.mono hn, t := ⟨Ts, t1, Nat.le_trans t2 hn, t3⟩ }
theorem QaY {w : World} {c0 : Nat} {x : Int} {bg bl bn : Nat} {v : Value} (h : w.heap[c0]? = some (.cells #[.int .i64 x, .map (some bg), .map (some bl), .map (some bn), v] 55 (0, 0))) :
    w.cell? ⟨c0, 0, none⟩ = some (.int .i64 x) ∧ w.cell? ⟨c0, 1, none⟩ = some (.map (some bg)) ∧ w.cell? ⟨c0, 2, none⟩ = some (.map (some bl)) ∧ w.cell? ⟨c0, 3, none⟩ = some (.map (some bn)) ∧ w.cell? ⟨c0, 4, none⟩ = some v :=
  ⟨(Qaf h 0).trans rfl, (Qaf h 1).trans rfl, (Qaf h 2).trans rfl, (Qaf h 3).trans rfl, (Qaf h 4).trans rfl⟩
end
section
variable {P : Program} {ops : Array Oper} {Q : Exit → Act → World → Prop} {md : Region.Mode} {S : World → Prop} {ds : List Nat}
theorem kb {W : World} {v : Value} {fuel : Nat} {l l' : Array Bool} {a a' : Act} {w : World} {oi : Oper} (i N : Nat) (h : wpAnyLast P md ops Q (fun w' => ∃ u : BW W, w' = u.now) ds fuel l' a' w) (hi : ops[i]? = some oi := by rfl) (hN : oi.dst = some N := by rfl) (hl : l.setIfInBounds i true = l' := by simp only [put_]; rfl) (hc : takeB md ops ds l l' i = true := by kernel_rfl) (hw : Region.wanted oi (yielded ops a.tmps) = true := by rfl) (hy : ∀ w, (∃ u : BW W, w = u.now) → (execOp a.eval oi).run P w = .ok (.value v) w := by rintro _ ⟨u, rfl⟩; go_simp; (with_reducible rfl)) (ha : a.put (some N) v = a' := by simp only [Act.put, put_, i64_w, i32_w]; rfl) (hQ : ∀ c a w, Q (.panic c) (a.put oi.dst v) w → Q (.panic c) a w := by exact fun _ _ _ h => h) (hS : ∃ u : BW W, w = u.now := by assumption) : wpAnyLast P md ops Q (fun w' => ∃ u : BW W, w' = u.now) ds (fuel + 1) l a w :=
  take_ l' hi hN hc hQ (.inl ⟨hw, hy⟩) hS ha h
theorem run_load {P : Program} {oi : Oper} {a : Act} {w : World} {ty : TypeId} {x : Operand} {a0 : Addr} {E : Array Value} {d : TypeDesc} (hc : ∀ j v, E[j]? = some v → w.cell? (a0.add j) = some v) (ho : oi.op = .load ty x) (hx : a.eval x = .pointer (some a0)) (hu : P.underlying ty = some d) (hd : d.isRow = true) (hi : (P.info? ty).map (·.size) = some E.size) : (execOp a.eval oi).run P w = .ok (.value (.agg E)) w := by
  have hr := run_loadAt_cells w a0 ty E.toList d (fun j v hv => hc j v (by simpa using hv)) hu hd (by simpa using hi); rw [Array.toArray_toList] at hr; unfold execOp; simp only [ho, hx, hr, Sem.run_bind, Sem.run_pure, Result.andThen_ok]
theorem Qbh {P : Program} {ops : Array Oper} {W : World} {Q : Act → Prop} {o : Oper} {rest : List Oper} {a a' : Act} (N : Nat) (ty : TypeId) (x : Operand) (E : Array Value) (a0 : Addr) (hc : ∀ (u : BW W) j v, E[j]? = some v → u.now.cell? (a0.add j) = some v) (d : TypeDesc) (hu : P.underlying ty = some d) (hd : d.isRow = true) (hi : (P.info? ty).map (·.size) = some E.size)
    (hN : o.dst = some N) (ho : o.op = .load ty x) (hx : a.eval x = .pointer (some a0)) (hw : Region.wanted o (yielded ops a.tmps) = true) (ha : a.put (some N) (.agg E) = a') (h : wpQuiet P ops (fun w' => ∃ u : BW W, w' = u.now) Q rest a') : wpQuiet P ops (fun w' => ∃ u : BW W, w' = u.now) Q (o :: rest) a := by
  refine wpQuiet_step fun K hK => ?_
  rw [if_pos hw]; refine ⟨.agg E, ?_, hK _ (by rw [hN, ha]; exact h)⟩; rintro _ ⟨u, rfl⟩; unfold Oper.quietAt; rw [run_load (hc u) ho hx hu hd hi]; exact ⟨rfl, rfl⟩
theorem run_putNew {P : Program} {oi : Oper} {a : Act} {V : World} {Z : Array Value} {ty : TypeId} {x y : Operand} (ho : oi.op = .store ty x y) (hx : a.eval x = .pointer (some ⟨V.heap.size, 0, none⟩)) (U : Array Value) (hy : a.eval y = .agg U) (hi : (P.info? ty).map (·.size) = some U.size) (hz : Z.size = U.size) (h1 : U.all (·.oneCell') = true) : (execOp a.eval oi).run P (V.alloc (.cells Z ty)) = .ok .skip (V.alloc (.cells U ty)) := by
  unfold execOp; simp only [ho, hx, hy, run_storeAt_new V ty Z U hi hz h1, Sem.run_bind, Sem.run_pure, Result.andThen_ok]
theorem kv {v : Value} {fuel : Nat} {l l' : Array Bool} {a a' : Act} {w w' : World} {oi : Oper} (i N : Nat) (hS : S w') (h : wpAnyLast P md ops Q S ds fuel l' a' w') (hi : ops[i]? = some oi := by rfl) (hN : oi.dst = some N := by rfl) (hl : l.setIfInBounds i true = l' := by simp only [put_]; rfl) (hc : readyB md ops l l' i = true := by kernel_rfl) (hd : i ∉ ds := by decide) (hw : Region.wanted oi (yielded ops a.tmps) = true := by rfl) (hr : (execOp a.eval oi).run P w = .ok (.value v) w' := by go_simp; first | rfl | (constructor <;> rfl)) (ha : a.put (some N) v = a' := by simp only [Act.put, put_, i64_w, i32_w]; rfl) : wpAnyLast P md ops Q S ds (fuel + 1) l a w := by
  refine one_ l' hi hN hc hd fun K hK => ?_
  rw [if_pos hw]; unfold Oper.wp; rw [hr]; exact hK.out _ _ hS (fun _ => by rw [hN, ha]; exact h)
theorem ks {fuel : Nat} {l l' : Array Bool} {a : Act} {w w' : World} {oi : Oper} (i : Nat) (h : wpAnyLast P md ops Q S ds fuel l' a w') (hi : ops[i]? = some oi := by rfl) (hN : oi.dst = none := by rfl) (hl : l.setIfInBounds i true = l' := by simp only [put_]; rfl) (hc : readyB md ops l l' i = true := by kernel_rfl) (hd : i ∈ ds := by decide) (hw : Region.wanted oi (yielded ops a.tmps) = true := by rfl) (hr : (execOp a.eval oi).run P w = .ok .skip w' := by first | (go_simp; done) | (go_simp; rfl)) : wpAnyLast P md ops Q S ds (fuel + 1) l a w := by
  refine last_ l' hi hN hc hd fun K hK => ?_
  rw [if_pos hw]; unfold Oper.wp; rw [hr]; exact hK.out _ _ (by rw [hN]; exact h)
end
abbrev roleV (r : Role) : Array Value := #[.string r.f0, .string r.f1]
abbrev idV (i : ID) : Array Value := #[.int .i64 i.f0, .int .i64 i.f1]
theorem stands1_calls (w : World) (bl bt : Nat) (L : List Cred) (A : Option Addr) (c : Nat) (t : Tok) (T : Array Value) (r : Role) (hl : w.heap[bl]? = some (.cells #[.slice A L.length c] 74 (0, 0))) (hb : w.heap[bt]? = some (.cells T 40 (0, 0))) (hT : TokA w t T)
    (hC : Kd.C k34 w A L.length L) (hc : L.length ≤ c) (h21 : L.length < 21) (hok : ∀ x ∈ L, okCred x) :
    Calls Tryd.prog 34 #[.agg (roleV r), .pointer (some ⟨bl, 0, none⟩), .pointer (some ⟨bt, 0, none⟩)] w fun e w' => e = .returned (.bool (!hasF L t.f3 r)) ∧ Below w.heap.size w w' := by
  obtain ⟨K, k⟩ := hasF_ev h21 hok t.f3 r; have k := k K (Nat.le_refl _); obtain ⟨A4, c4, A6, c6, A7, c7, A8, c8, rfl, -⟩ := hT.form; have p0 := bw_alloc ((Qaf hl 0).trans rfl : w.cell? ⟨bl, 0, none⟩ = some (.slice A L.length c)) (.cells (roleV r) 32 (0, 0)); have p3 := bw_alloc (tok_cells hb).2.2.2.1 (.cells (roleV r) 32 (0, 0)); have HH := Lib.hid (solve_Has.calls K A c L t.f3 r.f0 r.f1 _ (w.alloc (.cells (roleV r) 32 (0, 0))) (Kd.C_alloc hC _) hc k); clear hl hb hT hC hok k
  obtain ⟨y, hy⟩ : ∃ y, y = hasF L t.f3 r := ⟨_, rfl⟩
  rw [← hy] at HH ⊢; clear hy; go_enter Tryd.func34, Tryd.ntmps34
  go_wp2_with (go_at_call 35; refine HH.out.mono ?_; rintro e w3 ⟨rfl, hb3⟩; have HB3 := Lib.hid hb3; clear hb3)
  go_ret; exact ⟨rfl, Qab (Qad (Below.refl _ _) _) HB3.out⟩
def credOf (m : AM) (i : ID) : Cred := ((m.given i).getD zG).1
def badF (m : AM) (x : Evt) (i : ID) : Bool := match m.given i with
  | none => true
  | some g => decide (0 ≤ g.2) && (decide (64 ≤ wrap64 (x.f0 - g.2)) || decide (i.f0 = x.f1))
theorem all_bad {α : Type} {l : List α} {p : α → Bool} {x : α} (h : x ∈ l) (hb : p x = true) : (l.all fun i => !p i) = false := List.all_eq_false.mpr ⟨x, h, by simp [hb]⟩
noncomputable def standsF (m : AM) (t : Tok) (x : Evt) : Bool := t.f6.all (fun i => !badF m x i) && t.f4.all fun r => hasF (t.f6.map (credOf m)) t.f3 r
theorem stands_bad {m : AM} {x : Evt} {t : Tok} {i : ID} (h : i ∈ t.f6) (hb : badF m x i = true) : standsF m t x = false := by
  unfold standsF; rw [all_bad h hb, Bool.false_and]
theorem raw_roles {w : World} {A : Option Addr} {l : List Role} (h : Kd.C k32 w A l.length l) : Kd.C (kRaw 2) w A (l.map roleV).length (l.map roleV) := by
  refine ⟨rfl, by rw [List.length_map]; exact h.2.1, fun hn => ?_⟩; rw [List.length_map] at hn; obtain ⟨a, e, hc⟩ := h.2.2 hn; refine ⟨a, e, fun j p hj => ?_⟩; rw [List.getElem?_map] at hj; obtain ⟨r, hr, rfl⟩ := Option.map_eq_some_iff.mp hj; obtain ⟨cs, h1, h2, h3⟩ := hc j r hr; obtain rfl := k32_open h2; exact ⟨_, h1, ⟨rfl, rfl, by simp [Value.oneCell']⟩, h3⟩
theorem stands_good {m : AM} {x : Evt} {t : Tok} (h : t.f6.all (fun i => !badF m x i) = true) : standsF m t x = !(t.f4.any (id ∘ fun r => !hasF (t.f6.map (credOf m)) t.f3 r)) := by
  unfold standsF; rw [h, Bool.true_and, List.not_any_eq_all_not]
  congr 1
  funext r
  simp
abbrev kEvt := k46
def EvA (w : World) (x : Evt) (E : Array Value) : Prop := kEvt.K w x E.toList
theorem EvA.below {w w' : World} {x : Evt} {E : Array Value} (h : EvA w x E) (hb : Below w.heap.size w w') : EvA w' x E := kEvt.K_below hb h
theorem EvA.size {w : World} {x : Evt} {E : Array Value} (h : EvA w x E) : E.size = 37 := by
  have := kEvt.K_len h; rw [Array.length_toList] at this; exact this
theorem EvA.one {w : World} {x : Evt} {E : Array Value} (h : EvA w x E) : E.all (·.oneCell') = true := Array.all_eq_true_iff_forall_mem.2 (fun v hv => kEvt.K_one h v (by simpa using hv))
theorem EvA.at_ {w : World} {x : Evt} {E : Array Value} (h : EvA w x E) : ∃ l : List Value, E = l.toArray ∧ kEvt.K w x l := ⟨E.toList, by simp, h⟩
theorem Qaj {w : World} {b : Nat} {E : Array Value} {ty : TypeId} (h : w.heap[b]? = some (.cells E ty (0, 0))) (i : Nat) {v : Value} (hv : E[i]? = some v) : w.cell? ⟨b, i, none⟩ = some v := (Qaf h i).trans hv
theorem EvA.td {w : World} {x : Evt} {E : Array Value} (h : EvA w x E) : E[0]? = some (.int .i64 x.f0) ∧ E[1]? = some (.int .i64 x.f1) := by
  obtain ⟨l, rfl, hl⟩ := h.at_; obtain ⟨A14, c14, A20, c20, A22, c22, A23, c23, A24, c24, A32, c32, A34, c34, A35, c35, A36, c36, rfl, -⟩ := Qbb hl; exact ⟨rfl, rfl⟩
theorem below_low {n m : Nat} {w w' : World} (h : Below n w w') (hm : m ≤ n) : Below m w w' := ⟨h.os, h.tape, h.output, h.size, fun k hk => h.block k (by omega)⟩
theorem infoCredS : (Tryd.prog.info? 34).map (fun i => (i.zero, i.size, i.bytes)) = some (some (.agg #[(.int .i64 0), (.int .i64 0), (.string ⟨#[]⟩), (.int .i64 0), (.string ⟨#[]⟩), (.string ⟨#[]⟩), (.string ⟨#[]⟩), (.string ⟨#[]⟩), (.string ⟨#[]⟩)]), 9, 120) := by kernel_rfl
theorem made3 {w W : World} {C1 C2 C3 : Array Value} {t1 t2 t3 : TypeId} (h : ((w.alloc (.cells C1 t1)).alloc (.cells C2 t2)).alloc (.cells C3 t3) = W) : W.heap[w.heap.size]? = some (.cells C1 t1 (0, 0)) ∧ W.heap[w.heap.size + 1]? = some (.cells C2 t2 (0, 0)) ∧ W.heap[w.heap.size + 1 + 1]? = some (.cells C3 t3 (0, 0)) ∧ Below w.heap.size w W ∧ W.heap.size = w.heap.size + 3 := by
  subst h; have z1 : (w.alloc (.cells C1 t1)).heap.size = w.heap.size + 1 := Array.size_push _; have z2 : ((w.alloc (.cells C1 t1)).alloc (.cells C2 t2)).heap.size = w.heap.size + 1 + 1 := (Array.size_push _).trans (by rw [z1]); have z3 : (((w.alloc (.cells C1 t1)).alloc (.cells C2 t2)).alloc (.cells C3 t3)).heap.size = w.heap.size + 3 := (Array.size_push _).trans (by rw [z2]); refine ⟨Qav (Qav (Qau w _) _) _, ?_, ?_, Qad (Qad (Qad (Below.refl _ _) _) _) _, z3⟩
  · have := Qav (Qau (w.alloc (.cells C1 t1)) (.cells C2 t2)) (.cells C3 t3)
    rw [z1] at this; exact this
  · have := Qau ((w.alloc (.cells C1 t1)).alloc (.cells C2 t2)) (.cells C3 t3)
    rw [z2] at this; exact this
theorem slice_of {α : Type} {d : Kd α} {e base : Nat} {ok : Nat → Prop} {w : World} {v : Value} {xs : List α} (h : Kd.R d e w base ok v xs) : ∃ A n c, v = .slice A n c := by
  obtain ⟨A, c, h, -⟩ := Kd.R_reads h; exact ⟨A, _, c, h⟩
theorem bad_cases (m : AM) (x : Evt) (i : ID) : (m.given i = none ∧ badF m x i = true) ∨ ∃ g, m.given i = some g ∧ ((decide (0 ≤ g.2) = false ∧ badF m x i = false) ∨ (decide (0 ≤ g.2) = true ∧ decide (64 ≤ wrap64 (x.f0 - g.2)) = true ∧ badF m x i = true) ∨ (decide (0 ≤ g.2) = true ∧ decide (64 ≤ wrap64 (x.f0 - g.2)) = false ∧ (i.f0 == x.f1) = true ∧ badF m x i = true) ∨ (decide (0 ≤ g.2) = true ∧ decide (64 ≤ wrap64 (x.f0 - g.2)) = false ∧ (i.f0 == x.f1) = false ∧ badF m x i = false)) := by
  unfold badF
  cases m.given i with
  | none => exact .inl ⟨rfl, rfl⟩
  | some g =>
    refine .inr ⟨g, rfl, ?_⟩; have e : (i.f0 == x.f1) = decide (i.f0 = x.f1) := rfl; rw [e]
    show (_ ∧ (decide (0 ≤ g.2) && (decide (64 ≤ wrap64 (x.f0 - g.2)) || decide (i.f0 = x.f1))) = false) ∨ (_ ∧ _ ∧ (decide (0 ≤ g.2) && (decide (64 ≤ wrap64 (x.f0 - g.2)) || decide (i.f0 = x.f1))) = true) ∨ (_ ∧ _ ∧ _ ∧ (decide (0 ≤ g.2) && (decide (64 ≤ wrap64 (x.f0 - g.2)) || decide (i.f0 = x.f1))) = true) ∨ (_ ∧ _ ∧ _ ∧ (decide (0 ≤ g.2) && (decide (64 ≤ wrap64 (x.f0 - g.2)) || decide (i.f0 = x.f1))) = false)
    generalize decide (0 ≤ g.2) = a0
    generalize decide (64 ≤ wrap64 (x.f0 - g.2)) = a1
    generalize decide (i.f0 = x.f1) = a2
    cases a0 <;> cases a1 <;> cases a2 <;> simp
theorem bw_look {W : World} {b n : Nat} {g : ID → Option (Cred × Int)} (h : GTab W b n g) {i : ID} (hi : okID i) (u : BW W) : (Instr.lookup 51 (.map (some b)) (.agg #[.int .i64 i.f0, .int .i64 i.f1]) true).run Tryd.prog u.now = .ok (.tuple #[encG ((g i).getD zG), .bool (g i).isSome]) u.now := h.look hi _ (u.ok.block _ h.lt)
theorem bw_num {W : World} {b n : Nat} {g : Int → Int} (h : NTab W b n g) {i : Int} (hi : okI i) (u : BW W) : (Instr.lookup 52 (.map (some b)) (.int .i64 i) false).run Tryd.prog u.now = .ok (.int .i64 (g i)) u.now := h.look hi _ (u.ok.block _ h.lt)
theorem given_cells {w : World} {b : Nat} {g : Cred × Int} {U : Array Value} (hU : encG g = .agg U) (h : w.heap[b]? = some (.cells U 66 (0, 0))) : w.cell? ⟨b, 0, none⟩ = some (.int .i64 g.1.f0.f0) ∧ w.cell? ⟨b, 1, none⟩ = some (.int .i64 g.1.f0.f1) ∧ w.cell? ⟨b, 2, none⟩ = some (.string g.1.f1) ∧ w.cell? ⟨b, 3, none⟩ = some (.int .i64 g.1.f2) ∧ w.cell? ⟨b, 4, none⟩ = some (.string g.1.f3) ∧ w.cell? ⟨b, 5, none⟩ = some (.string g.1.f4.f0) ∧ w.cell? ⟨b, 6, none⟩ = some (.string g.1.f4.f1) ∧ w.cell? ⟨b, 7, none⟩ = some (.string g.1.f5.f0) ∧ w.cell? ⟨b, 8, none⟩ = some (.string g.1.f5.f1) ∧ w.cell? ⟨b, 9, none⟩ = some (.int .i64 g.2) := by
  unfold encG at hU
  injection hU with hU
  subst hU; exact ⟨(Qaf h 0).trans rfl, (Qaf h 1).trans rfl, (Qaf h 2).trans rfl, (Qaf h 3).trans rfl, (Qaf h 4).trans rfl, (Qaf h 5).trans rfl, (Qaf h 6).trans rfl, (Qaf h 7).trans rfl, (Qaf h 8).trans rfl, (Qaf h 9).trans rfl⟩
theorem encG_agg (g : Cred × Int) : ∃ U : Array Value, encG g = .agg U ∧ U.size = 10 ∧ U.all (·.oneCell') = true := ⟨_, rfl, rfl, by simp [Value.oneCell']⟩
set_option maxRecDepth 100000 in
set_option maxHeartbeats 8000000 in
theorem stands_calls (w0 w : World) (c0 bg bl bn : Nat) (v : Value) (n : Nat) (m : AM) (t : Tok) (x : Evt) (T E : Array Value) (hM : CAt w0 w c0 bg bl bn v n m) (hT : TokA w t T) (hE : EvA w x E) (h20 : t.f6.length < 21) (hid : ∀ i ∈ t.f6, okID i) (hok : ∀ i ∈ t.f6, okCred (credOf m i)) :
    Calls Tryd.prog 24 #[.pointer (some ⟨c0, 0, none⟩), .agg T, .agg E] w fun e w' => e = .returned (.bool (standsF m t x)) ∧ Below w.heap.size w w' := by
  have hT' := Lib.hid hT; obtain ⟨A4, c4, A6, c6, A7, c7, A8, c8, rfl, l4, g4, l6, g6, -, -, -, -⟩ := hT.form; obtain ⟨e0, e1⟩ := hE.td; have HM := Lib.hid hM; have HID := Lib.hid hid; have HOK := Lib.hid hok; have G4 := Lib.hid (And.intro l4 g4); have G6 := Lib.hid (And.intro l6 g6); have hmx := g6.2.1; clear hM hid hok l4 g4 l6 g6 hT hE; go_enter Tryd.func24, Tryd.ntmps24
  go_wp2_with fail
  generalize hW : ((w.alloc (Obj.cells (tokV t A4 c4 A6 c6 A7 c7 A8 c8) 40)).alloc (Obj.cells E 46)).alloc (Obj.cells #[Value.slice none 0 0] 74) = W1
  obtain ⟨BT, BE, BL, HB1, sz⟩ := made3 hW; have HM1 := Lib.hid (HM.out.below HB1); have HB1 := Lib.hid HB1; have HBT := Lib.hid BT; have HBE := Lib.hid BE; have HBL := Lib.hid BL; have HSZ := Lib.hid sz; clear hW BT BE BL sz
  go_loopg [17] (t.f6.length + 1) (fun kq v17 w' => ∃ (i : Nat) (u : Value), v17 = .int .i64 i ∧ Hid (kq = t.f6.length + 1 - i) ∧ Hid (i ≤ t.f6.length) ∧ Hid ((t.f6.take i).all (fun i => !badF m x i) = true) ∧ Hid (w'.heap[w.heap.size + 1 + 1]? = some (.cells #[u] 74 (0, 0))) ∧ Hid (Kd.R k34 34 w' (w.heap.size + 2) (fun k => k ≠ w.heap.size + 1 + 1) u ((t.f6.take i).map (credOf m))) ∧ Hid (Below (w.heap.size + 2) W1 w'))
  case atStart => exact ⟨0, .slice none 0 0, rfl, Lib.hid rfl, Lib.hid (Nat.zero_le _), Lib.hid rfl, HBL, Lib.hid (Kd.R_nil _ _ _ _ _), Lib.hid (Below.refl _ _)⟩
  case round =>
    obtain ⟨i, u, rfl, HKq, HI, HG, HU, HR, HB⟩ := hrel; have HW := Lib.hid (show Below w.heap.size w wr from ⟨HB.out.os.trans HB1.out.os, HB.out.tape.trans HB1.out.tape, HB.out.output.trans HB1.out.output, Nat.le_trans HB1.out.size HB.out.size, fun k hk => (HB.out.block k (by omega)).trans (HB1.out.block k hk)⟩); have HMr := Lib.hid (HM.out.below HW.out)
    by_cases hi : i < t.f6.length
    · have d1 : decide ((i : Int) < (t.f6.length : Int)) = true := decide_eq_true (by omega)
      have d2 : decide (i < t.f6.length) = true := decide_eq_true hi
      have wrapI : wrap64 ((i : Int) + 1) = ((i + 1 : Nat) : Int) := by unfold wrap64; omega
      obtain ⟨ad, rfl, r0, r1⟩ := at_T30 (Kd.QaN G6.out.2 HW.out) (i : Int) (by omega) (by omega)
      have hx : Qa4 t.f6 (i : Int) = t.f6[i] := by
        unfold Qa4; rw [show (i : Int).toNat = i from rfl]; simp [List.getD, List.getElem?_eq_getElem hi]
      have HTk := Lib.hid (show t.f6.take (i + 1) = t.f6.take i ++ [Qa4 t.f6 (i : Int)] by rw [hx, List.take_add_one, List.getElem?_eq_getElem hi]; rfl); have HMem := Lib.hid (show Qa4 t.f6 (i : Int) ∈ t.f6 by rw [hx]; exact List.getElem_mem hi); have HI2 := Lib.hid hi; clear hx; rw [show (i : Int).toNat = i from rfl] at r0 r1
      obtain ⟨id, hid⟩ : ∃ id, id = Qa4 t.f6 (i : Int) := ⟨_, rfl⟩
      rw [← hid] at r0 r1 HTk HMem
      have q1 : (0 : Int) ≤ (i : Int) := by omega
      have q2 : (i : Int) < (t.f6.length : Int) := by omega
      clear hid hi hmx
      go_wp2_with fail
      have B5 := Qau wr (.cells (idV id) 30); have HB5 := Lib.hid (Qad (Below.refl wr.heap.size wr) (.cells (idV id) 30)); have HM5 := Lib.hid (HMr.out.below HB5.out)
      obtain ⟨gg, hgg⟩ : ∃ gg, gg = (m.given id).getD zG := ⟨_, rfl⟩
      obtain ⟨U, hU, sU, oU⟩ := encG_agg gg
      generalize hW5 : wr.alloc (Obj.cells #[Value.int .i64 id.f0, Value.int .i64 id.f1] 30) = W5 at B5 HB5 HM5 ⊢
      have f0 := Qag (QaY HM5.out.blk).2.1; have f1 := Qag (Qaj B5 0 rfl); have f2 := Qag (Qaj B5 1 rfl); have f3 := bw_look HM5.out.g (HID.out _ HMem.out); rw [← hgg, hU] at f3; have HB5' := Lib.hid B5; clear hW5 B5 r0 r1; refine start_ (n := 12) (S := fun w' => ∃ u : BW W5, w' = u.now) (ds := [10]) #[ff,ff,ff,ff,ff,ff,ff,ff,ff,ff,ff,ff] (by kernel_rfl) rfl rfl ⟨⟨_, Qat (Below.refl _ _)⟩, rfl⟩ (fun hHeld => ?_); obtain ⟨u0, hu0⟩ := hHeld; rw [hu0]; clear hu0
      have hHeld : ∃ u : BW W5, u0.now = u.now := ⟨u0, rfl⟩
      refine kz 0 22 ?_; refine kz 1 23 ?_; refine kz 2 24 ?_; refine kb 3 25 ?_; refine kb 4 26 ?_; refine kb 5 27 ?_; refine kz 6 21 ?_; refine kz 7 28 ?_; refine kz 8 29 ?_; refine kv 9 10 ⟨⟨_, Qad u0.ok _⟩, rfl⟩ ?_; refine ks 10 ?_ (hr := run_putNew rfl rfl U rfl (by rw [sU]; kernel_rfl) (by rw [sU]; try rfl) oU); refine kz 11 11 ?_; refine done_ (by kernel_rfl) ?_
      generalize hW6 : u0.now.alloc (Obj.cells U 66) = W6
      have B6 : W6.heap[u0.now.heap.size]? = some (.cells U 66 (0, 0)) := by rw [← hW6]; exact Qau _ _
      have HB6 := Lib.hid (show Below wr.heap.size wr W6 by rw [← hW6]; exact Qad (Qab HB5.out u0.ok) _); have HB56 := Lib.hid (show Below W5.heap.size W5 W6 by rw [← hW6]; exact Qad u0.ok _); obtain ⟨k0, k1, k2, k3, k4, k5, k6, k7, k8, k9⟩ := given_cells hU B6; have be := Qac ((HB.out.block _ (by omega)).trans HBE.out) HB6.out; have x0 := Qaj be 0 e0; have x1 := Qaj be 1 e1; have bi := Qac HB5'.out HB56.out; have i0 := Qaj bi 0 (v := .int .i64 id.f0) rfl; have HU6 := Lib.hid (Qac HU.out HB6.out); have HR6 := Lib.hid (Kd.Qba HR.out HB6.out); have HB16 := Lib.hid (show Below (w.heap.size + 2) W1 W6 from HB.out.trans (below_low HB6.out (by have := HB.out.size; have := HSZ.out; omega))); have u1 := Qaj HU6.out 0 (v := u) rfl; clear hW6 B6 be bi f0 f1 f2 f3 hHeld
      rcases bad_cases m x id with ⟨h0, hb⟩ | ⟨g, h0, hcs⟩
      · have hs : (m.given id).isSome = false := by rw [h0]; rfl
        have HS := Lib.hid (stands_bad HMem.out hb); rw [hs]; clear hs h0 hb hgg
        go_wp2_with fail
        go_ret; exact ⟨by rw [HS.out]; rfl, Qab HW.out HB6.out⟩
      · have hs : (m.given id).isSome = true := by rw [h0]; rfl
        obtain rfl : gg = g := by rw [hgg, h0]; rfl
        have HC := Lib.hid (show credOf m id = gg.1 by unfold credOf; rw [← hgg]); rw [hs]; clear hs h0 hgg
        rcases hcs with ⟨p0, hb⟩ | ⟨p0, p1, hb⟩ | ⟨p0, p1, p2, hb⟩ | ⟨p0, p1, p2, hb⟩
        · have HG2 := Lib.hid (show (t.f6.take (i + 1)).all (fun i => !badF m x i) = true by rw [HTk.out, List.all_append, HG.out]; simp [hb])
          clear hb
          go_wp2_with ((with_reducible refine QaO (b := .append) (xs := #[.tmp 57, .tmp 60]) rfl ?_); at_builtin; refine Kd.R_append k34 (w0 := W1) (w.heap.size + 2) rfl (.tmp 57) (.tmp 60) 74 34 (.agg #[.int .i64 0, .int .i64 0, .string ⟨#[]⟩, .int .i64 0, .string ⟨#[]⟩, .string ⟨#[]⟩, .string ⟨#[]⟩, .string ⟨#[]⟩, .string ⟨#[]⟩]) 120 rfl Tryd.underlying74 infoCredS rfl (by decide) (by omega) _ ((t.f6.take i).map (credOf m)) gg.1 [.int .i64 gg.1.f0.f0, .int .i64 gg.1.f0.f1, .string gg.1.f1, .int .i64 gg.1.f2, .string gg.1.f3, .string gg.1.f4.f0, .string gg.1.f4.f1, .string gg.1.f5.f0, .string gg.1.f5.f1] (fun k => k ≠ w.heap.size + 1 + 1) (fun _ => False) rfl rfl ?aP (fun _ hk => hk.elim) (fun k hk e => by have := QaP HU6.out; omega) ?aO ?aB ?aS ?aL ?_; (case aP => exact k34_mkM _ _ _ gg.1); (case aB => exact HB16.out); (case aO => exact HR6.out); (case aS => have := QaP HU6.out; omega); (case aL => simp; omega); intro v2 w2 ho hb hg hat; obtain ⟨A2, n2, c2, rfl⟩ := slice_of ho; have HO := Lib.hid ho; have HBo := Lib.hid hb; have BU2 := (hg.block _ (QaP HU6.out) (Kd.R_ne HR6.out HU6.out (by decide))).trans HU6.out; have u2 := Qaj BU2 0 rfl; have uf2 := QaF BU2 0; have HU2 := Lib.hid BU2; clear ho hb hg hat BU2)
          go_roundg (t.f6.length + 1 - (i + 1))
          case measure => have := HKq.out; have := HI2.out; omega
          case rel => exact ⟨i + 1, _, by first | rfl | exact congrArg _ wrapI, Lib.hid rfl, Lib.hid HI2.out, HG2, Lib.hid (blk_put HU2.out 0 _ rfl), Lib.hid (by rw [HTk.out, List.map_append, List.map_cons, List.map_nil, HC.out]; exact Kd.R_far HO.out (p := ⟨w.heap.size + 1 + 1, 0, none⟩) (fun k hk => hk) _), Lib.hid (HBo.out.setCell (p := ⟨w.heap.size + 1 + 1, 0, none⟩) (by show w.heap.size + 2 ≤ w.heap.size + 1 + 1; omega) _)⟩
        · have HS := Lib.hid (stands_bad HMem.out hb)
          clear hb
          go_wp2_with fail
          go_ret; exact ⟨by rw [HS.out]; rfl, Qab HW.out HB6.out⟩
        · have HS := Lib.hid (stands_bad HMem.out hb)
          clear hb
          go_wp2_with fail
          go_ret; exact ⟨by rw [HS.out]; rfl, Qab HW.out HB6.out⟩
        · have HG2 := Lib.hid (show (t.f6.take (i + 1)).all (fun i => !badF m x i) = true by rw [HTk.out, List.all_append, HG.out]; simp [hb])
          clear hb
          go_wp2_with ((with_reducible refine QaO (b := .append) (xs := #[.tmp 57, .tmp 60]) rfl ?_); at_builtin; refine Kd.R_append k34 (w0 := W1) (w.heap.size + 2) rfl (.tmp 57) (.tmp 60) 74 34 (.agg #[.int .i64 0, .int .i64 0, .string ⟨#[]⟩, .int .i64 0, .string ⟨#[]⟩, .string ⟨#[]⟩, .string ⟨#[]⟩, .string ⟨#[]⟩, .string ⟨#[]⟩]) 120 rfl Tryd.underlying74 infoCredS rfl (by decide) (by omega) _ ((t.f6.take i).map (credOf m)) gg.1 [.int .i64 gg.1.f0.f0, .int .i64 gg.1.f0.f1, .string gg.1.f1, .int .i64 gg.1.f2, .string gg.1.f3, .string gg.1.f4.f0, .string gg.1.f4.f1, .string gg.1.f5.f0, .string gg.1.f5.f1] (fun k => k ≠ w.heap.size + 1 + 1) (fun _ => False) rfl rfl ?aP (fun _ hk => hk.elim) (fun k hk e => by have := QaP HU6.out; omega) ?aO ?aB ?aS ?aL ?_; (case aP => exact k34_mkM _ _ _ gg.1); (case aB => exact HB16.out); (case aO => exact HR6.out); (case aS => have := QaP HU6.out; omega); (case aL => simp; omega); intro v2 w2 ho hb hg hat; obtain ⟨A2, n2, c2, rfl⟩ := slice_of ho; have HO := Lib.hid ho; have HBo := Lib.hid hb; have BU2 := (hg.block _ (QaP HU6.out) (Kd.R_ne HR6.out HU6.out (by decide))).trans HU6.out; have u2 := Qaj BU2 0 rfl; have uf2 := QaF BU2 0; have HU2 := Lib.hid BU2; clear ho hb hg hat BU2)
          go_roundg (t.f6.length + 1 - (i + 1))
          case measure => have := HKq.out; have := HI2.out; omega
          case rel => exact ⟨i + 1, _, by first | rfl | exact congrArg _ wrapI, Lib.hid rfl, Lib.hid HI2.out, HG2, Lib.hid (blk_put HU2.out 0 _ rfl), Lib.hid (by rw [HTk.out, List.map_append, List.map_cons, List.map_nil, HC.out]; exact Kd.R_far HO.out (p := ⟨w.heap.size + 1 + 1, 0, none⟩) (fun k hk => hk) _), Lib.hid (HBo.out.setCell (p := ⟨w.heap.size + 1 + 1, 0, none⟩) (by show w.heap.size + 2 ≤ w.heap.size + 1 + 1; omega) _)⟩
    · have d1 : decide ((i : Int) < (t.f6.length : Int)) = false := decide_eq_false (by omega)
      have d2 : decide (i < t.f6.length) = false := decide_eq_false hi
      have hil : i = t.f6.length := by have := HI.out; omega
      have hG := HG.out; have hR := HR.out; rw [hil, List.take_length] at hG hR; have HG := Lib.hid hG; obtain ⟨A9, c9, rfl, hc9, hC9⟩ := Kd.R_reads hR; have u1 := Qaj HU.out 0 (v := .slice A9 (t.f6.map (credOf m)).length c9) rfl; have bt := (HB.out.block _ (by omega)).trans HBT.out; have p4 := (tok_cells bt).2.2.2.2.1
      have HCn := Lib.hid (containsRol_calls wr A4 c4 (w.heap.size + 1 + 1) w.heap.size (t.f4.map roleV) (t.f4.map fun r => !hasF (t.f6.map (credOf m)) t.f3 r) (by rw [List.length_map, List.length_map]) (raw_roles (Kd.QaN G4.out.2 HW.out)) (by rw [List.length_map]; exact G4.out.1) (fun W hW k T y hT hy => by
        rw [List.getElem?_map] at hT hy; obtain ⟨r, hr, rfl⟩ := Option.map_eq_some_iff.mp hT; rw [hr] at hy; obtain rfl := Option.some.inj hy
        exact stands1_calls W _ _ _ A9 c9 t _ r (Qac HU.out hW) (Qac bt hW) (hT'.out.below (Qab HW.out hW)) (Kd.QaN hC9 hW) hc9 (by rw [List.length_map]; exact h20) (fun x hx => by obtain ⟨j, hj, rfl⟩ := List.mem_map.mp hx; exact HOK.out j hj)))
      rw [List.length_map, List.any_map] at HCn; have HSt := Lib.hid (stands_good (m := m) (t := t) (x := x) HG.out); clear hi hil hG hR hC9 hc9 bt
      go_wp2_with (go_at_call 33; refine HCn.out.mono ?_; rintro e w9 ⟨rfl, hb9⟩; have HB9 := Lib.hid hb9; clear hb9)
      go_ret; exact ⟨by rw [HSt.out]; rfl, Qab HW.out HB9.out⟩
section
open Go.ChangeMaps (setBlock)
abbrev evV (x : Evt) (A14 : Option Addr) (c14 : Nat) (A20 : Option Addr) (c20 : Nat) (A22 : Option Addr) (c22 : Nat) (A23 : Option Addr) (c23 : Nat) (A24 : Option Addr) (c24 : Nat) (A32 : Option Addr) (c32 : Nat) (A34 : Option Addr) (c34 : Nat) (A35 : Option Addr) (c35 : Nat) (A36 : Option Addr) (c36 : Nat) : Array Value := #[.int .i64 x.f0, .int .i64 x.f1, .int .i64 x.f2.f0, .int .i64 x.f2.f1.f0.f0, .int .i64 x.f2.f1.f0.f1, .string x.f2.f1.f1, .int .i64 x.f2.f1.f2, .string x.f2.f1.f3, .string x.f2.f1.f4.f0, .string x.f2.f1.f4.f1, .string x.f2.f1.f5.f0, .string x.f2.f1.f5.f1, .int .i64 x.f2.f2, .string x.f2.f3, .slice A14 x.f2.f4.length c14, .string x.f2.f5, .int .i64 x.f2.f6.f0, .int .i64 x.f2.f6.f1, .int .i64 x.f2.f6.f2, .string x.f2.f6.f3, .slice A20 x.f2.f6.f4.length c20, .int .i64 x.f2.f6.f5, .slice A22 x.f2.f6.f6.length c22, .slice A23 x.f2.f6.f7.length c23, .slice A24 x.f2.f6.f8.length c24, .int .i64 x.f2.f7, .int .i64 x.f3.f0, .int .i64 x.f3.f1, .int .i64 x.f3.f2.f0, .int .i64 x.f3.f2.f1, .int .i64 x.f3.f2.f2, .string x.f3.f2.f3, .slice A32 x.f3.f2.f4.length c32, .int .i64 x.f3.f2.f5, .slice A34 x.f3.f2.f6.length c34, .slice A35 x.f3.f2.f7.length c35, .slice A36 x.f3.f2.f8.length c36]
theorem EvA.form {w : World} {x : Evt} {E : Array Value} (h : EvA w x E) : ∃ A14 c14 A20 c20 A22 c22 A23 c23 A24 c24 A32 c32 A34 c34 A35 c35 A36 c36, E = evV x A14 c14 A20 c20 A22 c22 A23 c23 A24 c24 A32 c32 A34 c34 A35 c35 A36 c36 ∧ (x.f2.f4.length ≤ c14 ∧ k32.C w A14 x.f2.f4.length x.f2.f4) ∧ TokA w x.f2.f6 (tokV x.f2.f6 A20 c20 A22 c22 A23 c23 A24 c24) ∧ TokA w x.f3.f2 (tokV x.f3.f2 A32 c32 A34 c34 A35 c35 A36 c36) := by
  obtain ⟨l, rfl, hl⟩ := h.at_; obtain ⟨A14, c14, A20, c20, A22, c22, A23, c23, A24, c24, A32, c32, A34, c34, A35, c35, A36, c36, rfl, l14, g14, l20, g20, l22, g22, l23, g23, l24, g24, l32, g32, l34, g34, l35, g35, l36, g36⟩ := Qbb hl; exact ⟨A14, c14, A20, c20, A22, c22, A23, c23, A24, c24, A32, c32, A34, c34, A35, c35, A36, c36, rfl, ⟨l14, g14⟩, k40_mk _ _ l20 g20 l22 g22 l23 g23 l24 g24, k40_mk _ _ l32 g32 l34 g34 l35 g35 l36 g36⟩
def gaveC (x : Evt) : Cred := ⟨⟨x.f1, x.f3.f1⟩, x.f2.f1.f1, x.f2.f1.f2, x.f2.f1.f3, x.f2.f1.f4, x.f2.f1.f5⟩
def updI (g : Int → Int) (i c : Int) : Int → Int := fun j => if i = j then c else g j
def updG (g : ID → Option (Cred × Int)) (i : ID) (c : Cred × Int) : ID → Option (Cred × Int) := fun j => if i = j then some c else g j
noncomputable def addF (m : AM) (x : Evt) : Bool × AM := if x.f3.f1 ≤ m.last x.f1 ∨ credMay (gaveC x) = false then (false, m) else (true, { m with last := updI m.last x.f1 x.f3.f1, given := updG m.given ⟨x.f1, x.f3.f1⟩ (gaveC x, -1) })
def revokeF (m : AM) (x : Evt) : Bool × AM := match m.given ⟨x.f1, x.f2.f2⟩ with
  | none => (false, m)
  | some g => if 0 ≤ g.2 then (false, m) else (true, { m with given := updG m.given ⟨x.f1, x.f2.f2⟩ (g.1, x.f0) })
noncomputable def issueF (m : AM) (x : Evt) : Bool × AM := if x.f3.f2.f0 = x.f1 ∧ m.number x.f1 < x.f3.f2.f2 ∧ x.f3.f2.f3 = x.f2.f3 ∧ x.f3.f2.f4 = x.f2.f4 ∧ standsF m x.f3.f2 x = true then (true, { m with number := updI m.number x.f1 x.f3.f2.f2, issued := m.issued ++ [x.f3.f2] }) else (false, m)
noncomputable def verifyF (m : AM) (x : Evt) : Bool := if x.f2.f6.f0 = x.f1 ∧ (m.issued.any fun u => headB x.f2.f6 u) = true then (match x.f2.f4 with | [] => false | r :: _ => decide (r ∈ x.f2.f6.f4) && standsF m x.f2.f6 x) else true
def CRan (w0 : World) (c0 bg bl bn n : Nat) (m : AM) (w' : World) : Prop := ∃ v, CAt w0 w' c0 bg bl bn v n m
theorem small_maxA {n : Nat} (h : n ≤ 1000000) : n < maxLen := by
  have : maxLen = 9223372036854775807 := by decide
  omega
def GOk (m : AM) : Prop := ∀ i g, m.given i = some g → okCred g.1
theorem GOk.cred {m : AM} (h : GOk m) (i : ID) : okCred (credOf m i) := by
  unfold credOf
  cases e : m.given i with
  | none => exact ⟨by decide, by decide, ⟨by decide, by decide⟩, by decide, by decide⟩
  | some g => exact h i g e
theorem TokA.rows {w : World} {t : Tok} {A4 : Option Addr} {c4 : Nat} {A6 : Option Addr} {c6 : Nat} {A7 : Option Addr} {c7 : Nat} {A8 : Option Addr} {c8 : Nat} (h : TokA w t (tokV t A4 c4 A6 c6 A7 c7 A8 c8)) : (t.f4.length ≤ c4 ∧ k32.C w A4 t.f4.length t.f4) ∧ (t.f6.length ≤ c6 ∧ k30.C w A6 t.f6.length t.f6) := by
  obtain ⟨B4, d4, B6, d6, B7, d7, B8, d8, he, m4, h4, m6, h6, -⟩ := h.form; have e4 : some (Value.slice A4 t.f4.length c4) = some (Value.slice B4 t.f4.length d4) := congrArg (fun T : Array Value => T[4]?) he; have e6 : some (Value.slice A6 t.f6.length c6) = some (Value.slice B6 t.f6.length d6) := congrArg (fun T : Array Value => T[6]?) he
  injection e4 with e4
  injection e4 with a4 _ b4
  injection e6 with e6
  injection e6 with a6 _ b6
  subst a4 b4 a6 b6; exact ⟨⟨m4, h4⟩, m6, h6⟩
theorem addr_zeroA (a : Addr) : a.add 0 = a := by
  cases a; unfold Addr.add
  split <;> simp_all
structure EvOk (x : Evt) : Prop where
  t : okI x.f0
  d : okI x.f1
  s : okI x.f2.f2
  rs : okI x.f3.f1
  c : okCred x.f2.f1
  n1 : x.f2.f6.f6.length < 21
  n2 : x.f3.f2.f6.length < 21
  i1 : ∀ i ∈ x.f2.f6.f6, okID i
  i2 : ∀ i ∈ x.f3.f2.f6, okID i
theorem EvOk.gave {x : Evt} (h : EvOk x) : okCred (gaveC x) := h.c
theorem Qax {W : World} {b i : Nat} {O : Obj} (h : i ≠ b) : (setBlock W b O).heap[i]? = W.heap[i]? := by
  unfold setBlock; simp [Ne.symm h]
theorem size_setBlock (W : World) (b : Nat) (O : Obj) : (setBlock W b O).heap.size = W.heap.size := by simp [setBlock]
theorem below_setBlock {B : Nat} {w W : World} (h : Below B w W) {b : Nat} (hb : B ≤ b) (O : Obj) : Below B w (setBlock W b O) := ⟨h.os, h.tape, h.output, by rw [size_setBlock]; exact h.size, fun k hk => (Qax (by omega)).trans (h.block k hk)⟩
section
variable {w0 w : World} {c0 bg bl bn n : Nat} {v : Value} {m : AM}
theorem Qbj {w : World} {k b : Nat} {cs : Array Value} {ty : TypeId} {κ : Type} {enc : κ → Value} {ok : κ → Prop} {T : List (κ × Value)} (h : w.heap[k]? = some (.cells cs ty (0, 0))) (hT : Tbl enc ok w b T) : k ≠ b := by
  rintro rfl; obtain ⟨es, clock, hb, _⟩ := hT; rw [h] at hb; cases hb
theorem CAt.c_ne_l (h : CAt w0 w c0 bg bl bn v n m) : c0 ≠ bl := by
  obtain ⟨T, hT, _⟩ := h.l; exact Qbj h.blk hT
theorem CAt.c_ne_k (h : CAt w0 w c0 bg bl bn v n m) : c0 ≠ bn := by
  obtain ⟨T, hT, _⟩ := h.k; exact Qbj h.blk hT
theorem CAt.c_ne_g (h : CAt w0 w c0 bg bl bn v n m) : c0 ≠ bg := by
  obtain ⟨T, hT, _⟩ := h.g; exact Qbj h.blk hT
theorem CAt.v_ne (h : CAt w0 w c0 bg bl bn v n m) {k : Nat} (hk : v.ownBlock = some k) : k ≠ c0 ∧ k ≠ bg ∧ k ≠ bl ∧ k ≠ bn := by
  obtain ⟨_, _, cells, hc⟩ := h.t.lt hk; obtain ⟨T1, h1, _⟩ := h.g; obtain ⟨T2, h2, _⟩ := h.l; obtain ⟨T3, h3, _⟩ := h.k; refine ⟨?_, Qbj hc h1, Qbj hc h2, Qbj hc h3⟩; rintro rfl; have := Option.some.inj (hc.symm.trans h.blk)
  injection this with _ h3 _
  exact absurd h3 (by decide)
theorem CAt.putL (h : CAt w0 w c0 bg bl bn v n m) {i : Int} (hi : okI i) (c : Int) (hn : n < maxLen) :
    ∃ O, (∀ W : World, Below w.heap.size w W → (Instr.mapUpdate 52 (.map (some bl)) (.int .i64 i) (.int .i64 c)).run Tryd.prog W = .ok () (setBlock W bl O)) ∧ ∀ W : World, Below w.heap.size w W → CAt w0 (setBlock W bl O) c0 bg bl bn v (n + 1) { m with last := updI m.last i c } := by
  obtain ⟨O, hr, ht⟩ := h.l.put hi c hn; refine ⟨O, fun W hW => hr W (hW.block _ h.l.lt), fun W hW => ?_⟩; have h2 := (h.below hW).mono (Nat.le_succ n)
  exact { h2 with
    blk := (Qax h.c_ne_l).trans h2.blk
    g := h2.g.same (Qax h.gl)
    l := ht W h2.l.lt
    k := h2.k.same (Qax (Ne.symm h.ln))
    t := h2.t.same (fun k hk => Qax (h.v_ne hk).2.2.1)
    old := below_setBlock h2.old h.bll O }
theorem CAt.putK (h : CAt w0 w c0 bg bl bn v n m) {i : Int} (hi : okI i) (c : Int) (hn : n < maxLen) :
    ∃ O, (∀ W : World, Below w.heap.size w W → (Instr.mapUpdate 52 (.map (some bn)) (.int .i64 i) (.int .i64 c)).run Tryd.prog W = .ok () (setBlock W bn O)) ∧ ∀ W : World, Below w.heap.size w W → CAt w0 (setBlock W bn O) c0 bg bl bn v (n + 1) { m with number := updI m.number i c } := by
  obtain ⟨O, hr, ht⟩ := h.k.put hi c hn; refine ⟨O, fun W hW => hr W (hW.block _ h.k.lt), fun W hW => ?_⟩; have h2 := (h.below hW).mono (Nat.le_succ n)
  exact { h2 with
    blk := (Qax h.c_ne_k).trans h2.blk
    g := h2.g.same (Qax h.gn)
    l := h2.l.same (Qax h.ln)
    k := ht W h2.k.lt
    t := h2.t.same (fun k hk => Qax (h.v_ne hk).2.2.2)
    old := below_setBlock h2.old h.bnl O }
theorem CAt.putG (h : CAt w0 w c0 bg bl bn v n m) {i : ID} (hi : okID i) (c : Cred × Int) (hn : n < maxLen) :
    ∃ O, (∀ W : World, Below w.heap.size w W → (Instr.mapUpdate 51 (.map (some bg)) (encID i) (encG c)).run Tryd.prog W = .ok () (setBlock W bg O)) ∧ ∀ W : World, Below w.heap.size w W → CAt w0 (setBlock W bg O) c0 bg bl bn v (n + 1) { m with given := updG m.given i c } := by
  obtain ⟨O, hr, ht⟩ := h.g.put hi c hn; refine ⟨O, fun W hW => hr W (hW.block _ h.g.lt), fun W hW => ?_⟩; have h2 := (h.below hW).mono (Nat.le_succ n)
  exact { h2 with
    blk := (Qax h.c_ne_g).trans h2.blk
    g := ht W h2.g.lt
    l := h2.l.same (Qax (Ne.symm h.gl))
    k := h2.k.same (Qax (Ne.symm h.gn))
    t := h2.t.same (fun k hk => Qax (h.v_ne hk).2.1)
    old := below_setBlock h2.old h.bgl O }
theorem CAt.putI (h : CAt w0 w c0 bg bl bn v n m) {Ts : List (Array Value)} {T : Array Value} {t : Tok} (hn : Ts.length ≤ n) (hl : Ts.length = m.issued.length) (hTs : ∀ (i : Nat) (t : Tok) (T : Array Value), m.issued[i]? = some t → Ts[i]? = some T → TokA w0 t T) {w6 : World} {v6 : Value} (ho : Kd.R (kRaw 9) 40 w6 w0.heap.size (fun _ => True) v6 (Ts ++ [T])) (hg : w.grownBy w6 v.ownBlock) (hb : Below w0.heap.size w0 w6) (hT : TokA w0 t T) :
    w6.heap[c0]? = w.heap[c0]? ∧ CAt w0 (w6.setCell ⟨c0, 4, none⟩ v6) c0 bg bl bn v6 (n + 1) { m with issued := m.issued ++ [t] } := by
  have hc : w6.heap[c0]? = w.heap[c0]? := hg.block _ (QaP h.blk) (fun e => (h.v_ne e.symm).1 rfl); have hc6 := hc.trans h.blk
  have hne : ∀ k, v6.ownBlock = some k → k ≠ c0 := fun k hk e => by
    obtain ⟨cells, h1⟩ := Kd.R_typed ho k hk; rw [e, hc6] at h1; have := Option.some.inj h1
    injection this with _ h3 _
    exact absurd h3 (by decide)
  have hs (b : Nat) (h1 : b < w.heap.size) (h2 : b ≠ c0) (h3 : some b ≠ v.ownBlock) : (w6.setCell ⟨c0, 4, none⟩ v6).heap[b]? = w.heap[b]? := (Below.heap_setCell _ _ _ b h2).trans (hg.block _ h1 h3)
  refine ⟨hc, { h with
    blk := blk_put hc6 4 v6 rfl
    g := (h.g.same (hs bg h.g.lt (Ne.symm h.c_ne_g) (fun e => (h.v_ne e.symm).2.1 rfl))).mono (Nat.le_succ n)
    l := (h.l.same (hs bl h.l.lt (Ne.symm h.c_ne_l) (fun e => (h.v_ne e.symm).2.2.1 rfl))).mono (Nat.le_succ n)
    k := (h.k.same (hs bn h.k.lt (Ne.symm h.c_ne_k) (fun e => (h.v_ne e.symm).2.2.2 rfl))).mono (Nat.le_succ n)
    t := ?_
    old := hb.setCell (p := ⟨c0, 4, none⟩) h.c0l _ }⟩
  refine TRows.same (w := w6) ⟨Ts ++ [T], ho, by rw [List.length_append]; exact Nat.succ_le_succ hn, by rw [List.length_append, List.length_append, hl]; rfl, fun i u U hu hU => ?_⟩ (fun k hk => Below.heap_setCell _ _ _ k (hne k hk))
  by_cases hi : i < Ts.length
  · rw [List.getElem?_append_left (by omega)] at hu hU
    exact hTs i u U hu hU
  · rw [List.getElem?_append_right (by omega)] at hu hU
    rw [hl] at hU
    cases hz : i - m.issued.length with
    | zero =>
      rw [hz] at hu hU; obtain rfl := Option.some.inj hu; obtain rfl := Option.some.inj hU; exact hT
    | succ j =>
      rw [hz] at hu; simp at hu
end
theorem made2 {w W : World} {C1 C2 : Array Value} {t1 t2 : TypeId} (h : (w.alloc (.cells C1 t1)).alloc (.cells C2 t2) = W) : W.heap[w.heap.size]? = some (.cells C1 t1 (0, 0)) ∧ W.heap[w.heap.size + 1]? = some (.cells C2 t2 (0, 0)) ∧ Below w.heap.size w W := by
  subst h; have z1 : (w.alloc (.cells C1 t1)).heap.size = w.heap.size + 1 := Array.size_push _; refine ⟨Qav (Qau w _) _, ?_, Qad (Qad (Below.refl _ _) _) _⟩; have := Qau (w.alloc (.cells C1 t1)) (.cells C2 t2); rw [z1] at this; exact this
theorem cred_cells {w : World} {b : Nat} {c : Cred} {ty : TypeId} (h : w.heap[b]? = some (.cells (credV c) ty (0, 0))) : w.cell? ⟨b, 0, none⟩ = some (.int .i64 c.f0.f0) ∧ w.cell? ⟨b, 1, none⟩ = some (.int .i64 c.f0.f1) ∧ w.cell? ⟨b, 2, none⟩ = some (.string c.f1) ∧ w.cell? ⟨b, 3, none⟩ = some (.int .i64 c.f2) ∧ w.cell? ⟨b, 4, none⟩ = some (.string c.f3) ∧ w.cell? ⟨b, 5, none⟩ = some (.string c.f4.f0) ∧ w.cell? ⟨b, 6, none⟩ = some (.string c.f4.f1) ∧ w.cell? ⟨b, 7, none⟩ = some (.string c.f5.f0) ∧ w.cell? ⟨b, 8, none⟩ = some (.string c.f5.f1) :=
  ⟨(Qaf h 0).trans rfl, (Qaf h 1).trans rfl, (Qaf h 2).trans rfl, (Qaf h 3).trans rfl, (Qaf h 4).trans rfl, (Qaf h 5).trans rfl, (Qaf h 6).trans rfl, (Qaf h 7).trans rfl, (Qaf h 8).trans rfl⟩
end
section
open Go.RowKit Go.ChangeShapes Go.WideShapes Go.Proofs.YtbjjonpkmplhbaaDoorW.PrintWords Go.Proofs.YtbjjonpkmplhbaaDoorW.PrintLast Go.Proofs.YtbjjonpkmplhbaaDoorW.PrintMore
def At {α : Type} (w : World) (d : Kd α) (Q : α → Prop) (cs : List Value) : Prop := ∃ a, d.K w a cs ∧ Q a
section
variable {α β : Type} {w : World} {d0 : Kd α} {d1 : Kd β} {Q0 : α → Prop} {Q1 : β → Prop} {cs : List Value}
theorem At.pairAt {o s : Nat} (h0 : At w d0 Q0 ((cs.drop o).take s)) (h1 : At w d1 Q1 (cs.drop (o + s))) : At w (Kd.pair d0 d1) (fun p => Q0 p.1 ∧ Q1 p.2) (cs.drop o) := by
  obtain ⟨a, ka, qa⟩ := h0; obtain ⟨b, kb, qb⟩ := h1; refine ⟨(a, b), ⟨(cs.drop o).take s, cs.drop (o + s), ?_, ka, kb⟩, qa, qb⟩; rw [← List.drop_drop, List.take_append_drop]
theorem At.last {o s : Nat} (h0 : At w d0 Q0 ((cs.drop o).take s)) (hl : cs.length = o + s) : At w d0 Q0 (cs.drop o) := by
  rw [List.take_of_length_le (by rw [List.length_drop]; omega)] at h0; exact h0
theorem At.iso {f : β → α} (g : α → β) (hg : ∀ p, f (g p) = p) (h : At w d0 Q0 cs) : At w (Kd.iso d0 f) (fun x => Q0 (f x)) cs := by
  obtain ⟨a, ka, qa⟩ := h; exact ⟨g a, by show d0.K w (f (g a)) cs; rw [hg]; exact ka, by show Q0 (f (g a)); rw [hg]; exact qa⟩
theorem At.imp {Q : α → Prop} (h : At w d0 Q0 cs) (hi : ∀ a, Q0 a → Q a) : At w d0 Q cs := by
  obtain ⟨a, ka, qa⟩ := h; exact ⟨a, ka, hi a qa⟩
end
section
variable {H : Type} {enc : TypeId × Value → H} {P : Program} {w : World} {base : Nat} {spare : Nat → Bool} {held : Bool}
theorem at_int {t : TypeId} {n : Nat} {cs : List Value} (ht : P.underlying t = some (.int .i64)) (h : ∃ y, DataW.trod enc P w base spare held n t cs = some y) : At w (Kd.int .i64) okI cs := by
  obtain ⟨y, h⟩ := h; obtain ⟨s, e, _, z⟩ := DataW.trod_int ht h; exact ⟨s, e, z⟩
theorem at_str {t : TypeId} {n : Nat} {cs : List Value} (ht : P.underlying t = some .string) (h : ∃ y, DataW.trod enc P w base spare held n t cs = some y) : At w Kd.string (fun s => s.size ≤ maxLen) cs := by
  obtain ⟨y, h⟩ := h; obtain ⟨s, e, _, z⟩ := DataW.trod_string ht h; exact ⟨s, e, z⟩
theorem at_rows {α : Type} {d : Kd α} {Q : α → Prop} {t e : TypeId} {n : Nat} {cs : List Value} (ht : P.underlying t = some (.slice e)) (hc : P.cellsOf e = d.sz) (ho : Opens P e d Q) (h : ∃ y, DataW.trod enc P w base spare held n t cs = some y) : At w (Kd.slice e d) (fun l => ∀ y ∈ l, Q y) cs := by
  obtain ⟨y, h⟩ := h
  rcases DataW.trod_slice ht h with ⟨rfl, _⟩ | ⟨a', len', cap', elems, rest, m, _, rfl, _, hb, hl, hm, hlen, hel, _, _⟩
  · exact ⟨[], ⟨none, 0, rfl, Nat.le_refl _, rfl, Nat.zero_le _, fun h => absurd h (Nat.lt_irrefl _)⟩, fun y hy => by cases hy⟩
  · obtain ⟨xs, e1, e2, e3, e4⟩ := open_row ht hc ho h
    exact ⟨xs, ⟨_, _, by rw [e1], e3, e2⟩, e4⟩
theorem opens_u8 {t : TypeId} (ht : P.underlying t = some (.int .u8)) : Opens P t (Kd.int .u8) (fun _ => True) := by
  intro H enc w base spare held fuel cs x h; obtain ⟨s, e, _, z⟩ := DataW.trod_int ht h; exact ⟨s, e, trivial⟩
end
def okRole0 (r : Role) : Prop := r.f0.size ≤ maxLen ∧ r.f1.size ≤ maxLen
theorem opens_ID : Opens Tryd.prog 30 k30 okID := by
  intro H enc w base spare held fuel cs x h; obtain ⟨hl, n, hf⟩ := field_at Tryd.underlying30 h; rw [Tryd.cellsID] at hl; obtain ⟨y0, h0⟩ : ∃ y, DataW.trod enc Tryd.prog w base spare held n 3 ((cs.drop 0).take (Tryd.prog.cellsOf 3)) = some y := hf 0 _ rfl; obtain ⟨y1, h1⟩ : ∃ y, DataW.trod enc Tryd.prog w base spare held n 3 ((cs.drop 1).take (Tryd.prog.cellsOf 3)) = some y := hf 1 _ rfl; rw [Tryd.cellsInt] at h0 h1; obtain ⟨c0, c1, rfl⟩ := list2 hl; obtain ⟨s0, e0, _, z0⟩ := DataW.trod_int Tryd.underlying3 h0; obtain ⟨s1, e1, _, z1⟩ := DataW.trod_int Tryd.underlying3 h1
  obtain rfl : c0 = .int .i64 s0 := by simpa using e0
  obtain rfl : c1 = .int .i64 s1 := by simpa using e1
  exact ⟨⟨s0, s1⟩, k30_mk w ⟨s0, s1⟩, z0, z1⟩
def okCaveat (c : S61) : Prop := True
def okToken (t : S40) : Prop := ∀ i ∈ t.f6, okID i
def okCall (c : S42) : Prop := okCred c.f1 ∧ okI c.f2 ∧ okToken c.f6
def okReply (r : S44) : Prop := okI r.f1 ∧ okToken r.f2
def okEvent (x : S46) : Prop := okI x.f0 ∧ okI x.f1 ∧ okCall x.f2 ∧ okReply x.f3
theorem Tryd.cellsEvent : Tryd.prog.cellsOf 46 = 37 := by kernel_rfl
theorem opens_Caveat : Opens Tryd.prog 61 k61 okCaveat := by
  intro H enc w base spare held fuel cs x h; obtain ⟨hl, n, hf⟩ := field_at Tryd.underlying61 h; rw [show Tryd.prog.cellsOf 61 = 4 from by kernel_rfl] at hl; have h0 : ∃ y, DataW.trod enc Tryd.prog w base spare held n 3 ((cs.drop 0).take (Tryd.prog.cellsOf 3)) = some y := hf 0 _ rfl; rw [show Tryd.prog.cellsOf 3 = 1 from by kernel_rfl] at h0; have a0 := at_int Tryd.underlying3 h0; have h1 : ∃ y, DataW.trod enc Tryd.prog w base spare held n 35 ((cs.drop 1).take (Tryd.prog.cellsOf 35)) = some y := hf 1 _ rfl; rw [show Tryd.prog.cellsOf 35 = 1 from by kernel_rfl] at h1; have a1 := at_rows (Q := okRole0) Tryd.underlying35 (by kernel_rfl) opens_role h1; have h2 : ∃ y, DataW.trod enc Tryd.prog w base spare held n 3 ((cs.drop 2).take (Tryd.prog.cellsOf 3)) = some y := hf 2 _ rfl; rw [show Tryd.prog.cellsOf 3 = 1 from by kernel_rfl] at h2; have a2 := at_int Tryd.underlying3 h2; have h3 : ∃ y, DataW.trod enc Tryd.prog w base spare held n 9 ((cs.drop 3).take (Tryd.prog.cellsOf 9)) = some y := hf 3 _ rfl; rw [show Tryd.prog.cellsOf 9 = 1 from by kernel_rfl] at h3; have a3 := at_str Tryd.underlying9 h3; refine At.imp (At.iso (fun p => ⟨p.1, p.2.1, p.2.2.1, p.2.2.2⟩) (fun _ => rfl) (At.pairAt (o := 0) (s := 1) a0 (At.pairAt (o := 1) (s := 1) a1 (At.pairAt (o := 2) (s := 1) a2 (At.last (o := 3) (s := 1) a3 hl))))) (fun _ _ => trivial)
theorem opens_Token : Opens Tryd.prog 40 k40 okToken := by
  intro H enc w base spare held fuel cs x h; obtain ⟨hl, n, hf⟩ := field_at Tryd.underlying40 h; rw [show Tryd.prog.cellsOf 40 = 9 from by kernel_rfl] at hl; have h0 : ∃ y, DataW.trod enc Tryd.prog w base spare held n 3 ((cs.drop 0).take (Tryd.prog.cellsOf 3)) = some y := hf 0 _ rfl; rw [show Tryd.prog.cellsOf 3 = 1 from by kernel_rfl] at h0; have a0 := at_int Tryd.underlying3 h0; have h1 : ∃ y, DataW.trod enc Tryd.prog w base spare held n 3 ((cs.drop 1).take (Tryd.prog.cellsOf 3)) = some y := hf 1 _ rfl; rw [show Tryd.prog.cellsOf 3 = 1 from by kernel_rfl] at h1; have a1 := at_int Tryd.underlying3 h1; have h2 : ∃ y, DataW.trod enc Tryd.prog w base spare held n 3 ((cs.drop 2).take (Tryd.prog.cellsOf 3)) = some y := hf 2 _ rfl; rw [show Tryd.prog.cellsOf 3 = 1 from by kernel_rfl] at h2; have a2 := at_int Tryd.underlying3 h2; have h3 : ∃ y, DataW.trod enc Tryd.prog w base spare held n 9 ((cs.drop 3).take (Tryd.prog.cellsOf 9)) = some y := hf 3 _ rfl; rw [show Tryd.prog.cellsOf 9 = 1 from by kernel_rfl] at h3; have a3 := at_str Tryd.underlying9 h3; have h4 : ∃ y, DataW.trod enc Tryd.prog w base spare held n 35 ((cs.drop 4).take (Tryd.prog.cellsOf 35)) = some y := hf 4 _ rfl; rw [show Tryd.prog.cellsOf 35 = 1 from by kernel_rfl] at h4; have a4 := at_rows (Q := okRole0) Tryd.underlying35 (by kernel_rfl) opens_role h4; have h5 : ∃ y, DataW.trod enc Tryd.prog w base spare held n 3 ((cs.drop 5).take (Tryd.prog.cellsOf 3)) = some y := hf 5 _ rfl; rw [show Tryd.prog.cellsOf 3 = 1 from by kernel_rfl] at h5
  have a5 := at_int Tryd.underlying3 h5; have h6 : ∃ y, DataW.trod enc Tryd.prog w base spare held n 36 ((cs.drop 6).take (Tryd.prog.cellsOf 36)) = some y := hf 6 _ rfl; rw [show Tryd.prog.cellsOf 36 = 1 from by kernel_rfl] at h6; have a6 := at_rows (Q := okID) Tryd.underlying36 (by kernel_rfl) opens_ID h6; have h7 : ∃ y, DataW.trod enc Tryd.prog w base spare held n 37 ((cs.drop 7).take (Tryd.prog.cellsOf 37)) = some y := hf 7 _ rfl; rw [show Tryd.prog.cellsOf 37 = 1 from by kernel_rfl] at h7; have a7 := at_rows (Q := okCaveat) Tryd.underlying37 (by kernel_rfl) opens_Caveat h7; have h8 : ∃ y, DataW.trod enc Tryd.prog w base spare held n 38 ((cs.drop 8).take (Tryd.prog.cellsOf 38)) = some y := hf 8 _ rfl; rw [show Tryd.prog.cellsOf 38 = 1 from by kernel_rfl] at h8; have a8 := at_rows Tryd.underlying38 (by kernel_rfl) (opens_u8 Tryd.underlying5) h8; refine At.imp (At.iso (fun p => ⟨p.1, p.2.1, p.2.2.1, p.2.2.2.1, p.2.2.2.2.1, p.2.2.2.2.2.1, p.2.2.2.2.2.2.1, p.2.2.2.2.2.2.2.1, p.2.2.2.2.2.2.2.2⟩) (fun _ => rfl) (At.pairAt (o := 0) (s := 1) a0 (At.pairAt (o := 1) (s := 1) a1 (At.pairAt (o := 2) (s := 1) a2 (At.pairAt (o := 3) (s := 1) a3 (At.pairAt (o := 4) (s := 1) a4 (At.pairAt (o := 5) (s := 1) a5 (At.pairAt (o := 6) (s := 1) a6 (At.pairAt (o := 7) (s := 1) a7 (At.last (o := 8) (s := 1) a8 hl)))))))))) (fun x h => h.2.2.2.2.2.2.1)
theorem opens_Call : Opens Tryd.prog 42 k42 okCall := by
  intro H enc w base spare held fuel cs x h; obtain ⟨hl, n, hf⟩ := field_at Tryd.underlying42 h; rw [show Tryd.prog.cellsOf 42 = 24 from by kernel_rfl] at hl; have h0 : ∃ y, DataW.trod enc Tryd.prog w base spare held n 3 ((cs.drop 0).take (Tryd.prog.cellsOf 3)) = some y := hf 0 _ rfl; rw [show Tryd.prog.cellsOf 3 = 1 from by kernel_rfl] at h0; have a0 := at_int Tryd.underlying3 h0; have h1 : ∃ y, DataW.trod enc Tryd.prog w base spare held n 34 ((cs.drop 1).take (Tryd.prog.cellsOf 34)) = some y := hf 1 _ rfl; rw [show Tryd.prog.cellsOf 34 = 9 from by kernel_rfl] at h1
  have a1 := (show At w k34 okCred _ from by obtain ⟨y, hy⟩ := h1; exact opens_cred _ _ _ _ _ _ _ _ _ hy)
  have h2 : ∃ y, DataW.trod enc Tryd.prog w base spare held n 3 ((cs.drop 10).take (Tryd.prog.cellsOf 3)) = some y := hf 2 _ rfl; rw [show Tryd.prog.cellsOf 3 = 1 from by kernel_rfl] at h2; have a2 := at_int Tryd.underlying3 h2; have h3 : ∃ y, DataW.trod enc Tryd.prog w base spare held n 9 ((cs.drop 11).take (Tryd.prog.cellsOf 9)) = some y := hf 3 _ rfl; rw [show Tryd.prog.cellsOf 9 = 1 from by kernel_rfl] at h3; have a3 := at_str Tryd.underlying9 h3; have h4 : ∃ y, DataW.trod enc Tryd.prog w base spare held n 35 ((cs.drop 12).take (Tryd.prog.cellsOf 35)) = some y := hf 4 _ rfl; rw [show Tryd.prog.cellsOf 35 = 1 from by kernel_rfl] at h4; have a4 := at_rows (Q := okRole0) Tryd.underlying35 (by kernel_rfl) opens_role h4; have h5 : ∃ y, DataW.trod enc Tryd.prog w base spare held n 9 ((cs.drop 13).take (Tryd.prog.cellsOf 9)) = some y := hf 5 _ rfl; rw [show Tryd.prog.cellsOf 9 = 1 from by kernel_rfl] at h5; have a5 := at_str Tryd.underlying9 h5; have h6 : ∃ y, DataW.trod enc Tryd.prog w base spare held n 40 ((cs.drop 14).take (Tryd.prog.cellsOf 40)) = some y := hf 6 _ rfl; rw [show Tryd.prog.cellsOf 40 = 9 from by kernel_rfl] at h6
  have a6 := (show At w k40 okToken _ from by obtain ⟨y, hy⟩ := h6; exact opens_Token _ _ _ _ _ _ _ _ _ hy)
  have h7 : ∃ y, DataW.trod enc Tryd.prog w base spare held n 3 ((cs.drop 23).take (Tryd.prog.cellsOf 3)) = some y := hf 7 _ rfl; rw [show Tryd.prog.cellsOf 3 = 1 from by kernel_rfl] at h7; have a7 := at_int Tryd.underlying3 h7; refine At.imp (At.iso (fun p => ⟨p.1, p.2.1, p.2.2.1, p.2.2.2.1, p.2.2.2.2.1, p.2.2.2.2.2.1, p.2.2.2.2.2.2.1, p.2.2.2.2.2.2.2⟩) (fun _ => rfl) (At.pairAt (o := 0) (s := 1) a0 (At.pairAt (o := 1) (s := 9) a1 (At.pairAt (o := 10) (s := 1) a2 (At.pairAt (o := 11) (s := 1) a3 (At.pairAt (o := 12) (s := 1) a4 (At.pairAt (o := 13) (s := 1) a5 (At.pairAt (o := 14) (s := 9) a6 (At.last (o := 23) (s := 1) a7 hl))))))))) (fun x h => ⟨h.2.1, h.2.2.1, h.2.2.2.2.2.2.1⟩)
theorem opens_Reply : Opens Tryd.prog 44 k44 okReply := by
  intro H enc w base spare held fuel cs x h; obtain ⟨hl, n, hf⟩ := field_at Tryd.underlying44 h; rw [show Tryd.prog.cellsOf 44 = 11 from by kernel_rfl] at hl; have h0 : ∃ y, DataW.trod enc Tryd.prog w base spare held n 24 ((cs.drop 0).take (Tryd.prog.cellsOf 24)) = some y := hf 0 _ rfl; rw [show Tryd.prog.cellsOf 24 = 1 from by kernel_rfl] at h0; have a0 := at_int Tryd.underlying24 h0; have h1 : ∃ y, DataW.trod enc Tryd.prog w base spare held n 3 ((cs.drop 1).take (Tryd.prog.cellsOf 3)) = some y := hf 1 _ rfl; rw [show Tryd.prog.cellsOf 3 = 1 from by kernel_rfl] at h1; have a1 := at_int Tryd.underlying3 h1; have h2 : ∃ y, DataW.trod enc Tryd.prog w base spare held n 40 ((cs.drop 2).take (Tryd.prog.cellsOf 40)) = some y := hf 2 _ rfl; rw [show Tryd.prog.cellsOf 40 = 9 from by kernel_rfl] at h2
  have a2 := (show At w k40 okToken _ from by obtain ⟨y, hy⟩ := h2; exact opens_Token _ _ _ _ _ _ _ _ _ hy)
  refine At.imp (At.iso (fun p => ⟨p.1, p.2.1, p.2.2⟩) (fun _ => rfl) (At.pairAt (o := 0) (s := 1) a0 (At.pairAt (o := 1) (s := 1) a1 (At.last (o := 2) (s := 9) a2 hl)))) (fun x h => ⟨h.2.1, h.2.2⟩)
theorem opens_Event : Opens Tryd.prog 46 k46 okEvent := by
  intro H enc w base spare held fuel cs x h; obtain ⟨hl, n, hf⟩ := field_at Tryd.underlying46 h; rw [show Tryd.prog.cellsOf 46 = 37 from by kernel_rfl] at hl; have h0 : ∃ y, DataW.trod enc Tryd.prog w base spare held n 3 ((cs.drop 0).take (Tryd.prog.cellsOf 3)) = some y := hf 0 _ rfl; rw [show Tryd.prog.cellsOf 3 = 1 from by kernel_rfl] at h0; have a0 := at_int Tryd.underlying3 h0; have h1 : ∃ y, DataW.trod enc Tryd.prog w base spare held n 3 ((cs.drop 1).take (Tryd.prog.cellsOf 3)) = some y := hf 1 _ rfl; rw [show Tryd.prog.cellsOf 3 = 1 from by kernel_rfl] at h1; have a1 := at_int Tryd.underlying3 h1; have h2 : ∃ y, DataW.trod enc Tryd.prog w base spare held n 42 ((cs.drop 2).take (Tryd.prog.cellsOf 42)) = some y := hf 2 _ rfl; rw [show Tryd.prog.cellsOf 42 = 24 from by kernel_rfl] at h2
  have a2 := (show At w k42 okCall _ from by obtain ⟨y, hy⟩ := h2; exact opens_Call _ _ _ _ _ _ _ _ _ hy)
  have h3 : ∃ y, DataW.trod enc Tryd.prog w base spare held n 44 ((cs.drop 26).take (Tryd.prog.cellsOf 44)) = some y := hf 3 _ rfl; rw [show Tryd.prog.cellsOf 44 = 11 from by kernel_rfl] at h3
  have a3 := (show At w k44 okReply _ from by obtain ⟨y, hy⟩ := h3; exact opens_Reply _ _ _ _ _ _ _ _ _ hy)
  refine At.imp (At.iso (fun p => ⟨p.1, p.2.1, p.2.2.1, p.2.2.2⟩) (fun _ => rfl) (At.pairAt (o := 0) (s := 1) a0 (At.pairAt (o := 1) (s := 1) a1 (At.pairAt (o := 2) (s := 24) a2 (At.last (o := 26) (s := 11) a3 hl))))) (fun x h => ⟨h.1, h.2.1, h.2.2.1, h.2.2.2⟩)
end
theorem k61_openF {W : World} {ok : Nat → Prop} {x : S61} {cs : List Value} (h : Kd.FK k61 W ok x cs) : ∃ A1 c1, cs = [.int .i64 x.f0, .slice A1 x.f1.length c1, .int .i64 x.f2, .string x.f3] ∧ x.f1.length ≤ c1 ∧ Kd.F k32 W ok A1 x.f1.length x.f1 := by
  obtain ⟨A1, c1, rfl, l1, _⟩ := k61_open (Kd.FK_now h); exact ⟨A1, c1, rfl, l1, (fun W' hW => by obtain ⟨A1_, c1_, he, l1_, g1_⟩ := k61_open (h W' hW); injection (Option.some.inj (show some (Value.slice A1 x.f1.length c1) = some (Value.slice A1_ x.f1.length c1_) from congrArg (fun l => l[1]?) he)) with ha_ _ _; rw [ha_]; exact g1_)⟩
theorem k61_mkF (W : World) (ok : Nat → Prop) (x : S61) {A1 : Option Addr} {c1 : Nat} (l1 : x.f1.length ≤ c1) (g1 : Kd.F k32 W ok A1 x.f1.length x.f1) : Kd.FK k61 W ok x [.int .i64 x.f0, .slice A1 x.f1.length c1, .int .i64 x.f2, .string x.f3] := fun W2 hW => k61_mk W2 x l1 (g1 W2 hW)
theorem k40_openF {W : World} {ok : Nat → Prop} {x : S40} {cs : List Value} (h : Kd.FK k40 W ok x cs) : ∃ A4 c4 A6 c6 A7 c7 A8 c8, cs = [.int .i64 x.f0, .int .i64 x.f1, .int .i64 x.f2, .string x.f3, .slice A4 x.f4.length c4, .int .i64 x.f5, .slice A6 x.f6.length c6, .slice A7 x.f7.length c7, .slice A8 x.f8.length c8] ∧ x.f4.length ≤ c4 ∧ Kd.F k32 W ok A4 x.f4.length x.f4 ∧ x.f6.length ≤ c6 ∧ Kd.F k30 W ok A6 x.f6.length x.f6 ∧ x.f7.length ≤ c7 ∧ Kd.F k61 W ok A7 x.f7.length x.f7 ∧ x.f8.length ≤ c8 ∧ Kd.F (Kd.int .u8) W ok A8 x.f8.length x.f8 := by
  obtain ⟨A4, c4, A6, c6, A7, c7, A8, c8, rfl, l4, _, l6, _, l7, _, l8, _⟩ := k40_open (Kd.FK_now h); exact ⟨A4, c4, A6, c6, A7, c7, A8, c8, rfl, l4, (fun W' hW => by obtain ⟨A4_, c4_, A6_, c6_, A7_, c7_, A8_, c8_, he, l4_, g4_, l6_, g6_, l7_, g7_, l8_, g8_⟩ := k40_open (h W' hW); injection (Option.some.inj (show some (Value.slice A4 x.f4.length c4) = some (Value.slice A4_ x.f4.length c4_) from congrArg (fun l => l[4]?) he)) with ha_ _ _; rw [ha_]; exact g4_), l6, (fun W' hW => by obtain ⟨A4_, c4_, A6_, c6_, A7_, c7_, A8_, c8_, he, l4_, g4_, l6_, g6_, l7_, g7_, l8_, g8_⟩ := k40_open (h W' hW); injection (Option.some.inj (show some (Value.slice A6 x.f6.length c6) = some (Value.slice A6_ x.f6.length c6_) from congrArg (fun l => l[6]?) he)) with ha_ _ _; rw [ha_]; exact g6_), l7, (fun W' hW => by obtain ⟨A4_, c4_, A6_, c6_, A7_, c7_, A8_, c8_, he, l4_, g4_, l6_, g6_, l7_, g7_, l8_, g8_⟩ := k40_open (h W' hW); injection (Option.some.inj (show some (Value.slice A7 x.f7.length c7) = some (Value.slice A7_ x.f7.length c7_) from congrArg (fun l => l[7]?) he)) with ha_ _ _; rw [ha_]; exact g7_), l8, (fun W' hW => by obtain ⟨A4_, c4_, A6_, c6_, A7_, c7_, A8_, c8_, he, l4_, g4_, l6_, g6_, l7_, g7_, l8_, g8_⟩ := k40_open (h W' hW); injection (Option.some.inj (show some (Value.slice A8 x.f8.length c8) = some (Value.slice A8_ x.f8.length c8_) from congrArg (fun l => l[8]?) he)) with ha_ _ _; rw [ha_]; exact g8_)⟩
theorem k40_mkF (W : World) (ok : Nat → Prop) (x : S40) {A4 : Option Addr} {c4 : Nat} (l4 : x.f4.length ≤ c4) (g4 : Kd.F k32 W ok A4 x.f4.length x.f4) {A6 : Option Addr} {c6 : Nat} (l6 : x.f6.length ≤ c6) (g6 : Kd.F k30 W ok A6 x.f6.length x.f6) {A7 : Option Addr} {c7 : Nat} (l7 : x.f7.length ≤ c7) (g7 : Kd.F k61 W ok A7 x.f7.length x.f7) {A8 : Option Addr} {c8 : Nat} (l8 : x.f8.length ≤ c8) (g8 : Kd.F (Kd.int .u8) W ok A8 x.f8.length x.f8) : Kd.FK k40 W ok x [.int .i64 x.f0, .int .i64 x.f1, .int .i64 x.f2, .string x.f3, .slice A4 x.f4.length c4, .int .i64 x.f5, .slice A6 x.f6.length c6, .slice A7 x.f7.length c7, .slice A8 x.f8.length c8] := fun W2 hW => k40_mk W2 x l4 (g4 W2 hW) l6 (g6 W2 hW) l7 (g7 W2 hW) l8 (g8 W2 hW)
theorem k46_openF {W : World} {ok : Nat → Prop} {x : S46} {cs : List Value} (h : Kd.FK k46 W ok x cs) : ∃ A14 c14 A20 c20 A22 c22 A23 c23 A24 c24 A32 c32 A34 c34 A35 c35 A36 c36, cs = [.int .i64 x.f0, .int .i64 x.f1, .int .i64 x.f2.f0, .int .i64 x.f2.f1.f0.f0, .int .i64 x.f2.f1.f0.f1, .string x.f2.f1.f1, .int .i64 x.f2.f1.f2, .string x.f2.f1.f3, .string x.f2.f1.f4.f0, .string x.f2.f1.f4.f1, .string x.f2.f1.f5.f0, .string x.f2.f1.f5.f1, .int .i64 x.f2.f2, .string x.f2.f3, .slice A14 x.f2.f4.length c14, .string x.f2.f5, .int .i64 x.f2.f6.f0, .int .i64 x.f2.f6.f1, .int .i64 x.f2.f6.f2, .string x.f2.f6.f3, .slice A20 x.f2.f6.f4.length c20, .int .i64 x.f2.f6.f5, .slice A22 x.f2.f6.f6.length c22, .slice A23 x.f2.f6.f7.length c23, .slice A24 x.f2.f6.f8.length c24, .int .i64 x.f2.f7, .int .i64 x.f3.f0, .int .i64 x.f3.f1, .int .i64 x.f3.f2.f0, .int .i64 x.f3.f2.f1, .int .i64 x.f3.f2.f2, .string x.f3.f2.f3, .slice A32 x.f3.f2.f4.length c32, .int .i64 x.f3.f2.f5, .slice A34 x.f3.f2.f6.length c34, .slice A35 x.f3.f2.f7.length c35, .slice A36 x.f3.f2.f8.length c36] ∧ x.f2.f4.length ≤ c14 ∧ Kd.F k32 W ok A14 x.f2.f4.length x.f2.f4 ∧ x.f2.f6.f4.length ≤ c20 ∧ Kd.F k32 W ok A20 x.f2.f6.f4.length x.f2.f6.f4 ∧ x.f2.f6.f6.length ≤ c22 ∧ Kd.F k30 W ok A22 x.f2.f6.f6.length x.f2.f6.f6 ∧ x.f2.f6.f7.length ≤ c23 ∧ Kd.F k61 W ok A23 x.f2.f6.f7.length x.f2.f6.f7 ∧ x.f2.f6.f8.length ≤ c24 ∧ Kd.F (Kd.int .u8) W ok A24 x.f2.f6.f8.length x.f2.f6.f8 ∧ x.f3.f2.f4.length ≤ c32 ∧ Kd.F k32 W ok A32 x.f3.f2.f4.length x.f3.f2.f4 ∧ x.f3.f2.f6.length ≤ c34 ∧ Kd.F k30 W ok A34 x.f3.f2.f6.length x.f3.f2.f6 ∧ x.f3.f2.f7.length ≤ c35 ∧ Kd.F k61 W ok A35 x.f3.f2.f7.length x.f3.f2.f7 ∧ x.f3.f2.f8.length ≤ c36 ∧ Kd.F (Kd.int .u8) W ok A36 x.f3.f2.f8.length x.f3.f2.f8 := by
  obtain ⟨A14, c14, A20, c20, A22, c22, A23, c23, A24, c24, A32, c32, A34, c34, A35, c35, A36, c36, rfl, l14, _, l20, _, l22, _, l23, _, l24, _, l32, _, l34, _, l35, _, l36, _⟩ := Qbb (Kd.FK_now h); exact ⟨A14, c14, A20, c20, A22, c22, A23, c23, A24, c24, A32, c32, A34, c34, A35, c35, A36, c36, rfl, l14, (fun W' hW => by obtain ⟨A14_, c14_, A20_, c20_, A22_, c22_, A23_, c23_, A24_, c24_, A32_, c32_, A34_, c34_, A35_, c35_, A36_, c36_, he, l14_, g14_, l20_, g20_, l22_, g22_, l23_, g23_, l24_, g24_, l32_, g32_, l34_, g34_, l35_, g35_, l36_, g36_⟩ := Qbb (h W' hW); injection (Option.some.inj (show some (Value.slice A14 x.f2.f4.length c14) = some (Value.slice A14_ x.f2.f4.length c14_) from congrArg (fun l => l[14]?) he)) with ha_ _ _; rw [ha_]; exact g14_), l20, (fun W' hW => by obtain ⟨A14_, c14_, A20_, c20_, A22_, c22_, A23_, c23_, A24_, c24_, A32_, c32_, A34_, c34_, A35_, c35_, A36_, c36_, he, l14_, g14_, l20_, g20_, l22_, g22_, l23_, g23_, l24_, g24_, l32_, g32_, l34_, g34_, l35_, g35_, l36_, g36_⟩ := Qbb (h W' hW); injection (Option.some.inj (show some (Value.slice A20 x.f2.f6.f4.length c20) = some (Value.slice A20_ x.f2.f6.f4.length c20_) from congrArg (fun l => l[20]?) he)) with ha_ _ _; rw [ha_]; exact g20_), l22, (fun W' hW => by obtain ⟨A14_, c14_, A20_, c20_, A22_, c22_, A23_, c23_, A24_, c24_, A32_, c32_, A34_, c34_, A35_, c35_, A36_, c36_, he, l14_, g14_, l20_, g20_, l22_, g22_, l23_, g23_, l24_, g24_, l32_, g32_, l34_, g34_, l35_, g35_, l36_, g36_⟩ := Qbb (h W' hW); injection (Option.some.inj (show some (Value.slice A22 x.f2.f6.f6.length c22) = some (Value.slice A22_ x.f2.f6.f6.length c22_) from congrArg (fun l => l[22]?) he)) with ha_ _ _; rw [ha_]; exact g22_), l23, (fun W' hW => by obtain ⟨A14_, c14_, A20_, c20_, A22_, c22_, A23_, c23_, A24_, c24_, A32_, c32_, A34_, c34_, A35_, c35_, A36_, c36_, he, l14_, g14_, l20_, g20_, l22_, g22_, l23_, g23_, l24_, g24_, l32_, g32_, l34_, g34_, l35_, g35_, l36_, g36_⟩ := Qbb (h W' hW); injection (Option.some.inj (show some (Value.slice A23 x.f2.f6.f7.length c23) = some (Value.slice A23_ x.f2.f6.f7.length c23_) from congrArg (fun l => l[23]?) he)) with ha_ _ _; rw [ha_]; exact g23_), l24, (fun W' hW => by obtain ⟨A14_, c14_, A20_, c20_, A22_, c22_, A23_, c23_, A24_, c24_, A32_, c32_, A34_, c34_, A35_, c35_, A36_, c36_, he, l14_, g14_, l20_, g20_, l22_, g22_, l23_, g23_, l24_, g24_, l32_, g32_, l34_, g34_, l35_, g35_, l36_, g36_⟩ := Qbb (h W' hW); injection (Option.some.inj (show some (Value.slice A24 x.f2.f6.f8.length c24) = some (Value.slice A24_ x.f2.f6.f8.length c24_) from congrArg (fun l => l[24]?) he)) with ha_ _ _; rw [ha_]; exact g24_), l32, (fun W' hW => by obtain ⟨A14_, c14_, A20_, c20_, A22_, c22_, A23_, c23_, A24_, c24_, A32_, c32_, A34_, c34_, A35_, c35_, A36_, c36_, he, l14_, g14_, l20_, g20_, l22_, g22_, l23_, g23_, l24_, g24_, l32_, g32_, l34_, g34_, l35_, g35_, l36_, g36_⟩ := Qbb (h W' hW); injection (Option.some.inj (show some (Value.slice A32 x.f3.f2.f4.length c32) = some (Value.slice A32_ x.f3.f2.f4.length c32_) from congrArg (fun l => l[32]?) he)) with ha_ _ _; rw [ha_]; exact g32_), l34, (fun W' hW => by obtain ⟨A14_, c14_, A20_, c20_, A22_, c22_, A23_, c23_, A24_, c24_, A32_, c32_, A34_, c34_, A35_, c35_, A36_, c36_, he, l14_, g14_, l20_, g20_, l22_, g22_, l23_, g23_, l24_, g24_, l32_, g32_, l34_, g34_, l35_, g35_, l36_, g36_⟩ := Qbb (h W' hW); injection (Option.some.inj (show some (Value.slice A34 x.f3.f2.f6.length c34) = some (Value.slice A34_ x.f3.f2.f6.length c34_) from congrArg (fun l => l[34]?) he)) with ha_ _ _; rw [ha_]; exact g34_), l35, (fun W' hW => by obtain ⟨A14_, c14_, A20_, c20_, A22_, c22_, A23_, c23_, A24_, c24_, A32_, c32_, A34_, c34_, A35_, c35_, A36_, c36_, he, l14_, g14_, l20_, g20_, l22_, g22_, l23_, g23_, l24_, g24_, l32_, g32_, l34_, g34_, l35_, g35_, l36_, g36_⟩ := Qbb (h W' hW); injection (Option.some.inj (show some (Value.slice A35 x.f3.f2.f7.length c35) = some (Value.slice A35_ x.f3.f2.f7.length c35_) from congrArg (fun l => l[35]?) he)) with ha_ _ _; rw [ha_]; exact g35_), l36, (fun W' hW => by obtain ⟨A14_, c14_, A20_, c20_, A22_, c22_, A23_, c23_, A24_, c24_, A32_, c32_, A34_, c34_, A35_, c35_, A36_, c36_, he, l14_, g14_, l20_, g20_, l22_, g22_, l23_, g23_, l24_, g24_, l32_, g32_, l34_, g34_, l35_, g35_, l36_, g36_⟩ := Qbb (h W' hW); injection (Option.some.inj (show some (Value.slice A36 x.f3.f2.f8.length c36) = some (Value.slice A36_ x.f3.f2.f8.length c36_) from congrArg (fun l => l[36]?) he)) with ha_ _ _; rw [ha_]; exact g36_)⟩
theorem k46_mkF (W : World) (ok : Nat → Prop) (x : S46) {A14 : Option Addr} {c14 : Nat} (l14 : x.f2.f4.length ≤ c14) (g14 : Kd.F k32 W ok A14 x.f2.f4.length x.f2.f4) {A20 : Option Addr} {c20 : Nat} (l20 : x.f2.f6.f4.length ≤ c20) (g20 : Kd.F k32 W ok A20 x.f2.f6.f4.length x.f2.f6.f4) {A22 : Option Addr} {c22 : Nat} (l22 : x.f2.f6.f6.length ≤ c22) (g22 : Kd.F k30 W ok A22 x.f2.f6.f6.length x.f2.f6.f6) {A23 : Option Addr} {c23 : Nat} (l23 : x.f2.f6.f7.length ≤ c23) (g23 : Kd.F k61 W ok A23 x.f2.f6.f7.length x.f2.f6.f7) {A24 : Option Addr} {c24 : Nat} (l24 : x.f2.f6.f8.length ≤ c24) (g24 : Kd.F (Kd.int .u8) W ok A24 x.f2.f6.f8.length x.f2.f6.f8) {A32 : Option Addr} {c32 : Nat} (l32 : x.f3.f2.f4.length ≤ c32) (g32 : Kd.F k32 W ok A32 x.f3.f2.f4.length x.f3.f2.f4) {A34 : Option Addr} {c34 : Nat} (l34 : x.f3.f2.f6.length ≤ c34) (g34 : Kd.F k30 W ok A34 x.f3.f2.f6.length x.f3.f2.f6) {A35 : Option Addr} {c35 : Nat} (l35 : x.f3.f2.f7.length ≤ c35) (g35 : Kd.F k61 W ok A35 x.f3.f2.f7.length x.f3.f2.f7) {A36 : Option Addr} {c36 : Nat} (l36 : x.f3.f2.f8.length ≤ c36) (g36 : Kd.F (Kd.int .u8) W ok A36 x.f3.f2.f8.length x.f3.f2.f8) : Kd.FK k46 W ok x [.int .i64 x.f0, .int .i64 x.f1, .int .i64 x.f2.f0, .int .i64 x.f2.f1.f0.f0, .int .i64 x.f2.f1.f0.f1, .string x.f2.f1.f1, .int .i64 x.f2.f1.f2, .string x.f2.f1.f3, .string x.f2.f1.f4.f0, .string x.f2.f1.f4.f1, .string x.f2.f1.f5.f0, .string x.f2.f1.f5.f1, .int .i64 x.f2.f2, .string x.f2.f3, .slice A14 x.f2.f4.length c14, .string x.f2.f5, .int .i64 x.f2.f6.f0, .int .i64 x.f2.f6.f1, .int .i64 x.f2.f6.f2, .string x.f2.f6.f3, .slice A20 x.f2.f6.f4.length c20, .int .i64 x.f2.f6.f5, .slice A22 x.f2.f6.f6.length c22, .slice A23 x.f2.f6.f7.length c23, .slice A24 x.f2.f6.f8.length c24, .int .i64 x.f2.f7, .int .i64 x.f3.f0, .int .i64 x.f3.f1, .int .i64 x.f3.f2.f0, .int .i64 x.f3.f2.f1, .int .i64 x.f3.f2.f2, .string x.f3.f2.f3, .slice A32 x.f3.f2.f4.length c32, .int .i64 x.f3.f2.f5, .slice A34 x.f3.f2.f6.length c34, .slice A35 x.f3.f2.f7.length c35, .slice A36 x.f3.f2.f8.length c36] := fun W2 hW => k46_mk W2 x l14 (g14 W2 hW) l20 (g20 W2 hW) l22 (g22 W2 hW) l23 (g23 W2 hW) l24 (g24 W2 hW) l32 (g32 W2 hW) l34 (g34 W2 hW) l35 (g35 W2 hW) l36 (g36 W2 hW)
abbrev Cav := S61
def fewC (c : Cav) : Cav := { c with f1 := c.f1.take 6 }
def fewT (t : Tok) : Tok := { t with f4 := t.f4.take 6, f6 := t.f6.take 70, f7 := (t.f7.take 8).map fewC, f8 := t.f8.take 40 }
abbrev tokN (t : Tok) (A4 : Option Addr) (n4 c4 : Nat) (A6 : Option Addr) (n6 c6 : Nat) (v7 : Value) (A8 : Option Addr) (n8 c8 : Nat) : Array Value := #[.int .i64 t.f0, .int .i64 t.f1, .int .i64 t.f2, .string t.f3, .slice A4 n4 c4, .int .i64 t.f5, .slice A6 n6 c6, v7, .slice A8 n8 c8]
abbrev zTokV : Array Value := #[.int .i64 0, .int .i64 0, .int .i64 0, .string ⟨#[]⟩, .slice none 0 0, .int .i64 0, .slice none 0 0, .slice none 0 0, .slice none 0 0]
theorem take_min {α : Type} (l : List α) (k : Nat) : (l.take k).length = if k < l.length then k else l.length := by
  rw [List.length_take]
  split <;> omega
theorem F_takeMin {α : Type} {d : Kd α} {W : World} {ok : Nat → Prop} {A : Option Addr} {l : List α} (h : Kd.F d W ok A l.length l) (k : Nat) : Kd.F d W ok A (l.take k).length (l.take k) := by
  by_cases hk : k ≤ l.length
  · exact Kd.F_take h hk
  · rw [List.take_of_length_le (by omega)]
    exact h
theorem Qaa {w : World} {b : Nat} {E : Array Value} {ty : TypeId} (h : w.heap[b]? = some (.cells E ty (0, 0))) (i : Nat) {v : Value} (hv : E[i]? = some v) : w.cell? ⟨b, i, none⟩ = some v := (Qaf h i).trans hv
theorem range0 {w : World} {b : Nat} {C : Array Value} {t : TypeId} {fr : Nat × Nat} (hb : w.heap[b]? = some (.cells C t fr)) : ∀ j v, C[j]? = some v → w.cell? ((⟨b, 0, none⟩ : Addr).add j) = some v := QaQ hb
theorem raw_F {α : Type} {d : Kd α} {n e base m c : Nat} {w : World} {ok : Nat → Prop} {A : Option Addr} {Cs : List (Array Value)} {xs : List α} (hR : Kd.R (kRaw n) e w base (fun k => base ≤ k) (.slice A m c) Cs) (hd : d.sz = n) (hl : Cs.length = xs.length) (hk : ∀ (i : Nat) (x : α) (C : Array Value), xs[i]? = some x → Cs[i]? = some C → Kd.FK d w ok x C.toList) : Kd.F d w (fun k => ok k ∨ base ≤ k) A xs.length xs := fun W' hW => by
  have hF := Kd.F_mono (ok' := fun k => ok k ∨ base ≤ k) (Kd.R_F hR) (fun _ h => .inr h); obtain ⟨h1, h2, h3⟩ := hF W' hW; refine ⟨rfl, by rw [← hl, h1]; exact h2, fun hn => ?_⟩; obtain ⟨a, ea, hc⟩ := h3 (by omega); refine ⟨a, ea, fun j p hj => ?_⟩
  have hj' : j < Cs.length := by rw [hl]; exact (List.getElem?_eq_some_iff.mp hj).1
  obtain ⟨cs, hcl, ⟨hce, -, -⟩, hcc⟩ := hc j _ (List.getElem?_eq_getElem hj'); subst hce; have := hk j p _ hj (List.getElem?_eq_getElem hj') W' (fun k h h' => hW k (.inl h) h'); exact ⟨_, by rw [hd]; exact hcl, this, by rw [hd]; exact hcc⟩
theorem below_setRowW {B g : Nat} {w0 w : World} (hb : Below B w0 w) (hBg : B ≤ g) (cs : Array Value) : Below B w0 (w.setRow g cs) :=
  ⟨hb.os, hb.tape, hb.output, by rw [size_setRow]; exact hb.size, fun k hk => (setRow_other w g k cs (by omega)).trans (hb.block k hk)⟩
theorem infoCav : (Tryd.prog.info? 61).map (fun i => (i.zero, i.size, i.bytes)) = some (some (.agg #[.int .i64 0, .slice none 0 0, .int .i64 0, .string ⟨#[]⟩]), 4, 56) := by kernel_rfl
set_option maxRecDepth 100000 in
set_option maxHeartbeats 8000000 in
theorem fewTok_calls (w : World) (ok : Nat → Prop) (t : Tok) (T : Array Value) (h : Kd.FK kTok w ok t T.toList) :
    Calls Tryd.prog 10 #[.agg T] w fun e w' => ∃ T', e = .returned (.agg T') ∧ Kd.FK kTok w' (fun k => ok k ∨ w.heap.size ≤ k) (fewT t) T'.toList ∧ Below w.heap.size w w' := by
  obtain ⟨A4, c4, A6, c6, A7, c7, A8, c8, he, l4, g4, l6, g6, l7, g7, l8, g8⟩ := k40_openF h
  obtain rfl : T = tokV t A4 c4 A6 c6 A7 c7 A8 c8 := by rw [← Array.toArray_toList (xs := T), he]
  clear h he
  obtain ⟨n4, h4⟩ : ∃ n, n = (t.f4.take 6).length := ⟨_, rfl⟩
  obtain ⟨n6, h6⟩ : ∃ n, n = (t.f6.take 70).length := ⟨_, rfl⟩
  obtain ⟨n8, h8⟩ : ∃ n, n = (t.f8.take 40).length := ⟨_, rfl⟩
  have H4 := Lib.hid (h4.trans (take_min _ _)); have H6 := Lib.hid (h6.trans (take_min _ _)); have H8 := Lib.hid (h8.trans (take_min _ _)); have HH4 := Lib.hid h4; have HH6 := Lib.hid h6; have HH8 := Lib.hid h8; have G4 := Lib.hid (And.intro l4 g4); have G6 := Lib.hid (And.intro l6 g6); have G7 := Lib.hid (And.intro l7 g7); have G8 := Lib.hid (And.intro l8 g8); clear h4 h6 h8 l4 g4 l6 g6 l7 g7 l8 g8; go_enter Tryd.func10, Tryd.ntmps10
  go_upto_if 9 with fail
  go_cut [] from 6 to 13 (fun wc => wc = (w.alloc (.cells (tokN t A4 n4 c4 A6 t.f6.length c6 (.slice A7 t.f7.length c7) A8 t.f8.length c8) 40)).alloc (.cells zTokV 40))
  case first =>
    by_cases h : 6 < t.f4.length
    · have q1 : 6 ≤ c4 := by have := G4.out.1; omega
      have q2 : (6 : Int) ≤ (c4 : Int) := by omega
      have d1 : decide ((6 : Int) < (t.f4.length : Int)) = true := decide_eq_true (by omega); have d2 : decide (6 < t.f4.length) = true := decide_eq_true h; obtain rfl : n4 = 6 := H4.out.trans (if_pos h); clear h; simp only [d1]
      go_wp2_with fail
      go_meet
      case rel => rfl
    · have d1 : decide ((6 : Int) < (t.f4.length : Int)) = false := decide_eq_false (by omega)
      have d2 : decide (6 < t.f4.length) = false := decide_eq_false h; obtain rfl : n4 = t.f4.length := H4.out.trans (if_neg h); clear h; simp only [d1]
      go_wp2_with fail
      go_meet
      case rel => rfl
  case rest =>
  obtain rfl := hcut
  go_upto_if 17 with fail
  go_cut [] from 14 to 21 (fun wc => wc = (w.alloc (.cells (tokN t A4 n4 c4 A6 n6 c6 (.slice A7 t.f7.length c7) A8 t.f8.length c8) 40)).alloc (.cells zTokV 40))
  case first =>
    by_cases h : 70 < t.f6.length
    · have q1 : 70 ≤ c6 := by have := G6.out.1; omega
      have q2 : (70 : Int) ≤ (c6 : Int) := by omega
      have d1 : decide ((70 : Int) < (t.f6.length : Int)) = true := decide_eq_true (by omega); have d2 : decide (70 < t.f6.length) = true := decide_eq_true h; obtain rfl : n6 = 70 := H6.out.trans (if_pos h); clear h; simp only [d1]
      go_wp2_with fail
      go_meet
      case rel => rfl
    · have d1 : decide ((70 : Int) < (t.f6.length : Int)) = false := decide_eq_false (by omega)
      have d2 : decide (70 < t.f6.length) = false := decide_eq_false h; obtain rfl : n6 = t.f6.length := H6.out.trans (if_neg h); clear h; simp only [d1]
      go_wp2_with fail
      go_meet
      case rel => rfl
  case rest =>
  obtain rfl := hcut
  go_wp2_with fail
  generalize hW : (w.alloc (.cells (tokN t A4 n4 c4 A6 n6 c6 (.slice A7 t.f7.length c7) A8 t.f8.length c8) 40)).alloc (.cells zTokV 40) = W
  have z1 : W.heap[w.heap.size]? = some (.cells (tokN t A4 n4 c4 A6 n6 c6 (.slice A7 t.f7.length c7) A8 t.f8.length c8) 40 (0, 0)) := by rw [← hW]; exact Qav (Qau w _) _
  have z2 : W.heap[w.heap.size + 1]? = some (.cells zTokV 40 (0, 0)) := by
    rw [← hW]; have := Qau (w.alloc (.cells (tokN t A4 n4 c4 A6 n6 c6 (.slice A7 t.f7.length c7) A8 t.f8.length c8) 40)) (.cells zTokV 40); rw [show (w.alloc (.cells (tokN t A4 n4 c4 A6 n6 c6 (.slice A7 t.f7.length c7) A8 t.f8.length c8) 40)).heap.size = w.heap.size + 1 from Array.size_push _] at this; exact this
  have HBW := Lib.hid (show Below w.heap.size w W by rw [← hW]; exact Qad (Qad (Below.refl _ _) _) _); have HZ1 := Lib.hid z1; have HZ2 := Lib.hid z2; clear hW z1 z2
  go_loopg [3, 4] (8 + 1) (fun kq v3 v4 w' => ∃ (i : Nat) (Cs : List (Array Value)), v4 = .int .i64 i ∧ Hid (kq = 8 + 1 - i) ∧ Hid (i ≤ 8 ∧ i ≤ t.f7.length) ∧ Hid (Kd.R (kRaw 4) 61 w' W.heap.size (fun _ => True) v3 Cs) ∧ Hid (Cs.length = i) ∧ Hid (∀ (j : Nat) (c : Cav) (C : Array Value), (t.f7.take i)[j]? = some c → Cs[j]? = some C → Kd.FK k61 w ok (fewC c) C.toList) ∧ Hid (Below W.heap.size W w'))
  case atStart => exact ⟨0, [], rfl, Lib.hid rfl, Lib.hid ⟨Nat.zero_le _, Nat.zero_le _⟩, Lib.hid (Kd.R_nil _ _ _ _ _), Lib.hid rfl, Lib.hid (fun j c C h => by simp at h), Lib.hid (Below.refl _ _)⟩
  case round =>
    obtain ⟨i, Cs, rfl, HKq, HI, HR, HCl, HFa, HB⟩ := hrel; have B1 := Qac HZ1.out HB.out; have s7 := Qaa B1 7 (v := .slice A7 t.f7.length c7) rfl; have hm := (Kd.F_now G7.out.2).2.1
    by_cases hi : i < t.f7.length ∧ i < 8
    · have d1 : decide ((i : Int) < (t.f7.length : Int)) = true := decide_eq_true (by omega)
      have d2 : decide (i < t.f7.length) = true := decide_eq_true hi.1; have d3 : decide ((i : Int) < 8) = true := decide_eq_true (by omega); have d4 : decide (i < 8) = true := decide_eq_true hi.2
      have wrapI : wrap64 ((i : Int) + 1) = ((i + 1 : Nat) : Int) := by unfold wrap64; omega
      obtain ⟨ad, cs, rfl, -, hK, hcell, -⟩ := Kd.F_get G7.out.2 z61 (i : Int) (by omega) (by omega)
      have hx : t.f7.getD (i : Int).toNat z61 = t.f7[i]'hi.1 := by
        rw [show (i : Int).toNat = i from rfl]; simp [List.getD, List.getElem?_eq_getElem hi.1]
      obtain ⟨x, hxe⟩ : ∃ x, x = t.f7.getD (i : Int).toNat z61 := ⟨_, rfl⟩
      rw [← hxe] at hK
      have htk : t.f7.take (i + 1) = t.f7.take i ++ [x] := by rw [hxe, hx, List.take_add_one, List.getElem?_eq_getElem hi.1]; rfl
      obtain ⟨A1, c1, rfl, l1, g1⟩ := k61_openF hK; have HW := Lib.hid (Qab HBW.out HB.out); have r0 : wr.cell? (ad.add (i * 4)) = some (.int .i64 x.f0) := Qas HW.out (hcell 0 _ rfl)
      have r1 : wr.cell? ⟨(ad.add (i * 4)).block, (ad.add (i * 4)).off + 1, none⟩ = some (.slice A1 x.f1.length c1) := by rw [← QaS _ _ 1 (by omega)]; exact Qas HW.out (hcell 1 _ rfl)
      have r2 : wr.cell? ⟨(ad.add (i * 4)).block, (ad.add (i * 4)).off + 2, none⟩ = some (.int .i64 x.f2) := by rw [← QaS _ _ 2 (by omega)]; exact Qas HW.out (hcell 2 _ rfl)
      have r3 : wr.cell? ⟨(ad.add (i * 4)).block, (ad.add (i * 4)).off + 3, none⟩ = some (.string x.f3) := by rw [← QaS _ _ 3 (by omega)]; exact Qas HW.out (hcell 3 _ rfl)
      have q1 : (0 : Int) ≤ (i : Int) := by omega
      have q2 : (i : Int) < (t.f7.length : Int) := by omega
      have HI2 := Lib.hid hi
      obtain ⟨n1, hn1⟩ : ∃ n, n = (x.f1.take 6).length := ⟨_, rfl⟩
      have hnew : ∀ (j : Nat) (c : Cav) (C : Array Value), (t.f7.take (i + 1))[j]? = some c → (Cs ++ [#[.int .i64 x.f0, .slice A1 n1 c1, .int .i64 x.f2, .string x.f3]])[j]? = some C → Kd.FK k61 w ok (fewC c) C.toList := fun j c C h1 h2 => by
        rw [htk] at h1
        have htl : (t.f7.take i).length = i := by rw [List.length_take]; omega
        by_cases hj : j < i
        · rw [List.getElem?_append_left (by omega)] at h1
          rw [List.getElem?_append_left (by rw [HCl.out]; exact hj)] at h2; exact HFa.out j c C h1 h2
        · rw [List.getElem?_append_right (by omega)] at h1
          rw [List.getElem?_append_right (by rw [HCl.out]; omega), HCl.out] at h2; rw [htl] at h1
          cases hz : j - i with
          | zero =>
            rw [hz] at h1 h2; obtain rfl := Option.some.inj h1; obtain rfl := Option.some.inj h2; rw [hn1]; exact k61_mkF w ok (fewC x) (Nat.le_trans (by show (x.f1.take 6).length ≤ _; rw [List.length_take]; omega) l1) (F_takeMin g1 6)
          | succ j =>
            rw [hz] at h1; simp at h1
      have HNew := Lib.hid hnew; have hn := hn1.trans (take_min _ _); clear hnew hn1 hi hx hxe htk hK hcell g1
      by_cases h6 : 6 < x.f1.length
      · have e1 : decide ((6 : Int) < (x.f1.length : Int)) = true := decide_eq_true (by omega)
        have e2 : decide (6 < x.f1.length) = true := decide_eq_true h6
        have e3 : 6 ≤ c1 := by omega
        have e4 : (6 : Int) ≤ (c1 : Int) := by omega
        obtain rfl : n1 = 6 := hn.trans (if_pos h6); clear h6 hn
        go_wp2_with ((with_reducible refine QaO (b := .append) (xs := #[.tmp 46, .tmp 48]) rfl ?_); at_builtin; refine Kd.R_append (kRaw 4) (w0 := W) W.heap.size rfl (.tmp 46) (.tmp 48) 37 61 (.agg #[.int .i64 0, .slice none 0 0, .int .i64 0, .string ⟨#[]⟩]) 56 rfl Tryd.underlying37 infoCav rfl (by decide) (by omega) _ Cs #[.int .i64 x.f0, .slice A1 6 c1, .int .i64 x.f2, .string x.f3] [.int .i64 x.f0, .slice A1 6 c1, .int .i64 x.f2, .string x.f3] (fun _ => True) (fun _ => False) rfl (by first | rfl | exact congrArg (fun n => Value.slice (some ⟨n, 0, none⟩) 1 1) (Array.size_push _).symm) ?aP (fun _ hk => hk.elim) (fun _ _ => trivial) ?aO ?aB ?aS ?aL ?_; (case aP => exact ⟨rfl, rfl, by simp [Value.oneCell']⟩); (case aB => exact Qad HB.out _); (case aO => exact Kd.R_alloc HR.out _); (case aS => exact QaZ (Qad HB.out _)); (case aL => have := HCl.out; have := HI.out; omega); intro v2 w2 ho hb hg hat; have HO := Lib.hid ho; have HBo := Lib.hid hb; clear ho hb hg hat)
        go_roundg (8 + 1 - (i + 1))
        case measure => have := HKq.out; have := HI2.out; omega
        case rel => exact ⟨i + 1, Cs ++ [#[.int .i64 x.f0, .slice A1 6 c1, .int .i64 x.f2, .string x.f3]], by first | rfl | exact congrArg _ wrapI, Lib.hid rfl, Lib.hid (by have := HI2.out; omega), HO, Lib.hid (by rw [List.length_append, HCl.out]; rfl), HNew, HBo⟩
      · have e1 : decide ((6 : Int) < (x.f1.length : Int)) = false := decide_eq_false (by omega)
        have e2 : decide (6 < x.f1.length) = false := decide_eq_false h6; obtain rfl : n1 = x.f1.length := hn.trans (if_neg h6); clear h6 hn
        go_wp2_with ((with_reducible refine QaO (b := .append) (xs := #[.tmp 46, .tmp 48]) rfl ?_); at_builtin; refine Kd.R_append (kRaw 4) (w0 := W) W.heap.size rfl (.tmp 46) (.tmp 48) 37 61 (.agg #[.int .i64 0, .slice none 0 0, .int .i64 0, .string ⟨#[]⟩]) 56 rfl Tryd.underlying37 infoCav rfl (by decide) (by omega) _ Cs #[.int .i64 x.f0, .slice A1 x.f1.length c1, .int .i64 x.f2, .string x.f3] [.int .i64 x.f0, .slice A1 x.f1.length c1, .int .i64 x.f2, .string x.f3] (fun _ => True) (fun _ => False) rfl (by first | rfl | exact congrArg (fun n => Value.slice (some ⟨n, 0, none⟩) 1 1) (Array.size_push _).symm) ?aP (fun _ hk => hk.elim) (fun _ _ => trivial) ?aO ?aB ?aS ?aL ?_; (case aP => exact ⟨rfl, rfl, by simp [Value.oneCell']⟩); (case aB => exact Qad HB.out _); (case aO => exact Kd.R_alloc HR.out _); (case aS => exact QaZ (Qad HB.out _)); (case aL => have := HCl.out; have := HI.out; omega); intro v2 w2 ho hb hg hat; have HO := Lib.hid ho; have HBo := Lib.hid hb; clear ho hb hg hat)
        go_roundg (8 + 1 - (i + 1))
        case measure => have := HKq.out; have := HI2.out; omega
        case rel => exact ⟨i + 1, Cs ++ [#[.int .i64 x.f0, .slice A1 x.f1.length c1, .int .i64 x.f2, .string x.f3]], by first | rfl | exact congrArg _ wrapI, Lib.hid rfl, Lib.hid (by have := HI2.out; omega), HO, Lib.hid (by rw [List.length_append, HCl.out]; rfl), HNew, HBo⟩
    · have hcase : (decide (i < t.f7.length) = false) ∨ (decide (i < t.f7.length) = true ∧ decide (i < 8) = false) := by
        by_cases h1 : i < t.f7.length
        · exact .inr ⟨decide_eq_true h1, decide_eq_false (fun h2 => hi ⟨h1, h2⟩)⟩
        · exact .inl (decide_eq_false h1)
      have hi8 : i = ((t.f7.take 8).map fewC).length := by
        rw [List.length_map, take_min]; have := HI.out
        split <;> omega
      have hlf : ∀ (j : Nat) (c : Cav) (C : Array Value), ((t.f7.take 8).map fewC)[j]? = some c → Cs[j]? = some C → Kd.FK k61 w ok c C.toList := fun j c C h1 h2 => by
        rw [List.getElem?_map] at h1; obtain ⟨x, hx, rfl⟩ := Option.map_eq_some_iff.mp h1; refine HFa.out j x C ?_ h2; have hj : j < Cs.length := (List.getElem?_eq_some_iff.mp h2).1; rw [HCl.out] at hj; rw [List.getElem?_take] at hx ⊢; rw [if_pos hj]
        split at hx
        · exact hx
        · cases hx
      have HI8 := Lib.hid hi8; have HLf := Lib.hid hlf; obtain ⟨A9, c9, e9, hc9, -⟩ := Kd.R_reads HR.out; rw [HCl.out] at e9 hc9; subst e9; have HC9 := Lib.hid hc9; have sf := QaF B1 7; have B2 := Qac HZ2.out HB.out; have HB1 := Lib.hid B1; have HB2 := Lib.hid B2; clear hi hi8 hlf hc9 B1 B2 hm
      rcases hcase with d2 | ⟨d2, d4⟩
      rotate_left; have d1 : decide ((i : Int) < (t.f7.length : Int)) = true := decide_eq_true (by have := of_decide_eq_true d2; omega); have d3 : decide ((i : Int) < 8) = false := decide_eq_false (by have := of_decide_eq_false d4; omega); rotate_left; have d1 : decide ((i : Int) < (t.f7.length : Int)) = false := decide_eq_false (by have := of_decide_eq_false d2; omega)
      all_goals
        go_upto_region 14 with fail
        have hB3 := blk_put HB1.out 7 (.slice A9 i c9) (cs' := tokN t A4 n4 c4 A6 n6 c6 (.slice A9 i c9) A8 t.f8.length c8) rfl; have hB4 := (Below.heap_setCell wr ⟨w.heap.size, 7, none⟩ (.slice A9 i c9) (w.heap.size + 1) (by show w.heap.size + 1 ≠ w.heap.size; omega)).trans HB2.out; have hR3 := HR.out
        have hK3 : ∀ k, k ≠ w.heap.size → (wr.setCell ⟨w.heap.size, 7, none⟩ (.slice A9 i c9)).heap[k]? = wr.heap[k]? := fun k hk => Below.heap_setCell _ _ _ k hk
        have hW3 : Below w.heap.size w (wr.setCell ⟨w.heap.size, 7, none⟩ (.slice A9 i c9)) := (Qab HBW.out HB.out).setCell (p := ⟨w.heap.size, 7, none⟩) (Nat.le_refl _) _; have HB3 := Lib.hid hB3; have HB4 := Lib.hid hB4; have HK3 := Lib.hid hK3; have HW3 := Lib.hid hW3; clear hB3 hB4 hR3 hK3 hW3 s7 sf d1 d2
        generalize wr.setCell ⟨w.heap.size, 7, none⟩ (.slice A9 i c9) = W3 at HB3 HB4 HK3 HW3 ⊢
        have s8 := Qaa HB3.out 8 (v := .slice A8 t.f8.length c8) rfl; have sf := QaF HB3.out 8
        go_upto_if 55 with fail
        go_cut [] from 50 to 59 (fun wc => wc.heap[w.heap.size]? = some (.cells (tokN t A4 n4 c4 A6 n6 c6 (.slice A9 i c9) A8 n8 c8) 40 (0, 0)) ∧ wc.heap[w.heap.size + 1]? = some (.cells zTokV 40 (0, 0)) ∧ (∀ k, k ≠ w.heap.size → wc.heap[k]? = W3.heap[k]?) ∧ Below w.heap.size w wc)
        case first =>
          by_cases h : 40 < t.f8.length
          · have q1 : 40 ≤ c8 := by have := G8.out.1; omega
            have q2 : (40 : Int) ≤ (c8 : Int) := by omega
            have d1 : decide ((40 : Int) < (t.f8.length : Int)) = true := decide_eq_true (by omega); have d2 : decide (40 < t.f8.length) = true := decide_eq_true h; obtain rfl : n8 = 40 := H8.out.trans (if_pos h); clear h; simp only [d1]
            go_wp2_with fail
            go_meet
            case rel => exact ⟨blk_put HB3.out 8 _ rfl, (Below.heap_setCell _ _ _ _ (by show w.heap.size + 1 ≠ w.heap.size; omega)).trans HB4.out, fun k hk => Below.heap_setCell _ _ _ k hk, HW3.out.setCell (p := ⟨w.heap.size, 8, none⟩) (Nat.le_refl _) _⟩
          · have d1 : decide ((40 : Int) < (t.f8.length : Int)) = false := decide_eq_false (by omega)
            have d2 : decide (40 < t.f8.length) = false := decide_eq_false h; obtain rfl : n8 = t.f8.length := H8.out.trans (if_neg h); clear h; simp only [d1]
            go_wp2_with fail
            go_meet
            case rel => exact ⟨HB3.out, HB4.out, fun _ _ => rfl, HW3.out⟩
        case rest =>
        obtain ⟨E1, E2, E3, E4⟩ := hcut; have HE1 := Lib.hid E1; have HE2 := Lib.hid E2; have HE3 := Lib.hid E3; have HE4 := Lib.hid E4; clear E1 E2 E3 E4 s8 sf
        go_wp2_with (first | (refine Qah rfl 40 (.tmp 1) rfl _ rfl (tokN t A4 n4 c4 A6 n6 c6 (.slice A9 i c9) A8 n8 c8) _ (range0 HE1.out) Tryd.underlying40 rfl (by kernel_rfl) ?_) | (refine wpList_putRow rfl 40 (.tmp 2) (.tmp 60) rfl HE2.out rfl (tokN t A4 n4 c4 A6 n6 c6 (.slice A9 i c9) A8 n8 c8) rfl (by kernel_rfl) rfl (by simp [Value.oneCell']) ?_))
        have hR5 := setRow_heap wc (w.heap.size + 1) zTokV (tokN t A4 n4 c4 A6 n6 c6 (.slice A9 i c9) A8 n8 c8) 40 (0, 0) HE2.out; have hB5 : Below w.heap.size w (wc.setRow (w.heap.size + 1) (tokN t A4 n4 c4 A6 n6 c6 (.slice A9 i c9) A8 n8 c8)) := below_setRowW HE4.out (Nat.le_succ _) _
        have hk5 : ∀ k, k ≠ w.heap.size → k ≠ w.heap.size + 1 → (wc.setRow (w.heap.size + 1) (tokN t A4 n4 c4 A6 n6 c6 (.slice A9 i c9) A8 n8 c8)).heap[k]? = wr.heap[k]? := fun k h1 h2 => ((setRow_other wc _ k _ h2).trans (HE3.out k h1)).trans (HK3.out k h1)
        refine bodyPost_ret (results_cell_row rfl _ _ (w.heap.size + 1) 40 _ (0, 0) _ rfl hR5 Tryd.underlying40 rfl (by kernel_rfl)) rfl ?_
        have hW2 : W.heap.size ≥ w.heap.size + 2 := by have := QaP HZ2.out; omega
        have hR6 : Kd.R (kRaw 4) 61 (wc.setRow (w.heap.size + 1) (tokN t A4 n4 c4 A6 n6 c6 (.slice A9 i c9) A8 n8 c8)) W.heap.size (fun k => W.heap.size ≤ k) (.slice A9 i c9) Cs := Kd.R_move (Kd.R_mono (Kd.R_bound HR.out) (fun k hk => hk.2.1)) (fun k hk => hk5 k (by omega) (by omega)); refine ⟨_, rfl, ?_, hB5⟩; have f7 := raw_F (d := k61) (ok := ok) hR6 rfl (by rw [HCl.out, HI8.out]) (fun j c C h1 h2 => Kd.FK_below (HLf.out j c C h1 h2) hB5); have hc9 := HC9.out; have hi9 := HI8.out; clear hR6 hR5 hk5
        generalize wc.setRow (w.heap.size + 1) (tokN t A4 n4 c4 A6 n6 c6 (.slice A9 i c9) A8 n8 c8) = W9 at hB5 f7 ⊢
        rw [hi9] at hc9
        have hlist : (tokN t A4 n4 c4 A6 n6 c6 (.slice A9 i c9) A8 n8 c8).toList = [.int .i64 (fewT t).f0, .int .i64 (fewT t).f1, .int .i64 (fewT t).f2, .string (fewT t).f3, .slice A4 (fewT t).f4.length c4, .int .i64 (fewT t).f5, .slice A6 (fewT t).f6.length c6, .slice A9 (fewT t).f7.length c9, .slice A8 (fewT t).f8.length c8] := by
          rw [HH4.out, HH6.out, HH8.out, hi9]; rfl
        have g4 : Kd.F k32 W9 (fun k => ok k ∨ w.heap.size ≤ k) A4 (fewT t).f4.length (fewT t).f4 := Kd.F_mono (ok' := fun k => ok k ∨ w.heap.size ≤ k) (Kd.F_below (F_takeMin G4.out.2 6) hB5) (fun k h => Or.inl h); have g6 : Kd.F k30 W9 (fun k => ok k ∨ w.heap.size ≤ k) A6 (fewT t).f6.length (fewT t).f6 := Kd.F_mono (ok' := fun k => ok k ∨ w.heap.size ≤ k) (Kd.F_below (F_takeMin G6.out.2 70) hB5) (fun k h => Or.inl h); have g8 : Kd.F (Kd.int .u8) W9 (fun k => ok k ∨ w.heap.size ≤ k) A8 (fewT t).f8.length (fewT t).f8 := Kd.F_mono (ok' := fun k => ok k ∨ w.heap.size ≤ k) (Kd.F_below (F_takeMin G8.out.2 40) hB5) (fun k h => Or.inl h); have g7 : Kd.F k61 W9 (fun k => ok k ∨ w.heap.size ≤ k) A9 (fewT t).f7.length (fewT t).f7 := Kd.F_mono (ok' := fun k => ok k ∨ w.heap.size ≤ k) f7 (fun k h => h.elim Or.inl (fun h => Or.inr (by omega))); have l4 : (fewT t).f4.length ≤ c4 := Nat.le_trans (by show (t.f4.take 6).length ≤ _; rw [List.length_take]; omega) G4.out.1; have l6 : (fewT t).f6.length ≤ c6 := Nat.le_trans (by show (t.f6.take 70).length ≤ _; rw [List.length_take]; omega) G6.out.1; have l8 : (fewT t).f8.length ≤ c8 := Nat.le_trans (by show (t.f8.take 40).length ≤ _; rw [List.length_take]; omega) G8.out.1; rw [hlist]; exact k40_mkF W9 _ (fewT t) l4 g4 l6 g6 hc9 g7 l8 g8
def few12 (t : Tok) : Tok := { t with f6 := t.f6.take 12 }
def fewE (x : Evt) : Evt := { x with f2 := { x.f2 with f4 := x.f2.f4.take 6, f6 := few12 (fewT x.f2.f6) }, f3 := { x.f3 with f2 := few12 (fewT x.f3.f2) } }
def few (l : List Evt) : List Evt := (l.take 30).map fewE
abbrev evN (x : Evt) (n14 n22 n34 : Nat) (A14 : Option Addr) (c14 : Nat) (A20 : Option Addr) (c20 : Nat) (A22 : Option Addr) (c22 : Nat) (A23 : Option Addr) (c23 : Nat) (A24 : Option Addr) (c24 : Nat) (A32 : Option Addr) (c32 : Nat) (A34 : Option Addr) (c34 : Nat) (A35 : Option Addr) (c35 : Nat) (A36 : Option Addr) (c36 : Nat) : Array Value := #[.int .i64 x.f0, .int .i64 x.f1, .int .i64 x.f2.f0, .int .i64 x.f2.f1.f0.f0, .int .i64 x.f2.f1.f0.f1, .string x.f2.f1.f1, .int .i64 x.f2.f1.f2, .string x.f2.f1.f3, .string x.f2.f1.f4.f0, .string x.f2.f1.f4.f1, .string x.f2.f1.f5.f0, .string x.f2.f1.f5.f1, .int .i64 x.f2.f2, .string x.f2.f3, .slice A14 n14 c14, .string x.f2.f5, .int .i64 x.f2.f6.f0, .int .i64 x.f2.f6.f1, .int .i64 x.f2.f6.f2, .string x.f2.f6.f3, .slice A20 x.f2.f6.f4.length c20, .int .i64 x.f2.f6.f5, .slice A22 n22 c22, .slice A23 x.f2.f6.f7.length c23, .slice A24 x.f2.f6.f8.length c24, .int .i64 x.f2.f7, .int .i64 x.f3.f0, .int .i64 x.f3.f1, .int .i64 x.f3.f2.f0, .int .i64 x.f3.f2.f1, .int .i64 x.f3.f2.f2, .string x.f3.f2.f3, .slice A32 x.f3.f2.f4.length c32, .int .i64 x.f3.f2.f5, .slice A34 n34 c34, .slice A35 x.f3.f2.f7.length c35, .slice A36 x.f3.f2.f8.length c36]
def seg (C : Array Value) (o : Nat) (T : Array Value) : Array Value := (C.toList.take o ++ T.toList ++ C.toList.drop (o + T.size)).toArray
section
variable {P : Program}
theorem run_storeVar_seg (w : World) (g o : Nat) (t ty : TypeId) (old T : Array Value) (hg : w.heap[g]? = some (.cells old t (0, 0))) (hi : (P.info? ty).map (·.size) = some T.size)
    (ho : o + T.size ≤ old.size) (h1 : T.all (·.oneCell') = true) :
    (storeVar ty ⟨g, o, none⟩ (.agg T)).run P w = .ok () (w.setRow g (seg old o T)) := by
  have := run_storeCells_at P g o t T.toList 0 old w hg (by simpa using ho) (fun v hv => (Array.all_eq_true_iff_forall_mem.1 h1) v (by simpa using hv))
  cases hq : P.info? ty with
  | none => simp [hq] at hi
  | some i =>
    have hs : T.size = i.size := by simp [hq] at hi; omega
    simpa [storeVar, sizeOf, typeInfo, hq, Value.cells, hs, seg] using this
theorem wpList_putSeg {op : Oper} {rest : List Oper} {ops : Array Oper} {a : Act} {w : World} {Q : Exit → Act → World → Prop} (hgd : op.guard = none) (ty : TypeId) (x y : Operand) (ho : op.op = .store ty x y) {b o : Nat} {C : Array Value} {t : TypeId} (hb : w.heap[b]? = some (.cells C t (0, 0))) (hx : a.eval x = .pointer (some ⟨b, o, none⟩)) (U : Array Value) (hy : a.eval y = .agg U)
    (hi : (P.info? ty).map (·.size) = some U.size) (hz : o + U.size ≤ C.size) (h1 : U.all (·.oneCell') = true) (C' : Array Value) (hC : seg C o U = C') (h : wpList P ops Q rest (a.put op.dst undef) (w.setRow b C')) : wpList P ops Q (op :: rest) a w :=
  wpList_plain hgd fun _ hK => by
    subst hC; unfold Oper.wp execOp; simp only [ho, hx, hy, Instr.storeAt, Instr.sureAddr, run_storeVar_seg w b o t ty C U hb hi hz h1, Sem.run_bind, Sem.run_pure, Result.andThen_ok]; exact hK _ _ h
end
theorem seg_range {w : World} {b : Nat} {C : Array Value} {t : TypeId} {fr : Nat × Nat} (hb : w.heap[b]? = some (.cells C t fr)) (o n : Nat) (T : Array Value) (hT : C.extract o (o + n) = T) : ∀ j v, T[j]? = some v → w.cell? ((⟨b, o, none⟩ : Addr).add j) = some v := by
  subst hT; exact range_block hb o n
theorem foot_after {P : World → Prop} {ok : Nat → Prop} {W W1 : World} {v v1 : Value} (h : Foot P W (fun k => ok k ∧ some k ≠ v.ownBlock)) (hg : W.grownBy W1 v.ownBlock) (hat : v1.ownBlock = v.ownBlock ∨ ∃ b, v1.ownBlock = some b ∧ W.heap.size ≤ b) : Foot P W1 (fun k => ok k ∧ some k ≠ v1.ownBlock) := by
  refine Foot.mono (Foot.step (Foot.bound h) (fun k hk hlt => hg.block k hlt hk.1.2)) (fun k hk => ⟨hk.1.1, ?_⟩)
  rcases hat with hat | ⟨b, hb, hle⟩
  · rw [hat]; exact hk.1.2
  · rw [hb]
    intro he
    injection he with he
    have := hk.2; omega
theorem hpEvt : Kd.Heap kEvt := by
  repeat (first | exact Kd.heap_int _ | exact Kd.heap_string | refine Kd.heap_pair ?_ ?_ | refine Kd.heap_slice _ ?_ | refine Kd.heap_iso _ ?_)
theorem infoEvt : (Tryd.prog.info? 46).map (fun i => (i.zero, i.size, i.bytes)) = some (some (.agg (evN z46 0 0 0 none 0 none 0 none 0 none 0 none 0 none 0 none 0 none 0 none 0)), 37, 520) := by kernel_rfl
abbrev zEvV : Array Value := evN z46 0 0 0 none 0 none 0 none 0 none 0 none 0 none 0 none 0 none 0 none 0
structure TFs (W : World) (ok : Nat → Prop) (t : Tok) (A4 : Option Addr) (c4 : Nat) (A6 : Option Addr) (c6 : Nat) (A7 : Option Addr) (c7 : Nat) (A8 : Option Addr) (c8 : Nat) : Prop where
  l4 : t.f4.length ≤ c4
  g4 : Kd.F k32 W ok A4 t.f4.length t.f4
  l6 : t.f6.length ≤ c6
  g6 : Kd.F k30 W ok A6 t.f6.length t.f6
  l7 : t.f7.length ≤ c7
  g7 : Kd.F k61 W ok A7 t.f7.length t.f7
  l8 : t.f8.length ≤ c8
  g8 : Kd.F (Kd.int .u8) W ok A8 t.f8.length t.f8
theorem TFs.fk {W : World} {ok : Nat → Prop} {t : Tok} {A4 : Option Addr} {c4 : Nat} {A6 : Option Addr} {c6 : Nat} {A7 : Option Addr} {c7 : Nat} {A8 : Option Addr} {c8 : Nat} (h : TFs W ok t A4 c4 A6 c6 A7 c7 A8 c8) : Kd.FK kTok W ok t (tokV t A4 c4 A6 c6 A7 c7 A8 c8).toList := k40_mkF W ok t h.l4 h.g4 h.l6 h.g6 h.l7 h.g7 h.l8 h.g8
theorem TFs.step {W W1 : World} {ok : Nat → Prop} {t : Tok} {A4 : Option Addr} {c4 : Nat} {A6 : Option Addr} {c6 : Nat} {A7 : Option Addr} {c7 : Nat} {A8 : Option Addr} {c8 : Nat} (h : TFs W ok t A4 c4 A6 c6 A7 c7 A8 c8) (hm : ∀ k, ok k → k < W.heap.size → W1.heap[k]? = W.heap[k]?) : TFs W1 ok t A4 c4 A6 c6 A7 c7 A8 c8 := ⟨h.l4, Kd.F_step h.g4 hm, h.l6, Kd.F_step h.g6 hm, h.l7, Kd.F_step h.g7 hm, h.l8, Kd.F_step h.g8 hm⟩
theorem TFs.mono {W : World} {ok ok' : Nat → Prop} {t : Tok} {A4 : Option Addr} {c4 : Nat} {A6 : Option Addr} {c6 : Nat} {A7 : Option Addr} {c7 : Nat} {A8 : Option Addr} {c8 : Nat} (h : TFs W ok t A4 c4 A6 c6 A7 c7 A8 c8) (hm : ∀ k, ok k → ok' k) : TFs W ok' t A4 c4 A6 c6 A7 c7 A8 c8 := ⟨h.l4, Kd.F_mono h.g4 hm, h.l6, Kd.F_mono h.g6 hm, h.l7, Kd.F_mono h.g7 hm, h.l8, Kd.F_mono h.g8 hm⟩
theorem TFs.open_ {W : World} {ok : Nat → Prop} {t : Tok} {T : Array Value} (h : Kd.FK kTok W ok t T.toList) : ∃ A4 c4 A6 c6 A7 c7 A8 c8, T = tokV t A4 c4 A6 c6 A7 c7 A8 c8 ∧ TFs W ok t A4 c4 A6 c6 A7 c7 A8 c8 := by
  obtain ⟨A4, c4, A6, c6, A7, c7, A8, c8, he, l4, g4, l6, g6, l7, g7, l8, g8⟩ := k40_openF h; exact ⟨A4, c4, A6, c6, A7, c7, A8, c8, by rw [← Array.toArray_toList (xs := T), he], l4, g4, l6, g6, l7, g7, l8, g8⟩
theorem TFs.cut {W : World} {ok : Nat → Prop} {t : Tok} {A4 : Option Addr} {c4 : Nat} {A6 : Option Addr} {c6 : Nat} {A7 : Option Addr} {c7 : Nat} {A8 : Option Addr} {c8 : Nat} (h : TFs W ok t A4 c4 A6 c6 A7 c7 A8 c8) : TFs W ok (few12 t) A4 c4 A6 c6 A7 c7 A8 c8 := ⟨h.l4, h.g4, Nat.le_trans (by show (t.f6.take 12).length ≤ _; rw [List.length_take]; omega) h.l6, F_takeMin h.g6 12, h.l7, h.g7, h.l8, h.g8⟩
structure RFs (W : World) (ok : Nat → Prop) (l : List S32) (A : Option Addr) (c : Nat) : Prop where
  l4 : l.length ≤ c
  g4 : Kd.F k32 W ok A l.length l
theorem RFs.step {W W1 : World} {ok : Nat → Prop} {l : List S32} {A : Option Addr} {c : Nat} (h : RFs W ok l A c) (hm : ∀ k, ok k → k < W.heap.size → W1.heap[k]? = W.heap[k]?) : RFs W1 ok l A c := ⟨h.l4, Kd.F_step h.g4 hm⟩
theorem RFs.cut {W : World} {ok : Nat → Prop} {l : List S32} {A : Option Addr} {c : Nat} (h : RFs W ok l A c) (n : Nat) : RFs W ok (l.take n) A c := ⟨Nat.le_trans (by rw [List.length_take]; omega) h.l4, F_takeMin h.g4 n⟩
abbrev ev3 (x : Evt) (t u : Tok) : Evt := { x with f2 := { x.f2 with f6 := t }, f3 := { x.f3 with f2 := u } }
theorem fewE_fk {W : World} {ok : Nat → Prop} {x : Evt} {A14 : Option Addr} {c14 : Nat} {A20 : Option Addr} {c20 : Nat} {A22 : Option Addr} {c22 : Nat} {A23 : Option Addr} {c23 : Nat} {A24 : Option Addr} {c24 : Nat} {A32 : Option Addr} {c32 : Nat} {A34 : Option Addr} {c34 : Nat} {A35 : Option Addr} {c35 : Nat} {A36 : Option Addr} {c36 : Nat} (hr : RFs W ok x.f2.f4 A14 c14) (ht : TFs W ok (fewT x.f2.f6) A20 c20 A22 c22 A23 c23 A24 c24) (hu : TFs W ok (fewT x.f3.f2) A32 c32 A34 c34 A35 c35 A36 c36) : Kd.FK kEvt W ok (fewE x) (evN (ev3 x (fewT x.f2.f6) (fewT x.f3.f2)) (x.f2.f4.take 6).length ((fewT x.f2.f6).f6.take 12).length ((fewT x.f3.f2).f6.take 12).length A14 c14 A20 c20 A22 c22 A23 c23 A24 c24 A32 c32 A34 c34 A35 c35 A36 c36).toList :=
  k46_mkF W ok (fewE x) (hr.cut 6).l4 (hr.cut 6).g4 ht.cut.l4 ht.cut.g4 ht.cut.l6 ht.cut.g6 ht.cut.l7 ht.cut.g7 ht.cut.l8 ht.cut.g8 hu.cut.l4 hu.cut.g4 hu.cut.l6 hu.cut.g6 hu.cut.l7 hu.cut.g7 hu.cut.l8 hu.cut.g8
set_option maxRecDepth 100000 in
set_option maxHeartbeats 8000000 in
theorem few_calls (w : World) (A : Option Addr) (c : Nat) (l : List Evt) (hc : l.length ≤ c) (h : Kd.C kEvt w A l.length l) :
    Calls Tryd.prog 6 #[.slice A l.length c] w fun e w' => ∃ A' c', e = .returned (.slice A' (few l).length c') ∧ (few l).length ≤ c' ∧ Kd.C kEvt w' A' (few l).length (few l) ∧ Below w.heap.size w w' := by
  have hmax := h.2.1; have HF := Lib.hid (Kd.C_F (d := kEvt) hpEvt h); have HC := Lib.hid hc; clear hc h; go_enter Tryd.func6, Tryd.ntmps6
  go_wp2_with fail
  go_loopg [3, 4] (30 + 1) (fun kq v3 v4 w' => ∃ (i : Nat) (Cs : List (Array Value)), v4 = .int .i64 i ∧ Hid (kq = 30 + 1 - i) ∧ Hid (i ≤ 30 ∧ i ≤ l.length) ∧ Hid (Kd.R (kRaw 37) 46 w' w.heap.size (fun _ => True) v3 Cs) ∧ Hid (Cs.length = i) ∧ Hid (∀ (j : Nat) (x : Evt) (C : Array Value), (l.take i)[j]? = some x → Cs[j]? = some C → Kd.FK kEvt w' (fun k => True ∧ some k ≠ v3.ownBlock) (fewE x) C.toList) ∧ Hid (Below w.heap.size w w'))
  case atStart => exact ⟨0, [], rfl, Lib.hid rfl, Lib.hid ⟨Nat.zero_le _, Nat.zero_le _⟩, Lib.hid (Kd.R_nil _ _ _ _ _), Lib.hid rfl, Lib.hid (fun j x C h => by simp at h), Lib.hid (Below.refl _ _)⟩
  case round =>
    obtain ⟨i, Cs, rfl, HKq, HI, HR, HCl, HFa, HB⟩ := hrel
    by_cases hi : i < l.length ∧ i < 30
    · have d1 : decide ((i : Int) < (l.length : Int)) = true := decide_eq_true (by omega)
      have d2 : decide (i < l.length) = true := decide_eq_true hi.1; have d3 : decide ((i : Int) < 30) = true := decide_eq_true (by omega); have d4 : decide (i < 30) = true := decide_eq_true hi.2
      have wrapI : wrap64 ((i : Int) + 1) = ((i + 1 : Nat) : Int) := by unfold wrap64; omega
      obtain ⟨ad, cs, rfl, -, hK, hcell0, -⟩ := Kd.F_get HF.out z46 (i : Int) (by omega) (by omega)
      have hx : l.getD (i : Int).toNat z46 = l[i]'hi.1 := by
        rw [show (i : Int).toNat = i from rfl]; simp [List.getD, List.getElem?_eq_getElem hi.1]
      obtain ⟨x, hxe⟩ : ∃ x, x = l.getD (i : Int).toNat z46 := ⟨_, rfl⟩
      rw [← hxe] at hK
      have htk : l.take (i + 1) = l.take i ++ [x] := by rw [hxe, hx, List.take_add_one, List.getElem?_eq_getElem hi.1]; rfl
      obtain ⟨A14, c14, A20, c20, A22, c22, A23, c23, A24, c24, A32, c32, A34, c34, A35, c35, A36, c36, rfl, l14, g14, l20, g20, l22, g22, l23, g23, l24, g24, l32, g32, l34, g34, l35, g35, l36, g36⟩ := k46_openF hK; have HRr := Lib.hid (RFs.mk l14 g14); have HT := Lib.hid (TFs.mk l20 g20 l22 g22 l23 g23 l24 g24); have HU := Lib.hid (TFs.mk l32 g32 l34 g34 l35 g35 l36 g36)
      have HCell := Lib.hid (show ∀ j v, (evN x x.f2.f4.length x.f2.f6.f6.length x.f3.f2.f6.length A14 c14 A20 c20 A22 c22 A23 c23 A24 c24 A32 c32 A34 c34 A35 c35 A36 c36)[j]? = some v → wr.cell? ((ad.add (i * 37)).add j) = some v from fun j v hv => by
        rw [Addr.add_add]
        exact Qas HB.out (hcell0 j v (by rw [← Array.getElem?_toList] at hv; exact hv)))
      have q1 : (0 : Int) ≤ (i : Int) := by omega
      have q2 : (i : Int) < (l.length : Int) := by omega
      have HI2 := Lib.hid hi; have HTk := Lib.hid htk
      obtain ⟨n14, hn14⟩ : ∃ n, n = (x.f2.f4.take 6).length := ⟨_, rfl⟩
      have H14 := Lib.hid hn14; have hn := hn14.trans (take_min _ _); have HN := Lib.hid hn; clear hn14 hn hi hx hxe htk hK hcell0 l14 g14 l20 g20 l22 g22 l23 g23 l24 g24 l32 g32 l34 g34 l35 g35 l36 g36
      go_upto_if 24 with (first | (refine Qah rfl 46 (.tmp 18) rfl _ rfl (evN x x.f2.f4.length x.f2.f6.f6.length x.f3.f2.f6.length A14 c14 A20 c20 A22 c22 A23 c23 A24 c24 A32 c32 A34 c34 A35 c35 A36 c36) _ HCell.out Tryd.underlying46 rfl (by kernel_rfl) ?_) | (refine QaU rfl 46 (.tmp 5) (.tmp 19) rfl rfl rfl (evN x x.f2.f4.length x.f2.f6.f6.length x.f3.f2.f6.length A14 c14 A20 c20 A22 c22 A23 c23 A24 c24 A32 c32 A34 c34 A35 c35 A36 c36) rfl (by kernel_rfl) rfl (by simp [Value.oneCell']) ?_))
      go_cut [] from 20 to 30 (fun wc => wc = wr.alloc (.cells (evN x n14 x.f2.f6.f6.length x.f3.f2.f6.length A14 c14 A20 c20 A22 c22 A23 c23 A24 c24 A32 c32 A34 c34 A35 c35 A36 c36) 46))
      case first =>
        by_cases h : 6 < x.f2.f4.length
        · have p1 : 6 ≤ c14 := by have := HRr.out.l4; omega
          have p2 : (6 : Int) ≤ (c14 : Int) := by omega
          have e1 : decide ((6 : Int) < (x.f2.f4.length : Int)) = true := decide_eq_true (by omega); have e2 : decide (6 < x.f2.f4.length) = true := decide_eq_true h; obtain rfl : n14 = 6 := HN.out.trans (if_pos h); clear h; simp only [e1]
          go_wp2_with fail
          go_meet
          case rel => rfl
        · have e1 : decide ((6 : Int) < (x.f2.f4.length : Int)) = false := decide_eq_false (by omega)
          have e2 : decide (6 < x.f2.f4.length) = false := decide_eq_false h; obtain rfl : n14 = x.f2.f4.length := HN.out.trans (if_neg h); clear h; simp only [e1]
          go_wp2_with fail
          go_meet
          case rel => rfl
      case rest =>
      obtain rfl := hcut; have hB1 := Qau wr (.cells (evN x n14 x.f2.f6.f6.length x.f3.f2.f6.length A14 c14 A20 c20 A22 c22 A23 c23 A24 c24 A32 c32 A34 c34 A35 c35 A36 c36) 46); have hL1 : Below wr.heap.size wr (wr.alloc (.cells (evN x n14 x.f2.f6.f6.length x.f3.f2.f6.length A14 c14 A20 c20 A22 c22 A23 c23 A24 c24 A32 c32 A34 c34 A35 c35 A36 c36) 46)) := Qad (Below.refl _ _) _; have hS1 : wr.heap.size < (wr.alloc (.cells (evN x n14 x.f2.f6.f6.length x.f3.f2.f6.length A14 c14 A20 c20 A22 c22 A23 c23 A24 c24 A32 c32 A34 c34 A35 c35 A36 c36) 46)).heap.size := QaP hB1; have hww := HB.out.size
      have hold : ∀ W : World, Below wr.heap.size wr W → Below w.heap.size w W := fun W h => Qab HB.out h
      generalize wr.alloc (.cells (evN x n14 x.f2.f6.f6.length x.f3.f2.f6.length A14 c14 A20 c20 A22 c22 A23 c23 A24 c24 A32 c32 A34 c34 A35 c35 A36 c36) 46) = W1 at hB1 hL1 hS1 ⊢
      have HB1 := Lib.hid hB1; have HL1 := Lib.hid hL1; have HS1 := Lib.hid hS1; have HOld := Lib.hid hold; have HWW := Lib.hid hww; have HT1 := Lib.hid (HT.out.step (fun k hk hlt => (hold W1 hL1).block k hlt)); have HU1 := Lib.hid (HU.out.step (fun k hk hlt => (hold W1 hL1).block k hlt)); have HR1 := Lib.hid (HRr.out.step (fun k hk hlt => (hold W1 hL1).block k hlt)); clear hB1 hL1 hS1 hold hww d1 d2 d3 d4 q1 q2
      go_upto_region 9 with (first | (refine Qah rfl 40 (.tmp 32) rfl _ rfl (tokV x.f2.f6 A20 c20 A22 c22 A23 c23 A24 c24) _ (seg_range HB1.out 16 9 (tokV x.f2.f6 A20 c20 A22 c22 A23 c23 A24 c24) rfl) Tryd.underlying40 rfl (by kernel_rfl) ?_) | (go_at_call 10; refine (fewTok_calls W1 _ x.f2.f6 (tokV x.f2.f6 A20 c20 A22 c22 A23 c23 A24 c24) HT1.out.fk).mono ?_; rintro e w3 ⟨T3, rfl, hT3, hb3⟩; obtain ⟨B20, d20, B22, d22, B23, d23, B24, d24, rfl, gT3⟩ := TFs.open_ hT3; have HT3 := Lib.hid gT3; have HB3 := Lib.hid hb3; have HE3 := Lib.hid (Qac HB1.out hb3); clear hT3 gT3 hb3) | (refine wpList_putSeg rfl 40 (.tmp 36) (.tmp 34) rfl HE3.out rfl (tokV (fewT x.f2.f6) B20 d20 B22 d22 B23 d23 B24 d24) rfl (by kernel_rfl) (by simp) (by simp [Value.oneCell']) (evN (ev3 x (fewT x.f2.f6) x.f3.f2) n14 (fewT x.f2.f6).f6.length x.f3.f2.f6.length A14 c14 B20 d20 B22 d22 B23 d23 B24 d24 A32 c32 A34 c34 A35 c35 A36 c36) rfl ?_))
      have hE4 := setRow_heap w3 wr.heap.size (evN x n14 x.f2.f6.f6.length x.f3.f2.f6.length A14 c14 A20 c20 A22 c22 A23 c23 A24 c24 A32 c32 A34 c34 A35 c35 A36 c36) (evN (ev3 x (fewT x.f2.f6) x.f3.f2) n14 (fewT x.f2.f6).f6.length x.f3.f2.f6.length A14 c14 B20 d20 B22 d22 B23 d23 B24 d24 A32 c32 A34 c34 A35 c35 A36 c36) 46 (0, 0) HE3.out
      have hm4 : ∀ k, k ≠ wr.heap.size → (w3.setRow wr.heap.size (evN (ev3 x (fewT x.f2.f6) x.f3.f2) n14 (fewT x.f2.f6).f6.length x.f3.f2.f6.length A14 c14 B20 d20 B22 d22 B23 d23 B24 d24 A32 c32 A34 c34 A35 c35 A36 c36)).heap[k]? = w3.heap[k]? := fun k hk => setRow_other w3 _ k _ hk
      have hL4 : Below wr.heap.size wr (w3.setRow wr.heap.size (evN (ev3 x (fewT x.f2.f6) x.f3.f2) n14 (fewT x.f2.f6).f6.length x.f3.f2.f6.length A14 c14 B20 d20 B22 d22 B23 d23 B24 d24 A32 c32 A34 c34 A35 c35 A36 c36)) := below_setRowW (Qab HL1.out HB3.out) (Nat.le_refl _) _
      generalize w3.setRow wr.heap.size (evN (ev3 x (fewT x.f2.f6) x.f3.f2) n14 (fewT x.f2.f6).f6.length x.f3.f2.f6.length A14 c14 B20 d20 B22 d22 B23 d23 B24 d24 A32 c32 A34 c34 A35 c35 A36 c36) = W4 at hE4 hm4 hL4 ⊢
      have HE4 := Lib.hid hE4; have HL4 := Lib.hid hL4; have HT4 := Lib.hid (show TFs W4 (fun k => k < w.heap.size ∨ wr.heap.size < k) (fewT x.f2.f6) B20 d20 B22 d22 B23 d23 B24 d24 from (HT3.out.mono (fun k hk => hk.elim Or.inl (fun h => Or.inr (Nat.lt_of_lt_of_le HS1.out h)))).step (fun k hk hlt => hm4 k (by have := HWW.out; omega))); have HU4 := Lib.hid (HU1.out.step (W1 := W4) (fun k hk hlt => ((hm4 k (by have := HWW.out; omega)).trans (HB3.out.block k (by omega))))); have HR4 := Lib.hid (HR1.out.step (W1 := W4) (fun k hk hlt => ((hm4 k (by have := HWW.out; omega)).trans (HB3.out.block k (by omega))))); clear hE4 hm4 hL4 HT3 HE3 HT1 HU1 HR1 HB1 HB3 HL1; have HS4 := Lib.hid (QaP HE4.out)
      go_upto_region 10 with (first | (refine Qah rfl 40 (.tmp 38) rfl _ rfl (tokV x.f3.f2 A32 c32 A34 c34 A35 c35 A36 c36) _ (seg_range HE4.out 28 9 (tokV x.f3.f2 A32 c32 A34 c34 A35 c35 A36 c36) rfl) Tryd.underlying40 rfl (by kernel_rfl) ?_) | (go_at_call 10; refine (fewTok_calls W4 _ x.f3.f2 (tokV x.f3.f2 A32 c32 A34 c34 A35 c35 A36 c36) HU4.out.fk).mono ?_; rintro e w5 ⟨T5, rfl, hT5, hb5⟩; obtain ⟨B32, d32, B34, d34, B35, d35, B36, d36, rfl, gT5⟩ := TFs.open_ hT5; have HT5 := Lib.hid gT5; have HB5 := Lib.hid hb5; have HE5 := Lib.hid (Qac HE4.out hb5); clear hT5 gT5 hb5) | (refine wpList_putSeg rfl 40 (.tmp 42) (.tmp 40) rfl HE5.out rfl (tokV (fewT x.f3.f2) B32 d32 B34 d34 B35 d35 B36 d36) rfl (by kernel_rfl) (by simp) (by simp [Value.oneCell']) (evN (ev3 x (fewT x.f2.f6) (fewT x.f3.f2)) n14 (fewT x.f2.f6).f6.length (fewT x.f3.f2).f6.length A14 c14 B20 d20 B22 d22 B23 d23 B24 d24 B32 d32 B34 d34 B35 d35 B36 d36) rfl ?_))
      have hE6 := setRow_heap w5 wr.heap.size (evN (ev3 x (fewT x.f2.f6) x.f3.f2) n14 (fewT x.f2.f6).f6.length x.f3.f2.f6.length A14 c14 B20 d20 B22 d22 B23 d23 B24 d24 A32 c32 A34 c34 A35 c35 A36 c36) (evN (ev3 x (fewT x.f2.f6) (fewT x.f3.f2)) n14 (fewT x.f2.f6).f6.length (fewT x.f3.f2).f6.length A14 c14 B20 d20 B22 d22 B23 d23 B24 d24 B32 d32 B34 d34 B35 d35 B36 d36) 46 (0, 0) HE5.out
      have hm6 : ∀ k, k ≠ wr.heap.size → (w5.setRow wr.heap.size (evN (ev3 x (fewT x.f2.f6) (fewT x.f3.f2)) n14 (fewT x.f2.f6).f6.length (fewT x.f3.f2).f6.length A14 c14 B20 d20 B22 d22 B23 d23 B24 d24 B32 d32 B34 d34 B35 d35 B36 d36)).heap[k]? = w5.heap[k]? := fun k hk => setRow_other w5 _ k _ hk
      have hL6 : Below wr.heap.size wr (w5.setRow wr.heap.size (evN (ev3 x (fewT x.f2.f6) (fewT x.f3.f2)) n14 (fewT x.f2.f6).f6.length (fewT x.f3.f2).f6.length A14 c14 B20 d20 B22 d22 B23 d23 B24 d24 B32 d32 B34 d34 B35 d35 B36 d36)) := below_setRowW (Qab HL4.out HB5.out) (Nat.le_refl _) _
      generalize w5.setRow wr.heap.size (evN (ev3 x (fewT x.f2.f6) (fewT x.f3.f2)) n14 (fewT x.f2.f6).f6.length (fewT x.f3.f2).f6.length A14 c14 B20 d20 B22 d22 B23 d23 B24 d24 B32 d32 B34 d34 B35 d35 B36 d36) = W6 at hE6 hm6 hL6 ⊢
      have HE6 := Lib.hid hE6; have HL6 := Lib.hid hL6; have HU6 := Lib.hid (show TFs W6 (fun k => k < w.heap.size ∨ wr.heap.size < k) (fewT x.f3.f2) B32 d32 B34 d34 B35 d35 B36 d36 from (HT5.out.mono (fun k hk => hk.elim Or.inl (fun h => Or.inr (Nat.lt_of_lt_of_le HS4.out h)))).step (fun k hk hlt => hm6 k (by have := HWW.out; omega))); have HT6 := Lib.hid (HT4.out.step (W1 := W6) (fun k hk hlt => ((hm6 k (by have := HWW.out; omega)).trans (HB5.out.block k (by omega))))); have HR6 := Lib.hid (HR4.out.step (W1 := W6) (fun k hk hlt => ((hm6 k (by have := HWW.out; omega)).trans (HB5.out.block k (by omega))))); clear hE6 hm6 hL6 HT5 HE5 HT4 HU4 HR4 HB5 HE4
      obtain ⟨n34, hn34⟩ : ∃ n, n = ((fewT x.f3.f2).f6.take 12).length := ⟨_, rfl⟩
      obtain ⟨n22, hn22⟩ : ∃ n, n = ((fewT x.f2.f6).f6.take 12).length := ⟨_, rfl⟩
      have H34 := Lib.hid hn34; have H22 := Lib.hid hn22; have HN34 := Lib.hid (hn34.trans (take_min _ _)); have HN22 := Lib.hid (hn22.trans (take_min _ _))
      obtain ⟨m34, hm34⟩ : ∃ m, m = (fewT x.f3.f2).f6.length := ⟨_, rfl⟩
      obtain ⟨m22, hm22⟩ : ∃ m, m = (fewT x.f2.f6).f6.length := ⟨_, rfl⟩
      have HC34 := Lib.hid (show m34 ≤ d34 ∧ m34 ≤ 9223372036854775807 from by rw [hm34]; exact ⟨HU6.out.l6, Kd.F_max HU6.out.g6⟩); have HC22 := Lib.hid (show m22 ≤ d22 ∧ m22 ≤ 9223372036854775807 from by rw [hm22]; exact ⟨HT6.out.l6, Kd.F_max HT6.out.g6⟩); have HE7 := Lib.hid (show W6.heap[wr.heap.size]? = some (.cells (evN (ev3 x (fewT x.f2.f6) (fewT x.f3.f2)) n14 m22 m34 A14 c14 B20 d20 B22 d22 B23 d23 B24 d24 B32 d32 B34 d34 B35 d35 B36 d36) 46 (0, 0)) from by rw [hm34, hm22]; exact HE6.out); rw [← hm34] at HN34; rw [← hm22] at HN22; clear hn34 hn22 hm34 hm22 HE6; have s34 := Qaa HE7.out 34 (v := .slice B34 m34 d34) rfl; have sf := QaF HE7.out 34
      go_upto_if 48 with fail
      go_cut [] from 43 to 56 (fun wc => wc.heap[wr.heap.size]? = some (.cells (evN (ev3 x (fewT x.f2.f6) (fewT x.f3.f2)) n14 m22 n34 A14 c14 B20 d20 B22 d22 B23 d23 B24 d24 B32 d32 B34 d34 B35 d35 B36 d36) 46 (0, 0)) ∧ (∀ k, k ≠ wr.heap.size → wc.heap[k]? = W6.heap[k]?) ∧ Below wr.heap.size wr wc)
      case first =>
        by_cases h : 12 < m34
        · have p1 : 12 ≤ d34 := by have := HC34.out.1; omega
          have p2 : (12 : Int) ≤ (d34 : Int) := by omega
          have e1 : decide ((12 : Int) < (m34 : Int)) = true := decide_eq_true (by omega); have e2 : decide (12 < m34) = true := decide_eq_true h; obtain rfl : n34 = 12 := HN34.out.trans (if_pos h); clear h; simp only [e1]
          go_wp2_with fail
          go_meet
          case rel => exact ⟨blk_put HE7.out 34 _ rfl, fun k hk => Below.heap_setCell _ _ _ k hk, HL6.out.setCell (p := ⟨wr.heap.size, 34, none⟩) (Nat.le_refl _) _⟩
        · have e1 : decide ((12 : Int) < (m34 : Int)) = false := decide_eq_false (by omega)
          have e2 : decide (12 < m34) = false := decide_eq_false h; obtain rfl : n34 = m34 := HN34.out.trans (if_neg h); clear h; simp only [e1]
          go_wp2_with fail
          go_meet
          case rel => exact ⟨HE7.out, fun _ _ => rfl, HL6.out⟩
      case rest =>
      obtain ⟨E1, E2, E3⟩ := hcut; have HE8 := Lib.hid E1; have HM8 := Lib.hid E2; have HL8 := Lib.hid E3; clear E1 E2 E3 s34 sf; have s22 := Qaa HE8.out 22 (v := .slice B22 m22 d22) rfl; have sf := QaF HE8.out 22
      go_upto_if 62 with fail
      go_cut [] from 57 to 70 (fun wc => wc.heap[wr.heap.size]? = some (.cells (evN (ev3 x (fewT x.f2.f6) (fewT x.f3.f2)) n14 n22 n34 A14 c14 B20 d20 B22 d22 B23 d23 B24 d24 B32 d32 B34 d34 B35 d35 B36 d36) 46 (0, 0)) ∧ (∀ k, k ≠ wr.heap.size → wc.heap[k]? = W6.heap[k]?) ∧ Below wr.heap.size wr wc)
      case first =>
        by_cases h : 12 < m22
        · have p1 : 12 ≤ d22 := by have := HC22.out.1; omega
          have p2 : (12 : Int) ≤ (d22 : Int) := by omega
          have e1 : decide ((12 : Int) < (m22 : Int)) = true := decide_eq_true (by omega); have e2 : decide (12 < m22) = true := decide_eq_true h; obtain rfl : n22 = 12 := HN22.out.trans (if_pos h); clear h; simp only [e1]
          go_wp2_with fail
          go_meet
          case rel => exact ⟨blk_put HE8.out 22 _ rfl, fun k hk => (Below.heap_setCell _ _ _ k hk).trans (HM8.out k hk), HL8.out.setCell (p := ⟨wr.heap.size, 22, none⟩) (Nat.le_refl _) _⟩
        · have e1 : decide ((12 : Int) < (m22 : Int)) = false := decide_eq_false (by omega)
          have e2 : decide (12 < m22) = false := decide_eq_false h; obtain rfl : n22 = m22 := HN22.out.trans (if_neg h); clear h; simp only [e1]
          go_wp2_with fail
          go_meet
          case rel => exact ⟨HE8.out, HM8.out, HL8.out⟩
      case rest =>
      obtain ⟨E1, E2, E3⟩ := hcut; have HE9 := Lib.hid E1; have HL9 := Lib.hid E3
      have hfk : Kd.FK kEvt wc (fun k => k < w.heap.size ∨ wr.heap.size < k) (fewE x) (evN (ev3 x (fewT x.f2.f6) (fewT x.f3.f2)) n14 n22 n34 A14 c14 B20 d20 B22 d22 B23 d23 B24 d24 B32 d32 B34 d34 B35 d35 B36 d36).toList := by
        have hm : ∀ k, (fun k => k < w.heap.size ∨ wr.heap.size < k) k → k < W6.heap.size → wc.heap[k]? = W6.heap[k]? := fun k hk _ => E2 k (by have := HWW.out; omega)
        rw [H14.out, H22.out, H34.out]; exact fewE_fk ((fun h => ⟨h.l4, Kd.F_mono h.g4 (fun k hk => Or.inl hk)⟩) (HR6.out.step (W1 := wc) (fun k hk hlt => hm k (Or.inl hk) hlt))) (HT6.out.step hm) (HU6.out.step hm)
      have oE : ∀ u ∈ (evN (ev3 x (fewT x.f2.f6) (fewT x.f3.f2)) n14 n22 n34 A14 c14 B20 d20 B22 d22 B23 d23 B24 d24 B32 d32 B34 d34 B35 d35 B36 d36).toList, u.oneCell' = true := by simp [Value.oneCell']
      have hEb := E1; have HFk := Lib.hid hfk; have HEb := Lib.hid hEb; have HR9 := Lib.hid (Kd.Qba HR.out E3); have HB9 := Lib.hid (Qab HB.out E3); clear hfk hEb E1 E2 E3 s22 sf HE9 HT6 HU6 HR6 HE8 HM8 HL8 HE7 HL6 H14 H22 H34 HN34 HN22 HC34 HC22 HN HS4 HS1 HL4 HB9 HOld HT HU HRr HCell; have HB9 := Lib.hid (Qab HB.out HL9.out); have HOE := Lib.hid oE; clear oE
      go_wp2_with (first | (refine Qah rfl 46 (.tmp 5) rfl _ rfl (evN (ev3 x (fewT x.f2.f6) (fewT x.f3.f2)) n14 n22 n34 A14 c14 B20 d20 B22 d22 B23 d23 B24 d24 B32 d32 B34 d34 B35 d35 B36 d36) _ (range0 HEb.out) Tryd.underlying46 rfl (by kernel_rfl) ?_) | ((with_reducible refine QaO (b := .append) (xs := #[.tmp 71, .tmp 73]) rfl ?_); at_builtin; refine Kd.R_append (kRaw 37) (w0 := w) w.heap.size rfl (.tmp 71) (.tmp 73) 22 46 (.agg zEvV) 520 rfl Tryd.underlying22 infoEvt rfl (by decide) (by omega) _ Cs (evN (ev3 x (fewT x.f2.f6) (fewT x.f3.f2)) n14 n22 n34 A14 c14 B20 d20 B22 d22 B23 d23 B24 d24 B32 d32 B34 d34 B35 d35 B36 d36) (evN (ev3 x (fewT x.f2.f6) (fewT x.f3.f2)) n14 n22 n34 A14 c14 B20 d20 B22 d22 B23 d23 B24 d24 B32 d32 B34 d34 B35 d35 B36 d36).toList (fun _ => True) (fun _ => False) rfl (by first | rfl | exact congrArg (fun n => Value.slice (some ⟨n, 0, none⟩) 1 1) (Array.size_push _).symm) ?aP (fun _ hk => hk.elim) (fun _ _ => trivial) ?aO ?aB ?aS ?aL ?_; (case aP => exact ⟨rfl, rfl, HOE.out⟩); (case aB => exact HB9.out); (case aO => exact HR9.out); (case aS => exact QaZ HB9.out); (case aL => have := HCl.out; have := HI.out; omega); intro v2 w2 ho hb hg hat; have HO := Lib.hid ho; have HBo := Lib.hid hb; have HGr := Lib.hid hg; have HAt := Lib.hid hat; clear ho hb hg hat))
      go_roundg (30 + 1 - (i + 1))
      case measure => have := HKq.out; have := HI2.out; omega
      case rel =>
        refine ⟨i + 1, Cs ++ [(evN (ev3 x (fewT x.f2.f6) (fewT x.f3.f2)) n14 n22 n34 A14 c14 B20 d20 B22 d22 B23 d23 B24 d24 B32 d32 B34 d34 B35 d35 B36 d36)], by first | rfl | exact congrArg _ wrapI, Lib.hid rfl, Lib.hid (by have := HI2.out; omega), HO, Lib.hid (by rw [List.length_append, HCl.out]; rfl), Lib.hid ?_, HBo⟩; intro j y C h1 h2; rw [HTk.out] at h1
        have htl : (l.take i).length = i := by rw [List.length_take]; have := HI2.out; omega
        by_cases hj : j < i
        · rw [List.getElem?_append_left (by omega)] at h1
          rw [List.getElem?_append_left (by rw [HCl.out]; exact hj)] at h2; exact foot_after (Kd.FK_below (HFa.out j y C h1 h2) HL9.out) HGr.out HAt.out
        · rw [List.getElem?_append_right (by omega)] at h1
          rw [List.getElem?_append_right (by rw [HCl.out]; omega), HCl.out] at h2; rw [htl] at h1
          cases hz : j - i with
          | zero =>
            rw [hz] at h1 h2; obtain rfl := Option.some.inj h1; obtain rfl := Option.some.inj h2; refine foot_after (Kd.FK_mono HFk.out (fun k hk => ⟨trivial, fun he => ?_⟩)) HGr.out HAt.out; have a1 := Kd.R_base HR.out k he.symm; have a2 := Kd.R_lt HR.out k he.symm; omega
          | succ j =>
            rw [hz] at h1; simp at h1
    · have hcase : (decide (i < l.length) = false) ∨ (decide (i < l.length) = true ∧ decide (i < 30) = false) := by
        by_cases h1 : i < l.length
        · exact .inr ⟨decide_eq_true h1, decide_eq_false (fun h2 => hi ⟨h1, h2⟩)⟩
        · exact .inl (decide_eq_false h1)
      have hi8 : i = (few l).length := by
        unfold few; rw [List.length_map, take_min]; have := HI.out
        split <;> omega
      have hlf : ∀ (j : Nat) (y : Evt) (C : Array Value), (few l)[j]? = some y → Cs[j]? = some C → Kd.FK kEvt wr (fun _ => True) y C.toList := fun j y C h1 h2 => by
        unfold few at h1; rw [List.getElem?_map] at h1; obtain ⟨x, hx, rfl⟩ := Option.map_eq_some_iff.mp h1; refine Kd.FK_mono (HFa.out j x C ?_ h2) (fun _ _ => trivial); have hj : j < Cs.length := (List.getElem?_eq_some_iff.mp h2).1; rw [HCl.out] at hj; rw [List.getElem?_take] at hx ⊢; rw [if_pos hj]
        split at hx
        · exact hx
        · cases hx
      obtain ⟨A9, c9, e9, hc9, -⟩ := Kd.R_reads HR.out; rw [HCl.out] at e9 hc9; subst e9; have hR6 : Kd.R (kRaw 37) 46 wr w.heap.size (fun k => w.heap.size ≤ k) (.slice A9 i c9) Cs := Kd.R_mono (Kd.R_bound HR.out) (fun k hk => hk.2.1); have f7 := Kd.F_now (raw_F (d := kEvt) (ok := fun _ => True) hR6 rfl (by rw [HCl.out, hi8]) hlf); have HEnd := Lib.hid (show (few l).length ≤ c9 ∧ Kd.C kEvt wr A9 (few l).length (few l) from ⟨by rw [← hi8]; exact hc9, f7⟩); have HI8 := Lib.hid hi8
      have d1 : decide ((i : Int) < (l.length : Int)) = decide (i < l.length) := by rw [decide_eq_decide]; omega
      have d3 : decide ((i : Int) < 30) = decide (i < 30) := by rw [decide_eq_decide]; omega
      clear hi hi8 hlf hc9 hR6 f7
      rcases hcase with d2 | ⟨d2, d4⟩
      · rw [d2] at d1
        clear d3
        go_wp2_with fail
        refine bodyPost_ret (results_tmp rfl _ _ _) rfl ?_; exact ⟨A9, c9, by rw [← HI8.out]; rfl, HEnd.out.1, HEnd.out.2, HB.out⟩
      · rw [d2] at d1
        rw [d4] at d3
        go_wp2_with fail
        refine bodyPost_ret (results_tmp rfl _ _ _) rfl ?_; exact ⟨A9, c9, by rw [← HI8.out]; rfl, HEnd.out.1, HEnd.out.2, HB.out⟩
section
open Go.ChangeMaps (setBlock)
set_option maxRecDepth 100000 in
set_option maxHeartbeats 8000000 in
theorem add_calls (w0 w : World) (c0 bg bl bn : Nat) (v : Value) (n : Nat) (m : AM) (x : Evt) (E : Array Value) (hM : CAt w0 w c0 bg bl bn v n m) (hE : EvA w x E) (hx : EvOk x) (hn : n + 2 ≤ 1000000) :
    Calls Tryd.prog 17 #[.pointer (some ⟨c0, 0, none⟩), .agg E] w fun e w' => e = .returned (.bool (addF m x).1) ∧ CRan w0 c0 bg bl bn (n + 2) (addF m x).2 w' := by
  obtain ⟨A14, c14, A20, c20, A22, c22, A23, c23, A24, c24, A32, c32, A34, c34, A35, c35, A36, c36, rfl, -, -, -⟩ := hE.form; have HM := Lib.hid hM; have HX := Lib.hid hx; have HN := Lib.hid hn; clear hM hE hx hn; go_enter Tryd.func17, Tryd.ntmps17
  go_wp2_with fail
  obtain ⟨y, hy⟩ : ∃ y, y = gaveC x := ⟨_, rfl⟩
  generalize hW : (w.alloc (Obj.cells (evV x A14 c14 A20 c20 A22 c22 A23 c23 A24 c24 A32 c32 A34 c34 A35 c35 A36 c36) 46)).alloc _ = W
  obtain ⟨BE, BY, HB⟩ := made2 hW
  replace BY : W.heap[w.heap.size + 1]? = some (.cells (credV y) 34 (0, 0)) := by rw [hy]; exact BY
  have HM1 := Lib.hid (HM.out.below HB); have HBY := Lib.hid BY; have HBE := Lib.hid BE; have hmay : cred_May.f y.f0.f0 y.f0.f1 y.f1 y.f2 y.f3 y.f4.f0 y.f4.f1 y.f5.f0 y.f5.f1 = some (credMay y) := credMay_is y (by rw [hy]; exact HX.out.gave); have HMay := Lib.hid (fun V => cred_May.calls _ _ _ _ _ _ _ _ _ _ V hmay); have hd := HX.out.d; have g0 := Qag (QaY HM1.out.blk).2.2.1; have g1 := Qag (Qaj BE 1 rfl); obtain ⟨y0, y1, y2, y3, y4, y5, y6, y7, y8⟩ := cred_cells BY; have g2 := Qag y0; have g3 := Qag y1; have g4 := Qag y2; have g5 := Qag y3; have g6 := Qag y4; have g7 := Qag y5; have g8 := Qag y6; have g9 := Qag y7; have g10 := Qag y8; have g11 := bw_num HM1.out.l hd
  have hy1 : y.f0.f1 = x.f3.f1 := by rw [hy]; rfl
  have HY := Lib.hid hy; have HY1 := Lib.hid hy1
  have hcs : (decide (y.f0.f1 ≤ m.last x.f1) = true ∧ addF m x = (false, m)) ∨ (decide (y.f0.f1 ≤ m.last x.f1) = false ∧ credMay y = false ∧ addF m x = (false, m)) ∨ (decide (y.f0.f1 ≤ m.last x.f1) = false ∧ credMay y = true ∧ addF m x = (true, { m with last := updI m.last x.f1 x.f3.f1, given := updG m.given ⟨x.f1, x.f3.f1⟩ (y, -1) })) := by
    rw [hy1]; unfold addF; rw [← hy]
    by_cases h1 : x.f3.f1 ≤ m.last x.f1
    · exact .inl ⟨decide_eq_true h1, if_pos (.inl h1)⟩
    · cases h2 : credMay y with
      | false => exact .inr (.inl ⟨decide_eq_false h1, rfl, if_pos (.inr rfl)⟩)
      | true => exact .inr (.inr ⟨decide_eq_false h1, rfl, if_neg (by simp [h1])⟩)
  clear hW BE BY HB hmay hd hy hy1 y0 y1 y2 y3 y4 y5 y6 y7 y8
  rcases hcs with ⟨p0, hf⟩ | ⟨p0, p1, hf⟩ | ⟨p0, p1, hf⟩
  · have HF := Lib.hid hf
    clear hf; refine Qai (by kernel_rfl) (by kernel_rfl) ?_
    repeat (go_big_quiet_step (with_reducible refine Qa8 (HMay.out _)))
    refine wpQuiet_nil ?_; rintro _ ⟨u, rfl⟩
    go_wp2_with fail
    go_ret; exact ⟨by rw [HF.out]; rfl, by rw [HF.out]; exact ⟨_, (HM1.out.below u.ok).mono (Nat.le_add_right n 2)⟩⟩
  · have HF := Lib.hid hf
    rw [p1] at HMay; clear hf p1; refine Qai (by kernel_rfl) (by kernel_rfl) ?_
    repeat (go_big_quiet_step (with_reducible refine Qa8 (HMay.out _)))
    refine wpQuiet_nil ?_; rintro _ ⟨u, rfl⟩
    go_wp2_with fail
    go_ret; exact ⟨by rw [HF.out]; rfl, by rw [HF.out]; exact ⟨_, (HM1.out.below u.ok).mono (Nat.le_add_right n 2)⟩⟩
  · have HF := Lib.hid hf
    rw [p1] at HMay; clear hf p1; refine Qai (by kernel_rfl) (by kernel_rfl) ?_
    repeat (go_big_quiet_step (with_reducible refine Qa8 (HMay.out _)))
    refine wpQuiet_nil ?_; rintro _ ⟨u, rfl⟩
    go_wp2_with fail
    have HMv := Lib.hid (HM1.out.below u.ok); have HBEv := Lib.hid (Qac HBE.out u.ok); have HBYv := Lib.hid (Qac HBY.out u.ok); clear g0 g1 g2 g3 g4 g5 g6 g7 g8 g9 g10 g11
    generalize u.now = V at HMv HBEv HBYv ⊢
    clear u; have g0 := Qag (QaY HMv.out.blk).2.2.1; have g1 := Qag (Qaj HBEv.out 1 (v := .int .i64 x.f1) rfl); have g2 := Qag (cred_cells HBYv.out).2.1; obtain ⟨O, hr, hc⟩ := HMv.out.putL HX.out.d y.f0.f1 (small_maxA (by have := HN.out; omega)); have HC := Lib.hid hc; have HR := Lib.hid hr; clear hr hc; refine start_ (n := 10) (S := fun w' => ∃ u : BW V, w' = u.now) (ds := [9]) #[ff,ff,ff,ff,ff,ff,ff,ff,ff,ff] (by kernel_rfl) rfl rfl ⟨⟨_, Qat (Below.refl _ _)⟩, rfl⟩ (fun hHeld => ?_); obtain ⟨u0, hu0⟩ := hHeld; rw [hu0]; clear hu0
    have hHeld : ∃ u : BW V, u0.now = u.now := ⟨u0, rfl⟩
    refine kz 0 32 ?_; refine kz 1 33 ?_; refine kz 2 34 ?_; refine kb 3 35 ?_; refine kz 4 36 ?_; refine kb 5 37 ?_; refine kz 6 38 ?_; refine kz 7 39 ?_; refine kb 8 40 ?_; have hr := HR.out _ u0.ok; refine ks 9 ?_; refine done_ (by kernel_rfl) ?_; have HM2 := Lib.hid (HC.out _ u0.ok)
    have hne : w.heap.size ≠ bl ∧ w.heap.size + 1 ≠ bl := by have := HM.out.l.lt; omega
    have HBY2 := Lib.hid ((Qax hne.2).trans (Qac HBYv.out u0.ok) : (setBlock u0.now bl O).heap[w.heap.size + 1]? = _); clear hr hne g0 g1 g2 HR HC; clear hHeld
    generalize setBlock u0.now bl O = V2 at HM2 HBY2 ⊢
    go_wp2_with fail
    obtain ⟨y0, y1, y2, y3, y4, y5, y6, y7, y8⟩ := cred_cells HBY2.out; have g0 := Qag (QaY HM2.out.blk).2.1; have g2 := Qag y0; have g3 := Qag y1; have g4 := Qag y2; have g5 := Qag y3; have g6 := Qag y4; have g7 := Qag y5; have g8 := Qag y6; have g9 := Qag y7; have g10 := Qag y8; clear y0 y1 y2 y3 y4 y5 y6 y7 y8; obtain ⟨O2, hr, hc⟩ := HM2.out.putG (i := y.f0) (by rw [HY.out]; exact ⟨HX.out.d, HX.out.rs⟩) (y, -1) (small_maxA (by have := HN.out; omega)); unfold encID encG at hr; have HC := Lib.hid hc; have HR := Lib.hid hr; clear hr hc; refine start_ (n := 9) (S := fun w' => ∃ u : BW V2, w' = u.now) (ds := [8]) #[ff,ff,ff,ff,ff,ff,ff,ff,ff] (by kernel_rfl) rfl rfl ⟨⟨_, Qat (Below.refl _ _)⟩, rfl⟩ (fun hHeld => ?_); obtain ⟨u1, hu1⟩ := hHeld; rw [hu1]; clear hu1
    have hHeld : ∃ u : BW V2, u1.now = u.now := ⟨u1, rfl⟩
    refine kz 0 41 ?_; refine kz 1 42 ?_; refine kz 2 43 ?_; refine kb 3 44 ?_; refine kz 4 45 ?_; refine kb 5 46 ?_; refine kb 6 47 ?_; refine kz 7 48 ?_; have hr := HR.out _ u1.ok; refine ks 8 ?_; refine done_ (by kernel_rfl) ?_; have HM3 := Lib.hid (HC.out _ u1.ok); clear hr g0 g2 g3 g4 g5 g6 g7 g8 g9 g10 hHeld
    go_wp2_with fail
    go_ret; refine ⟨by rw [HF.out]; rfl, ?_⟩; rw [HF.out]; have h3 := HM3.out; rw [HY1.out, show y.f0 = (⟨x.f1, x.f3.f1⟩ : ID) by rw [HY.out]; rfl] at h3; exact ⟨_, h3⟩

set_option maxRecDepth 100000 in
set_option maxHeartbeats 8000000 in
theorem revoke_calls (w0 w : World) (c0 bg bl bn : Nat) (v : Value) (n : Nat) (m : AM) (x : Evt) (E : Array Value) (hM : CAt w0 w c0 bg bl bn v n m) (hE : EvA w x E) (hx : EvOk x) (hn : n + 2 ≤ 1000000) :
    Calls Tryd.prog 18 #[.pointer (some ⟨c0, 0, none⟩), .agg E] w fun e w' => e = .returned (.bool (revokeF m x).1) ∧ CRan w0 c0 bg bl bn (n + 2) (revokeF m x).2 w' := by
  obtain ⟨A14, c14, A20, c20, A22, c22, A23, c23, A24, c24, A32, c32, A34, c34, A35, c35, A36, c36, rfl, h14, hT6, hT2⟩ := hE.form; have HM := Lib.hid hM; have HX := Lib.hid hx; have HN := Lib.hid hn; clear hM hE hx hn h14 hT6 hT2; go_enter Tryd.func18, Tryd.ntmps18
  go_wp2_with fail
  obtain ⟨id, hid⟩ : ∃ id, id = (⟨x.f1, x.f2.f2⟩ : ID) := ⟨_, rfl⟩
  generalize hW : (w.alloc (Obj.cells (evV x A14 c14 A20 c20 A22 c22 A23 c23 A24 c24 A32 c32 A34 c34 A35 c35 A36 c36) 46)).alloc _ = W
  obtain ⟨BE, BI, HB⟩ := made2 hW
  replace BI : W.heap[w.heap.size + 1]? = some (.cells (idV id) 30 (0, 0)) := by rw [hid]; exact BI
  have HM1 := Lib.hid (HM.out.below HB); have HBI := Lib.hid BI; have x0 := Qaj BE 0 (v := .int .i64 x.f0) rfl; have HX0 := Lib.hid x0
  obtain ⟨gg, hgg⟩ : ∃ gg, gg = (m.given id).getD zG := ⟨_, rfl⟩
  obtain ⟨U, hU, sU, oU⟩ := encG_agg gg
  have hok : okID id := by rw [hid]; exact ⟨HX.out.d, HX.out.s⟩
  have HOK := Lib.hid hok; have f0 := Qag (QaY HM1.out.blk).2.1; have f1 := Qag (Qaj BI 0 (v := .int .i64 id.f0) rfl); have f2 := Qag (Qaj BI 1 (v := .int .i64 id.f1) rfl); have f3 := bw_look HM1.out.g hok; rw [← hgg, hU] at f3
  have hrv : revokeF m x = match m.given id with
    | none => (false, m)
    | some g => if 0 ≤ g.2 then (false, m) else (true, { m with given := updG m.given id (g.1, x.f0) }) := by rw [hid]; rfl
  have HRV := Lib.hid hrv; clear hW BE BI HB hid hok x0 hrv; refine start_ (n := 12) (S := fun w' => ∃ u : BW W, w' = u.now) (ds := [10]) #[ff,ff,ff,ff,ff,ff,ff,ff,ff,ff,ff,ff] (by kernel_rfl) rfl rfl ⟨⟨_, Qat (Below.refl _ _)⟩, rfl⟩ (fun hHeld => ?_); obtain ⟨u0, hu0⟩ := hHeld; rw [hu0]; clear hu0
  have hHeld : ∃ u : BW W, u0.now = u.now := ⟨u0, rfl⟩
  refine kz 0 15 ?_; refine kz 1 16 ?_; refine kz 2 17 ?_; refine kb 3 18 ?_; refine kb 4 19 ?_; refine kb 5 20 ?_; refine kz 6 14 ?_; refine kz 7 21 ?_; refine kz 8 22 ?_; refine kv 9 6 ⟨⟨_, Qad u0.ok _⟩, rfl⟩ ?_; refine ks 10 ?_ (hr := run_putNew rfl rfl U rfl (by rw [sU]; kernel_rfl) (by rw [sU]; try rfl) oU); refine kz 11 7 ?_; refine done_ (by kernel_rfl) ?_; have hlt : W.heap.size ≤ u0.now.heap.size := u0.ok.size
  generalize hb6 : u0.now.heap.size = b6 at hlt ⊢
  generalize hW6 : u0.now.alloc (Obj.cells U 66) = W6
  have B6 : W6.heap[b6]? = some (.cells U 66 (0, 0)) := by rw [← hW6, ← hb6]; exact Qau _ _
  have HB6 := Lib.hid (show Below W.heap.size W W6 by rw [← hW6]; exact Qad u0.ok _); have HM6 := Lib.hid (HM1.out.below HB6.out); have HBI6 := Lib.hid (Qac HBI.out HB6.out); have x0 := Qas HB6.out HX0.out; obtain ⟨-, -, -, -, -, -, -, -, -, k9⟩ := given_cells hU B6; have kf9 := QaF B6 9; have HB6b := Lib.hid B6; have HLT := Lib.hid hlt; clear hW6 f0 f1 f2 f3 hHeld B6 hb6 hlt
  cases h0 : m.given id with
  | none =>
    have hs := HRV.out; rw [h0] at hs; have HS := Lib.hid (show revokeF m x = (false, m) from hs); clear hs; rw [show (none : Option (Cred × Int)).isSome = false from rfl]; clear hgg h0
    go_wp2_with fail
    go_ret; exact ⟨by rw [HS.out]; rfl, by rw [HS.out]; exact ⟨_, HM6.out.mono (Nat.le_add_right n 2)⟩⟩
  | some g =>
    obtain rfl : gg = g := by rw [hgg, h0]; rfl
    rw [show (some gg).isSome = true from rfl]; have hs := HRV.out; rw [h0] at hs; clear hgg h0
    by_cases h1 : 0 ≤ gg.2
    · have p0 : decide (0 ≤ gg.2) = true := decide_eq_true h1
      have HS := Lib.hid (show revokeF m x = (false, m) from hs.trans (if_pos h1)); clear h1 hs
      go_wp2_with fail
      go_ret; exact ⟨by rw [HS.out]; rfl, by rw [HS.out]; exact ⟨_, HM6.out.mono (Nat.le_add_right n 2)⟩⟩
    · have p0 : decide (0 ≤ gg.2) = false := decide_eq_false h1
      have HS := Lib.hid (show revokeF m x = (true, { m with given := updG m.given id (gg.1, x.f0) }) from hs.trans (if_neg h1)); clear h1 hs
      go_wp2_with fail
      obtain ⟨U2, hU2, -, -⟩ := encG_agg (gg.1, x.f0)
      have B7 : (W6.setCell ⟨b6, 9, none⟩ (.int .i64 x.f0)).heap[b6]? = some (.cells U2 66 (0, 0)) := blk_put HB6b.out 9 _ (by
        unfold encG at hU hU2
        injection hU with hU
        injection hU2 with hU2
        subst hU; subst hU2
        rfl)
      have hW7 : Below W.heap.size W (W6.setCell ⟨b6, 9, none⟩ (.int .i64 x.f0)) := HB6.out.setCell (p := ⟨b6, 9, none⟩) HLT.out _; have HM7 := Lib.hid (HM1.out.below hW7); have HBI7 := Lib.hid (Qac HBI.out hW7); have HB7 := Lib.hid B7; clear hW7 B7 x0 k9 kf9 hU
      generalize W6.setCell ⟨b6, 9, none⟩ (.int .i64 x.f0) = W7 at HM7 HBI7 HB7 ⊢
      obtain ⟨k0, k1, k2, k3, k4, k5, k6, k7, k8, k9⟩ := given_cells hU2 HB7.out; have f0 := Qag (QaY HM7.out.blk).2.1; have f1 := Qag (Qaj HBI7.out 0 (v := .int .i64 id.f0) rfl); have f2 := Qag (Qaj HBI7.out 1 (v := .int .i64 id.f1) rfl); have g0 := Qag k0; have g1 := Qag k1; have g2 := Qag k2; have g3 := Qag k3; have g4 := Qag k4; have g5 := Qag k5; have g6 := Qag k6; have g7 := Qag k7; have g8 := Qag k8; have g9 := Qag k9; obtain ⟨O2, hr, hc⟩ := HM7.out.putG (i := id) HOK.out (gg.1, x.f0) (small_maxA (by have := HN.out; omega)); unfold encID encG at hr; have HC := Lib.hid hc; have HR := Lib.hid hr; clear hr hc k0 k1 k2 k3 k4 k5 k6 k7 k8 k9 hU2; refine start_ (n := 7) (S := fun w' => ∃ u : BW W7, w' = u.now) (ds := [6]) #[ff,ff,ff,ff,ff,ff,ff] (by kernel_rfl) rfl rfl ⟨⟨_, Qat (Below.refl _ _)⟩, rfl⟩ (fun hHeld => ?_); obtain ⟨u1, hu0⟩ := hHeld; rw [hu0]; clear hu0
      have hHeld : ∃ u : BW W7, u1.now = u.now := ⟨u1, rfl⟩
      refine kz 0 33 ?_; refine kz 1 34 ?_; refine kz 2 35 ?_; refine kb 3 36 ?_; refine kb 4 37 ?_; refine kb 5 38 ?_; have hr := HR.out _ u1.ok; refine ks 6 ?_; refine done_ (by kernel_rfl) ?_; have HM8 := Lib.hid (HC.out _ u1.ok); clear hr f0 f1 f2 g0 g1 g2 g3 g4 g5 g6 g7 g8 g9 hHeld
      go_wp2_with fail
      go_ret; exact ⟨by rw [HS.out]; rfl, by rw [HS.out]; exact ⟨_, HM8.out.mono (Nat.le_succ _)⟩⟩

set_option maxRecDepth 100000 in
set_option maxHeartbeats 8000000 in
theorem verify_calls (w0 w : World) (c0 bg bl bn : Nat) (v : Value) (n : Nat) (m : AM) (x : Evt) (E : Array Value) (hM : CAt w0 w c0 bg bl bn v n m) (hE : EvA w x E) (hx : EvOk x) (hn : n + 2 ≤ 1000000) (hg : GOk m) :
    Calls Tryd.prog 20 #[.pointer (some ⟨c0, 0, none⟩), .agg E] w fun e w' => e = .returned (.bool (verifyF m x)) ∧ CRan w0 c0 bg bl bn (n + 2) m w' := by
  obtain ⟨A14, c14, A20, c20, A22, c22, A23, c23, A24, c24, A32, c32, A34, c34, A35, c35, A36, c36, rfl, h14, hT6, hT2⟩ := hE.form; have HM := Lib.hid hM; have HX := Lib.hid hx; have HN := Lib.hid hn; have HG := Lib.hid hg; have HE := Lib.hid hE; have H14 := Lib.hid h14; have HT6 := Lib.hid hT6; obtain ⟨Ts, hR, hn1, hn2, hTs⟩ := hM.t; obtain ⟨A9, c9, rfl, hc9, hC9⟩ := Kd.R_reads hR; have HC9 := Lib.hid hC9; have HTs := Lib.hid hTs; have HN2 := Lib.hid hn2; clear hM hE hx hn h14 hT6 hT2 hg hR hn1 hTs hC9; go_enter Tryd.func20, Tryd.ntmps20
  go_upto_region 2 with fail
  generalize hW : (w.alloc (Obj.cells (evV x A14 c14 A20 c20 A22 c22 A23 c23 A24 c24 A32 c32 A34 c34 A35 c35 A36 c36) 46)).alloc _ = W
  obtain ⟨BE, BT, HB⟩ := made2 hW; replace BT : W.heap[w.heap.size + 1]? = some (.cells (tokV x.f2.f6 A20 c20 A22 c22 A23 c23 A24 c24) 40 (0, 0)) := BT; have HM1 := Lib.hid (HM.out.below HB); have hT6W : TokA W x.f2.f6 (tokV x.f2.f6 A20 c20 A22 c22 A23 c23 A24 c24) := HT6.out.below HB
  have HCo := Lib.hid (containsTok_calls W A9 c9 (w.heap.size + 1) Ts (m.issued.map fun u => headB x.f2.f6 u) (by rw [List.length_map, HN2.out]) (Kd.QaN HC9.out HB) hc9 (fun V hV k T y hT hy => by
    rw [List.getElem?_map] at hy; obtain ⟨u, hu, rfl⟩ := Option.map_eq_some_iff.mp hy
    exact verify1_calls V _ x.f2.f6 u _ T (Qac BT hV) (hT6W.below hV) ((HTs.out k u T hu hT).below (Qab (Qab HM.out.old HB) hV))))
  rw [List.any_map] at HCo; have hc4 := (QaY HM1.out.blk).2.2.2.2; rw [show Ts.length = m.issued.length from HN2.out] at hc4 HCo; have x1 := Qaj BE 1 (v := .int .i64 x.f1) rfl; obtain ⟨t0, -⟩ := tok_cells BT; have HBw := Lib.hid HB; have HBE := Lib.hid BE; have HBT := Lib.hid BT; have HT6W := Lib.hid hT6W
  have hcs : (x.f2.f6.f0 ≠ x.f1 ∧ verifyF m x = true) ∨ (x.f2.f6.f0 = x.f1 ∧ m.issued.any (id ∘ fun u => headB x.f2.f6 u) = false ∧ verifyF m x = true) ∨ (x.f2.f6.f0 = x.f1 ∧ m.issued.any (id ∘ fun u => headB x.f2.f6 u) = true ∧ verifyF m x = (match x.f2.f4 with | [] => false | r :: _ => decide (r ∈ x.f2.f6.f4) && standsF m x.f2.f6 x)) := by
    unfold verifyF
    by_cases h1 : x.f2.f6.f0 = x.f1
    · cases h2 : m.issued.any (id ∘ fun u => headB x.f2.f6 u) with
      | false => exact .inr (.inl ⟨h1, rfl, if_neg (fun h => by rw [show (m.issued.any fun u => headB x.f2.f6 u) = false from h2] at h; exact absurd h.2 (by decide))⟩)
      | true => exact .inr (.inr ⟨h1, rfl, if_pos ⟨h1, h2⟩⟩)
    · exact .inl ⟨h1, if_neg (fun h => h1 h.1)⟩
  clear hW BE BT HB hT6W
  rcases hcs with ⟨h1, hf⟩ | ⟨h1, h2, hf⟩ | ⟨h1, h2, hf⟩
  · have p0 : (x.f2.f6.f0 != x.f1) = true := by simpa using h1
    have HF := Lib.hid hf; clear h1 hf
    go_wp2_with fail
    go_ret; exact ⟨by rw [HF.out]; rfl, ⟨_, HM1.out.mono (Nat.le_add_right n 2)⟩⟩
  · have p0 : (x.f2.f6.f0 != x.f1) = false := by simp [h1]
    have HF := Lib.hid hf; rw [h2] at HCo; clear h1 h2 hf
    go_wp2_with (go_at_call 25; refine HCo.out.mono ?_; rintro e w3 ⟨rfl, hb3⟩; have HB3 := Lib.hid hb3; clear hb3)
    go_ret; exact ⟨by rw [HF.out]; rfl, ⟨_, (HM1.out.below HB3.out).mono (Nat.le_add_right n 2)⟩⟩
  have p0 : (x.f2.f6.f0 != x.f1) = false := by simp [h1]
  rw [h2] at HCo; clear h1 h2
  go_wp2_with (go_at_call 25; refine HCo.out.mono ?_; rintro e w3 ⟨rfl, hb3⟩; have HB3 := Lib.hid hb3; clear hb3)
  have BE3 := Qac HBE.out HB3.out; have BT3 := Qac HBT.out HB3.out; have HM3 := Lib.hid (HM1.out.below HB3.out); have HT3 := Lib.hid (HT6W.out.below HB3.out); have HSt := Lib.hid (fun u : BW w3 => stands_calls w0 u.now c0 bg bl bn _ n m x.f2.f6 x _ (evV x A14 c14 A20 c20 A22 c22 A23 c23 A24 c24 A32 c32 A34 c34 A35 c35 A36 c36) (HM3.out.below u.ok) (HT3.out.below u.ok) ((HE.out.below (Qab HBw.out HB3.out)).below u.ok) HX.out.n1 HX.out.i1 (fun i _ => HG.out.cred i)); have e1 := Qag (Qaj BE3 1 rfl); have e14 := Qag (Qaj BE3 14 rfl); have a4 := Qag (Qaj BT3 4 rfl)
  have hlE := fun (u : BW w3) => QaQ (Qac BE3 u.ok)
  have hlT := fun (u : BW w3) => QaQ (Qac BT3 u.ok)
  have HLE := Lib.hid hlE; have HLT := Lib.hid hlT; obtain ⟨l14, g14⟩ := H14.out; have g14' := Kd.QaN g14 (Qab HBw.out HB3.out); clear hlE hlT BE3 BT3 hc4 x1 t0 p0 g14
  cases hx4 : x.f2.f4 with
  | nil =>
    have d0 : decide ((0 : Int) < (x.f2.f4.length : Int)) = false := by rw [hx4]; rfl
    have d1 : decide (0 < x.f2.f4.length) = false := by rw [hx4]; rfl
    have HF2 := Lib.hid (show verifyF m x = false by rw [hf, hx4]); clear hf hx4 g14' l14; refine Qai (by kernel_rfl) (by kernel_rfl) ?_
    repeat (go_big_quiet_step (fail))
    refine wpQuiet_nil ?_; rintro _ ⟨u, rfl⟩
    go_wp2_with fail
    go_ret; exact ⟨by rw [HF2.out]; rfl, ⟨_, (HM3.out.below u.ok).mono (Nat.le_add_right n 2)⟩⟩
  | cons r rest =>
    have hlen : 0 < x.f2.f4.length := by rw [hx4]; simp
    have d0 : decide ((0 : Int) < (x.f2.f4.length : Int)) = true := decide_eq_true (by omega); have d1 : decide (0 < x.f2.f4.length) = true := decide_eq_true hlen
    have d2 : (0 : Int) < (x.f2.f4.length : Int) := by omega
    obtain ⟨ad, rfl, r0, r1⟩ := at_T32 g14' 0 (by omega) d2
    have hr : QaG x.f2.f4 0 = r := by rw [hx4]; rfl
    rw [hr, show (0 : Int).toNat * 2 = 0 from rfl] at r0 r1; rw [addr_zeroA] at r0 r1; have q0 := Qag r0; have q1 := Qag r1; obtain ⟨K, k⟩ := containsRole_ev x.f2.f6.f4 HT3.out.rows.1.2.2.1 r; have k := k K (Nat.le_refl _); obtain ⟨⟨m4, h4⟩, -⟩ := HT3.out.rows; have HC2 := Lib.hid (fun u : BW w3 => api_Role_28.calls K A20 c20 x.f2.f6.f4 r.f0 r.f1 _ u.now (Kd.QaN h4 u.ok) m4 k)
    have hv : verifyF m x = (decide (r ∈ x.f2.f6.f4) && standsF m x.f2.f6 x) := by rw [hf, hx4]
    clear hf g14' l14 hlen r0 r1 hr k h4 m4 hx4
    cases hm : decide (r ∈ x.f2.f6.f4) with
    | false =>
      have HF2 := Lib.hid (show verifyF m x = false by rw [hv, hm]; rfl); rw [hm] at HC2; clear hv hm; refine Qai (by kernel_rfl) (by kernel_rfl) ?_
      repeat (go_big_quiet_step (with_reducible refine Qa8 (HC2.out _)))
      refine wpQuiet_nil ?_; rintro _ ⟨u, rfl⟩
      go_wp2_with fail
      go_ret; exact ⟨by rw [HF2.out]; rfl, ⟨_, (HM3.out.below u.ok).mono (Nat.le_add_right n 2)⟩⟩
    | true =>
      have HF2 := Lib.hid (show verifyF m x = standsF m x.f2.f6 x by rw [hv, hm]; rfl); rw [hm] at HC2; clear hv hm; refine Qai (by kernel_rfl) (by kernel_rfl) ?_
      repeat (first | (refine Qbh 40 40 (.tmp 5) (tokV x.f2.f6 A20 c20 A22 c22 A23 c23 A24 c24) _ HLT.out _ Tryd.underlying40 rfl (by kernel_rfl) rfl rfl rfl rfl (by simp only [Act.put, put_]; rfl) ?_) | (refine Qbh 41 46 (.tmp 3) (evV x (some ad) c14 A20 c20 A22 c22 A23 c23 A24 c24 A32 c32 A34 c34 A35 c35 A36 c36) _ HLE.out _ Tryd.underlying46 rfl (by kernel_rfl) rfl rfl rfl rfl (by simp only [Act.put, put_]; rfl) ?_) | go_big_quiet_step (first | (with_reducible refine Qa8 (HC2.out _)) | (with_reducible refine Qa8 (HSt.out _))))
      refine wpQuiet_nil ?_; rintro _ ⟨u, rfl⟩
      go_wp2_with fail
      go_ret; exact ⟨by rw [HF2.out]; rfl, ⟨_, (HM3.out.below u.ok).mono (Nat.le_add_right n 2)⟩⟩

theorem infoTok : (Tryd.prog.info? 40).map (fun i => (i.zero, i.size, i.bytes)) = some (some (.agg #[.int .i64 0, .int .i64 0, .int .i64 0, .string ⟨#[]⟩, .slice none 0 0, .int .i64 0, .slice none 0 0, .slice none 0 0, .slice none 0 0]), 9, 144) := by kernel_rfl
set_option maxRecDepth 100000 in
set_option maxHeartbeats 8000000 in
theorem issue_calls (w0 w : World) (c0 bg bl bn : Nat) (v : Value) (n : Nat) (m : AM) (x : Evt) (E : Array Value) (hM : CAt w0 w c0 bg bl bn v n m) (hE0 : EvA w0 x E) (hx : EvOk x) (hn : n + 2 ≤ 1000000) (hg : GOk m) :
    Calls Tryd.prog 19 #[.pointer (some ⟨c0, 0, none⟩), .agg E] w fun e w' => e = .returned (.bool (issueF m x).1) ∧ CRan w0 c0 bg bl bn (n + 2) (issueF m x).2 w' := by
  have hE := hE0.below hM.old; obtain ⟨A14, c14, A20, c20, A22, c22, A23, c23, A24, c24, A32, c32, A34, c34, A35, c35, A36, c36, rfl, h14, hT6, hT2⟩ := hE.form; have HM := Lib.hid hM; have HX := Lib.hid hx; have HN := Lib.hid hn
  have hT0 : TokA w0 x.f3.f2 (tokV x.f3.f2 A32 c32 A34 c34 A35 c35 A36 c36) := by
    obtain ⟨_, _, _, _, _, _, _, _, _, _, _, _, _, _, _, _, _, _, he, _, _, h⟩ := hE0.form; have e4 : some (Value.slice A32 x.f3.f2.f4.length c32) = some _ := congrArg (fun T : Array Value => T[32]?) he; have e6 : some (Value.slice A34 x.f3.f2.f6.length c34) = some _ := congrArg (fun T : Array Value => T[34]?) he; have e7 : some (Value.slice A35 x.f3.f2.f7.length c35) = some _ := congrArg (fun T : Array Value => T[35]?) he; have e8 : some (Value.slice A36 x.f3.f2.f8.length c36) = some _ := congrArg (fun T : Array Value => T[36]?) he
    injection e4 with e4
    injection e4 with a4 _ b4
    injection e6 with e6
    injection e6 with a6 _ b6
    injection e7 with e7
    injection e7 with a7 _ b7
    injection e8 with e8
    injection e8 with a8 _ b8
    subst a4 b4 a6 b6 a7 b7 a8 b8; exact h
  have HT0 := Lib.hid hT0; have HG := Lib.hid hg; have HE := Lib.hid hE; have H14 := Lib.hid h14; have HT2 := Lib.hid hT2; clear hM hE hE0 hx hn h14 hT6 hT2 hg hT0; go_enter Tryd.func19, Tryd.ntmps19
  go_wp2_with fail
  generalize hW : (w.alloc (Obj.cells (evV x A14 c14 A20 c20 A22 c22 A23 c23 A24 c24 A32 c32 A34 c34 A35 c35 A36 c36) 46)).alloc _ = W
  obtain ⟨BE, BT, HB⟩ := made2 hW; replace BT : W.heap[w.heap.size + 1]? = some (.cells (tokV x.f3.f2 A32 c32 A34 c34 A35 c35 A36 c36) 40 (0, 0)) := BT; have HM1 := Lib.hid (HM.out.below HB); have HT1 := Lib.hid (HT2.out.below HB); have HBE := Lib.hid BE; have HBT := Lib.hid BT; have HLE := Lib.hid (fun (u : BW W) => QaQ (Qac BE u.ok)); have HLT := Lib.hid (fun (u : BW W) => QaQ (Qac BT u.ok)); have HSt := Lib.hid (fun u : BW W => stands_calls w0 u.now c0 bg bl bn v n m x.f3.f2 x _ (evV x A14 c14 A20 c20 A22 c22 A23 c23 A24 c24 A32 c32 A34 c34 A35 c35 A36 c36) (HM1.out.below u.ok) (HT1.out.below u.ok) ((HE.out.below HB).below u.ok) HX.out.n2 HX.out.i2 (fun i _ => HG.out.cred i)); obtain ⟨K, k⟩ := equalRole_ev x.f3.f2.f4 x.f2.f4 HT1.out.rows.1.2.2.1; have k := k K (Nat.le_refl _); have HEq := Lib.hid (fun u : BW W => (QaL.calls K A32 c32 x.f3.f2.f4 A14 c14 x.f2.f4 _ u.now (Kd.QaN HT1.out.rows.1.2 u.ok) HT1.out.rows.1.1 (Kd.QaN (Kd.QaN H14.out.2 HB) u.ok) H14.out.1 k).mono (fun e w' ⟨he, j, hj⟩ => (⟨he, by rw [hj]; exact Qak (Below.refl _ _) j⟩ : e = _ ∧ Below u.now.heap.size u.now w'))); have g0 := Qag (QaY HM1.out.blk).2.2.2.1; have g1 := bw_num HM1.out.k HX.out.d; have g2 := Qag (Qaj BE 1 (v := .int .i64 x.f1) rfl); have g3 := Qag (Qaj BE 13 (v := .string x.f2.f3) rfl); have g4 := Qag (Qaj BE 14 (v := .slice A14 x.f2.f4.length c14) rfl); obtain ⟨t0, -, t2, t3, t4, -⟩ := tok_cells BT
  have g5 := Qag t0; have g6 := Qag t2; have g7 := Qag t3; have g8 := Qag t4; clear hW BE BT HB t0 t2 t3 t4 k
  by_cases h0 : x.f3.f2.f0 = x.f1
  rotate_left
  · have p0 : (x.f3.f2.f0 != x.f1) = true := by simpa using h0
    have HF := Lib.hid (show issueF m x = (false, m) from if_neg (fun h => h0 h.1)); clear h0; refine Qai (by kernel_rfl) (by kernel_rfl) ?_
    repeat (go_big_quiet_step (fail))
    refine wpQuiet_nil ?_; rintro _ ⟨u, rfl⟩
    go_wp2_with fail
    go_ret; exact ⟨by rw [HF.out]; rfl, by rw [HF.out]; exact ⟨_, (HM1.out.below u.ok).mono (Nat.le_add_right n 2)⟩⟩
  have p0 : (x.f3.f2.f0 != x.f1) = false := by simp [h0]
  by_cases h1 : m.number x.f1 < x.f3.f2.f2
  rotate_left
  · have p1 : decide (x.f3.f2.f2 ≤ m.number x.f1) = true := decide_eq_true (by omega)
    have HF := Lib.hid (show issueF m x = (false, m) from if_neg (fun h => h1 h.2.1)); clear h0 h1; refine Qai (by kernel_rfl) (by kernel_rfl) ?_
    repeat (go_big_quiet_step (fail))
    refine wpQuiet_nil ?_; rintro _ ⟨u, rfl⟩
    go_wp2_with fail
    go_ret; exact ⟨by rw [HF.out]; rfl, by rw [HF.out]; exact ⟨_, (HM1.out.below u.ok).mono (Nat.le_add_right n 2)⟩⟩
  have p1 : decide (x.f3.f2.f2 ≤ m.number x.f1) = false := decide_eq_false (by omega)
  by_cases h2 : x.f3.f2.f3 = x.f2.f3
  rotate_left
  · have p2 : (x.f3.f2.f3.toList == x.f2.f3.toList) = false := (Lib.bytes_beq_false_iff _ _).mpr h2
    have HF := Lib.hid (show issueF m x = (false, m) from if_neg (fun h => h2 h.2.2.1)); clear h0 h1 h2; refine Qai (by kernel_rfl) (by kernel_rfl) ?_
    repeat (go_big_quiet_step (fail))
    refine wpQuiet_nil ?_; rintro _ ⟨u, rfl⟩
    go_wp2_with fail
    go_ret; exact ⟨by rw [HF.out]; rfl, by rw [HF.out]; exact ⟨_, (HM1.out.below u.ok).mono (Nat.le_add_right n 2)⟩⟩
  have p2 : (x.f3.f2.f3.toList == x.f2.f3.toList) = true := by rw [Lib.bytes_beq_iff]; exact h2
  by_cases h3 : x.f3.f2.f4 = x.f2.f4
  rotate_left
  · rw [decide_eq_false h3] at HEq
    have HF := Lib.hid (show issueF m x = (false, m) from if_neg (fun h => h3 h.2.2.2.1)); clear h0 h1 h2 h3; refine Qai (by kernel_rfl) (by kernel_rfl) ?_
    repeat (go_big_quiet_step (with_reducible refine Qa8 (HEq.out _)))
    refine wpQuiet_nil ?_; rintro _ ⟨u, rfl⟩
    go_wp2_with fail
    go_ret; exact ⟨by rw [HF.out]; rfl, by rw [HF.out]; exact ⟨_, (HM1.out.below u.ok).mono (Nat.le_add_right n 2)⟩⟩
  rw [decide_eq_true h3] at HEq
  cases h4 : standsF m x.f3.f2 x with
  | false =>
    have HF := Lib.hid (show issueF m x = (false, m) from if_neg (fun h => by rw [h4] at h; exact absurd h.2.2.2.2 (by decide))); rw [h4] at HSt; clear h0 h1 h2 h3 h4; refine Qai (by kernel_rfl) (by kernel_rfl) ?_
    repeat (first | (refine Qbh 45 40 (.tmp 5) (tokV x.f3.f2 A32 c32 A34 c34 A35 c35 A36 c36) _ HLT.out _ Tryd.underlying40 rfl (by kernel_rfl) rfl rfl rfl rfl (by simp only [Act.put, put_]; rfl) ?_) | (refine Qbh 46 46 (.tmp 3) (evV x A14 c14 A20 c20 A22 c22 A23 c23 A24 c24 A32 c32 A34 c34 A35 c35 A36 c36) _ HLE.out _ Tryd.underlying46 rfl (by kernel_rfl) rfl rfl rfl rfl (by simp only [Act.put, put_]; rfl) ?_) | go_big_quiet_step (first | (with_reducible refine Qa8 (HEq.out _)) | (with_reducible refine Qa8 (HSt.out _))))
    refine wpQuiet_nil ?_; rintro _ ⟨u, rfl⟩
    go_wp2_with fail
    go_ret; exact ⟨by rw [HF.out]; rfl, by rw [HF.out]; exact ⟨_, (HM1.out.below u.ok).mono (Nat.le_add_right n 2)⟩⟩
  | true =>
    have HF := Lib.hid (show issueF m x = (true, { m with number := updI m.number x.f1 x.f3.f2.f2, issued := m.issued ++ [x.f3.f2] }) from if_pos ⟨h0, h1, h2, h3, h4⟩); rw [h4] at HSt; clear h0 h1 h2 h3 h4; refine Qai (by kernel_rfl) (by kernel_rfl) ?_
    repeat (first | (refine Qbh 45 40 (.tmp 5) (tokV x.f3.f2 A32 c32 A34 c34 A35 c35 A36 c36) _ HLT.out _ Tryd.underlying40 rfl (by kernel_rfl) rfl rfl rfl rfl (by simp only [Act.put, put_]; rfl) ?_) | (refine Qbh 46 46 (.tmp 3) (evV x A14 c14 A20 c20 A22 c22 A23 c23 A24 c24 A32 c32 A34 c34 A35 c35 A36 c36) _ HLE.out _ Tryd.underlying46 rfl (by kernel_rfl) rfl rfl rfl rfl (by simp only [Act.put, put_]; rfl) ?_) | go_big_quiet_step (first | (with_reducible refine Qa8 (HEq.out _)) | (with_reducible refine Qa8 (HSt.out _))))
    refine wpQuiet_nil ?_; rintro _ ⟨u, rfl⟩
    go_wp2_with fail
    have HMv := Lib.hid (HM1.out.below u.ok); have HBEv := Lib.hid (Qac HBE.out u.ok); have HBTv := Lib.hid (Qac HBT.out u.ok); clear g0 g1 g2 g3 g4 g5 g6 g7 g8; clear HSt HEq HLE HLT HBE HBT
    generalize u.now = V at HMv HBEv HBTv ⊢
    clear u; have g0 := Qag (QaY HMv.out.blk).2.2.2.1; have g1 := Qag (Qaj HBEv.out 1 (v := .int .i64 x.f1) rfl); have g2 := Qag (tok_cells HBTv.out).2.2.1; obtain ⟨O, hr, hc⟩ := HMv.out.putK HX.out.d x.f3.f2.f2 (small_maxA (by have := HN.out; omega)); have HC := Lib.hid hc; have HR := Lib.hid hr; clear hr hc; refine start_ (n := 9) (S := fun w' => ∃ u : BW V, w' = u.now) (ds := [8]) #[ff,ff,ff,ff,ff,ff,ff,ff,ff] (by kernel_rfl) rfl rfl ⟨⟨_, Qat (Below.refl _ _)⟩, rfl⟩ (fun hHeld => ?_); obtain ⟨u0, hu0⟩ := hHeld; rw [hu0]; clear hu0
    have hHeld : ∃ u : BW V, u0.now = u.now := ⟨u0, rfl⟩
    refine kz 0 50 ?_; refine kz 1 51 ?_; refine kz 2 52 ?_; refine kb 3 53 ?_; refine kz 4 54 ?_; refine kb 5 55 ?_; refine kz 6 56 ?_; refine kb 7 57 ?_; have hr := HR.out _ u0.ok; refine ks 8 ?_; refine done_ (by kernel_rfl) ?_; have HM2 := Lib.hid (HC.out _ u0.ok)
    have hne : w.heap.size + 1 ≠ bn := by have := HM.out.k.lt; omega
    have HBT2 := Lib.hid ((Qax hne).trans (Qac HBTv.out u0.ok) : (setBlock u0.now bn O).heap[w.heap.size + 1]? = _); clear hr hne g0 g1 g2 HR HC hHeld
    generalize setBlock u0.now bn O = V2 at HM2 HBT2 ⊢
    go_wp2_with fail
    have g0 := Qag (QaY HM2.out.blk).2.2.2.2; have HLT := Lib.hid (fun (u : BW V2) => QaQ (Qac HBT2.out u.ok)); obtain ⟨Ts, hR, hn1, hl1, hTs⟩ := HM2.out.t; have HR2 := Lib.hid hR; have HTs := Lib.hid hTs; have HN1 := Lib.hid hn1; have HL1 := Lib.hid hl1; clear hR hn1 hl1 hTs; refine start_ (n := 11) (S := fun w' => ∃ u : BW V2, w' = u.now) (ds := [7, 10]) #[ff,ff,ff,ff,ff,ff,ff,ff,ff,ff,ff] (by kernel_rfl) rfl rfl ⟨⟨_, Qat (Below.refl _ _)⟩, rfl⟩ (fun hHeld => ?_); obtain ⟨u0, hu0⟩ := hHeld; rw [hu0]; clear hu0
    have hHeld : ∃ u : BW V2, u0.now = u.now := ⟨u0, rfl⟩
    refine kz 0 58 ?_; refine kz 1 59 ?_; refine kz 2 60 ?_; refine kz 3 61 ?_; refine kb 4 62 ?_; refine kb 5 63 ?_ (v := .agg (tokV x.f3.f2 A32 c32 A34 c34 A35 c35 A36 c36)) (hy := by rintro _ ⟨u, rfl⟩; exact run_load (HLT.out u) rfl rfl Tryd.underlying40 rfl (by kernel_rfl)); refine kv 6 64 ⟨⟨_, Qad u0.ok _⟩, rfl⟩ ?_; refine last_ (i := 7) (N := some 65) #[tt,tt,tt,tt,tt,tt,tt,tt,ff,ff,ff] rfl rfl (by kernel_rfl) (by decide) (fun K hK => ?_); refine Kd.R_append_step (kRaw 9) (w0 := w0) w0.heap.size (by rfl) (.tmp 62) (.tmp 64) 53 40 (.agg #[.int .i64 0, .int .i64 0, .int .i64 0, .string ⟨#[]⟩, .slice none 0 0, .int .i64 0, .slice none 0 0, .slice none 0 0, .slice none 0 0]) 144 rfl Tryd.underlying53 infoTok rfl (by decide) (by omega) v Ts (tokV x.f3.f2 A32 c32 A34 c34 A35 c35 A36 c36) [.int .i64 x.f3.f2.f0, .int .i64 x.f3.f2.f1, .int .i64 x.f3.f2.f2, .string x.f3.f2.f3, .slice A32 x.f3.f2.f4.length c32, .int .i64 x.f3.f2.f5, .slice A34 x.f3.f2.f6.length c34, .slice A35 x.f3.f2.f7.length c35, .slice A36 x.f3.f2.f8.length c36] (fun _ => True) (fun _ => False) rfl rfl ?aP (fun _ hk => hk.elim) (fun _ _ => trivial) ?aO ?aB ?aS ?aL ?_
    (case aP => exact ⟨rfl, rfl, by simp [Value.oneCell']⟩)
    (case aO => exact Kd.Qba HR2.out u0.ok)
    (case aB => exact Qab HM2.out.old u0.ok)
    (case aS => exact QaZ (Qab HM2.out.old u0.ok))
    (case aL => have := HN1.out; have := HN.out; omega)
    intro v6 w6 ho hb hg hat
    obtain ⟨hc6, HMi⟩ := (HM2.out.below u0.ok).putI HN1.out HL1.out HTs.out ho hg hb HT0.out; obtain ⟨A6x, n6, c6, rfl⟩ := slice_of ho; have B6 := hc6.trans (HM2.out.below u0.ok).blk; have k4 := (QaY B6).2.2.2.2; have kf := QaF B6 4; have HMi := Lib.hid HMi; clear ho hb hg hat hc6 B6 g0 hHeld; refine hK.out _ _ ?_; clear hK K; refine norm_ (a' := ?_) ?_ ?_; rotate_left
    · show Act.put _ (some 65) _ = _
      simp only [Act.put, put_]; rfl
    refine kz 8 66 ?_; refine kz 9 67 ?_; refine ks 10 ?_; refine done_ (by kernel_rfl) ?_; clear k4 kf
    go_wp2_with fail
    go_ret; exact ⟨by rw [HF.out]; rfl, by rw [HF.out]; exact ⟨_, HMi.out⟩⟩
end
end Go.Proofs.YtbjjonpkmplhbaaDoor.Pr
end
