/- The proof's own texts, joined: part 9. No conditions. -/
import Derived.Below
import Derived.Deep.Draws
import Derived.Deep.AppendLies
import Derived.Maps.AppendAt
import Derived.OwnWalk
import Derived.Laws.BytesArg
import Derived.Laws.MakeOwn
import Derived.Laws.OwnMore
import Derived.Deep.OwnRows
import Derived.Tactics
import Derived.Lib.ConvBytes
import Derived.Laws.Slices
import Derived.WalkKit
import Derived.KernelRfl
import Derived.RowKit3
import Derived.Deep.LoopGhost
import Derived.Deep.QuietTactic
import Derived.BigQuiet
import Derived.WideLaws
import Derived.Deep.DeepCutAuto
import Derived.Deep.CutBlock
import Derived.Deep.RegionHeld3
import Derived.Laws.Rows
import Derived.Lib.AppendStr
import Derived.ArgAppend
import Derived.Laws.IdiomCopy
import Derived.RowKit
import Derived.Test.YtpjddgmdgfjlfaaDoorProg
import Derived.OrdersHeld
import Derived.Laws.BitsLemmas
import Derived.Maps.OwnSet
import Derived.Maps.RangeRun
import Derived.Maps.Range
import Derived.Carry
import Derived.Sort.Walk0
import Derived.Laws.Strings
import Derived.Lib.SlicesS
import Derived.Laws.StructEq
import Derived.DeepKeys4
import Derived.WalkSpells
import Derived.WalkLawsBesides
import Derived.Lib.Hide
import Derived.Deep.RegionWith
import Derived.RegionTactic
import Derived.ChangeAlike
import Derived.Deep.RegionLaw
import Derived.Lib.SmallJoins
import Derived.Sort.Grow
import Derived.Shelf.SlSortCmp.NoneTotal
import Derived.Shelf.SlicesG.Cmp
import Derived.Ground.SlgcProg
import Derived.Shelf.SlSortCmp.WholeK
import Derived.Shelf.SlicesE.Clone
import Derived.Ground.SlsfProg
import Derived.Ground.SlgnProg
import Derived.StillTailTactics
import Derived.Outline
import Derived.Laws.RangeAny
import Derived.Laws.Closers25
import Derived.Shelf.GgSortFunc.InsertionK
import Derived.ProofKit
import Derived.ChangeSlices
import Derived.DataElems
import Derived.Sort.LotA
import Derived.Test.YtpjddgmdgfjlfaaDoorPm0
import Derived.Test.YtpjddgmdgfjlfaaDoorPm1
import Derived.Test.YtpjddgmdgfjlfaaDoorPm2
import Derived.Test.YtpjddgmdgfjlfaaDoorPm3
import Derived.Test.YtpjddgmdgfjlfaaDoorPm4
import Derived.Test.YtpjddgmdgfjlfaaDoorPm5
import Derived.Test.YtpjddgmdgfjlfaaDoorPm6
import Derived.Test.YtpjddgmdgfjlfaaDoorPm7
import Derived.Test.YtpjddgmdgfjlfaaDoorPm8
section
namespace Go.Proofs.YtpjddgmdgfjlfaaDoor.Pr
open Go.RowKit Go.Proofs.YtpjddgmdgfjlfaaDoorW.PrintWords Go.Proofs.YtpjddgmdgfjlfaaDoorW.PrintLast Go.Proofs.YtpjddgmdgfjlfaaDoorW.PrintMore
attribute [local go_sem] QaF QaD max_two min_two QaB QaA QaE QaC
set_option linter.unusedVariables false
set_option linter.unusedSimpArgs false

end Go.Proofs.YtpjddgmdgfjlfaaDoor.Pr
end
section
namespace Go.Proofs.YtpjddgmdgfjlfaaDoor.Pr
open Go.RowKit Go.Proofs.YtpjddgmdgfjlfaaDoorW.PrintWords Go.Proofs.YtpjddgmdgfjlfaaDoorW.PrintLast Go.Proofs.YtpjddgmdgfjlfaaDoorW.PrintMore
theorem toList_iff (x y : ByteArray) : x.toList = y.toList ↔ x = y := by
  rw [← Lib.bytes_beq_iff, beq_iff_eq]
theorem domName_ne {n : Int} (h : 1 ≤ n) (h' : n ≤ 16) : domName n ≠ ⟨#[]⟩ := by
  have : n = 1 ∨ n = 2 ∨ n = 3 ∨ n = 4 ∨ n = 5 ∨ n = 6 ∨ n = 7 ∨ n = 8 ∨ n = 9 ∨ n = 10 ∨ n = 11 ∨ n = 12 ∨ n = 13 ∨ n = 14 ∨ n = 15 ∨ n = 16 := by omega
  rcases this with rfl | rfl | rfl | rfl | rfl | rfl | rfl | rfl | rfl | rfl | rfl | rfl | rfl | rfl | rfl | rfl <;> decide
def numFrom (s : ByteArray) : Nat → Int → Int
  | 0, _ => 0
  | k + 1, n => if n ≤ 16 then (if domName n = s then n else numFrom s k (n + 1)) else 0
def numName (s : ByteArray) : Int := numFrom s 17 1
theorem number_from (s : ByteArray) : ∀ (k : Nat) (n : Int), 1 ≤ n → n ≤ 17 → 17 - n < k → names_Number.l0 k s n = some (numFrom s k n)
  | 0, n, _, _, h => by omega
  | k + 1, n, h0, h1, h2 => by
    rw [names_Number.l0, numFrom]
    by_cases c : n ≤ 16
    · rw [if_pos c, if_pos c]
      show (Option.bind (some (domName n)) _) = _
      rw [Option.bind_some]
      by_cases e : domName n = s
      · rw [if_pos ((toList_iff _ _).mpr e), if_pos e]
      · rw [if_neg (fun h => e ((toList_iff _ _).mp h)), if_neg e]
        have hw : wrap64 (n + 1) = n + 1 := by unfold wrap64; omega
        rw [hw]; exact number_from s k (n + 1) (by omega) (by omega) (by omega)
    · rw [if_neg c, if_neg c]
theorem numFrom_more (s : ByteArray) : ∀ (k : Nat) (n : Int), 17 - n < k → numFrom s (k + 1) n = numFrom s k n
  | 0, n, h => by
    rw [numFrom, numFrom, if_neg (by omega)]
  | k + 1, n, h => by
    rw [numFrom]
    conv => rhs; rw [numFrom]
    by_cases c : n ≤ 16
    · rw [if_pos c, if_pos c]
      by_cases e : domName n = s
      · rw [if_pos e, if_pos e]
      · rw [if_neg e, if_neg e]
        exact numFrom_more s k (n + 1) (by omega)
    · rw [if_neg c, if_neg c]
theorem number_is (s : ByteArray) : ∀ k, 17 ≤ k → names_Number.f k s = some (numName s) := by
  intro k hk; unfold names_Number.f; rw [number_from s k 1 (by omega) (by omega) (by omega)]
  congr 1
  unfold numName; obtain ⟨j, rfl⟩ := Nat.le.dest hk; clear hk
  induction j with
  | zero => rfl
  | succ j ih => rw [← ih]; exact numFrom_more s (17 + j) 1 (by omega)
theorem numFrom_spec (s : ByteArray) : ∀ (k : Nat) (n : Int), 17 - n ≤ k → (∃ m, n ≤ m ∧ m ≤ 16 ∧ domName m = s ∧ numFrom s k n = m) ∨ ((∀ m, n ≤ m → m ≤ 16 → domName m ≠ s) ∧ numFrom s k n = 0)
  | 0, n, h => .inr ⟨fun m _ _ => by omega, rfl⟩
  | k + 1, n, h => by
    rw [numFrom]
    by_cases c : n ≤ 16
    · rw [if_pos c]
      by_cases e : domName n = s
      · rw [if_pos e]
        exact .inl ⟨n, by omega, c, e, rfl⟩
      · rw [if_neg e]
        rcases numFrom_spec s k (n + 1) (by omega) with ⟨m, h1, h2, h3, h4⟩ | ⟨h1, h2⟩
        · exact .inl ⟨m, by omega, h2, h3, h4⟩
        · refine .inr ⟨fun m hm hm' => ?_, h2⟩
          by_cases e2 : m = n
          · rw [e2]; exact e
          · exact h1 m (by omega) hm'
    · rw [if_neg c]
      exact .inr ⟨fun m _ _ => by omega, rfl⟩
theorem numName_spec (s : ByteArray) : (∃ m, 1 ≤ m ∧ m ≤ 16 ∧ domName m = s ∧ numName s = m) ∨ ((∀ m, 1 ≤ m → m ≤ 16 → domName m ≠ s) ∧ numName s = 0) := numFrom_spec s 17 1 (by omega)
theorem empty_iff (x : ByteArray) : x.toList = [] ↔ x = ⟨#[]⟩ := by
  rw [← toList_iff, show (⟨#[]⟩ : ByteArray).toList = [] by unfold ByteArray.toList; rw [ByteArray.toList.loop]; rfl]
def noText (s : ByteArray) : Bool := s.toList == ([] : List UInt8)
def roleOk (r : Role) : Bool := decide (numName r.f0 > 0) && mayName r.f1
def bareOk (r : Role) : Bool := noText r.f0 && mayName r.f1
def noRole (r : Role) : Bool := noText r.f0 && noText r.f1
def credMay (c : Cred) : Bool :=
  (decide (1 ≤ c.f0.f0 ∧ c.f0.f0 ≤ 16) && decide (1 ≤ c.f0.f1 ∧ c.f0.f1 ≤ 4000) && mayName c.f1) &&
  (if c.f2 = 1 then mayName c.f3 && (noRole c.f4 && noRole c.f5) else if c.f2 = 2 then roleOk c.f4 && (noRole c.f5 && noText c.f3)
    else if c.f2 = 3 then bareOk c.f4 && (bareOk c.f5 && noText c.f3) else if c.f2 = 4 then roleOk c.f4 && (roleOk c.f5 && noText c.f3) else false)
def okCred (c : Cred) : Prop := c.f1.size ≤ maxLen ∧ c.f3.size ≤ maxLen ∧ (c.f4.f0.size ≤ maxLen ∧ c.f4.f1.size ≤ maxLen) ∧ c.f5.f0.size ≤ maxLen ∧ c.f5.f1.size ≤ maxLen
theorem may_is {s : ByteArray} (h : s.size ≤ maxLen) : names_May.f s = some (mayName s) := by
  unfold names_May.f; rw [if_pos h]
theorem role_is (r : Role) (h : r.f1.size ≤ maxLen) (k : Nat) (hk : 17 ≤ k) : names_Role.f k r.f0 r.f1 = some (roleOk r) := by
  unfold names_Role.f roleOk; rw [number_is _ k hk, Option.bind_some, may_is h, Option.bind_some]
  by_cases c : numName r.f0 > 0
  · rw [if_pos c, decide_eq_true c]; rfl
  · rw [if_neg c, decide_eq_false c]; rfl
theorem bare_is (r : Role) (h : r.f1.size ≤ maxLen) : cred_bare.f r.f0 r.f1 = some (bareOk r) := by
  unfold cred_bare.f bareOk noText; rw [may_is h, Option.bind_some]
  by_cases c : r.f0.toList = []
  · rw [if_pos c, c]; rfl
  · rw [if_neg c, beq_eq_false_iff_ne.mpr c]; rfl
theorem credMay_is (c : Cred) (h : okCred c) (k : Nat) (hk : 18 ≤ k) : cred_May.f k c.f0.f0 c.f0.f1 c.f1 c.f2 c.f3 c.f4.f0 c.f4.f1 c.f5.f0 c.f5.f1 = some (credMay c) := by
  obtain ⟨k, rfl⟩ : ∃ j, k = j + 1 := ⟨k - 1, by omega⟩
  obtain ⟨h1, h3, ⟨h40, h41⟩, h50, h51⟩ := h
  have jt : cred_May.j0 (k + 1) true c.f0.f0 c.f0.f1 c.f1 c.f2 c.f3 c.f4.f0 c.f4.f1 c.f5.f0 c.f5.f1 = some false := by rw [cred_May.j0, if_pos rfl]
  unfold cred_May.f credMay
  show (Option.bind (some (domName c.f0.f0)) _) = _
  rw [Option.bind_some]
  by_cases d : 1 ≤ c.f0.f0 ∧ c.f0.f0 ≤ 16
  · rw [if_neg (fun e => domName_ne d.1 d.2 ((empty_iff _).mp e)), decide_eq_true d]
    by_cases s1 : c.f0.f1 < 1
    · rw [if_pos s1, jt, decide_eq_false (p := 1 ≤ c.f0.f1 ∧ c.f0.f1 ≤ 4000) (by omega)]; rfl
    · rw [if_neg s1]
      by_cases s2 : c.f0.f1 > 4000
      · rw [if_pos s2, jt, decide_eq_false (p := 1 ≤ c.f0.f1 ∧ c.f0.f1 ≤ 4000) (by omega)]; rfl
      · rw [if_neg s2, decide_eq_true (p := 1 ≤ c.f0.f1 ∧ c.f0.f1 ≤ 4000) (by omega), may_is h1, Option.bind_some]
        cases hm : mayName c.f1
        · exact jt
        · show cred_May.j0 (k + 1) false _ _ _ _ _ _ _ _ _ = _
          rw [cred_May.j0, if_neg (by decide)]
          by_cases k1 : c.f2 = 1
          · rw [if_pos k1, if_pos k1, may_is h3, Option.bind_some]
            show (if mayName c.f3 = true then if noRole c.f4 = true then some (noRole c.f5) else some false else some false) = _
            cases mayName c.f3 <;> cases noRole c.f4 <;> simp
          · rw [if_neg k1, if_neg k1]
            by_cases k2 : c.f2 = 2
            · rw [if_pos k2, if_pos k2, role_is c.f4 h41 k (by omega), Option.bind_some]
              show (if roleOk c.f4 = true then if noRole c.f5 = true then some (noText c.f3) else some false else some false) = _
              cases roleOk c.f4 <;> cases noRole c.f5 <;> simp
            · rw [if_neg k2, if_neg k2]
              by_cases k3 : c.f2 = 3
              · rw [if_pos k3, if_pos k3, bare_is c.f4 h41, bare_is c.f5 h51, Option.bind_some, Option.bind_some]
                show (if bareOk c.f4 = true then if bareOk c.f5 = true then some (noText c.f3) else some false else some false) = _
                cases bareOk c.f4 <;> cases bareOk c.f5 <;> simp
              · rw [if_neg k3, if_neg k3]
                by_cases k4 : c.f2 = 4
                · rw [if_pos k4, if_pos k4, role_is c.f4 h41 k (by omega), role_is c.f5 h51 k (by omega), Option.bind_some, Option.bind_some]
                  show (if roleOk c.f4 = true then if roleOk c.f5 = true then some (noText c.f3) else some false else some false) = _
                  cases roleOk c.f4 <;> cases roleOk c.f5 <;> simp
                · rw [if_neg k4, if_neg k4]; rfl
  · have e : domName c.f0.f0 = ⟨#[]⟩ := domName_out _ (by omega)
    rw [if_pos ((empty_iff _).mpr e), jt, decide_eq_false d]; rfl
end Go.Proofs.YtpjddgmdgfjlfaaDoor.Pr
end
section
namespace Go.Proofs.YtpjddgmdgfjlfaaDoor.Pr
open Go.RowKit Go.ChangeShapes Go.WideShapes Go.Proofs.YtpjddgmdgfjlfaaDoorW.PrintWords Go.Proofs.YtpjddgmdgfjlfaaDoorW.PrintLast Go.Proofs.YtpjddgmdgfjlfaaDoorW.PrintMore
def Opens {α : Type} (P : Program) (e : TypeId) (d : Kd α) (Q : α → Prop) : Prop :=
  ∀ (H : Type) (enc : TypeId × Value → H) (w : World) (base : Nat) (spare : Nat → Bool) (held : Bool) (fuel : Nat) (cs : List Value) (x : DataW H × List MemPlace), DataW.trod enc P w base spare held fuel e cs = some x → ∃ a, d.K w a cs ∧ Q a
section
variable {H : Type} {enc : TypeId × Value → H} {P : Program} {w : World} {base : Nat} {spare : Nat → Bool} {held : Bool}
theorem field_at {t : TypeId} {fs : Array Field} {fuel : Nat} {cs : List Value} {x : DataW H × List MemPlace} (ht : P.underlying t = some (.struct fs)) (h : DataW.trod enc P w base spare held fuel t cs = some x) :
    cs.length = P.cellsOf t ∧ ∃ n, ∀ (i : Nat) (f : Field), fs[i]? = some f → ∃ y, DataW.trod enc P w base spare held n f.type ((cs.drop f.offset).take (P.cellsOf f.type)) = some y := by
  obtain ⟨xs, n, _, _, hl, hx, hf⟩ := DataW.trod_struct ht h; refine ⟨hl, n, fun i f hi => ?_⟩; have hi' : i < fs.size := (Array.getElem?_eq_some_iff.mp hi).1; exact ⟨xs[i]'(by omega), (hf i f hi).trans (List.getElem?_eq_getElem (by omega))⟩
theorem list_of {α : Type} {R : Nat → α → Prop} : ∀ n, (∀ i, i < n → ∃ y, R i y) → ∃ xs : List α, xs.length = n ∧ ∀ i y, xs[i]? = some y → R i y
  | 0, _ => ⟨[], rfl, fun i y h => by simp at h⟩
  | n + 1, h => by
    obtain ⟨xs, hl, hx⟩ := list_of n (fun i hi => h i (by omega)); obtain ⟨y, hy⟩ := h n (by omega); refine ⟨xs ++ [y], by simp [hl], fun i z hz => ?_⟩
    by_cases hi : i < n
    · rw [List.getElem?_append_left (by omega)] at hz
      exact hx i z hz
    · rw [List.getElem?_append_right (by omega)] at hz
      have hi2 : i - xs.length = 0 := by
        have := (List.getElem?_eq_some_iff.mp hz).1; simp at this; omega
      rw [hi2] at hz
      have : y = z := by simpa using hz
      rw [show i = n by omega, ← this]; exact hy
theorem cells_at {a : Addr} {n : Nat} {cs : List Value} (h : w.cells? base a n = some cs) : cs.length = n ∧ ∀ i u, cs[i]? = some u → w.cell? (a.add i) = some u := by
  unfold World.cells? at h
  split at h
  · have hl := mapM_some_length h
    rw [List.length_range] at hl; refine ⟨hl, fun i u hu => ?_⟩
    have hi : i < n := by have := (List.getElem?_eq_some_iff.mp hu).1; omega
    have := mapM_some_get h i i (by simp [hi]); rw [this, hu]
  · cases h
theorem open_row {α : Type} {d : Kd α} {Q : α → Prop} {t e : TypeId} {fuel : Nat} {a : Option Addr} {len cap : Nat} {x : DataW H × List MemPlace} (ht : P.underlying t = some (.slice e)) (hc : P.cellsOf e = d.sz) (ho : Opens P e d Q)
    (h : DataW.trod enc P w base spare held fuel t [.slice a len cap] = some x) : ∃ xs : List α, xs.length = len ∧ d.C w a xs.length xs ∧ xs.length ≤ cap ∧ ∀ y ∈ xs, Q y := by
  rcases DataW.trod_slice ht h with ⟨hcs, _⟩ | ⟨a', len', cap', elems, rest, n, _, hcs, _, hb, hl, hm, hlen, hel, _, _⟩
  · simp only [List.cons.injEq, Value.slice.injEq, and_true] at hcs
    obtain ⟨rfl, rfl, rfl⟩ := hcs; exact ⟨[], rfl, ⟨rfl, Nat.zero_le _, fun h => absurd h (Nat.lt_irrefl _)⟩, Nat.le_refl _, fun y hy => by cases hy⟩
  · simp only [List.cons.injEq, Value.slice.injEq, and_true] at hcs
    obtain ⟨rfl, rfl, rfl⟩ := hcs
    obtain ⟨xs, hxl, hx⟩ := list_of (R := fun i y => ∃ cs, w.cells? base (a'.add (i * P.cellsOf e)) (P.cellsOf e) = some cs ∧ d.K w y cs ∧ Q y) len (fun i hi => by
      have h1 := hel i hi; rw [List.getElem?_eq_getElem (by omega)] at h1; obtain ⟨cs, hcs, hy⟩ := Option.bind_eq_some_iff.mp h1; obtain ⟨y, hk, hq⟩ := ho _ _ _ _ _ _ _ _ _ hy
      exact ⟨y, cs, hcs, hk, hq⟩)
    refine ⟨xs, hxl, ⟨rfl, ?_, fun _ => ⟨a', rfl, fun j p hj => ?_⟩⟩, by omega, fun y hy => ?_⟩
    · have : maxLen = 9223372036854775807 := by decide
      omega
    · obtain ⟨cs, h1, h2, _⟩ := hx j p hj
      obtain ⟨hl1, hl2⟩ := cells_at h1; refine ⟨cs, by omega, h2, fun i u hu => ?_⟩; rw [← hc, ← Addr.add_add]; exact hl2 i u hu
    · obtain ⟨i, hi, e⟩ := List.getElem_of_mem hy
      obtain ⟨_, _, _, hq⟩ := hx i y (by rw [List.getElem?_eq_getElem hi, e]); exact hq
end
theorem list2 {α : Type} : ∀ {l : List α}, l.length = 2 → ∃ a b, l = [a, b]
  | [a, b], _ => ⟨a, b, rfl⟩
theorem list9 {α : Type} : ∀ {l : List α}, l.length = 9 → ∃ a b c d e f g h i, l = [a, b, c, d, e, f, g, h, i]
  | [a, b, c, d, e, f, g, h, i], _ => ⟨a, b, c, d, e, f, g, h, i, rfl⟩
theorem opens_role : Opens Tryd.prog 33 k33 (fun r => r.f0.size ≤ maxLen ∧ r.f1.size ≤ maxLen) := by
  intro H enc w base spare held fuel cs x h; obtain ⟨hl, n, hf⟩ := field_at Tryd.underlying33 h; rw [Tryd.cellsRole] at hl; obtain ⟨y0, h0⟩ : ∃ y, DataW.trod enc Tryd.prog w base spare held n 9 ((cs.drop 0).take (Tryd.prog.cellsOf 9)) = some y := hf 0 _ rfl; obtain ⟨y1, h1⟩ : ∃ y, DataW.trod enc Tryd.prog w base spare held n 9 ((cs.drop 1).take (Tryd.prog.cellsOf 9)) = some y := hf 1 _ rfl; rw [Tryd.cellsStr] at h0 h1; obtain ⟨c0, c1, rfl⟩ := list2 hl; obtain ⟨s0, e0, _, z0⟩ := DataW.trod_string Tryd.underlying9 h0; obtain ⟨s1, e1, _, z1⟩ := DataW.trod_string Tryd.underlying9 h1
  obtain rfl : c0 = .string s0 := by simpa using e0
  obtain rfl : c1 = .string s1 := by simpa using e1
  exact ⟨⟨s0, s1⟩, k33_mk w ⟨s0, s1⟩, z0, z1⟩
theorem Tryd.cellsInt : Tryd.prog.cellsOf 3 = 1 := by kernel_rfl
theorem Tryd.cellsID : Tryd.prog.cellsOf 44 = 2 := by kernel_rfl
theorem Tryd.cellsCred : Tryd.prog.cellsOf 46 = 9 := by kernel_rfl
theorem opens_id : Opens Tryd.prog 44 k44 (fun _ => True) := by
  intro H enc w base spare held fuel cs x h; obtain ⟨hl, n, hf⟩ := field_at Tryd.underlying44 h; rw [Tryd.cellsID] at hl; obtain ⟨y0, h0⟩ : ∃ y, DataW.trod enc Tryd.prog w base spare held n 3 ((cs.drop 0).take (Tryd.prog.cellsOf 3)) = some y := hf 0 _ rfl; obtain ⟨y1, h1⟩ : ∃ y, DataW.trod enc Tryd.prog w base spare held n 3 ((cs.drop 1).take (Tryd.prog.cellsOf 3)) = some y := hf 1 _ rfl; rw [Tryd.cellsInt] at h0 h1; obtain ⟨c0, c1, rfl⟩ := list2 hl; obtain ⟨s0, e0, _, z0⟩ := DataW.trod_int Tryd.underlying3 h0; obtain ⟨s1, e1, _, z1⟩ := DataW.trod_int Tryd.underlying3 h1
  obtain rfl : c0 = .int .i64 s0 := by simpa using e0
  obtain rfl : c1 = .int .i64 s1 := by simpa using e1
  exact ⟨⟨s0, s1⟩, k44_mk w ⟨s0, s1⟩, trivial⟩
theorem opens_cred : Opens Tryd.prog 46 k46 okCred := by
  intro H enc w base spare held fuel cs x h; obtain ⟨hl, n, hf⟩ := field_at Tryd.underlying46 h; rw [Tryd.cellsCred] at hl; obtain ⟨y0, h0⟩ : ∃ y, DataW.trod enc Tryd.prog w base spare held n 44 ((cs.drop 0).take (Tryd.prog.cellsOf 44)) = some y := hf 0 _ rfl; obtain ⟨y1, h1⟩ : ∃ y, DataW.trod enc Tryd.prog w base spare held n 9 ((cs.drop 2).take (Tryd.prog.cellsOf 9)) = some y := hf 1 _ rfl; obtain ⟨y2, h2⟩ : ∃ y, DataW.trod enc Tryd.prog w base spare held n 3 ((cs.drop 3).take (Tryd.prog.cellsOf 3)) = some y := hf 2 _ rfl; obtain ⟨y3, h3⟩ : ∃ y, DataW.trod enc Tryd.prog w base spare held n 9 ((cs.drop 4).take (Tryd.prog.cellsOf 9)) = some y := hf 3 _ rfl; obtain ⟨y4, h4⟩ : ∃ y, DataW.trod enc Tryd.prog w base spare held n 33 ((cs.drop 5).take (Tryd.prog.cellsOf 33)) = some y := hf 4 _ rfl; obtain ⟨y5, h5⟩ : ∃ y, DataW.trod enc Tryd.prog w base spare held n 33 ((cs.drop 7).take (Tryd.prog.cellsOf 33)) = some y := hf 5 _ rfl; rw [Tryd.cellsID] at h0; rw [Tryd.cellsStr] at h1 h3; rw [Tryd.cellsInt] at h2; rw [Tryd.cellsRole] at h4 h5; obtain ⟨c0, c1, c2, c3, c4, c5, c6, c7, c8, rfl⟩ := list9 hl; obtain ⟨a, ka, _⟩ := opens_id _ _ _ _ _ _ _ _ _ h0
  obtain ⟨rfl, rfl⟩ : c0 = .int .i64 a.f0 ∧ c1 = .int .i64 a.f1 := by simpa using k44_open ka
  obtain ⟨s1, e1, _, z1⟩ := DataW.trod_string Tryd.underlying9 h1; obtain ⟨s2, e2, _, z2⟩ := DataW.trod_int Tryd.underlying3 h2; obtain ⟨s3, e3, _, z3⟩ := DataW.trod_string Tryd.underlying9 h3
  obtain rfl : c2 = .string s1 := by simpa using e1
  obtain rfl : c3 = .int .i64 s2 := by simpa using e2
  obtain rfl : c4 = .string s3 := by simpa using e3
  obtain ⟨r4, k4, z4⟩ := opens_role _ _ _ _ _ _ _ _ _ h4
  obtain ⟨rfl, rfl⟩ : c5 = .string r4.f0 ∧ c6 = .string r4.f1 := by simpa using k33_open k4
  obtain ⟨r5, k5, z5⟩ := opens_role _ _ _ _ _ _ _ _ _ h5
  obtain ⟨rfl, rfl⟩ : c7 = .string r5.f0 ∧ c8 = .string r5.f1 := by simpa using k33_open k5
  exact ⟨⟨a, s1, s2, s3, r4, r5⟩, k46_mk w ⟨a, s1, s2, s3, r4, r5⟩, z1, z3, z4, z5⟩
end Go.Proofs.YtpjddgmdgfjlfaaDoor.Pr
end
section
namespace Go.Proofs.YtpjddgmdgfjlfaaDoor.Pr
open Go.RowKit Go.Proofs.YtpjddgmdgfjlfaaDoorW.PrintWords Go.Proofs.YtpjddgmdgfjlfaaDoorW.PrintLast Go.Proofs.YtpjddgmdgfjlfaaDoorW.PrintMore
inductive Said (cs : List Cred) : Pair → Prop
  | member {c : Cred} : c ∈ cs → c.f2 = 1 → Said cs ⟨credRole c, c.f3⟩
  | incl {c : Cred} {u : ByteArray} : c ∈ cs → c.f2 = 2 → Said cs ⟨c.f4, u⟩ → Said cs ⟨credRole c, u⟩
  | link {c : Cred} {u v : ByteArray} : c ∈ cs → c.f2 = 3 → Said cs ⟨linkFirst c, u⟩ → numName u > 0 → Said cs ⟨⟨u, c.f5.f1⟩, v⟩ → Said cs ⟨credRole c, v⟩
  | both {c : Cred} {u : ByteArray} : c ∈ cs → c.f2 = 4 → Said cs ⟨c.f4, u⟩ → Said cs ⟨c.f5, u⟩ → Said cs ⟨credRole c, u⟩
def small (s : ByteArray) : Prop := s.size ≤ 8
def smallR (r : Role) : Prop := small r.f0 ∧ small r.f1
theorem small_max {s : ByteArray} (h : small s) : s.size ≤ maxLen := Nat.le_trans h (by decide)
theorem mayName_small {s : ByteArray} (h : mayName s = true) : small s := by
  unfold mayName at h; simp only [Bool.and_eq_true, decide_eq_true_eq] at h; unfold small; omega
theorem domName_small (n : Int) : small (domName n) := by
  by_cases h : 1 ≤ n ∧ n ≤ 16
  · obtain ⟨h, h'⟩ := h
    have : n = 1 ∨ n = 2 ∨ n = 3 ∨ n = 4 ∨ n = 5 ∨ n = 6 ∨ n = 7 ∨ n = 8 ∨ n = 9 ∨ n = 10 ∨ n = 11 ∨ n = 12 ∨ n = 13 ∨ n = 14 ∨ n = 15 ∨ n = 16 := by omega
    rcases this with rfl | rfl | rfl | rfl | rfl | rfl | rfl | rfl | rfl | rfl | rfl | rfl | rfl | rfl | rfl | rfl <;> (unfold small; decide)
  · rw [domName_out n (by omega)]
    unfold small
    decide
theorem numName_small {s : ByteArray} (h : numName s > 0) : small s := by
  rcases numName_spec s with ⟨m, _, _, h3, _⟩ | ⟨_, h2⟩
  · rw [← h3]; exact domName_small m
  · omega
theorem numName_dom {n : Int} (h : 1 ≤ n) (h' : n ≤ 16) : numName (domName n) > 0 := by
  rcases numName_spec (domName n) with ⟨m, h1, _, _, h4⟩ | ⟨h1, _⟩
  · omega
  · exact absurd rfl (h1 n h h')
theorem roleOk_small {r : Role} (h : roleOk r = true) : smallR r := by
  unfold roleOk at h; rw [Bool.and_eq_true, decide_eq_true_eq] at h; exact ⟨numName_small h.1, mayName_small h.2⟩
theorem bareOk_small {r : Role} (h : bareOk r = true) : small r.f1 := by
  unfold bareOk at h; rw [Bool.and_eq_true] at h; exact mayName_small h.2
theorem credMay_facts {c : Cred} (h : credMay c = true) : (1 ≤ c.f0.f0 ∧ c.f0.f0 ≤ 16) ∧ small c.f1 ∧ ((c.f2 = 1 ∧ small c.f3) ∨ (c.f2 = 2 ∧ smallR c.f4) ∨ (c.f2 = 3 ∧ small c.f4.f1 ∧ small c.f5.f1) ∨ (c.f2 = 4 ∧ smallR c.f4 ∧ smallR c.f5)) := by
  unfold credMay at h; rw [Bool.and_eq_true, Bool.and_eq_true, Bool.and_eq_true, decide_eq_true_eq] at h; refine ⟨h.1.1.1, mayName_small h.1.2, ?_⟩; have h2 := h.2
  by_cases k1 : c.f2 = 1
  · rw [if_pos k1, Bool.and_eq_true] at h2
    exact .inl ⟨k1, mayName_small h2.1⟩
  rw [if_neg k1] at h2
  by_cases k2 : c.f2 = 2
  · rw [if_pos k2, Bool.and_eq_true] at h2
    exact .inr (.inl ⟨k2, roleOk_small h2.1⟩)
  rw [if_neg k2] at h2
  by_cases k3 : c.f2 = 3
  · rw [if_pos k3, Bool.and_eq_true, Bool.and_eq_true] at h2
    exact .inr (.inr (.inl ⟨k3, bareOk_small h2.1, bareOk_small h2.2.1⟩))
  rw [if_neg k3] at h2
  by_cases k4 : c.f2 = 4
  · rw [if_pos k4, Bool.and_eq_true, Bool.and_eq_true] at h2
    exact .inr (.inr (.inr ⟨k4, roleOk_small h2.1, roleOk_small h2.2.1⟩))
  rw [if_neg k4] at h2; cases h2
def Mays (cs : List Cred) : Prop := ∀ c ∈ cs, credMay c = true
theorem Said.within {cs : List Cred} {p : Pair} (h : Said cs p) : (∃ c ∈ cs, p.f0 = credRole c) ∧ ∃ c ∈ cs, c.f2 = 1 ∧ p.f1 = c.f3 := by
  induction h with
  | member hc hk => exact ⟨⟨_, hc, rfl⟩, _, hc, hk, rfl⟩
  | incl hc hk _ ih => exact ⟨⟨_, hc, rfl⟩, ih.2⟩
  | link hc hk _ _ _ _ ih => exact ⟨⟨_, hc, rfl⟩, ih.2⟩
  | both hc hk _ _ ih _ => exact ⟨⟨_, hc, rfl⟩, ih.2⟩
theorem Said.smalls {cs : List Cred} (hm : Mays cs) {p : Pair} (h : Said cs p) : smallR p.f0 ∧ small p.f1 := by
  obtain ⟨⟨c, hc, e⟩, c', hc', hk, e'⟩ := h.within; obtain ⟨_, h1, _⟩ := credMay_facts (hm c hc); obtain ⟨_, _, h2⟩ := credMay_facts (hm c' hc'); rw [e, e']; refine ⟨⟨domName_small _, h1⟩, ?_⟩
  rcases h2 with h2 | h2 | h2 | h2
  · exact h2.2
  · omega
  · omega
  · omega
theorem Said.okPair {cs : List Cred} (hm : Mays cs) {p : Pair} (h : Said cs p) : okPair p := by
  obtain ⟨⟨h0, h1⟩, h2⟩ := h.smalls hm; exact ⟨small_max h0, small_max h1, small_max h2⟩
theorem Said.owner {cs : List Cred} (hm : Mays cs) {p : Pair} (h : Said cs p) : numName p.f0.f0 > 0 := by
  obtain ⟨⟨c, hc, e⟩, _⟩ := h.within; obtain ⟨h0, _⟩ := credMay_facts (hm c hc); rw [e]; exact numName_dom h0.1 h0.2
theorem flatMap_len {α β : Type} (f : α → List β) (n : Nat) (h : ∀ c, (f c).length = n) : ∀ l : List α, (l.flatMap f).length = l.length * n
  | [] => by simp
  | a :: l => by rw [List.flatMap_cons, List.length_append, h a, flatMap_len f n h l, List.length_cons, Nat.succ_mul, Nat.add_comm]
theorem said_all {cs : List Cred} {l : List Pair} (hn : l.Nodup) (h : ∀ p ∈ l, Said cs p) : l.length ≤ cs.length * cs.length := by
  have := nodup_le (m := cs.flatMap fun c => cs.map fun c' => (⟨credRole c, c'.f3⟩ : Pair)) hn (fun p hp => by
    obtain ⟨⟨c, hc, e⟩, c', hc', _, e'⟩ := (h p hp).within
    exact List.mem_flatMap.mpr ⟨c, hc, List.mem_map.mpr ⟨c', hc', pair_ext e.symm e'.symm⟩⟩)
  exact Nat.le_trans this (Nat.le_of_eq (flatMap_len _ cs.length (fun c => by simp) cs))
theorem said_400 {cs : List Cred} (hl : cs.length ≤ 20) {l : List Pair} (hn : l.Nodup) (h : ∀ p ∈ l, Said cs p) : l.length ≤ 400 :=
  Nat.le_trans (said_all hn h) (Nat.mul_le_mul hl hl)
theorem Said.mono {cs cs' : List Cred} (h : ∀ c ∈ cs, c ∈ cs') {p : Pair} (hp : Said cs p) : Said cs' p := by
  induction hp with
  | member hc hk => exact .member (h _ hc) hk
  | incl hc hk _ ih => exact .incl (h _ hc) hk ih
  | link hc hk _ hn _ ih1 ih2 => exact .link (h _ hc) hk ih1 hn ih2
  | both hc hk _ _ ih1 ih2 => exact .both (h _ hc) hk ih1 ih2
structure Good (cs : List Cred) (s : St) : Prop where
  nodup : s.known.Nodup
  said : ∀ p ∈ s.known, Said cs p
  suffix : ∃ done, s.known = done ++ s.waits
def Grows (s s' : St) : Prop := ∃ l, s'.known = s.known ++ l ∧ s'.waits = s.waits ++ l
theorem Grows.refl (s : St) : Grows s s := ⟨[], by simp, by simp⟩
theorem Grows.trans {s s' s'' : St} (h : Grows s s') (h' : Grows s' s'') : Grows s s'' := by
  obtain ⟨l, h1, h2⟩ := h; obtain ⟨l', h3, h4⟩ := h'; exact ⟨l ++ l', by rw [h3, h1, List.append_assoc], by rw [h4, h2, List.append_assoc]⟩
theorem Grows.mem {s s' : St} (h : Grows s s') {p : Pair} (hp : p ∈ s.known) : p ∈ s'.known := by
  obtain ⟨l, h1, _⟩ := h; rw [h1]; exact List.mem_append_left _ hp
def Runs (cs : List Cred) (s : St) (r : Option St) (W : Pair → Prop) : Prop := ∃ s', r = some s' ∧ Good cs s' ∧ Grows s s' ∧ ∀ q, W q → q ∈ s'.known
theorem Runs.none {cs : List Cred} {s : St} {W : Pair → Prop} (h : Good cs s) (hW : ∀ q, ¬ W q) : Runs cs s (some s) W := ⟨s, rfl, h, .refl s, fun q hq => absurd hq (hW q)⟩
theorem Runs.bind {cs : List Cred} {s : St} {r : Option St} {f : St → Option St} {W1 W2 W : Pair → Prop} (h : Runs cs s r W1) (hf : ∀ s', Good cs s' → Grows s s' → Runs cs s' (f s') W2) (hW : ∀ q, W q → W1 q ∨ W2 q) : Runs cs s (r.bind f) W := by
  obtain ⟨s1, rfl, g1, gr1, w1⟩ := h; obtain ⟨s2, e2, g2, gr2, w2⟩ := hf s1 g1 gr1; exact ⟨s2, e2, g2, gr1.trans gr2, fun q hq => (hW q hq).elim (fun h => gr2.mem (w1 q h)) (w2 q)⟩
theorem Runs.imp {cs : List Cred} {s : St} {r : Option St} {W W' : Pair → Prop} (h : Runs cs s r W) (hW : ∀ q, W' q → W q) : Runs cs s r W' := by
  obtain ⟨s1, e, g1, gr1, w1⟩ := h; exact ⟨s1, e, g1, gr1, fun q hq => w1 q (hW q hq)⟩
theorem learn_runs {cs : List Cred} (hm : Mays cs) (hl : cs.length ≤ 20) {s : St} (g : Good cs s) {p : Pair} (hp : Said cs p) : Runs cs s (s.learn p) (fun q => q = p) := by
  unfold St.learn
  by_cases hin : p ∈ s.known
  · rw [if_pos hin]
    exact ⟨s, rfl, g, .refl s, fun q e => e ▸ hin⟩
  · have h400 := said_400 hl g.nodup g.said
    obtain ⟨done, hd⟩ := g.suffix
    have hw : s.waits.length ≤ 400 := by
      have := congrArg List.length hd; rw [List.length_append] at this; omega
    rw [if_neg hin, if_pos ⟨by omega, by omega, hp.okPair hm⟩]; refine ⟨_, rfl, ⟨?_, ?_, done, ?_⟩, ⟨[p], rfl, rfl⟩, fun q e => ?_⟩
    · show (s.known ++ [p]).Nodup
      rw [List.nodup_append]; refine ⟨g.nodup, by simp, ?_⟩; intro a ha b hb e; rw [List.mem_singleton] at hb; exact hin (hb ▸ e ▸ ha)
    · intro q hq
      rcases List.mem_append.mp hq with h | h
      · exact g.said q h
      · rw [List.mem_singleton.mp h]; exact hp
    · show s.known ++ [p] = done ++ (s.waits ++ [p])
      rw [hd, List.append_assoc]
    · subst e
      exact List.mem_append_right _ (by simp)
theorem members_runs {cs : List Cred} (hm : Mays cs) (hl : cs.length ≤ 20) : ∀ (l : List Cred) (s : St), (∀ c ∈ l, c ∈ cs) → Good cs s → Runs cs s (membersF l s) (fun q => ∃ c ∈ l, c.f2 = 1 ∧ q = ⟨credRole c, c.f3⟩)
  | [], s, _, g => .none g (fun q h => by obtain ⟨c, hc, _⟩ := h; cases hc)
  | c :: l, s, hs, g => by
    rw [membersF]
    by_cases k : c.f2 = 1
    · rw [if_pos k]
      refine (learn_runs hm hl g (.member (hs c (List.mem_cons_self ..)) k)).bind (fun s' g' _ => members_runs hm hl l s' (fun x hx => hs x (List.mem_cons_of_mem _ hx)) g') ?_; rintro q ⟨c', hc', hk', e⟩
      rcases List.mem_cons.mp hc' with rfl | h
      · exact .inl e
      · exact .inr ⟨c', h, hk', e⟩
    · rw [if_neg k]
      refine (members_runs hm hl l s (fun x hx => hs x (List.mem_cons_of_mem _ hx)) g).imp ?_; rintro q ⟨c', hc', hk', e⟩
      rcases List.mem_cons.mp hc' with rfl | h
      · exact absurd hk' k
      · exact ⟨c', h, hk', e⟩
theorem learnMany_runs {cs : List Cred} (hm : Mays cs) (hl : cs.length ≤ 20) (c : Cred) (second : Role) : ∀ (l : List Pair) (s : St), (∀ q ∈ l, q.f0 = second → Said cs ⟨credRole c, q.f1⟩) → Good cs s → Runs cs s (learnMany c second l s) (fun r => ∃ q ∈ l, q.f0 = second ∧ r = ⟨credRole c, q.f1⟩)
  | [], s, _, g => .none g (fun q h => by obtain ⟨c, hc, _⟩ := h; cases hc)
  | q :: l, s, hs, g => by
    rw [learnMany]
    by_cases k : q.f0 = second
    · rw [if_pos k]
      refine (learn_runs hm hl g (hs q (List.mem_cons_self ..) k)).bind (fun s' g' _ => learnMany_runs hm hl c second l s' (fun x hx => hs x (List.mem_cons_of_mem _ hx)) g') ?_; rintro r ⟨q', hq', hk', e⟩
      rcases List.mem_cons.mp hq' with rfl | h
      · exact .inl e
      · exact .inr ⟨q', h, hk', e⟩
    · rw [if_neg k]
      refine (learnMany_runs hm hl c second l s (fun x hx => hs x (List.mem_cons_of_mem _ hx)) g).imp ?_; rintro r ⟨q', hq', hk', e⟩
      rcases List.mem_cons.mp hq' with rfl | h
      · exact absurd hk' k
      · exact ⟨q', h, hk', e⟩
theorem sortPairs_mem {l : List Pair} {p : Pair} : p ∈ sortPairs l ↔ p ∈ l := (List.mergeSort_perm l _).mem_iff
inductive Rule (c : Cred) (p : Pair) (K : List Pair) : Pair → Prop
  | incl : c.f2 = 2 → p.f0 = c.f4 → Rule c p K ⟨credRole c, p.f1⟩
  | linkA {v : ByteArray} : c.f2 = 3 → p.f0 = linkFirst c → numName p.f1 > 0 → (⟨⟨p.f1, c.f5.f1⟩, v⟩ : Pair) ∈ K → Rule c p K ⟨credRole c, v⟩
  | linkB : c.f2 = 3 → p.f0.f1 = c.f5.f1 → (⟨linkFirst c, p.f0.f0⟩ : Pair) ∈ K → Rule c p K ⟨credRole c, p.f1⟩
  | bothA : c.f2 = 4 → p.f0 = c.f4 → (⟨c.f5, p.f1⟩ : Pair) ∈ K → Rule c p K ⟨credRole c, p.f1⟩
  | bothB : c.f2 = 4 → p.f0 = c.f5 → (⟨c.f4, p.f1⟩ : Pair) ∈ K → Rule c p K ⟨credRole c, p.f1⟩
theorem Rule.mono {c : Cred} {p : Pair} {K K' : List Pair} (h : ∀ x ∈ K, x ∈ K') {r : Pair} (hr : Rule c p K r) : Rule c p K' r := by
  cases hr with
  | incl a b => exact .incl a b
  | linkA a b d e => exact .linkA a b d (h _ e)
  | linkB a b d => exact .linkB a b (h _ d)
  | bothA a b d => exact .bothA a b (h _ d)
  | bothB a b d => exact .bothB a b (h _ d)
theorem linkA_runs {cs : List Cred} (hm : Mays cs) (hl : cs.length ≤ 20) {c : Cred} (hc : c ∈ cs) (k : c.f2 = 3) {p : Pair} (s : St) (hp : p ∈ s.known) (g : Good cs s) : Runs cs s (linkA c p s) (fun r => p.f0 = linkFirst c ∧ numName p.f1 > 0 ∧ ∃ v, (⟨⟨p.f1, c.f5.f1⟩, v⟩ : Pair) ∈ s.known ∧ r = ⟨credRole c, v⟩) := by
  unfold linkA
  by_cases e1 : p.f0 = linkFirst c
  · rw [if_pos e1, number_is _ 20 (by omega), Option.bind_some]
    by_cases hn : numName p.f1 > 0
    · have h400 := said_400 hl g.nodup g.said
      rw [if_pos hn, if_pos (by omega)]; refine (learnMany_runs hm hl c _ _ s ?_ g).imp ?_
      · intro q hq e
        have hq' := g.said q (sortPairs_mem.mp hq); have hp' := g.said p hp; have eq : q = ⟨⟨p.f1, c.f5.f1⟩, q.f1⟩ := pair_ext e rfl; have ep : p = ⟨linkFirst c, p.f1⟩ := pair_ext e1 rfl; rw [ep] at hp'; rw [eq] at hq'; exact .link hc k hp' hn hq'
      · rintro r ⟨_, _, v, hv, e⟩
        exact ⟨_, sortPairs_mem.mpr hv, rfl, e⟩
    · rw [if_neg hn]
      exact .none g (fun q h => hn h.2.1)
  · rw [if_neg e1]
    exact .none g (fun q h => e1 h.1)
theorem linkB_runs {cs : List Cred} (hm : Mays cs) (hl : cs.length ≤ 20) {c : Cred} (hc : c ∈ cs) (k : c.f2 = 3) {p : Pair} (s : St) (hp : p ∈ s.known) (g : Good cs s) : Runs cs s (linkB c p s) (fun r => p.f0.f1 = c.f5.f1 ∧ (⟨linkFirst c, p.f0.f0⟩ : Pair) ∈ s.known ∧ r = ⟨credRole c, p.f1⟩) := by
  unfold linkB; have hp' := g.said p hp
  by_cases e1 : p.f0.f1 = c.f5.f1
  · obtain ⟨_, h1, h2⟩ := credMay_facts (hm c hc)
    have hok : okPair ⟨linkFirst c, p.f0.f0⟩ := by
      refine ⟨small_max (domName_small _), ?_, (hp'.okPair hm).1⟩
      rcases h2 with h2 | h2 | h2 | h2
      · omega
      · omega
      · exact small_max h2.2.1
      · omega
    rw [if_pos e1, if_pos hok]
    by_cases hin : (⟨linkFirst c, p.f0.f0⟩ : Pair) ∈ s.known
    · rw [if_pos hin]
      refine (learn_runs hm hl g ?_).imp ?_
      · have ep : p = ⟨⟨p.f0.f0, c.f5.f1⟩, p.f1⟩ := pair_ext (role_ext rfl e1) rfl
        have hn := hp'.owner hm; have hp2 := hp'; rw [ep] at hp2; exact .link hc k (g.said _ hin) hn hp2
      · rintro r ⟨_, _, e⟩
        exact e
    · rw [if_neg hin]
      exact .none g (fun q h => hin h.2.1)
  · rw [if_neg e1]
    exact .none g (fun q h => e1 h.1)
theorem bothS_runs {cs : List Cred} (hm : Mays cs) (hl : cs.length ≤ 20) {c : Cred} (hc : c ∈ cs) (k : c.f2 = 4) {p : Pair} (s : St) (hp : p ∈ s.known) (g : Good cs s) : Runs cs s (bothSecond c p s) (fun r => p.f0 = c.f5 ∧ (⟨c.f4, p.f1⟩ : Pair) ∈ s.known ∧ r = ⟨credRole c, p.f1⟩) := by
  unfold bothSecond; have hp' := g.said p hp
  by_cases e1 : p.f0 = c.f5
  · obtain ⟨_, h1, h2⟩ := credMay_facts (hm c hc)
    have hok : okPair ⟨c.f4, p.f1⟩ := by
      rcases h2 with h2 | h2 | h2 | h2
      · omega
      · omega
      · omega
      · exact ⟨small_max h2.2.1.1, small_max h2.2.1.2, (hp'.okPair hm).2.2⟩
    rw [if_pos e1, if_pos hok]
    by_cases hin : (⟨c.f4, p.f1⟩ : Pair) ∈ s.known
    · rw [if_pos hin]
      refine (learn_runs hm hl g ?_).imp ?_
      · have ep : p = ⟨c.f5, p.f1⟩ := pair_ext e1 rfl
        have hp2 := hp'; rw [ep] at hp2; exact .both hc k (g.said _ hin) hp2
      · rintro r ⟨_, _, e⟩
        exact e
    · rw [if_neg hin]
      exact .none g (fun q h => hin h.2.1)
  · rw [if_neg e1]
    exact .none g (fun q h => e1 h.1)
theorem both_runs {cs : List Cred} (hm : Mays cs) (hl : cs.length ≤ 20) {c : Cred} (hc : c ∈ cs) (k : c.f2 = 4) {p : Pair} (s : St) (hp : p ∈ s.known) (g : Good cs s) : Runs cs s (bothF c p s) (fun r => Rule c p s.known r) := by
  unfold bothF; have hp' := g.said p hp; have key : Runs cs s (bothSecond c p s) (fun r => p.f0 = c.f5 ∧ (⟨c.f4, p.f1⟩ : Pair) ∈ s.known ∧ r = ⟨credRole c, p.f1⟩) := bothS_runs hm hl hc k s hp g
  have other : ∀ r, Rule c p s.known r → (¬ (p.f0 = c.f4 ∧ (⟨c.f5, p.f1⟩ : Pair) ∈ s.known)) → p.f0 = c.f5 ∧ (⟨c.f4, p.f1⟩ : Pair) ∈ s.known ∧ r = ⟨credRole c, p.f1⟩ := by
    intro r hr hno
    cases hr with
    | incl a b => omega
    | linkA a b d e => omega
    | linkB a b d => omega
    | bothA a b d => exact absurd ⟨b, d⟩ hno
    | bothB a b d => exact ⟨b, d, rfl⟩
  by_cases e1 : p.f0 = c.f4
  · obtain ⟨_, h1, h2⟩ := credMay_facts (hm c hc)
    have hok : okPair ⟨c.f5, p.f1⟩ := by
      rcases h2 with h2 | h2 | h2 | h2
      · omega
      · omega
      · omega
      · exact ⟨small_max h2.2.2.1, small_max h2.2.2.2, (hp'.okPair hm).2.2⟩
    rw [if_pos e1, if_pos hok]
    by_cases hin : (⟨c.f5, p.f1⟩ : Pair) ∈ s.known
    · rw [if_pos hin]
      refine (learn_runs hm hl g ?_).imp ?_
      · have ep : p = ⟨c.f4, p.f1⟩ := pair_ext e1 rfl
        have hp2 := hp'; rw [ep] at hp2; exact .both hc k hp2 (g.said _ hin)
      · intro r hr
        cases hr with
        | incl a b => omega
        | linkA a b d e => omega
        | linkB a b d => omega
        | bothA a b d => rfl
        | bothB a b d => rfl
    · rw [if_neg hin]
      exact key.imp fun r hr => other r hr (fun h => hin h.2)
  · rw [if_neg e1]
    exact key.imp fun r hr => other r hr (fun h => e1 h.1)
theorem step_runs {cs : List Cred} (hm : Mays cs) (hl : cs.length ≤ 20) {c : Cred} (hc : c ∈ cs) {p : Pair} (s : St) (hp : p ∈ s.known) (g : Good cs s) : Runs cs s (stepF p c s) (fun r => Rule c p s.known r) := by
  unfold stepF
  by_cases k1 : c.f2 = 1
  · rw [if_pos k1]
    refine .none g (fun q h => ?_)
    cases h <;> omega
  rw [if_neg k1]
  by_cases k3 : c.f2 = 3
  · rw [if_pos k3]
    unfold linkF; refine (linkA_runs hm hl hc k3 s hp g).bind (W2 := fun r => p.f0.f1 = c.f5.f1 ∧ (⟨linkFirst c, p.f0.f0⟩ : Pair) ∈ s.known ∧ r = ⟨credRole c, p.f1⟩) (fun s' g' gr => (linkB_runs hm hl hc k3 s' (gr.mem hp) g').imp (fun q h => ⟨h.1, gr.mem h.2.1, h.2.2⟩)) ?_; intro r hr
    cases hr with
    | incl a b => omega
    | linkA a b d e => exact .inl ⟨b, d, _, e, rfl⟩
    | linkB a b d => exact .inr ⟨b, d, rfl⟩
    | bothA a b d => omega
    | bothB a b d => omega
  rw [if_neg k3]
  by_cases k4 : c.f2 = 4
  · rw [if_pos k4]
    exact both_runs hm hl hc k4 s hp g
  rw [if_neg k4]
  have k2 : c.f2 = 2 := by
    obtain ⟨_, _, h2⟩ := credMay_facts (hm c hc)
    rcases h2 with h2 | h2 | h2 | h2
    · omega
    · exact h2.1
    · omega
    · omega
  unfold includeF
  by_cases e1 : p.f0 = c.f4
  · rw [if_pos e1]
    refine (learn_runs hm hl g ?_).imp ?_
    · have ep : p = ⟨c.f4, p.f1⟩ := pair_ext e1 rfl
      have hp2 := g.said p hp; rw [ep] at hp2; exact .incl hc k2 hp2
    · intro r hr
      cases hr with
      | incl a b => rfl
      | linkA a b d e => omega
      | linkB a b d => omega
      | bothA a b d => omega
      | bothB a b d => omega
  · rw [if_neg e1]
    refine .none g (fun r hr => ?_)
    cases hr with
    | incl a b => exact e1 b
    | linkA a b d e => omega
    | linkB a b d => omega
    | bothA a b d => omega
    | bothB a b d => omega
theorem steps_runs {cs : List Cred} (hm : Mays cs) (hl : cs.length ≤ 20) {p : Pair} (K : List Pair) : ∀ (l : List Cred) (s : St), (∀ c ∈ l, c ∈ cs) → p ∈ s.known → (∀ x ∈ K, x ∈ s.known) → Good cs s → Runs cs s (stepsF p l s) (fun r => ∃ c ∈ l, Rule c p K r)
  | [], s, _, _, _, g => .none g (fun q h => by obtain ⟨c, hc, _⟩ := h; cases hc)
  | c :: l, s, hs, hp, hK, g => by
    rw [stepsF]; refine (step_runs hm hl (hs c (List.mem_cons_self ..)) s hp g).bind (fun s' g' gr => steps_runs hm hl K l s' (fun x hx => hs x (List.mem_cons_of_mem _ hx)) (gr.mem hp) (fun x hx => gr.mem (hK x hx)) g') ?_; rintro r ⟨c', hc', hr⟩
    rcases List.mem_cons.mp hc' with rfl | h
    · exact .inl (hr.mono hK)
    · exact .inr ⟨c', h, hr⟩
def Dealt (cs : List Cred) (s : St) : Prop := (∀ c ∈ cs, c.f2 = 1 → (⟨credRole c, c.f3⟩ : Pair) ∈ s.known) ∧ ∃ done, s.known = done ++ s.waits ∧ ∀ a ∈ done, ∀ c ∈ cs, ∀ r, Rule c a done r → r ∈ s.known
theorem dealt_step {cs : List Cred} (hm : Mays cs) (hl : cs.length ≤ 20) {s : St} (g : Good cs s) (d : Dealt cs s) {p : Pair} {ws : List Pair} (e : s.waits = p :: ws) :
    ∃ s', stepsF p cs ⟨s.known, ws⟩ = some s' ∧ Good cs s' ∧ Dealt cs s' ∧ s'.known.length - s'.waits.length = s.known.length - s.waits.length + 1 ∧ s'.waits.length ≤ s'.known.length := by
  obtain ⟨hM, done, hd, hC⟩ := d
  have hd2 : s.known = (done ++ [p]) ++ ws := by rw [hd, e]; simp
  have g1 : Good cs ⟨s.known, ws⟩ := ⟨g.nodup, g.said, done ++ [p], hd2⟩
  have hpk : p ∈ s.known := by rw [hd2]; simp
  have hsub : ∀ x ∈ done ++ [p], x ∈ s.known := fun x hx => by rw [hd2]; exact List.mem_append_left _ hx
  obtain ⟨s', es, g', ⟨l, hk, hw⟩, hW⟩ := steps_runs hm hl (p := p) (done ++ [p]) cs ⟨s.known, ws⟩ (fun c h => h) hpk hsub g1; have hk' : s'.known = s.known ++ l := hk; have hw' : s'.waits = ws ++ l := hw
  have up : ∀ x ∈ s.known, x ∈ s'.known := fun x hx => by rw [hk']; exact List.mem_append_left _ hx
  refine ⟨s', es, g', ⟨fun c hc k => up _ (hM c hc k), done ++ [p], by rw [hk', hw', hd2]; simp, ?_⟩, ?_, ?_⟩
  · intro a ha c hc r hr
    by_cases eap : a = p
    · subst eap
      exact hW r ⟨c, hc, hr⟩
    · have had : a ∈ done := by
        rcases List.mem_append.mp ha with h | h
        · exact h
        · exact absurd (List.mem_singleton.mp h) eap
      have sa : Said cs a := g.said a (hsub a ha)
      have split : ∀ x, x ∈ done ++ [p] → x ∈ done ∨ x = p := fun x hx => (List.mem_append.mp hx).imp id (fun h => List.mem_singleton.mp h)
      cases hr with
      | incl k b => exact up _ (hC a had c hc _ (.incl k b))
      | linkA k b n h =>
        rcases split _ h with h | h
        · exact up _ (hC a had c hc _ (.linkA k b n h))
        · have e0 : p.f0.f0 = a.f1 := by rw [← h]
          have e1 : p.f0.f1 = c.f5.f1 := by rw [← h]
          have e2 := congrArg S47.f1 h; have := Rule.linkB (c := c) (p := p) (K := done ++ [p]) k e1 (by rw [e0, show (⟨linkFirst c, a.f1⟩ : Pair) = a from pair_ext b.symm rfl]; exact ha); rw [← e2] at this; exact hW _ ⟨c, hc, this⟩
      | linkB k b h =>
        rcases split _ h with h | h
        · exact up _ (hC a had c hc _ (.linkB k b h))
        · have e0 : p.f0 = linkFirst c := by rw [← h]
          have e1 : p.f1 = a.f0.f0 := by rw [← h]
          have := Rule.linkA (c := c) (p := p) (K := done ++ [p]) (v := a.f1) k e0 (by rw [e1]; exact sa.owner hm) (by rw [e1, show (⟨⟨a.f0.f0, c.f5.f1⟩, a.f1⟩ : Pair) = a from pair_ext (role_ext rfl b.symm) rfl]; exact ha); exact hW _ ⟨c, hc, this⟩
      | bothA k b h =>
        rcases split _ h with h | h
        · exact up _ (hC a had c hc _ (.bothA k b h))
        · have e0 : p.f0 = c.f5 := by rw [← h]
          have e1 : p.f1 = a.f1 := by rw [← h]
          have := Rule.bothB (c := c) (p := p) (K := done ++ [p]) k e0 (by rw [e1, show (⟨c.f4, a.f1⟩ : Pair) = a from pair_ext b.symm rfl]; exact ha); rw [e1] at this; exact hW _ ⟨c, hc, this⟩
      | bothB k b h =>
        rcases split _ h with h | h
        · exact up _ (hC a had c hc _ (.bothB k b h))
        · have e0 : p.f0 = c.f4 := by rw [← h]
          have e1 : p.f1 = a.f1 := by rw [← h]
          have := Rule.bothA (c := c) (p := p) (K := done ++ [p]) k e0 (by rw [e1, show (⟨c.f5, a.f1⟩ : Pair) = a from pair_ext b.symm rfl]; exact ha); rw [e1] at this; exact hW _ ⟨c, hc, this⟩
  · rw [hk', hw', hd2, e]
    simp; omega
  · rw [hk', hw', hd2]
    simp; omega
theorem loop_said {cs : List Cred} (hm : Mays cs) (hl : cs.length ≤ 20) : ∀ (k : Nat) (s : St), Good cs s → Dealt cs s → s.waits.length ≤ s.known.length → 401 - (s.known.length - s.waits.length) ≤ k → 1 ≤ k → ∃ s', loopF cs k s = some s' ∧ Good cs s' ∧ Dealt cs s' ∧ s'.waits = []
  | 0, s, _, _, _, _, h => by omega
  | k + 1, s, g, d, hle, hk, _ => by
    rw [loopF]
    cases e : s.waits with
    | nil => exact ⟨s, rfl, g, d, e⟩
    | cons p ws =>
      obtain ⟨s1, e1, g1, d1, h1, h2⟩ := dealt_step hm hl g d e; have h400 := said_400 hl g1.nodup g1.said
      show ∃ s', ((stepsF p cs ⟨s.known, ws⟩).bind (loopF cs k)) = some s' ∧ _
      rw [e1, Option.bind_some]; exact loop_said hm hl k s1 g1 d1 h2 (by omega) (by omega)
theorem run_said {cs : List Cred} (hm : Mays cs) (hl : cs.length ≤ 20) : ∃ s, runF 2000 cs = some s ∧ s.known.Nodup ∧ (∀ p, p ∈ s.known ↔ Said cs p) := by
  have g0 : Good cs ⟨[], []⟩ := ⟨List.nodup_nil, fun p hp => by (cases hp), [], rfl⟩
  obtain ⟨s1, e1, g1, ⟨l, hk, hw⟩, hW⟩ := members_runs hm hl cs ⟨[], []⟩ (fun c h => h) g0; have hk' : s1.known = l := hk; have hw' : s1.waits = l := hw
  have d1 : Dealt cs s1 := ⟨fun c hc k => hW _ ⟨c, hc, k, rfl⟩, [], by rw [hk', hw']; rfl, fun a ha => by (cases ha)⟩
  obtain ⟨s2, e2, g2, ⟨hM, done, hd, hC⟩, hws⟩ := loop_said hm hl 2000 s1 g1 d1 (by rw [hk', hw']; exact Nat.le_refl _) (by omega) (by omega); refine ⟨s2, ?_, g2.nodup, fun p => ⟨g2.said p, fun h => ?_⟩⟩
  · unfold runF
    rw [e1, Option.bind_some, e2]
  · rw [hws, List.append_nil] at hd
    rw [hd] at hM hC ⊢
    induction h with
    | member hc k => exact hM _ hc k
    | incl hc k _ ih => exact hC _ ih _ hc _ (.incl (p := ⟨_, _⟩) k rfl)
    | link hc k _ n _ ih1 ih2 => exact hC _ ih1 _ hc _ (.linkA (p := ⟨_, _⟩) k rfl n ih2)
    | both hc k _ _ ih1 ih2 => exact hC _ ih1 _ hc _ (.bothA (p := ⟨_, _⟩) k rfl ih2)
def sameID (a b : Cred) : Bool := decide (a.f0.f0 = b.f0.f0) && decide (a.f0.f1 = b.f0.f1)
theorem sameID_iff {a b : Cred} : sameID a b = true ↔ a.f0.f0 = b.f0.f0 ∧ a.f0.f1 = b.f0.f1 := by
  unfold sameID; rw [Bool.and_eq_true, decide_eq_true_eq, decide_eq_true_eq]
def credLess (a b : Cred) : Prop := a.f0.f0 < b.f0.f0 ∨ (a.f0.f0 = b.f0.f0 ∧ a.f0.f1 < b.f0.f1)
theorem credLess_irrefl (a : Cred) : ¬ credLess a a := by unfold credLess; omega
theorem credLess_trans (a b c : Cred) (h : credLess a b) (h' : credLess b c) : credLess a c := by unfold credLess at *; omega
def First (l : List Cred) (c : Cred) : Prop := l.find? (fun d => credMay d && sameID d c) = some c
structure Counts (l R : List Cred) : Prop where
  sorted : R.Pairwise credLess
  mem : ∀ c, c ∈ R ↔ First l c
theorem Counts.unique {l R R' : List Cred} (h : Counts l R) (h' : Counts l R') : R = R' :=
  sorted_eq credLess_irrefl credLess_trans h.sorted h'.sorted (fun c => (h.mem c).trans (h'.mem c).symm)
theorem First.may {l : List Cred} {c : Cred} (h : First l c) : credMay c = true := by
  have := List.find?_some h; rw [Bool.and_eq_true] at this; exact this.1
theorem First.mem {l : List Cred} {c : Cred} (h : First l c) : c ∈ l := List.mem_of_find?_eq_some h
def firsts (out : List Cred) : List Cred → List Cred
  | [] => out
  | c :: l => if credMay c && !(out.any fun d => sameID d c) then firsts (out ++ [c]) l else firsts out l
theorem firsts_mem (c : Cred) : ∀ (l out : List Cred), c ∈ firsts out l ↔ c ∈ out ∨ ((∀ d ∈ out, sameID d c = false) ∧ First l c)
  | [], out => by
    rw [firsts]; unfold First; simp
  | x :: l, out => by
    rw [firsts]; unfold First; rw [List.find?_cons]
    by_cases h : (credMay x && !(out.any fun d => sameID d x)) = true
    · rw [if_pos h, firsts_mem c l (out ++ [x])]
      rw [Bool.and_eq_true, Bool.not_eq_true', List.any_eq_false] at h
      by_cases hx : sameID x c = true
      · rw [h.1, hx]
        simp only [Bool.and_self, Option.some.injEq, List.mem_append, List.mem_singleton]; constructor
        · rintro ((h1 | h1) | ⟨h1, _⟩)
          · exact .inl h1
          · exact .inr ⟨fun d hd => by rw [h1]; simpa using h.2 d hd, h1.symm⟩
          · have := h1 x (by simp)
            rw [hx] at this; cases this
        · rintro (h1 | ⟨_, h1⟩)
          · exact .inl (.inl h1)
          · exact .inl (.inr h1.symm)
      · rw [Bool.not_eq_true] at hx
        rw [hx, Bool.and_false]; simp only [List.mem_append, List.mem_singleton]; unfold First; constructor
        · rintro ((h1 | h1) | ⟨h1, h2⟩)
          · exact .inl h1
          · subst h1
            rw [Bool.eq_false_iff] at hx; exact absurd (sameID_iff.mpr ⟨rfl, rfl⟩) hx
          · exact .inr ⟨fun d hd => h1 d (.inl hd), h2⟩
        · rintro (h1 | ⟨h1, h2⟩)
          · exact .inl (.inl h1)
          · refine .inr ⟨fun d hd => ?_, h2⟩
            rcases hd with hd | hd
            · exact h1 d hd
            · rw [hd]; exact hx
    · rw [if_neg h, firsts_mem c l out]
      by_cases hx : sameID x c = true
      · by_cases hm : credMay x = true
        · have hany : (out.any fun d => sameID d x) = true := by
            rw [hm, Bool.true_and] at h
            simpa using h
          obtain ⟨d, hd, hdx⟩ := List.any_eq_true.mp hany
          have hdc : sameID d c = true := by
            rw [sameID_iff] at *; omega
          have no : ∀ P : Prop, ¬ ((∀ d ∈ out, sameID d c = false) ∧ P) := fun P hP => by
            have := hP.1 d hd; rw [hdc] at this; cases this
          simp only [no]
        · rw [Bool.not_eq_true] at hm
          rw [hm, Bool.false_and]; rfl
      · rw [Bool.not_eq_true] at hx
        rw [hx, Bool.and_false]; rfl
theorem firsts_sorted : ∀ (l out : List Cred), out.Pairwise credLess → (∀ d ∈ out, ∀ c ∈ l, ¬ credLess c d) → l.Pairwise (fun x y => ¬ credLess y x) → (firsts out l).Pairwise credLess
  | [], out, h, _, _ => h
  | x :: l, out, h, hol, hl => by
    rw [firsts]; rw [List.pairwise_cons] at hl
    split
    · rename_i hc
      rw [Bool.and_eq_true, Bool.not_eq_true', List.any_eq_false] at hc; refine firsts_sorted l _ ?_ ?_ hl.2
      · rw [List.pairwise_append]
        refine ⟨h, List.pairwise_singleton _ _, fun a ha b hb => ?_⟩; rw [List.mem_singleton.mp hb]; have h1 := hol a ha x (List.mem_cons_self ..); have h2 := hc.2 a ha; rw [sameID_iff] at h2; unfold credLess at *; omega
      · intro d hd c hcl
        rcases List.mem_append.mp hd with h1 | h1
        · exact hol d h1 c (List.mem_cons_of_mem _ hcl)
        · rw [List.mem_singleton.mp h1]
          exact hl.1 c hcl
    · exact firsts_sorted l out h (fun d hd c hcl => hol d hd c (List.mem_cons_of_mem _ hcl)) hl.2
theorem sortCreds_filter (q : Cred → Bool) (hq : ∀ x y, q x = true → q y = true → sameID x y = true) (l : List Cred) : (sortCreds l).filter q = l.filter q := by
  refine insertion_filter _ q (fun x y h hx hy => ?_) l; have := hq x y hx hy; rw [credCmp_lt] at h; rw [sameID_iff] at this; omega
theorem sortCreds_sorted (l : List Cred) : (sortCreds l).Pairwise (fun x y => ¬ credLess y x) := by
  refine (insertion_sorted _ credSWO l).imp fun {a b} h => ?_
  rw [Bool.eq_false_iff, Ne, credCmp_lt] at h; exact h
theorem find_filter {α : Type} (p : α → Bool) (l : List α) : l.find? p = (l.filter p).head? := by
  rw [List.head?_filter]
theorem sortCreds_first (l : List Cred) (c : Cred) : First (sortCreds l) c ↔ First l c := by
  unfold First; rw [find_filter, find_filter]
  have e : ∀ m : List Cred, m.filter (fun d => credMay d && sameID d c) = (m.filter (fun d => sameID d c)).filter credMay := fun m => by rw [List.filter_filter]
  rw [e, e, sortCreds_filter _ (fun x y hx hy => by rw [sameID_iff] at *; omega)]
theorem prog_counts (l : List Cred) : Counts l (firsts [] (sortCreds l)) where
  sorted := firsts_sorted _ _ List.Pairwise.nil (fun d hd => by cases hd) (sortCreds_sorted l)
  mem c := by
    rw [firsts_mem, sortCreds_first]; simp
theorem firsts_length : ∀ (l out : List Cred), (firsts out l).length ≤ out.length + l.length
  | [], out => by rw [firsts]; simp
  | x :: l, out => by
    rw [firsts]
    split
    · have := firsts_length l (out ++ [x])
      simp at *; omega
    · have := firsts_length l out
      simp; omega
theorem wrap_succ {i : Nat} (h : i < 1000000000000) : wrap64 ((i : Int) + 1) = ((i + 1 : Nat) : Int) := by unfold wrap64; omega
theorem rdCred (l : List Cred) (i : Nat) : Qab l (i : Int) = l[i]! := by
  unfold Qab; rw [Int.toNat_natCast, List.getElem!_eq_getElem?_getD, List.getD_eq_getElem?_getD]; rfl
theorem getBang {α : Type} [Inhabited α] {l : List α} {i : Nat} (h : i < l.length) : l[i]! = l[i] := getElem!_pos l i h
theorem drop_bang {α : Type} [Inhabited α] {l : List α} {i : Nat} (h : i < l.length) : l.drop i = l[i]! :: l.drop (i + 1) := by
  rw [getBang h]; exact List.drop_eq_getElem_cons h
theorem last_same {ini : List Cred} {z c : Cred} (hs : (ini ++ [z]).Pairwise credLess) (hc : ∀ d ∈ ini ++ [z], ¬ credLess c d) : ((ini ++ [z]).any fun d => sameID d c) = sameID z c := by
  rw [List.any_append]
  have h0 : (ini.any fun d => sameID d c) = false := by
    rw [List.any_eq_false]; intro d hd h; rw [List.pairwise_append] at hs; have h1 := hs.2.2 d hd z (by simp); have h2 := hc z (by simp); rw [sameID_iff] at h; unfold credLess at *; omega
  rw [h0]; simp
theorem bne_same (a b : Cred) : (!((a.f0.f0) == (b.f0.f0)) || (!((a.f0.f1) == (b.f0.f1)))) = !(sameID a b) := by
  unfold sameID; rw [Bool.not_and]; rfl
theorem progCounts_loop (S : List Cred) (hl : S.length < 1000) (hok : ∀ c ∈ S, okCred c) (hS : S.Pairwise (fun x y => ¬ credLess y x)) : ∀ (n i k : Nat) (out : List Cred), n + i = S.length → n + 20 ≤ k → out.length ≤ i → out.Pairwise credLess → (∀ d ∈ out, ∀ c ∈ S.drop i, ¬ credLess c d) → Qaz.l0 k out S (S.length : Int) (i : Int) = some (firsts out (S.drop i))
  | 0, i, k, out, hn, hk, ho, _, _ => by
    obtain ⟨k, rfl⟩ : ∃ j, k = j + 1 := ⟨k - 1, by omega⟩
    rw [Qaz.l0, if_neg (by omega), show S.drop i = [] from List.drop_eq_nil_of_le (by omega), firsts]
  | n + 1, i, k, out, hn, hk, ho, hs, hd => by
    obtain ⟨k, rfl⟩ : ∃ j, k = j + 1 := ⟨k - 1, by omega⟩
    have hi : i < S.length := by omega
    have hdrop := drop_bang hi
    have hmem : S[i]! ∈ S := by rw [getBang hi]; exact List.getElem_mem hi
    have hmay := credMay_is S[i]! (hok _ hmem) k (by omega); have hpw := hS.drop (i := i); rw [hdrop] at hd hpw ⊢; rw [List.pairwise_cons] at hpw; rw [Qaz.l0, if_pos (by omega), if_pos (by omega), if_pos (by omega), wrap_succ (by omega), rdCred, hmay, Option.bind_some, firsts]
    generalize hc : S[i]! = c at *
    clear hmay
    have rest := fun (out' : List Cred) h1 h2 h3 => progCounts_loop S hl hok hS n (i + 1) k out' (by omega) (by omega) h1 h2 h3
    have grown : ∀ (h : out.any (fun d => sameID d c) = false), Qaz.l0 k (out ++ [c]) S (S.length : Int) ((i + 1 : Nat) : Int) = some (firsts (out ++ [c]) (S.drop (i + 1))) := fun h => by
      rw [List.any_eq_false] at h; refine rest _ (by simp; omega) ?_ ?_
      · rw [List.pairwise_append]
        refine ⟨hs, List.pairwise_singleton _ _, fun a ha b hb => ?_⟩; rw [List.mem_singleton.mp hb]; have h1 := hd a ha c (List.mem_cons_self ..); have h2 := h a ha; rw [sameID_iff] at h2; unfold credLess at *; omega
      · intro d hdm x hx
        rcases List.mem_append.mp hdm with h1 | h1
        · exact hd d h1 x (List.mem_cons_of_mem _ hx)
        · rw [List.mem_singleton.mp h1]
          exact hpw.1 x hx
    have same : Qaz.l0 k out S (S.length : Int) ((i + 1 : Nat) : Int) = some (firsts out (S.drop (i + 1))) := rest out (by omega) hs (fun d hdm x hx => hd d hdm x (List.mem_cons_of_mem _ hx))
    by_cases m : credMay c = true
    · rw [if_pos m, m, Bool.true_and]
      rcases List.eq_nil_or_concat out with e | ⟨ini, z, e⟩
      · subst e
        rw [if_pos (show (([] : List Cred).length : Int) = 0 from rfl), if_pos (by decide)]; exact grown rfl
      · rw [List.concat_eq_append] at e
        have hlen : out.length = ini.length + 1 := by rw [e]; simp
        have hw : wrap64 ((out.length : Int) - 1) = ((ini.length : Nat) : Int) := by unfold wrap64; omega
        have hz : Qab out (ini.length : Int) = z := by
          rw [rdCred, e, getBang (by simp)]; simp
        have hany : (out.any fun d => sameID d c) = sameID z c := by
          rw [e] at hs hd ⊢; exact last_same hs (fun d hdm => hd d hdm c (List.mem_cons_self ..))
        rw [if_neg (by omega), hw, if_pos (by omega), if_pos (by omega), hz, bne_same, hany]; cases hb : sameID z c
        · rw [if_pos (show (!false) = true from rfl), if_pos (show out.length < 1172812402961 by omega), if_pos (show (!false) = true from rfl)]
          exact grown (hany.trans hb)
        · rw [if_neg (show ¬ (!true) = true by decide), if_neg (show ¬ (!true) = true by decide)]
          exact same
    · rw [if_neg m]
      rw [Bool.not_eq_true] at m; rw [m, Bool.false_and]; exact same
theorem cred_ext {a b : Cred} (h0 : a.f0.f0 = b.f0.f0) (h0' : a.f0.f1 = b.f0.f1) (h1 : a.f1 = b.f1) (h2 : a.f2 = b.f2) (h3 : a.f3 = b.f3) (h4 : a.f4 = b.f4) (h5 : a.f5 = b.f5) : a = b := by
  obtain ⟨⟨_, _⟩, _, _, _, _, _⟩ := a; obtain ⟨⟨_, _⟩, _, _, _, _, _⟩ := b
  simp_all
instance credDec : DecidableEq Cred := fun a b => decidable_of_iff (a.f0.f0 = b.f0.f0 ∧ a.f0.f1 = b.f0.f1 ∧ a.f1 = b.f1 ∧ a.f2 = b.f2 ∧ a.f3 = b.f3 ∧ a.f4 = b.f4 ∧ a.f5 = b.f5)
  ⟨fun h => cred_ext h.1 h.2.1 h.2.2.1 h.2.2.2.1 h.2.2.2.2.1 h.2.2.2.2.2.1 h.2.2.2.2.2.2, fun h => by rw [h]; exact ⟨rfl, rfl, rfl, rfl, rfl, rfl, rfl⟩⟩
def counts (l : List Cred) : List Cred := firsts [] (sortCreds l)
theorem counts_spec (l : List Cred) : Counts l (counts l) := prog_counts l
theorem sortCreds_mem {l : List Cred} {c : Cred} : c ∈ sortCreds l ↔ c ∈ l := by
  have := sortCreds_filter (fun d => decide (d = c)) (fun x y hx hy => by
    rw [decide_eq_true_eq] at hx hy; rw [hx, hy]
    exact sameID_iff.mpr ⟨rfl, rfl⟩) l
  constructor
  · intro h
    have h1 : c ∈ (sortCreds l).filter (fun d => decide (d = c)) := List.mem_filter.mpr ⟨h, by simp⟩; rw [this] at h1; exact (List.mem_filter.mp h1).1
  · intro h
    have h1 : c ∈ l.filter (fun d => decide (d = c)) := List.mem_filter.mpr ⟨h, by simp⟩; rw [← this] at h1; exact (List.mem_filter.mp h1).1
theorem progCounts_is (l : List Cred) (hl : l.length < 20) (hok : ∀ c ∈ l, okCred c) (k : Nat) (hk : 40 ≤ k) : Qaz.f k l = some (counts l) := by
  unfold Qaz.f cred_Sorted.f; rw [if_pos hl, Option.bind_some]; have hlen := sortCreds_length l; exact progCounts_loop (sortCreds l) (by omega) (fun c hc => hok c (sortCreds_mem.mp hc)) (sortCreds_sorted l) (sortCreds l).length 0 k [] (by omega) (by omega) (by simp) List.Pairwise.nil (fun d hd => by cases hd)
abbrev RPair := S36
theorem rpair_ext {a b : RPair} (h0 : a.f0 = b.f0) (h1 : a.f1 = b.f1) : a = b := by cases a; cases b; simp_all
instance rpairDec : DecidableEq RPair := fun a b => decidable_of_iff (a.f0 = b.f0 ∧ a.f1 = b.f1) ⟨fun h => rpair_ext h.1 h.2, fun h => by rw [h]; exact ⟨rfl, rfl⟩⟩
instance : Inhabited RPair := ⟨z36⟩
theorem rdR (l : List RPair) (i : Nat) : rd_T36 l (i : Int) = l[i]! := by
  unfold rd_T36; rw [Int.toNat_natCast, List.getElem!_eq_getElem?_getD, List.getD_eq_getElem?_getD]; rfl
theorem beq_dec (a b : ByteArray) : (a.toList == b.toList) = decide (a = b) := by
  rw [Bool.eq_iff_iff, Lib.bytes_beq_iff, decide_eq_true_eq]
theorem role_beq (r : Role) (a b : ByteArray) : (r.f0.toList == a.toList && (r.f1.toList == b.toList)) = decide (r = ⟨a, b⟩) := by
  rw [beq_dec, beq_dec, Bool.eq_iff_iff, Bool.and_eq_true, decide_eq_true_eq, decide_eq_true_eq, decide_eq_true_eq]; exact ⟨fun h => role_ext h.1 h.2, fun h => by rw [h]; exact ⟨rfl, rfl⟩⟩
theorem rpair_beq (p : RPair) (a b c : ByteArray) : ((p.f0.f0.toList == a.toList && (p.f0.f1.toList == b.toList)) && (p.f1.toList == c.toList)) = decide (p = ⟨⟨a, b⟩, c⟩) := by
  rw [role_beq, beq_dec, Bool.eq_iff_iff, Bool.and_eq_true, decide_eq_true_eq, decide_eq_true_eq, decide_eq_true_eq]; exact ⟨fun h => rpair_ext h.1 h.2, fun h => by rw [h]; exact ⟨rfl, rfl⟩⟩
theorem in_l0 (l : List RPair) (hl : l.length < 1000000000) (a b c : ByteArray) : ∀ (n i : Nat), n + i = l.length → Ev (fun k => liveryref06_In.l0 k l (i : Int) a b c) (decide ((⟨⟨a, b⟩, c⟩ : RPair) ∈ l.drop i))
  | 0, i, hn => by
    rw [show l.drop i = [] from List.drop_eq_nil_of_le (by omega)]; refine Ev.step (fun k => ?_) (Ev.pure _); rw [liveryref06_In.l0, if_neg (by omega)]; rfl
  | n + 1, i, hn => by
    rw [drop_bang (by omega : i < l.length)]
    by_cases e : l[i]! = ⟨⟨a, b⟩, c⟩
    · refine Ev.step (fun k => ?_) (Ev.pure _)
      rw [liveryref06_In.l0, if_pos (by omega), if_pos (by omega), rdR, rpair_beq, decide_eq_true e, if_pos rfl, decide_eq_true (by rw [e]; exact List.mem_cons_self ..)]
    · have h : decide ((⟨⟨a, b⟩, c⟩ : RPair) ∈ l[i]! :: l.drop (i + 1)) = decide ((⟨⟨a, b⟩, c⟩ : RPair) ∈ l.drop (i + 1)) := by
        rw [Bool.eq_iff_iff, decide_eq_true_eq, decide_eq_true_eq, List.mem_cons]; exact ⟨fun h => h.resolve_left (fun h => e h.symm), .inr⟩
      rw [h]; refine Ev.step (fun k => ?_) (in_l0 l hl a b c n (i + 1) (by omega)); rw [liveryref06_In.l0, if_pos (by omega), if_pos (by omega), rdR, rpair_beq, decide_eq_false e, if_neg (by decide), wrap_succ (by omega)]
theorem in_ev (l : List RPair) (hl : l.length < 1000000000) (a b c : ByteArray) : Ev (fun k => liveryref06_In.f k l a b c) (decide ((⟨⟨a, b⟩, c⟩ : RPair) ∈ l)) :=
  in_l0 l hl a b c l.length 0 (by omega)
def Ext (out res : List RPair) (M : RPair → Prop) : Prop := ∃ e, res = out ++ e ∧ e.Nodup ∧ (∀ x ∈ e, x ∉ out) ∧ ∀ x, x ∈ res ↔ x ∈ out ∨ M x
theorem Ext.trans {a b c : List RPair} {M M' : RPair → Prop} (h : Ext a b M) (h' : Ext b c M') : Ext a c (fun x => M x ∨ M' x) := by
  obtain ⟨e, rfl, h1, h2, h3⟩ := h; obtain ⟨e', rfl, h4, h5, h6⟩ := h'; refine ⟨e ++ e', by rw [List.append_assoc], ?_, ?_, fun x => ?_⟩
  · rw [List.nodup_append]
    exact ⟨h1, h4, fun x hx y hy e => h5 y hy (List.mem_append_right _ (e ▸ hx))⟩
  · intro x hx
    rcases List.mem_append.mp hx with h | h
    · exact h2 x h
    · exact fun hxa => h5 x h (List.mem_append_left _ hxa)
  · rw [h6, h3]
    constructor
    · rintro ((h | h) | h)
      · exact .inl h
      · exact .inr (.inl h)
      · exact .inr (.inr h)
    · rintro (h | h | h)
      · exact .inl (.inl h)
      · exact .inl (.inr h)
      · exact .inr h
theorem Ext.imp {a b : List RPair} {M M' : RPair → Prop} (h : Ext a b M) (hM : ∀ x, M x ↔ M' x) : Ext a b M' := by
  obtain ⟨e, h0, h1, h2, h3⟩ := h; exact ⟨e, h0, h1, h2, fun x => (h3 x).trans ⟨fun h => h.imp id (hM x).mp, fun h => h.imp id (hM x).mpr⟩⟩
def toR (p : Pair) : RPair := ⟨p.f0, p.f1⟩
structure AllOf (cs : List Cred) (A : List Pair) : Prop where
  sorted : A.Pairwise (fun a b => pairLess a b = true)
  mem : ∀ p, p ∈ A ↔ Said cs p
theorem AllOf.unique {cs : List Cred} {A B : List Pair} (h : AllOf cs A) (h' : AllOf cs B) : A = B :=
  sorted_eq (R := fun a b => pairLess a b = true) pairLess_irrefl (fun _ _ _ => pairLess_trans) h.sorted h'.sorted (fun p => (h.mem p).trans (h'.mem p).symm)
theorem AllOf.nodup {cs : List Cred} {A : List Pair} (h : AllOf cs A) : A.Nodup := sorted_nodup (R := fun a b => pairLess a b = true) pairLess_irrefl h.sorted
theorem AllOf.length {cs : List Cred} {A : List Pair} (h : AllOf cs A) (hl : cs.length ≤ 20) : A.length ≤ 400 := said_400 hl h.nodup (fun p hp => (h.mem p).mp hp)
theorem sortPairs_sorted {l : List Pair} (hn : l.Nodup) : (sortPairs l).Pairwise (fun a b => pairLess a b = true) := by
  have h1 : (sortPairs l).Pairwise (fun a b => (!(ltOf pairCmp) b a) = true) := by
    unfold sortPairs; refine List.pairwise_mergeSort (le := fun x y => !(ltOf pairCmp) y x) ?_ ?_ l
    · intro a b c h1 h2
      simp only [Bool.not_eq_true'] at *; exact pairSWO.ntrans _ _ _ h2 h1
    · intro a b
      rw [pairCmp_lt, pairCmp_lt]
      by_cases h1 : pairLess b a = true
      · have : ¬ pairLess a b = true := fun h2 => pairLess_irrefl _ (pairLess_trans h1 h2)
        simp_all
      · simp_all
  have h2 : (sortPairs l).Nodup := (List.mergeSort_perm l _).nodup_iff.mpr hn
  refine (h1.and h2).imp fun {a b} hh => ?_
  obtain ⟨h, h'⟩ := hh; simp only [pairCmp_lt, Bool.not_eq_true'] at h
  by_cases h3 : pairLess a b = true
  · exact h3
  · exact absurd (pairLess_total h3 (by rw [h]; decide)) h'
theorem run_all {cs : List Cred} (hm : Mays cs) (hl : cs.length ≤ 20) : ∃ s A, runF 2000 cs = some s ∧ s.known.length ≤ 1000000 ∧ sortPairs s.known = A ∧ AllOf cs A := by
  obtain ⟨s, h1, h2, h3⟩ := run_said hm hl; have := said_400 hl h2 (fun p hp => (h3 p).mp hp); exact ⟨s, _, h1, by omega, rfl, sortPairs_sorted h2, fun p => sortPairs_mem.trans (h3 p)⟩
theorem counts_mays (l : List Cred) : Mays (counts l) := fun c hc => (((counts_spec l).mem c).mp hc).may
theorem counts_length (l : List Cred) : (counts l).length ≤ l.length := by
  have := firsts_length (sortCreds l) []; rw [sortCreds_length] at this
  simpa [counts] using this
theorem all_is (l : List Cred) (hl : l.length < 20) (hok : ∀ c ∈ l, okCred c) : ∃ A, Qas.f l = some A ∧ AllOf (counts l) A := by
  have hlen := counts_length l; obtain ⟨s, A, h1, h2, h3, h4⟩ := run_all (counts_mays l) (by omega); refine ⟨A, ?_, h4⟩; unfold Qas.f; rw [progCounts_is l hl hok 200 (by omega), Option.bind_some, if_pos (by omega), h1, Option.bind_some, if_pos h2, h3]
theorem rdPair (l : List Pair) (i : Nat) : rd_T47 l (i : Int) = l[i]! := by
  unfold rd_T47; rw [Int.toNat_natCast, List.getElem!_eq_getElem?_getD, List.getD_eq_getElem?_getD]; rfl
theorem told_l0 (A : List Pair) (hA : A.length < 1000000) : ∀ (n i : Nat) (out : List RPair), n + i = A.length → out.length ≤ i → Ev (fun k => Qai.l0 k A out (i : Int)) (out ++ (A.drop i).map toR)
  | 0, i, out, hn, ho => by
    rw [show A.drop i = [] from List.drop_eq_nil_of_le (by omega), List.map_nil, List.append_nil]; refine Ev.step (fun k => ?_) (Ev.pure _); rw [Qai.l0, if_neg (by omega)]
  | n + 1, i, out, hn, ho => by
    rw [drop_bang (by omega : i < A.length), List.map_cons]; have := told_l0 A hA n (i + 1) (out ++ [toR A[i]!]) (by omega) (by simp; omega); rw [List.append_assoc, List.singleton_append] at this; refine Ev.step (fun k => ?_) this; rw [Qai.l0, if_pos (by omega), if_pos (by omega), if_pos (by omega), wrap_succ (by omega), rdPair]; rfl
theorem told_ev (A : List Pair) (hA : A.length < 1000000) : Ev (fun k => Qai.f k A) (A.map toR) := by
  have := told_l0 A hA A.length 0 [] (by omega) (by simp); rw [List.drop_zero, List.nil_append] at this; exact this
def membersOf (A : List Pair) (r : Role) : List ByteArray := (A.filter fun p => decide (p.f0 = r)).map fun p => p.f1
theorem members_l0 (A : List Pair) (hA : A.length < 1000000) (r : Role) : ∀ (n i : Nat) (out : List ByteArray), n + i = A.length → out.length ≤ i → Ev (fun k => solve_Members.l0 k out A (A.length : Int) (i : Int) r.f0 r.f1) (out ++ membersOf (A.drop i) r)
  | 0, i, out, hn, ho => by
    rw [show A.drop i = [] from List.drop_eq_nil_of_le (by omega)]; refine Ev.step (fun k => ?_) (Ev.pure _); rw [solve_Members.l0, if_neg (by omega)]; simp [membersOf]
  | n + 1, i, out, hn, ho => by
    rw [drop_bang (by omega : i < A.length)]; unfold membersOf; rw [List.filter_cons]
    by_cases e : A[i]!.f0 = r
    · rw [decide_eq_true e, if_pos rfl, List.map_cons]
      have := members_l0 A hA r n (i + 1) (out ++ [A[i]!.f1]) (by omega) (by simp; omega); rw [List.append_assoc, List.singleton_append] at this; refine Ev.step (fun k => ?_) this; rw [solve_Members.l0, if_pos (by omega), if_pos (by omega), if_pos (by omega), wrap_succ (by omega), rdPair, role_beq, decide_eq_true (p := A[i]!.f0 = ⟨r.f0, r.f1⟩) e, if_pos rfl, if_pos (by omega)]
    · rw [decide_eq_false e, if_neg (by decide)]
      refine Ev.step (fun k => ?_) (members_l0 A hA r n (i + 1) out (by omega) (by omega)); rw [solve_Members.l0, if_pos (by omega), if_pos (by omega), if_pos (by omega), wrap_succ (by omega), rdPair, role_beq, decide_eq_false (p := A[i]!.f0 = ⟨r.f0, r.f1⟩) e, if_neg (by decide)]
theorem members_ev {l : List Cred} {A : List Pair} (h : Qas.f l = some A) (hA : A.length < 1000000) (r : Role) : Ev (fun k => solve_Members.f k l r.f0 r.f1) (membersOf A r) := by
  unfold solve_Members.f; rw [h]; have := members_l0 A hA r A.length 0 [] (by omega) (by simp); rw [List.drop_zero, List.nil_append] at this; exact this
theorem pair_beq (p : Pair) (a b c : ByteArray) : ((a.toList == p.f0.f0.toList && (b.toList == p.f0.f1.toList)) && (c.toList == p.f1.toList)) = decide (p = ⟨⟨a, b⟩, c⟩) := by
  rw [beq_dec, beq_dec, beq_dec, Bool.eq_iff_iff, Bool.and_eq_true, Bool.and_eq_true, decide_eq_true_eq, decide_eq_true_eq, decide_eq_true_eq, decide_eq_true_eq]; exact ⟨fun h => pair_ext (role_ext h.1.1.symm h.1.2.symm) h.2.symm, fun h => by rw [h]; exact ⟨⟨rfl, rfl⟩, rfl⟩⟩
theorem index_l0 (A : List Pair) (hA : A.length < 1000000) (a b c : ByteArray) : ∀ (n i : Nat), n + i = A.length → ∃ v : Int, Ev (fun k => solve_Pair_40.l0 k A (A.length : Int) (i : Int) a b c) v ∧ (v ≥ 0 ↔ (⟨⟨a, b⟩, c⟩ : Pair) ∈ A.drop i)
  | 0, i, hn => by
    rw [show A.drop i = [] from List.drop_eq_nil_of_le (by omega)]; refine ⟨-1, Ev.step (fun k => ?_) (Ev.pure _), by simp⟩; rw [solve_Pair_40.l0, if_neg (by omega)]
  | n + 1, i, hn => by
    rw [drop_bang (by omega : i < A.length)]
    by_cases e : A[i]! = ⟨⟨a, b⟩, c⟩
    · refine ⟨(i : Int), Ev.step (fun k => ?_) (Ev.pure _), ⟨fun _ => by rw [e]; exact List.mem_cons_self .., fun _ => by omega⟩⟩
      rw [solve_Pair_40.l0, if_pos (by omega), if_pos (by omega), if_pos (by omega), rdPair, pair_beq, decide_eq_true e, if_pos rfl]
    · obtain ⟨v, h1, h2⟩ := index_l0 A hA a b c n (i + 1) (by omega)
      refine ⟨v, Ev.step (fun k => ?_) h1, h2.trans ⟨fun h => List.mem_cons_of_mem _ h, fun h => (List.mem_cons.mp h).resolve_left (fun h => e h.symm)⟩⟩; rw [solve_Pair_40.l0, if_pos (by omega), if_pos (by omega), if_pos (by omega), wrap_succ (by omega), rdPair, pair_beq, decide_eq_false e, if_neg (by decide)]
theorem has_ev {l : List Cred} {A : List Pair} (h : Qas.f l = some A) (hA : A.length < 1000000) (who : ByteArray) (r : Role) : Ev (fun k => solve_Has.f k l who r.f0 r.f1) (decide ((⟨r, who⟩ : Pair) ∈ A)) := by
  unfold solve_Has.f solve_Pair_25.f; rw [h]; obtain ⟨v, h1, h2⟩ := index_l0 A hA r.f0 r.f1 who A.length 0 (by omega); rw [List.drop_zero] at h2; refine Ev.bind (a := decide ((⟨r, who⟩ : Pair) ∈ A)) (Ev.bind h1 ?_) (Ev.pure _)
  have e : decide (v ≥ 0) = decide ((⟨r, who⟩ : Pair) ∈ A) := by
    rw [Bool.eq_iff_iff, decide_eq_true_eq, decide_eq_true_eq]; exact h2
  rw [e]; exact Ev.pure _
def ex1 : Cred := ⟨⟨1, 1⟩, ⟨#[97]⟩, 3, ⟨#[]⟩, ⟨⟨#[]⟩, ⟨#[98]⟩⟩, ⟨⟨#[]⟩, ⟨#[99]⟩⟩⟩
def ex2 : Cred := ⟨⟨1, 2⟩, ⟨#[98]⟩, 1, ⟨#[100, 50]⟩, ⟨⟨#[]⟩, ⟨#[]⟩⟩, ⟨⟨#[]⟩, ⟨#[]⟩⟩⟩
def ex3 : Cred := ⟨⟨2, 1⟩, ⟨#[99]⟩, 1, ⟨#[98, 111, 98]⟩, ⟨⟨#[]⟩, ⟨#[]⟩⟩, ⟨⟨#[]⟩, ⟨#[]⟩⟩⟩
def exP1 : Pair := ⟨⟨⟨#[100, 49]⟩, ⟨#[97]⟩⟩, ⟨#[98, 111, 98]⟩⟩
def exP2 : Pair := ⟨⟨⟨#[100, 49]⟩, ⟨#[98]⟩⟩, ⟨#[100, 50]⟩⟩
def exP3 : Pair := ⟨⟨⟨#[100, 50]⟩, ⟨#[99]⟩⟩, ⟨#[98, 111, 98]⟩⟩
theorem noText_dec (s : ByteArray) : noText s = decide (s = ⟨#[]⟩) := by
  unfold noText; rw [Bool.eq_iff_iff, beq_iff_eq, empty_iff, decide_eq_true_eq]
theorem ex1_may : credMay ex1 = true := by
  unfold credMay roleOk bareOk noRole; simp only [noText_dec]
  decide
theorem ex2_may : credMay ex2 = true := by
  unfold credMay roleOk bareOk noRole; simp only [noText_dec]
  decide
theorem ex3_may : credMay ex3 = true := by
  unfold credMay roleOk bareOk noRole; simp only [noText_dec]
  decide
def exs : List Cred := [ex1, ex2, ex3]
theorem exs_counts (c : Cred) : c ∈ counts exs ↔ c = ex1 ∨ c = ex2 ∨ c = ex3 := by
  rw [(counts_spec exs).mem]; constructor
  · intro h
    have := h.mem
    simpa [exs] using this
  · rintro (rfl | rfl | rfl)
    · unfold First exs
      rw [List.find?_cons, ex1_may, show sameID ex1 ex1 = true by decide]; rfl
    · unfold First exs
      rw [List.find?_cons, show sameID ex1 ex2 = false by decide, Bool.and_false, List.find?_cons, ex2_may, show sameID ex2 ex2 = true by decide]; rfl
    · unfold First exs
      rw [List.find?_cons, show sameID ex1 ex3 = false by decide, Bool.and_false, List.find?_cons, show sameID ex2 ex3 = false by decide, Bool.and_false, List.find?_cons, ex3_may, show sameID ex3 ex3 = true by decide]; rfl
theorem exs_all : AllOf (counts exs) [exP1, exP2, exP3] where
  sorted := by
    have h12 : pairLess exP1 exP2 = true := by
      unfold pairLess roleLess; simp only [ByteArray.toList_eq]
      decide
    have h13 : pairLess exP1 exP3 = true := by
      unfold pairLess roleLess; simp only [ByteArray.toList_eq]
      decide
    have h23 : pairLess exP2 exP3 = true := by
      unfold pairLess roleLess; simp only [ByteArray.toList_eq]
      decide
    simp [h12, h13, h23]
  mem p := by
    have m1 : ex1 ∈ counts exs := (exs_counts _).mpr (.inl rfl); have m2 : ex2 ∈ counts exs := (exs_counts _).mpr (.inr (.inl rfl)); have m3 : ex3 ∈ counts exs := (exs_counts _).mpr (.inr (.inr rfl)); have s2 : Said (counts exs) exP2 := Said.member m2 rfl; have s3 : Said (counts exs) exP3 := Said.member m3 rfl; have s1 : Said (counts exs) exP1 := Said.link (c := ex1) (u := ⟨#[100, 50]⟩) m1 rfl s2 (by decide) s3; constructor
    · intro h
      simp only [List.mem_cons, List.not_mem_nil, or_false] at h
      rcases h with rfl | rfl | rfl
      · exact s1
      · exact s2
      · exact s3
    · intro h
      induction h with
      | @member c hc k =>
        rcases (exs_counts c).mp hc with rfl | rfl | rfl
        · exact absurd k (by decide)
        · exact .tail _ (.head _)
        · exact .tail _ (.tail _ (.head _))
      | @incl c u hc k _ ih =>
        rcases (exs_counts c).mp hc with rfl | rfl | rfl
        · exact absurd k (by decide)
        · exact absurd k (by decide)
        · exact absurd k (by decide)
      | @link c u v hc k _ n _ ih1 ih2 =>
        rcases (exs_counts c).mp hc with rfl | rfl | rfl
        · have hu : u = ⟨#[100, 50]⟩ := by
            simp only [List.mem_cons, List.not_mem_nil, or_false] at ih1
            rcases ih1 with e | e | e
            · exact absurd (congrArg S47.f0 e) (show ¬ linkFirst ex1 = exP1.f0 by decide)
            · exact congrArg S47.f1 e
            · exact absurd (congrArg S47.f0 e) (show ¬ linkFirst ex1 = exP3.f0 by decide)
          have hv : v = ⟨#[98, 111, 98]⟩ := by
            rw [hu] at ih2; simp only [List.mem_cons, List.not_mem_nil, or_false] at ih2
            rcases ih2 with e | e | e
            · exact absurd (congrArg S47.f0 e) (show ¬ (⟨⟨#[100, 50]⟩, ex1.f5.f1⟩ : Role) = exP1.f0 by decide)
            · exact absurd (congrArg S47.f0 e) (show ¬ (⟨⟨#[100, 50]⟩, ex1.f5.f1⟩ : Role) = exP2.f0 by decide)
            · exact congrArg S47.f1 e
          rw [hv]; exact .head _
        · exact absurd k (by decide)
        · exact absurd k (by decide)
      | @both c u hc k _ _ ih1 ih2 =>
        rcases (exs_counts c).mp hc with rfl | rfl | rfl
        · exact absurd k (by decide)
        · exact absurd k (by decide)
        · exact absurd k (by decide)
theorem exs_ok : ∀ c ∈ exs, okCred c := by
  intro c hc
  have : c = ex1 ∨ c = ex2 ∨ c = ex3 := by simpa [exs] using hc
  rcases this with rfl | rfl | rfl <;> exact ⟨by decide, by decide, ⟨by decide, by decide⟩, by decide, by decide⟩
theorem exs_is : Qas.f exs = some [exP1, exP2, exP3] := by
  obtain ⟨A, h1, h2⟩ := all_is exs (by decide) exs_ok; rw [h1, h2.unique exs_all]
theorem lives_ev : Ev (fun k => liverylaw06_lives.f k) true := by
  unfold liverylaw06_lives.f
  show Ev (fun k => (solve_Members.f k exs ⟨#[100, 49]⟩ ⟨#[97]⟩).bind _) true
  refine Ev.bind (members_ev exs_is (by decide) ⟨⟨#[100, 49]⟩, ⟨#[97]⟩⟩) ?_; rw [show membersOf [exP1, exP2, exP3] ⟨⟨#[100, 49]⟩, ⟨#[97]⟩⟩ = [⟨#[98, 111, 98]⟩] by decide]
  have e1 : (rdOf ByteArray.empty [(⟨#[98, 111, 98]⟩ : ByteArray)] 0).toList = [98, 111, 98] := by
    rw [ByteArray.toList_eq]; rfl
  simp only [e1, List.length_cons, List.length_nil]; refine Ev.bind (a := true) ?_ ?_
  · have := has_ev exs_is (by decide) ⟨#[98, 111, 98]⟩ ⟨⟨#[100, 50]⟩, ⟨#[99]⟩⟩
    rw [show decide ((⟨⟨⟨#[100, 50]⟩, ⟨#[99]⟩⟩, ⟨#[98, 111, 98]⟩⟩ : Pair) ∈ [exP1, exP2, exP3]) = true by decide] at this; exact this
  · simp only [if_true]
    refine Ev.bind (a := false) ?_ ?_
    · have := has_ev exs_is (by decide) ⟨#[97, 110, 110]⟩ ⟨⟨#[100, 50]⟩, ⟨#[99]⟩⟩
      rw [show decide ((⟨⟨⟨#[100, 50]⟩, ⟨#[99]⟩⟩, ⟨#[97, 110, 110]⟩⟩ : Pair) ∈ [exP1, exP2, exP3]) = false by decide] at this; exact this
    · show Ev (fun _ => (Qas.f exs).bind _) true
      rw [exs_is]; exact Ev.pure _
theorem more_l0 (X Y : List RPair) (hX : X.length < 1000000) (hY : Y.length < 1000000) (h : ∀ x ∈ X, x ∈ Y) : ∀ (n i : Nat), n + i = X.length → Ev (fun k => Qah.l0 k X Y (i : Int)) true
  | 0, i, hn => by
    refine Ev.step (fun k => by rw [Qah.l0, if_neg (by omega)]) ?_; exact Ev.bind lives_ev (Ev.pure _)
  | n + 1, i, hn => by
    have hi : i < X.length := by omega
    have hm : X[i]! ∈ Y := h _ (by rw [getBang hi]; exact List.getElem_mem hi); have hin := in_ev Y (by omega) X[i]!.f0.f0 X[i]!.f0.f1 X[i]!.f1; rw [decide_eq_true (p := (⟨⟨X[i]!.f0.f0, X[i]!.f0.f1⟩, X[i]!.f1⟩ : RPair) ∈ Y) hm] at hin; refine Ev.step (g := fun k => (liveryref06_In.f k Y X[i]!.f0.f0 X[i]!.f0.f1 X[i]!.f1).bind fun t => if t = true then Qah.l0 k X Y ((i + 1 : Nat) : Int) else some false) (fun k => ?_) (Ev.bind hin ?_)
    · rw [Qah.l0, if_pos (by omega), if_pos (by omega), rdR, wrap_succ (by omega)]
    · simp only [if_true]
      exact more_l0 X Y hX hY h n (i + 1) (by omega)
theorem counts_more (a b : List Cred) : ∀ c ∈ counts a, c ∈ counts (a ++ b) := by
  intro c hc; rw [(counts_spec _).mem] at hc ⊢; unfold First at *; rw [List.find?_append, hc]; rfl
theorem more_core (a b : List Cred) (ha : a.length ≤ 10) (hb : b.length ≤ 6) (oka : ∀ c ∈ a, okCred c) (okb : ∀ c ∈ b, okCred c) : ∃ A B, Qas.f a = some A ∧ Qas.f (a ++ b) = some B ∧ Ev (fun k => (Qai.f k A).bind fun t => (Qas.f (a ++ b)).bind fun t2 => (Qai.f k t2).bind fun t3 => Qah.l0 k t t3 0) true := by
  have hab : (a ++ b).length ≤ 16 := by rw [List.length_append]; omega
  obtain ⟨A, h1, h2⟩ := all_is a (by omega) oka; obtain ⟨B, h3, h4⟩ := all_is (a ++ b) (by omega) (fun c hc => (List.mem_append.mp hc).elim (oka c) (okb c)); have hA := h2.length (by have := counts_length a; omega); have hB := h4.length (by have := counts_length (a ++ b); omega); refine ⟨A, B, h1, h3, ?_⟩; simp only [h3, Option.bind_some]; refine Ev.bind (told_ev A (by omega)) (Ev.bind (told_ev B (by omega)) ?_); refine more_l0 _ _ (by rw [List.length_map]; omega) (by rw [List.length_map]; omega) (fun x hx => ?_) (A.map toR).length 0 (by omega); obtain ⟨p, hp, rfl⟩ := List.mem_map.mp hx; exact List.mem_map.mpr ⟨p, (h4.mem p).mpr (((h2.mem p).mp hp).mono (counts_more a b)), rfl⟩
theorem solveMore_true (l m : List Cred) (okl : ∀ c ∈ l, okCred c) (okm : ∀ c ∈ m, okCred c) : Ev (fun k => Qah.f k l m) true := by
  have core : ∀ a b : List Cred, a.length ≤ 10 → b.length ≤ 6 → (∀ c ∈ a, okCred c) → (∀ c ∈ b, okCred c) → Ev (fun k => if ([] : List Cred).length + a.length < 1172812402961 then ((some (([] : List Cred) ++ a : List Cred)).bind fun y109 => (if y109.length + b.length < 1172812402961 then ((Qas.f a).bind fun t115 => ((Qai.f k t115).bind fun t118 => ((Qas.f (y109 ++ b)).bind fun t121 => ((Qai.f k t121).bind fun t124 => (Qah.l0 k t118 t124 0))))) else none)) else none) true := by
    intro a b ha hb oka okb; obtain ⟨A, B, h1, h2, h3⟩ := more_core a b ha hb oka okb; simp only [if_pos (show ([] : List Cred).length + a.length < 1172812402961 by simp; omega), Option.bind_some, List.nil_append, if_pos (show a.length + b.length < 1172812402961 by omega), h1]; exact h3
  unfold Qah.f; have t10 : (l.take 10).length ≤ 10 := List.length_take_le _ _; have t6 : (m.take 6).length ≤ 6 := List.length_take_le _ _
  have o10 : ∀ c ∈ l.take 10, okCred c := fun c hc => okl c (List.mem_of_mem_take hc)
  have o6 : ∀ c ∈ m.take 6, okCred c := fun c hc => okm c (List.mem_of_mem_take hc)
  by_cases c1 : (l.length : Int) > 10
  · by_cases c2 : (m.length : Int) > 6
    · simp only [if_pos c1, if_pos (show 10 ≤ (l.length : Int) by omega), Option.bind_some, if_pos c2, if_pos (show 6 ≤ (m.length : Int) by omega)]
      exact core _ _ t10 t6 o10 o6
    · simp only [if_pos c1, if_pos (show 10 ≤ (l.length : Int) by omega), Option.bind_some, if_neg c2]
      exact core _ _ t10 (by omega) o10 okm
  · by_cases c2 : (m.length : Int) > 6
    · simp only [if_neg c1, Option.bind_some, if_pos c2, if_pos (show 6 ≤ (m.length : Int) by omega)]
      exact core _ _ (by omega) t6 okl o6
    · simp only [if_neg c1, if_neg c2]
      exact core _ _ (by omega) (by omega) okl okm
def within (cs : List Cred) (base : List RPair) (x : RPair) : Prop := (∃ c ∈ cs, x.f0 = credRole c) ∧ x.f1 ∈ cs.map (fun c => c.f3) ++ base.map (fun p => p.f1)
end Go.Proofs.YtpjddgmdgfjlfaaDoor.Pr
end
