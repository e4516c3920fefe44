/- The proof's own texts, joined: part 12. No conditions. -/
import Derived.Shelf.SlicesG.Cmp
import Derived.WalkKit
import Derived.WalkSpells
import Derived.Lib.Hide
import Derived.StillTailTactics
import Derived.Sort.Grow
import Derived.KernelRfl
import Derived.Lib.SlicesS
import Derived.Shelf.SlicesE.Clone
import Derived.Ground.SlgcProg
import Derived.Test.YtmaipohgahdclaaDoorProg
import Derived.Shelf.SlSortCmp.WholeK
import Derived.Shelf.SlSortCmp.NoneTotal
import Derived.Ground.SlsfProg
import Derived.Ground.SlgnProg
import Derived.Laws.StructEq
import Derived.Below
import Derived.Deep.Draws
import Derived.Deep.AppendLies
import Derived.Maps.AppendAt
import Derived.OwnWalk
import Derived.Laws.BytesArg
import Derived.Laws.MakeOwn
import Derived.Laws.OwnMore
import Derived.Deep.OwnRows
import Derived.Tactics
import Derived.Lib.ConvBytes
import Derived.Laws.Slices
import Derived.RowKit3
import Derived.Deep.LoopGhost
import Derived.Deep.QuietTactic
import Derived.BigQuiet
import Derived.WideLaws
import Derived.Deep.DeepCutAuto
import Derived.Deep.CutBlock
import Derived.Deep.RegionHeld3
import Derived.Laws.Rows
import Derived.Lib.AppendStr
import Derived.ArgAppend
import Derived.Laws.IdiomCopy
import Derived.RowKit
import Derived.Sort.Walk0
import Derived.Laws.Strings
import Derived.Maps.OwnSet
import Derived.Maps.RangeRun
import Derived.Maps.Range
import Derived.Carry
import Derived.OrdersHeld
import Derived.Laws.BitsLemmas
import Derived.DeepKeys4
import Derived.WalkLawsBesides
import Derived.Outline
import Derived.Deep.RegionWith
import Derived.RegionTactic
import Derived.ChangeAlike
import Derived.Deep.RegionLaw
import Derived.Lib.SmallJoins
import Derived.Laws.RangeAny
import Derived.Laws.Closers25
import Derived.Shelf.GgSortFunc.InsertionK
import Derived.ProofKit
import Derived.ChangeSlices
import Derived.DataElems
import Derived.Sort.LotA
import Derived.Test.YtmaipohgahdclaaDoorPa0
import Derived.Test.YtmaipohgahdclaaDoorPa1
import Derived.Test.YtmaipohgahdclaaDoorPa2
import Derived.Test.YtmaipohgahdclaaDoorPa3
import Derived.Test.YtmaipohgahdclaaDoorPa4
import Derived.Test.YtmaipohgahdclaaDoorPa5
import Derived.Test.YtmaipohgahdclaaDoorPa6
import Derived.Test.YtmaipohgahdclaaDoorPa7
import Derived.Test.YtmaipohgahdclaaDoorPa8
import Derived.Test.YtmaipohgahdclaaDoorPa9
import Derived.Test.YtmaipohgahdclaaDoorPa10
import Derived.Test.YtmaipohgahdclaaDoorPa11
section
namespace Go.Proofs.YtmaipohgahdclaaDoor.Pr
open Go.RowKit Go.Proofs.YtmaipohgahdclaaDoorW.PrintWords Go.Proofs.YtmaipohgahdclaaDoorW.PrintLast Go.Proofs.YtmaipohgahdclaaDoorW.PrintMore
attribute [local go_sem] max2_int min2_int max_two min_two Qbj Qbi max_four min_four
set_option linter.unusedVariables false
set_option linter.unusedSimpArgs false

end Go.Proofs.YtmaipohgahdclaaDoor.Pr
end
section
namespace Go.Proofs.YtmaipohgahdclaaDoor.Pr
open Go.RowKit Go.Proofs.YtmaipohgahdclaaDoorW.PrintWords Go.Proofs.YtmaipohgahdclaaDoorW.PrintLast Go.Proofs.YtmaipohgahdclaaDoorW.PrintMore
theorem toList_iff (x y : ByteArray) : x.toList = y.toList ↔ x = y := by
  rw [← Lib.bytes_beq_iff, beq_iff_eq]
theorem domName_ne {n : Int} (h : 1 ≤ n) (h' : n ≤ 16) : domName n ≠ ⟨#[]⟩ := by
  have : n = 1 ∨ n = 2 ∨ n = 3 ∨ n = 4 ∨ n = 5 ∨ n = 6 ∨ n = 7 ∨ n = 8 ∨ n = 9 ∨ n = 10 ∨ n = 11 ∨ n = 12 ∨ n = 13 ∨ n = 14 ∨ n = 15 ∨ n = 16 := by omega
  rcases this with rfl | rfl | rfl | rfl | rfl | rfl | rfl | rfl | rfl | rfl | rfl | rfl | rfl | rfl | rfl | rfl <;> decide
def numFrom (s : ByteArray) : Nat → Int → Int
  | 0, _ => 0
  | k + 1, n => if n ≤ 16 then (if domName n = s then n else numFrom s k (n + 1)) else 0
def numName (s : ByteArray) : Int := numFrom s 17 1
theorem number_from (s : ByteArray) : ∀ (k : Nat) (n : Int), 1 ≤ n → n ≤ 17 → 17 - n < k → names_Number.l0 k s n = some (numFrom s k n)
  | 0, n, _, _, h => by omega
  | k + 1, n, h0, h1, h2 => by
    rw [names_Number.l0, numFrom]
    by_cases c : n ≤ 16
    · rw [if_pos c, if_pos c]
      show (Option.bind (some (domName n)) _) = _
      rw [Option.bind_some]
      by_cases e : domName n = s
      · rw [if_pos ((toList_iff _ _).mpr e), if_pos e]
      · rw [if_neg (fun h => e ((toList_iff _ _).mp h)), if_neg e]
        have hw : wrap64 (n + 1) = n + 1 := by unfold wrap64; omega
        rw [hw]; exact number_from s k (n + 1) (by omega) (by omega) (by omega)
    · rw [if_neg c, if_neg c]
theorem numFrom_more (s : ByteArray) : ∀ (k : Nat) (n : Int), 17 - n < k → numFrom s (k + 1) n = numFrom s k n
  | 0, n, h => by
    rw [numFrom, numFrom, if_neg (by omega)]
  | k + 1, n, h => by
    rw [numFrom]
    conv => rhs; rw [numFrom]
    by_cases c : n ≤ 16
    · rw [if_pos c, if_pos c]
      by_cases e : domName n = s
      · rw [if_pos e, if_pos e]
      · rw [if_neg e, if_neg e]
        exact numFrom_more s k (n + 1) (by omega)
    · rw [if_neg c, if_neg c]
theorem number_is (s : ByteArray) : ∀ k, 17 ≤ k → names_Number.f k s = some (numName s) := by
  intro k hk; unfold names_Number.f; rw [number_from s k 1 (by omega) (by omega) (by omega)]
  congr 1
  unfold numName; obtain ⟨j, rfl⟩ := Nat.le.dest hk; clear hk
  induction j with
  | zero => rfl
  | succ j ih => rw [← ih]; exact numFrom_more s (17 + j) 1 (by omega)
theorem numFrom_spec (s : ByteArray) : ∀ (k : Nat) (n : Int), 17 - n ≤ k → (∃ m, n ≤ m ∧ m ≤ 16 ∧ domName m = s ∧ numFrom s k n = m) ∨ ((∀ m, n ≤ m → m ≤ 16 → domName m ≠ s) ∧ numFrom s k n = 0)
  | 0, n, h => .inr ⟨fun m _ _ => by omega, rfl⟩
  | k + 1, n, h => by
    rw [numFrom]
    by_cases c : n ≤ 16
    · rw [if_pos c]
      by_cases e : domName n = s
      · rw [if_pos e]
        exact .inl ⟨n, by omega, c, e, rfl⟩
      · rw [if_neg e]
        rcases numFrom_spec s k (n + 1) (by omega) with ⟨m, h1, h2, h3, h4⟩ | ⟨h1, h2⟩
        · exact .inl ⟨m, by omega, h2, h3, h4⟩
        · refine .inr ⟨fun m hm hm' => ?_, h2⟩
          by_cases e2 : m = n
          · rw [e2]; exact e
          · exact h1 m (by omega) hm'
    · rw [if_neg c]
      exact .inr ⟨fun m _ _ => by omega, rfl⟩
theorem numName_spec (s : ByteArray) : (∃ m, 1 ≤ m ∧ m ≤ 16 ∧ domName m = s ∧ numName s = m) ∨ ((∀ m, 1 ≤ m → m ≤ 16 → domName m ≠ s) ∧ numName s = 0) := numFrom_spec s 17 1 (by omega)
theorem refDomain_is (n : Int) (k : Nat) : liveryref04_Domain.f (k + 1) n = some (domName n) := by
  unfold liveryref04_Domain.f
  by_cases h0 : n < 1
  · rw [if_pos h0, domName_out n (.inl h0)]
    rfl
  · rw [if_neg h0]
    by_cases h1 : n > 16
    · rw [decide_eq_true h1, domName_out n (.inr h1)]
      rfl
    · rw [decide_eq_false h1]
      have : n = 1 ∨ n = 2 ∨ n = 3 ∨ n = 4 ∨ n = 5 ∨ n = 6 ∨ n = 7 ∨ n = 8 ∨ n = 9 ∨ n = 10 ∨ n = 11 ∨ n = 12 ∨ n = 13 ∨ n = 14 ∨ n = 15 ∨ n = 16 := by omega
      rcases this with rfl | rfl | rfl | rfl | rfl | rfl | rfl | rfl | rfl | rfl | rfl | rfl | rfl | rfl | rfl | rfl <;> (show _ = some _; kernel_rfl)
theorem bt_data (s : ByteArray) (i : Nat) (h : i < s.size) : bt s (i : Int) = ((s.data.getD i 0).toNat : Int) := by
  unfold bt; rw [dif_pos (by rw [Int.toNat_natCast]; exact h)]
  have : s.data.getD i 0 = s[i] := by
    rw [Array.getD, dif_pos (show i < s.data.size from h)]; rfl
  rw [this]; rfl
theorem size_two {s : ByteArray} (h : s.size = 2) (t : ByteArray) (ht : t.size = 2) (h0 : bt s 0 = bt t 0) (h1 : bt s 1 = bt t 1) : s = t := by
  apply ByteArray.ext
  apply Array.ext
  · exact h.trans ht.symm
  · intro i hi hi'
    have hs : i < 2 := by have : s.data.size = 2 := h; omega
    have e : bt s (i : Int) = bt t (i : Int) := by
      have : i = 0 ∨ i = 1 := by omega
      rcases this with rfl | rfl
      · exact h0
      · exact h1
    rw [bt_data s i (by omega), bt_data t i (by omega)] at e; rw [Array.getD, dif_pos hi, Array.getD, dif_pos hi'] at e; exact UInt8.toNat_inj.mp (by exact_mod_cast e)
theorem size_three {s : ByteArray} (h : s.size = 3) (t : ByteArray) (ht : t.size = 3) (h0 : bt s 0 = bt t 0) (h1 : bt s 1 = bt t 1) (h2 : bt s 2 = bt t 2) : s = t := by
  apply ByteArray.ext
  apply Array.ext
  · exact h.trans ht.symm
  · intro i hi hi'
    have hs : i < 3 := by have : s.data.size = 3 := h; omega
    have e : bt s (i : Int) = bt t (i : Int) := by
      have : i = 0 ∨ i = 1 ∨ i = 2 := by omega
      rcases this with rfl | rfl | rfl
      · exact h0
      · exact h1
      · exact h2
    rw [bt_data s i (by omega), bt_data t i (by omega)] at e; rw [Array.getD, dif_pos hi, Array.getD, dif_pos hi'] at e; exact UInt8.toNat_inj.mp (by exact_mod_cast e)
theorem refNumber_dom (m : Int) (h : 1 ≤ m) (h' : m ≤ 16) (k : Nat) : QaM.f (k + 2) (domName m) = some m := by
  have : m = 1 ∨ m = 2 ∨ m = 3 ∨ m = 4 ∨ m = 5 ∨ m = 6 ∨ m = 7 ∨ m = 8 ∨ m = 9 ∨ m = 10 ∨ m = 11 ∨ m = 12 ∨ m = 13 ∨ m = 14 ∨ m = 15 ∨ m = 16 := by omega
  rcases this with rfl | rfl | rfl | rfl | rfl | rfl | rfl | rfl | rfl | rfl | rfl | rfl | rfl | rfl | rfl | rfl <;> (show _ = some _; kernel_rfl)
theorem refNumber_none (s : ByteArray) (hn : ∀ m, 1 ≤ m → m ≤ 16 → domName m ≠ s) (k : Nat) : QaM.f (k + 2) s = some 0 := by
  have j0t : QaM.j0 (k + 2) s true = some 0 := by rw [QaM.j0, if_pos rfl]
  have j1t : ∀ x, QaM.j1 (k + 1) s x true = some 0 := fun x => by rw [QaM.j1, if_pos rfl]
  unfold QaM.f
  by_cases c1 : (s.size : Int) < 2
  · rw [if_pos c1, j0t]
  · rw [if_neg c1]
    by_cases c2 : (s.size : Int) > 3
    · rw [if_pos c2, j0t]
    · rw [if_neg c2, if_pos (by omega)]
      by_cases c3 : bt s 0 = 100
      · rw [if_pos c3, if_pos (by omega)]
        by_cases c4 : bt s 1 < 49
        · rw [if_pos c4, j0t]
        · rw [if_neg c4]
          by_cases c5 : bt s 1 > 57
          · rw [decide_eq_true c5, j0t]
          · rw [decide_eq_false c5, QaM.j0, if_neg (by decide), if_pos (by omega)]
            by_cases c6 : (s.size : Int) = 3
            · rw [if_pos c6, if_pos (by omega)]
              by_cases c7 : bt s 2 < 48
              · rw [if_pos c7, j1t]
              · rw [if_neg c7]
                by_cases c8 : bt s 2 > 57
                · rw [decide_eq_true c8, j1t]
                · rw [decide_eq_false c8, QaM.j1, if_neg (by decide), if_pos (by omega)]
                  by_cases c9 : 10 * ((bt s 1 - 48) % 256) + (bt s 2 - 48) % 256 > 16
                  · rw [if_pos c9]
                  · exfalso
                    have e1 : bt s 1 = 49 := by omega
                    have hv : bt s 2 = 48 ∨ bt s 2 = 49 ∨ bt s 2 = 50 ∨ bt s 2 = 51 ∨ bt s 2 = 52 ∨ bt s 2 = 53 ∨ bt s 2 = 54 := by omega
                    rcases hv with e | e | e | e | e | e | e
                    · exact hn 10 (by omega) (by omega) (size_three (by omega) (domName 10) rfl (c3.trans rfl) (e1.trans rfl) (e.trans rfl)).symm
                    · exact hn 11 (by omega) (by omega) (size_three (by omega) (domName 11) rfl (c3.trans rfl) (e1.trans rfl) (e.trans rfl)).symm
                    · exact hn 12 (by omega) (by omega) (size_three (by omega) (domName 12) rfl (c3.trans rfl) (e1.trans rfl) (e.trans rfl)).symm
                    · exact hn 13 (by omega) (by omega) (size_three (by omega) (domName 13) rfl (c3.trans rfl) (e1.trans rfl) (e.trans rfl)).symm
                    · exact hn 14 (by omega) (by omega) (size_three (by omega) (domName 14) rfl (c3.trans rfl) (e1.trans rfl) (e.trans rfl)).symm
                    · exact hn 15 (by omega) (by omega) (size_three (by omega) (domName 15) rfl (c3.trans rfl) (e1.trans rfl) (e.trans rfl)).symm
                    · exact hn 16 (by omega) (by omega) (size_three (by omega) (domName 16) rfl (c3.trans rfl) (e1.trans rfl) (e.trans rfl)).symm
            · rw [if_neg c6, if_neg (by omega)]
              exfalso
              have hv : bt s 1 = 49 ∨ bt s 1 = 50 ∨ bt s 1 = 51 ∨ bt s 1 = 52 ∨ bt s 1 = 53 ∨ bt s 1 = 54 ∨ bt s 1 = 55 ∨ bt s 1 = 56 ∨ bt s 1 = 57 := by omega
              rcases hv with e | e | e | e | e | e | e | e | e
              · exact hn 1 (by omega) (by omega) (size_two (by omega) (domName 1) rfl (c3.trans rfl) (e.trans rfl)).symm
              · exact hn 2 (by omega) (by omega) (size_two (by omega) (domName 2) rfl (c3.trans rfl) (e.trans rfl)).symm
              · exact hn 3 (by omega) (by omega) (size_two (by omega) (domName 3) rfl (c3.trans rfl) (e.trans rfl)).symm
              · exact hn 4 (by omega) (by omega) (size_two (by omega) (domName 4) rfl (c3.trans rfl) (e.trans rfl)).symm
              · exact hn 5 (by omega) (by omega) (size_two (by omega) (domName 5) rfl (c3.trans rfl) (e.trans rfl)).symm
              · exact hn 6 (by omega) (by omega) (size_two (by omega) (domName 6) rfl (c3.trans rfl) (e.trans rfl)).symm
              · exact hn 7 (by omega) (by omega) (size_two (by omega) (domName 7) rfl (c3.trans rfl) (e.trans rfl)).symm
              · exact hn 8 (by omega) (by omega) (size_two (by omega) (domName 8) rfl (c3.trans rfl) (e.trans rfl)).symm
              · exact hn 9 (by omega) (by omega) (size_two (by omega) (domName 9) rfl (c3.trans rfl) (e.trans rfl)).symm
      · rw [if_neg c3, j0t]
theorem refNumber_is (s : ByteArray) (k : Nat) : QaM.f (k + 2) s = some (numName s) := by
  rcases numName_spec s with ⟨m, h1, h2, h3, h4⟩ | ⟨h1, h2⟩
  · rw [h4, ← h3, refNumber_dom m h1 h2]
  · rw [h2, refNumber_none s h1]
theorem mayAt_bt {s : ByteArray} {i : Nat} (h : i < s.size) (hi : i ≠ 0) : mayAt i (s.data.getD i 0).toNat = true ↔ (97 ≤ bt s i ∧ bt s i ≤ 122) ∨ (48 ≤ bt s i ∧ bt s i ≤ 57) := by
  rw [bt_data s i h]; unfold mayAt; simp [hi]; omega
theorem refMay_loop (s : ByteArray) (h8 : s.size ≤ 8) : ∀ (k i : Nat), 1 ≤ i → i ≤ s.size → s.size - i < k → mayUpto s i = true → QaU.l0 k s (i : Int) = some (mayUpto s s.size)
  | 0, i, _, _, h, _ => by omega
  | k + 1, i, h1, h2, h3, hm => by
    rw [QaU.l0]
    by_cases c : (i : Int) < (s.size : Int)
    · rw [if_pos c, if_pos (by omega)]
      have hlt : i < s.size := by omega
      have hw : wrap64 ((i : Int) + 1) = ((i + 1 : Nat) : Int) := by unfold wrap64; omega
      have ih := fun hy : mayAt i (s.data.getD i 0).toNat = true => refMay_loop s h8 k (i + 1) (by omega) hlt (by omega) (by rw [mayUpto, hm, hy]; rfl)
      rw [mayAt_bt hlt (by omega)] at ih
      have no := fun hn : mayAt i (s.data.getD i 0).toNat = false => may_stop s i hn s.size hlt
      have hno : ¬ ((97 ≤ bt s i ∧ bt s i ≤ 122) ∨ (48 ≤ bt s i ∧ bt s i ≤ 57)) → mayUpto s s.size = false := fun hn => no (by rw [Bool.eq_false_iff, Ne, mayAt_bt hlt (by omega)]; exact hn)
      rw [hw]
      by_cases a1 : bt s i ≥ 97
      · rw [if_pos a1, if_pos (by omega)]
        by_cases a2 : bt s i ≤ 122
        · rw [if_pos a2]
          exact ih (.inl ⟨a1, a2⟩)
        · rw [if_neg a2, if_neg (by omega), hno (by omega)]
      · rw [if_neg a1]
        by_cases a3 : bt s i ≥ 48
        · rw [if_pos a3]
          by_cases a4 : bt s i ≤ 57
          · rw [if_pos a4]
            exact ih (.inr ⟨a3, a4⟩)
          · rw [if_neg a4, hno (by omega)]
        · rw [if_neg a3, hno (by omega)]
    · rw [if_neg c, show s.size = i by omega, hm]
theorem refMay_is (s : ByteArray) (k : Nat) (hk : 10 ≤ k) : QaU.f k s = some (mayName s) := by
  obtain ⟨k, rfl⟩ : ∃ j, k = j + 1 := ⟨k - 1, by omega⟩
  have jt : QaU.j0 (k + 1) s true = some false := by rw [QaU.j0, if_pos rfl]
  unfold QaU.f mayName
  by_cases c1 : (s.size : Int) < 1
  · rw [if_pos c1, jt, decide_eq_false (p := 0 < s.size) (by omega)]
    simp
  · rw [if_neg c1]
    by_cases c2 : (s.size : Int) > 8
    · rw [if_pos c2, jt, decide_eq_false (p := s.size ≤ 8) (by omega)]
      simp
    · rw [if_neg c2, if_pos (by omega), decide_eq_true (p := 0 < s.size) (by omega), decide_eq_true (p := s.size ≤ 8) (by omega), Bool.and_true, Bool.and_true]
      have h0 : bt s 0 = ((s.data.getD 0 0).toNat : Int) := bt_data s 0 (by omega)
      generalize hd : (s.data.getD 0 0).toNat = d at h0
      by_cases c3 : bt s 0 < 97
      · rw [if_pos c3, jt, may_stop s 0 (by rw [hd]; unfold mayAt; simp; omega) s.size (by omega)]
      · rw [if_neg c3]
        by_cases c4 : bt s 0 > 122
        · rw [decide_eq_true c4, jt, may_stop s 0 (by rw [hd]; unfold mayAt; simp; omega) s.size (by omega)]
        · rw [decide_eq_false c4, QaU.j0, if_neg (by decide)]
          exact refMay_loop s (by omega) k 1 (Nat.le_refl _) (by omega) (by omega) (by rw [mayUpto, mayUpto, hd]; unfold mayAt; simp; omega)
theorem empty_iff (x : ByteArray) : x.toList = [] ↔ x = ⟨#[]⟩ := by
  rw [← toList_iff, show (⟨#[]⟩ : ByteArray).toList = [] by unfold ByteArray.toList; rw [ByteArray.toList.loop]; rfl]
def noText (s : ByteArray) : Bool := s.toList == ([] : List UInt8)
def roleOk (r : Role) : Bool := decide (numName r.f0 > 0) && mayName r.f1
def bareOk (r : Role) : Bool := noText r.f0 && mayName r.f1
def noRole (r : Role) : Bool := noText r.f0 && noText r.f1
def credMay (c : Cred) : Bool :=
  (decide (1 ≤ c.f0.f0 ∧ c.f0.f0 ≤ 16) && decide (1 ≤ c.f0.f1 ∧ c.f0.f1 ≤ 4000) && mayName c.f1) &&
  (if c.f2 = 1 then mayName c.f3 && (noRole c.f4 && noRole c.f5) else if c.f2 = 2 then roleOk c.f4 && (noRole c.f5 && noText c.f3)
    else if c.f2 = 3 then bareOk c.f4 && (bareOk c.f5 && noText c.f3) else if c.f2 = 4 then roleOk c.f4 && (roleOk c.f5 && noText c.f3) else false)
def okCred (c : Cred) : Prop := c.f1.size ≤ maxLen ∧ c.f3.size ≤ maxLen ∧ (c.f4.f0.size ≤ maxLen ∧ c.f4.f1.size ≤ maxLen) ∧ c.f5.f0.size ≤ maxLen ∧ c.f5.f1.size ≤ maxLen
theorem may_is {s : ByteArray} (h : s.size ≤ maxLen) : names_May.f s = some (mayName s) := by
  unfold names_May.f; rw [if_pos h]
theorem role_is (r : Role) (h : r.f1.size ≤ maxLen) (k : Nat) (hk : 17 ≤ k) : names_Role.f k r.f0 r.f1 = some (roleOk r) := by
  unfold names_Role.f roleOk; rw [number_is _ k hk, Option.bind_some, may_is h, Option.bind_some]
  by_cases c : numName r.f0 > 0
  · rw [if_pos c, decide_eq_true c]; rfl
  · rw [if_neg c, decide_eq_false c]; rfl
theorem bare_is (r : Role) (h : r.f1.size ≤ maxLen) : cred_bare.f r.f0 r.f1 = some (bareOk r) := by
  unfold cred_bare.f bareOk noText; rw [may_is h, Option.bind_some]
  by_cases c : r.f0.toList = []
  · rw [if_pos c, c]; rfl
  · rw [if_neg c, beq_eq_false_iff_ne.mpr c]; rfl
theorem credMay_is (c : Cred) (h : okCred c) (k : Nat) (hk : 18 ≤ k) : cred_May.f k c.f0.f0 c.f0.f1 c.f1 c.f2 c.f3 c.f4.f0 c.f4.f1 c.f5.f0 c.f5.f1 = some (credMay c) := by
  obtain ⟨k, rfl⟩ : ∃ j, k = j + 1 := ⟨k - 1, by omega⟩
  obtain ⟨h1, h3, ⟨h40, h41⟩, h50, h51⟩ := h
  have jt : cred_May.j0 (k + 1) true c.f0.f0 c.f0.f1 c.f1 c.f2 c.f3 c.f4.f0 c.f4.f1 c.f5.f0 c.f5.f1 = some false := by rw [cred_May.j0, if_pos rfl]
  unfold cred_May.f credMay
  show (Option.bind (some (domName c.f0.f0)) _) = _
  rw [Option.bind_some]
  by_cases d : 1 ≤ c.f0.f0 ∧ c.f0.f0 ≤ 16
  · rw [if_neg (fun e => domName_ne d.1 d.2 ((empty_iff _).mp e)), decide_eq_true d]
    by_cases s1 : c.f0.f1 < 1
    · rw [if_pos s1, jt, decide_eq_false (p := 1 ≤ c.f0.f1 ∧ c.f0.f1 ≤ 4000) (by omega)]; rfl
    · rw [if_neg s1]
      by_cases s2 : c.f0.f1 > 4000
      · rw [if_pos s2, jt, decide_eq_false (p := 1 ≤ c.f0.f1 ∧ c.f0.f1 ≤ 4000) (by omega)]; rfl
      · rw [if_neg s2, decide_eq_true (p := 1 ≤ c.f0.f1 ∧ c.f0.f1 ≤ 4000) (by omega), may_is h1, Option.bind_some]
        cases hm : mayName c.f1
        · exact jt
        · show cred_May.j0 (k + 1) false _ _ _ _ _ _ _ _ _ = _
          rw [cred_May.j0, if_neg (by decide)]
          by_cases k1 : c.f2 = 1
          · rw [if_pos k1, if_pos k1, may_is h3, Option.bind_some]
            show (if mayName c.f3 = true then if noRole c.f4 = true then some (noRole c.f5) else some false else some false) = _
            cases mayName c.f3 <;> cases noRole c.f4 <;> simp
          · rw [if_neg k1, if_neg k1]
            by_cases k2 : c.f2 = 2
            · rw [if_pos k2, if_pos k2, role_is c.f4 h41 k (by omega), Option.bind_some]
              show (if roleOk c.f4 = true then if noRole c.f5 = true then some (noText c.f3) else some false else some false) = _
              cases roleOk c.f4 <;> cases noRole c.f5 <;> simp
            · rw [if_neg k2, if_neg k2]
              by_cases k3 : c.f2 = 3
              · rw [if_pos k3, if_pos k3, bare_is c.f4 h41, bare_is c.f5 h51, Option.bind_some, Option.bind_some]
                show (if bareOk c.f4 = true then if bareOk c.f5 = true then some (noText c.f3) else some false else some false) = _
                cases bareOk c.f4 <;> cases bareOk c.f5 <;> simp
              · rw [if_neg k3, if_neg k3]
                by_cases k4 : c.f2 = 4
                · rw [if_pos k4, if_pos k4, role_is c.f4 h41 k (by omega), role_is c.f5 h51 k (by omega), Option.bind_some, Option.bind_some]
                  show (if roleOk c.f4 = true then if roleOk c.f5 = true then some (noText c.f3) else some false else some false) = _
                  cases roleOk c.f4 <;> cases roleOk c.f5 <;> simp
                · rw [if_neg k4, if_neg k4]; rfl
  · have e : domName c.f0.f0 = ⟨#[]⟩ := domName_out _ (by omega)
    rw [if_pos ((empty_iff _).mpr e), jt, decide_eq_false d]; rfl
end Go.Proofs.YtmaipohgahdclaaDoor.Pr
end
section
namespace Go.Proofs.YtmaipohgahdclaaDoor.Pr
open Go.RowKit Go.ChangeShapes Go.WideShapes Go.Proofs.YtmaipohgahdclaaDoorW.PrintWords Go.Proofs.YtmaipohgahdclaaDoorW.PrintLast Go.Proofs.YtmaipohgahdclaaDoorW.PrintMore
def Opens {α : Type} (P : Program) (e : TypeId) (d : Kd α) (Q : α → Prop) : Prop :=
  ∀ (H : Type) (enc : TypeId × Value → H) (w : World) (base : Nat) (spare : Nat → Bool) (held : Bool) (fuel : Nat) (cs : List Value) (x : DataW H × List MemPlace), DataW.trod enc P w base spare held fuel e cs = some x → ∃ a, d.K w a cs ∧ Q a
section
variable {H : Type} {enc : TypeId × Value → H} {P : Program} {w : World} {base : Nat} {spare : Nat → Bool} {held : Bool}
theorem field_at {t : TypeId} {fs : Array Field} {fuel : Nat} {cs : List Value} {x : DataW H × List MemPlace} (ht : P.underlying t = some (.struct fs)) (h : DataW.trod enc P w base spare held fuel t cs = some x) :
    cs.length = P.cellsOf t ∧ ∃ n, ∀ (i : Nat) (f : Field), fs[i]? = some f → ∃ y, DataW.trod enc P w base spare held n f.type ((cs.drop f.offset).take (P.cellsOf f.type)) = some y := by
  obtain ⟨xs, n, _, _, hl, hx, hf⟩ := DataW.trod_struct ht h; refine ⟨hl, n, fun i f hi => ?_⟩; have hi' : i < fs.size := (Array.getElem?_eq_some_iff.mp hi).1; exact ⟨xs[i]'(by omega), (hf i f hi).trans (List.getElem?_eq_getElem (by omega))⟩
theorem list_of {α : Type} {R : Nat → α → Prop} : ∀ n, (∀ i, i < n → ∃ y, R i y) → ∃ xs : List α, xs.length = n ∧ ∀ i y, xs[i]? = some y → R i y
  | 0, _ => ⟨[], rfl, fun i y h => by simp at h⟩
  | n + 1, h => by
    obtain ⟨xs, hl, hx⟩ := list_of n (fun i hi => h i (by omega)); obtain ⟨y, hy⟩ := h n (by omega); refine ⟨xs ++ [y], by simp [hl], fun i z hz => ?_⟩
    by_cases hi : i < n
    · rw [List.getElem?_append_left (by omega)] at hz
      exact hx i z hz
    · rw [List.getElem?_append_right (by omega)] at hz
      have hi2 : i - xs.length = 0 := by
        have := (List.getElem?_eq_some_iff.mp hz).1; simp at this; omega
      rw [hi2] at hz
      have : y = z := by simpa using hz
      rw [show i = n by omega, ← this]; exact hy
theorem cells_at {a : Addr} {n : Nat} {cs : List Value} (h : w.cells? base a n = some cs) : cs.length = n ∧ ∀ i u, cs[i]? = some u → w.cell? (a.add i) = some u := by
  unfold World.cells? at h
  split at h
  · have hl := mapM_some_length h
    rw [List.length_range] at hl; refine ⟨hl, fun i u hu => ?_⟩
    have hi : i < n := by have := (List.getElem?_eq_some_iff.mp hu).1; omega
    have := mapM_some_get h i i (by simp [hi]); rw [this, hu]
  · cases h
theorem open_row {α : Type} {d : Kd α} {Q : α → Prop} {t e : TypeId} {fuel : Nat} {a : Option Addr} {len cap : Nat} {x : DataW H × List MemPlace} (ht : P.underlying t = some (.slice e)) (hc : P.cellsOf e = d.sz) (ho : Opens P e d Q)
    (h : DataW.trod enc P w base spare held fuel t [.slice a len cap] = some x) : ∃ xs : List α, xs.length = len ∧ d.C w a xs.length xs ∧ xs.length ≤ cap ∧ ∀ y ∈ xs, Q y := by
  rcases DataW.trod_slice ht h with ⟨hcs, _⟩ | ⟨a', len', cap', elems, rest, n, _, hcs, _, hb, hl, hm, hlen, hel, _, _⟩
  · simp only [List.cons.injEq, Value.slice.injEq, and_true] at hcs
    obtain ⟨rfl, rfl, rfl⟩ := hcs; exact ⟨[], rfl, ⟨rfl, Nat.zero_le _, fun h => absurd h (Nat.lt_irrefl _)⟩, Nat.le_refl _, fun y hy => by cases hy⟩
  · simp only [List.cons.injEq, Value.slice.injEq, and_true] at hcs
    obtain ⟨rfl, rfl, rfl⟩ := hcs
    obtain ⟨xs, hxl, hx⟩ := list_of (R := fun i y => ∃ cs, w.cells? base (a'.add (i * P.cellsOf e)) (P.cellsOf e) = some cs ∧ d.K w y cs ∧ Q y) len (fun i hi => by
      have h1 := hel i hi; rw [List.getElem?_eq_getElem (by omega)] at h1; obtain ⟨cs, hcs, hy⟩ := Option.bind_eq_some_iff.mp h1; obtain ⟨y, hk, hq⟩ := ho _ _ _ _ _ _ _ _ _ hy
      exact ⟨y, cs, hcs, hk, hq⟩)
    refine ⟨xs, hxl, ⟨rfl, ?_, fun _ => ⟨a', rfl, fun j p hj => ?_⟩⟩, by omega, fun y hy => ?_⟩
    · have : maxLen = 9223372036854775807 := by decide
      omega
    · obtain ⟨cs, h1, h2, _⟩ := hx j p hj
      obtain ⟨hl1, hl2⟩ := cells_at h1; refine ⟨cs, by omega, h2, fun i u hu => ?_⟩; rw [← hc, ← Addr.add_add]; exact hl2 i u hu
    · obtain ⟨i, hi, e⟩ := List.getElem_of_mem hy
      obtain ⟨_, _, _, hq⟩ := hx i y (by rw [List.getElem?_eq_getElem hi, e]); exact hq
end
theorem list2 {α : Type} : ∀ {l : List α}, l.length = 2 → ∃ a b, l = [a, b]
  | [a, b], _ => ⟨a, b, rfl⟩
theorem list9 {α : Type} : ∀ {l : List α}, l.length = 9 → ∃ a b c d e f g h i, l = [a, b, c, d, e, f, g, h, i]
  | [a, b, c, d, e, f, g, h, i], _ => ⟨a, b, c, d, e, f, g, h, i, rfl⟩
theorem opens_role : Opens Tryd.prog 24 k24 (fun r => r.f0.size ≤ maxLen ∧ r.f1.size ≤ maxLen) := by
  intro H enc w base spare held fuel cs x h; obtain ⟨hl, n, hf⟩ := field_at Tryd.underlying24 h; rw [Tryd.cellsRole] at hl; obtain ⟨y0, h0⟩ : ∃ y, DataW.trod enc Tryd.prog w base spare held n 9 ((cs.drop 0).take (Tryd.prog.cellsOf 9)) = some y := hf 0 _ rfl; obtain ⟨y1, h1⟩ : ∃ y, DataW.trod enc Tryd.prog w base spare held n 9 ((cs.drop 1).take (Tryd.prog.cellsOf 9)) = some y := hf 1 _ rfl; rw [Tryd.cellsStr] at h0 h1; obtain ⟨c0, c1, rfl⟩ := list2 hl; obtain ⟨s0, e0, _, z0⟩ := DataW.trod_string Tryd.underlying9 h0; obtain ⟨s1, e1, _, z1⟩ := DataW.trod_string Tryd.underlying9 h1
  obtain rfl : c0 = .string s0 := by simpa using e0
  obtain rfl : c1 = .string s1 := by simpa using e1
  exact ⟨⟨s0, s1⟩, k24_mk w ⟨s0, s1⟩, z0, z1⟩
theorem Tryd.cellsInt : Tryd.prog.cellsOf 3 = 1 := by kernel_rfl
theorem Tryd.cellsID : Tryd.prog.cellsOf 26 = 2 := by kernel_rfl
theorem Tryd.cellsCred : Tryd.prog.cellsOf 44 = 9 := by kernel_rfl
theorem opens_id : Opens Tryd.prog 26 k26 (fun _ => True) := by
  intro H enc w base spare held fuel cs x h; obtain ⟨hl, n, hf⟩ := field_at Tryd.underlying26 h; rw [Tryd.cellsID] at hl; obtain ⟨y0, h0⟩ : ∃ y, DataW.trod enc Tryd.prog w base spare held n 3 ((cs.drop 0).take (Tryd.prog.cellsOf 3)) = some y := hf 0 _ rfl; obtain ⟨y1, h1⟩ : ∃ y, DataW.trod enc Tryd.prog w base spare held n 3 ((cs.drop 1).take (Tryd.prog.cellsOf 3)) = some y := hf 1 _ rfl; rw [Tryd.cellsInt] at h0 h1; obtain ⟨c0, c1, rfl⟩ := list2 hl; obtain ⟨s0, e0, _, z0⟩ := DataW.trod_int Tryd.underlying3 h0; obtain ⟨s1, e1, _, z1⟩ := DataW.trod_int Tryd.underlying3 h1
  obtain rfl : c0 = .int .i64 s0 := by simpa using e0
  obtain rfl : c1 = .int .i64 s1 := by simpa using e1
  exact ⟨⟨s0, s1⟩, k26_mk w ⟨s0, s1⟩, trivial⟩
theorem opens_cred : Opens Tryd.prog 44 k44 okCred := by
  intro H enc w base spare held fuel cs x h; obtain ⟨hl, n, hf⟩ := field_at Tryd.underlying44 h; rw [Tryd.cellsCred] at hl; obtain ⟨y0, h0⟩ : ∃ y, DataW.trod enc Tryd.prog w base spare held n 26 ((cs.drop 0).take (Tryd.prog.cellsOf 26)) = some y := hf 0 _ rfl; obtain ⟨y1, h1⟩ : ∃ y, DataW.trod enc Tryd.prog w base spare held n 9 ((cs.drop 2).take (Tryd.prog.cellsOf 9)) = some y := hf 1 _ rfl; obtain ⟨y2, h2⟩ : ∃ y, DataW.trod enc Tryd.prog w base spare held n 3 ((cs.drop 3).take (Tryd.prog.cellsOf 3)) = some y := hf 2 _ rfl; obtain ⟨y3, h3⟩ : ∃ y, DataW.trod enc Tryd.prog w base spare held n 9 ((cs.drop 4).take (Tryd.prog.cellsOf 9)) = some y := hf 3 _ rfl; obtain ⟨y4, h4⟩ : ∃ y, DataW.trod enc Tryd.prog w base spare held n 24 ((cs.drop 5).take (Tryd.prog.cellsOf 24)) = some y := hf 4 _ rfl; obtain ⟨y5, h5⟩ : ∃ y, DataW.trod enc Tryd.prog w base spare held n 24 ((cs.drop 7).take (Tryd.prog.cellsOf 24)) = some y := hf 5 _ rfl; rw [Tryd.cellsID] at h0; rw [Tryd.cellsStr] at h1 h3; rw [Tryd.cellsInt] at h2; rw [Tryd.cellsRole] at h4 h5; obtain ⟨c0, c1, c2, c3, c4, c5, c6, c7, c8, rfl⟩ := list9 hl; obtain ⟨a, ka, _⟩ := opens_id _ _ _ _ _ _ _ _ _ h0
  obtain ⟨rfl, rfl⟩ : c0 = .int .i64 a.f0 ∧ c1 = .int .i64 a.f1 := by simpa using k26_open ka
  obtain ⟨s1, e1, _, z1⟩ := DataW.trod_string Tryd.underlying9 h1; obtain ⟨s2, e2, _, z2⟩ := DataW.trod_int Tryd.underlying3 h2; obtain ⟨s3, e3, _, z3⟩ := DataW.trod_string Tryd.underlying9 h3
  obtain rfl : c2 = .string s1 := by simpa using e1
  obtain rfl : c3 = .int .i64 s2 := by simpa using e2
  obtain rfl : c4 = .string s3 := by simpa using e3
  obtain ⟨r4, k4, z4⟩ := opens_role _ _ _ _ _ _ _ _ _ h4
  obtain ⟨rfl, rfl⟩ : c5 = .string r4.f0 ∧ c6 = .string r4.f1 := by simpa using k24_open k4
  obtain ⟨r5, k5, z5⟩ := opens_role _ _ _ _ _ _ _ _ _ h5
  obtain ⟨rfl, rfl⟩ : c7 = .string r5.f0 ∧ c8 = .string r5.f1 := by simpa using k24_open k5
  exact ⟨⟨a, s1, s2, s3, r4, r5⟩, k44_mk w ⟨a, s1, s2, s3, r4, r5⟩, z1, z3, z4, z5⟩
section
variable {H : Type} {enc : TypeId × Value → H} {P : Program} {w : World} {base : Nat} {spare : Nat → Bool} {held : Bool}
theorem field_less {t : TypeId} {fs : Array Field} {fuel : Nat} {cs : List Value} {x : DataW H × List MemPlace} (ht : P.underlying t = some (.struct fs)) (h : DataW.trod enc P w base spare held fuel t cs = some x) :
    cs.length = P.cellsOf t ∧ ∃ n, n < fuel ∧ ∀ (i : Nat) (f : Field), fs[i]? = some f → ∃ y, DataW.trod enc P w base spare held n f.type ((cs.drop f.offset).take (P.cellsOf f.type)) = some y := by
  obtain ⟨xs, n, e, _, hl, hx, hf⟩ := DataW.trod_struct ht h; refine ⟨hl, n, by omega, fun i f hi => ?_⟩; have hi' : i < fs.size := (Array.getElem?_eq_some_iff.mp hi).1; exact ⟨xs[i]'(by omega), (hf i f hi).trans (List.getElem?_eq_getElem (by omega))⟩
theorem open_less {α : Type} {d : Kd α} {Q : α → Prop} {t e : TypeId} {fuel : Nat} {cs : List Value} {x : DataW H × List MemPlace} (ht : P.underlying t = some (.slice e)) (hc : P.cellsOf e = d.sz)
    (ho : ∀ n, n < fuel → ∀ (cs : List Value) (x : DataW H × List MemPlace), DataW.trod enc P w base spare held n e cs = some x → ∃ a, d.K w a cs ∧ Q a)
    (h : DataW.trod enc P w base spare held fuel t cs = some x) : ∃ (a : Option Addr) (cap : Nat) (xs : List α), cs = [.slice a xs.length cap] ∧ d.C w a xs.length xs ∧ xs.length ≤ cap ∧ ∀ y ∈ xs, Q y := by
  rcases DataW.trod_slice ht h with ⟨rfl, _⟩ | ⟨a', len', cap', elems, rest, n, en, rfl, _, hb, hl, hm, hlen, hel, _, _⟩
  · exact ⟨none, 0, [], rfl, ⟨rfl, Nat.zero_le _, fun h => absurd h (Nat.lt_irrefl _)⟩, Nat.le_refl _, fun y hy => by cases hy⟩
  · obtain ⟨xs, hxl, hx⟩ := list_of (R := fun i y => ∃ cs, w.cells? base (a'.add (i * P.cellsOf e)) (P.cellsOf e) = some cs ∧ d.K w y cs ∧ Q y) len' (fun i hi => by
      have h1 := hel i hi; rw [List.getElem?_eq_getElem (by omega)] at h1; obtain ⟨cs, hcs, hy⟩ := Option.bind_eq_some_iff.mp h1; obtain ⟨y, hk, hq⟩ := ho n (by omega) _ _ hy
      exact ⟨y, cs, hcs, hk, hq⟩)
    refine ⟨some a', cap', xs, by rw [hxl], ⟨rfl, ?_, fun _ => ⟨a', rfl, fun j p hj => ?_⟩⟩, by omega, fun y hy => ?_⟩
    · have : maxLen = 9223372036854775807 := by decide
      omega
    · obtain ⟨cs, h1, h2, _⟩ := hx j p hj
      obtain ⟨hl1, hl2⟩ := cells_at h1; refine ⟨cs, by omega, h2, fun i u hu => ?_⟩; rw [← hc, ← Addr.add_add]; exact hl2 i u hu
    · obtain ⟨i, hi, e⟩ := List.getElem_of_mem hy
      obtain ⟨_, _, _, hq⟩ := hx i y (by rw [List.getElem?_eq_getElem hi, e]); exact hq
end
theorem opens_okid : Opens Tryd.prog 26 k26 okID := by
  intro H enc w base spare held fuel cs x h; obtain ⟨hl, n, hf⟩ := field_at Tryd.underlying26 h; rw [Tryd.cellsID] at hl; obtain ⟨y0, h0⟩ : ∃ y, DataW.trod enc Tryd.prog w base spare held n 3 ((cs.drop 0).take (Tryd.prog.cellsOf 3)) = some y := hf 0 _ rfl; obtain ⟨y1, h1⟩ : ∃ y, DataW.trod enc Tryd.prog w base spare held n 3 ((cs.drop 1).take (Tryd.prog.cellsOf 3)) = some y := hf 1 _ rfl; rw [Tryd.cellsInt] at h0 h1; obtain ⟨c0, c1, rfl⟩ := list2 hl; obtain ⟨s0, e0, _, z0⟩ := DataW.trod_int Tryd.underlying3 h0; obtain ⟨s1, e1, _, z1⟩ := DataW.trod_int Tryd.underlying3 h1
  obtain rfl : c0 = .int .i64 s0 := by simpa using e0
  obtain rfl : c1 = .int .i64 s1 := by simpa using e1
  exact ⟨⟨s0, s1⟩, k26_mk w ⟨s0, s1⟩, z0, z1⟩
theorem list6 {α : Type} : ∀ {l : List α}, l.length = 6 → ∃ a b c d e f, l = [a, b, c, d, e, f]
  | [a, b, c, d, e, f], _ => ⟨a, b, c, d, e, f, rfl⟩
theorem Tryd.cellsProof : Tryd.prog.cellsOf 29 = 6 := by kernel_rfl
theorem Tryd.cellsProofs : Tryd.prog.cellsOf 27 = 1 := by kernel_rfl
theorem okTreeL : ∀ {ps : List Proof}, (∀ q ∈ ps, okTree q) → ∀ j ∈ idsL ps, okID j
  | [], _, j, hj => by rw [idsL_nil] at hj; cases hj
  | q :: ps, h, j, hj => by
    rw [idsL_cons, List.mem_append] at hj
    rcases hj with hj | hj
    · exact h q (List.mem_cons_self ..) j hj
    · exact okTreeL (fun q hq => h q (List.mem_cons_of_mem _ hq)) j hj
theorem okTree_mk {r : Role} {u : ByteArray} {i : ID} {ps : List Proof} (hi : okID i) (h : ∀ q ∈ ps, okTree q) : okTree ⟨r, u, i, ps⟩ := by
  intro j hj; rw [ids_eq] at hj
  rcases List.mem_cons.mp hj with rfl | hj
  · exact hi
  · exact okTreeL h j hj
theorem opens_proof : Opens Tryd.prog 29 k29 okTree := by
  intro H enc w base spare held fuel
  have key : ∀ m n, n ≤ m → ∀ (cs : List Value) (x : DataW H × List MemPlace), DataW.trod enc Tryd.prog w base spare held n 29 cs = some x → ∃ a, k29.K w a cs ∧ okTree a := by
    intro m
    induction m with
    | zero =>
      intro n hn cs x h; obtain ⟨_, m', hm, _⟩ := field_less Tryd.underlying29 h; omega
    | succ m ih =>
      intro n0 hn cs x h; obtain ⟨hl, n, hnl, hf⟩ := field_less Tryd.underlying29 h; rw [Tryd.cellsProof] at hl; obtain ⟨y0, h0⟩ : ∃ y, DataW.trod enc Tryd.prog w base spare held n 24 ((cs.drop 0).take (Tryd.prog.cellsOf 24)) = some y := hf 0 _ rfl; obtain ⟨y1, h1⟩ : ∃ y, DataW.trod enc Tryd.prog w base spare held n 9 ((cs.drop 2).take (Tryd.prog.cellsOf 9)) = some y := hf 1 _ rfl; obtain ⟨y2, h2⟩ : ∃ y, DataW.trod enc Tryd.prog w base spare held n 26 ((cs.drop 3).take (Tryd.prog.cellsOf 26)) = some y := hf 2 _ rfl; obtain ⟨y3, h3⟩ : ∃ y, DataW.trod enc Tryd.prog w base spare held n 27 ((cs.drop 5).take (Tryd.prog.cellsOf 27)) = some y := hf 3 _ rfl; rw [Tryd.cellsRole] at h0; rw [Tryd.cellsStr] at h1; rw [Tryd.cellsID] at h2; rw [Tryd.cellsProofs] at h3; obtain ⟨c0, c1, c2, c3, c4, c5, rfl⟩ := list6 hl; obtain ⟨r0, k0, _⟩ := opens_role _ _ _ _ _ _ _ _ _ h0
      obtain ⟨rfl, rfl⟩ : c0 = .string r0.f0 ∧ c1 = .string r0.f1 := by simpa using k24_open k0
      obtain ⟨s1, e1, _, z1⟩ := DataW.trod_string Tryd.underlying9 h1
      obtain rfl : c2 = .string s1 := by simpa using e1
      obtain ⟨i2, k2, z2⟩ := opens_okid _ _ _ _ _ _ _ _ _ h2
      obtain ⟨rfl, rfl⟩ : c3 = .int .i64 i2.f0 ∧ c4 = .int .i64 i2.f1 := by simpa using k26_open k2
      obtain ⟨a, cap, ps, e3, hC, hcap, hq⟩ := open_less (d := k29) Tryd.underlying27 (Tryd.cellsProof.trans rfl) (fun m' hm' cs x h => ih m' (by omega) cs x h) h3
      obtain rfl : c5 = .slice a ps.length cap := by simpa using e3
      exact ⟨⟨r0, s1, i2, ps⟩, k29_mk w ⟨r0, s1, i2, ps⟩ hcap hC, okTree_mk z2 hq⟩
  exact fun cs x h => key fuel fuel (Nat.le_refl _) cs x h
end Go.Proofs.YtmaipohgahdclaaDoor.Pr
end
section
namespace Go.Proofs.YtmaipohgahdclaaDoor.Pr
open Go.RowKit Go.Proofs.YtmaipohgahdclaaDoorW.PrintWords Go.Proofs.YtmaipohgahdclaaDoorW.PrintLast Go.Proofs.YtmaipohgahdclaaDoorW.PrintMore
def sameID (a b : Cred) : Bool := decide (a.f0.f0 = b.f0.f0) && decide (a.f0.f1 = b.f0.f1)
theorem sameID_iff {a b : Cred} : sameID a b = true ↔ a.f0.f0 = b.f0.f0 ∧ a.f0.f1 = b.f0.f1 := by
  unfold sameID; rw [Bool.and_eq_true, decide_eq_true_eq, decide_eq_true_eq]
def credLess (a b : Cred) : Prop := a.f0.f0 < b.f0.f0 ∨ (a.f0.f0 = b.f0.f0 ∧ a.f0.f1 < b.f0.f1)
theorem credLess_irrefl (a : Cred) : ¬ credLess a a := by unfold credLess; omega
theorem credLess_trans (a b c : Cred) (h : credLess a b) (h' : credLess b c) : credLess a c := by unfold credLess at *; omega
def First (l : List Cred) (c : Cred) : Prop := l.find? (fun d => credMay d && sameID d c) = some c
structure Counts (l R : List Cred) : Prop where
  sorted : R.Pairwise credLess
  mem : ∀ c, c ∈ R ↔ First l c
theorem Counts.unique {l R R' : List Cred} (h : Counts l R) (h' : Counts l R') : R = R' :=
  sorted_eq credLess_irrefl credLess_trans h.sorted h'.sorted (fun c => (h.mem c).trans (h'.mem c).symm)
theorem First.may {l : List Cred} {c : Cred} (h : First l c) : credMay c = true := by
  have := List.find?_some h; rw [Bool.and_eq_true] at this; exact this.1
theorem First.mem {l : List Cred} {c : Cred} (h : First l c) : c ∈ l := List.mem_of_find?_eq_some h
def firsts (out : List Cred) : List Cred → List Cred
  | [] => out
  | c :: l => if credMay c && !(out.any fun d => sameID d c) then firsts (out ++ [c]) l else firsts out l
theorem firsts_mem (c : Cred) : ∀ (l out : List Cred), c ∈ firsts out l ↔ c ∈ out ∨ ((∀ d ∈ out, sameID d c = false) ∧ First l c)
  | [], out => by
    rw [firsts]; unfold First; simp
  | x :: l, out => by
    rw [firsts]; unfold First; rw [List.find?_cons]
    by_cases h : (credMay x && !(out.any fun d => sameID d x)) = true
    · rw [if_pos h, firsts_mem c l (out ++ [x])]
      rw [Bool.and_eq_true, Bool.not_eq_true', List.any_eq_false] at h
      by_cases hx : sameID x c = true
      · rw [h.1, hx]
        simp only [Bool.and_self, Option.some.injEq, List.mem_append, List.mem_singleton]; constructor
        · rintro ((h1 | h1) | ⟨h1, _⟩)
          · exact .inl h1
          · exact .inr ⟨fun d hd => by rw [h1]; simpa using h.2 d hd, h1.symm⟩
          · have := h1 x (by simp)
            rw [hx] at this; cases this
        · rintro (h1 | ⟨_, h1⟩)
          · exact .inl (.inl h1)
          · exact .inl (.inr h1.symm)
      · rw [Bool.not_eq_true] at hx
        rw [hx, Bool.and_false]; simp only [List.mem_append, List.mem_singleton]; unfold First; constructor
        · rintro ((h1 | h1) | ⟨h1, h2⟩)
          · exact .inl h1
          · subst h1
            rw [Bool.eq_false_iff] at hx; exact absurd (sameID_iff.mpr ⟨rfl, rfl⟩) hx
          · exact .inr ⟨fun d hd => h1 d (.inl hd), h2⟩
        · rintro (h1 | ⟨h1, h2⟩)
          · exact .inl (.inl h1)
          · refine .inr ⟨fun d hd => ?_, h2⟩
            rcases hd with hd | hd
            · exact h1 d hd
            · rw [hd]; exact hx
    · rw [if_neg h, firsts_mem c l out]
      by_cases hx : sameID x c = true
      · by_cases hm : credMay x = true
        · have hany : (out.any fun d => sameID d x) = true := by
            rw [hm, Bool.true_and] at h
            simpa using h
          obtain ⟨d, hd, hdx⟩ := List.any_eq_true.mp hany
          have hdc : sameID d c = true := by
            rw [sameID_iff] at *; omega
          have no : ∀ P : Prop, ¬ ((∀ d ∈ out, sameID d c = false) ∧ P) := fun P hP => by
            have := hP.1 d hd; rw [hdc] at this; cases this
          simp only [no]
        · rw [Bool.not_eq_true] at hm
          rw [hm, Bool.false_and]; rfl
      · rw [Bool.not_eq_true] at hx
        rw [hx, Bool.and_false]; rfl
theorem firsts_apart : ∀ (l out : List Cred), out.Pairwise (fun a b => sameID a b = false) → (firsts out l).Pairwise (fun a b => sameID a b = false)
  | [], out, h => h
  | x :: l, out, h => by
    rw [firsts]
    split
    · rename_i hc
      rw [Bool.and_eq_true, Bool.not_eq_true', List.any_eq_false] at hc; refine firsts_apart l _ ?_; rw [List.pairwise_append]; exact ⟨h, List.pairwise_singleton _ _, fun a ha b hb => by rw [List.mem_singleton.mp hb]; simpa using hc.2 a ha⟩
    · exact firsts_apart l out h
theorem firsts_sorted : ∀ (l out : List Cred), out.Pairwise credLess → (∀ d ∈ out, ∀ c ∈ l, ¬ credLess c d) → l.Pairwise (fun x y => ¬ credLess y x) → (firsts out l).Pairwise credLess
  | [], out, h, _, _ => h
  | x :: l, out, h, hol, hl => by
    rw [firsts]; rw [List.pairwise_cons] at hl
    split
    · rename_i hc
      rw [Bool.and_eq_true, Bool.not_eq_true', List.any_eq_false] at hc; refine firsts_sorted l _ ?_ ?_ hl.2
      · rw [List.pairwise_append]
        refine ⟨h, List.pairwise_singleton _ _, fun a ha b hb => ?_⟩; rw [List.mem_singleton.mp hb]; have h1 := hol a ha x (List.mem_cons_self ..); have h2 := hc.2 a ha; rw [sameID_iff] at h2; unfold credLess at *; omega
      · intro d hd c hcl
        rcases List.mem_append.mp hd with h1 | h1
        · exact hol d h1 c (List.mem_cons_of_mem _ hcl)
        · rw [List.mem_singleton.mp h1]
          exact hl.1 c hcl
    · exact firsts_sorted l out h (fun d hd c hcl => hol d hd c (List.mem_cons_of_mem _ hcl)) hl.2
theorem sortCreds_filter (q : Cred → Bool) (hq : ∀ x y, q x = true → q y = true → sameID x y = true) (l : List Cred) : (sortCreds l).filter q = l.filter q := by
  refine insertion_filter _ q (fun x y h hx hy => ?_) l; have := hq x y hx hy; rw [credCmp_lt] at h; rw [sameID_iff] at this; omega
theorem sortCreds_sorted (l : List Cred) : (sortCreds l).Pairwise (fun x y => ¬ credLess y x) := by
  refine (insertion_sorted _ credSWO l).imp fun {a b} h => ?_
  rw [Bool.eq_false_iff, Ne, credCmp_lt] at h; exact h
theorem find_filter {α : Type} (p : α → Bool) (l : List α) : l.find? p = (l.filter p).head? := by
  rw [List.head?_filter]
theorem sortCreds_first (l : List Cred) (c : Cred) : First (sortCreds l) c ↔ First l c := by
  unfold First; rw [find_filter, find_filter]
  have e : ∀ m : List Cred, m.filter (fun d => credMay d && sameID d c) = (m.filter (fun d => sameID d c)).filter credMay := fun m => by rw [List.filter_filter]
  rw [e, e, sortCreds_filter _ (fun x y hx hy => by rw [sameID_iff] at *; omega)]
theorem prog_counts (l : List Cred) : Counts l (firsts [] (sortCreds l)) where
  sorted := firsts_sorted _ _ List.Pairwise.nil (fun d hd => by cases hd) (sortCreds_sorted l)
  mem c := by
    rw [firsts_mem, sortCreds_first]; simp
theorem firsts_length : ∀ (l out : List Cred), (firsts out l).length ≤ out.length + l.length
  | [], out => by rw [firsts]; simp
  | x :: l, out => by
    rw [firsts]
    split
    · have := firsts_length l (out ++ [x])
      simp at *; omega
    · have := firsts_length l out
      simp; omega
theorem numName_nonneg (s : ByteArray) : 0 ≤ numName s := by
  rcases numName_spec s with ⟨m, _, _, _, _⟩ | ⟨_, _⟩ <;> omega
theorem refRole_is (r : Role) (k : Nat) (hk : 10 ≤ k) : liveryref04_Role.f k r.f0 r.f1 = some (roleOk r) := by
  obtain ⟨j, rfl⟩ : ∃ j, k = j + 2 := ⟨k - 2, by omega⟩
  unfold liveryref04_Role.f roleOk; rw [refMay_is _ _ hk, Option.bind_some]; have := numName_nonneg r.f0; cases mayName r.f1
  · simp
  · rw [if_pos rfl, refNumber_is, Option.bind_some]
    by_cases e : numName r.f0 = 0
    · rw [e]; rfl
    · rw [decide_eq_true (show numName r.f0 > 0 by omega), bne_iff_ne.mpr e]
      rfl
theorem refBare_is (r : Role) (k : Nat) (hk : 10 ≤ k) : liveryref05_bare.f k r.f0 r.f1 = some (bareOk r) := by
  unfold liveryref05_bare.f bareOk noText; rw [refMay_is _ _ hk, Option.bind_some]; cases mayName r.f1
  · simp
  · simp
theorem refCredMay_is (c : Cred) (k : Nat) (hk : 12 ≤ k) : QaS.f k c.f0.f0 c.f0.f1 c.f1 c.f2 c.f3 c.f4.f0 c.f4.f1 c.f5.f0 c.f5.f1 = some (credMay c) := by
  obtain ⟨k, rfl⟩ : ∃ j, k = j + 1 := ⟨k - 1, by omega⟩
  unfold QaS.f credMay; rw [refMay_is _ _ (by omega), refMay_is _ _ (by omega), refRole_is c.f4 _ (by omega), refRole_is c.f5 _ (by omega)]; simp only [Option.bind_some]
  have jt : ∀ a b d, QaS.j0 (k + 1) a b d true c.f0.f0 c.f0.f1 c.f1 c.f2 c.f3 c.f4.f0 c.f4.f1 c.f5.f0 c.f5.f1 = some false := fun a b d => by rw [QaS.j0, if_pos rfl]
  by_cases d1 : c.f0.f0 < 1
  · rw [if_pos d1, jt, decide_eq_false (p := 1 ≤ c.f0.f0 ∧ c.f0.f0 ≤ 16) (by omega)]; rfl
  rw [if_neg d1]
  by_cases d2 : c.f0.f0 > 16
  · rw [if_pos d2, jt, decide_eq_false (p := 1 ≤ c.f0.f0 ∧ c.f0.f0 ≤ 16) (by omega)]; rfl
  rw [if_neg d2, decide_eq_true (p := 1 ≤ c.f0.f0 ∧ c.f0.f0 ≤ 16) (by omega)]
  by_cases s1 : c.f0.f1 < 1
  · rw [if_pos s1, jt, decide_eq_false (p := 1 ≤ c.f0.f1 ∧ c.f0.f1 ≤ 4000) (by omega)]; rfl
  rw [if_neg s1]
  by_cases s2 : c.f0.f1 > 4000
  · rw [if_pos s2, jt, decide_eq_false (p := 1 ≤ c.f0.f1 ∧ c.f0.f1 ≤ 4000) (by omega)]; rfl
  rw [if_neg s2, decide_eq_true (p := 1 ≤ c.f0.f1 ∧ c.f0.f1 ≤ 4000) (by omega)]; cases mayName c.f1
  · exact jt _ _ _
  show QaS.j0 (k + 1) _ _ _ false _ _ _ _ _ _ _ _ _ = _
  rw [QaS.j0, if_neg (by decide)]
  by_cases k1 : c.f2 = 1
  · rw [if_pos k1, if_pos k1]
    show (if mayName c.f3 = true then if noRole c.f4 = true then some (noRole c.f5) else some false else some false) = _
    cases mayName c.f3 <;> cases noRole c.f4 <;> simp
  rw [if_neg k1, if_neg k1]
  by_cases w : c.f3.toList = []
  · have wt : noText c.f3 = true := by unfold noText; rw [w]; rfl
    rw [if_pos w, wt]
    by_cases k2 : c.f2 = 2
    · rw [if_pos k2, if_pos k2]
      show (if roleOk c.f4 = true then some (noRole c.f5) else some false) = _
      cases roleOk c.f4 <;> simp
    rw [if_neg k2, if_neg k2]
    by_cases k3 : c.f2 = 3
    · rw [if_pos k3, if_pos k3, refBare_is c.f4 k (by omega), refBare_is c.f5 k (by omega), Option.bind_some, Option.bind_some]
      cases bareOk c.f4 <;> cases bareOk c.f5 <;> simp
    rw [if_neg k3, if_neg k3]
    by_cases k4 : c.f2 = 4
    · rw [if_pos k4, if_pos k4]
      cases roleOk c.f4 <;> cases roleOk c.f5 <;> simp
    · rw [if_neg k4, if_neg k4]; rfl
  · have wt : noText c.f3 = false := by unfold noText; exact beq_eq_false_iff_ne.mpr w
    rw [if_neg w, wt]; simp only [Bool.and_false]
    by_cases k2 : c.f2 = 2
    · rw [if_pos k2]; rfl
    rw [if_neg k2]
    by_cases k3 : c.f2 = 3
    · rw [if_pos k3]; rfl
    rw [if_neg k3]
    by_cases k4 : c.f2 = 4
    · rw [if_pos k4]; rfl
    · rw [if_neg k4]; rfl
theorem wrap_succ {i : Nat} (h : i < 1000000000000) : wrap64 ((i : Int) + 1) = ((i + 1 : Nat) : Int) := by unfold wrap64; omega
theorem rdCred (l : List Cred) (i : Nat) : Qaf l (i : Int) = l[i]! := by
  unfold Qaf; rw [Int.toNat_natCast, List.getElem!_eq_getElem?_getD, List.getD_eq_getElem?_getD]; rfl
theorem getBang {α : Type} [Inhabited α] {l : List α} {i : Nat} (h : i < l.length) : l[i]! = l[i] := getElem!_pos l i h
theorem drop_bang {α : Type} [Inhabited α] {l : List α} {i : Nat} (h : i < l.length) : l.drop i = l[i]! :: l.drop (i + 1) := by
  rw [getBang h]; exact List.drop_eq_getElem_cons h
theorem last_same {ini : List Cred} {z c : Cred} (hs : (ini ++ [z]).Pairwise credLess) (hc : ∀ d ∈ ini ++ [z], ¬ credLess c d) : ((ini ++ [z]).any fun d => sameID d c) = sameID z c := by
  rw [List.any_append]
  have h0 : (ini.any fun d => sameID d c) = false := by
    rw [List.any_eq_false]; intro d hd h; rw [List.pairwise_append] at hs; have h1 := hs.2.2 d hd z (by simp); have h2 := hc z (by simp); rw [sameID_iff] at h; unfold credLess at *; omega
  rw [h0]; simp
theorem bne_same (a b : Cred) : (!((a.f0.f0) == (b.f0.f0)) || (!((a.f0.f1) == (b.f0.f1)))) = !(sameID a b) := by
  unfold sameID; rw [Bool.not_and]; rfl
theorem progCounts_loop (S : List Cred) (hl : S.length < 1000) (hok : ∀ c ∈ S, okCred c) (hS : S.Pairwise (fun x y => ¬ credLess y x)) : ∀ (n i k : Nat) (out : List Cred), n + i = S.length → n + 20 ≤ k → out.length ≤ i → out.Pairwise credLess → (∀ d ∈ out, ∀ c ∈ S.drop i, ¬ credLess c d) → Qa9.l0 k out S (S.length : Int) (i : Int) = some (firsts out (S.drop i))
  | 0, i, k, out, hn, hk, ho, _, _ => by
    obtain ⟨k, rfl⟩ : ∃ j, k = j + 1 := ⟨k - 1, by omega⟩
    rw [Qa9.l0, if_neg (by omega), show S.drop i = [] from List.drop_eq_nil_of_le (by omega), firsts]
  | n + 1, i, k, out, hn, hk, ho, hs, hd => by
    obtain ⟨k, rfl⟩ : ∃ j, k = j + 1 := ⟨k - 1, by omega⟩
    have hi : i < S.length := by omega
    have hdrop := drop_bang hi
    have hmem : S[i]! ∈ S := by rw [getBang hi]; exact List.getElem_mem hi
    have hmay := credMay_is S[i]! (hok _ hmem) k (by omega); have hpw := hS.drop (i := i); rw [hdrop] at hd hpw ⊢; rw [List.pairwise_cons] at hpw; rw [Qa9.l0, if_pos (by omega), if_pos (by omega), if_pos (by omega), wrap_succ (by omega), rdCred, hmay, Option.bind_some, firsts]
    generalize hc : S[i]! = c at *
    clear hmay
    have rest := fun (out' : List Cred) h1 h2 h3 => progCounts_loop S hl hok hS n (i + 1) k out' (by omega) (by omega) h1 h2 h3
    have grown : ∀ (h : out.any (fun d => sameID d c) = false), Qa9.l0 k (out ++ [c]) S (S.length : Int) ((i + 1 : Nat) : Int) = some (firsts (out ++ [c]) (S.drop (i + 1))) := fun h => by
      rw [List.any_eq_false] at h; refine rest _ (by simp; omega) ?_ ?_
      · rw [List.pairwise_append]
        refine ⟨hs, List.pairwise_singleton _ _, fun a ha b hb => ?_⟩; rw [List.mem_singleton.mp hb]; have h1 := hd a ha c (List.mem_cons_self ..); have h2 := h a ha; rw [sameID_iff] at h2; unfold credLess at *; omega
      · intro d hdm x hx
        rcases List.mem_append.mp hdm with h1 | h1
        · exact hd d h1 x (List.mem_cons_of_mem _ hx)
        · rw [List.mem_singleton.mp h1]
          exact hpw.1 x hx
    have same : Qa9.l0 k out S (S.length : Int) ((i + 1 : Nat) : Int) = some (firsts out (S.drop (i + 1))) := rest out (by omega) hs (fun d hdm x hx => hd d hdm x (List.mem_cons_of_mem _ hx))
    by_cases m : credMay c = true
    · rw [if_pos m, m, Bool.true_and]
      rcases List.eq_nil_or_concat out with e | ⟨ini, z, e⟩
      · subst e
        rw [if_pos (show (([] : List Cred).length : Int) = 0 from rfl), if_pos (by decide)]; exact grown rfl
      · rw [List.concat_eq_append] at e
        have hlen : out.length = ini.length + 1 := by rw [e]; simp
        have hw : wrap64 ((out.length : Int) - 1) = ((ini.length : Nat) : Int) := by unfold wrap64; omega
        have hz : Qaf out (ini.length : Int) = z := by
          rw [rdCred, e, getBang (by simp)]; simp
        have hany : (out.any fun d => sameID d c) = sameID z c := by
          rw [e] at hs hd ⊢; exact last_same hs (fun d hdm => hd d hdm c (List.mem_cons_self ..))
        rw [if_neg (by omega), hw, if_pos (by omega), if_pos (by omega), hz, bne_same, hany]; cases hb : sameID z c
        · rw [if_pos (show (!false) = true from rfl), if_pos (show out.length < 1172812402961 by omega), if_pos (show (!false) = true from rfl)]
          exact grown (hany.trans hb)
        · rw [if_neg (show ¬ (!true) = true by decide), if_neg (show ¬ (!true) = true by decide)]
          exact same
    · rw [if_neg m]
      rw [Bool.not_eq_true] at m; rw [m, Bool.false_and]; exact same
theorem cred_ext {a b : Cred} (h0 : a.f0.f0 = b.f0.f0) (h0' : a.f0.f1 = b.f0.f1) (h1 : a.f1 = b.f1) (h2 : a.f2 = b.f2) (h3 : a.f3 = b.f3) (h4 : a.f4 = b.f4) (h5 : a.f5 = b.f5) : a = b := by
  obtain ⟨⟨_, _⟩, _, _, _, _, _⟩ := a; obtain ⟨⟨_, _⟩, _, _, _, _, _⟩ := b
  simp_all
instance credDec : DecidableEq Cred := fun a b => decidable_of_iff (a.f0.f0 = b.f0.f0 ∧ a.f0.f1 = b.f0.f1 ∧ a.f1 = b.f1 ∧ a.f2 = b.f2 ∧ a.f3 = b.f3 ∧ a.f4 = b.f4 ∧ a.f5 = b.f5)
  ⟨fun h => cred_ext h.1 h.2.1 h.2.2.1 h.2.2.2.1 h.2.2.2.2.1 h.2.2.2.2.2.1 h.2.2.2.2.2.2, fun h => by rw [h]; exact ⟨rfl, rfl, rfl, rfl, rfl, rfl, rfl⟩⟩
def counts (l : List Cred) : List Cred := firsts [] (sortCreds l)
theorem counts_spec (l : List Cred) : Counts l (counts l) := prog_counts l
theorem sortCreds_mem {l : List Cred} {c : Cred} : c ∈ sortCreds l ↔ c ∈ l := by
  have := sortCreds_filter (fun d => decide (d = c)) (fun x y hx hy => by
    rw [decide_eq_true_eq] at hx hy; rw [hx, hy]
    exact sameID_iff.mpr ⟨rfl, rfl⟩) l
  constructor
  · intro h
    have h1 : c ∈ (sortCreds l).filter (fun d => decide (d = c)) := List.mem_filter.mpr ⟨h, by simp⟩; rw [this] at h1; exact (List.mem_filter.mp h1).1
  · intro h
    have h1 : c ∈ l.filter (fun d => decide (d = c)) := List.mem_filter.mpr ⟨h, by simp⟩; rw [← this] at h1; exact (List.mem_filter.mp h1).1
theorem progCounts_is (l : List Cred) (hl : l.length < 21) (hok : ∀ c ∈ l, okCred c) (k : Nat) (hk : 40 ≤ k) : Qa9.f k l = some (counts l) := by
  unfold Qa9.f cred_Sorted.f; rw [if_pos hl, Option.bind_some]; have hlen := sortCreds_length l; exact progCounts_loop (sortCreds l) (by omega) (fun c hc => hok c (sortCreds_mem.mp hc)) (sortCreds_sorted l) (sortCreds l).length 0 k [] (by omega) (by omega) (by simp) List.Pairwise.nil (fun d hd => by cases hd)
def credLessB (a b : Cred) : Bool := if a.f0.f0 = b.f0.f0 then decide (a.f0.f1 < b.f0.f1) else decide (a.f0.f0 < b.f0.f0)
theorem credLessB_iff (a b : Cred) : credLessB a b = true ↔ credLess a b := by
  unfold credLessB credLess
  split <;> rw [decide_eq_true_eq] <;> omega
theorem before_is (a b : Cred) : liveryref05_Before.f a.f0.f0 a.f0.f1 b.f0.f0 b.f0.f1 = some (credLessB a b) := by
  unfold liveryref05_Before.f credLessB
  split <;> rfl
theorem refSorted_l1 (x : List Cred) (hx : x.length < 1000000) (out : List Cred) (ho : out.length < 1000000) (R : List Cred) : ∀ (n m i : Nat), n + i = x.length → m < x.length →
    Ev (fun k => QaD.l0 k (x.take (selLeast credLessB x n m i) ++ x.drop (selLeast credLessB x n m i + 1)) (out ++ [x[selLeast credLessB x n m i]!])) R → Ev (fun k => QaD.l1 k x out (m : Int) (i : Int)) R
  | 0, m, i, hn, hm, h => by
    rw [selLeast] at h; refine Ev.step (fun k => ?_) h; rw [QaD.l1, if_neg (by omega), if_pos (by omega), if_pos (by omega), if_pos (by omega), if_pos (by omega), Option.bind_some, if_pos (by simp; omega), Option.bind_some, wrap_succ (by omega), if_pos (by omega), if_pos (by omega), Option.bind_some, if_pos (by simp; omega), rdCred]; rfl
  | n + 1, m, i, hn, hm, h => by
    rw [selLeast] at h
    have e : ∀ k, QaD.l1 (k + 1) x out (m : Int) (i : Int) = QaD.l1 k x out ((if credLessB x[i]! x[m]! then i else m : Nat) : Int) ((i + 1 : Nat) : Int) := fun k => by
      rw [QaD.l1, if_pos (by omega), if_pos (by omega), if_pos (by omega), if_pos (by omega), rdCred, rdCred, before_is, Option.bind_some, wrap_succ (by omega)]
      cases credLessB x[i]! x[m]! <;> rfl
    exact Ev.step e (refSorted_l1 x hx out ho R n _ (i + 1) (by omega) (by split <;> omega) h)
theorem selLeast_lt {α : Type} [Inhabited α] (less : α → α → Bool) (l : List α) : ∀ (n m i : Nat), n + i = l.length → m < l.length → selLeast less l n m i < l.length
  | 0, m, i, hn, hm => hm
  | n + 1, m, i, hn, hm => by
    rw [selLeast]; exact selLeast_lt less l n _ _ (by omega) (by split <;> omega)
theorem refSorted_l0 : ∀ (n : Nat) (x out : List Cred), x.length ≤ n → x.length + out.length < 1000000 → Ev (fun k => QaD.l0 k x out) (selSort credLessB n x out)
  | 0, x, out, hn, hl => by
    rw [selSort]; refine Ev.step (fun k => ?_) (Ev.pure _); rw [QaD.l0, if_neg (by omega)]
  | n + 1, x, out, hn, hl => by
    rw [selSort]
    by_cases c : x.length > 0
    · rw [if_pos c]
      have hm := selLeast_lt credLessB x (x.length - 1) 0 1 (by omega) c; refine Ev.step (fun k => ?_) (refSorted_l1 x (by omega) out (by omega) _ (x.length - 1) 0 1 (by omega) c (refSorted_l0 n _ _ ?_ ?_))
      · rw [QaD.l0, if_pos (by omega)]
        rfl
      · simp
        omega
      · simp
        omega
    · rw [if_neg c]
      refine Ev.step (fun k => ?_) (Ev.pure _); rw [QaD.l0, if_neg (by omega)]
theorem refCounts_l1 (x : List Cred) (hx : x.length < 1000000) (out : List Cred) (ho : out.length < 1000000) (i : Nat) (hi : i < x.length) (b : Bool) (R : List Cred) : ∀ (n j : Nat) (h : Bool), n + j = out.length →
    Ev (fun k => Qay.l0 k x (if b && !(h || (out.drop j).any fun d => sameID d x[i]!) then out ++ [x[i]!] else out) ((i + 1 : Nat) : Int)) R → Ev (fun k => Qay.l1 k x out (i : Int) b h (j : Int)) R
  | 0, j, h, hn, hR => by
    rw [show out.drop j = [] from List.drop_eq_nil_of_le (by omega)] at hR; refine Ev.step (fun k => ?_) hR; rw [Qay.l1, if_neg (by omega), wrap_succ (by omega)]; cases b
    · rfl
    · cases h
      · rw [if_pos rfl, if_neg (by decide), if_pos (by omega), if_pos (by omega), if_pos (by omega), rdCred]
        rfl
      · rfl
  | n + 1, j, h, hn, hR => by
    rw [drop_bang (by omega : j < out.length), List.any_cons] at hR
    have e : ∀ k, Qay.l1 (k + 1) x out (i : Int) b h (j : Int) = Qay.l1 k x out (i : Int) b (h || sameID out[j]! x[i]!) ((j + 1 : Nat) : Int) := fun k => by
      rw [Qay.l1, if_pos (by omega), wrap_succ (by omega)]; cases h
      · rw [if_neg (by decide), if_pos (by omega), if_pos (by omega), if_pos (by omega), rdCred, rdCred]
        rfl
      · rfl
    refine Ev.step e (refCounts_l1 x hx out ho i hi b R n (j + 1) _ (by omega) ?_); rw [Bool.or_assoc]; exact hR
theorem refCounts_l0 (x : List Cred) (hx : x.length < 100000) : ∀ (n i : Nat) (out : List Cred), n + i = x.length → out.length ≤ i → Ev (fun k => Qay.l0 k x out (i : Int)) (selSort credLessB x.length (firsts out (x.drop i)) [])
  | 0, i, out, hn, ho => by
    rw [show x.drop i = [] from List.drop_eq_nil_of_le (by omega), firsts]; refine Ev.step (g := fun k => (QaD.f k out).bind fun t => some t) (fun k => ?_) (Ev.bind (a := selSort credLessB x.length out []) ?_ (Ev.pure _))
    · rw [Qay.l0, if_neg (by omega)]
    · exact refSorted_l0 _ out [] (by omega) (by simp; omega)
  | n + 1, i, out, hn, ho => by
    have hi : i < x.length := by omega
    rw [drop_bang hi, firsts]; refine Ev.step (g := fun k => (QaS.f k x[i]!.f0.f0 x[i]!.f0.f1 x[i]!.f1 x[i]!.f2 x[i]!.f3 x[i]!.f4.f0 x[i]!.f4.f1 x[i]!.f5.f0 x[i]!.f5.f1).bind fun t => Qay.l1 k x out (i : Int) t false 0) (fun k => ?_) (Ev.bind (.from 12 fun k hk => refCredMay_is _ k hk) (refCounts_l1 x (by omega) out (by omega) i hi _ _ out.length 0 false (by omega) ?_))
    · rw [Qay.l0, if_pos (by omega), if_pos (by omega), rdCred]
    · rw [List.drop_zero, Bool.false_or]
      split
      · exact refCounts_l0 x hx n (i + 1) _ (by omega) (by simp; omega)
      · exact refCounts_l0 x hx n (i + 1) _ (by omega) (by omega)
theorem refCounts_is (l : List Cred) (hl : l.length < 100000) : Ev (fun k => Qay.f k l) (counts l) := by
  have h := refCounts_l0 l hl l.length 0 [] (by omega) (by simp); rw [List.drop_zero] at h; have hlen := firsts_length l []; have hp := firsts_apart l [] List.Pairwise.nil
  obtain ⟨h1, h2⟩ := selSort_spec credLessB (fun x => by rw [Bool.eq_false_iff, Ne, credLessB_iff]; exact credLess_irrefl x) (fun x y z => by rw [credLessB_iff, credLessB_iff, credLessB_iff]; exact credLess_trans x y z) l.length (firsts [] l) [] (by simpa using hlen) (by
    rw [List.nil_append]
    refine hp.imp fun {a b} hab => ?_
    rw [credLessB_iff, credLessB_iff]; rw [Bool.eq_false_iff, Ne, sameID_iff] at hab; unfold credLess
    omega) List.Pairwise.nil (fun a ha => by cases ha)
  have e : selSort credLessB l.length (firsts [] l) [] = counts l := by
    refine Counts.unique (l := l) ⟨h1.imp fun {a b} hab => (credLessB_iff a b).mp hab, fun c => ?_⟩ (counts_spec l); rw [h2, firsts_mem]; simp
  rw [← e]; exact h
mutual
def eqT : S29 → S29 → Bool
  | ⟨r, w, i, ps⟩, b => decide (r = b.f0) && (decide (w = b.f1) && (decide (i = b.f2) && eqTL ps b.f3))
def eqTL : List S29 → List S29 → Bool
  | [], [] => true
  | p :: ps, q :: qs => eqT p q && eqTL ps qs
  | [], _ :: _ => false
  | _ :: _, [] => false
end
theorem eqT_eq (a b : Proof) : eqT a b = (decide (a.f0 = b.f0) && (decide (a.f1 = b.f1) && (decide (a.f2 = b.f2) && eqTL a.f3 b.f3))) := by cases a; rw [eqT]
theorem eqTL_nil : eqTL [] [] = true := by rw [eqTL]
theorem eqTL_cons (p q : Proof) (ps qs : List Proof) : eqTL (p :: ps) (q :: qs) = (eqT p q && eqTL ps qs) := by rw [eqTL]
theorem eqTL_len : ∀ (ps qs : List Proof), ¬ ps.length = qs.length → eqTL ps qs = false
  | [], [], h => absurd rfl h
  | [], _ :: _, _ => by rw [eqTL]
  | _ :: _, [], _ => by rw [eqTL]
  | p :: ps, q :: qs, h => by rw [eqTL_cons, eqTL_len ps qs (fun e => h (by simp [e])), Bool.and_false]
theorem eqTL_refl : ∀ (ps : List Proof), (∀ q ∈ ps, eqT q q = true) → eqTL ps ps = true
  | [], _ => eqTL_nil
  | p :: ps, h => by rw [eqTL_cons, h p (List.mem_cons_self ..), eqTL_refl ps (fun q hq => h q (List.mem_cons_of_mem _ hq))]; rfl
theorem eqT_refl : ∀ p, eqT p p = true := treeInd fun p ih => by
  rw [eqT_eq, eqTL_refl p.f3 ih]; simp
theorem eqL_is (F : Proof → Proof → Option Bool) : ∀ (ps qs : List Proof), ps.length = qs.length → (∀ p ∈ ps, ∀ q, F p q = some (eqT p q)) → eqL F ps qs = some (eqTL ps qs)
  | [], [], _, _ => by rw [eqTL_nil]; rfl
  | [], _ :: _, h, _ => by cases h
  | _ :: _, [], h, _ => by cases h
  | p :: ps, q :: qs, h, hF => by
    rw [eqL, hF p (List.mem_cons_self ..), Option.bind_some, eqTL_cons, eqL_is F ps qs (by simpa using h) (fun p hp => hF p (List.mem_cons_of_mem _ hp))]
    cases eqT p q <;> rfl
theorem same_is : ∀ (k : Nat) (a b : Proof), dep a < k → cnt a < 1000000 → sameF k a b = some (eqT a b)
  | 0, a, b, h, _ => by omega
  | k + 1, a, b, h, hc => by
    have hp := parts_lt a; rw [sameF, if_pos (by omega), eqT_eq]
    by_cases e0 : a.f0 = b.f0
    · rw [if_pos e0, decide_eq_true e0]
      by_cases e1 : a.f1 = b.f1
      · rw [if_pos e1, decide_eq_true e1]
        by_cases e2 : a.f2 = b.f2
        · rw [if_pos e2, decide_eq_true e2]
          by_cases e3 : a.f3.length = b.f3.length
          · rw [if_pos e3, eqL_is (sameF k) a.f3 b.f3 e3 (fun p hp q => same_is k p q (by have := dep_mem hp; omega) (by have := cnt_mem hp; omega))]
            rfl
          · rw [if_neg e3, eqTL_len _ _ e3]
            rfl
        · rw [if_neg e2, decide_eq_false e2]
          rfl
      · rw [if_neg e1, decide_eq_false e1]
        rfl
    · rw [if_neg e0, decide_eq_false e0]
      rfl
theorem notAnd (x y : Bool) : (!x || !y) = !(x && y) := by cases x <;> cases y <;> rfl
theorem refSame_l0 (a b : Proof) (hc : cnt a < 1000000) (hlen : a.f3.length = b.f3.length) (ih : ∀ p ∈ a.f3, ∀ q : Proof, Ev (fun k => QaC.f k p.f0.f0 p.f0.f1 p.f1 p.f2.f0 p.f2.f1 p.f3 q.f0.f0 q.f0.f1 q.f1 q.f2.f0 q.f2.f1 q.f3) (eqT p q)) : ∀ (n i : Nat), n + i = a.f3.length → Ev (fun k => QaC.l0 k (i : Int) a.f0.f0 a.f0.f1 a.f1 a.f2.f0 a.f2.f1 a.f3 b.f0.f0 b.f0.f1 b.f1 b.f2.f0 b.f2.f1 b.f3) (eqTL (a.f3.drop i) (b.f3.drop i))
  | 0, i, hn => by
    rw [List.drop_eq_nil_of_le (by omega), List.drop_eq_nil_of_le (by omega), eqTL_nil]; refine Ev.step (fun k => ?_) (Ev.pure _); rw [QaC.l0, if_neg (by omega)]
  | n + 1, i, hn => by
    have hi : i < a.f3.length := by omega
    have hj : i < b.f3.length := by omega
    have hp := parts_lt a; rw [dropP a.f3 i hi, dropP b.f3 i hj, eqTL_cons]; refine Ev.stepBind (h := fun k t => if t = true then QaC.l0 k ((i + 1 : Nat) : Int) a.f0.f0 a.f0.f1 a.f1 a.f2.f0 a.f2.f1 a.f3 b.f0.f0 b.f0.f1 b.f1 b.f2.f0 b.f2.f1 b.f3 else some false) (fun k => ?_) (ih _ (List.getElem_mem hi) b.f3[i]) ?_
    · rw [QaC.l0, if_pos (by omega), if_pos (by omega), if_pos (by omega), wrapN (by omega), rdP a.f3 i hi, rdP b.f3 i hj]
    · have := refSame_l0 a b hc hlen ih n (i + 1) (by omega)
      cases eqT a.f3[i] b.f3[i]
      · exact Ev.pure _
      · exact this
theorem refSame_ev : ∀ a : Proof, ∀ b : Proof, cnt a < 1000000 → b.f3.length < 1000000000 → Ev (fun k => QaC.f k a.f0.f0 a.f0.f1 a.f1 a.f2.f0 a.f2.f1 a.f3 b.f0.f0 b.f0.f1 b.f1 b.f2.f0 b.f2.f1 b.f3) (eqT a b) := by
  have key : ∀ a : Proof, ∀ b : Proof, cnt a < 1000000 → Ev (fun k => QaC.f k a.f0.f0 a.f0.f1 a.f1 a.f2.f0 a.f2.f1 a.f3 b.f0.f0 b.f0.f1 b.f1 b.f2.f0 b.f2.f1 b.f3) (eqT a b) := treeInd fun a ih b hc => by
    have no : Ev (fun k => QaC.j0 k true a.f0.f0 a.f0.f1 a.f1 a.f2.f0 a.f2.f1 a.f3 b.f0.f0 b.f0.f1 b.f1 b.f2.f0 b.f2.f1 b.f3) false := by
      refine Ev.step (fun k => ?_) (Ev.pure _); rw [QaC.j0, if_pos rfl]
    rw [eqT_eq]
    by_cases e0 : a.f0 = b.f0
    · rw [decide_eq_true e0, Bool.true_and]
      by_cases e1 : a.f1 = b.f1
      · rw [decide_eq_true e1, Bool.true_and]
        by_cases e2 : a.f2 = b.f2
        · rw [decide_eq_true e2, Bool.true_and]
          by_cases e3 : a.f3.length = b.f3.length
          · have h := refSame_l0 a b hc e3 (fun p hp q => ih p hp q (by have := cnt_mem hp; omega)) a.f3.length 0 (by omega)
            rw [List.drop_zero, List.drop_zero] at h; refine Ev.step (fun k => ?_) (Ev.step (f := fun k => QaC.j0 k false a.f0.f0 a.f0.f1 a.f1 a.f2.f0 a.f2.f1 a.f3 b.f0.f0 b.f0.f1 b.f1 b.f2.f0 b.f2.f1 b.f3) (fun k => ?_) h)
            · rw [QaC.f, notAnd, eqRole_t e0, if_neg (by decide), if_pos (by rw [e1]), notAnd, eqID_tt e2, if_neg (by decide), show ((a.f3.length : Int) != (b.f3.length : Int)) = false by rw [e3]; simp]
            · rw [QaC.j0, if_neg (by decide)]
              rfl
          · rw [eqTL_len _ _ e3]
            refine Ev.step (fun k => ?_) no; rw [QaC.f, notAnd, eqRole_t e0, if_neg (by decide), if_pos (by rw [e1]), notAnd, eqID_tt e2, if_neg (by decide), show ((a.f3.length : Int) != (b.f3.length : Int)) = true by simp; omega]
        · rw [decide_eq_false e2, Bool.false_and]
          refine Ev.step (fun k => ?_) no; rw [QaC.f, notAnd, eqRole_t e0, if_neg (by decide), if_pos (by rw [e1]), notAnd, eqID_ff e2, if_pos (by decide)]
      · rw [decide_eq_false e1, Bool.false_and]
        refine Ev.step (fun k => ?_) no; rw [QaC.f, notAnd, eqRole_t e0, if_neg (by decide), if_neg (fun e => e1 ((toList_iff _ _).mp e))]
    · rw [decide_eq_false e0, Bool.false_and]
      refine Ev.step (fun k => ?_) no; rw [QaC.f, notAnd, eqRole_f e0, if_pos (by decide)]
  exact fun a b hc _ => key a b hc
def chkPart (F : Proof → Bool) (q : Proof) (role : Role) (who : ByteArray) : Bool := decide (q.f0 = role) && (decide (q.f1 = who) && F q)
def chkBy (F : Proof → Bool) (c : Cred) (p : Proof) : Bool :=
  if c.f2 = 1 then decide (c.f3 = p.f1) && decide (p.f3.length = 0)
  else if c.f2 = 3 then decide (p.f3.length = 2) && (decide (numName (pt p 0).f1 ≠ 0) && (chkPart F (pt p 0) (chkFirst c) (pt p 0).f1 && chkPart F (pt p 1) ⟨(pt p 0).f1, c.f5.f1⟩ p.f1))
  else if c.f2 = 4 then decide (p.f3.length = 2) && (chkPart F (pt p 0) c.f4 p.f1 && chkPart F (pt p 1) c.f5 p.f1)
  else decide (p.f3.length = 1) && chkPart F (pt p 0) c.f4 p.f1
def chk (cs : List Cred) : Nat → Proof → Bool
  | 0, _ => false
  | n + 1, p => match cs.find? (fun c => decide (c.f0 = p.f2)) with
    | none => false
    | some c => decide (credRole c = p.f0) && chkBy (chk cs n) c p
theorem pt_mem0 {p : Proof} (h : 0 < p.f3.length) : pt p 0 ∈ p.f3 := by
  have := rdP p.f3 0 h; unfold pt; rw [show ((0 : Nat) : Int) = 0 from rfl] at this; rw [this]; exact List.getElem_mem h
theorem pt_mem1 {p : Proof} (h : 1 < p.f3.length) : pt p 1 ∈ p.f3 := by
  have := rdP p.f3 1 h; unfold pt; rw [show ((1 : Nat) : Int) = 1 from rfl] at this; rw [this]; exact List.getElem_mem h
theorem partF_is {F : Proof → Option Bool} {G : Proof → Bool} {q : Proof} (h : F q = some (G q)) (role : Role) (who : ByteArray) : partF F q role who = some (chkPart G q role who) := by
  unfold partF chkPart
  by_cases e0 : q.f0 = role
  · rw [if_pos e0, decide_eq_true e0]
    by_cases e1 : q.f1 = who
    · rw [if_pos e1, decide_eq_true e1, h]
      rfl
    · rw [if_neg e1, decide_eq_false e1]
      rfl
  · rw [if_neg e0, decide_eq_false e0]
    rfl
theorem bindAnd (x y : Bool) (z : Option Bool) (h : z = some y) : ((some x).bind fun b => if b = true then z else some false) = some (x && y) := by
  rw [Option.bind_some, h]
  cases x <;> rfl
def Apart (cs : List Cred) : Prop := cs.Pairwise fun a b => a.f0 ≠ b.f0
theorem tput_new : ∀ (cs : List Cred) (T : List (ID × Cred)), Apart cs → (∀ y ∈ T, ∀ c ∈ cs, y.1 ≠ c.f0) → cs.foldl tputC T = T ++ cs.map fun c => (c.f0, c)
  | [], T, _, _ => by simp
  | c :: cs, T, h, hT => by
    have h' := List.pairwise_cons.mp h
    have h1 : tputC T c = T ++ [(c.f0, c)] := by
      unfold tputC; rw [if_neg]; intro e; obtain ⟨y, hy, e⟩ := List.any_eq_true.mp e; exact hT y hy c (List.mem_cons_self ..) (of_decide_eq_true e)
    rw [List.foldl_cons, h1, tput_new cs _ h'.2 (fun y hy d hd => ?_)]
    · simp
    · rcases List.mem_append.mp hy with hy | hy
      · exact hT y hy d (List.mem_cons_of_mem _ hd)
      · rw [List.mem_singleton] at hy
        subst hy; exact h'.1 d hd
theorem table_is {cs : List Cred} (h : Apart cs) : tableOf cs = cs.map fun c => (c.f0, c) := by
  unfold tableOf; rw [tput_new cs [] h (fun y hy => by cases hy), List.nil_append]
theorem find_is {cs : List Cred} (h : Apart cs) (i : ID) : tfind (tableOf cs) i = cs.find? fun c => decide (c.f0 = i) := by
  rw [table_is h]; unfold tfind
  induction cs with
  | nil => rfl
  | cons c cs ih =>
    rw [List.map_cons, List.find?_cons, List.find?_cons]; cases decide (c.f0 = i)
    · exact ih (List.pairwise_cons.mp h).2
    · rfl
theorem check_is {cs : List Cred} (ha : Apart cs) : ∀ (k : Nat) (p : Proof), dep p < k → okTree p → checkF (tableOf cs) k p = some (chk cs k p)
  | 0, p, h, _ => by omega
  | k + 1, p, h, ho => by
    have hq := fun q (hq : q ∈ p.f3) => check_is ha k q (by have := dep_mem hq; omega) (ho.mem hq)
    rw [checkF, if_pos (ho _ (self_ids p)), find_is ha, chk]
    cases hf : cs.find? fun c => decide (c.f0 = p.f2) with
    | none => rfl
    | some c =>
      simp only
      by_cases e : credRole c = p.f0
      · rw [if_pos e, decide_eq_true e, Bool.true_and]
        unfold chkBy
        by_cases k1 : c.f2 = 1
        · rw [if_pos k1, if_pos k1]
        · rw [if_neg k1, if_neg k1]
          by_cases k3 : c.f2 = 3
          · rw [if_pos k3, if_pos k3]
            unfold linkP
            by_cases hl : p.f3.length = 2
            · rw [if_pos hl, decide_eq_true hl, Bool.true_and, number_is _ 20 (by omega), Option.bind_some]
              by_cases hn : numName (pt p 0).f1 = 0
              · rw [if_pos hn, decide_eq_false (by simpa using hn), Bool.false_and]
              · rw [if_neg hn, decide_eq_true hn, Bool.true_and, partF_is (hq _ (pt_mem0 (by omega)))]
                exact bindAnd _ _ _ (partF_is (hq _ (pt_mem1 (by omega))) _ _)
            · rw [if_neg hl, decide_eq_false hl, Bool.false_and]
          · rw [if_neg k3, if_neg k3]
            by_cases k4 : c.f2 = 4
            · rw [if_pos k4, if_pos k4]
              unfold bothP
              by_cases hl : p.f3.length = 2
              · rw [if_pos hl, decide_eq_true hl, Bool.true_and, partF_is (hq _ (pt_mem0 (by omega)))]
                exact bindAnd _ _ _ (partF_is (hq _ (pt_mem1 (by omega))) _ _)
              · rw [if_neg hl, decide_eq_false hl, Bool.false_and]
            · rw [if_neg k4, if_neg k4]
              unfold includeP
              by_cases hl : p.f3.length = 1
              · rw [if_pos hl, decide_eq_true hl, Bool.true_and]
                exact partF_is (hq _ (pt_mem0 (by omega))) _ _
              · rw [if_neg hl, decide_eq_false hl, Bool.false_and]
      · rw [if_neg e, decide_eq_false e, Bool.false_and]
theorem refRole20 (c : Cred) : liveryref05_Role.f 20 c.f0.f0 c.f0.f1 c.f1 c.f2 c.f3 c.f4.f0 c.f4.f1 c.f5.f0 c.f5.f1 = some ((credRole c).f0, (credRole c).f1) := by
  unfold liveryref05_Role.f; rw [refDomain_is]; rfl
theorem refFirst20 (c : Cred) : liveryref06_First.f 20 c.f0.f0 c.f0.f1 c.f1 c.f2 c.f3 c.f4.f0 c.f4.f1 c.f5.f0 c.f5.f1 = some ((chkFirst c).f0, (chkFirst c).f1) := by
  unfold liveryref06_First.f; rw [refDomain_is]; rfl
theorem bindAnd2 (x y : Bool) {z : Option Bool} (h : z = some y) : ((some x).bind fun b => if b = true then z else some false) = some (x && y) := bindAnd x y z h
theorem ofN_is {cs : List Cred} (hk : ∀ c ∈ cs, c.f2 = 1 ∨ c.f2 = 2 ∨ c.f2 = 3 ∨ c.f2 = 4) : ∀ (k : Nat) (p : Proof), dep p < k → ∀ role who, ofN cs k p role who = some (chkPart (chk cs k) p role who)
  | 0, p, h, _, _ => by omega
  | k + 1, p, h, role, who => by
    have hq := fun q (hq : q ∈ p.f3) => ofN_is hk k q (by have := dep_mem hq; omega)
    unfold ofN ofStep chkPart
    by_cases e0 : p.f0 = role
    · rw [if_pos e0, decide_eq_true e0, Bool.true_and]
      by_cases e1 : p.f1 = who
      · rw [if_pos e1, decide_eq_true e1, Bool.true_and]
        subst e0 e1; unfold ofAt; rw [chk]
        cases hf : cs.find? fun c => decide (c.f0 = p.f2) with
        | none => rfl
        | some c =>
          have hkc := hk c (List.mem_of_find?_eq_some hf); simp only; unfold ofHit; rw [refRole20, Option.bind_some]
          by_cases er : credRole c = p.f0
          · rw [if_pos (show (⟨(credRole c).f0, (credRole c).f1⟩ : Role) = p.f0 from er), decide_eq_true er, Bool.true_and]
            unfold ofBy chkBy
            by_cases k1 : c.f2 = 1
            · rw [if_pos k1, if_pos k1]
            · rw [if_neg k1, if_neg k1]
              by_cases k2 : c.f2 = 2
              · rw [if_pos k2, if_neg (show ¬ c.f2 = 3 by omega), if_neg (show ¬ c.f2 = 4 by omega)]
                by_cases hl : p.f3.length = 1
                · rw [if_pos hl, decide_eq_true hl, Bool.true_and]
                  exact hq _ (pt_mem0 (by omega)) _ _
                · rw [if_neg hl, decide_eq_false hl, Bool.false_and]
              · rw [if_neg k2]
                by_cases hl : p.f3.length = 2
                · rw [if_pos hl]
                  by_cases k4 : c.f2 = 4
                  · rw [if_pos k4, if_neg (show ¬ c.f2 = 3 by omega), if_pos k4, decide_eq_true hl, Bool.true_and, hq _ (pt_mem0 (by omega))]
                    exact bindAnd2 _ _ (hq _ (pt_mem1 (by omega)) _ _)
                  · rw [if_neg k4, if_pos (show c.f2 = 3 by omega), decide_eq_true hl, Bool.true_and]
                    unfold ofLink; have hnn := numName_nonneg (pt p 0).f1; rw [show QaM.f 20 (pt p 0).f1 = some (numName (pt p 0).f1) from refNumber_is _ 18, Option.bind_some, refFirst20]
                    by_cases hz : numName (pt p 0).f1 = 0
                    · rw [if_neg (show ¬ numName (pt p 0).f1 > 0 by omega), decide_eq_false (by simpa using hz), Bool.false_and]
                    · rw [decide_eq_true hz, Bool.true_and, if_pos (show numName (pt p 0).f1 > 0 by omega), Option.bind_some, hq _ (pt_mem0 (by omega))]
                      exact bindAnd2 _ _ (hq _ (pt_mem1 (by omega)) _ _)
                · rw [if_neg hl]
                  by_cases k3 : c.f2 = 3
                  · rw [if_pos k3, decide_eq_false hl, Bool.false_and]
                  · rw [if_neg k3, if_pos (by omega), decide_eq_false hl, Bool.false_and]
          · rw [if_neg (show ¬ (⟨(credRole c).f0, (credRole c).f1⟩ : Role) = p.f0 from er), decide_eq_false er, Bool.false_and]
      · rw [if_neg e1, decide_eq_false e1, Bool.false_and]
    · rw [if_neg e0, decide_eq_false e0, Bool.false_and]
end Go.Proofs.YtmaipohgahdclaaDoor.Pr
end
