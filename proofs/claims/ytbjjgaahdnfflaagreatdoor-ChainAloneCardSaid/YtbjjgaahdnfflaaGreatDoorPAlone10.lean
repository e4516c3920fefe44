/- The proof's own texts, joined: part 10. No conditions. -/
import Derived.WalkKit
import Derived.WalkSpells
import Derived.WalkLawsBesides
import Derived.Lib.Hide
import Derived.Deep.QuietTactic
import Derived.Deep.RegionWith
import Derived.BigQuiet
import Derived.RegionTactic
import Derived.ChangeAlike
import Derived.Deep.RegionLaw
import Derived.Lib.SmallJoins
import Derived.Lib.SlicesS
import Derived.StillTailTactics
import Derived.Test.YtbjjgaahdnfflaaGreatDoorProg
import Derived.Below
import Derived.Outline
import Derived.Deep.RegionHeld3
import Derived.Deep.DrawnRows
import Derived.DeepKeys4
import Derived.KernelRfl
import Derived.Laws.RangeAny
import Derived.Laws.Closers25
import Derived.Sort.Walk0
import Derived.Laws.Strings
import Derived.Deep.Draws
import Derived.Deep.AppendLies
import Derived.Maps.AppendAt
import Derived.OwnWalk
import Derived.Laws.BytesArg
import Derived.Laws.MakeOwn
import Derived.Laws.OwnMore
import Derived.Deep.OwnRows
import Derived.Tactics
import Derived.Lib.ConvBytes
import Derived.Laws.Slices
import Derived.RowKit3
import Derived.Deep.LoopGhost
import Derived.WideLaws
import Derived.Deep.DeepCutAuto
import Derived.Deep.CutBlock
import Derived.Laws.Rows
import Derived.Lib.AppendStr
import Derived.ArgAppend
import Derived.Laws.IdiomCopy
import Derived.OrdersHeld
import Derived.Laws.BitsLemmas
import Derived.RowKit
import Derived.Shelf.SlicesE.Clone
import Derived.Shelf.SlSortCmp.NoneTotal
import Derived.Shelf.SlicesG.Cmp
import Derived.Sort.Grow
import Derived.Shelf.GgSortFunc.InsertionK
import Derived.Shelf.SlSortCmp.WholeK
import Derived.Ground.SlsfProg
import Derived.Ground.SlgnProg
import Derived.Ground.SlgcProg
import Derived.Maps.OwnSet
import Derived.Maps.RangeRun
import Derived.Maps.Range
import Derived.Carry
import Derived.Laws.StructEq
import Derived.ProofKit
import Derived.ChangeSlices
import Derived.DataElems
import Derived.Sort.LotA
import Derived.Test.YtbjjgaahdnfflaaGreatDoorPAlone0
import Derived.Test.YtbjjgaahdnfflaaGreatDoorPAlone1
import Derived.Test.YtbjjgaahdnfflaaGreatDoorPAlone2
import Derived.Test.YtbjjgaahdnfflaaGreatDoorPAlone3
import Derived.Test.YtbjjgaahdnfflaaGreatDoorPAlone4
import Derived.Test.YtbjjgaahdnfflaaGreatDoorPAlone5
import Derived.Test.YtbjjgaahdnfflaaGreatDoorPAlone6
import Derived.Test.YtbjjgaahdnfflaaGreatDoorPAlone7
import Derived.Test.YtbjjgaahdnfflaaGreatDoorPAlone8
import Derived.Test.YtbjjgaahdnfflaaGreatDoorPAlone9
section
namespace Go.Proofs.YtbjjgaahdnfflaaGreatDoor.Pr
open Go.RowKit Go.Proofs.YtbjjgaahdnfflaaGreatDoorW.PrintWords Go.Proofs.YtbjjgaahdnfflaaGreatDoorW.PrintLast Go.Proofs.YtbjjgaahdnfflaaGreatDoorW.PrintMore
set_option linter.unusedVariables false
set_option linter.unusedSimpArgs false
section
attribute [local go_sem] QaQ QaO QaZ QaY QaJ QaI QaP QaN

end
theorem toList_iff (x y : ByteArray) : x.toList = y.toList ↔ x = y := by
  rw [← Lib.bytes_beq_iff, beq_iff_eq]
theorem domName_ne {n : Int} (h : 1 ≤ n) (h' : n ≤ 16) : domName n ≠ ⟨#[]⟩ := by
  have : n = 1 ∨ n = 2 ∨ n = 3 ∨ n = 4 ∨ n = 5 ∨ n = 6 ∨ n = 7 ∨ n = 8 ∨ n = 9 ∨ n = 10 ∨ n = 11 ∨ n = 12 ∨ n = 13 ∨ n = 14 ∨ n = 15 ∨ n = 16 := by omega
  rcases this with rfl | rfl | rfl | rfl | rfl | rfl | rfl | rfl | rfl | rfl | rfl | rfl | rfl | rfl | rfl | rfl <;> decide
def numFrom (s : ByteArray) : Nat → Int → Int
  | 0, _ => 0
  | k + 1, n => if n ≤ 16 then (if domName n = s then n else numFrom s k (n + 1)) else 0
def numName (s : ByteArray) : Int := numFrom s 17 1
theorem number_from (s : ByteArray) : ∀ (k : Nat) (n : Int), 1 ≤ n → n ≤ 17 → 17 - n < k → Qa9.l0 k s n = some (numFrom s k n)
  | 0, n, _, _, h => by omega
  | k + 1, n, h0, h1, h2 => by
    rw [Qa9.l0, numFrom]
    by_cases c : n ≤ 16
    · rw [if_pos c, if_pos c]
      show (Option.bind (some (domName n)) _) = _
      rw [Option.bind_some]
      by_cases e : domName n = s
      · rw [if_pos ((toList_iff _ _).mpr e), if_pos e]
      · rw [if_neg (fun h => e ((toList_iff _ _).mp h)), if_neg e]
        have hw : wrap64 (n + 1) = n + 1 := by unfold wrap64; omega
        rw [hw]; exact number_from s k (n + 1) (by omega) (by omega) (by omega)
    · rw [if_neg c, if_neg c]
theorem numFrom_more (s : ByteArray) : ∀ (k : Nat) (n : Int), 17 - n < k → numFrom s (k + 1) n = numFrom s k n
  | 0, n, h => by
    rw [numFrom, numFrom, if_neg (by omega)]
  | k + 1, n, h => by
    rw [numFrom]
    conv => rhs; rw [numFrom]
    by_cases c : n ≤ 16
    · rw [if_pos c, if_pos c]
      by_cases e : domName n = s
      · rw [if_pos e, if_pos e]
      · rw [if_neg e, if_neg e]
        exact numFrom_more s k (n + 1) (by omega)
    · rw [if_neg c, if_neg c]
theorem number_is (s : ByteArray) : ∀ k, 17 ≤ k → Qa9.f k s = some (numName s) := by
  intro k hk; unfold Qa9.f; rw [number_from s k 1 (by omega) (by omega) (by omega)]
  congr 1
  unfold numName; obtain ⟨j, rfl⟩ := Nat.le.dest hk; clear hk
  induction j with
  | zero => rfl
  | succ j ih => rw [← ih]; exact numFrom_more s (17 + j) 1 (by omega)
theorem numFrom_spec (s : ByteArray) : ∀ (k : Nat) (n : Int), 17 - n ≤ k → (∃ m, n ≤ m ∧ m ≤ 16 ∧ domName m = s ∧ numFrom s k n = m) ∨ ((∀ m, n ≤ m → m ≤ 16 → domName m ≠ s) ∧ numFrom s k n = 0)
  | 0, n, h => .inr ⟨fun m _ _ => by omega, rfl⟩
  | k + 1, n, h => by
    rw [numFrom]
    by_cases c : n ≤ 16
    · rw [if_pos c]
      by_cases e : domName n = s
      · rw [if_pos e]
        exact .inl ⟨n, by omega, c, e, rfl⟩
      · rw [if_neg e]
        rcases numFrom_spec s k (n + 1) (by omega) with ⟨m, h1, h2, h3, h4⟩ | ⟨h1, h2⟩
        · exact .inl ⟨m, by omega, h2, h3, h4⟩
        · refine .inr ⟨fun m hm hm' => ?_, h2⟩
          by_cases e2 : m = n
          · rw [e2]; exact e
          · exact h1 m (by omega) hm'
    · rw [if_neg c]
      exact .inr ⟨fun m _ _ => by omega, rfl⟩
theorem Qcq (s : ByteArray) : (∃ m, 1 ≤ m ∧ m ≤ 16 ∧ domName m = s ∧ numName s = m) ∨ ((∀ m, 1 ≤ m → m ≤ 16 → domName m ≠ s) ∧ numName s = 0) := numFrom_spec s 17 1 (by omega)
theorem refDomain_is (n : Int) (k : Nat) : QaX.f (k + 1) n = some (domName n) := by
  unfold QaX.f
  by_cases h0 : n < 1
  · rw [if_pos h0, domName_out n (.inl h0)]
    rfl
  · rw [if_neg h0]
    by_cases h1 : n > 16
    · rw [decide_eq_true h1, domName_out n (.inr h1)]
      rfl
    · rw [decide_eq_false h1]
      have : n = 1 ∨ n = 2 ∨ n = 3 ∨ n = 4 ∨ n = 5 ∨ n = 6 ∨ n = 7 ∨ n = 8 ∨ n = 9 ∨ n = 10 ∨ n = 11 ∨ n = 12 ∨ n = 13 ∨ n = 14 ∨ n = 15 ∨ n = 16 := by omega
      rcases this with rfl | rfl | rfl | rfl | rfl | rfl | rfl | rfl | rfl | rfl | rfl | rfl | rfl | rfl | rfl | rfl <;> (show _ = some _; kernel_rfl)
theorem bt_data (s : ByteArray) (i : Nat) (h : i < s.size) : bt s (i : Int) = ((s.data.getD i 0).toNat : Int) := by
  unfold bt; rw [dif_pos (by rw [Int.toNat_natCast]; exact h)]
  have : s.data.getD i 0 = s[i] := by
    rw [Array.getD, dif_pos (show i < s.data.size from h)]; rfl
  rw [this]; rfl
theorem size_two {s : ByteArray} (h : s.size = 2) (t : ByteArray) (ht : t.size = 2) (h0 : bt s 0 = bt t 0) (h1 : bt s 1 = bt t 1) : s = t := by
  apply ByteArray.ext
  apply Array.ext
  · exact h.trans ht.symm
  · intro i hi hi'
    have hs : i < 2 := by have : s.data.size = 2 := h; omega
    have e : bt s (i : Int) = bt t (i : Int) := by
      have : i = 0 ∨ i = 1 := by omega
      rcases this with rfl | rfl
      · exact h0
      · exact h1
    rw [bt_data s i (by omega), bt_data t i (by omega)] at e; rw [Array.getD, dif_pos hi, Array.getD, dif_pos hi'] at e; exact UInt8.toNat_inj.mp (by exact_mod_cast e)
theorem size_three {s : ByteArray} (h : s.size = 3) (t : ByteArray) (ht : t.size = 3) (h0 : bt s 0 = bt t 0) (h1 : bt s 1 = bt t 1) (h2 : bt s 2 = bt t 2) : s = t := by
  apply ByteArray.ext
  apply Array.ext
  · exact h.trans ht.symm
  · intro i hi hi'
    have hs : i < 3 := by have : s.data.size = 3 := h; omega
    have e : bt s (i : Int) = bt t (i : Int) := by
      have : i = 0 ∨ i = 1 ∨ i = 2 := by omega
      rcases this with rfl | rfl | rfl
      · exact h0
      · exact h1
      · exact h2
    rw [bt_data s i (by omega), bt_data t i (by omega)] at e; rw [Array.getD, dif_pos hi, Array.getD, dif_pos hi'] at e; exact UInt8.toNat_inj.mp (by exact_mod_cast e)
theorem refNumber_dom (m : Int) (h : 1 ≤ m) (h' : m ≤ 16) (k : Nat) : Qar.f (k + 2) (domName m) = some m := by
  have : m = 1 ∨ m = 2 ∨ m = 3 ∨ m = 4 ∨ m = 5 ∨ m = 6 ∨ m = 7 ∨ m = 8 ∨ m = 9 ∨ m = 10 ∨ m = 11 ∨ m = 12 ∨ m = 13 ∨ m = 14 ∨ m = 15 ∨ m = 16 := by omega
  rcases this with rfl | rfl | rfl | rfl | rfl | rfl | rfl | rfl | rfl | rfl | rfl | rfl | rfl | rfl | rfl | rfl <;> (show _ = some _; kernel_rfl)
theorem refNumber_none (s : ByteArray) (hn : ∀ m, 1 ≤ m → m ≤ 16 → domName m ≠ s) (k : Nat) : Qar.f (k + 2) s = some 0 := by
  have j0t : Qar.j0 (k + 2) s true = some 0 := by rw [Qar.j0, if_pos rfl]
  have j1t : ∀ x, Qar.j1 (k + 1) s x true = some 0 := fun x => by rw [Qar.j1, if_pos rfl]
  unfold Qar.f
  by_cases c1 : (s.size : Int) < 2
  · rw [if_pos c1, j0t]
  · rw [if_neg c1]
    by_cases c2 : (s.size : Int) > 3
    · rw [if_pos c2, j0t]
    · rw [if_neg c2, if_pos (by omega)]
      by_cases c3 : bt s 0 = 100
      · rw [if_pos c3, if_pos (by omega)]
        by_cases c4 : bt s 1 < 49
        · rw [if_pos c4, j0t]
        · rw [if_neg c4]
          by_cases c5 : bt s 1 > 57
          · rw [decide_eq_true c5, j0t]
          · rw [decide_eq_false c5, Qar.j0, if_neg (by decide), if_pos (by omega)]
            by_cases c6 : (s.size : Int) = 3
            · rw [if_pos c6, if_pos (by omega)]
              by_cases c7 : bt s 2 < 48
              · rw [if_pos c7, j1t]
              · rw [if_neg c7]
                by_cases c8 : bt s 2 > 57
                · rw [decide_eq_true c8, j1t]
                · rw [decide_eq_false c8, Qar.j1, if_neg (by decide), if_pos (by omega)]
                  by_cases c9 : 10 * ((bt s 1 - 48) % 256) + (bt s 2 - 48) % 256 > 16
                  · rw [if_pos c9]
                  · exfalso
                    have e1 : bt s 1 = 49 := by omega
                    have hv : bt s 2 = 48 ∨ bt s 2 = 49 ∨ bt s 2 = 50 ∨ bt s 2 = 51 ∨ bt s 2 = 52 ∨ bt s 2 = 53 ∨ bt s 2 = 54 := by omega
                    rcases hv with e | e | e | e | e | e | e
                    · exact hn 10 (by omega) (by omega) (size_three (by omega) (domName 10) rfl (c3.trans rfl) (e1.trans rfl) (e.trans rfl)).symm
                    · exact hn 11 (by omega) (by omega) (size_three (by omega) (domName 11) rfl (c3.trans rfl) (e1.trans rfl) (e.trans rfl)).symm
                    · exact hn 12 (by omega) (by omega) (size_three (by omega) (domName 12) rfl (c3.trans rfl) (e1.trans rfl) (e.trans rfl)).symm
                    · exact hn 13 (by omega) (by omega) (size_three (by omega) (domName 13) rfl (c3.trans rfl) (e1.trans rfl) (e.trans rfl)).symm
                    · exact hn 14 (by omega) (by omega) (size_three (by omega) (domName 14) rfl (c3.trans rfl) (e1.trans rfl) (e.trans rfl)).symm
                    · exact hn 15 (by omega) (by omega) (size_three (by omega) (domName 15) rfl (c3.trans rfl) (e1.trans rfl) (e.trans rfl)).symm
                    · exact hn 16 (by omega) (by omega) (size_three (by omega) (domName 16) rfl (c3.trans rfl) (e1.trans rfl) (e.trans rfl)).symm
            · rw [if_neg c6, if_neg (by omega)]
              exfalso
              have hv : bt s 1 = 49 ∨ bt s 1 = 50 ∨ bt s 1 = 51 ∨ bt s 1 = 52 ∨ bt s 1 = 53 ∨ bt s 1 = 54 ∨ bt s 1 = 55 ∨ bt s 1 = 56 ∨ bt s 1 = 57 := by omega
              rcases hv with e | e | e | e | e | e | e | e | e
              · exact hn 1 (by omega) (by omega) (size_two (by omega) (domName 1) rfl (c3.trans rfl) (e.trans rfl)).symm
              · exact hn 2 (by omega) (by omega) (size_two (by omega) (domName 2) rfl (c3.trans rfl) (e.trans rfl)).symm
              · exact hn 3 (by omega) (by omega) (size_two (by omega) (domName 3) rfl (c3.trans rfl) (e.trans rfl)).symm
              · exact hn 4 (by omega) (by omega) (size_two (by omega) (domName 4) rfl (c3.trans rfl) (e.trans rfl)).symm
              · exact hn 5 (by omega) (by omega) (size_two (by omega) (domName 5) rfl (c3.trans rfl) (e.trans rfl)).symm
              · exact hn 6 (by omega) (by omega) (size_two (by omega) (domName 6) rfl (c3.trans rfl) (e.trans rfl)).symm
              · exact hn 7 (by omega) (by omega) (size_two (by omega) (domName 7) rfl (c3.trans rfl) (e.trans rfl)).symm
              · exact hn 8 (by omega) (by omega) (size_two (by omega) (domName 8) rfl (c3.trans rfl) (e.trans rfl)).symm
              · exact hn 9 (by omega) (by omega) (size_two (by omega) (domName 9) rfl (c3.trans rfl) (e.trans rfl)).symm
      · rw [if_neg c3, j0t]
theorem refNumber_is (s : ByteArray) (k : Nat) : Qar.f (k + 2) s = some (numName s) := by
  rcases Qcq s with ⟨m, h1, h2, h3, h4⟩ | ⟨h1, h2⟩
  · rw [h4, ← h3, refNumber_dom m h1 h2]
  · rw [h2, refNumber_none s h1]
theorem mayAt_bt {s : ByteArray} {i : Nat} (h : i < s.size) (hi : i ≠ 0) : mayAt i (s.data.getD i 0).toNat = true ↔ (97 ≤ bt s i ∧ bt s i ≤ 122) ∨ (48 ≤ bt s i ∧ bt s i ≤ 57) := by
  rw [bt_data s i h]; unfold mayAt; simp [hi]; omega
theorem refMay_loop (s : ByteArray) (h8 : s.size ≤ 8) : ∀ (k i : Nat), 1 ≤ i → i ≤ s.size → s.size - i < k → mayUpto s i = true → QaC.l0 k s (i : Int) = some (mayUpto s s.size)
  | 0, i, _, _, h, _ => by omega
  | k + 1, i, h1, h2, h3, hm => by
    rw [QaC.l0]
    by_cases c : (i : Int) < (s.size : Int)
    · rw [if_pos c, if_pos (by omega)]
      have hlt : i < s.size := by omega
      have hw : wrap64 ((i : Int) + 1) = ((i + 1 : Nat) : Int) := by unfold wrap64; omega
      have ih := fun hy : mayAt i (s.data.getD i 0).toNat = true => refMay_loop s h8 k (i + 1) (by omega) hlt (by omega) (by rw [mayUpto, hm, hy]; rfl)
      rw [mayAt_bt hlt (by omega)] at ih
      have no := fun hn : mayAt i (s.data.getD i 0).toNat = false => may_stop s i hn s.size hlt
      have hno : ¬ ((97 ≤ bt s i ∧ bt s i ≤ 122) ∨ (48 ≤ bt s i ∧ bt s i ≤ 57)) → mayUpto s s.size = false := fun hn => no (by rw [Bool.eq_false_iff, Ne, mayAt_bt hlt (by omega)]; exact hn)
      rw [hw]
      by_cases a1 : bt s i ≥ 97
      · rw [if_pos a1, if_pos (by omega)]
        by_cases a2 : bt s i ≤ 122
        · rw [if_pos a2]
          exact ih (.inl ⟨a1, a2⟩)
        · rw [if_neg a2, if_neg (by omega), hno (by omega)]
      · rw [if_neg a1]
        by_cases a3 : bt s i ≥ 48
        · rw [if_pos a3]
          by_cases a4 : bt s i ≤ 57
          · rw [if_pos a4]
            exact ih (.inr ⟨a3, a4⟩)
          · rw [if_neg a4, hno (by omega)]
        · rw [if_neg a3, hno (by omega)]
    · rw [if_neg c, show s.size = i by omega, hm]
theorem refMay_is (s : ByteArray) (k : Nat) (hk : 10 ≤ k) : QaC.f k s = some (mayName s) := by
  obtain ⟨k, rfl⟩ : ∃ j, k = j + 1 := ⟨k - 1, by omega⟩
  have jt : QaC.j0 (k + 1) s true = some false := by rw [QaC.j0, if_pos rfl]
  unfold QaC.f mayName
  by_cases c1 : (s.size : Int) < 1
  · rw [if_pos c1, jt, decide_eq_false (p := 0 < s.size) (by omega)]
    simp
  · rw [if_neg c1]
    by_cases c2 : (s.size : Int) > 8
    · rw [if_pos c2, jt, decide_eq_false (p := s.size ≤ 8) (by omega)]
      simp
    · rw [if_neg c2, if_pos (by omega), decide_eq_true (p := 0 < s.size) (by omega), decide_eq_true (p := s.size ≤ 8) (by omega), Bool.and_true, Bool.and_true]
      have h0 : bt s 0 = ((s.data.getD 0 0).toNat : Int) := bt_data s 0 (by omega)
      generalize hd : (s.data.getD 0 0).toNat = d at h0
      by_cases c3 : bt s 0 < 97
      · rw [if_pos c3, jt, may_stop s 0 (by rw [hd]; unfold mayAt; simp; omega) s.size (by omega)]
      · rw [if_neg c3]
        by_cases c4 : bt s 0 > 122
        · rw [decide_eq_true c4, jt, may_stop s 0 (by rw [hd]; unfold mayAt; simp; omega) s.size (by omega)]
        · rw [decide_eq_false c4, QaC.j0, if_neg (by decide)]
          exact refMay_loop s (by omega) k 1 (Nat.le_refl _) (by omega) (by omega) (by rw [mayUpto, mayUpto, hd]; unfold mayAt; simp; omega)
theorem empty_iff (x : ByteArray) : x.toList = [] ↔ x = ⟨#[]⟩ := by
  rw [← toList_iff, show (⟨#[]⟩ : ByteArray).toList = [] by unfold ByteArray.toList; rw [ByteArray.toList.loop]; rfl]
def roleOk (r : Role) : Bool := decide (numName r.f0 > 0) && mayName r.f1
def bareOk (r : Role) : Bool := noText r.f0 && mayName r.f1
def credMay (c : Cred) : Bool :=
  (decide (1 ≤ c.f0.f0 ∧ c.f0.f0 ≤ 16) && decide (1 ≤ c.f0.f1 ∧ c.f0.f1 ≤ 4000) && mayName c.f1) &&
  (if c.f2 = 1 then mayName c.f3 && (noRole c.f4 && noRole c.f5) else if c.f2 = 2 then roleOk c.f4 && (noRole c.f5 && noText c.f3)
    else if c.f2 = 3 then bareOk c.f4 && (bareOk c.f5 && noText c.f3) else if c.f2 = 4 then roleOk c.f4 && (roleOk c.f5 && noText c.f3) else false)
def okCred (c : Cred) : Prop := c.f1.size ≤ maxLen ∧ c.f3.size ≤ maxLen ∧ (c.f4.f0.size ≤ maxLen ∧ c.f4.f1.size ≤ maxLen) ∧ c.f5.f0.size ≤ maxLen ∧ c.f5.f1.size ≤ maxLen
theorem may_is {s : ByteArray} (h : s.size ≤ maxLen) : Qbp.f s = some (mayName s) := by
  unfold Qbp.f; rw [if_pos h]
theorem role_is (r : Role) (h : r.f1.size ≤ maxLen) (k : Nat) (hk : 17 ≤ k) : Qbn.f k r.f0 r.f1 = some (roleOk r) := by
  unfold Qbn.f roleOk; rw [number_is _ k hk, Option.bind_some, may_is h, Option.bind_some]
  by_cases c : numName r.f0 > 0
  · rw [if_pos c, decide_eq_true c]; rfl
  · rw [if_neg c, decide_eq_false c]; rfl
theorem bare_is (r : Role) (h : r.f1.size ≤ maxLen) : QbX.f r.f0 r.f1 = some (bareOk r) := by
  unfold QbX.f bareOk noText; rw [may_is h, Option.bind_some]
  by_cases c : r.f0.toList = []
  · rw [if_pos c, c]; rfl
  · rw [if_neg c, beq_eq_false_iff_ne.mpr c]; rfl
theorem and3_is (x y z : Bool) : and3 (some x) (some y) (some z) = some (x && (y && z)) := by
  cases x <;> cases y <;> rfl
theorem credMay_is (c : Cred) (h : okCred c) : cred_May.f c.f0.f0 c.f0.f1 c.f1 c.f2 c.f3 c.f4.f0 c.f4.f1 c.f5.f0 c.f5.f1 = some (credMay c) := by
  obtain ⟨h1, h3, ⟨h40, h41⟩, h50, h51⟩ := h
  show mayF c = some (credMay c)
  unfold mayF credMay
  by_cases d : 1 ≤ c.f0.f0 ∧ c.f0.f0 ≤ 16
  · have hn : ¬ noText (domName c.f0.f0) = true := fun e => domName_ne d.1 d.2 ((empty_iff _).mp (beq_iff_eq.mp e))
    rw [if_neg hn, decide_eq_true d]
    by_cases s1 : c.f0.f1 < 1
    · rw [if_pos s1, decide_eq_false (p := 1 ≤ c.f0.f1 ∧ c.f0.f1 ≤ 4000) (by omega)]; rfl
    · rw [if_neg s1]
      by_cases s2 : c.f0.f1 > 4000
      · rw [if_pos s2, decide_eq_false (p := 1 ≤ c.f0.f1 ∧ c.f0.f1 ≤ 4000) (by omega)]; rfl
      · rw [if_neg s2, decide_eq_true (p := 1 ≤ c.f0.f1 ∧ c.f0.f1 ≤ 4000) (by omega), may_is h1, Option.bind_some]
        cases hm : mayName c.f1
        · rfl
        · rw [if_pos rfl]
          unfold mayKind
          by_cases k1 : c.f2 = 1
          · rw [if_pos k1, if_pos k1, may_is h3, and3_is]; rfl
          · rw [if_neg k1, if_neg k1]
            by_cases k2 : c.f2 = 2
            · rw [if_pos k2, if_pos k2, role_is c.f4 h41 20 (by omega), and3_is]; rfl
            · rw [if_neg k2, if_neg k2]
              by_cases k3 : c.f2 = 3
              · rw [if_pos k3, if_pos k3, bare_is c.f4 h41, bare_is c.f5 h51, and3_is]; rfl
              · rw [if_neg k3, if_neg k3]
                by_cases k4 : c.f2 = 4
                · rw [if_pos k4, if_pos k4, role_is c.f4 h41 20 (by omega), role_is c.f5 h51 20 (by omega), and3_is]; rfl
                · rw [if_neg k4, if_neg k4]; rfl
  · have e : domName c.f0.f0 = ⟨#[]⟩ := domName_out _ (by omega)
    rw [if_pos (show noText (domName c.f0.f0) = true from beq_iff_eq.mpr ((empty_iff _).mpr e)), decide_eq_false d]; rfl
section
open Go.RowKit Go.ChangeShapes Go.WideShapes Go.Proofs.YtbjjgaahdnfflaaGreatDoorW.PrintWords Go.Proofs.YtbjjgaahdnfflaaGreatDoorW.PrintLast Go.Proofs.YtbjjgaahdnfflaaGreatDoorW.PrintMore
def Opens {α : Type} (P : Program) (e : TypeId) (d : Kd α) (Q : α → Prop) : Prop :=
  ∀ (H : Type) (enc : TypeId × Value → H) (w : World) (base : Nat) (spare : Nat → Bool) (held : Bool) (fuel : Nat) (cs : List Value) (x : DataW H × List MemPlace), DataW.trod enc P w base spare held fuel e cs = some x → ∃ a, d.K w a cs ∧ Q a
section
variable {H : Type} {enc : TypeId × Value → H} {P : Program} {w : World} {base : Nat} {spare : Nat → Bool} {held : Bool}
theorem field_at {t : TypeId} {fs : Array Field} {fuel : Nat} {cs : List Value} {x : DataW H × List MemPlace} (ht : P.underlying t = some (.struct fs)) (h : DataW.trod enc P w base spare held fuel t cs = some x) :
    cs.length = P.cellsOf t ∧ ∃ n, ∀ (i : Nat) (f : Field), fs[i]? = some f → ∃ y, DataW.trod enc P w base spare held n f.type ((cs.drop f.offset).take (P.cellsOf f.type)) = some y := by
  obtain ⟨xs, n, _, _, hl, hx, hf⟩ := DataW.trod_struct ht h; refine ⟨hl, n, fun i f hi => ?_⟩; have hi' : i < fs.size := (Array.getElem?_eq_some_iff.mp hi).1; exact ⟨xs[i]'(by omega), (hf i f hi).trans (List.getElem?_eq_getElem (by omega))⟩
theorem list_of {α : Type} {R : Nat → α → Prop} : ∀ n, (∀ i, i < n → ∃ y, R i y) → ∃ xs : List α, xs.length = n ∧ ∀ i y, xs[i]? = some y → R i y
  | 0, _ => ⟨[], rfl, fun i y h => by simp at h⟩
  | n + 1, h => by
    obtain ⟨xs, hl, hx⟩ := list_of n (fun i hi => h i (by omega)); obtain ⟨y, hy⟩ := h n (by omega); refine ⟨xs ++ [y], by simp [hl], fun i z hz => ?_⟩
    by_cases hi : i < n
    · rw [List.getElem?_append_left (by omega)] at hz
      exact hx i z hz
    · rw [List.getElem?_append_right (by omega)] at hz
      have hi2 : i - xs.length = 0 := by
        have := (List.getElem?_eq_some_iff.mp hz).1; simp at this; omega
      rw [hi2] at hz
      have : y = z := by simpa using hz
      rw [show i = n by omega, ← this]; exact hy
theorem cells_at {a : Addr} {n : Nat} {cs : List Value} (h : w.cells? base a n = some cs) : cs.length = n ∧ ∀ i u, cs[i]? = some u → w.cell? (a.add i) = some u := by
  unfold World.cells? at h
  split at h
  · have hl := mapM_some_length h
    rw [List.length_range] at hl; refine ⟨hl, fun i u hu => ?_⟩
    have hi : i < n := by have := (List.getElem?_eq_some_iff.mp hu).1; omega
    have := mapM_some_get h i i (by simp [hi]); rw [this, hu]
  · cases h
theorem open_row {α : Type} {d : Kd α} {Q : α → Prop} {t e : TypeId} {fuel : Nat} {a : Option Addr} {len cap : Nat} {x : DataW H × List MemPlace} (ht : P.underlying t = some (.slice e)) (hc : P.cellsOf e = d.sz) (ho : Opens P e d Q)
    (h : DataW.trod enc P w base spare held fuel t [.slice a len cap] = some x) : ∃ xs : List α, xs.length = len ∧ d.C w a xs.length xs ∧ xs.length ≤ cap ∧ ∀ y ∈ xs, Q y := by
  rcases DataW.trod_slice ht h with ⟨hcs, _⟩ | ⟨a', len', cap', elems, rest, n, _, hcs, _, hb, hl, hm, hlen, hel, _, _⟩
  · simp only [List.cons.injEq, Value.slice.injEq, and_true] at hcs
    obtain ⟨rfl, rfl, rfl⟩ := hcs; exact ⟨[], rfl, ⟨rfl, Nat.zero_le _, fun h => absurd h (Nat.lt_irrefl _)⟩, Nat.le_refl _, fun y hy => by cases hy⟩
  · simp only [List.cons.injEq, Value.slice.injEq, and_true] at hcs
    obtain ⟨rfl, rfl, rfl⟩ := hcs
    obtain ⟨xs, hxl, hx⟩ := list_of (R := fun i y => ∃ cs, w.cells? base (a'.add (i * P.cellsOf e)) (P.cellsOf e) = some cs ∧ d.K w y cs ∧ Q y) len (fun i hi => by
      have h1 := hel i hi; rw [List.getElem?_eq_getElem (by omega)] at h1; obtain ⟨cs, hcs, hy⟩ := Option.bind_eq_some_iff.mp h1; obtain ⟨y, hk, hq⟩ := ho _ _ _ _ _ _ _ _ _ hy
      exact ⟨y, cs, hcs, hk, hq⟩)
    refine ⟨xs, hxl, ⟨rfl, ?_, fun _ => ⟨a', rfl, fun j p hj => ?_⟩⟩, by omega, fun y hy => ?_⟩
    · have : maxLen = 9223372036854775807 := by decide
      omega
    · obtain ⟨cs, h1, h2, _⟩ := hx j p hj
      obtain ⟨hl1, hl2⟩ := cells_at h1; refine ⟨cs, by omega, h2, fun i u hu => ?_⟩; rw [← hc, ← Addr.add_add]; exact hl2 i u hu
    · obtain ⟨i, hi, e⟩ := List.getElem_of_mem hy
      obtain ⟨_, _, _, hq⟩ := hx i y (by rw [List.getElem?_eq_getElem hi, e]); exact hq
end
theorem list2 {α : Type} : ∀ {l : List α}, l.length = 2 → ∃ a b, l = [a, b]
  | [a, b], _ => ⟨a, b, rfl⟩
theorem list9 {α : Type} : ∀ {l : List α}, l.length = 9 → ∃ a b c d e f g h i, l = [a, b, c, d, e, f, g, h, i]
  | [a, b, c, d, e, f, g, h, i], _ => ⟨a, b, c, d, e, f, g, h, i, rfl⟩
theorem opens_role : Opens Tryz.prog 24 k24 (fun r => r.f0.size ≤ maxLen ∧ r.f1.size ≤ maxLen) := by
  intro H enc w base spare held fuel cs x h; obtain ⟨hl, n, hf⟩ := field_at Tryz.underlying24 h; rw [Tryz.cellsRole] at hl; obtain ⟨y0, h0⟩ : ∃ y, DataW.trod enc Tryz.prog w base spare held n 9 ((cs.drop 0).take (Tryz.prog.cellsOf 9)) = some y := hf 0 _ rfl; obtain ⟨y1, h1⟩ : ∃ y, DataW.trod enc Tryz.prog w base spare held n 9 ((cs.drop 1).take (Tryz.prog.cellsOf 9)) = some y := hf 1 _ rfl; rw [Tryz.cellsStr] at h0 h1; obtain ⟨c0, c1, rfl⟩ := list2 hl; obtain ⟨s0, e0, _, z0⟩ := DataW.trod_string Tryz.underlying9 h0; obtain ⟨s1, e1, _, z1⟩ := DataW.trod_string Tryz.underlying9 h1
  obtain rfl : c0 = .string s0 := by simpa using e0
  obtain rfl : c1 = .string s1 := by simpa using e1
  exact ⟨⟨s0, s1⟩, k24_mk w ⟨s0, s1⟩, z0, z1⟩
theorem Tryz.cellsInt : Tryz.prog.cellsOf 3 = 1 := by kernel_rfl
theorem Tryz.cellsID : Tryz.prog.cellsOf 27 = 2 := by kernel_rfl
theorem Tryz.cellsCred : Tryz.prog.cellsOf 46 = 9 := by kernel_rfl
theorem opens_id : Opens Tryz.prog 27 k27 (fun _ => True) := by
  intro H enc w base spare held fuel cs x h; obtain ⟨hl, n, hf⟩ := field_at Tryz.underlying27 h; rw [Tryz.cellsID] at hl; obtain ⟨y0, h0⟩ : ∃ y, DataW.trod enc Tryz.prog w base spare held n 3 ((cs.drop 0).take (Tryz.prog.cellsOf 3)) = some y := hf 0 _ rfl; obtain ⟨y1, h1⟩ : ∃ y, DataW.trod enc Tryz.prog w base spare held n 3 ((cs.drop 1).take (Tryz.prog.cellsOf 3)) = some y := hf 1 _ rfl; rw [Tryz.cellsInt] at h0 h1; obtain ⟨c0, c1, rfl⟩ := list2 hl; obtain ⟨s0, e0, _, z0⟩ := DataW.trod_int Tryz.underlying3 h0; obtain ⟨s1, e1, _, z1⟩ := DataW.trod_int Tryz.underlying3 h1
  obtain rfl : c0 = .int .i64 s0 := by simpa using e0
  obtain rfl : c1 = .int .i64 s1 := by simpa using e1
  exact ⟨⟨s0, s1⟩, k27_mk w ⟨s0, s1⟩, trivial⟩
theorem opens_cred : Opens Tryz.prog 46 k46 okCred := by
  intro H enc w base spare held fuel cs x h; obtain ⟨hl, n, hf⟩ := field_at Tryz.underlying46 h; rw [Tryz.cellsCred] at hl; obtain ⟨y0, h0⟩ : ∃ y, DataW.trod enc Tryz.prog w base spare held n 27 ((cs.drop 0).take (Tryz.prog.cellsOf 27)) = some y := hf 0 _ rfl; obtain ⟨y1, h1⟩ : ∃ y, DataW.trod enc Tryz.prog w base spare held n 9 ((cs.drop 2).take (Tryz.prog.cellsOf 9)) = some y := hf 1 _ rfl; obtain ⟨y2, h2⟩ : ∃ y, DataW.trod enc Tryz.prog w base spare held n 3 ((cs.drop 3).take (Tryz.prog.cellsOf 3)) = some y := hf 2 _ rfl; obtain ⟨y3, h3⟩ : ∃ y, DataW.trod enc Tryz.prog w base spare held n 9 ((cs.drop 4).take (Tryz.prog.cellsOf 9)) = some y := hf 3 _ rfl; obtain ⟨y4, h4⟩ : ∃ y, DataW.trod enc Tryz.prog w base spare held n 24 ((cs.drop 5).take (Tryz.prog.cellsOf 24)) = some y := hf 4 _ rfl; obtain ⟨y5, h5⟩ : ∃ y, DataW.trod enc Tryz.prog w base spare held n 24 ((cs.drop 7).take (Tryz.prog.cellsOf 24)) = some y := hf 5 _ rfl; rw [Tryz.cellsID] at h0; rw [Tryz.cellsStr] at h1 h3; rw [Tryz.cellsInt] at h2; rw [Tryz.cellsRole] at h4 h5; obtain ⟨c0, c1, c2, c3, c4, c5, c6, c7, c8, rfl⟩ := list9 hl; obtain ⟨a, ka, _⟩ := opens_id _ _ _ _ _ _ _ _ _ h0
  obtain ⟨rfl, rfl⟩ : c0 = .int .i64 a.f0 ∧ c1 = .int .i64 a.f1 := by simpa using k27_open ka
  obtain ⟨s1, e1, _, z1⟩ := DataW.trod_string Tryz.underlying9 h1; obtain ⟨s2, e2, _, z2⟩ := DataW.trod_int Tryz.underlying3 h2; obtain ⟨s3, e3, _, z3⟩ := DataW.trod_string Tryz.underlying9 h3
  obtain rfl : c2 = .string s1 := by simpa using e1
  obtain rfl : c3 = .int .i64 s2 := by simpa using e2
  obtain rfl : c4 = .string s3 := by simpa using e3
  obtain ⟨r4, k4, z4⟩ := opens_role _ _ _ _ _ _ _ _ _ h4
  obtain ⟨rfl, rfl⟩ : c5 = .string r4.f0 ∧ c6 = .string r4.f1 := by simpa using k24_open k4
  obtain ⟨r5, k5, z5⟩ := opens_role _ _ _ _ _ _ _ _ _ h5
  obtain ⟨rfl, rfl⟩ : c7 = .string r5.f0 ∧ c8 = .string r5.f1 := by simpa using k24_open k5
  exact ⟨⟨a, s1, s2, s3, r4, r5⟩, k46_mk w ⟨a, s1, s2, s3, r4, r5⟩, z1, z3, z4, z5⟩
end
inductive Said (cs : List Cred) : Pair → Prop
  | member {c : Cred} : c ∈ cs → c.f2 = 1 → Said cs ⟨credRole c, c.f3⟩
  | incl {c : Cred} {u : ByteArray} : c ∈ cs → c.f2 = 2 → Said cs ⟨c.f4, u⟩ → Said cs ⟨credRole c, u⟩
  | link {c : Cred} {u v : ByteArray} : c ∈ cs → c.f2 = 3 → Said cs ⟨linkFirst c, u⟩ → numName u > 0 → Said cs ⟨⟨u, c.f5.f1⟩, v⟩ → Said cs ⟨credRole c, v⟩
  | both {c : Cred} {u : ByteArray} : c ∈ cs → c.f2 = 4 → Said cs ⟨c.f4, u⟩ → Said cs ⟨c.f5, u⟩ → Said cs ⟨credRole c, u⟩
def small (s : ByteArray) : Prop := s.size ≤ 8
def smallR (r : Role) : Prop := small r.f0 ∧ small r.f1
theorem Qb7 {s : ByteArray} (h : small s) : s.size ≤ maxLen := Nat.le_trans h (by decide)
theorem mayName_small {s : ByteArray} (h : mayName s = true) : small s := by
  unfold mayName at h; simp only [Bool.and_eq_true, decide_eq_true_eq] at h; unfold small; omega
theorem Qcg (n : Int) : small (domName n) := by
  by_cases h : 1 ≤ n ∧ n ≤ 16
  · obtain ⟨h, h'⟩ := h
    have : n = 1 ∨ n = 2 ∨ n = 3 ∨ n = 4 ∨ n = 5 ∨ n = 6 ∨ n = 7 ∨ n = 8 ∨ n = 9 ∨ n = 10 ∨ n = 11 ∨ n = 12 ∨ n = 13 ∨ n = 14 ∨ n = 15 ∨ n = 16 := by omega
    rcases this with rfl | rfl | rfl | rfl | rfl | rfl | rfl | rfl | rfl | rfl | rfl | rfl | rfl | rfl | rfl | rfl <;> (unfold small; decide)
  · rw [domName_out n (by omega)]
    unfold small
    decide
theorem numName_small {s : ByteArray} (h : numName s > 0) : small s := by
  rcases Qcq s with ⟨m, _, _, h3, _⟩ | ⟨_, h2⟩
  · rw [← h3]; exact Qcg m
  · omega
theorem numName_dom {n : Int} (h : 1 ≤ n) (h' : n ≤ 16) : numName (domName n) > 0 := by
  rcases Qcq (domName n) with ⟨m, h1, _, _, h4⟩ | ⟨h1, _⟩
  · omega
  · exact absurd rfl (h1 n h h')
theorem roleOk_small {r : Role} (h : roleOk r = true) : smallR r := by
  unfold roleOk at h; rw [Bool.and_eq_true, decide_eq_true_eq] at h; exact ⟨numName_small h.1, mayName_small h.2⟩
theorem bareOk_small {r : Role} (h : bareOk r = true) : small r.f1 := by
  unfold bareOk at h; rw [Bool.and_eq_true] at h; exact mayName_small h.2
theorem QbQ {c : Cred} (h : credMay c = true) : (1 ≤ c.f0.f0 ∧ c.f0.f0 ≤ 16) ∧ small c.f1 ∧ ((c.f2 = 1 ∧ small c.f3) ∨ (c.f2 = 2 ∧ smallR c.f4) ∨ (c.f2 = 3 ∧ small c.f4.f1 ∧ small c.f5.f1) ∨ (c.f2 = 4 ∧ smallR c.f4 ∧ smallR c.f5)) := by
  unfold credMay at h; rw [Bool.and_eq_true, Bool.and_eq_true, Bool.and_eq_true, decide_eq_true_eq] at h; refine ⟨h.1.1.1, mayName_small h.1.2, ?_⟩; have h2 := h.2
  by_cases k1 : c.f2 = 1
  · rw [if_pos k1, Bool.and_eq_true] at h2
    exact .inl ⟨k1, mayName_small h2.1⟩
  rw [if_neg k1] at h2
  by_cases k2 : c.f2 = 2
  · rw [if_pos k2, Bool.and_eq_true] at h2
    exact .inr (.inl ⟨k2, roleOk_small h2.1⟩)
  rw [if_neg k2] at h2
  by_cases k3 : c.f2 = 3
  · rw [if_pos k3, Bool.and_eq_true, Bool.and_eq_true] at h2
    exact .inr (.inr (.inl ⟨k3, bareOk_small h2.1, bareOk_small h2.2.1⟩))
  rw [if_neg k3] at h2
  by_cases k4 : c.f2 = 4
  · rw [if_pos k4, Bool.and_eq_true, Bool.and_eq_true] at h2
    exact .inr (.inr (.inr ⟨k4, roleOk_small h2.1, roleOk_small h2.2.1⟩))
  rw [if_neg k4] at h2; cases h2
def Mays (cs : List Cred) : Prop := ∀ c ∈ cs, credMay c = true
theorem Said.within {cs : List Cred} {p : Pair} (h : Said cs p) : (∃ c ∈ cs, p.f0 = credRole c) ∧ ∃ c ∈ cs, c.f2 = 1 ∧ p.f1 = c.f3 := by
  induction h with
  | member hc hk => exact ⟨⟨_, hc, rfl⟩, _, hc, hk, rfl⟩
  | incl hc hk _ ih => exact ⟨⟨_, hc, rfl⟩, ih.2⟩
  | link hc hk _ _ _ _ ih => exact ⟨⟨_, hc, rfl⟩, ih.2⟩
  | both hc hk _ _ ih _ => exact ⟨⟨_, hc, rfl⟩, ih.2⟩
theorem Said.smalls {cs : List Cred} (hm : Mays cs) {p : Pair} (h : Said cs p) : smallR p.f0 ∧ small p.f1 := by
  obtain ⟨⟨c, hc, e⟩, c', hc', hk, e'⟩ := h.within; obtain ⟨_, h1, _⟩ := QbQ (hm c hc); obtain ⟨_, _, h2⟩ := QbQ (hm c' hc'); rw [e, e']; refine ⟨⟨Qcg _, h1⟩, ?_⟩
  rcases h2 with h2 | h2 | h2 | h2
  · exact h2.2
  · omega
  · omega
  · omega
theorem Said.okPair {cs : List Cred} (hm : Mays cs) {p : Pair} (h : Said cs p) : okPair p := by
  obtain ⟨⟨h0, h1⟩, h2⟩ := h.smalls hm; exact ⟨Qb7 h0, Qb7 h1, Qb7 h2⟩
theorem Said.owner {cs : List Cred} (hm : Mays cs) {p : Pair} (h : Said cs p) : numName p.f0.f0 > 0 := by
  obtain ⟨⟨c, hc, e⟩, _⟩ := h.within; obtain ⟨h0, _⟩ := QbQ (hm c hc); rw [e]; exact numName_dom h0.1 h0.2
theorem flatMap_len {α β : Type} (f : α → List β) (n : Nat) (h : ∀ c, (f c).length = n) : ∀ l : List α, (l.flatMap f).length = l.length * n
  | [] => by simp
  | a :: l => by rw [List.flatMap_cons, List.length_append, h a, flatMap_len f n h l, List.length_cons, Nat.succ_mul, Nat.add_comm]
theorem said_all {cs : List Cred} {l : List Pair} (hn : l.Nodup) (h : ∀ p ∈ l, Said cs p) : l.length ≤ cs.length * cs.length := by
  have := nodup_le (m := cs.flatMap fun c => cs.map fun c' => (⟨credRole c, c'.f3⟩ : Pair)) hn (fun p hp => by
    obtain ⟨⟨c, hc, e⟩, c', hc', _, e'⟩ := (h p hp).within
    exact List.mem_flatMap.mpr ⟨c, hc, List.mem_map.mpr ⟨c', hc', QbN e.symm e'.symm⟩⟩)
  exact Nat.le_trans this (Nat.le_of_eq (flatMap_len _ cs.length (fun c => by simp) cs))
theorem said_400 {cs : List Cred} (hl : cs.length ≤ 20) {l : List Pair} (hn : l.Nodup) (h : ∀ p ∈ l, Said cs p) : l.length ≤ 400 :=
  Nat.le_trans (said_all hn h) (Nat.mul_le_mul hl hl)
structure Good (cs : List Cred) (s : St) : Prop where
  nodup : s.known.Nodup
  said : ∀ p ∈ s.known, Said cs p
  suffix : ∃ done, s.known = done ++ s.waits
def Grows (s s' : St) : Prop := ∃ l, s'.known = s.known ++ l ∧ s'.waits = s.waits ++ l
theorem Grows.refl (s : St) : Grows s s := ⟨[], by simp, by simp⟩
theorem Grows.trans {s s' s'' : St} (h : Grows s s') (h' : Grows s' s'') : Grows s s'' := by
  obtain ⟨l, h1, h2⟩ := h; obtain ⟨l', h3, h4⟩ := h'; exact ⟨l ++ l', by rw [h3, h1, List.append_assoc], by rw [h4, h2, List.append_assoc]⟩
theorem Grows.mem {s s' : St} (h : Grows s s') {p : Pair} (hp : p ∈ s.known) : p ∈ s'.known := by
  obtain ⟨l, h1, _⟩ := h; rw [h1]; exact List.mem_append_left _ hp
def Runs (cs : List Cred) (s : St) (r : Option St) (W : Pair → Prop) : Prop := ∃ s', r = some s' ∧ Good cs s' ∧ Grows s s' ∧ ∀ q, W q → q ∈ s'.known
theorem Runs.none {cs : List Cred} {s : St} {W : Pair → Prop} (h : Good cs s) (hW : ∀ q, ¬ W q) : Runs cs s (some s) W := ⟨s, rfl, h, .refl s, fun q hq => absurd hq (hW q)⟩
theorem Runs.bind {cs : List Cred} {s : St} {r : Option St} {f : St → Option St} {W1 W2 W : Pair → Prop} (h : Runs cs s r W1) (hf : ∀ s', Good cs s' → Grows s s' → Runs cs s' (f s') W2) (hW : ∀ q, W q → W1 q ∨ W2 q) : Runs cs s (r.bind f) W := by
  obtain ⟨s1, rfl, g1, gr1, w1⟩ := h; obtain ⟨s2, e2, g2, gr2, w2⟩ := hf s1 g1 gr1; exact ⟨s2, e2, g2, gr1.trans gr2, fun q hq => (hW q hq).elim (fun h => gr2.mem (w1 q h)) (w2 q)⟩
theorem Runs.imp {cs : List Cred} {s : St} {r : Option St} {W W' : Pair → Prop} (h : Runs cs s r W) (hW : ∀ q, W' q → W q) : Runs cs s r W' := by
  obtain ⟨s1, e, g1, gr1, w1⟩ := h; exact ⟨s1, e, g1, gr1, fun q hq => w1 q (hW q hq)⟩
theorem learn_runs {cs : List Cred} (hm : Mays cs) (hl : cs.length ≤ 20) {s : St} (g : Good cs s) {p : Pair} (hp : Said cs p) : Runs cs s (s.learn p) (fun q => q = p) := by
  unfold St.learn
  by_cases hin : p ∈ s.known
  · rw [if_pos hin]
    exact ⟨s, rfl, g, .refl s, fun q e => e ▸ hin⟩
  · have h400 := said_400 hl g.nodup g.said
    obtain ⟨done, hd⟩ := g.suffix
    have hw : s.waits.length ≤ 400 := by
      have := congrArg List.length hd; rw [List.length_append] at this; omega
    rw [if_neg hin, if_pos ⟨by omega, by omega, hp.okPair hm⟩]; refine ⟨_, rfl, ⟨?_, ?_, done, ?_⟩, ⟨[p], rfl, rfl⟩, fun q e => ?_⟩
    · show (s.known ++ [p]).Nodup
      rw [List.nodup_append]; refine ⟨g.nodup, by simp, ?_⟩; intro a ha b hb e; rw [List.mem_singleton] at hb; exact hin (hb ▸ e ▸ ha)
    · intro q hq
      rcases List.mem_append.mp hq with h | h
      · exact g.said q h
      · rw [List.mem_singleton.mp h]; exact hp
    · show s.known ++ [p] = done ++ (s.waits ++ [p])
      rw [hd, List.append_assoc]
    · subst e
      exact List.mem_append_right _ (by simp)
theorem members_runs {cs : List Cred} (hm : Mays cs) (hl : cs.length ≤ 20) : ∀ (l : List Cred) (s : St), (∀ c ∈ l, c ∈ cs) → Good cs s → Runs cs s (membersF l s) (fun q => ∃ c ∈ l, c.f2 = 1 ∧ q = ⟨credRole c, c.f3⟩)
  | [], s, _, g => .none g (fun q h => by obtain ⟨c, hc, _⟩ := h; cases hc)
  | c :: l, s, hs, g => by
    rw [membersF]
    by_cases k : c.f2 = 1
    · rw [if_pos k]
      refine (learn_runs hm hl g (.member (hs c (List.mem_cons_self ..)) k)).bind (fun s' g' _ => members_runs hm hl l s' (fun x hx => hs x (List.mem_cons_of_mem _ hx)) g') ?_; rintro q ⟨c', hc', hk', e⟩
      rcases List.mem_cons.mp hc' with rfl | h
      · exact .inl e
      · exact .inr ⟨c', h, hk', e⟩
    · rw [if_neg k]
      refine (members_runs hm hl l s (fun x hx => hs x (List.mem_cons_of_mem _ hx)) g).imp ?_; rintro q ⟨c', hc', hk', e⟩
      rcases List.mem_cons.mp hc' with rfl | h
      · exact absurd hk' k
      · exact ⟨c', h, hk', e⟩
theorem learnMany_runs {cs : List Cred} (hm : Mays cs) (hl : cs.length ≤ 20) (c : Cred) (second : Role) : ∀ (l : List Pair) (s : St), (∀ q ∈ l, q.f0 = second → Said cs ⟨credRole c, q.f1⟩) → Good cs s → Runs cs s (learnMany c second l s) (fun r => ∃ q ∈ l, q.f0 = second ∧ r = ⟨credRole c, q.f1⟩)
  | [], s, _, g => .none g (fun q h => by obtain ⟨c, hc, _⟩ := h; cases hc)
  | q :: l, s, hs, g => by
    rw [learnMany]
    by_cases k : q.f0 = second
    · rw [if_pos k]
      refine (learn_runs hm hl g (hs q (List.mem_cons_self ..) k)).bind (fun s' g' _ => learnMany_runs hm hl c second l s' (fun x hx => hs x (List.mem_cons_of_mem _ hx)) g') ?_; rintro r ⟨q', hq', hk', e⟩
      rcases List.mem_cons.mp hq' with rfl | h
      · exact .inl e
      · exact .inr ⟨q', h, hk', e⟩
    · rw [if_neg k]
      refine (learnMany_runs hm hl c second l s (fun x hx => hs x (List.mem_cons_of_mem _ hx)) g).imp ?_; rintro r ⟨q', hq', hk', e⟩
      rcases List.mem_cons.mp hq' with rfl | h
      · exact absurd hk' k
      · exact ⟨q', h, hk', e⟩
theorem sortPairs_mem {l : List Pair} {p : Pair} : p ∈ sortPairs l ↔ p ∈ l := (List.mergeSort_perm l _).mem_iff
inductive Rule (c : Cred) (p : Pair) (K : List Pair) : Pair → Prop
  | incl : c.f2 = 2 → p.f0 = c.f4 → Rule c p K ⟨credRole c, p.f1⟩
  | linkA {v : ByteArray} : c.f2 = 3 → p.f0 = linkFirst c → numName p.f1 > 0 → (⟨⟨p.f1, c.f5.f1⟩, v⟩ : Pair) ∈ K → Rule c p K ⟨credRole c, v⟩
  | linkB : c.f2 = 3 → p.f0.f1 = c.f5.f1 → (⟨linkFirst c, p.f0.f0⟩ : Pair) ∈ K → Rule c p K ⟨credRole c, p.f1⟩
  | bothA : c.f2 = 4 → p.f0 = c.f4 → (⟨c.f5, p.f1⟩ : Pair) ∈ K → Rule c p K ⟨credRole c, p.f1⟩
  | bothB : c.f2 = 4 → p.f0 = c.f5 → (⟨c.f4, p.f1⟩ : Pair) ∈ K → Rule c p K ⟨credRole c, p.f1⟩
theorem Rule.mono {c : Cred} {p : Pair} {K K' : List Pair} (h : ∀ x ∈ K, x ∈ K') {r : Pair} (hr : Rule c p K r) : Rule c p K' r := by
  cases hr with
  | incl a b => exact .incl a b
  | linkA a b d e => exact .linkA a b d (h _ e)
  | linkB a b d => exact .linkB a b (h _ d)
  | bothA a b d => exact .bothA a b (h _ d)
  | bothB a b d => exact .bothB a b (h _ d)
theorem linkA_runs {cs : List Cred} (hm : Mays cs) (hl : cs.length ≤ 20) {c : Cred} (hc : c ∈ cs) (k : c.f2 = 3) {p : Pair} (s : St) (hp : p ∈ s.known) (g : Good cs s) : Runs cs s (linkA c p s) (fun r => p.f0 = linkFirst c ∧ numName p.f1 > 0 ∧ ∃ v, (⟨⟨p.f1, c.f5.f1⟩, v⟩ : Pair) ∈ s.known ∧ r = ⟨credRole c, v⟩) := by
  unfold linkA
  by_cases e1 : p.f0 = linkFirst c
  · rw [if_pos e1, number_is _ 20 (by omega), Option.bind_some]
    by_cases hn : numName p.f1 > 0
    · have h400 := said_400 hl g.nodup g.said
      rw [if_pos hn, if_pos (by omega)]; refine (learnMany_runs hm hl c _ _ s ?_ g).imp ?_
      · intro q hq e
        have hq' := g.said q (sortPairs_mem.mp hq); have hp' := g.said p hp; have eq : q = ⟨⟨p.f1, c.f5.f1⟩, q.f1⟩ := QbN e rfl; have ep : p = ⟨linkFirst c, p.f1⟩ := QbN e1 rfl; rw [ep] at hp'; rw [eq] at hq'; exact .link hc k hp' hn hq'
      · rintro r ⟨_, _, v, hv, e⟩
        exact ⟨_, sortPairs_mem.mpr hv, rfl, e⟩
    · rw [if_neg hn]
      exact .none g (fun q h => hn h.2.1)
  · rw [if_neg e1]
    exact .none g (fun q h => e1 h.1)
theorem linkB_runs {cs : List Cred} (hm : Mays cs) (hl : cs.length ≤ 20) {c : Cred} (hc : c ∈ cs) (k : c.f2 = 3) {p : Pair} (s : St) (hp : p ∈ s.known) (g : Good cs s) : Runs cs s (linkB c p s) (fun r => p.f0.f1 = c.f5.f1 ∧ (⟨linkFirst c, p.f0.f0⟩ : Pair) ∈ s.known ∧ r = ⟨credRole c, p.f1⟩) := by
  unfold linkB; have hp' := g.said p hp
  by_cases e1 : p.f0.f1 = c.f5.f1
  · obtain ⟨_, h1, h2⟩ := QbQ (hm c hc)
    have hok : okPair ⟨linkFirst c, p.f0.f0⟩ := by
      refine ⟨Qb7 (Qcg _), ?_, (hp'.okPair hm).1⟩
      rcases h2 with h2 | h2 | h2 | h2
      · omega
      · omega
      · exact Qb7 h2.2.1
      · omega
    rw [if_pos e1, if_pos hok]
    by_cases hin : (⟨linkFirst c, p.f0.f0⟩ : Pair) ∈ s.known
    · rw [if_pos hin]
      refine (learn_runs hm hl g ?_).imp ?_
      · have ep : p = ⟨⟨p.f0.f0, c.f5.f1⟩, p.f1⟩ := QbN (role_ext rfl e1) rfl
        have hn := hp'.owner hm; have hp2 := hp'; rw [ep] at hp2; exact .link hc k (g.said _ hin) hn hp2
      · rintro r ⟨_, _, e⟩
        exact e
    · rw [if_neg hin]
      exact .none g (fun q h => hin h.2.1)
  · rw [if_neg e1]
    exact .none g (fun q h => e1 h.1)
theorem bothS_runs {cs : List Cred} (hm : Mays cs) (hl : cs.length ≤ 20) {c : Cred} (hc : c ∈ cs) (k : c.f2 = 4) {p : Pair} (s : St) (hp : p ∈ s.known) (g : Good cs s) : Runs cs s (bothSecond c p s) (fun r => p.f0 = c.f5 ∧ (⟨c.f4, p.f1⟩ : Pair) ∈ s.known ∧ r = ⟨credRole c, p.f1⟩) := by
  unfold bothSecond; have hp' := g.said p hp
  by_cases e1 : p.f0 = c.f5
  · obtain ⟨_, h1, h2⟩ := QbQ (hm c hc)
    have hok : okPair ⟨c.f4, p.f1⟩ := by
      rcases h2 with h2 | h2 | h2 | h2
      · omega
      · omega
      · omega
      · exact ⟨Qb7 h2.2.1.1, Qb7 h2.2.1.2, (hp'.okPair hm).2.2⟩
    rw [if_pos e1, if_pos hok]
    by_cases hin : (⟨c.f4, p.f1⟩ : Pair) ∈ s.known
    · rw [if_pos hin]
      refine (learn_runs hm hl g ?_).imp ?_
      · have ep : p = ⟨c.f5, p.f1⟩ := QbN e1 rfl
        have hp2 := hp'; rw [ep] at hp2; exact .both hc k (g.said _ hin) hp2
      · rintro r ⟨_, _, e⟩
        exact e
    · rw [if_neg hin]
      exact .none g (fun q h => hin h.2.1)
  · rw [if_neg e1]
    exact .none g (fun q h => e1 h.1)
theorem both_runs {cs : List Cred} (hm : Mays cs) (hl : cs.length ≤ 20) {c : Cred} (hc : c ∈ cs) (k : c.f2 = 4) {p : Pair} (s : St) (hp : p ∈ s.known) (g : Good cs s) : Runs cs s (bothF c p s) (fun r => Rule c p s.known r) := by
  unfold bothF; have hp' := g.said p hp; have key : Runs cs s (bothSecond c p s) (fun r => p.f0 = c.f5 ∧ (⟨c.f4, p.f1⟩ : Pair) ∈ s.known ∧ r = ⟨credRole c, p.f1⟩) := bothS_runs hm hl hc k s hp g
  have other : ∀ r, Rule c p s.known r → (¬ (p.f0 = c.f4 ∧ (⟨c.f5, p.f1⟩ : Pair) ∈ s.known)) → p.f0 = c.f5 ∧ (⟨c.f4, p.f1⟩ : Pair) ∈ s.known ∧ r = ⟨credRole c, p.f1⟩ := by
    intro r hr hno
    cases hr with
    | incl a b => omega
    | linkA a b d e => omega
    | linkB a b d => omega
    | bothA a b d => exact absurd ⟨b, d⟩ hno
    | bothB a b d => exact ⟨b, d, rfl⟩
  by_cases e1 : p.f0 = c.f4
  · obtain ⟨_, h1, h2⟩ := QbQ (hm c hc)
    have hok : okPair ⟨c.f5, p.f1⟩ := by
      rcases h2 with h2 | h2 | h2 | h2
      · omega
      · omega
      · omega
      · exact ⟨Qb7 h2.2.2.1, Qb7 h2.2.2.2, (hp'.okPair hm).2.2⟩
    rw [if_pos e1, if_pos hok]
    by_cases hin : (⟨c.f5, p.f1⟩ : Pair) ∈ s.known
    · rw [if_pos hin]
      refine (learn_runs hm hl g ?_).imp ?_
      · have ep : p = ⟨c.f4, p.f1⟩ := QbN e1 rfl
        have hp2 := hp'; rw [ep] at hp2; exact .both hc k hp2 (g.said _ hin)
      · intro r hr
        cases hr with
        | incl a b => omega
        | linkA a b d e => omega
        | linkB a b d => omega
        | bothA a b d => rfl
        | bothB a b d => rfl
    · rw [if_neg hin]
      exact key.imp fun r hr => other r hr (fun h => hin h.2)
  · rw [if_neg e1]
    exact key.imp fun r hr => other r hr (fun h => e1 h.1)
theorem step_runs {cs : List Cred} (hm : Mays cs) (hl : cs.length ≤ 20) {c : Cred} (hc : c ∈ cs) {p : Pair} (s : St) (hp : p ∈ s.known) (g : Good cs s) : Runs cs s (stepF p c s) (fun r => Rule c p s.known r) := by
  unfold stepF
  by_cases k1 : c.f2 = 1
  · rw [if_pos k1]
    refine .none g (fun q h => ?_)
    cases h <;> omega
  rw [if_neg k1]
  by_cases k3 : c.f2 = 3
  · rw [if_pos k3]
    unfold linkF; refine (linkA_runs hm hl hc k3 s hp g).bind (W2 := fun r => p.f0.f1 = c.f5.f1 ∧ (⟨linkFirst c, p.f0.f0⟩ : Pair) ∈ s.known ∧ r = ⟨credRole c, p.f1⟩) (fun s' g' gr => (linkB_runs hm hl hc k3 s' (gr.mem hp) g').imp (fun q h => ⟨h.1, gr.mem h.2.1, h.2.2⟩)) ?_; intro r hr
    cases hr with
    | incl a b => omega
    | linkA a b d e => exact .inl ⟨b, d, _, e, rfl⟩
    | linkB a b d => exact .inr ⟨b, d, rfl⟩
    | bothA a b d => omega
    | bothB a b d => omega
  rw [if_neg k3]
  by_cases k4 : c.f2 = 4
  · rw [if_pos k4]
    exact both_runs hm hl hc k4 s hp g
  rw [if_neg k4]
  have k2 : c.f2 = 2 := by
    obtain ⟨_, _, h2⟩ := QbQ (hm c hc)
    rcases h2 with h2 | h2 | h2 | h2
    · omega
    · exact h2.1
    · omega
    · omega
  unfold includeF
  by_cases e1 : p.f0 = c.f4
  · rw [if_pos e1]
    refine (learn_runs hm hl g ?_).imp ?_
    · have ep : p = ⟨c.f4, p.f1⟩ := QbN e1 rfl
      have hp2 := g.said p hp; rw [ep] at hp2; exact .incl hc k2 hp2
    · intro r hr
      cases hr with
      | incl a b => rfl
      | linkA a b d e => omega
      | linkB a b d => omega
      | bothA a b d => omega
      | bothB a b d => omega
  · rw [if_neg e1]
    refine .none g (fun r hr => ?_)
    cases hr with
    | incl a b => exact e1 b
    | linkA a b d e => omega
    | linkB a b d => omega
    | bothA a b d => omega
    | bothB a b d => omega
theorem steps_runs {cs : List Cred} (hm : Mays cs) (hl : cs.length ≤ 20) {p : Pair} (K : List Pair) : ∀ (l : List Cred) (s : St), (∀ c ∈ l, c ∈ cs) → p ∈ s.known → (∀ x ∈ K, x ∈ s.known) → Good cs s → Runs cs s (stepsF p l s) (fun r => ∃ c ∈ l, Rule c p K r)
  | [], s, _, _, _, g => .none g (fun q h => by obtain ⟨c, hc, _⟩ := h; cases hc)
  | c :: l, s, hs, hp, hK, g => by
    rw [stepsF]; refine (step_runs hm hl (hs c (List.mem_cons_self ..)) s hp g).bind (fun s' g' gr => steps_runs hm hl K l s' (fun x hx => hs x (List.mem_cons_of_mem _ hx)) (gr.mem hp) (fun x hx => gr.mem (hK x hx)) g') ?_; rintro r ⟨c', hc', hr⟩
    rcases List.mem_cons.mp hc' with rfl | h
    · exact .inl (hr.mono hK)
    · exact .inr ⟨c', h, hr⟩
def Dealt (cs : List Cred) (s : St) : Prop := (∀ c ∈ cs, c.f2 = 1 → (⟨credRole c, c.f3⟩ : Pair) ∈ s.known) ∧ ∃ done, s.known = done ++ s.waits ∧ ∀ a ∈ done, ∀ c ∈ cs, ∀ r, Rule c a done r → r ∈ s.known
theorem dealt_step {cs : List Cred} (hm : Mays cs) (hl : cs.length ≤ 20) {s : St} (g : Good cs s) (d : Dealt cs s) {p : Pair} {ws : List Pair} (e : s.waits = p :: ws) :
    ∃ s', stepsF p cs ⟨s.known, ws⟩ = some s' ∧ Good cs s' ∧ Dealt cs s' ∧ s'.known.length - s'.waits.length = s.known.length - s.waits.length + 1 ∧ s'.waits.length ≤ s'.known.length := by
  obtain ⟨hM, done, hd, hC⟩ := d
  have hd2 : s.known = (done ++ [p]) ++ ws := by rw [hd, e]; simp
  have g1 : Good cs ⟨s.known, ws⟩ := ⟨g.nodup, g.said, done ++ [p], hd2⟩
  have hpk : p ∈ s.known := by rw [hd2]; simp
  have hsub : ∀ x ∈ done ++ [p], x ∈ s.known := fun x hx => by rw [hd2]; exact List.mem_append_left _ hx
  obtain ⟨s', es, g', ⟨l, hk, hw⟩, hW⟩ := steps_runs hm hl (p := p) (done ++ [p]) cs ⟨s.known, ws⟩ (fun c h => h) hpk hsub g1; have hk' : s'.known = s.known ++ l := hk; have hw' : s'.waits = ws ++ l := hw
  have up : ∀ x ∈ s.known, x ∈ s'.known := fun x hx => by rw [hk']; exact List.mem_append_left _ hx
  refine ⟨s', es, g', ⟨fun c hc k => up _ (hM c hc k), done ++ [p], by rw [hk', hw', hd2]; simp, ?_⟩, ?_, ?_⟩
  · intro a ha c hc r hr
    by_cases eap : a = p
    · subst eap
      exact hW r ⟨c, hc, hr⟩
    · have had : a ∈ done := by
        rcases List.mem_append.mp ha with h | h
        · exact h
        · exact absurd (List.mem_singleton.mp h) eap
      have sa : Said cs a := g.said a (hsub a ha)
      have split : ∀ x, x ∈ done ++ [p] → x ∈ done ∨ x = p := fun x hx => (List.mem_append.mp hx).imp id (fun h => List.mem_singleton.mp h)
      cases hr with
      | incl k b => exact up _ (hC a had c hc _ (.incl k b))
      | linkA k b n h =>
        rcases split _ h with h | h
        · exact up _ (hC a had c hc _ (.linkA k b n h))
        · have e0 : p.f0.f0 = a.f1 := by rw [← h]
          have e1 : p.f0.f1 = c.f5.f1 := by rw [← h]
          have e2 := congrArg S55.f1 h; have := Rule.linkB (c := c) (p := p) (K := done ++ [p]) k e1 (by rw [e0, show (⟨linkFirst c, a.f1⟩ : Pair) = a from QbN b.symm rfl]; exact ha); rw [← e2] at this; exact hW _ ⟨c, hc, this⟩
      | linkB k b h =>
        rcases split _ h with h | h
        · exact up _ (hC a had c hc _ (.linkB k b h))
        · have e0 : p.f0 = linkFirst c := by rw [← h]
          have e1 : p.f1 = a.f0.f0 := by rw [← h]
          have := Rule.linkA (c := c) (p := p) (K := done ++ [p]) (v := a.f1) k e0 (by rw [e1]; exact sa.owner hm) (by rw [e1, show (⟨⟨a.f0.f0, c.f5.f1⟩, a.f1⟩ : Pair) = a from QbN (role_ext rfl b.symm) rfl]; exact ha); exact hW _ ⟨c, hc, this⟩
      | bothA k b h =>
        rcases split _ h with h | h
        · exact up _ (hC a had c hc _ (.bothA k b h))
        · have e0 : p.f0 = c.f5 := by rw [← h]
          have e1 : p.f1 = a.f1 := by rw [← h]
          have := Rule.bothB (c := c) (p := p) (K := done ++ [p]) k e0 (by rw [e1, show (⟨c.f4, a.f1⟩ : Pair) = a from QbN b.symm rfl]; exact ha); rw [e1] at this; exact hW _ ⟨c, hc, this⟩
      | bothB k b h =>
        rcases split _ h with h | h
        · exact up _ (hC a had c hc _ (.bothB k b h))
        · have e0 : p.f0 = c.f4 := by rw [← h]
          have e1 : p.f1 = a.f1 := by rw [← h]
          have := Rule.bothA (c := c) (p := p) (K := done ++ [p]) k e0 (by rw [e1, show (⟨c.f5, a.f1⟩ : Pair) = a from QbN b.symm rfl]; exact ha); rw [e1] at this; exact hW _ ⟨c, hc, this⟩
  · rw [hk', hw', hd2, e]
    simp; omega
  · rw [hk', hw', hd2]
    simp; omega
theorem loop_said {cs : List Cred} (hm : Mays cs) (hl : cs.length ≤ 20) : ∀ (k : Nat) (s : St), Good cs s → Dealt cs s → s.waits.length ≤ s.known.length → 401 - (s.known.length - s.waits.length) ≤ k → 1 ≤ k → ∃ s', loopF cs k s = some s' ∧ Good cs s' ∧ Dealt cs s' ∧ s'.waits = []
  | 0, s, _, _, _, _, h => by omega
  | k + 1, s, g, d, hle, hk, _ => by
    rw [loopF]
    cases e : s.waits with
    | nil => exact ⟨s, rfl, g, d, e⟩
    | cons p ws =>
      obtain ⟨s1, e1, g1, d1, h1, h2⟩ := dealt_step hm hl g d e; have h400 := said_400 hl g1.nodup g1.said
      show ∃ s', ((stepsF p cs ⟨s.known, ws⟩).bind (loopF cs k)) = some s' ∧ _
      rw [e1, Option.bind_some]; exact loop_said hm hl k s1 g1 d1 h2 (by omega) (by omega)
theorem run_said {cs : List Cred} (hm : Mays cs) (hl : cs.length ≤ 20) : ∃ s, runF 2000 cs = some s ∧ s.known.Nodup ∧ (∀ p, p ∈ s.known ↔ Said cs p) := by
  have g0 : Good cs ⟨[], []⟩ := ⟨List.nodup_nil, fun p hp => by (cases hp), [], rfl⟩
  obtain ⟨s1, e1, g1, ⟨l, hk, hw⟩, hW⟩ := members_runs hm hl cs ⟨[], []⟩ (fun c h => h) g0; have hk' : s1.known = l := hk; have hw' : s1.waits = l := hw
  have d1 : Dealt cs s1 := ⟨fun c hc k => hW _ ⟨c, hc, k, rfl⟩, [], by rw [hk', hw']; rfl, fun a ha => by (cases ha)⟩
  obtain ⟨s2, e2, g2, ⟨hM, done, hd, hC⟩, hws⟩ := loop_said hm hl 2000 s1 g1 d1 (by rw [hk', hw']; exact Nat.le_refl _) (by omega) (by omega); refine ⟨s2, ?_, g2.nodup, fun p => ⟨g2.said p, fun h => ?_⟩⟩
  · unfold runF
    rw [e1, Option.bind_some, e2]
  · rw [hws, List.append_nil] at hd
    rw [hd] at hM hC ⊢
    induction h with
    | member hc k => exact hM _ hc k
    | incl hc k _ ih => exact hC _ ih _ hc _ (.incl (p := ⟨_, _⟩) k rfl)
    | link hc k _ n _ ih1 ih2 => exact hC _ ih1 _ hc _ (.linkA (p := ⟨_, _⟩) k rfl n ih2)
    | both hc k _ _ ih1 ih2 => exact hC _ ih1 _ hc _ (.bothA (p := ⟨_, _⟩) k rfl ih2)
def sameID (a b : Cred) : Bool := decide (a.f0.f0 = b.f0.f0) && decide (a.f0.f1 = b.f0.f1)
theorem QbI {a b : Cred} : sameID a b = true ↔ a.f0.f0 = b.f0.f0 ∧ a.f0.f1 = b.f0.f1 := by
  unfold sameID; rw [Bool.and_eq_true, decide_eq_true_eq, decide_eq_true_eq]
def credLess (a b : Cred) : Prop := a.f0.f0 < b.f0.f0 ∨ (a.f0.f0 = b.f0.f0 ∧ a.f0.f1 < b.f0.f1)
theorem credLess_irrefl (a : Cred) : ¬ credLess a a := by unfold credLess; omega
theorem credLess_trans (a b c : Cred) (h : credLess a b) (h' : credLess b c) : credLess a c := by unfold credLess at *; omega
def First (l : List Cred) (c : Cred) : Prop := l.find? (fun d => credMay d && sameID d c) = some c
structure Counts (l R : List Cred) : Prop where
  sorted : R.Pairwise credLess
  mem : ∀ c, c ∈ R ↔ First l c
theorem Counts.unique {l R R' : List Cred} (h : Counts l R) (h' : Counts l R') : R = R' :=
  sorted_eq credLess_irrefl credLess_trans h.sorted h'.sorted (fun c => (h.mem c).trans (h'.mem c).symm)
theorem First.may {l : List Cred} {c : Cred} (h : First l c) : credMay c = true := by
  have := List.find?_some h; rw [Bool.and_eq_true] at this; exact this.1
theorem First.mem {l : List Cred} {c : Cred} (h : First l c) : c ∈ l := List.mem_of_find?_eq_some h
def firsts (out : List Cred) : List Cred → List Cred
  | [] => out
  | c :: l => if credMay c && !(out.any fun d => sameID d c) then firsts (out ++ [c]) l else firsts out l
theorem firsts_mem (c : Cred) : ∀ (l out : List Cred), c ∈ firsts out l ↔ c ∈ out ∨ ((∀ d ∈ out, sameID d c = false) ∧ First l c)
  | [], out => by
    rw [firsts]; unfold First; simp
  | x :: l, out => by
    rw [firsts]; unfold First; rw [List.find?_cons]
    by_cases h : (credMay x && !(out.any fun d => sameID d x)) = true
    · rw [if_pos h, firsts_mem c l (out ++ [x])]
      rw [Bool.and_eq_true, Bool.not_eq_true', List.any_eq_false] at h
      by_cases hx : sameID x c = true
      · rw [h.1, hx]
        simp only [Bool.and_self, Option.some.injEq, List.mem_append, List.mem_singleton]; constructor
        · rintro ((h1 | h1) | ⟨h1, _⟩)
          · exact .inl h1
          · exact .inr ⟨fun d hd => by rw [h1]; simpa using h.2 d hd, h1.symm⟩
          · have := h1 x (by simp)
            rw [hx] at this; cases this
        · rintro (h1 | ⟨_, h1⟩)
          · exact .inl (.inl h1)
          · exact .inl (.inr h1.symm)
      · rw [Bool.not_eq_true] at hx
        rw [hx, Bool.and_false]; simp only [List.mem_append, List.mem_singleton]; unfold First; constructor
        · rintro ((h1 | h1) | ⟨h1, h2⟩)
          · exact .inl h1
          · subst h1
            rw [Bool.eq_false_iff] at hx; exact absurd (QbI.mpr ⟨rfl, rfl⟩) hx
          · exact .inr ⟨fun d hd => h1 d (.inl hd), h2⟩
        · rintro (h1 | ⟨h1, h2⟩)
          · exact .inl (.inl h1)
          · refine .inr ⟨fun d hd => ?_, h2⟩
            rcases hd with hd | hd
            · exact h1 d hd
            · rw [hd]; exact hx
    · rw [if_neg h, firsts_mem c l out]
      by_cases hx : sameID x c = true
      · by_cases hm : credMay x = true
        · have hany : (out.any fun d => sameID d x) = true := by
            rw [hm, Bool.true_and] at h
            simpa using h
          obtain ⟨d, hd, hdx⟩ := List.any_eq_true.mp hany
          have hdc : sameID d c = true := by
            rw [QbI] at *; omega
          have no : ∀ P : Prop, ¬ ((∀ d ∈ out, sameID d c = false) ∧ P) := fun P hP => by
            have := hP.1 d hd; rw [hdc] at this; cases this
          simp only [no]
        · rw [Bool.not_eq_true] at hm
          rw [hm, Bool.false_and]; rfl
      · rw [Bool.not_eq_true] at hx
        rw [hx, Bool.and_false]; rfl
theorem firsts_apart : ∀ (l out : List Cred), out.Pairwise (fun a b => sameID a b = false) → (firsts out l).Pairwise (fun a b => sameID a b = false)
  | [], out, h => h
  | x :: l, out, h => by
    rw [firsts]
    split
    · rename_i hc
      rw [Bool.and_eq_true, Bool.not_eq_true', List.any_eq_false] at hc; refine firsts_apart l _ ?_; rw [List.pairwise_append]; exact ⟨h, List.pairwise_singleton _ _, fun a ha b hb => by rw [List.mem_singleton.mp hb]; simpa using hc.2 a ha⟩
    · exact firsts_apart l out h
theorem firsts_sorted : ∀ (l out : List Cred), out.Pairwise credLess → (∀ d ∈ out, ∀ c ∈ l, ¬ credLess c d) → l.Pairwise (fun x y => ¬ credLess y x) → (firsts out l).Pairwise credLess
  | [], out, h, _, _ => h
  | x :: l, out, h, hol, hl => by
    rw [firsts]; rw [List.pairwise_cons] at hl
    split
    · rename_i hc
      rw [Bool.and_eq_true, Bool.not_eq_true', List.any_eq_false] at hc; refine firsts_sorted l _ ?_ ?_ hl.2
      · rw [List.pairwise_append]
        refine ⟨h, List.pairwise_singleton _ _, fun a ha b hb => ?_⟩; rw [List.mem_singleton.mp hb]; have h1 := hol a ha x (List.mem_cons_self ..); have h2 := hc.2 a ha; rw [QbI] at h2; unfold credLess at *; omega
      · intro d hd c hcl
        rcases List.mem_append.mp hd with h1 | h1
        · exact hol d h1 c (List.mem_cons_of_mem _ hcl)
        · rw [List.mem_singleton.mp h1]
          exact hl.1 c hcl
    · exact firsts_sorted l out h (fun d hd c hcl => hol d hd c (List.mem_cons_of_mem _ hcl)) hl.2
theorem sortCreds_filter (q : Cred → Bool) (hq : ∀ x y, q x = true → q y = true → sameID x y = true) (l : List Cred) : (sortCreds l).filter q = l.filter q := by
  refine insertion_filter _ q (fun x y h hx hy => ?_) l; have := hq x y hx hy; rw [credCmp_lt] at h; rw [QbI] at this; omega
theorem sortCreds_sorted (l : List Cred) : (sortCreds l).Pairwise (fun x y => ¬ credLess y x) := by
  refine (insertion_sorted _ credSWO l).imp fun {a b} h => ?_
  rw [Bool.eq_false_iff, Ne, credCmp_lt] at h; exact h
theorem find_filter {α : Type} (p : α → Bool) (l : List α) : l.find? p = (l.filter p).head? := by
  rw [List.head?_filter]
theorem sortCreds_first (l : List Cred) (c : Cred) : First (sortCreds l) c ↔ First l c := by
  unfold First; rw [find_filter, find_filter]
  have e : ∀ m : List Cred, m.filter (fun d => credMay d && sameID d c) = (m.filter (fun d => sameID d c)).filter credMay := fun m => by rw [List.filter_filter]
  rw [e, e, sortCreds_filter _ (fun x y hx hy => by rw [QbI] at *; omega)]
theorem prog_counts (l : List Cred) : Counts l (firsts [] (sortCreds l)) where
  sorted := firsts_sorted _ _ List.Pairwise.nil (fun d hd => by cases hd) (sortCreds_sorted l)
  mem c := by
    rw [firsts_mem, sortCreds_first]; simp
theorem firsts_length : ∀ (l out : List Cred), (firsts out l).length ≤ out.length + l.length
  | [], out => by rw [firsts]; simp
  | x :: l, out => by
    rw [firsts]
    split
    · have := firsts_length l (out ++ [x])
      simp at *; omega
    · have := firsts_length l out
      simp; omega
theorem numName_nonneg (s : ByteArray) : 0 ≤ numName s := by
  rcases Qcq s with ⟨m, _, _, _, _⟩ | ⟨_, _⟩ <;> omega
theorem refRole_is (r : Role) (k : Nat) (hk : 10 ≤ k) : Qa8.f k r.f0 r.f1 = some (roleOk r) := by
  obtain ⟨j, rfl⟩ : ∃ j, k = j + 2 := ⟨k - 2, by omega⟩
  unfold Qa8.f roleOk; rw [refMay_is _ _ hk, Option.bind_some]; have := numName_nonneg r.f0; cases mayName r.f1
  · simp
  · rw [if_pos rfl, refNumber_is, Option.bind_some]
    by_cases e : numName r.f0 = 0
    · rw [e]; rfl
    · rw [decide_eq_true (show numName r.f0 > 0 by omega), bne_iff_ne.mpr e]
      rfl
theorem refBare_is (r : Role) (k : Nat) (hk : 10 ≤ k) : Qbd.f k r.f0 r.f1 = some (bareOk r) := by
  unfold Qbd.f bareOk noText; rw [refMay_is _ _ hk, Option.bind_some]; cases mayName r.f1
  · simp
  · simp
theorem refCredMay_is (c : Cred) (k : Nat) (hk : 12 ≤ k) : QaA.f k c.f0.f0 c.f0.f1 c.f1 c.f2 c.f3 c.f4.f0 c.f4.f1 c.f5.f0 c.f5.f1 = some (credMay c) := by
  obtain ⟨k, rfl⟩ : ∃ j, k = j + 1 := ⟨k - 1, by omega⟩
  unfold QaA.f credMay; rw [refMay_is _ _ (by omega), refMay_is _ _ (by omega), refRole_is c.f4 _ (by omega), refRole_is c.f5 _ (by omega)]; simp only [Option.bind_some]
  have jt : ∀ a b d, QaA.j0 (k + 1) a b d true c.f0.f0 c.f0.f1 c.f1 c.f2 c.f3 c.f4.f0 c.f4.f1 c.f5.f0 c.f5.f1 = some false := fun a b d => by rw [QaA.j0, if_pos rfl]
  by_cases d1 : c.f0.f0 < 1
  · rw [if_pos d1, jt, decide_eq_false (p := 1 ≤ c.f0.f0 ∧ c.f0.f0 ≤ 16) (by omega)]; rfl
  rw [if_neg d1]
  by_cases d2 : c.f0.f0 > 16
  · rw [if_pos d2, jt, decide_eq_false (p := 1 ≤ c.f0.f0 ∧ c.f0.f0 ≤ 16) (by omega)]; rfl
  rw [if_neg d2, decide_eq_true (p := 1 ≤ c.f0.f0 ∧ c.f0.f0 ≤ 16) (by omega)]
  by_cases s1 : c.f0.f1 < 1
  · rw [if_pos s1, jt, decide_eq_false (p := 1 ≤ c.f0.f1 ∧ c.f0.f1 ≤ 4000) (by omega)]; rfl
  rw [if_neg s1]
  by_cases s2 : c.f0.f1 > 4000
  · rw [if_pos s2, jt, decide_eq_false (p := 1 ≤ c.f0.f1 ∧ c.f0.f1 ≤ 4000) (by omega)]; rfl
  rw [if_neg s2, decide_eq_true (p := 1 ≤ c.f0.f1 ∧ c.f0.f1 ≤ 4000) (by omega)]; cases mayName c.f1
  · exact jt _ _ _
  show QaA.j0 (k + 1) _ _ _ false _ _ _ _ _ _ _ _ _ = _
  rw [QaA.j0, if_neg (by decide)]
  by_cases k1 : c.f2 = 1
  · rw [if_pos k1, if_pos k1]
    show (if mayName c.f3 = true then if noRole c.f4 = true then some (noRole c.f5) else some false else some false) = _
    cases mayName c.f3 <;> cases noRole c.f4 <;> simp
  rw [if_neg k1, if_neg k1]
  by_cases w : c.f3.toList = []
  · have wt : noText c.f3 = true := by unfold noText; rw [w]; rfl
    rw [if_pos w, wt]
    by_cases k2 : c.f2 = 2
    · rw [if_pos k2, if_pos k2]
      show (if roleOk c.f4 = true then some (noRole c.f5) else some false) = _
      cases roleOk c.f4 <;> simp
    rw [if_neg k2, if_neg k2]
    by_cases k3 : c.f2 = 3
    · rw [if_pos k3, if_pos k3, refBare_is c.f4 k (by omega), refBare_is c.f5 k (by omega), Option.bind_some, Option.bind_some]
      cases bareOk c.f4 <;> cases bareOk c.f5 <;> simp
    rw [if_neg k3, if_neg k3]
    by_cases k4 : c.f2 = 4
    · rw [if_pos k4, if_pos k4]
      cases roleOk c.f4 <;> cases roleOk c.f5 <;> simp
    · rw [if_neg k4, if_neg k4]; rfl
  · have wt : noText c.f3 = false := by unfold noText; exact beq_eq_false_iff_ne.mpr w
    rw [if_neg w, wt]; simp only [Bool.and_false]
    by_cases k2 : c.f2 = 2
    · rw [if_pos k2]; rfl
    rw [if_neg k2]
    by_cases k3 : c.f2 = 3
    · rw [if_pos k3]; rfl
    rw [if_neg k3]
    by_cases k4 : c.f2 = 4
    · rw [if_pos k4]; rfl
    · rw [if_neg k4]; rfl
theorem QbU {i : Nat} (h : i < 1000000000000) : wrap64 ((i : Int) + 1) = ((i + 1 : Nat) : Int) := by unfold wrap64; omega
theorem rdCred (l : List Cred) (i : Nat) : Qae l (i : Int) = l[i]! := by
  unfold Qae; rw [Int.toNat_natCast, List.getElem!_eq_getElem?_getD, List.getD_eq_getElem?_getD]; rfl
theorem getBang {α : Type} [Inhabited α] {l : List α} {i : Nat} (h : i < l.length) : l[i]! = l[i] := getElem!_pos l i h
theorem drop_bang {α : Type} [Inhabited α] {l : List α} {i : Nat} (h : i < l.length) : l.drop i = l[i]! :: l.drop (i + 1) := by
  rw [getBang h]; exact List.drop_eq_getElem_cons h
theorem last_same {ini : List Cred} {z c : Cred} (hs : (ini ++ [z]).Pairwise credLess) (hc : ∀ d ∈ ini ++ [z], ¬ credLess c d) : ((ini ++ [z]).any fun d => sameID d c) = sameID z c := by
  rw [List.any_append]
  have h0 : (ini.any fun d => sameID d c) = false := by
    rw [List.any_eq_false]; intro d hd h; rw [List.pairwise_append] at hs; have h1 := hs.2.2 d hd z (by simp); have h2 := hc z (by simp); rw [QbI] at h; unfold credLess at *; omega
  rw [h0]; simp
theorem progCounts_loop : ∀ (S out : List Cred), (∀ c ∈ S, okCred c) → S.Pairwise (fun x y => ¬ credLess y x) → out.Pairwise credLess → (∀ d ∈ out, ∀ c ∈ S, ¬ credLess c d) → countsF S out = some (firsts out S)
  | [], out, _, _, _, _ => by rw [countsF, firsts]
  | c :: S, out, hok, hpw, hs, hd => by
    have hmay := credMay_is c (hok c (List.mem_cons_self ..)); rw [List.pairwise_cons] at hpw
    have rest := fun (out' : List Cred) h2 h3 => progCounts_loop S out' (fun x hx => hok x (List.mem_cons_of_mem _ hx)) hpw.2 h2 h3
    have grown : ∀ (h : out.any (fun d => sameID d c) = false), countsF S (out ++ [c]) = some (firsts (out ++ [c]) S) := fun h => by
      rw [List.any_eq_false] at h; refine rest _ ?_ ?_
      · rw [List.pairwise_append]
        refine ⟨hs, List.pairwise_singleton _ _, fun a ha b hb => ?_⟩; rw [List.mem_singleton.mp hb]; have h1 := hd a ha c (List.mem_cons_self ..); have h2 := h a ha; rw [QbI] at h2; unfold credLess at *; omega
      · intro d hdm x hx
        rcases List.mem_append.mp hdm with h1 | h1
        · exact hd d h1 x (List.mem_cons_of_mem _ hx)
        · rw [List.mem_singleton.mp h1]
          exact hpw.1 x hx
    have same : countsF S out = some (firsts out S) := rest out hs (fun d hdm x hx => hd d hdm x (List.mem_cons_of_mem _ hx)); rw [countsF, show mayOf c = some (credMay c) from hmay, Option.bind_some, firsts]
    by_cases m : credMay c = true
    · rw [if_pos m, m, Bool.true_and]
      rcases List.eq_nil_or_concat out with e | ⟨ini, z, e⟩
      · subst e
        rw [if_neg (by simp), if_pos (show (!(([] : List Cred).any fun d => sameID d c)) = true from rfl)]; exact grown rfl
      · rw [List.concat_eq_append] at e
        have hany : (out.any fun d => sameID d c) = sameID z c := by
          rw [e] at hs hd ⊢; exact last_same hs (fun d hdm => hd d hdm c (List.mem_cons_self ..))
        have hl : out.getLast?.map (·.f0) = some z.f0 := by rw [e, List.getLast?_concat]; rfl
        rw [hl, hany]; cases hb : sameID z c
        · rw [if_neg (fun h => by have := Option.some.inj h; rw [Bool.eq_false_iff, Ne, QbI, this] at hb; exact hb ⟨rfl, rfl⟩), if_pos (show (!false) = true from rfl)]
          exact grown (hany.trans hb)
        · rw [if_pos (by obtain ⟨e0, e1⟩ := QbI.mp hb; rw [id_ext e0 e1]), if_neg (show ¬ (!true) = true by decide)]
          exact same
    · rw [if_neg m]
      rw [Bool.not_eq_true] at m; rw [m, Bool.false_and]; exact same
theorem cred_ext {a b : Cred} (h0 : a.f0.f0 = b.f0.f0) (h0' : a.f0.f1 = b.f0.f1) (h1 : a.f1 = b.f1) (h2 : a.f2 = b.f2) (h3 : a.f3 = b.f3) (h4 : a.f4 = b.f4) (h5 : a.f5 = b.f5) : a = b := by
  obtain ⟨⟨_, _⟩, _, _, _, _, _⟩ := a; obtain ⟨⟨_, _⟩, _, _, _, _, _⟩ := b
  simp_all
instance credDec : DecidableEq Cred := fun a b => decidable_of_iff (a.f0.f0 = b.f0.f0 ∧ a.f0.f1 = b.f0.f1 ∧ a.f1 = b.f1 ∧ a.f2 = b.f2 ∧ a.f3 = b.f3 ∧ a.f4 = b.f4 ∧ a.f5 = b.f5)
  ⟨fun h => cred_ext h.1 h.2.1 h.2.2.1 h.2.2.2.1 h.2.2.2.2.1 h.2.2.2.2.2.1 h.2.2.2.2.2.2, fun h => by rw [h]; exact ⟨rfl, rfl, rfl, rfl, rfl, rfl, rfl⟩⟩
def counts (l : List Cred) : List Cred := firsts [] (sortCreds l)
theorem Qcf (l : List Cred) : Counts l (counts l) := prog_counts l
theorem sortCreds_mem {l : List Cred} {c : Cred} : c ∈ sortCreds l ↔ c ∈ l := by
  have := sortCreds_filter (fun d => decide (d = c)) (fun x y hx hy => by
    rw [decide_eq_true_eq] at hx hy; rw [hx, hy]
    exact QbI.mpr ⟨rfl, rfl⟩) l
  constructor
  · intro h
    have h1 : c ∈ (sortCreds l).filter (fun d => decide (d = c)) := List.mem_filter.mpr ⟨h, by simp⟩; rw [this] at h1; exact (List.mem_filter.mp h1).1
  · intro h
    have h1 : c ∈ l.filter (fun d => decide (d = c)) := List.mem_filter.mpr ⟨h, by simp⟩; rw [← this] at h1; exact (List.mem_filter.mp h1).1
theorem progCounts_is (l : List Cred) (hl : l.length < 21) (hok : ∀ c ∈ l, okCred c) : Qb3.f l = some (counts l) := by
  unfold Qb3.f Qcm.f; have hlen := QbL l; rw [if_pos hl, Option.bind_some, if_pos (by omega)]; exact progCounts_loop (sortCreds l) [] (fun c hc => hok c (sortCreds_mem.mp hc)) (sortCreds_sorted l) List.Pairwise.nil (fun d hd => by cases hd)
def credLessB (a b : Cred) : Bool := if a.f0.f0 = b.f0.f0 then decide (a.f0.f1 < b.f0.f1) else decide (a.f0.f0 < b.f0.f0)
theorem Qb4 (a b : Cred) : credLessB a b = true ↔ credLess a b := by
  unfold credLessB credLess
  split <;> rw [decide_eq_true_eq] <;> omega
theorem before_is (a b : Cred) : Qba.f a.f0.f0 a.f0.f1 b.f0.f0 b.f0.f1 = some (credLessB a b) := by
  unfold Qba.f credLessB
  split <;> rfl
theorem refSorted_l1 (x : List Cred) (hx : x.length < 1000000) (out : List Cred) (ho : out.length < 1000000) (R : List Cred) : ∀ (n m i : Nat), n + i = x.length → m < x.length →
    Ev (fun k => Qap.l0 k (x.take (selLeast credLessB x n m i) ++ x.drop (selLeast credLessB x n m i + 1)) (out ++ [x[selLeast credLessB x n m i]!])) R → Ev (fun k => Qap.l1 k x out (m : Int) (i : Int)) R
  | 0, m, i, hn, hm, h => by
    rw [selLeast] at h; refine Ev.step (fun k => ?_) h; rw [Qap.l1, if_neg (by omega), if_pos (by omega), if_pos (by omega), if_pos (by omega), if_pos (by omega), Option.bind_some, if_pos (by simp; omega), Option.bind_some, QbU (by omega), if_pos (by omega), if_pos (by omega), Option.bind_some, if_pos (by simp; omega), rdCred]; rfl
  | n + 1, m, i, hn, hm, h => by
    rw [selLeast] at h
    have e : ∀ k, Qap.l1 (k + 1) x out (m : Int) (i : Int) = Qap.l1 k x out ((if credLessB x[i]! x[m]! then i else m : Nat) : Int) ((i + 1 : Nat) : Int) := fun k => by
      rw [Qap.l1, if_pos (by omega), if_pos (by omega), if_pos (by omega), if_pos (by omega), rdCred, rdCred, before_is, Option.bind_some, QbU (by omega)]
      cases credLessB x[i]! x[m]! <;> rfl
    exact Ev.step e (refSorted_l1 x hx out ho R n _ (i + 1) (by omega) (by split <;> omega) h)
theorem selLeast_lt {α : Type} [Inhabited α] (less : α → α → Bool) (l : List α) : ∀ (n m i : Nat), n + i = l.length → m < l.length → selLeast less l n m i < l.length
  | 0, m, i, hn, hm => hm
  | n + 1, m, i, hn, hm => by
    rw [selLeast]; exact selLeast_lt less l n _ _ (by omega) (by split <;> omega)
theorem refSorted_l0 : ∀ (n : Nat) (x out : List Cred), x.length ≤ n → x.length + out.length < 1000000 → Ev (fun k => Qap.l0 k x out) (selSort credLessB n x out)
  | 0, x, out, hn, hl => by
    rw [selSort]; refine Ev.step (fun k => ?_) (Ev.pure _); rw [Qap.l0, if_neg (by omega)]
  | n + 1, x, out, hn, hl => by
    rw [selSort]
    by_cases c : x.length > 0
    · rw [if_pos c]
      have hm := selLeast_lt credLessB x (x.length - 1) 0 1 (by omega) c; refine Ev.step (fun k => ?_) (refSorted_l1 x (by omega) out (by omega) _ (x.length - 1) 0 1 (by omega) c (refSorted_l0 n _ _ ?_ ?_))
      · rw [Qap.l0, if_pos (by omega)]
        rfl
      · simp
        omega
      · simp
        omega
    · rw [if_neg c]
      refine Ev.step (fun k => ?_) (Ev.pure _); rw [Qap.l0, if_neg (by omega)]
theorem refCounts_l1 (x : List Cred) (hx : x.length < 1000000) (out : List Cred) (ho : out.length < 1000000) (i : Nat) (hi : i < x.length) (b : Bool) (R : List Cred) : ∀ (n j : Nat) (h : Bool), n + j = out.length →
    Ev (fun k => Qao.l0 k x (if b && !(h || (out.drop j).any fun d => sameID d x[i]!) then out ++ [x[i]!] else out) ((i + 1 : Nat) : Int)) R → Ev (fun k => Qao.l1 k x out (i : Int) b h (j : Int)) R
  | 0, j, h, hn, hR => by
    rw [show out.drop j = [] from List.drop_eq_nil_of_le (by omega)] at hR; refine Ev.step (fun k => ?_) hR; rw [Qao.l1, if_neg (by omega), QbU (by omega)]; cases b
    · rfl
    · cases h
      · rw [if_pos rfl, if_neg (by decide), if_pos (by omega), if_pos (by omega), if_pos (by omega), rdCred]
        rfl
      · rfl
  | n + 1, j, h, hn, hR => by
    rw [drop_bang (by omega : j < out.length), List.any_cons] at hR
    have e : ∀ k, Qao.l1 (k + 1) x out (i : Int) b h (j : Int) = Qao.l1 k x out (i : Int) b (h || sameID out[j]! x[i]!) ((j + 1 : Nat) : Int) := fun k => by
      rw [Qao.l1, if_pos (by omega), QbU (by omega)]; cases h
      · rw [if_neg (by decide), if_pos (by omega), if_pos (by omega), if_pos (by omega), rdCred, rdCred]
        rfl
      · rfl
    refine Ev.step e (refCounts_l1 x hx out ho i hi b R n (j + 1) _ (by omega) ?_); rw [Bool.or_assoc]; exact hR
theorem refCounts_l0 (x : List Cred) (hx : x.length < 100000) : ∀ (n i : Nat) (out : List Cred), n + i = x.length → out.length ≤ i → Ev (fun k => Qao.l0 k x out (i : Int)) (selSort credLessB x.length (firsts out (x.drop i)) [])
  | 0, i, out, hn, ho => by
    rw [show x.drop i = [] from List.drop_eq_nil_of_le (by omega), firsts]; refine Ev.step (g := fun k => (Qap.f k out).bind fun t => some t) (fun k => ?_) (Ev.bind (a := selSort credLessB x.length out []) ?_ (Ev.pure _))
    · rw [Qao.l0, if_neg (by omega)]
    · exact refSorted_l0 _ out [] (by omega) (by simp; omega)
  | n + 1, i, out, hn, ho => by
    have hi : i < x.length := by omega
    rw [drop_bang hi, firsts]; refine Ev.step (g := fun k => (QaA.f k x[i]!.f0.f0 x[i]!.f0.f1 x[i]!.f1 x[i]!.f2 x[i]!.f3 x[i]!.f4.f0 x[i]!.f4.f1 x[i]!.f5.f0 x[i]!.f5.f1).bind fun t => Qao.l1 k x out (i : Int) t false 0) (fun k => ?_) (Ev.bind (.from 12 fun k hk => refCredMay_is _ k hk) (refCounts_l1 x (by omega) out (by omega) i hi _ _ out.length 0 false (by omega) ?_))
    · rw [Qao.l0, if_pos (by omega), if_pos (by omega), rdCred]
    · rw [List.drop_zero, Bool.false_or]
      split
      · exact refCounts_l0 x hx n (i + 1) _ (by omega) (by simp; omega)
      · exact refCounts_l0 x hx n (i + 1) _ (by omega) (by omega)
theorem refCounts_is (l : List Cred) (hl : l.length < 100000) : Ev (fun k => Qao.f k l) (counts l) := by
  have h := refCounts_l0 l hl l.length 0 [] (by omega) (by simp); rw [List.drop_zero] at h; have hlen := firsts_length l []; have hp := firsts_apart l [] List.Pairwise.nil
  obtain ⟨h1, h2⟩ := selSort_spec credLessB (fun x => by rw [Bool.eq_false_iff, Ne, Qb4]; exact credLess_irrefl x) (fun x y z => by rw [Qb4, Qb4, Qb4]; exact credLess_trans x y z) l.length (firsts [] l) [] (by simpa using hlen) (by
    rw [List.nil_append]
    refine hp.imp fun {a b} hab => ?_
    rw [Qb4, Qb4]; rw [Bool.eq_false_iff, Ne, QbI] at hab; unfold credLess
    omega) List.Pairwise.nil (fun a ha => by cases ha)
  have e : selSort credLessB l.length (firsts [] l) [] = counts l := by
    refine Counts.unique (l := l) ⟨h1.imp fun {a b} hab => (Qb4 a b).mp hab, fun c => ?_⟩ (Qcf l); rw [h2, firsts_mem]; simp
  rw [← e]; exact h
theorem counts_may {l : List Cred} {c : Cred} (h : c ∈ counts l) : credMay c = true := ((Qcf l).mem c |>.mp h).may
theorem counts_kind {l : List Cred} : ∀ c ∈ counts l, c.f2 = 1 ∨ c.f2 = 2 ∨ c.f2 = 3 ∨ c.f2 = 4 := fun c h => by
  have := counts_may h; unfold credMay at this; rw [Bool.and_eq_true] at this; have h2 := this.2
  by_cases k1 : c.f2 = 1
  · exact .inl k1
  by_cases k2 : c.f2 = 2
  · exact .inr (.inl k2)
  by_cases k3 : c.f2 = 3
  · exact .inr (.inr (.inl k3))
  by_cases k4 : c.f2 = 4
  · exact .inr (.inr (.inr k4))
  · rw [if_neg k1, if_neg k2, if_neg k3, if_neg k4] at h2
    cases h2
theorem QbH (l : List Cred) : (counts l).length ≤ l.length := by
  unfold counts; have := firsts_length (sortCreds l) []; have h2 := QbL l; simp at this; omega
structure AllOf (cs : List Cred) (A : List Pair) : Prop where
  sorted : A.Pairwise (fun a b => pairLess a b = true)
  mem : ∀ p, p ∈ A ↔ Said cs p
theorem AllOf.nodup {cs : List Cred} {A : List Pair} (h : AllOf cs A) : A.Nodup := sorted_nodup (R := fun a b => pairLess a b = true) QbV h.sorted
theorem AllOf.length {cs : List Cred} {A : List Pair} (h : AllOf cs A) (hl : cs.length ≤ 20) : A.length ≤ 400 := said_400 hl h.nodup (fun p hp => (h.mem p).mp hp)
theorem sortPairs_sorted {l : List Pair} (hn : l.Nodup) : (sortPairs l).Pairwise (fun a b => pairLess a b = true) := by
  have h1 : (sortPairs l).Pairwise (fun a b => (!(ltOf pairCmp) b a) = true) := by
    unfold sortPairs; refine List.pairwise_mergeSort (le := fun x y => !(ltOf pairCmp) y x) ?_ ?_ l
    · intro a b c h1 h2
      simp only [Bool.not_eq_true'] at *; exact pairSWO.ntrans _ _ _ h2 h1
    · intro a b
      rw [Qca, Qca]
      by_cases h1 : pairLess b a = true
      · have : ¬ pairLess a b = true := fun h2 => QbV _ (Qcj h1 h2)
        simp_all
      · simp_all
  have h2 : (sortPairs l).Nodup := (List.mergeSort_perm l _).nodup_iff.mpr hn
  refine (h1.and h2).imp fun {a b} hh => ?_
  obtain ⟨h, h'⟩ := hh; simp only [Qca, Bool.not_eq_true'] at h
  by_cases h3 : pairLess a b = true
  · exact h3
  · exact absurd (Qck h3 (by rw [h]; decide)) h'
theorem run_all {cs : List Cred} (hm : Mays cs) (hl : cs.length ≤ 20) : ∃ s A, runF 2000 cs = some s ∧ s.known.length ≤ 1000000 ∧ sortPairs s.known = A ∧ AllOf cs A := by
  obtain ⟨s, h1, h2, h3⟩ := run_said hm hl; have := said_400 hl h2 (fun p hp => (h3 p).mp hp); exact ⟨s, _, h1, by omega, rfl, sortPairs_sorted h2, fun p => sortPairs_mem.trans (h3 p)⟩
theorem QbR (l : List Cred) : Mays (counts l) := fun c hc => (((Qcf l).mem c).mp hc).may
theorem all_is (l : List Cred) (hl : l.length < 21) (hok : ∀ c ∈ l, okCred c) : ∃ A, solve_All.f l = some A ∧ AllOf (counts l) A := by
  have hlen := QbH l; obtain ⟨s, A, h1, h2, h3, h4⟩ := run_all (QbR l) (by omega); refine ⟨A, ?_, h4⟩; unfold solve_All.f; rw [progCounts_is l hl hok, Option.bind_some, if_pos (by omega), h1, Option.bind_some, if_pos h2, h3]
inductive Way (c : Cred) (p : Pair) : List Pair → Prop
  | member : credRole c = p.f0 → c.f2 = 1 → c.f3 = p.f1 → Way c p []
  | incl : credRole c = p.f0 → c.f2 = 2 → Way c p [⟨c.f4, p.f1⟩]
  | link (d : Int) : credRole c = p.f0 → c.f2 = 3 → 1 ≤ d → d ≤ 16 → Way c p [⟨linkFirst c, domName d⟩, ⟨⟨domName d, c.f5.f1⟩, p.f1⟩]
  | both : credRole c = p.f0 → c.f2 = 4 → Way c p [⟨c.f4, p.f1⟩, ⟨c.f5, p.f1⟩]
theorem Way.role {c : Cred} {p : Pair} {L : List Pair} (h : Way c p L) : credRole c = p.f0 := by cases h <;> assumption
theorem Way.length {c : Cred} {p : Pair} {L : List Pair} (h : Way c p L) : L.length ≤ 2 := by cases h <;> simp
def KK (cs : List Cred) : Nat → Pair → Prop
  | 0, _ => False
  | n + 1, p => ∃ c ∈ cs, ∃ L, Way c p L ∧ ∀ q ∈ L, KK cs n q
theorem KK.succ {cs : List Cred} : ∀ {n : Nat} {p : Pair}, KK cs n p → KK cs (n + 1) p
  | 0, _, h => h.elim
  | n + 1, p, ⟨c, hc, L, hw, hL⟩ => ⟨c, hc, L, hw, fun q hq => KK.succ (hL q hq)⟩
theorem KK.le {cs : List Cred} {n m : Nat} {p : Pair} (h : KK cs n p) (hm : n ≤ m) : KK cs m p := by
  induction hm with
  | refl => exact h
  | step _ ih => exact ih.succ
theorem Way.said {cs : List Cred} {c : Cred} (hc : c ∈ cs) {p : Pair} {L : List Pair} (h : Way c p L) (hL : ∀ q ∈ L, Said cs q) : Said cs p := by
  have e : ∀ {r : Role}, r = p.f0 → Said cs ⟨r, p.f1⟩ → Said cs p := fun {r} e h => by subst e; exact h
  cases h with
  | member hr k hw => exact e hr (hw ▸ Said.member hc k)
  | incl hr k => exact e hr (Said.incl hc k (hL _ (List.mem_cons_self ..)))
  | link d hr k h1 h2 => exact e hr (Said.link hc k (hL _ (List.mem_cons_self ..)) (numName_dom h1 h2) (hL _ (List.mem_cons_of_mem _ (List.mem_cons_self ..))))
  | both hr k => exact e hr (Said.both hc k (hL _ (List.mem_cons_self ..)) (hL _ (List.mem_cons_of_mem _ (List.mem_cons_self ..))))
theorem KK.said {cs : List Cred} : ∀ {n : Nat} {p : Pair}, KK cs n p → Said cs p
  | 0, _, h => h.elim
  | n + 1, p, ⟨c, hc, L, hw, hL⟩ => hw.said hc fun q hq => KK.said (hL q hq)
theorem KK.fix {cs : List Cred} {n : Nat} (h : ∀ p, KK cs (n + 1) p → KK cs n p) {p : Pair} (hp : Said cs p) : KK cs n p := by
  induction hp with
  | @member c hc k => exact h _ ⟨c, hc, _, .member rfl k rfl, fun q hq => by cases hq⟩
  | @incl c u hc k _ ih => exact h _ ⟨c, hc, _, .incl rfl k, fun q hq => by rw [List.mem_singleton] at hq; rw [hq]; exact ih⟩
  | @link c u v hc k _ hn _ ih1 ih2 =>
    rcases Qcq u with ⟨d, h1, h2, h3, _⟩ | ⟨_, h2⟩
    · subst h3
      refine h _ ⟨c, hc, _, .link d rfl k h1 h2, fun q hq => ?_⟩
      rcases List.mem_cons.mp hq with rfl | hq
      · exact ih1
      · rw [List.mem_singleton] at hq
        rw [hq]; exact ih2
    · omega
  | @both c u hc k _ _ ih1 ih2 =>
    refine h _ ⟨c, hc, _, .both rfl k, fun q hq => ?_⟩
    rcases List.mem_cons.mp hq with rfl | hq
    · exact ih1
    · rw [List.mem_singleton] at hq
      rw [hq]; exact ih2
def inB (T : List (Pair × Int)) (n : Int) (p : Pair) : Prop := 0 < rnd T p ∧ rnd T p < n
theorem below_is {T : List (Pair × Int)} {p : Pair} {n : Int} (hp : okPair p) : ∃ b, belowF T p n = some b ∧ (b = true ↔ inB T n p) := by
  refine ⟨_, if_pos hp, ?_⟩; rw [Bool.and_eq_true, decide_eq_true_eq, decide_eq_true_eq]; exact Iff.rfl
theorem ok_small {r : Role} {w : ByteArray} (hr : smallR r) (hw : w.size ≤ maxLen) : okPair ⟨r, w⟩ := ⟨Qb7 hr.1, Qb7 hr.2, hw⟩
def TryOk (T : List (Pair × Int)) (c : Cred) (p : Pair) (n : Int) : Prop := ∃ r, finTry T c p n = some r ∧ (r.2 = true → Way c p r.1 ∧ ∀ q ∈ r.1, inB T n q) ∧ (∀ L, Way c p L → (∀ q ∈ L, inB T n q) → r.2 = true)
theorem link_is {T : List (Pair × Int)} {c : Cred} {p : Pair} {n : Int} (hr : credRole c = p.f0) (k : c.f2 = 3) (h1 : small c.f4.f1) (h2 : small c.f5.f1) (hw : p.f1.size ≤ maxLen) : ∀ (m : Nat) (d : Int), 1 ≤ d → d + m = 17 →
    ∃ r, finLinkL T (linkFirst c) c p n m d = some r ∧ (r.2 = true → Way c p r.1 ∧ ∀ q ∈ r.1, inB T n q) ∧ (∀ e : Int, d ≤ e → e ≤ 16 → inB T n ⟨linkFirst c, domName e⟩ → inB T n ⟨⟨domName e, c.f5.f1⟩, p.f1⟩ → r.2 = true)
  | 0, d, hd, hm => ⟨_, rfl, (fun h => by cases h), fun e h1 h2 => by omega⟩
  | m + 1, d, hd, hm => by
    obtain ⟨x, hx, hxi⟩ := below_is (T := T) (n := n) (ok_small (r := linkFirst c) (w := domName d) ⟨Qcg _, h1⟩ (Qb7 (Qcg d))); obtain ⟨y, hy, hyi⟩ := below_is (T := T) (n := n) (ok_small (r := ⟨domName d, c.f5.f1⟩) (w := p.f1) ⟨Qcg _, h2⟩ hw); obtain ⟨r, h3, h4, h5⟩ := link_is (T := T) (n := n) hr k h1 h2 hw m (d + 1) (by omega) (by omega); rw [finLinkL, hx, Option.bind_some]
    by_cases ex : x = true
    · rw [if_pos ex, hy, Option.bind_some]
      by_cases ey : y = true
      · rw [if_pos ey]
        refine ⟨_, rfl, fun _ => ⟨.link d hr k hd (by omega), fun q hq => ?_⟩, fun _ _ _ _ _ => rfl⟩
        rcases List.mem_cons.mp hq with rfl | hq
        · exact hxi.mp ex
        · rw [List.mem_singleton] at hq
          rw [hq]; exact hyi.mp ey
      · rw [if_neg ey]
        refine ⟨r, h3, h4, fun e he1 he2 ha hb => ?_⟩
        by_cases ed : e = d
        · subst ed
          exact absurd (hyi.mpr hb) ey
        · exact h5 e (by omega) he2 ha hb
    · rw [if_neg ex, Option.bind_some, if_neg (by decide)]
      refine ⟨r, h3, h4, fun e he1 he2 ha hb => ?_⟩
      by_cases ed : e = d
      · subst ed
        exact absurd (hxi.mpr ha) ex
      · exact h5 e (by omega) he2 ha hb
theorem try_is {T : List (Pair × Int)} {c : Cred} (hm : credMay c = true) {p : Pair} {n : Int} (hr : credRole c = p.f0) (hw : p.f1.size ≤ maxLen) : TryOk T c p n := by
  obtain ⟨_, _, hk⟩ := QbQ hm; unfold TryOk finTry
  rcases hk with ⟨k, _⟩ | ⟨k, h⟩ | ⟨k, h1, h2⟩ | ⟨k, h1, h2⟩
  · rw [if_neg (by omega), if_neg (by omega), if_neg (by omega)]
    refine ⟨_, rfl, fun h => ⟨.member hr k (of_decide_eq_true h), fun q hq => by cases hq⟩, fun L hL _ => ?_⟩
    cases hL with
    | member _ _ e => exact decide_eq_true e
    | incl _ k' => omega
    | link _ _ k' => omega
    | both _ k' => omega
  · rw [if_pos k]
    obtain ⟨x, hx, hxi⟩ := below_is (T := T) (n := n) (ok_small (r := c.f4) h hw); refine ⟨_, by unfold finInclude; rw [hx]; rfl, fun e => ⟨.incl hr k, fun q hq => ?_⟩, fun L hL hi => ?_⟩
    · rw [List.mem_singleton] at hq
      rw [hq]; exact hxi.mp e
    · cases hL with
      | member _ k' e => omega
      | incl _ k' => exact hxi.mpr (hi _ (List.mem_cons_self ..))
      | link _ _ k' => omega
      | both _ k' => omega
  · rw [if_neg (by omega), if_pos k]
    obtain ⟨r, h3, h4, h5⟩ := link_is (T := T) (n := n) hr k h1 h2 hw 16 1 (by omega) (by omega); refine ⟨r, h3, h4, fun L hL hi => ?_⟩
    cases hL with
    | member _ k' e => omega
    | incl _ k' => omega
    | link d _ k' hd1 hd2 => exact h5 d hd1 hd2 (hi _ (List.mem_cons_self ..)) (hi _ (List.mem_cons_of_mem _ (List.mem_cons_self ..)))
    | both _ k' => omega
  · rw [if_neg (by omega), if_neg (by omega), if_pos k]
    obtain ⟨x, hx, hxi⟩ := below_is (T := T) (n := n) (ok_small (r := c.f4) h1 hw); obtain ⟨y, hy, hyi⟩ := below_is (T := T) (n := n) (ok_small (r := c.f5) h2 hw); unfold finBoth; rw [hx, Option.bind_some]
    by_cases ex : x = true
    · rw [if_pos ex, hy]
      refine ⟨_, rfl, fun e => ⟨.both hr k, fun q hq => ?_⟩, fun L hL hi => ?_⟩
      · rcases List.mem_cons.mp hq with rfl | hq
        · exact hxi.mp ex
        · rw [List.mem_singleton] at hq
          rw [hq]; exact hyi.mp e
      · cases hL with
        | member _ k' e => omega
        | incl _ k' => omega
        | link _ _ k' => omega
        | both _ k' => exact hyi.mpr (hi _ (List.mem_cons_of_mem _ (List.mem_cons_self ..)))
    · rw [if_neg ex]
      refine ⟨_, rfl, (fun e => by cases e), fun L hL hi => ?_⟩
      cases hL with
      | member _ k' e => omega
      | incl _ k' => omega
      | link _ _ k' => omega
      | both _ k' => exact absurd (hxi.mpr (hi _ (List.mem_cons_self ..))) ex
theorem by_is {T : List (Pair × Int)} {p : Pair} {n : Int} (hw : p.f1.size ≤ maxLen) : ∀ (cs : List Cred), Mays cs → ∃ rr, finBy T cs p n = some rr ∧ (∀ c L, rr = some (c, L) → c ∈ cs ∧ Way c p L ∧ ∀ q ∈ L, inB T n q) ∧ (rr = none → ∀ c ∈ cs, ∀ L, Way c p L → ¬ ∀ q ∈ L, inB T n q)
  | [], _ => ⟨none, rfl, (fun c L h => by cases h), fun _ c hc => by cases hc⟩
  | c :: cs, hm => by
    obtain ⟨rr, h1, h2, h3⟩ := by_is (T := T) (n := n) hw cs (fun d hd => hm d (List.mem_cons_of_mem _ hd))
    have h2' : ∀ c' L, rr = some (c', L) → c' ∈ c :: cs ∧ Way c' p L ∧ ∀ q ∈ L, inB T n q := fun c' L e => ⟨List.mem_cons_of_mem _ (h2 c' L e).1, (h2 c' L e).2⟩
    rw [finBy]
    by_cases hr : credRole c = p.f0
    · rw [if_pos hr]
      obtain ⟨r, g1, g2, g3⟩ := try_is (T := T) (n := n) (hm c (List.mem_cons_self ..)) hr hw; rw [g1, Option.bind_some]
      by_cases e : r.2 = true
      · rw [if_pos e]
        refine ⟨_, rfl, fun c' L h => ?_, fun h => by cases h⟩; obtain ⟨rfl, rfl⟩ := Prod.mk.inj (Option.some.inj h); exact ⟨List.mem_cons_self .., g2 e⟩
      · rw [if_neg e]
        refine ⟨rr, h1, h2', fun h c' hc' L hL hi => ?_⟩
        rcases List.mem_cons.mp hc' with rfl | hc'
        · exact e (g3 L hL hi)
        · exact h3 h c' hc' L hL hi
    · rw [if_neg hr]
      refine ⟨rr, h1, h2', fun h c' hc' L hL hi => ?_⟩
      rcases List.mem_cons.mp hc' with rfl | hc'
      · exact hr hL.role
      · exact h3 h c' hc' L hL hi
def chkPart (F : Proof → Bool) (q : Proof) (role : Role) (who : ByteArray) : Bool := decide (q.f0 = role) && (decide (q.f1 = who) && F q)
def chkBy (F : Proof → Bool) (c : Cred) (p : Proof) : Bool :=
  if c.f2 = 1 then decide (c.f3 = p.f1) && decide (p.f3.length = 0)
  else if c.f2 = 3 then decide (p.f3.length = 2) && (decide (numName (pt p 0).f1 ≠ 0) && (chkPart F (pt p 0) (chkFirst c) (pt p 0).f1 && chkPart F (pt p 1) ⟨(pt p 0).f1, c.f5.f1⟩ p.f1))
  else if c.f2 = 4 then decide (p.f3.length = 2) && (chkPart F (pt p 0) c.f4 p.f1 && chkPart F (pt p 1) c.f5 p.f1)
  else decide (p.f3.length = 1) && chkPart F (pt p 0) c.f4 p.f1
def chk (cs : List Cred) : Nat → Proof → Bool
  | 0, _ => false
  | n + 1, p => match cs.find? (fun c => decide (c.f0 = p.f2)) with
    | none => false
    | some c => decide (credRole c = p.f0) && chkBy (chk cs n) c p
theorem pt_mem0 {p : Proof} (h : 0 < p.f3.length) : pt p 0 ∈ p.f3 := by
  have := rdP p.f3 0 h; unfold pt; rw [show ((0 : Nat) : Int) = 0 from rfl] at this; rw [this]; exact List.getElem_mem h
theorem pt_mem1 {p : Proof} (h : 1 < p.f3.length) : pt p 1 ∈ p.f3 := by
  have := rdP p.f3 1 h; unfold pt; rw [show ((1 : Nat) : Int) = 1 from rfl] at this; rw [this]; exact List.getElem_mem h
theorem bindAnd (x y : Bool) (z : Option Bool) (h : z = some y) : ((some x).bind fun b => if b = true then z else some false) = some (x && y) := by
  rw [Option.bind_some, h]
  cases x <;> rfl
def Apart (cs : List Cred) : Prop := cs.Pairwise fun a b => a.f0 ≠ b.f0
theorem chkPart_sub {F G : Proof → Bool} {q : Proof} {role : Role} {who : ByteArray} (h : chkPart F q role who = true) (hFG : F q = true → G q = true) : F q = true ∧ chkPart G q role who = true := by
  unfold chkPart at *; rw [Bool.and_eq_true, Bool.and_eq_true] at h; exact ⟨h.2.2, by rw [h.1, h.2.1, hFG h.2.2]; rfl⟩
theorem parts_one {p : Proof} (h : p.f3.length = 1) : ∀ q ∈ p.f3, q = pt p 0 := by
  intro q hq; obtain ⟨i, hi, rfl⟩ := List.getElem_of_mem hq; have := rdP p.f3 0 (by omega); unfold pt; rw [show ((0 : Nat) : Int) = 0 from rfl] at this; rw [this]
  congr
  omega
theorem parts_two {p : Proof} (h : p.f3.length = 2) : ∀ q ∈ p.f3, q = pt p 0 ∨ q = pt p 1 := by
  intro q hq; obtain ⟨i, hi, rfl⟩ := List.getElem_of_mem hq; have h0 := rdP p.f3 0 (by omega); have h1 := rdP p.f3 1 (by omega); rw [show ((0 : Nat) : Int) = 0 from rfl] at h0; rw [show ((1 : Nat) : Int) = 1 from rfl] at h1; unfold pt; rw [h0, h1]
  by_cases e : i = 0
  · subst e; exact .inl rfl
  · obtain rfl : i = 1 := by omega
    exact .inr rfl
theorem chkBy_sub {F G : Proof → Bool} {c : Cred} {p : Proof} (h : chkBy F c p = true) (hFG : ∀ q ∈ p.f3, F q = true → G q = true) : (∀ q ∈ p.f3, F q = true) ∧ chkBy G c p = true := by
  unfold chkBy at *
  by_cases k1 : c.f2 = 1
  · rw [if_pos k1] at h ⊢
    refine ⟨fun q hq => ?_, h⟩; rw [Bool.and_eq_true, decide_eq_true_eq, decide_eq_true_eq] at h; rw [List.eq_nil_of_length_eq_zero h.2] at hq; cases hq
  · rw [if_neg k1] at h ⊢
    by_cases k3 : c.f2 = 3
    · rw [if_pos k3] at h ⊢
      rw [Bool.and_eq_true, Bool.and_eq_true, Bool.and_eq_true, decide_eq_true_eq] at h; obtain ⟨hl, hn, ha, hb⟩ := h; have ha' := chkPart_sub ha (hFG _ (pt_mem0 (by omega))); have hb' := chkPart_sub hb (hFG _ (pt_mem1 (by omega))); refine ⟨fun q hq => ?_, by rw [decide_eq_true hl, hn, ha'.2, hb'.2]; rfl⟩
      rcases parts_two hl q hq with rfl | rfl
      · exact ha'.1
      · exact hb'.1
    · rw [if_neg k3] at h ⊢
      by_cases k4 : c.f2 = 4
      · rw [if_pos k4] at h ⊢
        rw [Bool.and_eq_true, Bool.and_eq_true, decide_eq_true_eq] at h; obtain ⟨hl, ha, hb⟩ := h; have ha' := chkPart_sub ha (hFG _ (pt_mem0 (by omega))); have hb' := chkPart_sub hb (hFG _ (pt_mem1 (by omega))); refine ⟨fun q hq => ?_, by rw [decide_eq_true hl, ha'.2, hb'.2]; rfl⟩
        rcases parts_two hl q hq with rfl | rfl
        · exact ha'.1
        · exact hb'.1
      · rw [if_neg k4] at h ⊢
        rw [Bool.and_eq_true, decide_eq_true_eq] at h; obtain ⟨hl, ha⟩ := h; have ha' := chkPart_sub ha (hFG _ (pt_mem0 (by omega))); refine ⟨fun q hq => ?_, by rw [decide_eq_true hl, ha'.2]; rfl⟩; rw [parts_one hl q hq]; exact ha'.1
theorem chk_some {cs : List Cred} {n : Nat} {p : Proof} (h : chk cs (n + 1) p = true) : ∃ c, cs.find? (fun c => decide (c.f0 = p.f2)) = some c ∧ credRole c = p.f0 ∧ chkBy (chk cs n) c p = true := by
  rw [chk] at h
  cases hf : cs.find? fun c => decide (c.f0 = p.f2) with
  | none => rw [hf] at h; cases h
  | some c =>
    rw [hf] at h; rw [Bool.and_eq_true, decide_eq_true_eq] at h; exact ⟨c, rfl, h.1, h.2⟩
theorem chk_mk {cs : List Cred} {n : Nat} {p : Proof} {c : Cred} (hf : cs.find? (fun c => decide (c.f0 = p.f2)) = some c) (hr : credRole c = p.f0) (hb : chkBy (chk cs n) c p = true) : chk cs (n + 1) p = true := by
  rw [chk, hf]
  show (decide (credRole c = p.f0) && _) = true
  rw [decide_eq_true hr, hb]; rfl
theorem rnd_none {T : List (Pair × Int)} {p : Pair} (h : p ∉ T.map (·.1)) : rnd T p = 0 := by
  unfold rnd; rw [List.find?_eq_none.mpr (fun y hy e => h (by rw [← of_decide_eq_true e]; exact List.mem_map_of_mem hy))]; rfl
theorem rnd_mem {T : List (Pair × Int)} {p : Pair} (h : p ∈ T.map (·.1)) : ∃ m, (p, m) ∈ T ∧ rnd T p = m := by
  unfold rnd
  cases e : T.find? fun y => decide (y.1 = p) with
  | none =>
    obtain ⟨y, hy, rfl⟩ := List.mem_map.mp h; exact absurd (List.find?_eq_none.mp e y hy) (by simp)
  | some y =>
    have h1 := List.mem_of_find?_eq_some e; have h2 := List.find?_some e; have h2 : y.1 = p := of_decide_eq_true h2; subst h2; exact ⟨y.2, h1, rfl⟩
theorem rnd_append (T : List (Pair × Int)) (fr : List Pair) (n : Int) (p : Pair) : rnd (T ++ fr.map fun q => (q, n)) p = if p ∈ T.map (·.1) then rnd T p else if p ∈ fr then n else 0 := by
  by_cases h : p ∈ T.map (·.1)
  · rw [if_pos h]
    unfold rnd; rw [List.find?_append]
    cases e : T.find? fun y => decide (y.1 = p) with
    | none =>
      obtain ⟨y, hy, rfl⟩ := List.mem_map.mp h; exact absurd (List.find?_eq_none.mp e y hy) (by simp)
    | some y => rfl
  · rw [if_neg h]
    by_cases hf : p ∈ fr
    · rw [if_pos hf]
      have hm : p ∈ (T ++ fr.map fun q => (q, n)).map (·.1) := by
        rw [List.map_append]; exact List.mem_append_right _ (by rw [List.map_map]; exact List.mem_map.mpr ⟨p, hf, rfl⟩)
      obtain ⟨m, h1, h2⟩ := rnd_mem hm; rw [h2]
      rcases List.mem_append.mp h1 with h1 | h1
      · exact absurd (List.mem_map.mpr ⟨_, h1, rfl⟩) h
      · obtain ⟨q, _, e⟩ := List.mem_map.mp h1
        exact (Prod.mk.inj e).2.symm
    · rw [if_neg hf]
      refine rnd_none fun hm => ?_
      rw [List.map_append, List.map_map] at hm
      rcases List.mem_append.mp hm with hm | hm
      · exact h hm
      · obtain ⟨q, hq, rfl⟩ := List.mem_map.mp hm
        exact hf hq
theorem rput_new {T : List (Pair × Int)} {p : Pair} {n : Int} (h : p ∉ T.map (·.1)) : rput T p n = T ++ [(p, n)] := by
  unfold rput; rw [if_neg]; intro e; obtain ⟨y, hy, e⟩ := List.any_eq_true.mp e; exact h (by rw [← of_decide_eq_true e]; exact List.mem_map_of_mem hy)
theorem rputs_new (n : Int) : ∀ (fr : List Pair) (T : List (Pair × Int)), fr.Nodup → (∀ p ∈ fr, p ∉ T.map (·.1)) → rputs T fr n = T ++ fr.map fun q => (q, n)
  | [], T, _, _ => by simp [rputs]
  | p :: fr, T, hn, h => by
    have hn' := List.nodup_cons.mp hn
    show rputs (rput T p n) fr n = _
    rw [rput_new (h p (List.mem_cons_self ..)), rputs_new n fr _ hn'.2 (fun q hq hm => ?_)]
    · simp
    · rw [List.map_append] at hm
      rcases List.mem_append.mp hm with hm | hm
      · exact h q (List.mem_cons_of_mem _ hq) hm
      · simp only [List.map_cons, List.map_nil, List.mem_singleton] at hm
        rw [hm] at hq; exact hn'.1 hq
theorem fresh_is {T : List (Pair × Int)} {cs : List Cred} {n : Int} {H : Pair → Prop} : ∀ (ps out : List Pair), (∀ p ∈ ps, okPair p ∧ ∃ rr, finBy T cs p n = some rr ∧ (rr.isSome = true ↔ H p)) →
    ∃ fr, finFresh T cs n ps out = some (out ++ fr) ∧ fr.Sublist ps ∧ ∀ p, p ∈ fr ↔ p ∈ ps ∧ ¬ 0 < rnd T p ∧ H p
  | [], out, _ => ⟨[], by rw [finFresh, List.append_nil], .slnil, fun p => by simp⟩
  | p :: ps, out, h => by
    obtain ⟨hok, rr, hb, hi⟩ := h p (List.mem_cons_self ..)
    have h' := fun q hq => h q (List.mem_cons_of_mem _ hq)
    rw [finFresh, if_pos hok]
    by_cases hk : 0 < rnd T p
    · rw [if_pos hk]
      obtain ⟨fr, h1, h2, h3⟩ := fresh_is ps out h'; refine ⟨fr, h1, h2.cons _, fun q => ?_⟩; rw [h3, List.mem_cons]; constructor
      · rintro ⟨a, b⟩
        exact ⟨.inr a, b⟩
      · rintro ⟨rfl | a, b⟩
        · exact absurd hk b.1
        · exact ⟨a, b⟩
    · rw [if_neg hk, hb, Option.bind_some]
      by_cases hs : rr.isSome = true
      · rw [if_pos hs]
        obtain ⟨fr, h1, h2, h3⟩ := fresh_is ps (out ++ [p]) h'; refine ⟨p :: fr, by rw [h1, List.append_assoc]; rfl, h2.cons_cons _, fun q => ?_⟩; rw [List.mem_cons, h3, List.mem_cons]; constructor
        · rintro (rfl | ⟨a, b⟩)
          · exact ⟨.inl rfl, hk, hi.mp hs⟩
          · exact ⟨.inr a, b⟩
        · rintro ⟨rfl | a, b⟩
          · exact .inl rfl
          · exact .inr ⟨a, b⟩
      · rw [if_neg hs]
        obtain ⟨fr, h1, h2, h3⟩ := fresh_is ps out h'; refine ⟨fr, h1, h2.cons _, fun q => ?_⟩; rw [h3, List.mem_cons]; constructor
        · rintro ⟨a, b⟩
          exact ⟨.inr a, b⟩
        · rintro ⟨rfl | a, b⟩
          · exact absurd (hi.mpr b.2) hs
          · exact ⟨a, b⟩
structure RInv (cs : List Cred) (ps : List Pair) (T : List (Pair × Int)) (n : Nat) : Prop where
  nodup : (T.map (·.1)).Nodup
  sub : ∀ p ∈ T.map (·.1), p ∈ ps
  pos : ∀ p ∈ T.map (·.1), 0 < rnd T p
  le : ∀ p, rnd T p ≤ n
  nn : ∀ p, 0 ≤ rnd T p
  kk : ∀ j : Nat, j ≤ n → ∀ p, inB T (j + 1) p ↔ KK cs j p
theorem rinv_start (cs : List Cred) (ps : List Pair) : RInv cs ps [] 0 := by
  refine ⟨List.nodup_nil, (fun p hp => by cases hp), (fun p hp => by cases hp), fun p => Int.le_refl _, fun p => Int.le_refl _, fun j hj p => ?_⟩
  have : j = 0 := by omega
  subst this; constructor
  · rintro ⟨h, _⟩
    exact absurd h (by show ¬ (0 : Int) < 0; omega)
  · exact fun h => h.elim
theorem by_kk {cs : List Cred} (hm : Mays cs) {T : List (Pair × Int)} {n : Nat} (hT : ∀ q, inB T (n + 1) q ↔ KK cs n q) {p : Pair} (hw : p.f1.size ≤ maxLen) : ∃ rr, finBy T cs p ((n : Int) + 1) = some rr ∧ (rr.isSome = true ↔ KK cs (n + 1) p) := by
  obtain ⟨rr, h1, h2, h3⟩ := by_is (T := T) (n := (n : Int) + 1) hw cs hm; refine ⟨rr, h1, ?_⟩
  cases rr with
  | none =>
    refine ⟨(fun h => by cases h), fun ⟨c, hc, L, hL, hq⟩ => absurd (fun q hq' => (hT q).mpr (hq q hq')) (h3 rfl c hc L hL)⟩
  | some x =>
    obtain ⟨a, b, d⟩ := h2 x.1 x.2 rfl; exact ⟨fun _ => ⟨x.1, a, x.2, b, fun q hq => (hT q).mp (d q hq)⟩, fun _ => rfl⟩
theorem rinv_step {cs : List Cred} (hm : Mays cs) {ps : List Pair} (hn : ps.Nodup) (hps : ∀ p, p ∈ ps ↔ Said cs p) {T : List (Pair × Int)} {n : Nat} (h : RInv cs ps T n) :
    ∃ fr, finFresh T cs ((n : Int) + 1) ps [] = some fr ∧ RInv cs ps (rputs T fr ((n : Int) + 1)) (n + 1) ∧ (rputs T fr ((n : Int) + 1)).length = T.length + fr.length ∧ (T.length < ps.length → 0 < fr.length) := by
  obtain ⟨fr, h1, h2, h3⟩ := fresh_is (T := T) (cs := cs) (n := (n : Int) + 1) (H := fun p => KK cs (n + 1) p) ps [] (fun p hp => by
    have ho := ((hps p).mp hp).okPair hm
    exact ⟨ho, by_kk hm (h.kk n (Nat.le_refl _)) ho.2.2⟩)
  rw [List.nil_append] at h1
  have hno : ∀ p ∈ fr, p ∉ T.map (·.1) := fun p hp hm => ((h3 p).mp hp).2.1 (h.pos p hm)
  have hfn : fr.Nodup := hn.sublist h2; have e := rputs_new ((n : Int) + 1) fr T hfn hno
  have hr : ∀ p, rnd (rputs T fr ((n : Int) + 1)) p = if p ∈ T.map (·.1) then rnd T p else if p ∈ fr then (n : Int) + 1 else 0 := fun p => by rw [e, rnd_append]
  have hz : ∀ p, p ∉ T.map (·.1) → rnd T p = 0 := fun p hp => rnd_none hp
  have hkeys : (rputs T fr ((n : Int) + 1)).map (·.1) = T.map (·.1) ++ fr := by
    rw [e, List.map_append, List.map_map]
    congr 1
    exact List.map_id' fr
  refine ⟨fr, h1, ⟨?_, ?_, ?_, ?_, ?_, ?_⟩, by rw [e]; simp, fun hlt => ?_⟩
  · rw [hkeys, List.nodup_append]
    exact ⟨h.nodup, hfn, fun a ha b hb e => hno b hb (e ▸ ha)⟩
  · intro p hp
    rw [hkeys] at hp
    rcases List.mem_append.mp hp with hp | hp
    · exact h.sub p hp
    · exact ((h3 p).mp hp).1
  · intro p hp
    rw [hkeys] at hp; rw [hr]
    by_cases a : p ∈ T.map (·.1)
    · rw [if_pos a]
      exact h.pos p a
    · rw [if_neg a]
      rcases List.mem_append.mp hp with hp | hp
      · exact absurd hp a
      · rw [if_pos hp]
        omega
  · intro p
    rw [hr]; have := h.le p
    split
    · omega
    · split <;> omega
  · intro p
    rw [hr]; have := h.nn p
    split
    · omega
    · split <;> omega
  · intro j hj p
    by_cases a : p ∈ T.map (·.1)
    · have hp := h.pos p a
      have hl := h.le p
      have e1 : rnd (rputs T fr ((n : Int) + 1)) p = rnd T p := by rw [hr, if_pos a]
      by_cases hjn : j ≤ n
      · rw [← h.kk j hjn]
        unfold inB; rw [e1]
      · have : j = n + 1 := by omega
        subst this; unfold inB; rw [e1]; refine ⟨fun _ => ((h.kk n (Nat.le_refl _) p).mp ⟨hp, by omega⟩).succ, fun _ => ⟨hp, by omega⟩⟩
    · have hk : ∀ j, j ≤ n → ¬ KK cs j p := fun j hj hk => by
        have := (h.kk j hj p).mpr hk; rw [inB, hz p a] at this; omega
      by_cases hf : p ∈ fr
      · have e1 : rnd (rputs T fr ((n : Int) + 1)) p = (n : Int) + 1 := by rw [hr, if_neg a, if_pos hf]
        unfold inB; rw [e1]; refine ⟨fun hh => ?_, fun hh => ?_⟩
        · have : j = n + 1 := by omega
          subst this; exact ((h3 p).mp hf).2.2
        · by_cases hjn : j ≤ n
          · exact absurd hh (hk j hjn)
          · omega
      · have e1 : rnd (rputs T fr ((n : Int) + 1)) p = 0 := by rw [hr, if_neg a, if_neg hf]
        unfold inB; rw [e1]; refine ⟨fun hh => by omega, fun hh => ?_⟩
        by_cases hjn : j ≤ n
        · exact absurd hh (hk j hjn)
        · have : j = n + 1 := by omega
          subst this; exact absurd ((h3 p).mpr ⟨(hps p).mpr hh.said, by rw [hz p a]; omega, hh⟩) hf
  · by_cases hf : 0 < fr.length
    · exact hf
    · exfalso
      have hf0 : fr = [] := List.length_eq_zero_iff.mp (by omega)
      have hfix : ∀ p, KK cs (n + 1) p → KK cs n p := fun p hp => by
        by_cases a : 0 < rnd T p
        · exact (h.kk n (Nat.le_refl _) p).mp ⟨a, by have := h.le p; omega⟩
        · have := (h3 p).mpr ⟨(hps p).mpr hp.said, a, hp⟩
          rw [hf0] at this; cases this
      have hall : ∀ p ∈ ps, p ∈ T.map (·.1) := fun p hp => by
        have := (h.kk n (Nat.le_refl _) p).mpr (KK.fix hfix ((hps p).mp hp))
        by_cases a : p ∈ T.map (·.1)
        · exact a
        · rw [inB, hz p a] at this
          omega
      have := nodup_le hn hall; rw [List.length_map] at this; omega
structure RndOf (cs : List Cred) (T : List (Pair × Int)) : Prop where
  nn : ∀ p, 0 ≤ rnd T p
  le : ∀ p, rnd T p ≤ ((cs.length * cs.length : Nat) : Int)
  kk : ∀ (j : Nat) p, inB T (j + 1) p ↔ KK cs j p
theorem rounds_is {cs : List Cred} (hm : Mays cs) {ps : List Pair} (hn : ps.Nodup) (hps : ∀ p, p ∈ ps ↔ Said cs p) (h400 : ps.length ≤ 400) : ∀ (k : Nat) (T : List (Pair × Int)) (n : Nat), RInv cs ps T n → n ≤ T.length → 402 - T.length ≤ k → ∃ T', finRounds cs ps k T ((n : Int) + 1) = some T' ∧ RndOf cs T'
  | 0, T, n, h, hnT, hk => by
    have := nodup_le h.nodup h.sub; rw [List.length_map] at this; omega
  | k + 1, T, n, h, hnT, hk => by
    have hle := nodup_le h.nodup h.sub; rw [List.length_map] at hle; rw [finRounds]
    by_cases hlt : T.length < ps.length
    · rw [if_pos hlt]
      obtain ⟨fr, h1, h2, h3, h4⟩ := rinv_step hm hn hps h; have h4 := h4 hlt; rw [h1, Option.bind_some]; have := rounds_is hm hn hps h400 k _ (n + 1) h2 (by omega) (by omega); rw [show ((n + 1 : Nat) : Int) + 1 = (n : Int) + 1 + 1 by omega] at this; exact this
    · rw [if_neg hlt]
      have hsq := said_all hn (fun p hp => (hps p).mp hp); refine ⟨T, rfl, h.nn, fun p => by have := h.le p; omega, fun j p => ?_⟩
      by_cases hj : j ≤ n
      · exact h.kk j hj p
      · have hin : ∀ p ∈ ps, p ∈ T.map (·.1) := by
          intro p hp
          by_cases a : p ∈ T.map (·.1)
          · exact a
          · have := nodup_le (List.nodup_cons.mpr ⟨a, h.nodup⟩) (m := ps) (fun q hq => by
              rcases List.mem_cons.mp hq with rfl | hq
              · exact hp
              · exact h.sub q hq)
            rw [List.length_cons, List.length_map] at this; omega
        have hl := h.le p; constructor
        · rintro ⟨a, _⟩
          exact ((h.kk n (Nat.le_refl _) p).mp ⟨a, by omega⟩).le (by omega)
        · intro hk'
          exact ⟨h.pos p (hin p ((hps p).mpr hk'.said)), by omega⟩
theorem RndOf.least {cs : List Cred} {T : List (Pair × Int)} (h : RndOf cs T) {j : Nat} {p : Pair} (hk : KK cs j p) : 0 < rnd T p ∧ rnd T p ≤ j := by
  have := (h.kk j p).mpr hk; unfold inB at this; omega
theorem RndOf.kkOf {cs : List Cred} {T : List (Pair × Int)} (h : RndOf cs T) {j : Nat} {p : Pair} (h0 : 0 < rnd T p) (hj : rnd T p ≤ j) : KK cs j p := (h.kk j p).mp ⟨h0, by omega⟩
theorem RndOf.said {cs : List Cred} {T : List (Pair × Int)} (h : RndOf cs T) {p : Pair} : 0 < rnd T p ↔ Said cs p := by
  constructor
  · intro h0
    exact (h.kkOf (j := (rnd T p).toNat) h0 (by omega)).said
  · intro hs
    have : ∀ q, KK cs (cs.length * cs.length + 1) q → KK cs (cs.length * cs.length) q := fun q hq => by
      have := h.least hq; have := h.le q; exact h.kkOf (by omega) (by omega)
    exact (h.least (KK.fix this hs)).1
def byC (T : List (Pair × Int)) (cs : List Cred) (p : Pair) : Cred := byCred ((finBy T cs p (rnd T p)).getD none)
def byL (T : List (Pair × Int)) (cs : List Cred) (p : Pair) : List Pair := byPairs ((finBy T cs p (rnd T p)).getD none)
structure By (T : List (Pair × Int)) (cs : List Cred) (p : Pair) : Prop where
  ok : okPair p
  fin : finBy T cs p (rnd T p) = some (some (byC T cs p, byL T cs p))
  mem : byC T cs p ∈ cs
  way : Way (byC T cs p) p (byL T cs p)
  less : ∀ q ∈ byL T cs p, inB T (rnd T p) q
theorem by_of {cs : List Cred} (hm : Mays cs) {T : List (Pair × Int)} (h : RndOf cs T) {p : Pair} (h0 : 0 < rnd T p) : By T cs p := by
  have hok := (h.said.mp h0).okPair hm; obtain ⟨rr, h1, h2, h3⟩ := by_is (T := T) (n := rnd T p) hok.2.2 cs hm
  cases rr with
  | none =>
    exfalso
    obtain ⟨m, hm'⟩ : ∃ m : Nat, rnd T p = (m : Int) + 1 := ⟨(rnd T p).toNat - 1, by omega⟩
    obtain ⟨c, hc, L, hw, hL⟩ := h.kkOf (j := m + 1) h0 (by omega)
    refine h3 rfl c hc L hw fun q hq => ?_
    rw [hm']; exact (h.kk m q).mpr (hL q hq)
  | some x =>
    obtain ⟨a, b, d⟩ := h2 x.1 x.2 rfl
    have e1 : byC T cs p = x.1 := by unfold byC; rw [h1]; rfl
    have e2 : byL T cs p = x.2 := by unfold byL; rw [h1]; rfl
    exact ⟨hok, by rw [e1, e2]; exact h1, by rw [e1]; exact a, by rw [e1, e2]; exact b, by rw [e2]; exact d⟩
def pf (T : List (Pair × Int)) (cs : List Cred) : Nat → Pair → Proof
  | 0, p => ⟨p.f0, p.f1, (byC T cs p).f0, []⟩
  | k + 1, p => ⟨p.f0, p.f1, (byC T cs p).f0, (byL T cs p).map (pf T cs k)⟩
theorem pf_f0 (T : List (Pair × Int)) (cs : List Cred) (k : Nat) (p : Pair) : (pf T cs k p).f0 = p.f0 := by cases k <;> rfl
theorem pf_f1 (T : List (Pair × Int)) (cs : List Cred) (k : Nat) (p : Pair) : (pf T cs k p).f1 = p.f1 := by cases k <;> rfl
theorem pf_f2 (T : List (Pair × Int)) (cs : List Cred) (k : Nat) (p : Pair) : (pf T cs k p).f2 = (byC T cs p).f0 := by cases k <;> rfl
theorem finProofs_map {F : Pair → Option Proof} {G : Pair → Proof} : ∀ (qs : List Pair) (out : List Proof), (∀ q ∈ qs, F q = some (G q)) → finProofs F qs out = some (out ++ qs.map G)
  | [], out, _ => by rw [finProofs, List.map_nil, List.append_nil]
  | q :: qs, out, h => by
    rw [finProofs, h q (List.mem_cons_self ..), Option.bind_some, finProofs_map qs _ (fun r hr => h r (List.mem_cons_of_mem _ hr)), List.append_assoc]; rfl
theorem finProof_is {cs : List Cred} (hm : Mays cs) {T : List (Pair × Int)} (h : RndOf cs T) : ∀ (k : Nat) (p : Pair), 0 < rnd T p → rnd T p ≤ k → finProof T cs k p = some (pf T cs k p)
  | 0, p, h0, h1 => by omega
  | k + 1, p, h0, h1 => by
    have b := by_of hm h h0; have hL : (byL T cs p).length ≤ 2 := b.way.length; rw [finProof, if_pos b.ok, b.fin, Option.bind_some]
    show (if (byL T cs p).length ≤ 2 then (finProofs (finProof T cs k) (byL T cs p) []).map fun ps => (⟨p.f0, p.f1, (byC T cs p).f0, ps⟩ : Proof) else none) = _
    rw [if_pos hL, finProofs_map (G := pf T cs k) _ _ (fun q hq => finProof_is hm h k q (b.less q hq).1 (by have := (b.less q hq).2; omega))]; rfl
theorem depL_le_of {n : Nat} : ∀ (L : List Proof), (∀ q ∈ L, dep q + 1 ≤ n) → depL L ≤ n
  | [], _ => by rw [depL_nil]; omega
  | q :: L, h => by
    rw [depL_cons]; exact Nat.max_le.mpr ⟨h q (List.mem_cons_self ..), depL_le_of L fun r hr => h r (List.mem_cons_of_mem _ hr)⟩
theorem pf_dep {cs : List Cred} (hm : Mays cs) {T : List (Pair × Int)} (h : RndOf cs T) : ∀ (k : Nat) (p : Pair), 0 < rnd T p → rnd T p ≤ k → (dep (pf T cs k p) : Int) = rnd T p - 1
  | 0, p, h0, h1 => by omega
  | k + 1, p, h0, h1 => by
    have b := by_of hm h h0
    have ih := fun q (hq : q ∈ byL T cs p) => pf_dep hm h k q (b.less q hq).1 (by have := (b.less q hq).2; omega)
    obtain ⟨m, hm'⟩ : ∃ m : Nat, rnd T p = (m : Int) + 1 := ⟨(rnd T p).toNat - 1, by omega⟩
    rw [dep_eq]
    show ((depL ((byL T cs p).map (pf T cs k)) : Nat) : Int) = _
    have hle : depL ((byL T cs p).map (pf T cs k)) ≤ m := depL_le_of _ fun q hq => by
      obtain ⟨r, hr, rfl⟩ := List.mem_map.mp hq; have := ih r hr; have := (b.less r hr).2; omega
    by_cases hlt : depL ((byL T cs p).map (pf T cs k)) < m
    · exfalso
      have hk : KK cs (m - 1 + 1) p := ⟨_, b.mem, _, b.way, fun q hq => by
        have := ih q hq; have := dep_memL (List.mem_map_of_mem (f := pf T cs k) hq)
        exact h.kkOf (b.less q hq).1 (by omega)⟩
      have := h.least hk; omega
    · omega
theorem chk_part {F : Proof → Bool} {q : Proof} (h : F q = true) : chkPart F q q.f0 q.f1 = true := by
  unfold chkPart; rw [decide_eq_true rfl, decide_eq_true rfl, h]; rfl
theorem chkBy_way {F : Proof → Bool} {c : Cred} {p : Pair} {L : List Pair} (hw : Way c p L) {G : Pair → Proof} (g0 : ∀ q, (G q).f0 = q.f0) (g1 : ∀ q, (G q).f1 = q.f1) (hF : ∀ q ∈ L, F (G q) = true) (i : ID) : chkBy F c ⟨p.f0, p.f1, i, L.map G⟩ = true := by
  have part : ∀ q ∈ L, chkPart F (G q) q.f0 q.f1 = true := fun q hq => by
    have := chk_part (hF q hq); rw [g0, g1] at this; exact this
  unfold chkBy
  cases hw with
  | member hr k hw => rw [if_pos k, decide_eq_true hw]; rfl
  | incl hr k =>
    have h0 := part _ (List.mem_cons_self ..); rw [if_neg (by omega), if_neg (by omega), if_neg (by omega)]; exact h0
  | link d hr k h1 h2 =>
    have h0 := part _ (List.mem_cons_self ..); have h1' := part _ (List.mem_cons_of_mem _ (List.mem_cons_self ..)); have hn := numName_dom h1 h2; have e := g1 ⟨linkFirst c, domName d⟩; rw [if_neg (by omega), if_pos k]
    show (decide (2 = 2) && (decide (numName (G ⟨linkFirst c, domName d⟩).f1 ≠ 0) && (chkPart F (G ⟨linkFirst c, domName d⟩) (chkFirst c) (G ⟨linkFirst c, domName d⟩).f1 && chkPart F (G ⟨⟨domName d, c.f5.f1⟩, p.f1⟩) ⟨(G ⟨linkFirst c, domName d⟩).f1, c.f5.f1⟩ p.f1))) = true
    rw [e]
    show (decide (2 = 2) && (decide (numName (domName d) ≠ 0) && (chkPart F (G ⟨linkFirst c, domName d⟩) (chkFirst c) (domName d) && chkPart F (G ⟨⟨domName d, c.f5.f1⟩, p.f1⟩) ⟨domName d, c.f5.f1⟩ p.f1))) = true
    rw [decide_eq_true (show numName (domName d) ≠ 0 by omega), show chkPart F (G ⟨linkFirst c, domName d⟩) (chkFirst c) (domName d) = true from h0, show chkPart F (G ⟨⟨domName d, c.f5.f1⟩, p.f1⟩) ⟨domName d, c.f5.f1⟩ p.f1 = true from h1']; rfl
  | both hr k =>
    have h0 := part _ (List.mem_cons_self ..); have h1 := part _ (List.mem_cons_of_mem _ (List.mem_cons_self ..)); rw [if_neg (by omega), if_neg (by omega), if_pos k]
    show (decide (2 = 2) && (chkPart F (G ⟨c.f4, p.f1⟩) c.f4 p.f1 && chkPart F (G ⟨c.f5, p.f1⟩) c.f5 p.f1)) = true
    rw [show chkPart F (G ⟨c.f4, p.f1⟩) c.f4 p.f1 = true from h0, show chkPart F (G ⟨c.f5, p.f1⟩) c.f5 p.f1 = true from h1]; rfl
theorem findApart {cs : List Cred} (h : Apart cs) {c : Cred} (hc : c ∈ cs) : cs.find? (fun d => decide (d.f0 = c.f0)) = some c := by
  induction cs with
  | nil => cases hc
  | cons d cs ih =>
    have h' := List.pairwise_cons.mp h; rw [List.find?_cons]
    rcases List.mem_cons.mp hc with rfl | hc
    · rw [decide_eq_true rfl]
    · rw [decide_eq_false (h'.1 c hc)]
      exact ih h'.2 hc
theorem pf_chk {cs : List Cred} (hm : Mays cs) (ha : Apart cs) {T : List (Pair × Int)} (h : RndOf cs T) : ∀ (k : Nat) (p : Pair), 0 < rnd T p → rnd T p ≤ k → chk cs k (pf T cs k p) = true
  | 0, p, h0, h1 => by omega
  | k + 1, p, h0, h1 => by
    have b := by_of hm h h0; refine chk_mk (c := byC T cs p) (findApart ha b.mem) b.way.role ?_; exact chkBy_way b.way (pf_f0 T cs k) (pf_f1 T cs k) (fun q hq => pf_chk hm ha h k q (b.less q hq).1 (by have := (b.less q hq).2; omega)) _
theorem chkPartOf {F : Proof → Bool} {q : Proof} {role : Role} {who : ByteArray} (h : chkPart F q role who = true) : q.f0 = role ∧ q.f1 = who ∧ F q = true := by
  unfold chkPart at h; rw [Bool.and_eq_true, Bool.and_eq_true, decide_eq_true_eq, decide_eq_true_eq] at h; exact h
theorem chk_kk {cs : List Cred} (hk : ∀ c ∈ cs, c.f2 = 1 ∨ c.f2 = 2 ∨ c.f2 = 3 ∨ c.f2 = 4) : ∀ (n : Nat) (p : Proof), chk cs n p = true → KK cs (dep p + 1) ⟨p.f0, p.f1⟩
  | 0, p, h => by rw [chk] at h; cases h
  | n + 1, p, h => by
    obtain ⟨c, hf, hr, hb⟩ := chk_some h; have hc := List.mem_of_find?_eq_some hf; have hkc := hk c hc
    have part : ∀ {q : Proof} {role : Role} {who : ByteArray}, q ∈ p.f3 → chkPart (chk cs n) q role who = true → KK cs (dep p) ⟨role, who⟩ := fun {q role who} hq h => by
      obtain ⟨e0, e1, hk'⟩ := chkPartOf h; have := (chk_kk hk n q hk').le (dep_mem hq); rw [e0, e1] at this; exact this
    unfold chkBy at hb
    by_cases k1 : c.f2 = 1
    · rw [if_pos k1, Bool.and_eq_true, decide_eq_true_eq] at hb
      exact ⟨c, hc, _, .member hr k1 hb.1, fun q hq => by cases hq⟩
    · rw [if_neg k1] at hb
      by_cases k3 : c.f2 = 3
      · rw [if_pos k3, Bool.and_eq_true, Bool.and_eq_true, Bool.and_eq_true, decide_eq_true_eq] at hb
        obtain ⟨hl, hn, ha, hb⟩ := hb; have hn := of_decide_eq_true hn
        rcases Qcq (pt p 0).f1 with ⟨d, h1, h2, h3, _⟩ | ⟨_, h2⟩
        · have ha := part (pt_mem0 (by omega)) ha
          have hb := part (pt_mem1 (by omega)) hb; rw [← h3] at ha hb; refine ⟨c, hc, _, .link d hr k3 h1 h2, fun q hq => ?_⟩
          rcases List.mem_cons.mp hq with rfl | hq
          · exact ha
          · rw [List.mem_singleton] at hq
            rw [hq]; exact hb
        · omega
      · rw [if_neg k3] at hb
        by_cases k4 : c.f2 = 4
        · rw [if_pos k4, Bool.and_eq_true, Bool.and_eq_true, decide_eq_true_eq] at hb
          obtain ⟨hl, ha, hb⟩ := hb; have ha := part (pt_mem0 (by omega)) ha; have hb := part (pt_mem1 (by omega)) hb; refine ⟨c, hc, _, .both hr k4, fun q hq => ?_⟩
          rcases List.mem_cons.mp hq with rfl | hq
          · exact ha
          · rw [List.mem_singleton] at hq
            rw [hq]; exact hb
        · rw [if_neg k4, Bool.and_eq_true, decide_eq_true_eq] at hb
          obtain ⟨hl, ha⟩ := hb; have ha := part (pt_mem0 (by omega)) ha; refine ⟨c, hc, _, .incl hr (by omega), fun q hq => ?_⟩; rw [List.mem_singleton] at hq; rw [hq]; exact ha
theorem found_is (l : List Cred) (hl : l.length < 21) (hok : ∀ c ∈ l, okCred c) : ∃ A T, AllOf (counts l) A ∧ RndOf (counts l) T ∧ foundF l = some (counts l, A, T) := by
  have hlen := QbH l; obtain ⟨A, h1, hA⟩ := all_is l hl hok; have hAl := hA.length (by omega); obtain ⟨T, h2, hT⟩ := rounds_is (QbR l) hA.nodup hA.mem hAl 1000 [] 0 (rinv_start _ _) (Nat.le_refl _) (by simp); refine ⟨A, T, hA, hT, ?_⟩; unfold foundF; rw [progCounts_is l hl hok, Option.bind_some, h1, Option.bind_some, if_pos (by omega)]; have h2' : finRounds (counts l) A 1000 [] 1 = some T := h2; rw [h2']; rfl
abbrev RPair := S51
theorem rpair_ext {a b : RPair} (h0 : a.f0 = b.f0) (h1 : a.f1 = b.f1) : a = b := by cases a; cases b; simp_all
instance rpairDec : DecidableEq RPair := fun a b => decidable_of_iff (a.f0 = b.f0 ∧ a.f1 = b.f1) ⟨fun h => rpair_ext h.1 h.2, fun h => by rw [h]; exact ⟨rfl, rfl⟩⟩
instance : Inhabited RPair := ⟨z51⟩
theorem rdR (l : List RPair) (i : Nat) : Qaq l (i : Int) = l[i]! := by
  unfold Qaq; rw [Int.toNat_natCast, List.getElem!_eq_getElem?_getD, List.getD_eq_getElem?_getD]; rfl
theorem beq_dec (a b : ByteArray) : (a.toList == b.toList) = decide (a = b) := by
  rw [Bool.eq_iff_iff, Lib.bytes_beq_iff, decide_eq_true_eq]
theorem role_beq (r : Role) (a b : ByteArray) : (r.f0.toList == a.toList && (r.f1.toList == b.toList)) = decide (r = ⟨a, b⟩) := by
  rw [beq_dec, beq_dec, Bool.eq_iff_iff, Bool.and_eq_true, decide_eq_true_eq, decide_eq_true_eq, decide_eq_true_eq]; exact ⟨fun h => role_ext h.1 h.2, fun h => by rw [h]; exact ⟨rfl, rfl⟩⟩
theorem rpair_beq (p : RPair) (a b c : ByteArray) : ((p.f0.f0.toList == a.toList && (p.f0.f1.toList == b.toList)) && (p.f1.toList == c.toList)) = decide (p = ⟨⟨a, b⟩, c⟩) := by
  rw [role_beq, beq_dec, Bool.eq_iff_iff, Bool.and_eq_true, decide_eq_true_eq, decide_eq_true_eq, decide_eq_true_eq]; exact ⟨fun h => rpair_ext h.1 h.2, fun h => by rw [h]; exact ⟨rfl, rfl⟩⟩
theorem in_l0 (l : List RPair) (hl : l.length < 1000000000) (a b c : ByteArray) : ∀ (n i : Nat), n + i = l.length → Ev (fun k => QaT.l0 k l (i : Int) a b c) (decide ((⟨⟨a, b⟩, c⟩ : RPair) ∈ l.drop i))
  | 0, i, hn => by
    rw [show l.drop i = [] from List.drop_eq_nil_of_le (by omega)]; refine Ev.step (fun k => ?_) (Ev.pure _); rw [QaT.l0, if_neg (by omega)]; rfl
  | n + 1, i, hn => by
    rw [drop_bang (by omega : i < l.length)]
    by_cases e : l[i]! = ⟨⟨a, b⟩, c⟩
    · refine Ev.step (fun k => ?_) (Ev.pure _)
      rw [QaT.l0, if_pos (by omega), if_pos (by omega), rdR, rpair_beq, decide_eq_true e, if_pos rfl, decide_eq_true (by rw [e]; exact List.mem_cons_self ..)]
    · have h : decide ((⟨⟨a, b⟩, c⟩ : RPair) ∈ l[i]! :: l.drop (i + 1)) = decide ((⟨⟨a, b⟩, c⟩ : RPair) ∈ l.drop (i + 1)) := by
        rw [Bool.eq_iff_iff, decide_eq_true_eq, decide_eq_true_eq, List.mem_cons]; exact ⟨fun h => h.resolve_left (fun h => e h.symm), .inr⟩
      rw [h]; refine Ev.step (fun k => ?_) (in_l0 l hl a b c n (i + 1) (by omega)); rw [QaT.l0, if_pos (by omega), if_pos (by omega), rdR, rpair_beq, decide_eq_false e, if_neg (by decide), QbU (by omega)]
theorem in_ev (l : List RPair) (hl : l.length < 1000000000) (a b c : ByteArray) : Ev (fun k => QaT.f k l a b c) (decide ((⟨⟨a, b⟩, c⟩ : RPair) ∈ l)) :=
  in_l0 l hl a b c l.length 0 (by omega)
def bringOne (c : Cred) (l : List RPair) (p : RPair) : List RPair :=
  if c.f2 = 2 then (if p.f0 = c.f4 then [⟨credRole c, p.f1⟩] else [])
  else if c.f2 = 4 then (if p.f0 = c.f4 then (if (⟨c.f5, p.f1⟩ : RPair) ∈ l then [⟨credRole c, p.f1⟩] else []) else [])
  else if c.f2 = 3 then (if p.f0 = linkFirst c then (if numName p.f1 > 0 then (l.filter fun q => decide (q.f0 = ⟨p.f1, c.f5.f1⟩)).map fun q => (⟨credRole c, q.f1⟩ : RPair) else []) else [])
  else []
def bringsL (c : Cred) (l : List RPair) : List RPair := if c.f2 = 1 then [⟨credRole c, c.f3⟩] else l.flatMap (bringOne c l)
theorem brings_l1 (c : Cred) (r sec : Role) (l : List RPair) (hl : l.length ≤ 1000) (i : Nat) (hi : i < l.length) (R : List RPair) : ∀ (n j : Nat) (out : List RPair), n + j = l.length → out.length ≤ 100000000 + j →
    Ev (fun k => Qab.l0 k l (out ++ ((l.drop j).filter fun q => decide (q.f0 = sec)).map fun q => (⟨r, q.f1⟩ : RPair)) ((i + 1 : Nat) : Int) c.f0.f0 c.f0.f1 c.f1 c.f2 c.f3 c.f4.f0 c.f4.f1 c.f5.f0 c.f5.f1 r.f0 r.f1) R →
    Ev (fun k => Qab.l1 k l out (i : Int) (j : Int) c.f0.f0 c.f0.f1 c.f1 c.f2 c.f3 c.f4.f0 c.f4.f1 c.f5.f0 c.f5.f1 r.f0 r.f1 sec.f0 sec.f1) R
  | 0, j, out, hn, ho, h => by
    rw [show l.drop j = [] from List.drop_eq_nil_of_le (by omega)] at h; refine Ev.step (fun k => ?_) h; rw [Qab.l1, if_neg (by omega), QbU (by omega), List.filter_nil, List.map_nil, List.append_nil]
  | n + 1, j, out, hn, ho, h => by
    rw [drop_bang (by omega : j < l.length), List.filter_cons] at h
    by_cases e : l[j]!.f0 = sec
    · rw [decide_eq_true e, if_pos rfl, List.map_cons] at h
      refine Ev.step (fun k => ?_) (brings_l1 c r sec l hl i hi R n (j + 1) (out ++ [⟨r, l[j]!.f1⟩]) (by omega) (by simp; omega) (by rw [List.append_assoc]; exact h)); rw [Qab.l1, if_pos (by omega), if_pos (by omega), rdR, role_beq, decide_eq_true e, if_pos rfl, if_pos (by omega), QbU (by omega)]
    · rw [decide_eq_false e, if_neg (by decide)] at h
      refine Ev.step (fun k => ?_) (brings_l1 c r sec l hl i hi R n (j + 1) out (by omega) (by omega) h); rw [Qab.l1, if_pos (by omega), if_pos (by omega), rdR, role_beq, decide_eq_false e, if_neg (by decide), QbU (by omega)]
theorem brings_j3 (c : Cred) (r : Role) (l : List RPair) (hl : l.length ≤ 1000) (i : Nat) (hi : i < l.length) (t : Bool) (R out : List RPair) (ho : out.length ≤ 100000000)
    (h : Ev (fun k => Qab.l0 k l (out ++ (if t then (l.filter fun q => decide (q.f0 = ⟨l[i]!.f1, c.f5.f1⟩)).map fun q => (⟨r, q.f1⟩ : RPair) else [])) ((i + 1 : Nat) : Int) c.f0.f0 c.f0.f1 c.f1 c.f2 c.f3 c.f4.f0 c.f4.f1 c.f5.f0 c.f5.f1 r.f0 r.f1) R) :
    Ev (fun k => Qab.j3 k l out (i : Int) t c.f0.f0 c.f0.f1 c.f1 c.f2 c.f3 c.f4.f0 c.f4.f1 c.f5.f0 c.f5.f1 r.f0 r.f1) R := by
  cases t
  · rw [if_neg (by decide), List.append_nil] at h
    refine Ev.step (fun k => ?_) h; rw [Qab.j3, if_neg (by decide), QbU (by omega)]
  · rw [if_pos rfl] at h
    refine Ev.step (fun k => ?_) (brings_l1 c r ⟨l[i]!.f1, c.f5.f1⟩ l hl i hi R l.length 0 out (by omega) (by omega) (by rw [List.drop_zero]; exact h)); rw [Qab.j3, if_pos rfl, if_pos (by omega), if_pos (by omega), rdR]; rfl
theorem brings_j2 (c : Cred) (r : Role) (l : List RPair) (hl : l.length ≤ 1000) (i : Nat) (hi : i < l.length) (R out : List RPair) (ho : out.length ≤ 100000000)
    (h : Ev (fun k => Qab.l0 k l (out ++ (if c.f2 = 3 then (if l[i]!.f0 = linkFirst c then (if numName l[i]!.f1 > 0 then (l.filter fun q => decide (q.f0 = ⟨l[i]!.f1, c.f5.f1⟩)).map fun q => (⟨r, q.f1⟩ : RPair) else []) else []) else [])) ((i + 1 : Nat) : Int) c.f0.f0 c.f0.f1 c.f1 c.f2 c.f3 c.f4.f0 c.f4.f1 c.f5.f0 c.f5.f1 r.f0 r.f1) R) :
    Ev (fun k => Qab.j2 k l out (i : Int) c.f0.f0 c.f0.f1 c.f1 c.f2 c.f3 c.f4.f0 c.f4.f1 c.f5.f0 c.f5.f1 r.f0 r.f1) R := by
  by_cases k3 : c.f2 = 3
  · rw [if_pos k3] at h
    by_cases e : l[i]!.f0 = linkFirst c
    · rw [if_pos e] at h
      have h3 := brings_j3 c r l hl i hi (decide (numName l[i]!.f1 > 0)) R out ho (by simpa only [decide_eq_true_eq] using h); refine Ev.step (g := fun k => (QaR.f k c.f0.f0 c.f0.f1 c.f1 c.f2 c.f3 c.f4.f0 c.f4.f1 c.f5.f0 c.f5.f1).bind fun bt => if ((l[i]!.f0.f0.toList == bt.1.toList && (l[i]!.f0.f1.toList == bt.2.toList))) = true then ((Qar.f k l[i]!.f1).bind fun t => Qab.j3 k l out (i : Int) (decide (t > 0)) c.f0.f0 c.f0.f1 c.f1 c.f2 c.f3 c.f4.f0 c.f4.f1 c.f5.f0 c.f5.f1 r.f0 r.f1) else Qab.j3 k l out (i : Int) false c.f0.f0 c.f0.f1 c.f1 c.f2 c.f3 c.f4.f0 c.f4.f1 c.f5.f0 c.f5.f1 r.f0 r.f1) (fun k => ?_) ?_
      · rw [Qab.j2, if_pos k3, if_pos (by omega), if_pos (by omega), rdR]
      · refine Ev.bind (a := (domName c.f0.f0, c.f4.f1)) (.from 1 fun k hk => ?_) ?_
        · obtain ⟨j, rfl⟩ : ∃ j, k = j + 1 := ⟨k - 1, by omega⟩
          unfold QaR.f; rw [refDomain_is]; rfl
        · rw [role_beq, decide_eq_true (p := l[i]!.f0 = ⟨domName c.f0.f0, c.f4.f1⟩) e]
          simp only [if_true]; exact Ev.bind (.from 2 fun k hk => by obtain ⟨j, rfl⟩ : ∃ j, k = j + 2 := ⟨k - 2, by omega⟩; exact refNumber_is _ _) h3
    · rw [if_neg e, List.append_nil] at h
      have h3 := brings_j3 c r l hl i hi false R out ho (by simpa using h); refine Ev.step (g := fun k => (QaR.f k c.f0.f0 c.f0.f1 c.f1 c.f2 c.f3 c.f4.f0 c.f4.f1 c.f5.f0 c.f5.f1).bind fun bt => if ((l[i]!.f0.f0.toList == bt.1.toList && (l[i]!.f0.f1.toList == bt.2.toList))) = true then ((Qar.f k l[i]!.f1).bind fun t => Qab.j3 k l out (i : Int) (decide (t > 0)) c.f0.f0 c.f0.f1 c.f1 c.f2 c.f3 c.f4.f0 c.f4.f1 c.f5.f0 c.f5.f1 r.f0 r.f1) else Qab.j3 k l out (i : Int) false c.f0.f0 c.f0.f1 c.f1 c.f2 c.f3 c.f4.f0 c.f4.f1 c.f5.f0 c.f5.f1 r.f0 r.f1) (fun k => ?_) ?_
      · rw [Qab.j2, if_pos k3, if_pos (by omega), if_pos (by omega), rdR]
      · refine Ev.bind (a := (domName c.f0.f0, c.f4.f1)) (.from 1 fun k hk => ?_) ?_
        · obtain ⟨j, rfl⟩ : ∃ j, k = j + 1 := ⟨k - 1, by omega⟩
          unfold QaR.f; rw [refDomain_is]; rfl
        · rw [role_beq, decide_eq_false (p := l[i]!.f0 = ⟨domName c.f0.f0, c.f4.f1⟩) e]
          simpa only [Bool.false_eq_true, if_false] using h3
  · rw [if_neg k3, List.append_nil] at h
    have h3 := brings_j3 c r l hl i hi false R out ho (by simpa using h); refine Ev.step (fun k => ?_) h3; rw [Qab.j2, if_neg k3]
theorem brings_j1 (c : Cred) (l : List RPair) (hl : l.length ≤ 1000) (i : Nat) (hi : i < l.length) (R out : List RPair) (ho : out.length < 100000000)
    (h : Ev (fun k => Qab.l0 k l (out ++ bringOne c l l[i]!) ((i + 1 : Nat) : Int) c.f0.f0 c.f0.f1 c.f1 c.f2 c.f3 c.f4.f0 c.f4.f1 c.f5.f0 c.f5.f1 (credRole c).f0 (credRole c).f1) R) :
    Ev (fun k => Qab.j1 k l out (i : Int) ((decide (c.f2 = 2) || decide (c.f2 = 4)) && decide (l[i]!.f0 = c.f4)) c.f0.f0 c.f0.f1 c.f1 c.f2 c.f3 c.f4.f0 c.f4.f1 c.f5.f0 c.f5.f1 (credRole c).f0 (credRole c).f1) R := by
  unfold bringOne at h
  by_cases k24 : c.f2 = 2 ∨ c.f2 = 4
  · have hk : (decide (c.f2 = 2) || decide (c.f2 = 4)) = true := by rw [Bool.or_eq_true, decide_eq_true_eq, decide_eq_true_eq]; exact k24
    rw [hk, Bool.true_and]
    by_cases e : l[i]!.f0 = c.f4
    · rw [decide_eq_true e]
      simp only [if_pos e] at h; refine Ev.step (g := fun k => (QaT.f k l c.f5.f0 c.f5.f1 l[i]!.f1).bind fun t => if c.f2 = 2 then Qab.j2 k l (out ++ [⟨credRole c, l[i]!.f1⟩]) (i : Int) c.f0.f0 c.f0.f1 c.f1 c.f2 c.f3 c.f4.f0 c.f4.f1 c.f5.f0 c.f5.f1 (credRole c).f0 (credRole c).f1 else if t = true then Qab.j2 k l (out ++ [⟨credRole c, l[i]!.f1⟩]) (i : Int) c.f0.f0 c.f0.f1 c.f1 c.f2 c.f3 c.f4.f0 c.f4.f1 c.f5.f0 c.f5.f1 (credRole c).f0 (credRole c).f1 else Qab.j2 k l out (i : Int) c.f0.f0 c.f0.f1 c.f1 c.f2 c.f3 c.f4.f0 c.f4.f1 c.f5.f0 c.f5.f1 (credRole c).f0 (credRole c).f1) (fun k => ?_) (Ev.bind (in_ev l (by omega) _ _ _) ?_)
      · rw [Qab.j1, if_pos rfl, if_pos (by omega), if_pos (by omega), rdR]
        simp only [if_pos (show out.length < 2932031007402 by omega)]
      · by_cases k2 : c.f2 = 2
        · simp only [if_pos k2] at h ⊢
          refine brings_j2 c _ l hl i hi R _ (by simp; omega) ?_; rw [if_neg (by omega), List.append_nil]; exact h
        · have k4 : c.f2 = 4 := by omega
          simp only [if_neg k2, if_pos k4] at h ⊢
          by_cases m : (⟨c.f5, l[i]!.f1⟩ : RPair) ∈ l
          · rw [if_pos m] at h
            rw [decide_eq_true (p := (⟨⟨c.f5.f0, c.f5.f1⟩, l[i]!.f1⟩ : RPair) ∈ l) m]; simp only [if_true]; refine brings_j2 c _ l hl i hi R _ (by simp; omega) ?_; rw [if_neg (by omega), List.append_nil]; exact h
          · rw [if_neg m, List.append_nil] at h
            rw [decide_eq_false (p := (⟨⟨c.f5.f0, c.f5.f1⟩, l[i]!.f1⟩ : RPair) ∈ l) m]; simp only [Bool.false_eq_true, if_false]; refine brings_j2 c _ l hl i hi R _ (by omega) ?_; rw [if_neg (by omega), List.append_nil]; exact h
    · rw [decide_eq_false e]
      refine Ev.step (fun k => ?_) (brings_j2 c (credRole c) l hl i hi R out (by omega) ?_)
      · rw [Qab.j1, if_neg (by decide)]
      · rw [if_neg (by omega)]
        simp only [if_neg e] at h
        rcases k24 with k | k
        · rw [if_pos k] at h
          exact h
        · rw [if_neg (by omega), if_pos k] at h
          exact h
  · have hk : (decide (c.f2 = 2) || decide (c.f2 = 4)) = false := by rw [decide_eq_false (by omega), decide_eq_false (by omega)]; rfl
    rw [hk, Bool.false_and]; rw [if_neg (by omega), if_neg (by omega)] at h; refine Ev.step (fun k => ?_) (brings_j2 c (credRole c) l hl i hi R out (by omega) h); rw [Qab.j1, if_neg (by decide)]
theorem bringOne_length (c : Cred) (l : List RPair) (p : RPair) (hl : l.length ≤ 1000) : (bringOne c l p).length ≤ 1000 := by
  unfold bringOne; have := List.length_filter_le (fun q : RPair => decide (q.f0 = ⟨p.f1, c.f5.f1⟩)) l
  split
  · split <;> simp
  · split
    · split
      · split <;> simp
      · simp
    · split
      · split
        · split
          · rw [List.length_map]; omega
          · simp
        · simp
      · simp
theorem brings_l0 (c : Cred) (l : List RPair) (hl : l.length ≤ 1000) : ∀ (n i : Nat) (out : List RPair), n + i = l.length → out.length ≤ i * 1000 → Ev (fun k => Qab.l0 k l out (i : Int) c.f0.f0 c.f0.f1 c.f1 c.f2 c.f3 c.f4.f0 c.f4.f1 c.f5.f0 c.f5.f1 (credRole c).f0 (credRole c).f1) (out ++ (l.drop i).flatMap (bringOne c l))
  | 0, i, out, hn, ho => by
    rw [show l.drop i = [] from List.drop_eq_nil_of_le (by omega), List.flatMap_nil, List.append_nil]; refine Ev.step (fun k => ?_) (Ev.pure _); rw [Qab.l0, if_neg (by omega)]
  | n + 1, i, out, hn, ho => by
    have hi : i < l.length := by omega
    rw [drop_bang hi, List.flatMap_cons, ← List.append_assoc]; have hlen := bringOne_length c l l[i]! hl; refine Ev.step (fun k => ?_) (brings_j1 c l hl i hi _ out (by omega) (brings_l0 c l hl n (i + 1) _ (by omega) (by rw [List.length_append]; omega))); rw [Qab.l0, if_pos (by omega)]
    by_cases k2 : c.f2 = 2
    · rw [if_pos k2, if_pos (by omega), rdR, role_beq, decide_eq_true k2]
      rfl
    · rw [if_neg k2, decide_eq_false k2]
      by_cases k4 : c.f2 = 4
      · rw [if_pos k4, if_pos (by omega), rdR, role_beq, decide_eq_true k4]
        rfl
      · rw [if_neg k4, decide_eq_false k4]
        rfl
theorem brings_ev (c : Cred) (l : List RPair) (hl : l.length ≤ 1000) : Ev (fun k => Qab.f k c.f0.f0 c.f0.f1 c.f1 c.f2 c.f3 c.f4.f0 c.f4.f1 c.f5.f0 c.f5.f1 l) (bringsL c l) := by
  unfold Qab.f bringsL; refine Ev.bind (a := (domName c.f0.f0, c.f1)) (.from 1 fun k hk => ?_) ?_
  · obtain ⟨j, rfl⟩ : ∃ j, k = j + 1 := ⟨k - 1, by omega⟩
    unfold QaW.f; rw [refDomain_is]; rfl
  · by_cases k1 : c.f2 = 1
    · simp only [if_pos k1]
      exact Ev.pure _
    · simp only [if_neg k1]
      have := brings_l0 c l hl l.length 0 [] (by omega) (by simp); rw [List.drop_zero, List.nil_append] at this; exact this
theorem bringsL_length (c : Cred) (l : List RPair) (hl : l.length ≤ 1000) : (bringsL c l).length ≤ 1000001 := by
  have key : ∀ m : List RPair, (m.flatMap (bringOne c l)).length ≤ m.length * 1000 := fun m => by
    induction m with
    | nil => simp
    | cons a m ih =>
      have := bringOne_length c l a hl; rw [List.flatMap_cons, List.length_append, List.length_cons]; omega
  unfold bringsL; have := key l
  split
  · simp
  · omega
def addNew (out : List RPair) (p : RPair) : List RPair := if p ∈ out then out else out ++ [p]
theorem round_l1 (cs : List Cred) (hcs : cs.length ≤ 1000) (l more : List RPair) (hm : more.length ≤ 1000001) (i : Nat) (hi : i < cs.length) (R : List RPair) : ∀ (n j : Nat) (out : List RPair), n + j = more.length → out.length + n ≤ 900000000 →
    Ev (fun k => QaB.l0 k cs l ((more.drop j).foldl addNew out) ((i + 1 : Nat) : Int)) R → Ev (fun k => QaB.l1 k cs l out (i : Int) more (j : Int)) R
  | 0, j, out, hn, ho, h => by
    rw [show more.drop j = [] from List.drop_eq_nil_of_le (by omega)] at h; refine Ev.step (fun k => ?_) h; rw [QaB.l1, if_neg (by omega), QbU (by omega), List.foldl_nil]
  | n + 1, j, out, hn, ho, h => by
    rw [drop_bang (by omega : j < more.length), List.foldl_cons] at h; refine Ev.step (g := fun k => (QaT.f k out more[j]!.f0.f0 more[j]!.f0.f1 more[j]!.f1).bind fun t => if t = true then QaB.l1 k cs l out (i : Int) more ((j + 1 : Nat) : Int) else QaB.l1 k cs l (out ++ [more[j]!]) (i : Int) more ((j + 1 : Nat) : Int)) (fun k => ?_) ?_
    · rw [QaB.l1, if_pos (by omega), if_pos (by omega), rdR, QbU (by omega)]
      simp only [if_pos (show out.length < 2932031007402 by omega)]
    · by_cases e : more[j]! ∈ out
      · rw [addNew, if_pos e] at h
        refine Ev.bind (a := true) ?_ ?_
        · by_cases hb : out.length < 1000000000
          · have := in_ev out hb more[j]!.f0.f0 more[j]!.f0.f1 more[j]!.f1
            rw [decide_eq_true (p := (⟨⟨more[j]!.f0.f0, more[j]!.f0.f1⟩, more[j]!.f1⟩ : RPair) ∈ out) e] at this; exact this
          · exact absurd hb (by omega)
        · simp only [if_true]
          exact round_l1 cs hcs l more hm i hi R n (j + 1) out (by omega) (by omega) h
      · rw [addNew, if_neg e] at h
        refine Ev.bind (a := false) ?_ ?_
        · have := in_ev out (by omega) more[j]!.f0.f0 more[j]!.f0.f1 more[j]!.f1
          rw [decide_eq_false (p := (⟨⟨more[j]!.f0.f0, more[j]!.f0.f1⟩, more[j]!.f1⟩ : RPair) ∈ out) e] at this; exact this
        · simp only [Bool.false_eq_true, if_false]
          exact round_l1 cs hcs l more hm i hi R n (j + 1) (out ++ [more[j]!]) (by omega) (by simp; omega) h
theorem addAll_length : ∀ (more out : List RPair), (more.foldl addNew out).length ≤ out.length + more.length
  | [], out => by simp
  | a :: m, out => by
    rw [List.foldl_cons]; have := addAll_length m (addNew out a)
    have h2 : (addNew out a).length ≤ out.length + 1 := by
      unfold addNew
      split <;> simp
    simp only [List.length_cons]; omega
def roundL (cs : List Cred) (l : List RPair) : List RPair := cs.foldl (fun o c => (bringsL c l).foldl addNew o) l
theorem round_l0 (cs : List Cred) (hcs : cs.length ≤ 100) (l : List RPair) (hl : l.length ≤ 1000) : ∀ (n i : Nat) (out : List RPair), n + i = cs.length → out.length ≤ 1000 + i * 1000001 → Ev (fun k => QaB.l0 k cs l out (i : Int)) ((cs.drop i).foldl (fun o c => (bringsL c l).foldl addNew o) out)
  | 0, i, out, hn, ho => by
    rw [show cs.drop i = [] from List.drop_eq_nil_of_le (by omega)]; refine Ev.step (fun k => ?_) (Ev.pure _); rw [QaB.l0, if_neg (by omega)]; rfl
  | n + 1, i, out, hn, ho => by
    have hi : i < cs.length := by omega
    rw [drop_bang hi, List.foldl_cons]; have h1 := bringsL_length cs[i]! l hl; have h2 := addAll_length (bringsL cs[i]! l) out; refine Ev.step (g := fun k => (Qab.f k cs[i]!.f0.f0 cs[i]!.f0.f1 cs[i]!.f1 cs[i]!.f2 cs[i]!.f3 cs[i]!.f4.f0 cs[i]!.f4.f1 cs[i]!.f5.f0 cs[i]!.f5.f1 l).bind fun t => QaB.l1 k cs l out (i : Int) t 0) (fun k => ?_) (Ev.bind (brings_ev cs[i]! l hl) (round_l1 cs (by omega) l _ h1 i hi _ (bringsL cs[i]! l).length 0 out (by omega) (by omega) ?_))
    · rw [QaB.l0, if_pos (by omega), if_pos (by omega), rdCred]
    · rw [List.drop_zero]
      exact round_l0 cs hcs l hl n (i + 1) _ (by omega) (by omega)
theorem round_ev (cs : List Cred) (hcs : cs.length ≤ 100) (l : List RPair) (hl : l.length ≤ 1000) : Ev (fun k => QaB.f k cs l) (roundL cs l) := by
  have := round_l0 cs hcs l hl cs.length 0 l (by omega) (by omega); rw [List.drop_zero] at this; refine Ev.congr (fun k => ?_) this; unfold QaB.f; rw [if_pos (by simp; omega), List.nil_append]; rfl
def Ext (out res : List RPair) (M : RPair → Prop) : Prop := ∃ e, res = out ++ e ∧ e.Nodup ∧ (∀ x ∈ e, x ∉ out) ∧ ∀ x, x ∈ res ↔ x ∈ out ∨ M x
theorem ext_none (out : List RPair) {M : RPair → Prop} (h : ∀ x, M x → x ∈ out) : Ext out out M := ⟨[], by simp, List.nodup_nil, fun x hx => by (cases hx), fun x => ⟨.inl, fun h' => h'.elim id (h x)⟩⟩
theorem Ext.trans {a b c : List RPair} {M M' : RPair → Prop} (h : Ext a b M) (h' : Ext b c M') : Ext a c (fun x => M x ∨ M' x) := by
  obtain ⟨e, rfl, h1, h2, h3⟩ := h; obtain ⟨e', rfl, h4, h5, h6⟩ := h'; refine ⟨e ++ e', by rw [List.append_assoc], ?_, ?_, fun x => ?_⟩
  · rw [List.nodup_append]
    exact ⟨h1, h4, fun x hx y hy e => h5 y hy (List.mem_append_right _ (e ▸ hx))⟩
  · intro x hx
    rcases List.mem_append.mp hx with h | h
    · exact h2 x h
    · exact fun hxa => h5 x h (List.mem_append_left _ hxa)
  · rw [h6, h3]
    constructor
    · rintro ((h | h) | h)
      · exact .inl h
      · exact .inr (.inl h)
      · exact .inr (.inr h)
    · rintro (h | h | h)
      · exact .inl (.inl h)
      · exact .inl (.inr h)
      · exact .inr h
theorem Ext.imp {a b : List RPair} {M M' : RPair → Prop} (h : Ext a b M) (hM : ∀ x, M x ↔ M' x) : Ext a b M' := by
  obtain ⟨e, h0, h1, h2, h3⟩ := h; exact ⟨e, h0, h1, h2, fun x => (h3 x).trans ⟨fun h => h.imp id (hM x).mp, fun h => h.imp id (hM x).mpr⟩⟩
theorem addNew_ext (out : List RPair) (p : RPair) : Ext out (addNew out p) (fun x => x = p) := by
  unfold addNew
  by_cases h : p ∈ out
  · rw [if_pos h]
    exact ext_none out (fun x e => e ▸ h)
  · rw [if_neg h]
    exact ⟨[p], rfl, by simp, fun x hx => by rw [List.mem_singleton.mp hx]; exact h, fun x => by simp⟩
theorem addAll_ext : ∀ (more out : List RPair), Ext out (more.foldl addNew out) (fun x => x ∈ more)
  | [], out => ext_none out (fun x h => by cases h)
  | a :: m, out => by
    rw [List.foldl_cons]; exact ((addNew_ext out a).trans (addAll_ext m _)).imp (fun x => by rw [List.mem_cons])
theorem round_ext (l : List RPair) : ∀ (cs : List Cred) (out : List RPair), Ext out (cs.foldl (fun o c => (bringsL c l).foldl addNew o) out) (fun x => ∃ c ∈ cs, x ∈ bringsL c l)
  | [], out => ext_none out (fun x h => by obtain ⟨c, hc, _⟩ := h; cases hc)
  | c :: cs, out => by
    rw [List.foldl_cons]; refine ((addAll_ext (bringsL c l) out).trans (round_ext l cs _)).imp (fun x => ?_); constructor
    · rintro (h | ⟨c', hc', h⟩)
      · exact ⟨c, List.mem_cons_self .., h⟩
      · exact ⟨c', List.mem_cons_of_mem _ hc', h⟩
    · rintro ⟨c', hc', h⟩
      rcases List.mem_cons.mp hc' with e | e
      · exact .inl (e ▸ h)
      · exact .inr ⟨c', e, h⟩
theorem bringsL_mem (c : Cred) (l : List RPair) (x : RPair) : x ∈ bringsL c l ↔ x.f0 = credRole c ∧ ((c.f2 = 1 ∧ x.f1 = c.f3) ∨ (c.f2 = 2 ∧ (⟨c.f4, x.f1⟩ : RPair) ∈ l) ∨ (c.f2 = 3 ∧ ∃ u, (⟨linkFirst c, u⟩ : RPair) ∈ l ∧ numName u > 0 ∧ (⟨⟨u, c.f5.f1⟩, x.f1⟩ : RPair) ∈ l) ∨ (c.f2 = 4 ∧ (⟨c.f4, x.f1⟩ : RPair) ∈ l ∧ (⟨c.f5, x.f1⟩ : RPair) ∈ l)) := by
  unfold bringsL
  by_cases k1 : c.f2 = 1
  · rw [if_pos k1, List.mem_singleton]
    constructor
    · rintro rfl
      exact ⟨rfl, .inl ⟨k1, rfl⟩⟩
    · rintro ⟨h0, h⟩
      rcases h with h | h | h | h
      · exact rpair_ext h0 h.2
      · omega
      · omega
      · omega
  rw [if_neg k1, List.mem_flatMap]; unfold bringOne
  by_cases k2 : c.f2 = 2
  · simp only [if_pos k2]
    constructor
    · rintro ⟨p, hp, h⟩
      by_cases e : p.f0 = c.f4
      · rw [if_pos e, List.mem_singleton] at h
        subst h; exact ⟨rfl, .inr (.inl ⟨k2, by rw [← e]; exact hp⟩)⟩
      · rw [if_neg e] at h
        cases h
    · rintro ⟨h0, h⟩
      rcases h with h | h | h | h
      · omega
      · refine ⟨_, h.2, ?_⟩
        rw [if_pos rfl, List.mem_singleton]; exact rpair_ext h0 rfl
      · omega
      · omega
  simp only [if_neg k2]
  by_cases k4 : c.f2 = 4
  · simp only [if_pos k4]
    constructor
    · rintro ⟨p, hp, h⟩
      by_cases e : p.f0 = c.f4
      · rw [if_pos e] at h
        by_cases m : (⟨c.f5, p.f1⟩ : RPair) ∈ l
        · rw [if_pos m, List.mem_singleton] at h
          subst h; exact ⟨rfl, .inr (.inr (.inr ⟨k4, by rw [← e]; exact hp, m⟩))⟩
        · rw [if_neg m] at h
          cases h
      · rw [if_neg e] at h
        cases h
    · rintro ⟨h0, h⟩
      rcases h with h | h | h | h
      · omega
      · omega
      · omega
      · refine ⟨_, h.2.1, ?_⟩
        rw [if_pos rfl, if_pos h.2.2, List.mem_singleton]; exact rpair_ext h0 rfl
  simp only [if_neg k4]
  by_cases k3 : c.f2 = 3
  · simp only [if_pos k3]
    constructor
    · rintro ⟨p, hp, h⟩
      by_cases e : p.f0 = linkFirst c
      · rw [if_pos e] at h
        by_cases m : numName p.f1 > 0
        · rw [if_pos m, List.mem_map] at h
          obtain ⟨q, hq, rfl⟩ := h; rw [List.mem_filter, decide_eq_true_eq] at hq; exact ⟨rfl, .inr (.inr (.inl ⟨k3, p.f1, by rw [← e]; exact hp, m, by rw [← hq.2]; exact hq.1⟩))⟩
        · rw [if_neg m] at h
          cases h
      · rw [if_neg e] at h
        cases h
    · rintro ⟨h0, h⟩
      rcases h with h | h | h | h
      · omega
      · omega
      · obtain ⟨_, u, h1, h2, h3⟩ := h
        refine ⟨_, h1, ?_⟩; rw [if_pos rfl, if_pos h2, List.mem_map]; refine ⟨_, List.mem_filter.mpr ⟨h3, by simp⟩, rpair_ext h0.symm rfl⟩
      · omega
  simp only [if_neg k3]; constructor
  · rintro ⟨p, hp, h⟩
    cases h
  · rintro ⟨h0, h⟩
    omega
def SaidR (cs : List Cred) (p : RPair) : Prop := Said cs ⟨p.f0, p.f1⟩
theorem brings_said {cs : List Cred} {c : Cred} (hc : c ∈ cs) {l : List RPair} (hl : ∀ p ∈ l, SaidR cs p) {x : RPair} (hx : x ∈ bringsL c l) : SaidR cs x := by
  rw [bringsL_mem] at hx; obtain ⟨h0, h⟩ := hx; unfold SaidR; rw [h0]
  rcases h with h | h | h | h
  · rw [h.2]
    exact .member hc h.1
  · exact .incl hc h.1 (hl _ h.2)
  · obtain ⟨k, u, h1, h2, h3⟩ := h
    exact .link hc k (hl _ h1) h2 (hl _ h3)
  · exact .both hc h.1 (hl _ h.2.1) (hl _ h.2.2)
theorem closed_said {cs : List Cred} {l : List RPair} (h : ∀ c ∈ cs, ∀ x ∈ bringsL c l, x ∈ l) {p : Pair} (hp : Said cs p) : (⟨p.f0, p.f1⟩ : RPair) ∈ l := by
  induction hp with
  | @member c hc k => exact h c hc _ ((bringsL_mem c l _).mpr ⟨rfl, .inl ⟨k, rfl⟩⟩)
  | @incl c u hc k _ ih => exact h c hc _ ((bringsL_mem c l _).mpr ⟨rfl, .inr (.inl ⟨k, ih⟩)⟩)
  | @link c u v hc k _ n _ ih1 ih2 => exact h c hc _ ((bringsL_mem c l _).mpr ⟨rfl, .inr (.inr (.inl ⟨k, u, ih1, n, ih2⟩))⟩)
  | @both c u hc k _ _ ih1 ih2 => exact h c hc _ ((bringsL_mem c l _).mpr ⟨rfl, .inr (.inr (.inr ⟨k, ih1, ih2⟩))⟩)
theorem round_fix {cs : List Cred} {l : List RPair} (h : (roundL cs l).length = l.length) : roundL cs l = l ∧ ∀ c ∈ cs, ∀ x ∈ bringsL c l, x ∈ l := by
  obtain ⟨e, h0, h1, h2, h3⟩ := round_ext l cs l; have h0' : roundL cs l = l ++ e := h0; rw [h0', List.length_append] at h; have he : e = [] := List.eq_nil_of_length_eq_zero (by omega); rw [he, List.append_nil] at h0'; refine ⟨h0', fun c hc x hx => ?_⟩; have := (h3 x).mpr (.inr ⟨c, hc, hx⟩); have h4 : x ∈ roundL cs l := this; rw [h0'] at h4; exact h4
theorem saidR_400 {cs : List Cred} (hl : cs.length ≤ 20) {l : List RPair} (hn : l.Nodup) (h : ∀ p ∈ l, SaidR cs p) : l.length ≤ 400 := by
  have := said_400 hl (l := l.map fun p => (⟨p.f0, p.f1⟩ : Pair)) (by
    unfold List.Nodup; rw [List.pairwise_map]
    exact hn.imp fun {a b} hab e => hab (rpair_ext (congrArg S55.f0 e) (congrArg S55.f1 e))) (fun p hp => by
    obtain ⟨q, hq, rfl⟩ := List.mem_map.mp hp
    exact h q hq)
  simpa using this
def rLess (a b : RPair) : Bool := pairLess ⟨a.f0, a.f1⟩ ⟨b.f0, b.f1⟩
theorem rLess_irrefl (a : RPair) : rLess a a = false := by
  rw [Bool.eq_false_iff]; exact QbV _
theorem rLess_trans (a b c : RPair) (h : rLess a b = true) (h' : rLess b c = true) : rLess a c = true := Qcj h h'
theorem rLess_total (a b : RPair) (h : a ≠ b) : rLess a b = true ∨ rLess b a = true := by
  by_cases h1 : rLess a b = true
  · exact .inl h1
  · by_cases h2 : rLess b a = true
    · exact .inr h2
    · have := Qck h1 h2
      exact absurd (rpair_ext (congrArg S55.f0 this) (congrArg S55.f1 this)) h
theorem refLess_is (a b : RPair) : QbC.f a.f0.f0 a.f0.f1 a.f1 b.f0.f0 b.f0.f1 b.f1 = some (rLess a b) := by
  unfold QbC.f QbM.f rLess
  by_cases e0 : a.f0.f0 = b.f0.f0
  · rw [(Lib.bytes_beq_iff _ _).mpr e0, if_pos ((toList_iff _ _).mpr e0)]
    by_cases e1 : a.f0.f1 = b.f0.f1
    · rw [(Lib.bytes_beq_iff _ _).mpr e1, if_neg (by decide)]
      congr 1
      rw [Bool.eq_iff_iff, Qcp, roleLess_iff]
      show _ ↔ ((sLess a.f0.f0 b.f0.f0 = true ∨ (a.f0.f0 = b.f0.f0 ∧ sLess a.f0.f1 b.f0.f1 = true)) ∨ (a.f0 = b.f0 ∧ sLess a.f1 b.f1 = true))
      rw [e0, e1, Qco, Qco, show a.f0 = b.f0 from role_ext e0 e1]; simp [sLess]
    · have hb : (a.f0.f1.toList == b.f0.f1.toList) = false := by rw [beq_dec]; exact decide_eq_false e1
      rw [hb, if_pos (by rfl), Option.bind_some]
      congr 1
      rw [Bool.eq_iff_iff, Qcp, roleLess_iff]
      show _ ↔ ((sLess a.f0.f0 b.f0.f0 = true ∨ (a.f0.f0 = b.f0.f0 ∧ sLess a.f0.f1 b.f0.f1 = true)) ∨ (a.f0 = b.f0 ∧ sLess a.f1 b.f1 = true))
      have hne : a.f0 ≠ b.f0 := fun e => e1 (by rw [e])
      rw [e0, Qco]; simp [hne, sLess]
  · have hb : (a.f0.f0.toList == b.f0.f0.toList) = false := by rw [beq_dec]; exact decide_eq_false e0
    rw [hb, if_pos (by rfl), if_neg (fun h => e0 ((toList_iff _ _).mp h)), Option.bind_some]
    congr 1
    rw [Bool.eq_iff_iff, Qcp, roleLess_iff]
    show _ ↔ ((sLess a.f0.f0 b.f0.f0 = true ∨ (a.f0.f0 = b.f0.f0 ∧ sLess a.f0.f1 b.f0.f1 = true)) ∨ (a.f0 = b.f0 ∧ sLess a.f1 b.f1 = true))
    have hne : a.f0 ≠ b.f0 := fun e => e0 (by rw [e])
    simp [hne, e0, sLess]
theorem refAll_l2 (x : List RPair) (hx : x.length < 1000000) (out : List RPair) (ho : out.length < 1000000) (R : List RPair) : ∀ (n m i : Nat), n + i = x.length → m < x.length →
    Ev (fun k => Qal.l1 k (x.take (selLeast rLess x n m i) ++ x.drop (selLeast rLess x n m i + 1)) (out ++ [x[selLeast rLess x n m i]!])) R → Ev (fun k => Qal.l2 k x out (m : Int) (i : Int)) R
  | 0, m, i, hn, hm, h => by
    rw [selLeast] at h; refine Ev.step (fun k => ?_) h; rw [Qal.l2, if_neg (by omega), if_pos (by omega), if_pos (by omega), if_pos (by omega), if_pos (by omega), Option.bind_some, if_pos (by simp; omega), Option.bind_some, QbU (by omega), if_pos (by omega), if_pos (by omega), Option.bind_some, if_pos (by simp; omega), rdR]; rfl
  | n + 1, m, i, hn, hm, h => by
    rw [selLeast] at h
    have e : ∀ k, Qal.l2 (k + 1) x out (m : Int) (i : Int) = Qal.l2 k x out ((if rLess x[i]! x[m]! then i else m : Nat) : Int) ((i + 1 : Nat) : Int) := fun k => by
      rw [Qal.l2, if_pos (by omega), if_pos (by omega), if_pos (by omega), if_pos (by omega), rdR, rdR, refLess_is, Option.bind_some, QbU (by omega)]
      cases rLess x[i]! x[m]! <;> rfl
    exact Ev.step e (refAll_l2 x hx out ho R n _ (i + 1) (by omega) (by split <;> omega) h)
theorem refAll_l1 : ∀ (n : Nat) (x out : List RPair), x.length ≤ n → x.length + out.length < 1000000 → Ev (fun k => Qal.l1 k x out) (selSort rLess n x out)
  | 0, x, out, hn, hl => by
    rw [selSort]; refine Ev.step (fun k => ?_) (Ev.pure _); rw [Qal.l1, if_neg (by omega)]
  | n + 1, x, out, hn, hl => by
    rw [selSort]
    by_cases c : x.length > 0
    · rw [if_pos c]
      have hm := selLeast_lt rLess x (x.length - 1) 0 1 (by omega) c; refine Ev.step (fun k => ?_) (refAll_l2 x (by omega) out (by omega) _ (x.length - 1) 0 1 (by omega) c (refAll_l1 n _ _ ?_ ?_))
      · rw [Qal.l1, if_pos (by omega)]
        rfl
      · simp
        omega
      · simp
        omega
    · rw [if_neg c]
      refine Ev.step (fun k => ?_) (Ev.pure _); rw [Qal.l1, if_neg (by omega)]
theorem refAll_l0 {cs : List Cred} (hcs : cs.length ≤ 20) : ∀ (n : Nat) (now : List RPair), now.Nodup → (∀ p ∈ now, SaidR cs p) → 401 - now.length ≤ n → ∃ fin : List RPair, fin.Nodup ∧ (∀ p, p ∈ fin ↔ SaidR cs p) ∧ Ev (fun k => Qal.l0 k cs now) (selSort rLess fin.length fin [])
  | 0, now, hn, hs, h => by
    have := saidR_400 hcs hn hs; omega
  | n + 1, now, hn, hs, h => by
    have h400 := saidR_400 hcs hn hs; have hr := round_ev cs (by omega) now (by omega)
    by_cases e : (roundL cs now).length = now.length
    · have hf := round_fix e
      refine ⟨now, hn, fun p => ⟨hs p, fun hp => closed_said hf.2 hp⟩, ?_⟩; refine Ev.step (g := fun k => (QaB.f k cs now).bind fun t => if (t.length : Int) = (now.length : Int) then Qal.l1 k now [] else Qal.l0 k cs t) (fun k => by rw [Qal.l0]) (Ev.bind hr ?_); simp only [if_pos (show ((roundL cs now).length : Int) = (now.length : Int) by omega)]; exact refAll_l1 now.length now [] (Nat.le_refl _) (by simp; omega)
    · obtain ⟨ex, h0, h1, h2, h3⟩ := round_ext now cs now
      have h0' : roundL cs now = now ++ ex := h0
      have hs' : ∀ p ∈ roundL cs now, SaidR cs p := fun p hp => by
        rcases (h3 p).mp hp with hp | ⟨c, hc, hp⟩
        · exact hs p hp
        · exact brings_said hc hs hp
      have hn' : (roundL cs now).Nodup := by
        rw [h0', List.nodup_append]; exact ⟨hn, h1, fun a ha b hb e => h2 b hb (e ▸ ha)⟩
      have hlt : now.length < (roundL cs now).length := by
        rw [h0', List.length_append] at e ⊢; omega
      obtain ⟨fin, f1, f2, f3⟩ := refAll_l0 hcs n (roundL cs now) hn' hs' (by omega); refine ⟨fin, f1, f2, ?_⟩; refine Ev.step (g := fun k => (QaB.f k cs now).bind fun t => if (t.length : Int) = (now.length : Int) then Qal.l1 k now [] else Qal.l0 k cs t) (fun k => by rw [Qal.l0]) (Ev.bind hr ?_); simp only [if_neg (show ¬ ((roundL cs now).length : Int) = (now.length : Int) by omega)]; exact f3
def toR (p : Pair) : RPair := ⟨p.f0, p.f1⟩
theorem refAll_ev {cs : List Cred} (hl : cs.length ≤ 20) {A : List Pair} (hA : AllOf cs A) : Ev (fun k => Qal.l0 k cs []) (A.map toR) := by
  obtain ⟨fin, f1, f2, f3⟩ := refAll_l0 hl 401 [] List.nodup_nil (fun p hp => by cases hp) (by simp)
  obtain ⟨s1, s2⟩ := selSort_spec rLess rLess_irrefl rLess_trans fin.length fin [] (Nat.le_refl _) (by
    rw [List.nil_append]
    exact f1.imp fun {a b} hab => rLess_total a b hab) List.Pairwise.nil (fun a ha => by cases ha)
  have e : selSort rLess fin.length fin [] = A.map toR := by
    refine sorted_eq (R := fun a b => rLess a b = true) (fun x h => by rw [rLess_irrefl] at h; cases h) rLess_trans s1 ?_ (fun x => ?_)
    · rw [List.pairwise_map]
      exact hA.sorted
    · rw [s2, List.mem_map]
      simp only [List.not_mem_nil, false_or]; rw [f2]; unfold SaidR; constructor
      · intro h
        exact ⟨_, (hA.mem _).mpr h, rfl⟩
      · rintro ⟨p, hp, rfl⟩
        exact (hA.mem p).mp hp
  rw [← e]; exact f3
theorem refAll_is (l : List Cred) (hl : l.length ≤ 20) {A : List Pair} (hA : AllOf (counts l) A) : Ev (fun k => Qal.f k l) (A.map toR) := by
  unfold Qal.f; have := QbH l; exact Ev.bind (refCounts_is l (by omega)) (refAll_ev (by omega) hA)
theorem rdC (l : List Cred) (i : Nat) (h : i < l.length) : Qae l (i : Int) = l[i] := by
  unfold Qae; rw [Int.toNat_natCast, List.getD_eq_getElem?_getD, List.getElem?_eq_getElem h]; rfl
inductive Rch (L : Pair → List Pair) (S : Pair → Prop) : Pair → Prop
  | base {p : Pair} : S p → Rch L S p
  | step {p q : Pair} : Rch L S p → q ∈ L p → Rch L S q
theorem Rch.mono {L : Pair → List Pair} {S S' : Pair → Prop} (h : ∀ p, S p → Rch L S' p) {p : Pair} (hp : Rch L S p) : Rch L S' p := by
  induction hp with
  | base hs => exact h _ hs
  | step _ hq ih => exact ih.step hq
structure GInv (T : List (Pair × Int)) (s : Hads) : Prop where
  nodup : s.1.Nodup
  pos : ∀ q ∈ s.1, 0 < rnd T q
  len : s.2.length ≤ s.1.length
structure GStep (T : List (Pair × Int)) (cs : List Cred) (S : Pair → Prop) (s s' : Hads) : Prop where
  inv : GInv T s'
  sub : ∀ q ∈ s.1, q ∈ s'.1
  has : ∀ q, S q → q ∈ s'.1
  rch : ∀ q ∈ s'.1, q ∈ s.1 ∨ Rch (byL T cs) S q
  cls : ∀ q ∈ s'.1, q ∉ s.1 → ∀ r ∈ byL T cs q, r ∈ s'.1
  ids : ∀ i, i ∈ s'.2 ↔ i ∈ s.2 ∨ ∃ q ∈ s'.1, q ∉ s.1 ∧ (byC T cs q).f0 = i
theorem GStep.stay {T : List (Pair × Int)} {cs : List Cred} {S : Pair → Prop} {s : Hads} (h : GInv T s) (hS : ∀ q, S q → q ∈ s.1) : GStep T cs S s s :=
  ⟨h, fun _ h => h, hS, fun _ h => .inl h, fun _ h h' => absurd h h', fun i => ⟨.inl, fun h => h.elim id fun ⟨q, a, b, _⟩ => absurd a b⟩⟩
theorem GStep.trans {T : List (Pair × Int)} {cs : List Cred} {S S' : Pair → Prop} {s s' s'' : Hads} (h : GStep T cs S s s') (h' : GStep T cs S' s' s'') : GStep T cs (fun q => S q ∨ S' q) s s'' := by
  refine ⟨h'.inv, fun q hq => h'.sub q (h.sub q hq), fun q hq => hq.elim (fun hq => h'.sub q (h.has q hq)) (h'.has q), fun q hq => ?_, fun q hq hn r hr => ?_, fun i => ?_⟩
  · rcases h'.rch q hq with hq | hq
    · exact (h.rch q hq).imp id (Rch.mono fun p hp => .base (.inl hp))
    · exact .inr (Rch.mono (fun p hp => .base (.inr hp)) hq)
  · by_cases hm : q ∈ s'.1
    · exact h'.sub r (h.cls q hm hn r hr)
    · exact h'.cls q hq hm r hr
  · rw [h'.ids, h.ids]
    constructor
    · rintro ((hi | ⟨q, a, b, e⟩) | ⟨q, a, b, e⟩)
      · exact .inl hi
      · exact .inr ⟨q, h'.sub q a, b, e⟩
      · exact .inr ⟨q, a, fun hq => b (h.sub q hq), e⟩
    · rintro (hi | ⟨q, a, b, e⟩)
      · exact .inl (.inl hi)
      · by_cases hm : q ∈ s'.1
        · exact .inl (.inr ⟨q, hm, b, e⟩)
        · exact .inr ⟨q, a, hm, e⟩
theorem GStep.imp {T : List (Pair × Int)} {cs : List Cred} {S S' : Pair → Prop} {s s' : Hads} (h : GStep T cs S s s') (h1 : ∀ q, S' q → q ∈ s'.1) (h2 : ∀ q, S q → Rch (byL T cs) S' q) : GStep T cs S' s s' :=
  ⟨h.inv, h.sub, h1, fun q hq => (h.rch q hq).imp id (Rch.mono h2), h.cls, h.ids⟩
theorem GInv.length {T : List (Pair × Int)} {cs : List Cred} (hl : cs.length ≤ 20) (h : RndOf cs T) {s : Hads} (g : GInv T s) : s.1.length ≤ 400 ∧ s.2.length ≤ 400 := by
  have := said_400 hl g.nodup (fun q hq => h.said.mp (g.pos q hq)); have := g.len; omega
theorem gatherQ_is {T : List (Pair × Int)} {cs : List Cred} {F : Pair → Hads → Option Hads} : ∀ (qs : List Pair) (s : Hads), GInv T s → (∀ q ∈ qs, ∀ s, GInv T s → ∃ s', F q s = some s' ∧ GStep T cs (fun r => r = q) s s') → ∃ s', gatherQ F qs s = some s' ∧ GStep T cs (fun r => r ∈ qs) s s'
  | [], s, g, _ => ⟨s, rfl, .stay g fun q hq => by cases hq⟩
  | q :: qs, s, g, h => by
    obtain ⟨s1, h1, h2⟩ := h q (List.mem_cons_self ..) s g; obtain ⟨s2, h3, h4⟩ := gatherQ_is qs s1 h2.inv (fun r hr => h r (List.mem_cons_of_mem _ hr)); have ht := h2.trans h4; refine ⟨s2, by rw [gatherQ, h1, Option.bind_some, h3], ht.imp (fun r hr => ht.has r (List.mem_cons.mp hr)) (fun r hr => .base (List.mem_cons.mpr hr))⟩
theorem gather_is {cs : List Cred} (hm : Mays cs) (hl : cs.length ≤ 20) (hid : ∀ c ∈ cs, okID c.f0) {T : List (Pair × Int)} (h : RndOf cs T) : ∀ (k : Nat) (p : Pair), 0 < rnd T p → rnd T p ≤ k → ∀ s, GInv T s → ∃ s', finGather T cs k p s = some s' ∧ GStep T cs (fun q => q = p) s s'
  | 0, p, h0, h1, s, g => by omega
  | k + 1, p, h0, h1, s, g => by
    have b := by_of hm h h0; have hL : (byL T cs p).length ≤ 2 := b.way.length; have hs := g.length hl h; rw [finGather, if_pos ⟨b.ok, by omega, by omega⟩]
    by_cases hp : p ∈ s.1
    · rw [if_pos hp]
      exact ⟨s, rfl, .stay g fun q hq => by rw [hq]; exact hp⟩
    · rw [if_neg hp, b.fin, Option.bind_some]
      have hi : okID (byC T cs p).f0 := hid _ b.mem
      have g1 : GInv T (s.1 ++ [p], putS s.2 (byC T cs p).f0) := by
        refine ⟨?_, fun q hq => ?_, ?_⟩
        · rw [List.nodup_append]
          refine ⟨g.nodup, by simp, fun a ha c hc e => ?_⟩; rw [List.mem_singleton] at hc; subst hc e; exact hp ha
        · rcases List.mem_append.mp hq with hq | hq
          · exact g.pos q hq
          · rw [List.mem_singleton] at hq
            rw [hq]; exact h0
        · have := putS_length s.2 (byC T cs p).f0
          have := g.len
          show (putS s.2 (byC T cs p).f0).length ≤ (s.1 ++ [p]).length
          simp; omega
      obtain ⟨s', h2, h3⟩ := gatherQ_is (cs := cs) (F := finGather T cs k) (byL T cs p) _ g1 (fun q hq s g => gather_is hm hl hid h k q (b.less q hq).1 (by have := (b.less q hq).2; omega) s g)
      refine ⟨s', by
        show (if okID (byC T cs p).f0 ∧ (byL T cs p).length ≤ 2 then gatherQ (finGather T cs k) (byL T cs p) (s.1 ++ [p], putS s.2 (byC T cs p).f0) else none) = _
        rw [if_pos ⟨hi, hL⟩, h2], ?_⟩
      have hps : p ∈ s'.1 := h3.sub p (List.mem_append_right _ (List.mem_singleton.mpr rfl)); refine ⟨h3.inv, fun q hq => h3.sub q (List.mem_append_left _ hq), fun q hq => by rw [hq]; exact hps, fun q hq => ?_, fun q hq hn r hr => ?_, fun i => ?_⟩
      · have hb : Rch (byL T cs) (fun q => q = p) p := .base rfl
        rcases h3.rch q hq with hq | hq
        · rcases List.mem_append.mp hq with hq | hq
          · exact .inl hq
          · rw [List.mem_singleton] at hq
            exact .inr (.base hq)
        · exact .inr (Rch.mono (fun r hr => hb.step hr) hq)
      · by_cases e : q = p
        · subst e
          exact h3.has r hr
        · exact h3.cls q hq (fun hm => (List.mem_append.mp hm).elim hn fun hm => e (List.mem_singleton.mp hm)) r hr
      · rw [h3.ids]
        have hput : ∀ i, i ∈ putS s.2 (byC T cs p).f0 ↔ i ∈ s.2 ∨ i = (byC T cs p).f0 := fun i => by
          unfold putS
          by_cases hh : (byC T cs p).f0 ∈ s.2
          · rw [if_pos hh]
            exact ⟨.inl, fun h => h.elim id fun e => e ▸ hh⟩
          · rw [if_neg hh]
            simp
        show i ∈ putS s.2 (byC T cs p).f0 ∨ _ ↔ _
        rw [hput]; constructor
        · rintro ((hi | hi) | ⟨q, a, b, e⟩)
          · exact .inl hi
          · exact .inr ⟨p, hps, hp, hi.symm⟩
          · exact .inr ⟨q, a, fun hq => b (List.mem_append_left _ hq), e⟩
        · rintro (hi | ⟨q, a, b, e⟩)
          · exact .inl (.inl hi)
          · by_cases e' : q = p
            · subst e'
              exact .inl (.inr e.symm)
            · exact .inr ⟨q, a, fun hm => (List.mem_append.mp hm).elim b fun hm => e' (List.mem_singleton.mp hm), e⟩
theorem counts_apart (l : List Cred) : Apart (counts l) := (Qcf l).sorted.imp fun {a b} h e => by
  unfold credLess at h; rw [e] at h; omega
theorem okID_of {i : ID} (h0 : -9223372036854775808 ≤ i.f0 ∧ i.f0 ≤ 9223372036854775807) (h1 : -9223372036854775808 ≤ i.f1 ∧ i.f1 ≤ 9223372036854775807) : okID i := by
  have e1 : IntKind.i64.min = -9223372036854775808 := by decide
  have e2 : IntKind.i64.max = 9223372036854775807 := by decide
  constructor
  · show (decide (IntKind.i64.min ≤ i.f0) && decide (i.f0 ≤ IntKind.i64.max)) = true
    rw [e1, e2, decide_eq_true h0.1, decide_eq_true h0.2]; rfl
  · show (decide (IntKind.i64.min ≤ i.f1) && decide (i.f1 ≤ IntKind.i64.max)) = true
    rw [e1, e2, decide_eq_true h1.1, decide_eq_true h1.2]; rfl
theorem counts_good (l : List Cred) : ∀ c ∈ counts l, okID c.f0 := fun c h => by
  have := counts_may h; unfold credMay at this; simp only [Bool.and_eq_true, decide_eq_true_eq] at this; obtain ⟨⟨⟨h0, h1⟩, _⟩, _⟩ := this; exact okID_of (by omega) (by omega)
def errOf (b : Bool) : Int := if b = true then 0 else 15
def Asked (rs : List S24) (who : ByteArray) (q : Pair) : Prop := ∃ r ∈ rs, q = ⟨r, who⟩
theorem supAll_is {cs : List Cred} (hm : Mays cs) (hl : cs.length ≤ 20) (hid : ∀ c ∈ cs, okID c.f0) {T : List (Pair × Int)} (h : RndOf cs T) (who : ByteArray) : ∀ (rs : List S24) (s : Hads), GInv T s → (∀ r ∈ rs, okPair ⟨r, who⟩) →
    ((∀ r ∈ rs, Said cs ⟨r, who⟩) → ∃ s', supAll T cs who rs s = some (some s') ∧ GStep T cs (Asked rs who) s s') ∧ ((∃ r ∈ rs, ¬ Said cs ⟨r, who⟩) → supAll T cs who rs s = some none)
  | [], s, g, _ => ⟨fun _ => ⟨s, rfl, .stay g fun q ⟨r, hr, _⟩ => by cases hr⟩, fun ⟨r, hr, _⟩ => by cases hr⟩
  | r :: rs, s, g, hok => by
    rw [supAll, if_pos (hok r (List.mem_cons_self ..))]
    by_cases h0 : 0 < rnd T ⟨r, who⟩
    · have hle := h.le ⟨r, who⟩
      have hsq := Nat.mul_le_mul hl hl; rw [if_neg (by omega)]; obtain ⟨s1, h1, h2⟩ := gather_is hm hl hid h 1000 ⟨r, who⟩ h0 (by omega) s g; rw [h1, Option.bind_some]; have ih := supAll_is hm hl hid h who rs s1 h2.inv (fun x hx => hok x (List.mem_cons_of_mem _ hx)); refine ⟨fun hs => ?_, fun ⟨x, hx, hn⟩ => ih.2 ?_⟩
      · obtain ⟨s2, h3, h4⟩ := ih.1 fun x hx => hs x (List.mem_cons_of_mem _ hx)
        have ht := h2.trans h4; refine ⟨s2, h3, ht.imp (fun q hq => ht.has q ?_) (fun q hq => .base ?_)⟩
        · obtain ⟨x, hx, e⟩ := hq
          rcases List.mem_cons.mp hx with rfl | hx
          · exact .inl e
          · exact .inr ⟨x, hx, e⟩
        · rcases hq with e | ⟨x, hx, e⟩
          · exact ⟨r, List.mem_cons_self .., e⟩
          · exact ⟨x, List.mem_cons_of_mem _ hx, e⟩
      · rcases List.mem_cons.mp hx with rfl | hx
        · exact absurd (h.said.mp h0) hn
        · exact ⟨x, hx, hn⟩
    · have hn := h.nn ⟨r, who⟩
      rw [if_pos (by omega)]; exact ⟨fun hs => absurd (h.said.mpr (hs r (List.mem_cons_self ..))) h0, fun _ => rfl⟩
def SupOf (T : List (Pair × Int)) (cs : List Cred) (rs : List S24) (who : ByteArray) (i : ID) : Prop := ∃ q, Rch (byL T cs) (Asked rs who) q ∧ (byC T cs q).f0 = i
theorem support_is (l : List Cred) (hl : l.length < 21) (hok : ∀ c ∈ l, okCred c) {A : List Pair} {T : List (Pair × Int)} (hA : AllOf (counts l) A) (hT : RndOf (counts l) T) (hf : foundF l = some (counts l, A, T)) (who : ByteArray) (rs : List S24) (hrs : ∀ r ∈ rs, okPair ⟨r, who⟩) :
    ((∀ r ∈ rs, Said (counts l) ⟨r, who⟩) → ∃ H : List ID, supportF l who rs = some (supIDs H (counts l), 0) ∧ ∀ i, i ∈ H ↔ SupOf T (counts l) rs who i) ∧ ((∃ r ∈ rs, ¬ Said (counts l) ⟨r, who⟩) → supportF l who rs = some ([], 16)) := by
  have hlen := QbH l
  have g0 : GInv T (([], []) : Hads) := ⟨List.nodup_nil, (fun q hq => by cases hq), Nat.le_refl _⟩
  have h := supAll_is (QbR l) (by omega) (counts_good l) hT who rs ([], []) g0 hrs; unfold supportF; rw [hf, Option.bind_some]; refine ⟨fun hs => ?_, fun hn => ?_⟩
  · obtain ⟨s', h1, h2⟩ := h.1 hs
    have hlen' := h2.inv.length (by omega) hT; refine ⟨s'.2, ?_, fun i => ?_⟩
    · show ((supAll T (counts l) who rs ([], [])).bind _) = _
      rw [h1, Option.bind_some]
      show (if s'.2.length ≤ 1000000 ∧ (∀ c ∈ counts l, okID c.f0) then some (supIDs s'.2 (counts l), (0 : Int)) else none) = _
      rw [if_pos ⟨by omega, counts_good l⟩]
    · have hr : ∀ q, Rch (byL T (counts l)) (Asked rs who) q → q ∈ s'.1 := fun q hq => by
        induction hq with
        | base hs => exact h2.has _ hs
        | step _ hq ih => exact h2.cls _ ih (by simp) _ hq
      rw [h2.ids]; constructor
      · rintro (hi | ⟨q, a, _, e⟩)
        · cases hi
        · exact ⟨q, (h2.rch q a).resolve_left (by simp), e⟩
      · rintro ⟨q, a, e⟩
        exact .inr ⟨q, hr q a, by simp, e⟩
  · show ((supAll T (counts l) who rs ([], [])).bind _) = _
    rw [h.2 hn, Option.bind_some]
theorem counts_self {R : List Cred} (hs : R.Pairwise credLess) (hm : ∀ c ∈ R, credMay c = true) : counts R = R := by
  refine (Qcf R).unique ⟨hs, fun c => ⟨fun hc => ?_, First.mem⟩⟩; unfold First
  induction R with
  | nil => cases hc
  | cons d R ih =>
    have h' := List.pairwise_cons.mp hs; rw [List.find?_cons]
    rcases List.mem_cons.mp hc with rfl | hc
    · rw [hm c (List.mem_cons_self ..), QbI.mpr ⟨rfl, rfl⟩]
      rfl
    · have : sameID d c = false := by
        rw [Bool.eq_false_iff, Ne, QbI]; have := h'.1 c hc; unfold credLess at this; omega
      rw [this, Bool.and_false]; exact ih h'.2 (fun c hc => hm c (List.mem_cons_of_mem _ hc)) hc
def xe1 : Cred := ⟨⟨1, 1⟩, ⟨#[97]⟩, 2, ⟨#[]⟩, ⟨⟨#[100, 50]⟩, ⟨#[98]⟩⟩, ⟨⟨#[]⟩, ⟨#[]⟩⟩⟩
def xe2 : Cred := ⟨⟨1, 2⟩, ⟨#[97]⟩, 1, ⟨#[97, 110, 110]⟩, ⟨⟨#[]⟩, ⟨#[]⟩⟩, ⟨⟨#[]⟩, ⟨#[]⟩⟩⟩
def xe3 : Cred := ⟨⟨2, 1⟩, ⟨#[98]⟩, 1, ⟨#[97, 110, 110]⟩, ⟨⟨#[]⟩, ⟨#[]⟩⟩, ⟨⟨#[]⟩, ⟨#[]⟩⟩⟩
def xes : List Cred := [xe1, xe2, xe3]
def xRa : S24 := ⟨⟨#[100, 49]⟩, ⟨#[97]⟩⟩
def xRb : S24 := ⟨⟨#[100, 50]⟩, ⟨#[98]⟩⟩
def xAnn : ByteArray := ⟨#[97, 110, 110]⟩
def xBob : ByteArray := ⟨#[98, 111, 98]⟩
theorem noText8 (s : ByteArray) : noText s = decide (s = ⟨#[]⟩) := by
  unfold noText; rw [Bool.eq_iff_iff, beq_iff_eq, empty_iff, decide_eq_true_eq]
theorem xes_mem {c : Cred} (h : c ∈ xes) : c = xe1 ∨ c = xe2 ∨ c = xe3 := by simpa [xes] using h
theorem xes_may : ∀ c ∈ xes, credMay c = true := fun c hc => by
  rcases xes_mem hc with rfl | rfl | rfl <;> (unfold credMay roleOk bareOk noRole; simp only [noText8]; decide)
theorem Qcn : counts xes = xes := counts_self (by
  unfold xes credLess; simp only [List.pairwise_cons]; refine ⟨fun a ha => ?_, fun a ha => ?_, (fun a ha => by cases ha), List.Pairwise.nil⟩
  · simp only [List.mem_cons, List.not_mem_nil, or_false] at ha
    rcases ha with rfl | rfl <;> decide
  · simp only [List.mem_cons, List.not_mem_nil, or_false] at ha
    rcases ha with rfl
    decide) xes_may
theorem xes_ok : ∀ c ∈ xes, okCred c := fun c hc => by
  rcases xes_mem hc with rfl | rfl | rfl <;> exact ⟨by decide, by decide, ⟨by decide, by decide⟩, by decide, by decide⟩
theorem xm2 : xe2 ∈ xes := .tail _ (.head _)
theorem xm3 : xe3 ∈ xes := .tail _ (.tail _ (.head _))
theorem kkA : KK xes 1 ⟨xRa, xAnn⟩ := ⟨xe2, xm2, [], .member rfl rfl rfl, fun q hq => by cases hq⟩
theorem kkB : KK xes 1 ⟨xRb, xAnn⟩ := ⟨xe3, xm3, [], .member rfl rfl rfl, fun q hq => by cases hq⟩
theorem notBob : ¬ Said xes ⟨xRa, xBob⟩ := fun h => by
  obtain ⟨_, c, hc, hk, e⟩ := h.within
  rcases xes_mem hc with rfl | rfl | rfl
  · exact absurd hk (by decide)
  · exact absurd e (by decide)
  · exact absurd e (by decide)
theorem one_by {cs : List Cred} (hm : Mays cs) {T : List (Pair × Int)} (h : RndOf cs T) {p : Pair} (hk : KK cs 1 p) : rnd T p = 1 ∧ byL T cs p = [] ∧ byC T cs p ∈ cs ∧ (byC T cs p).f2 = 1 ∧ credRole (byC T cs p) = p.f0 := by
  obtain ⟨h0, h1⟩ := h.least hk; have b := by_of hm h h0
  have e : rnd T p = 1 := by omega
  have hn : ∀ q ∈ byL T cs p, False := fun q hq => by
    have := b.less q hq; unfold inB at this; omega
  have hw := b.way; have hcm := b.mem; clear b
  generalize byL T cs p = L at hn hw ⊢
  generalize byC T cs p = c at hw hcm ⊢
  refine ⟨e, ?_, hcm, ?_, hw.role⟩
  · cases L with
    | nil => rfl
    | cons q L => exact (hn q (List.mem_cons_self ..)).elim
  · cases hw with
    | member _ k _ => exact k
    | incl _ _ => exact (hn _ (List.mem_cons_self ..)).elim
    | link _ _ _ _ _ => exact (hn _ (List.mem_cons_self ..)).elim
    | both _ _ => exact (hn _ (List.mem_cons_self ..)).elim
theorem xes_found : ∃ A T, RndOf xes T ∧ AllOf xes A ∧ foundF xes = some (xes, A, T) := by
  obtain ⟨A, T, h1, h2, h3⟩ := found_is xes (by decide) xes_ok; rw [Qcn] at h1 h2 h3; exact ⟨A, T, h2, h1, h3⟩
theorem xes_mays : Mays xes := xes_may
theorem byA {T : List (Pair × Int)} (h : RndOf xes T) : rnd T ⟨xRa, xAnn⟩ = 1 ∧ byL T xes ⟨xRa, xAnn⟩ = [] ∧ byC T xes ⟨xRa, xAnn⟩ = xe2 := by
  obtain ⟨a, b, c, d, e⟩ := one_by xes_mays h kkA; refine ⟨a, b, ?_⟩
  rcases xes_mem c with hc | hc | hc
  · rw [hc] at d
    exact absurd d (by decide)
  · exact hc
  · rw [hc] at e
    exact absurd e (by decide)
theorem byB {T : List (Pair × Int)} (h : RndOf xes T) : rnd T ⟨xRb, xAnn⟩ = 1 ∧ byL T xes ⟨xRb, xAnn⟩ = [] ∧ byC T xes ⟨xRb, xAnn⟩ = xe3 := by
  obtain ⟨a, b, c, d, e⟩ := one_by xes_mays h kkB; refine ⟨a, b, ?_⟩
  rcases xes_mem c with hc | hc | hc
  · rw [hc] at d
    exact absurd d (by decide)
  · rw [hc] at e
    exact absurd e (by decide)
  · exact hc
theorem xes_support : ∃ X : List ID, supportF xes xAnn [xRa, xRb] = some (X, 0) ∧ X.length = 2 := by
  obtain ⟨A, T, hT, hA, hf⟩ := xes_found; have hT' := hT; have hA' := hA; have hf' := hf; rw [← Qcn] at hT' hA' hf'
  have hok : ∀ r ∈ [xRa, xRb], okPair ⟨r, xAnn⟩ := fun r hr => by
    simp only [List.mem_cons, List.not_mem_nil, or_false] at hr
    rcases hr with rfl | rfl <;> exact ⟨by decide, by decide, by decide⟩
  obtain ⟨H, h1, h2⟩ := (support_is xes (by decide) xes_ok hA' hT' (by rw [Qcn] at hf'; rw [Qcn]; exact hf) xAnn [xRa, xRb] hok).1 (fun r hr => by
    rw [Qcn]; simp only [List.mem_cons, List.not_mem_nil, or_false] at hr
    rcases hr with rfl | rfl
    · exact kkA.said
    · exact kkB.said)
  rw [Qcn] at h1 h2; refine ⟨_, h1, ?_⟩
  have hr : ∀ q, Rch (byL T xes) (Asked [xRa, xRb] xAnn) q → q = ⟨xRa, xAnn⟩ ∨ q = ⟨xRb, xAnn⟩ := fun q hq => by
    induction hq with
    | base hs =>
      obtain ⟨r, hr, rfl⟩ := hs; simp only [List.mem_cons, List.not_mem_nil, or_false] at hr
      rcases hr with rfl | rfl
      · exact .inl rfl
      · exact .inr rfl
    | step _ hq ih =>
      rcases ih with rfl | rfl
      · rw [(byA hT).2.1] at hq
        cases hq
      · rw [(byB hT).2.1] at hq
        cases hq
  have h12 : (⟨1, 2⟩ : ID) ∈ H := (h2 _).mpr ⟨_, .base ⟨xRa, List.mem_cons_self .., rfl⟩, by rw [(byA hT).2.2]; rfl⟩; have h21 : (⟨2, 1⟩ : ID) ∈ H := (h2 _).mpr ⟨_, .base ⟨xRb, .tail _ (.head _), rfl⟩, by rw [(byB hT).2.2]; rfl⟩
  have h11 : (⟨1, 1⟩ : ID) ∉ H := fun hh => by
    obtain ⟨q, hq, e⟩ := (h2 _).mp hh
    rcases hr q hq with rfl | rfl
    · rw [(byA hT).2.2] at e
      exact absurd e (by decide)
    · rw [(byB hT).2.2] at e
      exact absurd e (by decide)
  unfold supIDs xes; rw [List.length_map, List.filter_cons, if_neg (show ¬ decide (xe1.f0 ∈ H) = true from fun h => h11 (of_decide_eq_true h)), List.filter_cons, if_pos (decide_eq_true (show xe2.f0 ∈ H from h12)), List.filter_cons, if_pos (decide_eq_true (show xe3.f0 ∈ H from h21))]; rfl
theorem rnd_1000 {l : List Cred} (hl : l.length < 21) {T : List (Pair × Int)} (hT : RndOf (counts l) T) (p : Pair) : rnd T p ≤ 400 := by
  have h1 := hT.le p; have h2 := QbH l; have h3 := Nat.mul_le_mul (show (counts l).length ≤ 20 by omega) (show (counts l).length ≤ 20 by omega); omega
theorem find_said {l : List Cred} (hl : l.length < 21) {A : List Pair} {T : List (Pair × Int)} (hT : RndOf (counts l) T) (hf : foundF l = some (counts l, A, T)) {p : Pair} (h0 : 0 < rnd T p) :
    Qa4.f l p.f1 p.f0.f0 p.f0.f1 = some (p.f0.f0, p.f0.f1, p.f1, (byC T (counts l) p).f0.f0, (byC T (counts l) p).f0.f1, (pf T (counts l) 1000 p).f3, 0) := by
  have b := by_of (QbR l) hT h0; have h1 := rnd_1000 hl hT p; unfold Qa4.f; rw [hf, Option.bind_some, if_pos (show okPair ⟨⟨p.f0.f0, p.f0.f1⟩, p.f1⟩ from b.ok), if_neg (show ¬ rnd T ⟨⟨p.f0.f0, p.f0.f1⟩, p.f1⟩ = 0 by show ¬ rnd T p = 0; omega)]
  show (finProof T (counts l) 1000 p).map _ = _
  rw [finProof_is (QbR l) hT 1000 p h0 (by omega)]; rfl
theorem find_not {l : List Cred} {A : List Pair} {T : List (Pair × Int)} (hT : RndOf (counts l) T) (hf : foundF l = some (counts l, A, T)) {p : Pair} (hp : okPair p) (h0 : ¬ 0 < rnd T p) :
    Qa4.f l p.f1 p.f0.f0 p.f0.f1 = some (⟨#[]⟩, ⟨#[]⟩, ⟨#[]⟩, 0, 0, [], 16) := by
  have := hT.nn p; unfold Qa4.f; rw [hf, Option.bind_some, if_pos (show okPair ⟨⟨p.f0.f0, p.f0.f1⟩, p.f1⟩ from hp), if_pos (show rnd T ⟨⟨p.f0.f0, p.f0.f1⟩, p.f1⟩ = 0 by show rnd T p = 0; omega)]
theorem round_is {l : List Cred} {A : List Pair} {T : List (Pair × Int)} (hf : foundF l = some (counts l, A, T)) {p : Pair} (hp : okPair p) : Qbs.f l p.f1 p.f0.f0 p.f0.f1 = some (rnd T p) := by
  unfold Qbs.f; rw [hf, Option.bind_some, if_pos (show okPair ⟨⟨p.f0.f0, p.f0.f1⟩, p.f1⟩ from hp)]
theorem okAnn : okPair ⟨xRa, xAnn⟩ := ⟨by decide, by decide, by decide⟩
theorem okBob : okPair ⟨xRa, xBob⟩ := ⟨by decide, by decide, by decide⟩
theorem lives8 : Qa1.f = some true := by
  obtain ⟨A, T, hA, hT, hf⟩ := found_is xes (by decide) xes_ok; have hT' := hT; rw [Qcn] at hT'; have h0 : 0 < rnd T ⟨xRa, xAnn⟩ := (hT'.least kkA).1
  have e1 : Qa4.f xes xAnn xRa.f0 xRa.f1 = some (xRa.f0, xRa.f1, xAnn, 1, 2, (pf T (counts xes) 1000 ⟨xRa, xAnn⟩).f3, 0) := by
    have := find_said (p := ⟨xRa, xAnn⟩) (by decide) hT hf h0; rw [Qcn] at this ⊢; rw [(byA hT').2.2] at this; exact this
  have e2 : Qa4.f xes xBob xRa.f0 xRa.f1 = some (⟨#[]⟩, ⟨#[]⟩, ⟨#[]⟩, 0, 0, [], 16) := find_not (p := ⟨xRa, xBob⟩) hT hf okBob (fun h => notBob (hT'.said.mp h))
  have e3 : Qbs.f xes xAnn xRa.f0 xRa.f1 = some 1 := by
    have := round_is (p := ⟨xRa, xAnn⟩) hf okAnn; rw [(byA hT').1] at this; exact this
  obtain ⟨X, e4, hX⟩ := xes_support
  have e4' : Qbo.f xes xAnn [xRa, xRb] = some (X, 0) := by
    unfold Qbo.f; rw [if_pos (by decide), e4]
  unfold Qa1.f
  show (Qa4.f xes xAnn xRa.f0 xRa.f1).bind _ = _
  rw [e1, Option.bind_some]
  show (Qa4.f xes xBob xRa.f0 xRa.f1).bind _ = _
  rw [e2, Option.bind_some]
  show (Qbo.f xes xAnn [xRa, xRb]).bind _ = _
  rw [e4', Option.bind_some]
  show (Qbs.f xes xAnn xRa.f0 xRa.f1).bind (fun t132 => if t132 = 1 then (if (X.length : Int) = 2 then some true else _) else _) = _
  rw [e3, Option.bind_some, if_pos rfl, if_pos (by rw [hX]; rfl)]
theorem few8 (l : List Cred) : Qbj.f l = some (l.take 9) := by
  unfold Qbj.f
  by_cases h : (l.length : Int) > 9
  · rw [if_pos h, if_pos (by omega)]
  · rw [if_neg h, List.take_of_length_le (by omega)]
theorem take9 (l : List Cred) : (l.take 9).length ≤ 9 := by simp; omega
theorem take9_ok {l : List Cred} (h : ∀ c ∈ l, okCred c) : ∀ c ∈ l.take 9, okCred c := fun c hc => h c (List.mem_of_mem_take hc)
theorem refRole20 (c : Cred) : QaW.f 20 c.f0.f0 c.f0.f1 c.f1 c.f2 c.f3 c.f4.f0 c.f4.f1 c.f5.f0 c.f5.f1 = some ((credRole c).f0, (credRole c).f1) := by
  unfold QaW.f; rw [refDomain_is]; rfl
theorem refFirst20 (c : Cred) : QaR.f 20 c.f0.f0 c.f0.f1 c.f1 c.f2 c.f3 c.f4.f0 c.f4.f1 c.f5.f0 c.f5.f1 = some ((chkFirst c).f0, (chkFirst c).f1) := by
  unfold QaR.f; rw [refDomain_is]; rfl
theorem bindAnd2 (x y : Bool) {z : Option Bool} (h : z = some y) : ((some x).bind fun b => if b = true then z else some false) = some (x && y) := bindAnd x y z h
theorem ofN_is {cs : List Cred} (hk : ∀ c ∈ cs, c.f2 = 1 ∨ c.f2 = 2 ∨ c.f2 = 3 ∨ c.f2 = 4) : ∀ (k : Nat) (p : Proof), dep p < k → ∀ role who, ofN cs k p role who = some (chkPart (chk cs k) p role who)
  | 0, p, h, _, _ => by omega
  | k + 1, p, h, role, who => by
    have hq := fun q (hq : q ∈ p.f3) => ofN_is hk k q (by have := dep_mem hq; omega)
    unfold ofN ofStep chkPart
    by_cases e0 : p.f0 = role
    · rw [if_pos e0, decide_eq_true e0, Bool.true_and]
      by_cases e1 : p.f1 = who
      · rw [if_pos e1, decide_eq_true e1, Bool.true_and]
        subst e0 e1; unfold ofAt; rw [chk]
        cases hf : cs.find? fun c => decide (c.f0 = p.f2) with
        | none => rfl
        | some c =>
          have hkc := hk c (List.mem_of_find?_eq_some hf); simp only; unfold ofHit; rw [refRole20, Option.bind_some]
          by_cases er : credRole c = p.f0
          · rw [if_pos (show (⟨(credRole c).f0, (credRole c).f1⟩ : Role) = p.f0 from er), decide_eq_true er, Bool.true_and]
            unfold ofBy chkBy
            by_cases k1 : c.f2 = 1
            · rw [if_pos k1, if_pos k1]
            · rw [if_neg k1, if_neg k1]
              by_cases k2 : c.f2 = 2
              · rw [if_pos k2, if_neg (show ¬ c.f2 = 3 by omega), if_neg (show ¬ c.f2 = 4 by omega)]
                by_cases hl : p.f3.length = 1
                · rw [if_pos hl, decide_eq_true hl, Bool.true_and]
                  exact hq _ (pt_mem0 (by omega)) _ _
                · rw [if_neg hl, decide_eq_false hl, Bool.false_and]
              · rw [if_neg k2]
                by_cases hl : p.f3.length = 2
                · rw [if_pos hl]
                  by_cases k4 : c.f2 = 4
                  · rw [if_pos k4, if_neg (show ¬ c.f2 = 3 by omega), if_pos k4, decide_eq_true hl, Bool.true_and, hq _ (pt_mem0 (by omega))]
                    exact bindAnd2 _ _ (hq _ (pt_mem1 (by omega)) _ _)
                  · rw [if_neg k4, if_pos (show c.f2 = 3 by omega), decide_eq_true hl, Bool.true_and]
                    unfold ofLink; have hnn := numName_nonneg (pt p 0).f1; rw [show Qar.f 20 (pt p 0).f1 = some (numName (pt p 0).f1) from refNumber_is _ 18, Option.bind_some, refFirst20]
                    by_cases hz : numName (pt p 0).f1 = 0
                    · rw [if_neg (show ¬ numName (pt p 0).f1 > 0 by omega), decide_eq_false (by simpa using hz), Bool.false_and]
                    · rw [decide_eq_true hz, Bool.true_and, if_pos (show numName (pt p 0).f1 > 0 by omega), Option.bind_some, hq _ (pt_mem0 (by omega))]
                      exact bindAnd2 _ _ (hq _ (pt_mem1 (by omega)) _ _)
                · rw [if_neg hl]
                  by_cases k3 : c.f2 = 3
                  · rw [if_pos k3, decide_eq_false hl, Bool.false_and]
                  · rw [if_neg k3, if_pos (by omega), decide_eq_false hl, Bool.false_and]
          · rw [if_neg (show ¬ (⟨(credRole c).f0, (credRole c).f1⟩ : Role) = p.f0 from er), decide_eq_false er, Bool.false_and]
      · rw [if_neg e1, decide_eq_false e1, Bool.false_and]
    · rw [if_neg e0, decide_eq_false e0, Bool.false_and]
theorem refCheck_ev (l : List Cred) (p : Proof) (hl : l.length < 21) (hd : dep p < 200) : Ev (fun k => Qa0.f k l p.f0.f0 p.f0.f1 p.f1 p.f2.f0 p.f2.f1 p.f3) (errOf (chk (counts l) 200 p)) := by
  have h1 := QbH l; refine Ev.bind (refCounts_is l (by omega)) ?_; have h := ofN_is (counts_kind (l := l)) 200 p hd p.f0 p.f1; unfold chkPart at h; rw [decide_eq_true rfl, decide_eq_true rfl, Bool.true_and, Bool.true_and] at h; refine Ev.bind (a := chk (counts l) 200 p) ⟨0, fun _ _ => ?_⟩ ?_
  · unfold QbA.f
    rw [if_pos (by omega)]; exact h
  unfold errOf; cases chk (counts l) 200 p
  · exact Ev.pure _
  · exact Ev.pure _
theorem pf_ok {cs : List Cred} (hm : Mays cs) (hid : ∀ c ∈ cs, okID c.f0) {T : List (Pair × Int)} (h : RndOf cs T) : ∀ (k : Nat) (p : Pair), 0 < rnd T p → rnd T p ≤ k → okTree (pf T cs k p)
  | 0, p, h0, h1 => by omega
  | k + 1, p, h0, h1 => by
    have b := by_of hm h h0; intro i hi; rw [ids_eq] at hi
    rcases List.mem_cons.mp hi with rfl | hi
    · exact hid _ b.mem
    · have hi' : i ∈ idsL ((byL T cs p).map (pf T cs k)) := hi
      have key : ∀ L : List Pair, (∀ q ∈ L, q ∈ byL T cs p) → i ∈ idsL (L.map (pf T cs k)) → okID i := fun L => by
        induction L with
        | nil => intro _ h; rw [List.map_nil, idsL_nil] at h; cases h
        | cons q L ih =>
          intro hL h'; rw [List.map_cons, idsL_cons, List.mem_append] at h'; have hq := b.less q (hL q (List.mem_cons_self ..))
          rcases h' with h' | h'
          · exact pf_ok hm hid h k q hq.1 (by have := hq.2; omega) i h'
          · exact ih (fun r hr => hL r (List.mem_cons_of_mem _ hr)) h'
      exact key _ (fun _ h => h) hi'
theorem pf_fuel {cs : List Cred} (hm : Mays cs) {T : List (Pair × Int)} (h : RndOf cs T) : ∀ (k j : Nat) (p : Pair), 0 < rnd T p → rnd T p ≤ k → rnd T p ≤ j → pf T cs k p = pf T cs j p
  | 0, j, p, h0, h1, h2 => by omega
  | k + 1, 0, p, h0, h1, h2 => by omega
  | k + 1, j + 1, p, h0, h1, h2 => by
    have b := by_of hm h h0
    have e : (byL T cs p).map (pf T cs k) = (byL T cs p).map (pf T cs j) := List.map_congr_left fun q hq => pf_fuel hm h k j q (b.less q hq).1 (by have := (b.less q hq).2; omega) (by have := (b.less q hq).2; omega)
    show (⟨p.f0, p.f1, (byC T cs p).f0, (byL T cs p).map (pf T cs k)⟩ : Proof) = ⟨p.f0, p.f1, (byC T cs p).f0, (byL T cs p).map (pf T cs j)⟩
    rw [e]
theorem pf_is {l : List Cred} (hl : l.length < 15) {T : List (Pair × Int)} (hT : RndOf (counts l) T) {p : Pair} (h0 : 0 < rnd T p) : chk (counts l) 200 (pf T (counts l) 1000 p) = true ∧ dep (pf T (counts l) 1000 p) < 200 ∧ rnd T p ≤ 196 := by
  have h1 := hT.le p; have h2 := QbH l; have h3 := Nat.mul_le_mul (show (counts l).length ≤ 14 by omega) (show (counts l).length ≤ 14 by omega); have hd := pf_dep (QbR l) hT 1000 p h0 (by omega); rw [pf_fuel (QbR l) hT 1000 200 p h0 (by omega) (by omega)] at hd ⊢; exact ⟨pf_chk (QbR l) (counts_apart l) hT 200 p h0 (by omega), by omega, by omega⟩
theorem chk_more {cs cs' : List Cred} : ∀ (n : Nat) (p : Proof), (∀ i ∈ ids p, ∀ c, cs.find? (fun c => decide (c.f0 = i)) = some c → cs'.find? (fun c => decide (c.f0 = i)) = some c) → chk cs n p = true → chk cs' n p = true
  | 0, p, _, h => by rw [chk] at h; cases h
  | n + 1, p, hi, h => by
    obtain ⟨c, hf, hr, hb⟩ := chk_some h; exact chk_mk (hi _ (self_ids p) c hf) hr (chkBy_sub hb (fun q hq h => chk_more n q (fun i hm => hi i (mem_ids hq i hm)) h)).2
theorem idsL_mem : ∀ {ps : List Proof} {i : ID}, i ∈ idsL ps → ∃ q ∈ ps, i ∈ ids q
  | [], i, h => by rw [idsL_nil] at h; cases h
  | p :: ps, i, h => by
    rw [idsL_cons, List.mem_append] at h
    rcases h with h | h
    · exact ⟨p, List.mem_cons_self .., h⟩
    · obtain ⟨q, hq, hi⟩ := idsL_mem h
      exact ⟨q, List.mem_cons_of_mem _ hq, hi⟩
theorem chk_ids {cs : List Cred} : ∀ (n : Nat) (p : Proof), chk cs n p = true → ∀ i ∈ ids p, ∃ c ∈ cs, c.f0 = i
  | 0, p, h => by rw [chk] at h; cases h
  | n + 1, p, h => by
    obtain ⟨c, hf, hr, hb⟩ := chk_some h; intro i hi; rw [ids_eq] at hi
    rcases List.mem_cons.mp hi with rfl | hi
    · exact ⟨c, List.mem_of_find?_eq_some hf, of_decide_eq_true (List.find?_some (p := fun c : Cred => decide (c.f0 = p.f2)) hf)⟩
    · obtain ⟨q, hq, hi⟩ := idsL_mem hi
      exact chk_ids n q ((chkBy_sub hb (fun _ _ h => h)).1 q hq) i hi
theorem find_same {cs cs' : List Cred} (ha : Apart cs') {i : ID} (hs : ∀ c ∈ cs, c.f0 = i → c ∈ cs') {c : Cred} (h : cs.find? (fun c => decide (c.f0 = i)) = some c) : cs'.find? (fun c => decide (c.f0 = i)) = some c := by
  have e : c.f0 = i := of_decide_eq_true (List.find?_some (p := fun c : Cred => decide (c.f0 = i)) h); have := findApart ha (hs c (List.mem_of_find?_eq_some h) e); rw [e] at this; exact this
theorem ids_l0 (p : Proof) (hc : cnt p < 1000000000) (ih : ∀ q ∈ p.f3, Ev (fun k => QaU.f k q.f0.f0 q.f0.f1 q.f1 q.f2.f0 q.f2.f1 q.f3) (ids q)) : ∀ (n i : Nat) (out : List ID), n + i = p.f3.length → out.length + (idsL (p.f3.drop i)).length ≤ cnt p → Ev (fun k => QaU.l0 k out (i : Int) p.f0.f0 p.f0.f1 p.f1 p.f2.f0 p.f2.f1 p.f3) (out ++ idsL (p.f3.drop i))
  | 0, i, out, hn, ho => by
    rw [List.drop_eq_nil_of_le (by omega), idsL_nil, List.append_nil]; refine Ev.step (fun k => ?_) (Ev.pure _); rw [QaU.l0, if_neg (by omega)]
  | n + 1, i, out, hn, ho => by
    have hi : i < p.f3.length := by omega
    have hl := parts_lt p; rw [dropP p.f3 i hi, idsL_cons] at ho ⊢; rw [List.length_append] at ho; refine Ev.stepBind (h := fun k t => if out.length + t.length < 8796093022208 then QaU.l0 k (out ++ t) ((i + 1 : Nat) : Int) p.f0.f0 p.f0.f1 p.f1 p.f2.f0 p.f2.f1 p.f3 else none) (fun k => ?_) (ih _ (List.getElem_mem hi)) ?_
    · rw [QaU.l0, if_pos (by omega), if_pos (by omega), wrapN (by omega), rdP p.f3 i hi]
    · simp only [if_pos (show out.length + (ids p.f3[i]).length < 8796093022208 by omega)]
      rw [← List.append_assoc]; exact ids_l0 p hc ih n (i + 1) (out ++ ids p.f3[i]) (by omega) (by rw [List.length_append]; omega)
theorem ids_ev : ∀ p : Proof, cnt p < 1000000000 → Ev (fun k => QaU.f k p.f0.f0 p.f0.f1 p.f1 p.f2.f0 p.f2.f1 p.f3) (ids p) := treeInd fun p ih hc => by
  have := ids_l0 p hc (fun q hq => ih q hq (by have := cnt_mem hq; omega)) p.f3.length 0 [p.f2] (by omega) (by
    rw [List.drop_zero]; unfold cnt; rw [ids_eq, List.length_cons, List.length_cons, List.length_nil]
    omega)
  rw [List.drop_zero, List.singleton_append, ← ids_eq] at this; refine Ev.step (fun k => ?_) this; rw [QaU.f]; rfl
def aloneOf (l : List Cred) (s : List ID) : List Cred := (counts l).filter fun c => decide (c.f0 ∈ s)
theorem alone_counts (l : List Cred) (s : List ID) : counts (aloneOf l s) = aloneOf l s :=
  counts_self ((Qcf l).sorted.filter _) fun c hc => counts_may (List.mem_filter.mp hc).1
theorem toR_mem {A : List Pair} {p : Pair} : (⟨p.f0, p.f1⟩ : RPair) ∈ A.map toR ↔ p ∈ A := by
  rw [List.mem_map]; constructor
  · rintro ⟨q, hq, e⟩
    have h0 : q.f0 = p.f0 := congrArg (·.f0) e; have h1 : q.f1 = p.f1 := congrArg (·.f1) e; rw [← QbN h0 h1]; exact hq
  · exact fun h => ⟨p, h, rfl⟩
theorem refHas_ev {l : List Cred} (hl : l.length ≤ 20) {A : List Pair} (hA : AllOf (counts l) A) (who : ByteArray) (r : Role) : Ev (fun k => Qbq.f k l who r.f0 r.f1) (decide ((⟨r, who⟩ : Pair) ∈ A)) := by
  have hc := QbH l; have hlen := hA.length (by omega); unfold Qbq.f; refine Ev.bind (refAll_is l hl hA) (Ev.bind (in_ev (A.map toR) (by rw [List.length_map]; omega) r.f0 r.f1 who) ?_)
  have e : decide ((⟨⟨r.f0, r.f1⟩, who⟩ : RPair) ∈ A.map toR) = decide ((⟨r, who⟩ : Pair) ∈ A) := by
    rw [Bool.eq_iff_iff, decide_eq_true_eq, decide_eq_true_eq]; exact toR_mem (p := ⟨r, who⟩)
  rw [e]; exact Ev.pure _
theorem cnt_le_of {n : Nat} : ∀ (L : List Proof), (∀ q ∈ L, cnt q ≤ n) → (idsL L).length ≤ L.length * n
  | [], _ => by rw [idsL_nil]; simp
  | q :: L, h => by
    have h1 := cnt_le_of L fun r hr => h r (List.mem_cons_of_mem _ hr)
    have h2 := h q (List.mem_cons_self ..); rw [idsL_cons, List.length_append, List.length_cons, Nat.succ_mul]; have h3 : (ids q).length = cnt q := rfl; omega
theorem pf_cnt {cs : List Cred} (hm : Mays cs) {T : List (Pair × Int)} (h : RndOf cs T) : ∀ (k : Nat) (p : Pair) (m : Nat), 0 < rnd T p → rnd T p ≤ k → rnd T p ≤ m → cnt (pf T cs k p) + 1 ≤ 2 ^ m
  | 0, p, m, h0, h1, _ => by omega
  | k + 1, p, 0, h0, h1, h2 => by omega
  | k + 1, p, m + 1, h0, h1, h2 => by
    have b := by_of hm h h0; have hl : (byL T cs p).length ≤ 2 := b.way.length
    have e : cnt (pf T cs (k + 1) p) = (idsL ((byL T cs p).map (pf T cs k))).length + 1 := by
      unfold cnt; rw [ids_eq, List.length_cons]; rfl
    by_cases hm1 : byL T cs p = []
    · rw [e, hm1, List.map_nil, idsL_nil, Nat.pow_succ]
      have := Nat.two_pow_pos m; simp; omega
    · have key := cnt_le_of (n := 2 ^ m - 1) ((byL T cs p).map (pf T cs k)) fun q hq => by
        obtain ⟨r, hr, rfl⟩ := List.mem_map.mp hq; have := pf_cnt hm h k r m (b.less r hr).1 (by have := (b.less r hr).2; omega) (by have := (b.less r hr).2; omega); omega
      rw [List.length_map] at key; have h3 := Nat.mul_le_mul_right (2 ^ m - 1) hl; have := Nat.two_pow_pos m; rw [e, Nat.pow_succ]; omega
theorem round_chain {cs : List Cred} (hm : Mays cs) {T : List (Pair × Int)} (h : RndOf cs T) : ∀ (n : Nat) (p : Pair), rnd T p = (n : Int) + 1 → ∃ L : List Pair, L.length = n ∧ L.Nodup ∧ ∀ q ∈ L, 2 ≤ rnd T q ∧ rnd T q ≤ (n : Int) + 1
  | 0, p, _ => ⟨[], rfl, List.nodup_nil, fun q hq => by cases hq⟩
  | n + 1, p, hp => by
    have b := by_of hm h (p := p) (by omega)
    have hex : ∃ q ∈ byL T cs p, rnd T q = (n : Int) + 1 := by
      refine Classical.byContradiction fun hno => ?_
      have hk : KK cs (n + 1) p := ⟨_, b.mem, _, b.way, fun q hq => by
        have h1 := b.less q hq; unfold inB at h1; refine h.kkOf h1.1 ?_
        by_cases e : rnd T q = (n : Int) + 1
        · exact absurd ⟨q, hq, e⟩ hno
        · omega⟩
      have := h.least hk; omega
    obtain ⟨q, hq, e⟩ := hex; obtain ⟨L, h1, h2, h3⟩ := round_chain hm h n q e; refine ⟨p :: L, by simp [h1], List.nodup_cons.mpr ⟨fun hp' => ?_, h2⟩, fun r hr => ?_⟩
    · have := (h3 p hp').2
      omega
    · rcases List.mem_cons.mp hr with rfl | hr
      · omega
      · have := h3 r hr
        omega
theorem rnd_21 {cs : List Cred} (hm : Mays cs) (hl : cs.length ≤ 9) {T : List (Pair × Int)} (h : RndOf cs T) (p : Pair) : rnd T p ≤ 21 := by
  by_cases h0 : 0 < rnd T p
  · obtain ⟨L, h1, h2, h3⟩ := round_chain hm h ((rnd T p).toNat - 1) p (by omega)
    have hsub : ∀ q ∈ L, q ∈ (cs.filter fun c => decide (c.f2 ≠ 1)).flatMap fun c => (cs.filter fun c => decide (c.f2 = 1)).map fun c' => (⟨credRole c, c'.f3⟩ : Pair) := fun q hq => by
      have hq2 := (h3 q hq).1; have b := by_of hm h (p := q) (by omega); obtain ⟨_, c', hc', k', e'⟩ := (h.said.mp (show 0 < rnd T q by omega)).within; refine List.mem_flatMap.mpr ⟨byC T cs q, List.mem_filter.mpr ⟨b.mem, decide_eq_true fun k => ?_⟩, List.mem_map.mpr ⟨c', List.mem_filter.mpr ⟨hc', decide_eq_true k'⟩, QbN b.way.role e'.symm⟩⟩; have hw := b.way; have hcm := b.mem; clear b
      generalize byC T cs q = c at hw k hcm
      generalize byL T cs q = M at hw
      have hkk : KK cs 1 q := by
        cases hw with
        | member hr k1 e => exact ⟨c, hcm, [], .member hr k1 e, fun r hr => by cases hr⟩
        | incl _ k1 => omega
        | link _ _ k1 _ _ => omega
        | both _ k1 => omega
      have := h.least hkk; omega
    have hn := nodup_le h2 hsub; rw [flatMap_len _ (cs.filter fun c => decide (c.f2 = 1)).length (fun c => by simp)] at hn
    have hpart : (cs.filter fun c => decide (c.f2 ≠ 1)).length + (cs.filter fun c => decide (c.f2 = 1)).length = cs.length := by
      have : ∀ l : List Cred, (l.filter fun c => decide (c.f2 ≠ 1)).length + (l.filter fun c => decide (c.f2 = 1)).length = l.length := fun l => by
        induction l with
        | nil => rfl
        | cons c l ih =>
          rw [List.filter_cons, List.filter_cons, List.length_cons]
          by_cases e : c.f2 = 1
          · rw [decide_eq_true e, decide_eq_false (by simpa using e)]
            simp; simp at ih; omega
          · rw [decide_eq_false e, decide_eq_true e]
            simp; simp at ih; omega
      exact this cs
    generalize (cs.filter fun c => decide (c.f2 ≠ 1)).length = a at hn hpart
    generalize (cs.filter fun c => decide (c.f2 = 1)).length = m at hn hpart
    have hab : a * m ≤ 20 := by
      have : m = 0 ∨ m = 1 ∨ m = 2 ∨ m = 3 ∨ m = 4 ∨ m = 5 ∨ m = 6 ∨ m = 7 ∨ m = 8 ∨ m = 9 := by omega
      rcases this with rfl | rfl | rfl | rfl | rfl | rfl | rfl | rfl | rfl | rfl <;> omega
    omega
  · omega
def supp (l : List Cred) (p : Proof) : List ID := (aloneOf l (ids p)).map (·.f0)
theorem supp_strict (l : List Cred) (p : Proof) : (supp l p).Pairwise fun a b => idLess a b = true := by
  unfold supp aloneOf; rw [List.pairwise_map]
  refine ((Qcf l).sorted.filter _).imp fun {a b} h => ?_
  unfold credLess at h; rw [idLess_iff]; exact h
theorem supp_mem {l : List Cred} {n : Nat} {p : Proof} (h : chk (counts l) n p = true) (x : ID) : x ∈ supp l p ↔ x ∈ ids p := by
  unfold supp aloneOf; rw [List.mem_map]; constructor
  · rintro ⟨c, hc, rfl⟩
    exact of_decide_eq_true (List.mem_filter.mp hc).2
  · intro hx
    obtain ⟨c, hc, rfl⟩ := chk_ids n p h x hx; exact ⟨c, List.mem_filter.mpr ⟨hc, decide_eq_true hx⟩, rfl⟩
theorem aloneOf_supp {l : List Cred} {n : Nat} {p : Proof} (h : chk (counts l) n p = true) : (counts l).filter (fun c => decide (c.f0 ∈ supp l p)) = aloneOf l (ids p) := by
  unfold aloneOf
  refine List.filter_congr fun c _ => ?_
  rw [Bool.eq_iff_iff, decide_eq_true_eq, decide_eq_true_eq]; exact supp_mem h c.f0
theorem alone8_chk {l : List Cred} {n : Nat} {p : Proof} (h : chk (counts l) n p = true) : chk (counts (aloneOf l (ids p))) n p = true := by
  rw [alone_counts]; refine chk_more n p (fun i hi c hf => find_same ((counts_apart l).filter _) (fun d hd e => ?_) hf) h; rw [List.mem_filter]; exact ⟨hd, decide_eq_true (by rw [e]; exact hi)⟩
theorem alone8_l1 (who : ByteArray) (r : S24) (X : List Cred) (s : List ID) (hX : X.length ≤ 1000) (hs : s.length ≤ 1000) (hn : s.Nodup) (i : Nat) (hi : i < X.length) (v : Bool) : ∀ (n j : Nat) (acc : List Cred), n + j = s.length → acc.length + n ≤ 100000 →
    Ev (fun k => Qat.l0 k who s X (acc ++ (if X[i].f0 ∈ s.drop j then [X[i]] else [])) ((i + 1 : Nat) : Int) r.f0 r.f1) v →
    Ev (fun k => Qat.l1 k who s X acc (i : Int) (j : Int) r.f0 r.f1) v
  | 0, j, acc, hj, ha, h => by
    rw [List.drop_eq_nil_of_le (by omega), if_neg (List.not_mem_nil), List.append_nil] at h; refine Ev.step (fun k => ?_) h; rw [Qat.l1, if_neg (by omega), wrapN (by omega)]
  | n + 1, j, acc, hj, ha, h => by
    have hj' : j < s.length := by omega
    have hd : s.drop j = s[j] :: s.drop (j + 1) := List.drop_eq_getElem_cons hj'
    by_cases e : X[i].f0 = s[j]
    · have hno : X[i].f0 ∉ s.drop (j + 1) := by
        rw [e]; have := hn.sublist (List.drop_sublist j s); rw [hd, List.nodup_cons] at this; exact this.1
      rw [if_pos (by rw [hd, e]; exact List.mem_cons_self ..)] at h; refine Ev.step (fun k => ?_) (alone8_l1 who r X s hX hs hn i hi v n (j + 1) (acc ++ [X[i]]) (by omega) (by simp; omega) (by rw [if_neg hno, List.append_nil]; exact h)); rw [Qat.l1, if_pos (by omega), if_pos (by omega), if_pos (by omega), if_pos (by omega), rdC X i hi, rdI s j hj', idBeq, decide_eq_true e, if_pos rfl, if_pos (by omega), wrapN (by omega)]
    · have hm : (X[i].f0 ∈ s.drop j) = (X[i].f0 ∈ s.drop (j + 1)) := by
        rw [hd, List.mem_cons]; exact propext ⟨fun h => h.resolve_left e, .inr⟩
      simp only [hm] at h; refine Ev.step (fun k => ?_) (alone8_l1 who r X s hX hs hn i hi v n (j + 1) acc (by omega) (by omega) h); rw [Qat.l1, if_pos (by omega), if_pos (by omega), if_pos (by omega), if_pos (by omega), rdC X i hi, rdI s j hj', idBeq, decide_eq_false e, if_neg (by decide), wrapN (by omega)]
theorem alone8_l0 (who : ByteArray) (r : S24) (X : List Cred) (s : List ID) (hX : X.length ≤ 1000) (hs : s.length ≤ 1000) (hn : s.Nodup) (A : List Cred) (hend : Ev (fun k => Qat.l0 k who s X A (X.length : Int) r.f0 r.f1) true) : ∀ (n i : Nat) (acc : List Cred), n + i = X.length → acc.length ≤ i → acc ++ (X.drop i).filter (fun c => decide (c.f0 ∈ s)) = A →
    Ev (fun k => Qat.l0 k who s X acc (i : Int) r.f0 r.f1) true
  | 0, i, acc, hi, ha, h => by
    rw [List.drop_eq_nil_of_le (by omega), List.filter_nil, List.append_nil] at h
    obtain rfl : i = X.length := by omega
    subst h; exact hend
  | n + 1, i, acc, hi, ha, h => by
    have hi' : i < X.length := by omega
    have hdx : X.drop i = X[i] :: X.drop (i + 1) := List.drop_eq_getElem_cons hi'; rw [hdx, List.filter_cons] at h; refine Ev.step (fun k => by rw [Qat.l0, if_pos (by omega)]; rfl) (alone8_l1 who r X s hX hs hn i hi' true s.length 0 acc (by omega) (by omega) ?_); rw [List.drop_zero]; refine alone8_l0 who r X s hX hs hn A hend n (i + 1) _ (by omega) (by split <;> simp <;> omega) ?_; rw [← h]
    by_cases e : X[i].f0 ∈ s
    · rw [if_pos e, decide_eq_true e, if_pos rfl, List.append_assoc]
      rfl
    · rw [if_neg e, decide_eq_false e, if_neg (by decide), List.append_nil]
theorem chainAlone_true (l : List Cred) (who : ByteArray) (r : S24) (hok : ∀ c ∈ l, okCred c) (hp : okPair ⟨r, who⟩) : Ev (fun k => Qat.f k l who r.f0 r.f1) true := by
  have hlen := take9 l; have hok' := take9_ok hok; have hcl := QbH (l.take 9); obtain ⟨A, T, hA, hT, hf⟩ := found_is (l.take 9) (by omega) hok'; unfold Qat.f; rw [few8]; refine Ev.bind (Ev.pure _) ?_
  by_cases h0 : 0 < rnd T ⟨r, who⟩
  · rw [show Qa4.f (l.take 9) who r.f0 r.f1 = _ from find_said (by omega) hT hf h0]
    refine Ev.bind (Ev.pure _) ?_; simp only [if_true]; obtain ⟨hk, hd, _⟩ := pf_is (by omega) hT h0; have h21 := rnd_21 (QbR (l.take 9)) (by omega) hT ⟨r, who⟩; have hcnt := pf_cnt (QbR (l.take 9)) hT 1000 ⟨r, who⟩ 21 h0 (by omega) (by omega); have e0 := pf_f0 T (counts (l.take 9)) 1000 ⟨r, who⟩; have e1 := pf_f1 T (counts (l.take 9)) 1000 ⟨r, who⟩; have e2 := pf_f2 T (counts (l.take 9)) 1000 ⟨r, who⟩
    have hs2 : (2 : Nat) ^ 21 = 2097152 := by decide
    have hids := ids_ev (pf T (counts (l.take 9)) 1000 ⟨r, who⟩) (by omega); rw [e0, e1, e2] at hids; have hpc := e0
    generalize pf T (counts (l.take 9)) 1000 ⟨r, who⟩ = P at hk hd hcnt e0 e1 e2 hids
    have hil : (ids P).length = cnt P := rfl; have honce := once_evL (ids P) (supp (l.take 9) P) (by omega) (supp_strict _ _) (supp_mem hk); refine Ev.bind (Ev.bind hids (Ev.bind honce (Ev.pure _))) (Ev.bind (refCounts_is (l.take 9) (by omega)) ?_); have hfl : (aloneOf (l.take 9) (ids P)).length ≤ (counts (l.take 9)).length := List.length_filter_le _ _; have hsl : (supp (l.take 9) P).length = (aloneOf (l.take 9) (ids P)).length := List.length_map ..; have hnod : (supp (l.take 9) P).Nodup := sorted_nodup (R := fun a b => idLess a b = true) idLess_irrefl (supp_strict _ _); refine alone8_l0 who r (counts (l.take 9)) (supp (l.take 9) P) (by omega) (by omega) hnod (aloneOf (l.take 9) (ids P)) ?_ (counts (l.take 9)).length 0 [] (by omega) (by simp) (by rw [List.nil_append, List.drop_zero, aloneOf_supp hk])
    have hoka : ∀ c ∈ aloneOf (l.take 9) (ids P), okCred c := fun c hc => hok' c ((((Qcf (l.take 9)).mem c).mp (List.mem_filter.mp hc).1).mem)
    obtain ⟨A2, T2, hA2, hT2, hf2⟩ := found_is (aloneOf (l.take 9) (ids P)) (by omega) hoka; have hka := alone8_chk hk; have hkk := chk_kk counts_kind 200 P hka; rw [show (⟨P.f0, P.f1⟩ : Pair) = ⟨r, who⟩ by rw [e0, e1]] at hkk; have h02 := (hT2.least hkk).1; obtain ⟨hk2, hd2, _⟩ := pf_is (by omega) hT2 h02; have hchk := refCheck_ev (aloneOf (l.take 9) (ids P)) _ (by omega) hd2; rw [hk2, pf_f0, pf_f1, pf_f2] at hchk; have hhas := refHas_ev (l := aloneOf (l.take 9) (ids P)) (by omega) hA2 who r; rw [decide_eq_true ((hA2.mem _).mpr hkk.said)] at hhas; refine Ev.step (fun k => by rw [Qat.l0, if_neg (by omega), show Qa4.f (aloneOf (l.take 9) (ids P)) who r.f0 r.f1 = _ from find_said (by omega) hT2 hf2 h02, Option.bind_some]) ?_; simp only [if_true]; refine Ev.bind hchk ?_; simp only [show errOf true = 0 from rfl, if_true]; refine Ev.bind hhas ?_; simp only [if_true, if_pos (show ((aloneOf (l.take 9) (ids P)).length : Int) = ((supp (l.take 9) P).length : Int) by omega), lives8]; exact Ev.pure _
  · rw [show Qa4.f (l.take 9) who r.f0 r.f1 = _ from find_not hT hf hp h0]
    refine Ev.bind (Ev.pure _) ?_; simp only [lives8]; exact Ev.pure _
theorem chainAlone_row (l : List Cred) (who : ByteArray) (r : S24) (hok : ∀ c ∈ l, okCred c) (hw : who.size ≤ maxLen) (hr : r.f0.size ≤ maxLen ∧ r.f1.size ≤ maxLen) : Ev (fun k => Qat.f k l who r.f0 r.f1) true := chainAlone_true l who r hok ⟨hr.1, hr.2, hw⟩
end Go.Proofs.YtbjjgaahdnfflaaGreatDoor.Pr
end
