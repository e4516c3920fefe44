/- The proof's own texts, joined: part 14. No conditions. -/
import Derived.OrdersHeld
import Derived.Deep.RegionHeld3
import Derived.Laws.BitsLemmas
import Derived.RowKit
import Derived.DeepKeys4
import Derived.KernelRfl
import Derived.WalkKit
import Derived.WalkSpells
import Derived.WalkLawsBesides
import Derived.Lib.Hide
import Derived.Deep.QuietTactic
import Derived.Deep.RegionWith
import Derived.BigQuiet
import Derived.RegionTactic
import Derived.ChangeAlike
import Derived.Deep.RegionLaw
import Derived.Lib.SmallJoins
import Derived.Lib.SlicesS
import Derived.Shelf.SlSortCmp.NoneTotal
import Derived.Laws.StructEq
import Derived.Shelf.SlicesE.Clone
import Derived.Test.YtpjddgmdgfjlfaaDoorProg
import Derived.Below
import Derived.Deep.Draws
import Derived.Deep.AppendLies
import Derived.Maps.AppendAt
import Derived.OwnWalk
import Derived.Laws.BytesArg
import Derived.Laws.MakeOwn
import Derived.Laws.OwnMore
import Derived.Deep.OwnRows
import Derived.Tactics
import Derived.Lib.ConvBytes
import Derived.Laws.Slices
import Derived.RowKit3
import Derived.Deep.LoopGhost
import Derived.WideLaws
import Derived.Deep.DeepCutAuto
import Derived.Deep.CutBlock
import Derived.Laws.Rows
import Derived.Lib.AppendStr
import Derived.ArgAppend
import Derived.Laws.IdiomCopy
import Derived.Shelf.SlicesG.Cmp
import Derived.StillTailTactics
import Derived.Sort.Grow
import Derived.Outline
import Derived.Laws.RangeAny
import Derived.Laws.Closers25
import Derived.Shelf.SlSortCmp.WholeK
import Derived.Ground.SlsfProg
import Derived.Ground.SlgnProg
import Derived.Shelf.GgSortFunc.InsertionK
import Derived.Maps.OwnSet
import Derived.Maps.RangeRun
import Derived.Maps.Range
import Derived.Carry
import Derived.Sort.Walk0
import Derived.Laws.Strings
import Derived.Ground.SlgcProg
import Derived.ProofKit
import Derived.ChangeSlices
import Derived.DataElems
import Derived.Sort.LotA
import Derived.Test.YtpjddgmdgfjlfaaDoorPb0
import Derived.Test.YtpjddgmdgfjlfaaDoorPb1
import Derived.Test.YtpjddgmdgfjlfaaDoorPb2
import Derived.Test.YtpjddgmdgfjlfaaDoorPb3
import Derived.Test.YtpjddgmdgfjlfaaDoorPb4
import Derived.Test.YtpjddgmdgfjlfaaDoorPb5
import Derived.Test.YtpjddgmdgfjlfaaDoorPb6
import Derived.Test.YtpjddgmdgfjlfaaDoorPb7
import Derived.Test.YtpjddgmdgfjlfaaDoorPb8
import Derived.Test.YtpjddgmdgfjlfaaDoorPb9
import Derived.Test.YtpjddgmdgfjlfaaDoorPb10
import Derived.Test.YtpjddgmdgfjlfaaDoorPb11
import Derived.Test.YtpjddgmdgfjlfaaDoorPb12
import Derived.Test.YtpjddgmdgfjlfaaDoorPb13
section
namespace Go.Proofs.YtpjddgmdgfjlfaaDoor.Pr
open Go.RowKit Go.Proofs.YtpjddgmdgfjlfaaDoorW.PrintWords Go.Proofs.YtpjddgmdgfjlfaaDoorW.PrintLast Go.Proofs.YtpjddgmdgfjlfaaDoorW.PrintMore
attribute [local go_sem] QaY QaW Qbb Qba QaP QaO QaX QaV
set_option linter.unusedVariables false
set_option linter.unusedSimpArgs false
end Go.Proofs.YtpjddgmdgfjlfaaDoor.Pr


end
section
namespace Go.Proofs.YtpjddgmdgfjlfaaDoor.Pr
open Go.RowKit Go.Proofs.YtpjddgmdgfjlfaaDoorW.PrintWords Go.Proofs.YtpjddgmdgfjlfaaDoorW.PrintLast Go.Proofs.YtpjddgmdgfjlfaaDoorW.PrintMore
theorem toList_iff (x y : ByteArray) : x.toList = y.toList ↔ x = y := by
  rw [← Lib.bytes_beq_iff, beq_iff_eq]
theorem domName_ne {n : Int} (h : 1 ≤ n) (h' : n ≤ 16) : domName n ≠ ⟨#[]⟩ := by
  have : n = 1 ∨ n = 2 ∨ n = 3 ∨ n = 4 ∨ n = 5 ∨ n = 6 ∨ n = 7 ∨ n = 8 ∨ n = 9 ∨ n = 10 ∨ n = 11 ∨ n = 12 ∨ n = 13 ∨ n = 14 ∨ n = 15 ∨ n = 16 := by omega
  rcases this with rfl | rfl | rfl | rfl | rfl | rfl | rfl | rfl | rfl | rfl | rfl | rfl | rfl | rfl | rfl | rfl <;> decide
def numFrom (s : ByteArray) : Nat → Int → Int
  | 0, _ => 0
  | k + 1, n => if n ≤ 16 then (if domName n = s then n else numFrom s k (n + 1)) else 0
def numName (s : ByteArray) : Int := numFrom s 17 1
theorem number_from (s : ByteArray) : ∀ (k : Nat) (n : Int), 1 ≤ n → n ≤ 17 → 17 - n < k → names_Number.l0 k s n = some (numFrom s k n)
  | 0, n, _, _, h => by omega
  | k + 1, n, h0, h1, h2 => by
    rw [names_Number.l0, numFrom]
    by_cases c : n ≤ 16
    · rw [if_pos c, if_pos c]
      show (Option.bind (some (domName n)) _) = _
      rw [Option.bind_some]
      by_cases e : domName n = s
      · rw [if_pos ((toList_iff _ _).mpr e), if_pos e]
      · rw [if_neg (fun h => e ((toList_iff _ _).mp h)), if_neg e]
        have hw : wrap64 (n + 1) = n + 1 := by unfold wrap64; omega
        rw [hw]; exact number_from s k (n + 1) (by omega) (by omega) (by omega)
    · rw [if_neg c, if_neg c]
theorem numFrom_more (s : ByteArray) : ∀ (k : Nat) (n : Int), 17 - n < k → numFrom s (k + 1) n = numFrom s k n
  | 0, n, h => by
    rw [numFrom, numFrom, if_neg (by omega)]
  | k + 1, n, h => by
    rw [numFrom]
    conv => rhs; rw [numFrom]
    by_cases c : n ≤ 16
    · rw [if_pos c, if_pos c]
      by_cases e : domName n = s
      · rw [if_pos e, if_pos e]
      · rw [if_neg e, if_neg e]
        exact numFrom_more s k (n + 1) (by omega)
    · rw [if_neg c, if_neg c]
theorem number_is (s : ByteArray) : ∀ k, 17 ≤ k → names_Number.f k s = some (numName s) := by
  intro k hk; unfold names_Number.f; rw [number_from s k 1 (by omega) (by omega) (by omega)]
  congr 1
  unfold numName; obtain ⟨j, rfl⟩ := Nat.le.dest hk; clear hk
  induction j with
  | zero => rfl
  | succ j ih => rw [← ih]; exact numFrom_more s (17 + j) 1 (by omega)
theorem numFrom_spec (s : ByteArray) : ∀ (k : Nat) (n : Int), 17 - n ≤ k → (∃ m, n ≤ m ∧ m ≤ 16 ∧ domName m = s ∧ numFrom s k n = m) ∨ ((∀ m, n ≤ m → m ≤ 16 → domName m ≠ s) ∧ numFrom s k n = 0)
  | 0, n, h => .inr ⟨fun m _ _ => by omega, rfl⟩
  | k + 1, n, h => by
    rw [numFrom]
    by_cases c : n ≤ 16
    · rw [if_pos c]
      by_cases e : domName n = s
      · rw [if_pos e]
        exact .inl ⟨n, by omega, c, e, rfl⟩
      · rw [if_neg e]
        rcases numFrom_spec s k (n + 1) (by omega) with ⟨m, h1, h2, h3, h4⟩ | ⟨h1, h2⟩
        · exact .inl ⟨m, by omega, h2, h3, h4⟩
        · refine .inr ⟨fun m hm hm' => ?_, h2⟩
          by_cases e2 : m = n
          · rw [e2]; exact e
          · exact h1 m (by omega) hm'
    · rw [if_neg c]
      exact .inr ⟨fun m _ _ => by omega, rfl⟩
theorem numName_spec (s : ByteArray) : (∃ m, 1 ≤ m ∧ m ≤ 16 ∧ domName m = s ∧ numName s = m) ∨ ((∀ m, 1 ≤ m → m ≤ 16 → domName m ≠ s) ∧ numName s = 0) := numFrom_spec s 17 1 (by omega)
theorem refDomain_is (n : Int) (k : Nat) : liveryref04_Domain.f (k + 1) n = some (domName n) := by
  unfold liveryref04_Domain.f
  by_cases h0 : n < 1
  · rw [if_pos h0, domName_out n (.inl h0)]
    rfl
  · rw [if_neg h0]
    by_cases h1 : n > 16
    · rw [decide_eq_true h1, domName_out n (.inr h1)]
      rfl
    · rw [decide_eq_false h1]
      have : n = 1 ∨ n = 2 ∨ n = 3 ∨ n = 4 ∨ n = 5 ∨ n = 6 ∨ n = 7 ∨ n = 8 ∨ n = 9 ∨ n = 10 ∨ n = 11 ∨ n = 12 ∨ n = 13 ∨ n = 14 ∨ n = 15 ∨ n = 16 := by omega
      rcases this with rfl | rfl | rfl | rfl | rfl | rfl | rfl | rfl | rfl | rfl | rfl | rfl | rfl | rfl | rfl | rfl <;> (show _ = some _; kernel_rfl)
theorem bt_data (s : ByteArray) (i : Nat) (h : i < s.size) : bt s (i : Int) = ((s.data.getD i 0).toNat : Int) := by
  unfold bt; rw [dif_pos (by rw [Int.toNat_natCast]; exact h)]
  have : s.data.getD i 0 = s[i] := by
    rw [Array.getD, dif_pos (show i < s.data.size from h)]; rfl
  rw [this]; rfl
theorem size_two {s : ByteArray} (h : s.size = 2) (t : ByteArray) (ht : t.size = 2) (h0 : bt s 0 = bt t 0) (h1 : bt s 1 = bt t 1) : s = t := by
  apply ByteArray.ext
  apply Array.ext
  · exact h.trans ht.symm
  · intro i hi hi'
    have hs : i < 2 := by have : s.data.size = 2 := h; omega
    have e : bt s (i : Int) = bt t (i : Int) := by
      have : i = 0 ∨ i = 1 := by omega
      rcases this with rfl | rfl
      · exact h0
      · exact h1
    rw [bt_data s i (by omega), bt_data t i (by omega)] at e; rw [Array.getD, dif_pos hi, Array.getD, dif_pos hi'] at e; exact UInt8.toNat_inj.mp (by exact_mod_cast e)
theorem size_three {s : ByteArray} (h : s.size = 3) (t : ByteArray) (ht : t.size = 3) (h0 : bt s 0 = bt t 0) (h1 : bt s 1 = bt t 1) (h2 : bt s 2 = bt t 2) : s = t := by
  apply ByteArray.ext
  apply Array.ext
  · exact h.trans ht.symm
  · intro i hi hi'
    have hs : i < 3 := by have : s.data.size = 3 := h; omega
    have e : bt s (i : Int) = bt t (i : Int) := by
      have : i = 0 ∨ i = 1 ∨ i = 2 := by omega
      rcases this with rfl | rfl | rfl
      · exact h0
      · exact h1
      · exact h2
    rw [bt_data s i (by omega), bt_data t i (by omega)] at e; rw [Array.getD, dif_pos hi, Array.getD, dif_pos hi'] at e; exact UInt8.toNat_inj.mp (by exact_mod_cast e)
theorem refNumber_dom (m : Int) (h : 1 ≤ m) (h' : m ≤ 16) (k : Nat) : QaI.f (k + 2) (domName m) = some m := by
  have : m = 1 ∨ m = 2 ∨ m = 3 ∨ m = 4 ∨ m = 5 ∨ m = 6 ∨ m = 7 ∨ m = 8 ∨ m = 9 ∨ m = 10 ∨ m = 11 ∨ m = 12 ∨ m = 13 ∨ m = 14 ∨ m = 15 ∨ m = 16 := by omega
  rcases this with rfl | rfl | rfl | rfl | rfl | rfl | rfl | rfl | rfl | rfl | rfl | rfl | rfl | rfl | rfl | rfl <;> (show _ = some _; kernel_rfl)
theorem refNumber_none (s : ByteArray) (hn : ∀ m, 1 ≤ m → m ≤ 16 → domName m ≠ s) (k : Nat) : QaI.f (k + 2) s = some 0 := by
  have j0t : QaI.j0 (k + 2) s true = some 0 := by rw [QaI.j0, if_pos rfl]
  have j1t : ∀ x, QaI.j1 (k + 1) s x true = some 0 := fun x => by rw [QaI.j1, if_pos rfl]
  unfold QaI.f
  by_cases c1 : (s.size : Int) < 2
  · rw [if_pos c1, j0t]
  · rw [if_neg c1]
    by_cases c2 : (s.size : Int) > 3
    · rw [if_pos c2, j0t]
    · rw [if_neg c2, if_pos (by omega)]
      by_cases c3 : bt s 0 = 100
      · rw [if_pos c3, if_pos (by omega)]
        by_cases c4 : bt s 1 < 49
        · rw [if_pos c4, j0t]
        · rw [if_neg c4]
          by_cases c5 : bt s 1 > 57
          · rw [decide_eq_true c5, j0t]
          · rw [decide_eq_false c5, QaI.j0, if_neg (by decide), if_pos (by omega)]
            by_cases c6 : (s.size : Int) = 3
            · rw [if_pos c6, if_pos (by omega)]
              by_cases c7 : bt s 2 < 48
              · rw [if_pos c7, j1t]
              · rw [if_neg c7]
                by_cases c8 : bt s 2 > 57
                · rw [decide_eq_true c8, j1t]
                · rw [decide_eq_false c8, QaI.j1, if_neg (by decide), if_pos (by omega)]
                  by_cases c9 : 10 * ((bt s 1 - 48) % 256) + (bt s 2 - 48) % 256 > 16
                  · rw [if_pos c9]
                  · exfalso
                    have e1 : bt s 1 = 49 := by omega
                    have hv : bt s 2 = 48 ∨ bt s 2 = 49 ∨ bt s 2 = 50 ∨ bt s 2 = 51 ∨ bt s 2 = 52 ∨ bt s 2 = 53 ∨ bt s 2 = 54 := by omega
                    rcases hv with e | e | e | e | e | e | e
                    · exact hn 10 (by omega) (by omega) (size_three (by omega) (domName 10) rfl (c3.trans rfl) (e1.trans rfl) (e.trans rfl)).symm
                    · exact hn 11 (by omega) (by omega) (size_three (by omega) (domName 11) rfl (c3.trans rfl) (e1.trans rfl) (e.trans rfl)).symm
                    · exact hn 12 (by omega) (by omega) (size_three (by omega) (domName 12) rfl (c3.trans rfl) (e1.trans rfl) (e.trans rfl)).symm
                    · exact hn 13 (by omega) (by omega) (size_three (by omega) (domName 13) rfl (c3.trans rfl) (e1.trans rfl) (e.trans rfl)).symm
                    · exact hn 14 (by omega) (by omega) (size_three (by omega) (domName 14) rfl (c3.trans rfl) (e1.trans rfl) (e.trans rfl)).symm
                    · exact hn 15 (by omega) (by omega) (size_three (by omega) (domName 15) rfl (c3.trans rfl) (e1.trans rfl) (e.trans rfl)).symm
                    · exact hn 16 (by omega) (by omega) (size_three (by omega) (domName 16) rfl (c3.trans rfl) (e1.trans rfl) (e.trans rfl)).symm
            · rw [if_neg c6, if_neg (by omega)]
              exfalso
              have hv : bt s 1 = 49 ∨ bt s 1 = 50 ∨ bt s 1 = 51 ∨ bt s 1 = 52 ∨ bt s 1 = 53 ∨ bt s 1 = 54 ∨ bt s 1 = 55 ∨ bt s 1 = 56 ∨ bt s 1 = 57 := by omega
              rcases hv with e | e | e | e | e | e | e | e | e
              · exact hn 1 (by omega) (by omega) (size_two (by omega) (domName 1) rfl (c3.trans rfl) (e.trans rfl)).symm
              · exact hn 2 (by omega) (by omega) (size_two (by omega) (domName 2) rfl (c3.trans rfl) (e.trans rfl)).symm
              · exact hn 3 (by omega) (by omega) (size_two (by omega) (domName 3) rfl (c3.trans rfl) (e.trans rfl)).symm
              · exact hn 4 (by omega) (by omega) (size_two (by omega) (domName 4) rfl (c3.trans rfl) (e.trans rfl)).symm
              · exact hn 5 (by omega) (by omega) (size_two (by omega) (domName 5) rfl (c3.trans rfl) (e.trans rfl)).symm
              · exact hn 6 (by omega) (by omega) (size_two (by omega) (domName 6) rfl (c3.trans rfl) (e.trans rfl)).symm
              · exact hn 7 (by omega) (by omega) (size_two (by omega) (domName 7) rfl (c3.trans rfl) (e.trans rfl)).symm
              · exact hn 8 (by omega) (by omega) (size_two (by omega) (domName 8) rfl (c3.trans rfl) (e.trans rfl)).symm
              · exact hn 9 (by omega) (by omega) (size_two (by omega) (domName 9) rfl (c3.trans rfl) (e.trans rfl)).symm
      · rw [if_neg c3, j0t]
theorem refNumber_is (s : ByteArray) (k : Nat) : QaI.f (k + 2) s = some (numName s) := by
  rcases numName_spec s with ⟨m, h1, h2, h3, h4⟩ | ⟨h1, h2⟩
  · rw [h4, ← h3, refNumber_dom m h1 h2]
  · rw [h2, refNumber_none s h1]
theorem mayAt_bt {s : ByteArray} {i : Nat} (h : i < s.size) (hi : i ≠ 0) : mayAt i (s.data.getD i 0).toNat = true ↔ (97 ≤ bt s i ∧ bt s i ≤ 122) ∨ (48 ≤ bt s i ∧ bt s i ≤ 57) := by
  rw [bt_data s i h]; unfold mayAt; simp [hi]; omega
theorem refMay_loop (s : ByteArray) (h8 : s.size ≤ 8) : ∀ (k i : Nat), 1 ≤ i → i ≤ s.size → s.size - i < k → mayUpto s i = true → QaM.l0 k s (i : Int) = some (mayUpto s s.size)
  | 0, i, _, _, h, _ => by omega
  | k + 1, i, h1, h2, h3, hm => by
    rw [QaM.l0]
    by_cases c : (i : Int) < (s.size : Int)
    · rw [if_pos c, if_pos (by omega)]
      have hlt : i < s.size := by omega
      have hw : wrap64 ((i : Int) + 1) = ((i + 1 : Nat) : Int) := by unfold wrap64; omega
      have ih := fun hy : mayAt i (s.data.getD i 0).toNat = true => refMay_loop s h8 k (i + 1) (by omega) hlt (by omega) (by rw [mayUpto, hm, hy]; rfl)
      rw [mayAt_bt hlt (by omega)] at ih
      have no := fun hn : mayAt i (s.data.getD i 0).toNat = false => may_stop s i hn s.size hlt
      have hno : ¬ ((97 ≤ bt s i ∧ bt s i ≤ 122) ∨ (48 ≤ bt s i ∧ bt s i ≤ 57)) → mayUpto s s.size = false := fun hn => no (by rw [Bool.eq_false_iff, Ne, mayAt_bt hlt (by omega)]; exact hn)
      rw [hw]
      by_cases a1 : bt s i ≥ 97
      · rw [if_pos a1, if_pos (by omega)]
        by_cases a2 : bt s i ≤ 122
        · rw [if_pos a2]
          exact ih (.inl ⟨a1, a2⟩)
        · rw [if_neg a2, if_neg (by omega), hno (by omega)]
      · rw [if_neg a1]
        by_cases a3 : bt s i ≥ 48
        · rw [if_pos a3]
          by_cases a4 : bt s i ≤ 57
          · rw [if_pos a4]
            exact ih (.inr ⟨a3, a4⟩)
          · rw [if_neg a4, hno (by omega)]
        · rw [if_neg a3, hno (by omega)]
    · rw [if_neg c, show s.size = i by omega, hm]
theorem refMay_is (s : ByteArray) (k : Nat) (hk : 10 ≤ k) : QaM.f k s = some (mayName s) := by
  obtain ⟨k, rfl⟩ : ∃ j, k = j + 1 := ⟨k - 1, by omega⟩
  have jt : QaM.j0 (k + 1) s true = some false := by rw [QaM.j0, if_pos rfl]
  unfold QaM.f mayName
  by_cases c1 : (s.size : Int) < 1
  · rw [if_pos c1, jt, decide_eq_false (p := 0 < s.size) (by omega)]
    simp
  · rw [if_neg c1]
    by_cases c2 : (s.size : Int) > 8
    · rw [if_pos c2, jt, decide_eq_false (p := s.size ≤ 8) (by omega)]
      simp
    · rw [if_neg c2, if_pos (by omega), decide_eq_true (p := 0 < s.size) (by omega), decide_eq_true (p := s.size ≤ 8) (by omega), Bool.and_true, Bool.and_true]
      have h0 : bt s 0 = ((s.data.getD 0 0).toNat : Int) := bt_data s 0 (by omega)
      generalize hd : (s.data.getD 0 0).toNat = d at h0
      by_cases c3 : bt s 0 < 97
      · rw [if_pos c3, jt, may_stop s 0 (by rw [hd]; unfold mayAt; simp; omega) s.size (by omega)]
      · rw [if_neg c3]
        by_cases c4 : bt s 0 > 122
        · rw [decide_eq_true c4, jt, may_stop s 0 (by rw [hd]; unfold mayAt; simp; omega) s.size (by omega)]
        · rw [decide_eq_false c4, QaM.j0, if_neg (by decide)]
          exact refMay_loop s (by omega) k 1 (Nat.le_refl _) (by omega) (by omega) (by rw [mayUpto, mayUpto, hd]; unfold mayAt; simp; omega)
theorem empty_iff (x : ByteArray) : x.toList = [] ↔ x = ⟨#[]⟩ := by
  rw [← toList_iff, show (⟨#[]⟩ : ByteArray).toList = [] by unfold ByteArray.toList; rw [ByteArray.toList.loop]; rfl]
def noText (s : ByteArray) : Bool := s.toList == ([] : List UInt8)
def roleOk (r : Role) : Bool := decide (numName r.f0 > 0) && mayName r.f1
def bareOk (r : Role) : Bool := noText r.f0 && mayName r.f1
def noRole (r : Role) : Bool := noText r.f0 && noText r.f1
def credMay (c : Cred) : Bool :=
  (decide (1 ≤ c.f0.f0 ∧ c.f0.f0 ≤ 16) && decide (1 ≤ c.f0.f1 ∧ c.f0.f1 ≤ 4000) && mayName c.f1) &&
  (if c.f2 = 1 then mayName c.f3 && (noRole c.f4 && noRole c.f5) else if c.f2 = 2 then roleOk c.f4 && (noRole c.f5 && noText c.f3)
    else if c.f2 = 3 then bareOk c.f4 && (bareOk c.f5 && noText c.f3) else if c.f2 = 4 then roleOk c.f4 && (roleOk c.f5 && noText c.f3) else false)
def okCred (c : Cred) : Prop := c.f1.size ≤ maxLen ∧ c.f3.size ≤ maxLen ∧ (c.f4.f0.size ≤ maxLen ∧ c.f4.f1.size ≤ maxLen) ∧ c.f5.f0.size ≤ maxLen ∧ c.f5.f1.size ≤ maxLen
theorem may_is {s : ByteArray} (h : s.size ≤ maxLen) : names_May.f s = some (mayName s) := by
  unfold names_May.f; rw [if_pos h]
theorem role_is (r : Role) (h : r.f1.size ≤ maxLen) (k : Nat) (hk : 17 ≤ k) : names_Role.f k r.f0 r.f1 = some (roleOk r) := by
  unfold names_Role.f roleOk; rw [number_is _ k hk, Option.bind_some, may_is h, Option.bind_some]
  by_cases c : numName r.f0 > 0
  · rw [if_pos c, decide_eq_true c]; rfl
  · rw [if_neg c, decide_eq_false c]; rfl
theorem bare_is (r : Role) (h : r.f1.size ≤ maxLen) : cred_bare.f r.f0 r.f1 = some (bareOk r) := by
  unfold cred_bare.f bareOk noText; rw [may_is h, Option.bind_some]
  by_cases c : r.f0.toList = []
  · rw [if_pos c, c]; rfl
  · rw [if_neg c, beq_eq_false_iff_ne.mpr c]; rfl
theorem credMay_is (c : Cred) (h : okCred c) (k : Nat) (hk : 18 ≤ k) : cred_May.f k c.f0.f0 c.f0.f1 c.f1 c.f2 c.f3 c.f4.f0 c.f4.f1 c.f5.f0 c.f5.f1 = some (credMay c) := by
  obtain ⟨k, rfl⟩ : ∃ j, k = j + 1 := ⟨k - 1, by omega⟩
  obtain ⟨h1, h3, ⟨h40, h41⟩, h50, h51⟩ := h
  have jt : cred_May.j0 (k + 1) true c.f0.f0 c.f0.f1 c.f1 c.f2 c.f3 c.f4.f0 c.f4.f1 c.f5.f0 c.f5.f1 = some false := by rw [cred_May.j0, if_pos rfl]
  unfold cred_May.f credMay
  show (Option.bind (some (domName c.f0.f0)) _) = _
  rw [Option.bind_some]
  by_cases d : 1 ≤ c.f0.f0 ∧ c.f0.f0 ≤ 16
  · rw [if_neg (fun e => domName_ne d.1 d.2 ((empty_iff _).mp e)), decide_eq_true d]
    by_cases s1 : c.f0.f1 < 1
    · rw [if_pos s1, jt, decide_eq_false (p := 1 ≤ c.f0.f1 ∧ c.f0.f1 ≤ 4000) (by omega)]; rfl
    · rw [if_neg s1]
      by_cases s2 : c.f0.f1 > 4000
      · rw [if_pos s2, jt, decide_eq_false (p := 1 ≤ c.f0.f1 ∧ c.f0.f1 ≤ 4000) (by omega)]; rfl
      · rw [if_neg s2, decide_eq_true (p := 1 ≤ c.f0.f1 ∧ c.f0.f1 ≤ 4000) (by omega), may_is h1, Option.bind_some]
        cases hm : mayName c.f1
        · exact jt
        · show cred_May.j0 (k + 1) false _ _ _ _ _ _ _ _ _ = _
          rw [cred_May.j0, if_neg (by decide)]
          by_cases k1 : c.f2 = 1
          · rw [if_pos k1, if_pos k1, may_is h3, Option.bind_some]
            show (if mayName c.f3 = true then if noRole c.f4 = true then some (noRole c.f5) else some false else some false) = _
            cases mayName c.f3 <;> cases noRole c.f4 <;> simp
          · rw [if_neg k1, if_neg k1]
            by_cases k2 : c.f2 = 2
            · rw [if_pos k2, if_pos k2, role_is c.f4 h41 k (by omega), Option.bind_some]
              show (if roleOk c.f4 = true then if noRole c.f5 = true then some (noText c.f3) else some false else some false) = _
              cases roleOk c.f4 <;> cases noRole c.f5 <;> simp
            · rw [if_neg k2, if_neg k2]
              by_cases k3 : c.f2 = 3
              · rw [if_pos k3, if_pos k3, bare_is c.f4 h41, bare_is c.f5 h51, Option.bind_some, Option.bind_some]
                show (if bareOk c.f4 = true then if bareOk c.f5 = true then some (noText c.f3) else some false else some false) = _
                cases bareOk c.f4 <;> cases bareOk c.f5 <;> simp
              · rw [if_neg k3, if_neg k3]
                by_cases k4 : c.f2 = 4
                · rw [if_pos k4, if_pos k4, role_is c.f4 h41 k (by omega), role_is c.f5 h51 k (by omega), Option.bind_some, Option.bind_some]
                  show (if roleOk c.f4 = true then if roleOk c.f5 = true then some (noText c.f3) else some false else some false) = _
                  cases roleOk c.f4 <;> cases roleOk c.f5 <;> simp
                · rw [if_neg k4, if_neg k4]; rfl
  · have e : domName c.f0.f0 = ⟨#[]⟩ := domName_out _ (by omega)
    rw [if_pos ((empty_iff _).mpr e), jt, decide_eq_false d]; rfl
end Go.Proofs.YtpjddgmdgfjlfaaDoor.Pr
end
section
namespace Go.Proofs.YtpjddgmdgfjlfaaDoor.Pr
open Go.RowKit Go.ChangeShapes Go.WideShapes Go.Proofs.YtpjddgmdgfjlfaaDoorW.PrintWords Go.Proofs.YtpjddgmdgfjlfaaDoorW.PrintLast Go.Proofs.YtpjddgmdgfjlfaaDoorW.PrintMore
def Opens {α : Type} (P : Program) (e : TypeId) (d : Kd α) (Q : α → Prop) : Prop :=
  ∀ (H : Type) (enc : TypeId × Value → H) (w : World) (base : Nat) (spare : Nat → Bool) (held : Bool) (fuel : Nat) (cs : List Value) (x : DataW H × List MemPlace), DataW.trod enc P w base spare held fuel e cs = some x → ∃ a, d.K w a cs ∧ Q a
section
variable {H : Type} {enc : TypeId × Value → H} {P : Program} {w : World} {base : Nat} {spare : Nat → Bool} {held : Bool}
theorem field_at {t : TypeId} {fs : Array Field} {fuel : Nat} {cs : List Value} {x : DataW H × List MemPlace} (ht : P.underlying t = some (.struct fs)) (h : DataW.trod enc P w base spare held fuel t cs = some x) :
    cs.length = P.cellsOf t ∧ ∃ n, ∀ (i : Nat) (f : Field), fs[i]? = some f → ∃ y, DataW.trod enc P w base spare held n f.type ((cs.drop f.offset).take (P.cellsOf f.type)) = some y := by
  obtain ⟨xs, n, _, _, hl, hx, hf⟩ := DataW.trod_struct ht h; refine ⟨hl, n, fun i f hi => ?_⟩; have hi' : i < fs.size := (Array.getElem?_eq_some_iff.mp hi).1; exact ⟨xs[i]'(by omega), (hf i f hi).trans (List.getElem?_eq_getElem (by omega))⟩
theorem list_of {α : Type} {R : Nat → α → Prop} : ∀ n, (∀ i, i < n → ∃ y, R i y) → ∃ xs : List α, xs.length = n ∧ ∀ i y, xs[i]? = some y → R i y
  | 0, _ => ⟨[], rfl, fun i y h => by simp at h⟩
  | n + 1, h => by
    obtain ⟨xs, hl, hx⟩ := list_of n (fun i hi => h i (by omega)); obtain ⟨y, hy⟩ := h n (by omega); refine ⟨xs ++ [y], by simp [hl], fun i z hz => ?_⟩
    by_cases hi : i < n
    · rw [List.getElem?_append_left (by omega)] at hz
      exact hx i z hz
    · rw [List.getElem?_append_right (by omega)] at hz
      have hi2 : i - xs.length = 0 := by
        have := (List.getElem?_eq_some_iff.mp hz).1; simp at this; omega
      rw [hi2] at hz
      have : y = z := by simpa using hz
      rw [show i = n by omega, ← this]; exact hy
theorem cells_at {a : Addr} {n : Nat} {cs : List Value} (h : w.cells? base a n = some cs) : cs.length = n ∧ ∀ i u, cs[i]? = some u → w.cell? (a.add i) = some u := by
  unfold World.cells? at h
  split at h
  · have hl := mapM_some_length h
    rw [List.length_range] at hl; refine ⟨hl, fun i u hu => ?_⟩
    have hi : i < n := by have := (List.getElem?_eq_some_iff.mp hu).1; omega
    have := mapM_some_get h i i (by simp [hi]); rw [this, hu]
  · cases h
theorem open_row {α : Type} {d : Kd α} {Q : α → Prop} {t e : TypeId} {fuel : Nat} {a : Option Addr} {len cap : Nat} {x : DataW H × List MemPlace} (ht : P.underlying t = some (.slice e)) (hc : P.cellsOf e = d.sz) (ho : Opens P e d Q)
    (h : DataW.trod enc P w base spare held fuel t [.slice a len cap] = some x) : ∃ xs : List α, xs.length = len ∧ d.C w a xs.length xs ∧ xs.length ≤ cap ∧ ∀ y ∈ xs, Q y := by
  rcases DataW.trod_slice ht h with ⟨hcs, _⟩ | ⟨a', len', cap', elems, rest, n, _, hcs, _, hb, hl, hm, hlen, hel, _, _⟩
  · simp only [List.cons.injEq, Value.slice.injEq, and_true] at hcs
    obtain ⟨rfl, rfl, rfl⟩ := hcs; exact ⟨[], rfl, ⟨rfl, Nat.zero_le _, fun h => absurd h (Nat.lt_irrefl _)⟩, Nat.le_refl _, fun y hy => by cases hy⟩
  · simp only [List.cons.injEq, Value.slice.injEq, and_true] at hcs
    obtain ⟨rfl, rfl, rfl⟩ := hcs
    obtain ⟨xs, hxl, hx⟩ := list_of (R := fun i y => ∃ cs, w.cells? base (a'.add (i * P.cellsOf e)) (P.cellsOf e) = some cs ∧ d.K w y cs ∧ Q y) len (fun i hi => by
      have h1 := hel i hi; rw [List.getElem?_eq_getElem (by omega)] at h1; obtain ⟨cs, hcs, hy⟩ := Option.bind_eq_some_iff.mp h1; obtain ⟨y, hk, hq⟩ := ho _ _ _ _ _ _ _ _ _ hy
      exact ⟨y, cs, hcs, hk, hq⟩)
    refine ⟨xs, hxl, ⟨rfl, ?_, fun _ => ⟨a', rfl, fun j p hj => ?_⟩⟩, by omega, fun y hy => ?_⟩
    · have : maxLen = 9223372036854775807 := by decide
      omega
    · obtain ⟨cs, h1, h2, _⟩ := hx j p hj
      obtain ⟨hl1, hl2⟩ := cells_at h1; refine ⟨cs, by omega, h2, fun i u hu => ?_⟩; rw [← hc, ← Addr.add_add]; exact hl2 i u hu
    · obtain ⟨i, hi, e⟩ := List.getElem_of_mem hy
      obtain ⟨_, _, _, hq⟩ := hx i y (by rw [List.getElem?_eq_getElem hi, e]); exact hq
end
theorem list2 {α : Type} : ∀ {l : List α}, l.length = 2 → ∃ a b, l = [a, b]
  | [a, b], _ => ⟨a, b, rfl⟩
theorem list3 {α : Type} : ∀ {l : List α}, l.length = 3 → ∃ a b c, l = [a, b, c]
  | [a, b, c], _ => ⟨a, b, c, rfl⟩
theorem list9 {α : Type} : ∀ {l : List α}, l.length = 9 → ∃ a b c d e f g h i, l = [a, b, c, d, e, f, g, h, i]
  | [a, b, c, d, e, f, g, h, i], _ => ⟨a, b, c, d, e, f, g, h, i, rfl⟩
theorem opens_role : Opens Tryd.prog 33 k33 (fun r => r.f0.size ≤ maxLen ∧ r.f1.size ≤ maxLen) := by
  intro H enc w base spare held fuel cs x h; obtain ⟨hl, n, hf⟩ := field_at Tryd.underlying33 h; rw [Tryd.cellsRole] at hl; obtain ⟨y0, h0⟩ : ∃ y, DataW.trod enc Tryd.prog w base spare held n 9 ((cs.drop 0).take (Tryd.prog.cellsOf 9)) = some y := hf 0 _ rfl; obtain ⟨y1, h1⟩ : ∃ y, DataW.trod enc Tryd.prog w base spare held n 9 ((cs.drop 1).take (Tryd.prog.cellsOf 9)) = some y := hf 1 _ rfl; rw [Tryd.cellsStr] at h0 h1; obtain ⟨c0, c1, rfl⟩ := list2 hl; obtain ⟨s0, e0, _, z0⟩ := DataW.trod_string Tryd.underlying9 h0; obtain ⟨s1, e1, _, z1⟩ := DataW.trod_string Tryd.underlying9 h1
  obtain rfl : c0 = .string s0 := by simpa using e0
  obtain rfl : c1 = .string s1 := by simpa using e1
  exact ⟨⟨s0, s1⟩, k33_mk w ⟨s0, s1⟩, z0, z1⟩
theorem Tryd.cellsInt : Tryd.prog.cellsOf 3 = 1 := by kernel_rfl
theorem Tryd.cellsID : Tryd.prog.cellsOf 44 = 2 := by kernel_rfl
theorem Tryd.cellsCred : Tryd.prog.cellsOf 46 = 9 := by kernel_rfl
theorem opens_id : Opens Tryd.prog 44 k44 (fun _ => True) := by
  intro H enc w base spare held fuel cs x h; obtain ⟨hl, n, hf⟩ := field_at Tryd.underlying44 h; rw [Tryd.cellsID] at hl; obtain ⟨y0, h0⟩ : ∃ y, DataW.trod enc Tryd.prog w base spare held n 3 ((cs.drop 0).take (Tryd.prog.cellsOf 3)) = some y := hf 0 _ rfl; obtain ⟨y1, h1⟩ : ∃ y, DataW.trod enc Tryd.prog w base spare held n 3 ((cs.drop 1).take (Tryd.prog.cellsOf 3)) = some y := hf 1 _ rfl; rw [Tryd.cellsInt] at h0 h1; obtain ⟨c0, c1, rfl⟩ := list2 hl; obtain ⟨s0, e0, _, z0⟩ := DataW.trod_int Tryd.underlying3 h0; obtain ⟨s1, e1, _, z1⟩ := DataW.trod_int Tryd.underlying3 h1
  obtain rfl : c0 = .int .i64 s0 := by simpa using e0
  obtain rfl : c1 = .int .i64 s1 := by simpa using e1
  exact ⟨⟨s0, s1⟩, k44_mk w ⟨s0, s1⟩, trivial⟩
theorem opens_cred : Opens Tryd.prog 46 k46 okCred := by
  intro H enc w base spare held fuel cs x h; obtain ⟨hl, n, hf⟩ := field_at Tryd.underlying46 h; rw [Tryd.cellsCred] at hl; obtain ⟨y0, h0⟩ : ∃ y, DataW.trod enc Tryd.prog w base spare held n 44 ((cs.drop 0).take (Tryd.prog.cellsOf 44)) = some y := hf 0 _ rfl; obtain ⟨y1, h1⟩ : ∃ y, DataW.trod enc Tryd.prog w base spare held n 9 ((cs.drop 2).take (Tryd.prog.cellsOf 9)) = some y := hf 1 _ rfl; obtain ⟨y2, h2⟩ : ∃ y, DataW.trod enc Tryd.prog w base spare held n 3 ((cs.drop 3).take (Tryd.prog.cellsOf 3)) = some y := hf 2 _ rfl; obtain ⟨y3, h3⟩ : ∃ y, DataW.trod enc Tryd.prog w base spare held n 9 ((cs.drop 4).take (Tryd.prog.cellsOf 9)) = some y := hf 3 _ rfl; obtain ⟨y4, h4⟩ : ∃ y, DataW.trod enc Tryd.prog w base spare held n 33 ((cs.drop 5).take (Tryd.prog.cellsOf 33)) = some y := hf 4 _ rfl; obtain ⟨y5, h5⟩ : ∃ y, DataW.trod enc Tryd.prog w base spare held n 33 ((cs.drop 7).take (Tryd.prog.cellsOf 33)) = some y := hf 5 _ rfl; rw [Tryd.cellsID] at h0; rw [Tryd.cellsStr] at h1 h3; rw [Tryd.cellsInt] at h2; rw [Tryd.cellsRole] at h4 h5; obtain ⟨c0, c1, c2, c3, c4, c5, c6, c7, c8, rfl⟩ := list9 hl; obtain ⟨a, ka, _⟩ := opens_id _ _ _ _ _ _ _ _ _ h0
  obtain ⟨rfl, rfl⟩ : c0 = .int .i64 a.f0 ∧ c1 = .int .i64 a.f1 := by simpa using k44_open ka
  obtain ⟨s1, e1, _, z1⟩ := DataW.trod_string Tryd.underlying9 h1; obtain ⟨s2, e2, _, z2⟩ := DataW.trod_int Tryd.underlying3 h2; obtain ⟨s3, e3, _, z3⟩ := DataW.trod_string Tryd.underlying9 h3
  obtain rfl : c2 = .string s1 := by simpa using e1
  obtain rfl : c3 = .int .i64 s2 := by simpa using e2
  obtain rfl : c4 = .string s3 := by simpa using e3
  obtain ⟨r4, k4, z4⟩ := opens_role _ _ _ _ _ _ _ _ _ h4
  obtain ⟨rfl, rfl⟩ : c5 = .string r4.f0 ∧ c6 = .string r4.f1 := by simpa using k33_open k4
  obtain ⟨r5, k5, z5⟩ := opens_role _ _ _ _ _ _ _ _ _ h5
  obtain ⟨rfl, rfl⟩ : c7 = .string r5.f0 ∧ c8 = .string r5.f1 := by simpa using k33_open k5
  exact ⟨⟨a, s1, s2, s3, r4, r5⟩, k46_mk w ⟨a, s1, s2, s3, r4, r5⟩, z1, z3, z4, z5⟩
theorem opens_pair : Opens Tryd.prog 47 k47 okPair := by
  intro H enc w base spare held fuel cs x h; obtain ⟨hl, n, hf⟩ := field_at Tryd.underlying47 h; rw [Tryd.cellsPair] at hl; obtain ⟨y0, h0⟩ : ∃ y, DataW.trod enc Tryd.prog w base spare held n 33 ((cs.drop 0).take (Tryd.prog.cellsOf 33)) = some y := hf 0 _ rfl; obtain ⟨y1, h1⟩ : ∃ y, DataW.trod enc Tryd.prog w base spare held n 9 ((cs.drop 2).take (Tryd.prog.cellsOf 9)) = some y := hf 1 _ rfl; rw [Tryd.cellsRole] at h0; rw [Tryd.cellsStr] at h1; obtain ⟨c0, c1, c2, rfl⟩ := list3 hl; obtain ⟨r0, k0, z0⟩ := opens_role _ _ _ _ _ _ _ _ _ h0
  obtain ⟨rfl, rfl⟩ : c0 = .string r0.f0 ∧ c1 = .string r0.f1 := by simpa using k33_open k0
  obtain ⟨s1, e1, _, z1⟩ := DataW.trod_string Tryd.underlying9 h1
  obtain rfl : c2 = .string s1 := by simpa using e1
  exact ⟨⟨r0, s1⟩, k47_mk w ⟨r0, s1⟩, z0.1, z0.2, z1⟩
end Go.Proofs.YtpjddgmdgfjlfaaDoor.Pr
end
section
namespace Go.Proofs.YtpjddgmdgfjlfaaDoor.Pr
open Go.RowKit Go.Proofs.YtpjddgmdgfjlfaaDoorW.PrintWords Go.Proofs.YtpjddgmdgfjlfaaDoorW.PrintLast Go.Proofs.YtpjddgmdgfjlfaaDoorW.PrintMore
inductive Said (cs : List Cred) : Pair → Prop
  | member {c : Cred} : c ∈ cs → c.f2 = 1 → Said cs ⟨credRole c, c.f3⟩
  | incl {c : Cred} {u : ByteArray} : c ∈ cs → c.f2 = 2 → Said cs ⟨c.f4, u⟩ → Said cs ⟨credRole c, u⟩
  | link {c : Cred} {u v : ByteArray} : c ∈ cs → c.f2 = 3 → Said cs ⟨linkFirst c, u⟩ → numName u > 0 → Said cs ⟨⟨u, c.f5.f1⟩, v⟩ → Said cs ⟨credRole c, v⟩
  | both {c : Cred} {u : ByteArray} : c ∈ cs → c.f2 = 4 → Said cs ⟨c.f4, u⟩ → Said cs ⟨c.f5, u⟩ → Said cs ⟨credRole c, u⟩
def small (s : ByteArray) : Prop := s.size ≤ 8
def smallR (r : Role) : Prop := small r.f0 ∧ small r.f1
theorem small_max {s : ByteArray} (h : small s) : s.size ≤ maxLen := Nat.le_trans h (by decide)
theorem mayName_small {s : ByteArray} (h : mayName s = true) : small s := by
  unfold mayName at h; simp only [Bool.and_eq_true, decide_eq_true_eq] at h; unfold small; omega
theorem domName_small (n : Int) : small (domName n) := by
  by_cases h : 1 ≤ n ∧ n ≤ 16
  · obtain ⟨h, h'⟩ := h
    have : n = 1 ∨ n = 2 ∨ n = 3 ∨ n = 4 ∨ n = 5 ∨ n = 6 ∨ n = 7 ∨ n = 8 ∨ n = 9 ∨ n = 10 ∨ n = 11 ∨ n = 12 ∨ n = 13 ∨ n = 14 ∨ n = 15 ∨ n = 16 := by omega
    rcases this with rfl | rfl | rfl | rfl | rfl | rfl | rfl | rfl | rfl | rfl | rfl | rfl | rfl | rfl | rfl | rfl <;> (unfold small; decide)
  · rw [domName_out n (by omega)]
    unfold small
    decide
theorem numName_small {s : ByteArray} (h : numName s > 0) : small s := by
  rcases numName_spec s with ⟨m, _, _, h3, _⟩ | ⟨_, h2⟩
  · rw [← h3]; exact domName_small m
  · omega
theorem numName_dom {n : Int} (h : 1 ≤ n) (h' : n ≤ 16) : numName (domName n) > 0 := by
  rcases numName_spec (domName n) with ⟨m, h1, _, _, h4⟩ | ⟨h1, _⟩
  · omega
  · exact absurd rfl (h1 n h h')
theorem roleOk_small {r : Role} (h : roleOk r = true) : smallR r := by
  unfold roleOk at h; rw [Bool.and_eq_true, decide_eq_true_eq] at h; exact ⟨numName_small h.1, mayName_small h.2⟩
theorem bareOk_small {r : Role} (h : bareOk r = true) : small r.f1 := by
  unfold bareOk at h; rw [Bool.and_eq_true] at h; exact mayName_small h.2
theorem credMay_facts {c : Cred} (h : credMay c = true) : (1 ≤ c.f0.f0 ∧ c.f0.f0 ≤ 16) ∧ small c.f1 ∧ ((c.f2 = 1 ∧ small c.f3) ∨ (c.f2 = 2 ∧ smallR c.f4) ∨ (c.f2 = 3 ∧ small c.f4.f1 ∧ small c.f5.f1) ∨ (c.f2 = 4 ∧ smallR c.f4 ∧ smallR c.f5)) := by
  unfold credMay at h; rw [Bool.and_eq_true, Bool.and_eq_true, Bool.and_eq_true, decide_eq_true_eq] at h; refine ⟨h.1.1.1, mayName_small h.1.2, ?_⟩; have h2 := h.2
  by_cases k1 : c.f2 = 1
  · rw [if_pos k1, Bool.and_eq_true] at h2
    exact .inl ⟨k1, mayName_small h2.1⟩
  rw [if_neg k1] at h2
  by_cases k2 : c.f2 = 2
  · rw [if_pos k2, Bool.and_eq_true] at h2
    exact .inr (.inl ⟨k2, roleOk_small h2.1⟩)
  rw [if_neg k2] at h2
  by_cases k3 : c.f2 = 3
  · rw [if_pos k3, Bool.and_eq_true, Bool.and_eq_true] at h2
    exact .inr (.inr (.inl ⟨k3, bareOk_small h2.1, bareOk_small h2.2.1⟩))
  rw [if_neg k3] at h2
  by_cases k4 : c.f2 = 4
  · rw [if_pos k4, Bool.and_eq_true, Bool.and_eq_true] at h2
    exact .inr (.inr (.inr ⟨k4, roleOk_small h2.1, roleOk_small h2.2.1⟩))
  rw [if_neg k4] at h2; cases h2
def Mays (cs : List Cred) : Prop := ∀ c ∈ cs, credMay c = true
theorem Said.within {cs : List Cred} {p : Pair} (h : Said cs p) : (∃ c ∈ cs, p.f0 = credRole c) ∧ ∃ c ∈ cs, c.f2 = 1 ∧ p.f1 = c.f3 := by
  induction h with
  | member hc hk => exact ⟨⟨_, hc, rfl⟩, _, hc, hk, rfl⟩
  | incl hc hk _ ih => exact ⟨⟨_, hc, rfl⟩, ih.2⟩
  | link hc hk _ _ _ _ ih => exact ⟨⟨_, hc, rfl⟩, ih.2⟩
  | both hc hk _ _ ih _ => exact ⟨⟨_, hc, rfl⟩, ih.2⟩
theorem Said.smalls {cs : List Cred} (hm : Mays cs) {p : Pair} (h : Said cs p) : smallR p.f0 ∧ small p.f1 := by
  obtain ⟨⟨c, hc, e⟩, c', hc', hk, e'⟩ := h.within; obtain ⟨_, h1, _⟩ := credMay_facts (hm c hc); obtain ⟨_, _, h2⟩ := credMay_facts (hm c' hc'); rw [e, e']; refine ⟨⟨domName_small _, h1⟩, ?_⟩
  rcases h2 with h2 | h2 | h2 | h2
  · exact h2.2
  · omega
  · omega
  · omega
theorem Said.okPair {cs : List Cred} (hm : Mays cs) {p : Pair} (h : Said cs p) : okPair p := by
  obtain ⟨⟨h0, h1⟩, h2⟩ := h.smalls hm; exact ⟨small_max h0, small_max h1, small_max h2⟩
theorem Said.owner {cs : List Cred} (hm : Mays cs) {p : Pair} (h : Said cs p) : numName p.f0.f0 > 0 := by
  obtain ⟨⟨c, hc, e⟩, _⟩ := h.within; obtain ⟨h0, _⟩ := credMay_facts (hm c hc); rw [e]; exact numName_dom h0.1 h0.2
theorem flatMap_len {α β : Type} (f : α → List β) (n : Nat) (h : ∀ c, (f c).length = n) : ∀ l : List α, (l.flatMap f).length = l.length * n
  | [] => by simp
  | a :: l => by rw [List.flatMap_cons, List.length_append, h a, flatMap_len f n h l, List.length_cons, Nat.succ_mul, Nat.add_comm]
theorem said_all {cs : List Cred} {l : List Pair} (hn : l.Nodup) (h : ∀ p ∈ l, Said cs p) : l.length ≤ cs.length * cs.length := by
  have := nodup_le (m := cs.flatMap fun c => cs.map fun c' => (⟨credRole c, c'.f3⟩ : Pair)) hn (fun p hp => by
    obtain ⟨⟨c, hc, e⟩, c', hc', _, e'⟩ := (h p hp).within
    exact List.mem_flatMap.mpr ⟨c, hc, List.mem_map.mpr ⟨c', hc', pair_ext e.symm e'.symm⟩⟩)
  exact Nat.le_trans this (Nat.le_of_eq (flatMap_len _ cs.length (fun c => by simp) cs))
theorem said_400 {cs : List Cred} (hl : cs.length ≤ 20) {l : List Pair} (hn : l.Nodup) (h : ∀ p ∈ l, Said cs p) : l.length ≤ 400 :=
  Nat.le_trans (said_all hn h) (Nat.mul_le_mul hl hl)
theorem Said.mono {cs cs' : List Cred} (h : ∀ c ∈ cs, c ∈ cs') {p : Pair} (hp : Said cs p) : Said cs' p := by
  induction hp with
  | member hc hk => exact .member (h _ hc) hk
  | incl hc hk _ ih => exact .incl (h _ hc) hk ih
  | link hc hk _ hn _ ih1 ih2 => exact .link (h _ hc) hk ih1 hn ih2
  | both hc hk _ _ ih1 ih2 => exact .both (h _ hc) hk ih1 ih2
structure Good (cs : List Cred) (s : St) : Prop where
  nodup : s.known.Nodup
  said : ∀ p ∈ s.known, Said cs p
  suffix : ∃ done, s.known = done ++ s.waits
def Grows (s s' : St) : Prop := ∃ l, s'.known = s.known ++ l ∧ s'.waits = s.waits ++ l
theorem Grows.refl (s : St) : Grows s s := ⟨[], by simp, by simp⟩
theorem Grows.trans {s s' s'' : St} (h : Grows s s') (h' : Grows s' s'') : Grows s s'' := by
  obtain ⟨l, h1, h2⟩ := h; obtain ⟨l', h3, h4⟩ := h'; exact ⟨l ++ l', by rw [h3, h1, List.append_assoc], by rw [h4, h2, List.append_assoc]⟩
theorem Grows.mem {s s' : St} (h : Grows s s') {p : Pair} (hp : p ∈ s.known) : p ∈ s'.known := by
  obtain ⟨l, h1, _⟩ := h; rw [h1]; exact List.mem_append_left _ hp
def Runs (cs : List Cred) (s : St) (r : Option St) (W : Pair → Prop) : Prop := ∃ s', r = some s' ∧ Good cs s' ∧ Grows s s' ∧ ∀ q, W q → q ∈ s'.known
theorem Runs.none {cs : List Cred} {s : St} {W : Pair → Prop} (h : Good cs s) (hW : ∀ q, ¬ W q) : Runs cs s (some s) W := ⟨s, rfl, h, .refl s, fun q hq => absurd hq (hW q)⟩
theorem Runs.bind {cs : List Cred} {s : St} {r : Option St} {f : St → Option St} {W1 W2 W : Pair → Prop} (h : Runs cs s r W1) (hf : ∀ s', Good cs s' → Grows s s' → Runs cs s' (f s') W2) (hW : ∀ q, W q → W1 q ∨ W2 q) : Runs cs s (r.bind f) W := by
  obtain ⟨s1, rfl, g1, gr1, w1⟩ := h; obtain ⟨s2, e2, g2, gr2, w2⟩ := hf s1 g1 gr1; exact ⟨s2, e2, g2, gr1.trans gr2, fun q hq => (hW q hq).elim (fun h => gr2.mem (w1 q h)) (w2 q)⟩
theorem Runs.imp {cs : List Cred} {s : St} {r : Option St} {W W' : Pair → Prop} (h : Runs cs s r W) (hW : ∀ q, W' q → W q) : Runs cs s r W' := by
  obtain ⟨s1, e, g1, gr1, w1⟩ := h; exact ⟨s1, e, g1, gr1, fun q hq => w1 q (hW q hq)⟩
theorem learn_runs {cs : List Cred} (hm : Mays cs) (hl : cs.length ≤ 20) {s : St} (g : Good cs s) {p : Pair} (hp : Said cs p) : Runs cs s (s.learn p) (fun q => q = p) := by
  unfold St.learn
  by_cases hin : p ∈ s.known
  · rw [if_pos hin]
    exact ⟨s, rfl, g, .refl s, fun q e => e ▸ hin⟩
  · have h400 := said_400 hl g.nodup g.said
    obtain ⟨done, hd⟩ := g.suffix
    have hw : s.waits.length ≤ 400 := by
      have := congrArg List.length hd; rw [List.length_append] at this; omega
    rw [if_neg hin, if_pos ⟨by omega, by omega, hp.okPair hm⟩]; refine ⟨_, rfl, ⟨?_, ?_, done, ?_⟩, ⟨[p], rfl, rfl⟩, fun q e => ?_⟩
    · show (s.known ++ [p]).Nodup
      rw [List.nodup_append]; refine ⟨g.nodup, by simp, ?_⟩; intro a ha b hb e; rw [List.mem_singleton] at hb; exact hin (hb ▸ e ▸ ha)
    · intro q hq
      rcases List.mem_append.mp hq with h | h
      · exact g.said q h
      · rw [List.mem_singleton.mp h]; exact hp
    · show s.known ++ [p] = done ++ (s.waits ++ [p])
      rw [hd, List.append_assoc]
    · subst e
      exact List.mem_append_right _ (by simp)
theorem members_runs {cs : List Cred} (hm : Mays cs) (hl : cs.length ≤ 20) : ∀ (l : List Cred) (s : St), (∀ c ∈ l, c ∈ cs) → Good cs s → Runs cs s (membersF l s) (fun q => ∃ c ∈ l, c.f2 = 1 ∧ q = ⟨credRole c, c.f3⟩)
  | [], s, _, g => .none g (fun q h => by obtain ⟨c, hc, _⟩ := h; cases hc)
  | c :: l, s, hs, g => by
    rw [membersF]
    by_cases k : c.f2 = 1
    · rw [if_pos k]
      refine (learn_runs hm hl g (.member (hs c (List.mem_cons_self ..)) k)).bind (fun s' g' _ => members_runs hm hl l s' (fun x hx => hs x (List.mem_cons_of_mem _ hx)) g') ?_; rintro q ⟨c', hc', hk', e⟩
      rcases List.mem_cons.mp hc' with rfl | h
      · exact .inl e
      · exact .inr ⟨c', h, hk', e⟩
    · rw [if_neg k]
      refine (members_runs hm hl l s (fun x hx => hs x (List.mem_cons_of_mem _ hx)) g).imp ?_; rintro q ⟨c', hc', hk', e⟩
      rcases List.mem_cons.mp hc' with rfl | h
      · exact absurd hk' k
      · exact ⟨c', h, hk', e⟩
theorem learnMany_runs {cs : List Cred} (hm : Mays cs) (hl : cs.length ≤ 20) (c : Cred) (second : Role) : ∀ (l : List Pair) (s : St), (∀ q ∈ l, q.f0 = second → Said cs ⟨credRole c, q.f1⟩) → Good cs s → Runs cs s (learnMany c second l s) (fun r => ∃ q ∈ l, q.f0 = second ∧ r = ⟨credRole c, q.f1⟩)
  | [], s, _, g => .none g (fun q h => by obtain ⟨c, hc, _⟩ := h; cases hc)
  | q :: l, s, hs, g => by
    rw [learnMany]
    by_cases k : q.f0 = second
    · rw [if_pos k]
      refine (learn_runs hm hl g (hs q (List.mem_cons_self ..) k)).bind (fun s' g' _ => learnMany_runs hm hl c second l s' (fun x hx => hs x (List.mem_cons_of_mem _ hx)) g') ?_; rintro r ⟨q', hq', hk', e⟩
      rcases List.mem_cons.mp hq' with rfl | h
      · exact .inl e
      · exact .inr ⟨q', h, hk', e⟩
    · rw [if_neg k]
      refine (learnMany_runs hm hl c second l s (fun x hx => hs x (List.mem_cons_of_mem _ hx)) g).imp ?_; rintro r ⟨q', hq', hk', e⟩
      rcases List.mem_cons.mp hq' with rfl | h
      · exact absurd hk' k
      · exact ⟨q', h, hk', e⟩
theorem sortPairs_mem {l : List Pair} {p : Pair} : p ∈ sortPairs l ↔ p ∈ l := (List.mergeSort_perm l _).mem_iff
inductive Rule (c : Cred) (p : Pair) (K : List Pair) : Pair → Prop
  | incl : c.f2 = 2 → p.f0 = c.f4 → Rule c p K ⟨credRole c, p.f1⟩
  | linkA {v : ByteArray} : c.f2 = 3 → p.f0 = linkFirst c → numName p.f1 > 0 → (⟨⟨p.f1, c.f5.f1⟩, v⟩ : Pair) ∈ K → Rule c p K ⟨credRole c, v⟩
  | linkB : c.f2 = 3 → p.f0.f1 = c.f5.f1 → (⟨linkFirst c, p.f0.f0⟩ : Pair) ∈ K → Rule c p K ⟨credRole c, p.f1⟩
  | bothA : c.f2 = 4 → p.f0 = c.f4 → (⟨c.f5, p.f1⟩ : Pair) ∈ K → Rule c p K ⟨credRole c, p.f1⟩
  | bothB : c.f2 = 4 → p.f0 = c.f5 → (⟨c.f4, p.f1⟩ : Pair) ∈ K → Rule c p K ⟨credRole c, p.f1⟩
theorem Rule.mono {c : Cred} {p : Pair} {K K' : List Pair} (h : ∀ x ∈ K, x ∈ K') {r : Pair} (hr : Rule c p K r) : Rule c p K' r := by
  cases hr with
  | incl a b => exact .incl a b
  | linkA a b d e => exact .linkA a b d (h _ e)
  | linkB a b d => exact .linkB a b (h _ d)
  | bothA a b d => exact .bothA a b (h _ d)
  | bothB a b d => exact .bothB a b (h _ d)
theorem linkA_runs {cs : List Cred} (hm : Mays cs) (hl : cs.length ≤ 20) {c : Cred} (hc : c ∈ cs) (k : c.f2 = 3) {p : Pair} (s : St) (hp : p ∈ s.known) (g : Good cs s) : Runs cs s (linkA c p s) (fun r => p.f0 = linkFirst c ∧ numName p.f1 > 0 ∧ ∃ v, (⟨⟨p.f1, c.f5.f1⟩, v⟩ : Pair) ∈ s.known ∧ r = ⟨credRole c, v⟩) := by
  unfold linkA
  by_cases e1 : p.f0 = linkFirst c
  · rw [if_pos e1, number_is _ 20 (by omega), Option.bind_some]
    by_cases hn : numName p.f1 > 0
    · have h400 := said_400 hl g.nodup g.said
      rw [if_pos hn, if_pos (by omega)]; refine (learnMany_runs hm hl c _ _ s ?_ g).imp ?_
      · intro q hq e
        have hq' := g.said q (sortPairs_mem.mp hq); have hp' := g.said p hp; have eq : q = ⟨⟨p.f1, c.f5.f1⟩, q.f1⟩ := pair_ext e rfl; have ep : p = ⟨linkFirst c, p.f1⟩ := pair_ext e1 rfl; rw [ep] at hp'; rw [eq] at hq'; exact .link hc k hp' hn hq'
      · rintro r ⟨_, _, v, hv, e⟩
        exact ⟨_, sortPairs_mem.mpr hv, rfl, e⟩
    · rw [if_neg hn]
      exact .none g (fun q h => hn h.2.1)
  · rw [if_neg e1]
    exact .none g (fun q h => e1 h.1)
theorem linkB_runs {cs : List Cred} (hm : Mays cs) (hl : cs.length ≤ 20) {c : Cred} (hc : c ∈ cs) (k : c.f2 = 3) {p : Pair} (s : St) (hp : p ∈ s.known) (g : Good cs s) : Runs cs s (linkB c p s) (fun r => p.f0.f1 = c.f5.f1 ∧ (⟨linkFirst c, p.f0.f0⟩ : Pair) ∈ s.known ∧ r = ⟨credRole c, p.f1⟩) := by
  unfold linkB; have hp' := g.said p hp
  by_cases e1 : p.f0.f1 = c.f5.f1
  · obtain ⟨_, h1, h2⟩ := credMay_facts (hm c hc)
    have hok : okPair ⟨linkFirst c, p.f0.f0⟩ := by
      refine ⟨small_max (domName_small _), ?_, (hp'.okPair hm).1⟩
      rcases h2 with h2 | h2 | h2 | h2
      · omega
      · omega
      · exact small_max h2.2.1
      · omega
    rw [if_pos e1, if_pos hok]
    by_cases hin : (⟨linkFirst c, p.f0.f0⟩ : Pair) ∈ s.known
    · rw [if_pos hin]
      refine (learn_runs hm hl g ?_).imp ?_
      · have ep : p = ⟨⟨p.f0.f0, c.f5.f1⟩, p.f1⟩ := pair_ext (role_ext rfl e1) rfl
        have hn := hp'.owner hm; have hp2 := hp'; rw [ep] at hp2; exact .link hc k (g.said _ hin) hn hp2
      · rintro r ⟨_, _, e⟩
        exact e
    · rw [if_neg hin]
      exact .none g (fun q h => hin h.2.1)
  · rw [if_neg e1]
    exact .none g (fun q h => e1 h.1)
theorem bothS_runs {cs : List Cred} (hm : Mays cs) (hl : cs.length ≤ 20) {c : Cred} (hc : c ∈ cs) (k : c.f2 = 4) {p : Pair} (s : St) (hp : p ∈ s.known) (g : Good cs s) : Runs cs s (bothSecond c p s) (fun r => p.f0 = c.f5 ∧ (⟨c.f4, p.f1⟩ : Pair) ∈ s.known ∧ r = ⟨credRole c, p.f1⟩) := by
  unfold bothSecond; have hp' := g.said p hp
  by_cases e1 : p.f0 = c.f5
  · obtain ⟨_, h1, h2⟩ := credMay_facts (hm c hc)
    have hok : okPair ⟨c.f4, p.f1⟩ := by
      rcases h2 with h2 | h2 | h2 | h2
      · omega
      · omega
      · omega
      · exact ⟨small_max h2.2.1.1, small_max h2.2.1.2, (hp'.okPair hm).2.2⟩
    rw [if_pos e1, if_pos hok]
    by_cases hin : (⟨c.f4, p.f1⟩ : Pair) ∈ s.known
    · rw [if_pos hin]
      refine (learn_runs hm hl g ?_).imp ?_
      · have ep : p = ⟨c.f5, p.f1⟩ := pair_ext e1 rfl
        have hp2 := hp'; rw [ep] at hp2; exact .both hc k (g.said _ hin) hp2
      · rintro r ⟨_, _, e⟩
        exact e
    · rw [if_neg hin]
      exact .none g (fun q h => hin h.2.1)
  · rw [if_neg e1]
    exact .none g (fun q h => e1 h.1)
theorem both_runs {cs : List Cred} (hm : Mays cs) (hl : cs.length ≤ 20) {c : Cred} (hc : c ∈ cs) (k : c.f2 = 4) {p : Pair} (s : St) (hp : p ∈ s.known) (g : Good cs s) : Runs cs s (bothF c p s) (fun r => Rule c p s.known r) := by
  unfold bothF; have hp' := g.said p hp; have key : Runs cs s (bothSecond c p s) (fun r => p.f0 = c.f5 ∧ (⟨c.f4, p.f1⟩ : Pair) ∈ s.known ∧ r = ⟨credRole c, p.f1⟩) := bothS_runs hm hl hc k s hp g
  have other : ∀ r, Rule c p s.known r → (¬ (p.f0 = c.f4 ∧ (⟨c.f5, p.f1⟩ : Pair) ∈ s.known)) → p.f0 = c.f5 ∧ (⟨c.f4, p.f1⟩ : Pair) ∈ s.known ∧ r = ⟨credRole c, p.f1⟩ := by
    intro r hr hno
    cases hr with
    | incl a b => omega
    | linkA a b d e => omega
    | linkB a b d => omega
    | bothA a b d => exact absurd ⟨b, d⟩ hno
    | bothB a b d => exact ⟨b, d, rfl⟩
  by_cases e1 : p.f0 = c.f4
  · obtain ⟨_, h1, h2⟩ := credMay_facts (hm c hc)
    have hok : okPair ⟨c.f5, p.f1⟩ := by
      rcases h2 with h2 | h2 | h2 | h2
      · omega
      · omega
      · omega
      · exact ⟨small_max h2.2.2.1, small_max h2.2.2.2, (hp'.okPair hm).2.2⟩
    rw [if_pos e1, if_pos hok]
    by_cases hin : (⟨c.f5, p.f1⟩ : Pair) ∈ s.known
    · rw [if_pos hin]
      refine (learn_runs hm hl g ?_).imp ?_
      · have ep : p = ⟨c.f4, p.f1⟩ := pair_ext e1 rfl
        have hp2 := hp'; rw [ep] at hp2; exact .both hc k hp2 (g.said _ hin)
      · intro r hr
        cases hr with
        | incl a b => omega
        | linkA a b d e => omega
        | linkB a b d => omega
        | bothA a b d => rfl
        | bothB a b d => rfl
    · rw [if_neg hin]
      exact key.imp fun r hr => other r hr (fun h => hin h.2)
  · rw [if_neg e1]
    exact key.imp fun r hr => other r hr (fun h => e1 h.1)
theorem step_runs {cs : List Cred} (hm : Mays cs) (hl : cs.length ≤ 20) {c : Cred} (hc : c ∈ cs) {p : Pair} (s : St) (hp : p ∈ s.known) (g : Good cs s) : Runs cs s (stepF p c s) (fun r => Rule c p s.known r) := by
  unfold stepF
  by_cases k1 : c.f2 = 1
  · rw [if_pos k1]
    refine .none g (fun q h => ?_)
    cases h <;> omega
  rw [if_neg k1]
  by_cases k3 : c.f2 = 3
  · rw [if_pos k3]
    unfold linkF; refine (linkA_runs hm hl hc k3 s hp g).bind (W2 := fun r => p.f0.f1 = c.f5.f1 ∧ (⟨linkFirst c, p.f0.f0⟩ : Pair) ∈ s.known ∧ r = ⟨credRole c, p.f1⟩) (fun s' g' gr => (linkB_runs hm hl hc k3 s' (gr.mem hp) g').imp (fun q h => ⟨h.1, gr.mem h.2.1, h.2.2⟩)) ?_; intro r hr
    cases hr with
    | incl a b => omega
    | linkA a b d e => exact .inl ⟨b, d, _, e, rfl⟩
    | linkB a b d => exact .inr ⟨b, d, rfl⟩
    | bothA a b d => omega
    | bothB a b d => omega
  rw [if_neg k3]
  by_cases k4 : c.f2 = 4
  · rw [if_pos k4]
    exact both_runs hm hl hc k4 s hp g
  rw [if_neg k4]
  have k2 : c.f2 = 2 := by
    obtain ⟨_, _, h2⟩ := credMay_facts (hm c hc)
    rcases h2 with h2 | h2 | h2 | h2
    · omega
    · exact h2.1
    · omega
    · omega
  unfold includeF
  by_cases e1 : p.f0 = c.f4
  · rw [if_pos e1]
    refine (learn_runs hm hl g ?_).imp ?_
    · have ep : p = ⟨c.f4, p.f1⟩ := pair_ext e1 rfl
      have hp2 := g.said p hp; rw [ep] at hp2; exact .incl hc k2 hp2
    · intro r hr
      cases hr with
      | incl a b => rfl
      | linkA a b d e => omega
      | linkB a b d => omega
      | bothA a b d => omega
      | bothB a b d => omega
  · rw [if_neg e1]
    refine .none g (fun r hr => ?_)
    cases hr with
    | incl a b => exact e1 b
    | linkA a b d e => omega
    | linkB a b d => omega
    | bothA a b d => omega
    | bothB a b d => omega
theorem steps_runs {cs : List Cred} (hm : Mays cs) (hl : cs.length ≤ 20) {p : Pair} (K : List Pair) : ∀ (l : List Cred) (s : St), (∀ c ∈ l, c ∈ cs) → p ∈ s.known → (∀ x ∈ K, x ∈ s.known) → Good cs s → Runs cs s (stepsF p l s) (fun r => ∃ c ∈ l, Rule c p K r)
  | [], s, _, _, _, g => .none g (fun q h => by obtain ⟨c, hc, _⟩ := h; cases hc)
  | c :: l, s, hs, hp, hK, g => by
    rw [stepsF]; refine (step_runs hm hl (hs c (List.mem_cons_self ..)) s hp g).bind (fun s' g' gr => steps_runs hm hl K l s' (fun x hx => hs x (List.mem_cons_of_mem _ hx)) (gr.mem hp) (fun x hx => gr.mem (hK x hx)) g') ?_; rintro r ⟨c', hc', hr⟩
    rcases List.mem_cons.mp hc' with rfl | h
    · exact .inl (hr.mono hK)
    · exact .inr ⟨c', h, hr⟩
def Dealt (cs : List Cred) (s : St) : Prop := (∀ c ∈ cs, c.f2 = 1 → (⟨credRole c, c.f3⟩ : Pair) ∈ s.known) ∧ ∃ done, s.known = done ++ s.waits ∧ ∀ a ∈ done, ∀ c ∈ cs, ∀ r, Rule c a done r → r ∈ s.known
theorem dealt_step {cs : List Cred} (hm : Mays cs) (hl : cs.length ≤ 20) {s : St} (g : Good cs s) (d : Dealt cs s) {p : Pair} {ws : List Pair} (e : s.waits = p :: ws) :
    ∃ s', stepsF p cs ⟨s.known, ws⟩ = some s' ∧ Good cs s' ∧ Dealt cs s' ∧ s'.known.length - s'.waits.length = s.known.length - s.waits.length + 1 ∧ s'.waits.length ≤ s'.known.length := by
  obtain ⟨hM, done, hd, hC⟩ := d
  have hd2 : s.known = (done ++ [p]) ++ ws := by rw [hd, e]; simp
  have g1 : Good cs ⟨s.known, ws⟩ := ⟨g.nodup, g.said, done ++ [p], hd2⟩
  have hpk : p ∈ s.known := by rw [hd2]; simp
  have hsub : ∀ x ∈ done ++ [p], x ∈ s.known := fun x hx => by rw [hd2]; exact List.mem_append_left _ hx
  obtain ⟨s', es, g', ⟨l, hk, hw⟩, hW⟩ := steps_runs hm hl (p := p) (done ++ [p]) cs ⟨s.known, ws⟩ (fun c h => h) hpk hsub g1; have hk' : s'.known = s.known ++ l := hk; have hw' : s'.waits = ws ++ l := hw
  have up : ∀ x ∈ s.known, x ∈ s'.known := fun x hx => by rw [hk']; exact List.mem_append_left _ hx
  refine ⟨s', es, g', ⟨fun c hc k => up _ (hM c hc k), done ++ [p], by rw [hk', hw', hd2]; simp, ?_⟩, ?_, ?_⟩
  · intro a ha c hc r hr
    by_cases eap : a = p
    · subst eap
      exact hW r ⟨c, hc, hr⟩
    · have had : a ∈ done := by
        rcases List.mem_append.mp ha with h | h
        · exact h
        · exact absurd (List.mem_singleton.mp h) eap
      have sa : Said cs a := g.said a (hsub a ha)
      have split : ∀ x, x ∈ done ++ [p] → x ∈ done ∨ x = p := fun x hx => (List.mem_append.mp hx).imp id (fun h => List.mem_singleton.mp h)
      cases hr with
      | incl k b => exact up _ (hC a had c hc _ (.incl k b))
      | linkA k b n h =>
        rcases split _ h with h | h
        · exact up _ (hC a had c hc _ (.linkA k b n h))
        · have e0 : p.f0.f0 = a.f1 := by rw [← h]
          have e1 : p.f0.f1 = c.f5.f1 := by rw [← h]
          have e2 := congrArg S47.f1 h; have := Rule.linkB (c := c) (p := p) (K := done ++ [p]) k e1 (by rw [e0, show (⟨linkFirst c, a.f1⟩ : Pair) = a from pair_ext b.symm rfl]; exact ha); rw [← e2] at this; exact hW _ ⟨c, hc, this⟩
      | linkB k b h =>
        rcases split _ h with h | h
        · exact up _ (hC a had c hc _ (.linkB k b h))
        · have e0 : p.f0 = linkFirst c := by rw [← h]
          have e1 : p.f1 = a.f0.f0 := by rw [← h]
          have := Rule.linkA (c := c) (p := p) (K := done ++ [p]) (v := a.f1) k e0 (by rw [e1]; exact sa.owner hm) (by rw [e1, show (⟨⟨a.f0.f0, c.f5.f1⟩, a.f1⟩ : Pair) = a from pair_ext (role_ext rfl b.symm) rfl]; exact ha); exact hW _ ⟨c, hc, this⟩
      | bothA k b h =>
        rcases split _ h with h | h
        · exact up _ (hC a had c hc _ (.bothA k b h))
        · have e0 : p.f0 = c.f5 := by rw [← h]
          have e1 : p.f1 = a.f1 := by rw [← h]
          have := Rule.bothB (c := c) (p := p) (K := done ++ [p]) k e0 (by rw [e1, show (⟨c.f4, a.f1⟩ : Pair) = a from pair_ext b.symm rfl]; exact ha); rw [e1] at this; exact hW _ ⟨c, hc, this⟩
      | bothB k b h =>
        rcases split _ h with h | h
        · exact up _ (hC a had c hc _ (.bothB k b h))
        · have e0 : p.f0 = c.f4 := by rw [← h]
          have e1 : p.f1 = a.f1 := by rw [← h]
          have := Rule.bothA (c := c) (p := p) (K := done ++ [p]) k e0 (by rw [e1, show (⟨c.f5, a.f1⟩ : Pair) = a from pair_ext b.symm rfl]; exact ha); rw [e1] at this; exact hW _ ⟨c, hc, this⟩
  · rw [hk', hw', hd2, e]
    simp; omega
  · rw [hk', hw', hd2]
    simp; omega
theorem loop_said {cs : List Cred} (hm : Mays cs) (hl : cs.length ≤ 20) : ∀ (k : Nat) (s : St), Good cs s → Dealt cs s → s.waits.length ≤ s.known.length → 401 - (s.known.length - s.waits.length) ≤ k → 1 ≤ k → ∃ s', loopF cs k s = some s' ∧ Good cs s' ∧ Dealt cs s' ∧ s'.waits = []
  | 0, s, _, _, _, _, h => by omega
  | k + 1, s, g, d, hle, hk, _ => by
    rw [loopF]
    cases e : s.waits with
    | nil => exact ⟨s, rfl, g, d, e⟩
    | cons p ws =>
      obtain ⟨s1, e1, g1, d1, h1, h2⟩ := dealt_step hm hl g d e; have h400 := said_400 hl g1.nodup g1.said
      show ∃ s', ((stepsF p cs ⟨s.known, ws⟩).bind (loopF cs k)) = some s' ∧ _
      rw [e1, Option.bind_some]; exact loop_said hm hl k s1 g1 d1 h2 (by omega) (by omega)
theorem run_said {cs : List Cred} (hm : Mays cs) (hl : cs.length ≤ 20) : ∃ s, runF 2000 cs = some s ∧ s.known.Nodup ∧ (∀ p, p ∈ s.known ↔ Said cs p) := by
  have g0 : Good cs ⟨[], []⟩ := ⟨List.nodup_nil, fun p hp => by (cases hp), [], rfl⟩
  obtain ⟨s1, e1, g1, ⟨l, hk, hw⟩, hW⟩ := members_runs hm hl cs ⟨[], []⟩ (fun c h => h) g0; have hk' : s1.known = l := hk; have hw' : s1.waits = l := hw
  have d1 : Dealt cs s1 := ⟨fun c hc k => hW _ ⟨c, hc, k, rfl⟩, [], by rw [hk', hw']; rfl, fun a ha => by (cases ha)⟩
  obtain ⟨s2, e2, g2, ⟨hM, done, hd, hC⟩, hws⟩ := loop_said hm hl 2000 s1 g1 d1 (by rw [hk', hw']; exact Nat.le_refl _) (by omega) (by omega); refine ⟨s2, ?_, g2.nodup, fun p => ⟨g2.said p, fun h => ?_⟩⟩
  · unfold runF
    rw [e1, Option.bind_some, e2]
  · rw [hws, List.append_nil] at hd
    rw [hd] at hM hC ⊢
    induction h with
    | member hc k => exact hM _ hc k
    | incl hc k _ ih => exact hC _ ih _ hc _ (.incl (p := ⟨_, _⟩) k rfl)
    | link hc k _ n _ ih1 ih2 => exact hC _ ih1 _ hc _ (.linkA (p := ⟨_, _⟩) k rfl n ih2)
    | both hc k _ _ ih1 ih2 => exact hC _ ih1 _ hc _ (.bothA (p := ⟨_, _⟩) k rfl ih2)
def sameID (a b : Cred) : Bool := decide (a.f0.f0 = b.f0.f0) && decide (a.f0.f1 = b.f0.f1)
theorem sameID_iff {a b : Cred} : sameID a b = true ↔ a.f0.f0 = b.f0.f0 ∧ a.f0.f1 = b.f0.f1 := by
  unfold sameID; rw [Bool.and_eq_true, decide_eq_true_eq, decide_eq_true_eq]
def credLess (a b : Cred) : Prop := a.f0.f0 < b.f0.f0 ∨ (a.f0.f0 = b.f0.f0 ∧ a.f0.f1 < b.f0.f1)
theorem credLess_irrefl (a : Cred) : ¬ credLess a a := by unfold credLess; omega
theorem credLess_trans (a b c : Cred) (h : credLess a b) (h' : credLess b c) : credLess a c := by unfold credLess at *; omega
def First (l : List Cred) (c : Cred) : Prop := l.find? (fun d => credMay d && sameID d c) = some c
structure Counts (l R : List Cred) : Prop where
  sorted : R.Pairwise credLess
  mem : ∀ c, c ∈ R ↔ First l c
theorem Counts.unique {l R R' : List Cred} (h : Counts l R) (h' : Counts l R') : R = R' :=
  sorted_eq credLess_irrefl credLess_trans h.sorted h'.sorted (fun c => (h.mem c).trans (h'.mem c).symm)
theorem First.may {l : List Cred} {c : Cred} (h : First l c) : credMay c = true := by
  have := List.find?_some h; rw [Bool.and_eq_true] at this; exact this.1
theorem First.mem {l : List Cred} {c : Cred} (h : First l c) : c ∈ l := List.mem_of_find?_eq_some h
def firsts (out : List Cred) : List Cred → List Cred
  | [] => out
  | c :: l => if credMay c && !(out.any fun d => sameID d c) then firsts (out ++ [c]) l else firsts out l
theorem firsts_mem (c : Cred) : ∀ (l out : List Cred), c ∈ firsts out l ↔ c ∈ out ∨ ((∀ d ∈ out, sameID d c = false) ∧ First l c)
  | [], out => by
    rw [firsts]; unfold First; simp
  | x :: l, out => by
    rw [firsts]; unfold First; rw [List.find?_cons]
    by_cases h : (credMay x && !(out.any fun d => sameID d x)) = true
    · rw [if_pos h, firsts_mem c l (out ++ [x])]
      rw [Bool.and_eq_true, Bool.not_eq_true', List.any_eq_false] at h
      by_cases hx : sameID x c = true
      · rw [h.1, hx]
        simp only [Bool.and_self, Option.some.injEq, List.mem_append, List.mem_singleton]; constructor
        · rintro ((h1 | h1) | ⟨h1, _⟩)
          · exact .inl h1
          · exact .inr ⟨fun d hd => by rw [h1]; simpa using h.2 d hd, h1.symm⟩
          · have := h1 x (by simp)
            rw [hx] at this; cases this
        · rintro (h1 | ⟨_, h1⟩)
          · exact .inl (.inl h1)
          · exact .inl (.inr h1.symm)
      · rw [Bool.not_eq_true] at hx
        rw [hx, Bool.and_false]; simp only [List.mem_append, List.mem_singleton]; unfold First; constructor
        · rintro ((h1 | h1) | ⟨h1, h2⟩)
          · exact .inl h1
          · subst h1
            rw [Bool.eq_false_iff] at hx; exact absurd (sameID_iff.mpr ⟨rfl, rfl⟩) hx
          · exact .inr ⟨fun d hd => h1 d (.inl hd), h2⟩
        · rintro (h1 | ⟨h1, h2⟩)
          · exact .inl (.inl h1)
          · refine .inr ⟨fun d hd => ?_, h2⟩
            rcases hd with hd | hd
            · exact h1 d hd
            · rw [hd]; exact hx
    · rw [if_neg h, firsts_mem c l out]
      by_cases hx : sameID x c = true
      · by_cases hm : credMay x = true
        · have hany : (out.any fun d => sameID d x) = true := by
            rw [hm, Bool.true_and] at h
            simpa using h
          obtain ⟨d, hd, hdx⟩ := List.any_eq_true.mp hany
          have hdc : sameID d c = true := by
            rw [sameID_iff] at *; omega
          have no : ∀ P : Prop, ¬ ((∀ d ∈ out, sameID d c = false) ∧ P) := fun P hP => by
            have := hP.1 d hd; rw [hdc] at this; cases this
          simp only [no]
        · rw [Bool.not_eq_true] at hm
          rw [hm, Bool.false_and]; rfl
      · rw [Bool.not_eq_true] at hx
        rw [hx, Bool.and_false]; rfl
theorem firsts_apart : ∀ (l out : List Cred), out.Pairwise (fun a b => sameID a b = false) → (firsts out l).Pairwise (fun a b => sameID a b = false)
  | [], out, h => h
  | x :: l, out, h => by
    rw [firsts]
    split
    · rename_i hc
      rw [Bool.and_eq_true, Bool.not_eq_true', List.any_eq_false] at hc; refine firsts_apart l _ ?_; rw [List.pairwise_append]; exact ⟨h, List.pairwise_singleton _ _, fun a ha b hb => by rw [List.mem_singleton.mp hb]; simpa using hc.2 a ha⟩
    · exact firsts_apart l out h
theorem firsts_sorted : ∀ (l out : List Cred), out.Pairwise credLess → (∀ d ∈ out, ∀ c ∈ l, ¬ credLess c d) → l.Pairwise (fun x y => ¬ credLess y x) → (firsts out l).Pairwise credLess
  | [], out, h, _, _ => h
  | x :: l, out, h, hol, hl => by
    rw [firsts]; rw [List.pairwise_cons] at hl
    split
    · rename_i hc
      rw [Bool.and_eq_true, Bool.not_eq_true', List.any_eq_false] at hc; refine firsts_sorted l _ ?_ ?_ hl.2
      · rw [List.pairwise_append]
        refine ⟨h, List.pairwise_singleton _ _, fun a ha b hb => ?_⟩; rw [List.mem_singleton.mp hb]; have h1 := hol a ha x (List.mem_cons_self ..); have h2 := hc.2 a ha; rw [sameID_iff] at h2; unfold credLess at *; omega
      · intro d hd c hcl
        rcases List.mem_append.mp hd with h1 | h1
        · exact hol d h1 c (List.mem_cons_of_mem _ hcl)
        · rw [List.mem_singleton.mp h1]
          exact hl.1 c hcl
    · exact firsts_sorted l out h (fun d hd c hcl => hol d hd c (List.mem_cons_of_mem _ hcl)) hl.2
theorem sortCreds_filter (q : Cred → Bool) (hq : ∀ x y, q x = true → q y = true → sameID x y = true) (l : List Cred) : (sortCreds l).filter q = l.filter q := by
  refine insertion_filter _ q (fun x y h hx hy => ?_) l; have := hq x y hx hy; rw [credCmp_lt] at h; rw [sameID_iff] at this; omega
theorem sortCreds_sorted (l : List Cred) : (sortCreds l).Pairwise (fun x y => ¬ credLess y x) := by
  refine (insertion_sorted _ credSWO l).imp fun {a b} h => ?_
  rw [Bool.eq_false_iff, Ne, credCmp_lt] at h; exact h
theorem find_filter {α : Type} (p : α → Bool) (l : List α) : l.find? p = (l.filter p).head? := by
  rw [List.head?_filter]
theorem sortCreds_first (l : List Cred) (c : Cred) : First (sortCreds l) c ↔ First l c := by
  unfold First; rw [find_filter, find_filter]
  have e : ∀ m : List Cred, m.filter (fun d => credMay d && sameID d c) = (m.filter (fun d => sameID d c)).filter credMay := fun m => by rw [List.filter_filter]
  rw [e, e, sortCreds_filter _ (fun x y hx hy => by rw [sameID_iff] at *; omega)]
theorem prog_counts (l : List Cred) : Counts l (firsts [] (sortCreds l)) where
  sorted := firsts_sorted _ _ List.Pairwise.nil (fun d hd => by cases hd) (sortCreds_sorted l)
  mem c := by
    rw [firsts_mem, sortCreds_first]; simp
theorem firsts_length : ∀ (l out : List Cred), (firsts out l).length ≤ out.length + l.length
  | [], out => by rw [firsts]; simp
  | x :: l, out => by
    rw [firsts]
    split
    · have := firsts_length l (out ++ [x])
      simp at *; omega
    · have := firsts_length l out
      simp; omega
theorem numName_nonneg (s : ByteArray) : 0 ≤ numName s := by
  rcases numName_spec s with ⟨m, _, _, _, _⟩ | ⟨_, _⟩ <;> omega
theorem refRole_is (r : Role) (k : Nat) (hk : 10 ≤ k) : liveryref04_Role.f k r.f0 r.f1 = some (roleOk r) := by
  obtain ⟨j, rfl⟩ : ∃ j, k = j + 2 := ⟨k - 2, by omega⟩
  unfold liveryref04_Role.f roleOk; rw [refMay_is _ _ hk, Option.bind_some]; have := numName_nonneg r.f0; cases mayName r.f1
  · simp
  · rw [if_pos rfl, refNumber_is, Option.bind_some]
    by_cases e : numName r.f0 = 0
    · rw [e]; rfl
    · rw [decide_eq_true (show numName r.f0 > 0 by omega), bne_iff_ne.mpr e]
      rfl
theorem refBare_is (r : Role) (k : Nat) (hk : 10 ≤ k) : liveryref05_bare.f k r.f0 r.f1 = some (bareOk r) := by
  unfold liveryref05_bare.f bareOk noText; rw [refMay_is _ _ hk, Option.bind_some]; cases mayName r.f1
  · simp
  · simp
theorem refCredMay_is (c : Cred) (k : Nat) (hk : 12 ≤ k) : QaK.f k c.f0.f0 c.f0.f1 c.f1 c.f2 c.f3 c.f4.f0 c.f4.f1 c.f5.f0 c.f5.f1 = some (credMay c) := by
  obtain ⟨k, rfl⟩ : ∃ j, k = j + 1 := ⟨k - 1, by omega⟩
  unfold QaK.f credMay; rw [refMay_is _ _ (by omega), refMay_is _ _ (by omega), refRole_is c.f4 _ (by omega), refRole_is c.f5 _ (by omega)]; simp only [Option.bind_some]
  have jt : ∀ a b d, QaK.j0 (k + 1) a b d true c.f0.f0 c.f0.f1 c.f1 c.f2 c.f3 c.f4.f0 c.f4.f1 c.f5.f0 c.f5.f1 = some false := fun a b d => by rw [QaK.j0, if_pos rfl]
  by_cases d1 : c.f0.f0 < 1
  · rw [if_pos d1, jt, decide_eq_false (p := 1 ≤ c.f0.f0 ∧ c.f0.f0 ≤ 16) (by omega)]; rfl
  rw [if_neg d1]
  by_cases d2 : c.f0.f0 > 16
  · rw [if_pos d2, jt, decide_eq_false (p := 1 ≤ c.f0.f0 ∧ c.f0.f0 ≤ 16) (by omega)]; rfl
  rw [if_neg d2, decide_eq_true (p := 1 ≤ c.f0.f0 ∧ c.f0.f0 ≤ 16) (by omega)]
  by_cases s1 : c.f0.f1 < 1
  · rw [if_pos s1, jt, decide_eq_false (p := 1 ≤ c.f0.f1 ∧ c.f0.f1 ≤ 4000) (by omega)]; rfl
  rw [if_neg s1]
  by_cases s2 : c.f0.f1 > 4000
  · rw [if_pos s2, jt, decide_eq_false (p := 1 ≤ c.f0.f1 ∧ c.f0.f1 ≤ 4000) (by omega)]; rfl
  rw [if_neg s2, decide_eq_true (p := 1 ≤ c.f0.f1 ∧ c.f0.f1 ≤ 4000) (by omega)]; cases mayName c.f1
  · exact jt _ _ _
  show QaK.j0 (k + 1) _ _ _ false _ _ _ _ _ _ _ _ _ = _
  rw [QaK.j0, if_neg (by decide)]
  by_cases k1 : c.f2 = 1
  · rw [if_pos k1, if_pos k1]
    show (if mayName c.f3 = true then if noRole c.f4 = true then some (noRole c.f5) else some false else some false) = _
    cases mayName c.f3 <;> cases noRole c.f4 <;> simp
  rw [if_neg k1, if_neg k1]
  by_cases w : c.f3.toList = []
  · have wt : noText c.f3 = true := by unfold noText; rw [w]; rfl
    rw [if_pos w, wt]
    by_cases k2 : c.f2 = 2
    · rw [if_pos k2, if_pos k2]
      show (if roleOk c.f4 = true then some (noRole c.f5) else some false) = _
      cases roleOk c.f4 <;> simp
    rw [if_neg k2, if_neg k2]
    by_cases k3 : c.f2 = 3
    · rw [if_pos k3, if_pos k3, refBare_is c.f4 k (by omega), refBare_is c.f5 k (by omega), Option.bind_some, Option.bind_some]
      cases bareOk c.f4 <;> cases bareOk c.f5 <;> simp
    rw [if_neg k3, if_neg k3]
    by_cases k4 : c.f2 = 4
    · rw [if_pos k4, if_pos k4]
      cases roleOk c.f4 <;> cases roleOk c.f5 <;> simp
    · rw [if_neg k4, if_neg k4]; rfl
  · have wt : noText c.f3 = false := by unfold noText; exact beq_eq_false_iff_ne.mpr w
    rw [if_neg w, wt]; simp only [Bool.and_false]
    by_cases k2 : c.f2 = 2
    · rw [if_pos k2]; rfl
    rw [if_neg k2]
    by_cases k3 : c.f2 = 3
    · rw [if_pos k3]; rfl
    rw [if_neg k3]
    by_cases k4 : c.f2 = 4
    · rw [if_pos k4]; rfl
    · rw [if_neg k4]; rfl
theorem wrap_succ {i : Nat} (h : i < 1000000000000) : wrap64 ((i : Int) + 1) = ((i + 1 : Nat) : Int) := by unfold wrap64; omega
theorem rdCred (l : List Cred) (i : Nat) : Qae l (i : Int) = l[i]! := by
  unfold Qae; rw [Int.toNat_natCast, List.getElem!_eq_getElem?_getD, List.getD_eq_getElem?_getD]; rfl
theorem getBang {α : Type} [Inhabited α] {l : List α} {i : Nat} (h : i < l.length) : l[i]! = l[i] := getElem!_pos l i h
theorem drop_bang {α : Type} [Inhabited α] {l : List α} {i : Nat} (h : i < l.length) : l.drop i = l[i]! :: l.drop (i + 1) := by
  rw [getBang h]; exact List.drop_eq_getElem_cons h
theorem last_same {ini : List Cred} {z c : Cred} (hs : (ini ++ [z]).Pairwise credLess) (hc : ∀ d ∈ ini ++ [z], ¬ credLess c d) : ((ini ++ [z]).any fun d => sameID d c) = sameID z c := by
  rw [List.any_append]
  have h0 : (ini.any fun d => sameID d c) = false := by
    rw [List.any_eq_false]; intro d hd h; rw [List.pairwise_append] at hs; have h1 := hs.2.2 d hd z (by simp); have h2 := hc z (by simp); rw [sameID_iff] at h; unfold credLess at *; omega
  rw [h0]; simp
theorem bne_same (a b : Cred) : (!((a.f0.f0) == (b.f0.f0)) || (!((a.f0.f1) == (b.f0.f1)))) = !(sameID a b) := by
  unfold sameID; rw [Bool.not_and]; rfl
theorem progCounts_loop (S : List Cred) (hl : S.length < 1000) (hok : ∀ c ∈ S, okCred c) (hS : S.Pairwise (fun x y => ¬ credLess y x)) : ∀ (n i k : Nat) (out : List Cred), n + i = S.length → n + 20 ≤ k → out.length ≤ i → out.Pairwise credLess → (∀ d ∈ out, ∀ c ∈ S.drop i, ¬ credLess c d) → Qa2.l0 k out S (S.length : Int) (i : Int) = some (firsts out (S.drop i))
  | 0, i, k, out, hn, hk, ho, _, _ => by
    obtain ⟨k, rfl⟩ : ∃ j, k = j + 1 := ⟨k - 1, by omega⟩
    rw [Qa2.l0, if_neg (by omega), show S.drop i = [] from List.drop_eq_nil_of_le (by omega), firsts]
  | n + 1, i, k, out, hn, hk, ho, hs, hd => by
    obtain ⟨k, rfl⟩ : ∃ j, k = j + 1 := ⟨k - 1, by omega⟩
    have hi : i < S.length := by omega
    have hdrop := drop_bang hi
    have hmem : S[i]! ∈ S := by rw [getBang hi]; exact List.getElem_mem hi
    have hmay := credMay_is S[i]! (hok _ hmem) k (by omega); have hpw := hS.drop (i := i); rw [hdrop] at hd hpw ⊢; rw [List.pairwise_cons] at hpw; rw [Qa2.l0, if_pos (by omega), if_pos (by omega), if_pos (by omega), wrap_succ (by omega), rdCred, hmay, Option.bind_some, firsts]
    generalize hc : S[i]! = c at *
    clear hmay
    have rest := fun (out' : List Cred) h1 h2 h3 => progCounts_loop S hl hok hS n (i + 1) k out' (by omega) (by omega) h1 h2 h3
    have grown : ∀ (h : out.any (fun d => sameID d c) = false), Qa2.l0 k (out ++ [c]) S (S.length : Int) ((i + 1 : Nat) : Int) = some (firsts (out ++ [c]) (S.drop (i + 1))) := fun h => by
      rw [List.any_eq_false] at h; refine rest _ (by simp; omega) ?_ ?_
      · rw [List.pairwise_append]
        refine ⟨hs, List.pairwise_singleton _ _, fun a ha b hb => ?_⟩; rw [List.mem_singleton.mp hb]; have h1 := hd a ha c (List.mem_cons_self ..); have h2 := h a ha; rw [sameID_iff] at h2; unfold credLess at *; omega
      · intro d hdm x hx
        rcases List.mem_append.mp hdm with h1 | h1
        · exact hd d h1 x (List.mem_cons_of_mem _ hx)
        · rw [List.mem_singleton.mp h1]
          exact hpw.1 x hx
    have same : Qa2.l0 k out S (S.length : Int) ((i + 1 : Nat) : Int) = some (firsts out (S.drop (i + 1))) := rest out (by omega) hs (fun d hdm x hx => hd d hdm x (List.mem_cons_of_mem _ hx))
    by_cases m : credMay c = true
    · rw [if_pos m, m, Bool.true_and]
      rcases List.eq_nil_or_concat out with e | ⟨ini, z, e⟩
      · subst e
        rw [if_pos (show (([] : List Cred).length : Int) = 0 from rfl), if_pos (by decide)]; exact grown rfl
      · rw [List.concat_eq_append] at e
        have hlen : out.length = ini.length + 1 := by rw [e]; simp
        have hw : wrap64 ((out.length : Int) - 1) = ((ini.length : Nat) : Int) := by unfold wrap64; omega
        have hz : Qae out (ini.length : Int) = z := by
          rw [rdCred, e, getBang (by simp)]; simp
        have hany : (out.any fun d => sameID d c) = sameID z c := by
          rw [e] at hs hd ⊢; exact last_same hs (fun d hdm => hd d hdm c (List.mem_cons_self ..))
        rw [if_neg (by omega), hw, if_pos (by omega), if_pos (by omega), hz, bne_same, hany]; cases hb : sameID z c
        · rw [if_pos (show (!false) = true from rfl), if_pos (show out.length < 1172812402961 by omega), if_pos (show (!false) = true from rfl)]
          exact grown (hany.trans hb)
        · rw [if_neg (show ¬ (!true) = true by decide), if_neg (show ¬ (!true) = true by decide)]
          exact same
    · rw [if_neg m]
      rw [Bool.not_eq_true] at m; rw [m, Bool.false_and]; exact same
theorem cred_ext {a b : Cred} (h0 : a.f0.f0 = b.f0.f0) (h0' : a.f0.f1 = b.f0.f1) (h1 : a.f1 = b.f1) (h2 : a.f2 = b.f2) (h3 : a.f3 = b.f3) (h4 : a.f4 = b.f4) (h5 : a.f5 = b.f5) : a = b := by
  obtain ⟨⟨_, _⟩, _, _, _, _, _⟩ := a; obtain ⟨⟨_, _⟩, _, _, _, _, _⟩ := b
  simp_all
instance credDec : DecidableEq Cred := fun a b => decidable_of_iff (a.f0.f0 = b.f0.f0 ∧ a.f0.f1 = b.f0.f1 ∧ a.f1 = b.f1 ∧ a.f2 = b.f2 ∧ a.f3 = b.f3 ∧ a.f4 = b.f4 ∧ a.f5 = b.f5)
  ⟨fun h => cred_ext h.1 h.2.1 h.2.2.1 h.2.2.2.1 h.2.2.2.2.1 h.2.2.2.2.2.1 h.2.2.2.2.2.2, fun h => by rw [h]; exact ⟨rfl, rfl, rfl, rfl, rfl, rfl, rfl⟩⟩
def counts (l : List Cred) : List Cred := firsts [] (sortCreds l)
theorem counts_spec (l : List Cred) : Counts l (counts l) := prog_counts l
theorem sortCreds_mem {l : List Cred} {c : Cred} : c ∈ sortCreds l ↔ c ∈ l := by
  have := sortCreds_filter (fun d => decide (d = c)) (fun x y hx hy => by
    rw [decide_eq_true_eq] at hx hy; rw [hx, hy]
    exact sameID_iff.mpr ⟨rfl, rfl⟩) l
  constructor
  · intro h
    have h1 : c ∈ (sortCreds l).filter (fun d => decide (d = c)) := List.mem_filter.mpr ⟨h, by simp⟩; rw [this] at h1; exact (List.mem_filter.mp h1).1
  · intro h
    have h1 : c ∈ l.filter (fun d => decide (d = c)) := List.mem_filter.mpr ⟨h, by simp⟩; rw [← this] at h1; exact (List.mem_filter.mp h1).1
theorem progCounts_is (l : List Cred) (hl : l.length < 20) (hok : ∀ c ∈ l, okCred c) (k : Nat) (hk : 40 ≤ k) : Qa2.f k l = some (counts l) := by
  unfold Qa2.f cred_Sorted.f; rw [if_pos hl, Option.bind_some]; have hlen := sortCreds_length l; exact progCounts_loop (sortCreds l) (by omega) (fun c hc => hok c (sortCreds_mem.mp hc)) (sortCreds_sorted l) (sortCreds l).length 0 k [] (by omega) (by omega) (by simp) List.Pairwise.nil (fun d hd => by cases hd)
def credLessB (a b : Cred) : Bool := if a.f0.f0 = b.f0.f0 then decide (a.f0.f1 < b.f0.f1) else decide (a.f0.f0 < b.f0.f0)
theorem credLessB_iff (a b : Cred) : credLessB a b = true ↔ credLess a b := by
  unfold credLessB credLess
  split <;> rw [decide_eq_true_eq] <;> omega
theorem before_is (a b : Cred) : liveryref05_Before.f a.f0.f0 a.f0.f1 b.f0.f0 b.f0.f1 = some (credLessB a b) := by
  unfold liveryref05_Before.f credLessB
  split <;> rfl
theorem refSorted_l1 (x : List Cred) (hx : x.length < 1000000) (out : List Cred) (ho : out.length < 1000000) (R : List Cred) : ∀ (n m i : Nat), n + i = x.length → m < x.length →
    Ev (fun k => QaD.l0 k (x.take (selLeast credLessB x n m i) ++ x.drop (selLeast credLessB x n m i + 1)) (out ++ [x[selLeast credLessB x n m i]!])) R → Ev (fun k => QaD.l1 k x out (m : Int) (i : Int)) R
  | 0, m, i, hn, hm, h => by
    rw [selLeast] at h; refine Ev.step (fun k => ?_) h; rw [QaD.l1, if_neg (by omega), if_pos (by omega), if_pos (by omega), if_pos (by omega), if_pos (by omega), Option.bind_some, if_pos (by simp; omega), Option.bind_some, wrap_succ (by omega), if_pos (by omega), if_pos (by omega), Option.bind_some, if_pos (by simp; omega), rdCred]; rfl
  | n + 1, m, i, hn, hm, h => by
    rw [selLeast] at h
    have e : ∀ k, QaD.l1 (k + 1) x out (m : Int) (i : Int) = QaD.l1 k x out ((if credLessB x[i]! x[m]! then i else m : Nat) : Int) ((i + 1 : Nat) : Int) := fun k => by
      rw [QaD.l1, if_pos (by omega), if_pos (by omega), if_pos (by omega), if_pos (by omega), rdCred, rdCred, before_is, Option.bind_some, wrap_succ (by omega)]
      cases credLessB x[i]! x[m]! <;> rfl
    exact Ev.step e (refSorted_l1 x hx out ho R n _ (i + 1) (by omega) (by split <;> omega) h)
theorem selLeast_lt {α : Type} [Inhabited α] (less : α → α → Bool) (l : List α) : ∀ (n m i : Nat), n + i = l.length → m < l.length → selLeast less l n m i < l.length
  | 0, m, i, hn, hm => hm
  | n + 1, m, i, hn, hm => by
    rw [selLeast]; exact selLeast_lt less l n _ _ (by omega) (by split <;> omega)
theorem refSorted_l0 : ∀ (n : Nat) (x out : List Cred), x.length ≤ n → x.length + out.length < 1000000 → Ev (fun k => QaD.l0 k x out) (selSort credLessB n x out)
  | 0, x, out, hn, hl => by
    rw [selSort]; refine Ev.step (fun k => ?_) (Ev.pure _); rw [QaD.l0, if_neg (by omega)]
  | n + 1, x, out, hn, hl => by
    rw [selSort]
    by_cases c : x.length > 0
    · rw [if_pos c]
      have hm := selLeast_lt credLessB x (x.length - 1) 0 1 (by omega) c; refine Ev.step (fun k => ?_) (refSorted_l1 x (by omega) out (by omega) _ (x.length - 1) 0 1 (by omega) c (refSorted_l0 n _ _ ?_ ?_))
      · rw [QaD.l0, if_pos (by omega)]
        rfl
      · simp
        omega
      · simp
        omega
    · rw [if_neg c]
      refine Ev.step (fun k => ?_) (Ev.pure _); rw [QaD.l0, if_neg (by omega)]
theorem refCounts_l1 (x : List Cred) (hx : x.length < 1000000) (out : List Cred) (ho : out.length < 1000000) (i : Nat) (hi : i < x.length) (b : Bool) (R : List Cred) : ∀ (n j : Nat) (h : Bool), n + j = out.length →
    Ev (fun k => Qax.l0 k x (if b && !(h || (out.drop j).any fun d => sameID d x[i]!) then out ++ [x[i]!] else out) ((i + 1 : Nat) : Int)) R → Ev (fun k => Qax.l1 k x out (i : Int) b h (j : Int)) R
  | 0, j, h, hn, hR => by
    rw [show out.drop j = [] from List.drop_eq_nil_of_le (by omega)] at hR; refine Ev.step (fun k => ?_) hR; rw [Qax.l1, if_neg (by omega), wrap_succ (by omega)]; cases b
    · rfl
    · cases h
      · rw [if_pos rfl, if_neg (by decide), if_pos (by omega), if_pos (by omega), if_pos (by omega), rdCred]
        rfl
      · rfl
  | n + 1, j, h, hn, hR => by
    rw [drop_bang (by omega : j < out.length), List.any_cons] at hR
    have e : ∀ k, Qax.l1 (k + 1) x out (i : Int) b h (j : Int) = Qax.l1 k x out (i : Int) b (h || sameID out[j]! x[i]!) ((j + 1 : Nat) : Int) := fun k => by
      rw [Qax.l1, if_pos (by omega), wrap_succ (by omega)]; cases h
      · rw [if_neg (by decide), if_pos (by omega), if_pos (by omega), if_pos (by omega), rdCred, rdCred]
        rfl
      · rfl
    refine Ev.step e (refCounts_l1 x hx out ho i hi b R n (j + 1) _ (by omega) ?_); rw [Bool.or_assoc]; exact hR
theorem refCounts_l0 (x : List Cred) (hx : x.length < 100000) : ∀ (n i : Nat) (out : List Cred), n + i = x.length → out.length ≤ i → Ev (fun k => Qax.l0 k x out (i : Int)) (selSort credLessB x.length (firsts out (x.drop i)) [])
  | 0, i, out, hn, ho => by
    rw [show x.drop i = [] from List.drop_eq_nil_of_le (by omega), firsts]; refine Ev.step (g := fun k => (QaD.f k out).bind fun t => some t) (fun k => ?_) (Ev.bind (a := selSort credLessB x.length out []) ?_ (Ev.pure _))
    · rw [Qax.l0, if_neg (by omega)]
    · exact refSorted_l0 _ out [] (by omega) (by simp; omega)
  | n + 1, i, out, hn, ho => by
    have hi : i < x.length := by omega
    rw [drop_bang hi, firsts]; refine Ev.step (g := fun k => (QaK.f k x[i]!.f0.f0 x[i]!.f0.f1 x[i]!.f1 x[i]!.f2 x[i]!.f3 x[i]!.f4.f0 x[i]!.f4.f1 x[i]!.f5.f0 x[i]!.f5.f1).bind fun t => Qax.l1 k x out (i : Int) t false 0) (fun k => ?_) (Ev.bind (.from 12 fun k hk => refCredMay_is _ k hk) (refCounts_l1 x (by omega) out (by omega) i hi _ _ out.length 0 false (by omega) ?_))
    · rw [Qax.l0, if_pos (by omega), if_pos (by omega), rdCred]
    · rw [List.drop_zero, Bool.false_or]
      split
      · exact refCounts_l0 x hx n (i + 1) _ (by omega) (by simp; omega)
      · exact refCounts_l0 x hx n (i + 1) _ (by omega) (by omega)
theorem refCounts_is (l : List Cred) (hl : l.length < 100000) : Ev (fun k => Qax.f k l) (counts l) := by
  have h := refCounts_l0 l hl l.length 0 [] (by omega) (by simp); rw [List.drop_zero] at h; have hlen := firsts_length l []; have hp := firsts_apart l [] List.Pairwise.nil
  obtain ⟨h1, h2⟩ := selSort_spec credLessB (fun x => by rw [Bool.eq_false_iff, Ne, credLessB_iff]; exact credLess_irrefl x) (fun x y z => by rw [credLessB_iff, credLessB_iff, credLessB_iff]; exact credLess_trans x y z) l.length (firsts [] l) [] (by simpa using hlen) (by
    rw [List.nil_append]
    refine hp.imp fun {a b} hab => ?_
    rw [credLessB_iff, credLessB_iff]; rw [Bool.eq_false_iff, Ne, sameID_iff] at hab; unfold credLess
    omega) List.Pairwise.nil (fun a ha => by cases ha)
  have e : selSort credLessB l.length (firsts [] l) [] = counts l := by
    refine Counts.unique (l := l) ⟨h1.imp fun {a b} hab => (credLessB_iff a b).mp hab, fun c => ?_⟩ (counts_spec l); rw [h2, firsts_mem]; simp
  rw [← e]; exact h
abbrev RPair := S36
theorem rpair_ext {a b : RPair} (h0 : a.f0 = b.f0) (h1 : a.f1 = b.f1) : a = b := by cases a; cases b; simp_all
instance rpairDec : DecidableEq RPair := fun a b => decidable_of_iff (a.f0 = b.f0 ∧ a.f1 = b.f1) ⟨fun h => rpair_ext h.1 h.2, fun h => by rw [h]; exact ⟨rfl, rfl⟩⟩
instance : Inhabited RPair := ⟨z36⟩
theorem rdR (l : List RPair) (i : Nat) : Qav l (i : Int) = l[i]! := by
  unfold Qav; rw [Int.toNat_natCast, List.getElem!_eq_getElem?_getD, List.getD_eq_getElem?_getD]; rfl
theorem beq_dec (a b : ByteArray) : (a.toList == b.toList) = decide (a = b) := by
  rw [Bool.eq_iff_iff, Lib.bytes_beq_iff, decide_eq_true_eq]
theorem role_beq (r : Role) (a b : ByteArray) : (r.f0.toList == a.toList && (r.f1.toList == b.toList)) = decide (r = ⟨a, b⟩) := by
  rw [beq_dec, beq_dec, Bool.eq_iff_iff, Bool.and_eq_true, decide_eq_true_eq, decide_eq_true_eq, decide_eq_true_eq]; exact ⟨fun h => role_ext h.1 h.2, fun h => by rw [h]; exact ⟨rfl, rfl⟩⟩
theorem rpair_beq (p : RPair) (a b c : ByteArray) : ((p.f0.f0.toList == a.toList && (p.f0.f1.toList == b.toList)) && (p.f1.toList == c.toList)) = decide (p = ⟨⟨a, b⟩, c⟩) := by
  rw [role_beq, beq_dec, Bool.eq_iff_iff, Bool.and_eq_true, decide_eq_true_eq, decide_eq_true_eq, decide_eq_true_eq]; exact ⟨fun h => rpair_ext h.1 h.2, fun h => by rw [h]; exact ⟨rfl, rfl⟩⟩
theorem in_l0 (l : List RPair) (hl : l.length < 1000000000) (a b c : ByteArray) : ∀ (n i : Nat), n + i = l.length → Ev (fun k => QaZ.l0 k l (i : Int) a b c) (decide ((⟨⟨a, b⟩, c⟩ : RPair) ∈ l.drop i))
  | 0, i, hn => by
    rw [show l.drop i = [] from List.drop_eq_nil_of_le (by omega)]; refine Ev.step (fun k => ?_) (Ev.pure _); rw [QaZ.l0, if_neg (by omega)]; rfl
  | n + 1, i, hn => by
    rw [drop_bang (by omega : i < l.length)]
    by_cases e : l[i]! = ⟨⟨a, b⟩, c⟩
    · refine Ev.step (fun k => ?_) (Ev.pure _)
      rw [QaZ.l0, if_pos (by omega), if_pos (by omega), rdR, rpair_beq, decide_eq_true e, if_pos rfl, decide_eq_true (by rw [e]; exact List.mem_cons_self ..)]
    · have h : decide ((⟨⟨a, b⟩, c⟩ : RPair) ∈ l[i]! :: l.drop (i + 1)) = decide ((⟨⟨a, b⟩, c⟩ : RPair) ∈ l.drop (i + 1)) := by
        rw [Bool.eq_iff_iff, decide_eq_true_eq, decide_eq_true_eq, List.mem_cons]; exact ⟨fun h => h.resolve_left (fun h => e h.symm), .inr⟩
      rw [h]; refine Ev.step (fun k => ?_) (in_l0 l hl a b c n (i + 1) (by omega)); rw [QaZ.l0, if_pos (by omega), if_pos (by omega), rdR, rpair_beq, decide_eq_false e, if_neg (by decide), wrap_succ (by omega)]
theorem in_ev (l : List RPair) (hl : l.length < 1000000000) (a b c : ByteArray) : Ev (fun k => QaZ.f k l a b c) (decide ((⟨⟨a, b⟩, c⟩ : RPair) ∈ l)) :=
  in_l0 l hl a b c l.length 0 (by omega)
def bringOne (c : Cred) (l : List RPair) (p : RPair) : List RPair :=
  if c.f2 = 2 then (if p.f0 = c.f4 then [⟨credRole c, p.f1⟩] else [])
  else if c.f2 = 4 then (if p.f0 = c.f4 then (if (⟨c.f5, p.f1⟩ : RPair) ∈ l then [⟨credRole c, p.f1⟩] else []) else [])
  else if c.f2 = 3 then (if p.f0 = linkFirst c then (if numName p.f1 > 0 then (l.filter fun q => decide (q.f0 = ⟨p.f1, c.f5.f1⟩)).map fun q => (⟨credRole c, q.f1⟩ : RPair) else []) else [])
  else []
def bringsL (c : Cred) (l : List RPair) : List RPair := if c.f2 = 1 then [⟨credRole c, c.f3⟩] else l.flatMap (bringOne c l)
theorem brings_l1 (c : Cred) (r sec : Role) (l : List RPair) (hl : l.length ≤ 1000) (i : Nat) (hi : i < l.length) (R : List RPair) : ∀ (n j : Nat) (out : List RPair), n + j = l.length → out.length ≤ 100000000 + j →
    Ev (fun k => Qah.l0 k l (out ++ ((l.drop j).filter fun q => decide (q.f0 = sec)).map fun q => (⟨r, q.f1⟩ : RPair)) ((i + 1 : Nat) : Int) c.f0.f0 c.f0.f1 c.f1 c.f2 c.f3 c.f4.f0 c.f4.f1 c.f5.f0 c.f5.f1 r.f0 r.f1) R →
    Ev (fun k => Qah.l1 k l out (i : Int) (j : Int) c.f0.f0 c.f0.f1 c.f1 c.f2 c.f3 c.f4.f0 c.f4.f1 c.f5.f0 c.f5.f1 r.f0 r.f1 sec.f0 sec.f1) R
  | 0, j, out, hn, ho, h => by
    rw [show l.drop j = [] from List.drop_eq_nil_of_le (by omega)] at h; refine Ev.step (fun k => ?_) h; rw [Qah.l1, if_neg (by omega), wrap_succ (by omega), List.filter_nil, List.map_nil, List.append_nil]
  | n + 1, j, out, hn, ho, h => by
    rw [drop_bang (by omega : j < l.length), List.filter_cons] at h
    by_cases e : l[j]!.f0 = sec
    · rw [decide_eq_true e, if_pos rfl, List.map_cons] at h
      refine Ev.step (fun k => ?_) (brings_l1 c r sec l hl i hi R n (j + 1) (out ++ [⟨r, l[j]!.f1⟩]) (by omega) (by simp; omega) (by rw [List.append_assoc]; exact h)); rw [Qah.l1, if_pos (by omega), if_pos (by omega), rdR, role_beq, decide_eq_true e, if_pos rfl, if_pos (by omega), wrap_succ (by omega)]
    · rw [decide_eq_false e, if_neg (by decide)] at h
      refine Ev.step (fun k => ?_) (brings_l1 c r sec l hl i hi R n (j + 1) out (by omega) (by omega) h); rw [Qah.l1, if_pos (by omega), if_pos (by omega), rdR, role_beq, decide_eq_false e, if_neg (by decide), wrap_succ (by omega)]
theorem brings_j3 (c : Cred) (r : Role) (l : List RPair) (hl : l.length ≤ 1000) (i : Nat) (hi : i < l.length) (t : Bool) (R out : List RPair) (ho : out.length ≤ 100000000)
    (h : Ev (fun k => Qah.l0 k l (out ++ (if t then (l.filter fun q => decide (q.f0 = ⟨l[i]!.f1, c.f5.f1⟩)).map fun q => (⟨r, q.f1⟩ : RPair) else [])) ((i + 1 : Nat) : Int) c.f0.f0 c.f0.f1 c.f1 c.f2 c.f3 c.f4.f0 c.f4.f1 c.f5.f0 c.f5.f1 r.f0 r.f1) R) :
    Ev (fun k => Qah.j3 k l out (i : Int) t c.f0.f0 c.f0.f1 c.f1 c.f2 c.f3 c.f4.f0 c.f4.f1 c.f5.f0 c.f5.f1 r.f0 r.f1) R := by
  cases t
  · rw [if_neg (by decide), List.append_nil] at h
    refine Ev.step (fun k => ?_) h; rw [Qah.j3, if_neg (by decide), wrap_succ (by omega)]
  · rw [if_pos rfl] at h
    refine Ev.step (fun k => ?_) (brings_l1 c r ⟨l[i]!.f1, c.f5.f1⟩ l hl i hi R l.length 0 out (by omega) (by omega) (by rw [List.drop_zero]; exact h)); rw [Qah.j3, if_pos rfl, if_pos (by omega), if_pos (by omega), rdR]; rfl
theorem brings_j2 (c : Cred) (r : Role) (l : List RPair) (hl : l.length ≤ 1000) (i : Nat) (hi : i < l.length) (R out : List RPair) (ho : out.length ≤ 100000000)
    (h : Ev (fun k => Qah.l0 k l (out ++ (if c.f2 = 3 then (if l[i]!.f0 = linkFirst c then (if numName l[i]!.f1 > 0 then (l.filter fun q => decide (q.f0 = ⟨l[i]!.f1, c.f5.f1⟩)).map fun q => (⟨r, q.f1⟩ : RPair) else []) else []) else [])) ((i + 1 : Nat) : Int) c.f0.f0 c.f0.f1 c.f1 c.f2 c.f3 c.f4.f0 c.f4.f1 c.f5.f0 c.f5.f1 r.f0 r.f1) R) :
    Ev (fun k => Qah.j2 k l out (i : Int) c.f0.f0 c.f0.f1 c.f1 c.f2 c.f3 c.f4.f0 c.f4.f1 c.f5.f0 c.f5.f1 r.f0 r.f1) R := by
  by_cases k3 : c.f2 = 3
  · rw [if_pos k3] at h
    by_cases e : l[i]!.f0 = linkFirst c
    · rw [if_pos e] at h
      have h3 := brings_j3 c r l hl i hi (decide (numName l[i]!.f1 > 0)) R out ho (by simpa only [decide_eq_true_eq] using h); refine Ev.step (g := fun k => (liveryref06_First.f k c.f0.f0 c.f0.f1 c.f1 c.f2 c.f3 c.f4.f0 c.f4.f1 c.f5.f0 c.f5.f1).bind fun bt => if ((l[i]!.f0.f0.toList == bt.1.toList && (l[i]!.f0.f1.toList == bt.2.toList))) = true then ((QaI.f k l[i]!.f1).bind fun t => Qah.j3 k l out (i : Int) (decide (t > 0)) c.f0.f0 c.f0.f1 c.f1 c.f2 c.f3 c.f4.f0 c.f4.f1 c.f5.f0 c.f5.f1 r.f0 r.f1) else Qah.j3 k l out (i : Int) false c.f0.f0 c.f0.f1 c.f1 c.f2 c.f3 c.f4.f0 c.f4.f1 c.f5.f0 c.f5.f1 r.f0 r.f1) (fun k => ?_) ?_
      · rw [Qah.j2, if_pos k3, if_pos (by omega), if_pos (by omega), rdR]
      · refine Ev.bind (a := (domName c.f0.f0, c.f4.f1)) (.from 1 fun k hk => ?_) ?_
        · obtain ⟨j, rfl⟩ : ∃ j, k = j + 1 := ⟨k - 1, by omega⟩
          unfold liveryref06_First.f; rw [refDomain_is]; rfl
        · rw [role_beq, decide_eq_true (p := l[i]!.f0 = ⟨domName c.f0.f0, c.f4.f1⟩) e]
          simp only [if_true]; exact Ev.bind (.from 2 fun k hk => by obtain ⟨j, rfl⟩ : ∃ j, k = j + 2 := ⟨k - 2, by omega⟩; exact refNumber_is _ _) h3
    · rw [if_neg e, List.append_nil] at h
      have h3 := brings_j3 c r l hl i hi false R out ho (by simpa using h); refine Ev.step (g := fun k => (liveryref06_First.f k c.f0.f0 c.f0.f1 c.f1 c.f2 c.f3 c.f4.f0 c.f4.f1 c.f5.f0 c.f5.f1).bind fun bt => if ((l[i]!.f0.f0.toList == bt.1.toList && (l[i]!.f0.f1.toList == bt.2.toList))) = true then ((QaI.f k l[i]!.f1).bind fun t => Qah.j3 k l out (i : Int) (decide (t > 0)) c.f0.f0 c.f0.f1 c.f1 c.f2 c.f3 c.f4.f0 c.f4.f1 c.f5.f0 c.f5.f1 r.f0 r.f1) else Qah.j3 k l out (i : Int) false c.f0.f0 c.f0.f1 c.f1 c.f2 c.f3 c.f4.f0 c.f4.f1 c.f5.f0 c.f5.f1 r.f0 r.f1) (fun k => ?_) ?_
      · rw [Qah.j2, if_pos k3, if_pos (by omega), if_pos (by omega), rdR]
      · refine Ev.bind (a := (domName c.f0.f0, c.f4.f1)) (.from 1 fun k hk => ?_) ?_
        · obtain ⟨j, rfl⟩ : ∃ j, k = j + 1 := ⟨k - 1, by omega⟩
          unfold liveryref06_First.f; rw [refDomain_is]; rfl
        · rw [role_beq, decide_eq_false (p := l[i]!.f0 = ⟨domName c.f0.f0, c.f4.f1⟩) e]
          simpa only [Bool.false_eq_true, if_false] using h3
  · rw [if_neg k3, List.append_nil] at h
    have h3 := brings_j3 c r l hl i hi false R out ho (by simpa using h); refine Ev.step (fun k => ?_) h3; rw [Qah.j2, if_neg k3]
theorem brings_j1 (c : Cred) (l : List RPair) (hl : l.length ≤ 1000) (i : Nat) (hi : i < l.length) (R out : List RPair) (ho : out.length < 100000000)
    (h : Ev (fun k => Qah.l0 k l (out ++ bringOne c l l[i]!) ((i + 1 : Nat) : Int) c.f0.f0 c.f0.f1 c.f1 c.f2 c.f3 c.f4.f0 c.f4.f1 c.f5.f0 c.f5.f1 (credRole c).f0 (credRole c).f1) R) :
    Ev (fun k => Qah.j1 k l out (i : Int) ((decide (c.f2 = 2) || decide (c.f2 = 4)) && decide (l[i]!.f0 = c.f4)) c.f0.f0 c.f0.f1 c.f1 c.f2 c.f3 c.f4.f0 c.f4.f1 c.f5.f0 c.f5.f1 (credRole c).f0 (credRole c).f1) R := by
  unfold bringOne at h
  by_cases k24 : c.f2 = 2 ∨ c.f2 = 4
  · have hk : (decide (c.f2 = 2) || decide (c.f2 = 4)) = true := by rw [Bool.or_eq_true, decide_eq_true_eq, decide_eq_true_eq]; exact k24
    rw [hk, Bool.true_and]
    by_cases e : l[i]!.f0 = c.f4
    · rw [decide_eq_true e]
      simp only [if_pos e] at h; refine Ev.step (g := fun k => (QaZ.f k l c.f5.f0 c.f5.f1 l[i]!.f1).bind fun t => if c.f2 = 2 then Qah.j2 k l (out ++ [⟨credRole c, l[i]!.f1⟩]) (i : Int) c.f0.f0 c.f0.f1 c.f1 c.f2 c.f3 c.f4.f0 c.f4.f1 c.f5.f0 c.f5.f1 (credRole c).f0 (credRole c).f1 else if t = true then Qah.j2 k l (out ++ [⟨credRole c, l[i]!.f1⟩]) (i : Int) c.f0.f0 c.f0.f1 c.f1 c.f2 c.f3 c.f4.f0 c.f4.f1 c.f5.f0 c.f5.f1 (credRole c).f0 (credRole c).f1 else Qah.j2 k l out (i : Int) c.f0.f0 c.f0.f1 c.f1 c.f2 c.f3 c.f4.f0 c.f4.f1 c.f5.f0 c.f5.f1 (credRole c).f0 (credRole c).f1) (fun k => ?_) (Ev.bind (in_ev l (by omega) _ _ _) ?_)
      · rw [Qah.j1, if_pos rfl, if_pos (by omega), if_pos (by omega), rdR]
        simp only [if_pos (show out.length < 2932031007402 by omega)]
      · by_cases k2 : c.f2 = 2
        · simp only [if_pos k2] at h ⊢
          refine brings_j2 c _ l hl i hi R _ (by simp; omega) ?_; rw [if_neg (by omega), List.append_nil]; exact h
        · have k4 : c.f2 = 4 := by omega
          simp only [if_neg k2, if_pos k4] at h ⊢
          by_cases m : (⟨c.f5, l[i]!.f1⟩ : RPair) ∈ l
          · rw [if_pos m] at h
            rw [decide_eq_true (p := (⟨⟨c.f5.f0, c.f5.f1⟩, l[i]!.f1⟩ : RPair) ∈ l) m]; simp only [if_true]; refine brings_j2 c _ l hl i hi R _ (by simp; omega) ?_; rw [if_neg (by omega), List.append_nil]; exact h
          · rw [if_neg m, List.append_nil] at h
            rw [decide_eq_false (p := (⟨⟨c.f5.f0, c.f5.f1⟩, l[i]!.f1⟩ : RPair) ∈ l) m]; simp only [Bool.false_eq_true, if_false]; refine brings_j2 c _ l hl i hi R _ (by omega) ?_; rw [if_neg (by omega), List.append_nil]; exact h
    · rw [decide_eq_false e]
      refine Ev.step (fun k => ?_) (brings_j2 c (credRole c) l hl i hi R out (by omega) ?_)
      · rw [Qah.j1, if_neg (by decide)]
      · rw [if_neg (by omega)]
        simp only [if_neg e] at h
        rcases k24 with k | k
        · rw [if_pos k] at h
          exact h
        · rw [if_neg (by omega), if_pos k] at h
          exact h
  · have hk : (decide (c.f2 = 2) || decide (c.f2 = 4)) = false := by rw [decide_eq_false (by omega), decide_eq_false (by omega)]; rfl
    rw [hk, Bool.false_and]; rw [if_neg (by omega), if_neg (by omega)] at h; refine Ev.step (fun k => ?_) (brings_j2 c (credRole c) l hl i hi R out (by omega) h); rw [Qah.j1, if_neg (by decide)]
theorem bringOne_length (c : Cred) (l : List RPair) (p : RPair) (hl : l.length ≤ 1000) : (bringOne c l p).length ≤ 1000 := by
  unfold bringOne; have := List.length_filter_le (fun q : RPair => decide (q.f0 = ⟨p.f1, c.f5.f1⟩)) l
  split
  · split <;> simp
  · split
    · split
      · split <;> simp
      · simp
    · split
      · split
        · split
          · rw [List.length_map]; omega
          · simp
        · simp
      · simp
theorem brings_l0 (c : Cred) (l : List RPair) (hl : l.length ≤ 1000) : ∀ (n i : Nat) (out : List RPair), n + i = l.length → out.length ≤ i * 1000 → Ev (fun k => Qah.l0 k l out (i : Int) c.f0.f0 c.f0.f1 c.f1 c.f2 c.f3 c.f4.f0 c.f4.f1 c.f5.f0 c.f5.f1 (credRole c).f0 (credRole c).f1) (out ++ (l.drop i).flatMap (bringOne c l))
  | 0, i, out, hn, ho => by
    rw [show l.drop i = [] from List.drop_eq_nil_of_le (by omega), List.flatMap_nil, List.append_nil]; refine Ev.step (fun k => ?_) (Ev.pure _); rw [Qah.l0, if_neg (by omega)]
  | n + 1, i, out, hn, ho => by
    have hi : i < l.length := by omega
    rw [drop_bang hi, List.flatMap_cons, ← List.append_assoc]; have hlen := bringOne_length c l l[i]! hl; refine Ev.step (fun k => ?_) (brings_j1 c l hl i hi _ out (by omega) (brings_l0 c l hl n (i + 1) _ (by omega) (by rw [List.length_append]; omega))); rw [Qah.l0, if_pos (by omega)]
    by_cases k2 : c.f2 = 2
    · rw [if_pos k2, if_pos (by omega), rdR, role_beq, decide_eq_true k2]
      rfl
    · rw [if_neg k2, decide_eq_false k2]
      by_cases k4 : c.f2 = 4
      · rw [if_pos k4, if_pos (by omega), rdR, role_beq, decide_eq_true k4]
        rfl
      · rw [if_neg k4, decide_eq_false k4]
        rfl
theorem brings_ev (c : Cred) (l : List RPair) (hl : l.length ≤ 1000) : Ev (fun k => Qah.f k c.f0.f0 c.f0.f1 c.f1 c.f2 c.f3 c.f4.f0 c.f4.f1 c.f5.f0 c.f5.f1 l) (bringsL c l) := by
  unfold Qah.f bringsL; refine Ev.bind (a := (domName c.f0.f0, c.f1)) (.from 1 fun k hk => ?_) ?_
  · obtain ⟨j, rfl⟩ : ∃ j, k = j + 1 := ⟨k - 1, by omega⟩
    unfold liveryref05_Role.f; rw [refDomain_is]; rfl
  · by_cases k1 : c.f2 = 1
    · simp only [if_pos k1]
      exact Ev.pure _
    · simp only [if_neg k1]
      have := brings_l0 c l hl l.length 0 [] (by omega) (by simp); rw [List.drop_zero, List.nil_append] at this; exact this
theorem bringsL_length (c : Cred) (l : List RPair) (hl : l.length ≤ 1000) : (bringsL c l).length ≤ 1000001 := by
  have key : ∀ m : List RPair, (m.flatMap (bringOne c l)).length ≤ m.length * 1000 := fun m => by
    induction m with
    | nil => simp
    | cons a m ih =>
      have := bringOne_length c l a hl; rw [List.flatMap_cons, List.length_append, List.length_cons]; omega
  unfold bringsL; have := key l
  split
  · simp
  · omega
def addNew (out : List RPair) (p : RPair) : List RPair := if p ∈ out then out else out ++ [p]
theorem round_l1 (cs : List Cred) (hcs : cs.length ≤ 1000) (l more : List RPair) (hm : more.length ≤ 1000001) (i : Nat) (hi : i < cs.length) (R : List RPair) : ∀ (n j : Nat) (out : List RPair), n + j = more.length → out.length + n ≤ 900000000 →
    Ev (fun k => QaG.l0 k cs l ((more.drop j).foldl addNew out) ((i + 1 : Nat) : Int)) R → Ev (fun k => QaG.l1 k cs l out (i : Int) more (j : Int)) R
  | 0, j, out, hn, ho, h => by
    rw [show more.drop j = [] from List.drop_eq_nil_of_le (by omega)] at h; refine Ev.step (fun k => ?_) h; rw [QaG.l1, if_neg (by omega), wrap_succ (by omega), List.foldl_nil]
  | n + 1, j, out, hn, ho, h => by
    rw [drop_bang (by omega : j < more.length), List.foldl_cons] at h; refine Ev.step (g := fun k => (QaZ.f k out more[j]!.f0.f0 more[j]!.f0.f1 more[j]!.f1).bind fun t => if t = true then QaG.l1 k cs l out (i : Int) more ((j + 1 : Nat) : Int) else QaG.l1 k cs l (out ++ [more[j]!]) (i : Int) more ((j + 1 : Nat) : Int)) (fun k => ?_) ?_
    · rw [QaG.l1, if_pos (by omega), if_pos (by omega), rdR, wrap_succ (by omega)]
      simp only [if_pos (show out.length < 2932031007402 by omega)]
    · by_cases e : more[j]! ∈ out
      · rw [addNew, if_pos e] at h
        refine Ev.bind (a := true) ?_ ?_
        · by_cases hb : out.length < 1000000000
          · have := in_ev out hb more[j]!.f0.f0 more[j]!.f0.f1 more[j]!.f1
            rw [decide_eq_true (p := (⟨⟨more[j]!.f0.f0, more[j]!.f0.f1⟩, more[j]!.f1⟩ : RPair) ∈ out) e] at this; exact this
          · exact absurd hb (by omega)
        · simp only [if_true]
          exact round_l1 cs hcs l more hm i hi R n (j + 1) out (by omega) (by omega) h
      · rw [addNew, if_neg e] at h
        refine Ev.bind (a := false) ?_ ?_
        · have := in_ev out (by omega) more[j]!.f0.f0 more[j]!.f0.f1 more[j]!.f1
          rw [decide_eq_false (p := (⟨⟨more[j]!.f0.f0, more[j]!.f0.f1⟩, more[j]!.f1⟩ : RPair) ∈ out) e] at this; exact this
        · simp only [Bool.false_eq_true, if_false]
          exact round_l1 cs hcs l more hm i hi R n (j + 1) (out ++ [more[j]!]) (by omega) (by simp; omega) h
theorem addAll_length : ∀ (more out : List RPair), (more.foldl addNew out).length ≤ out.length + more.length
  | [], out => by simp
  | a :: m, out => by
    rw [List.foldl_cons]; have := addAll_length m (addNew out a)
    have h2 : (addNew out a).length ≤ out.length + 1 := by
      unfold addNew
      split <;> simp
    simp only [List.length_cons]; omega
def roundL (cs : List Cred) (l : List RPair) : List RPair := cs.foldl (fun o c => (bringsL c l).foldl addNew o) l
theorem round_l0 (cs : List Cred) (hcs : cs.length ≤ 100) (l : List RPair) (hl : l.length ≤ 1000) : ∀ (n i : Nat) (out : List RPair), n + i = cs.length → out.length ≤ 1000 + i * 1000001 → Ev (fun k => QaG.l0 k cs l out (i : Int)) ((cs.drop i).foldl (fun o c => (bringsL c l).foldl addNew o) out)
  | 0, i, out, hn, ho => by
    rw [show cs.drop i = [] from List.drop_eq_nil_of_le (by omega)]; refine Ev.step (fun k => ?_) (Ev.pure _); rw [QaG.l0, if_neg (by omega)]; rfl
  | n + 1, i, out, hn, ho => by
    have hi : i < cs.length := by omega
    rw [drop_bang hi, List.foldl_cons]; have h1 := bringsL_length cs[i]! l hl; have h2 := addAll_length (bringsL cs[i]! l) out; refine Ev.step (g := fun k => (Qah.f k cs[i]!.f0.f0 cs[i]!.f0.f1 cs[i]!.f1 cs[i]!.f2 cs[i]!.f3 cs[i]!.f4.f0 cs[i]!.f4.f1 cs[i]!.f5.f0 cs[i]!.f5.f1 l).bind fun t => QaG.l1 k cs l out (i : Int) t 0) (fun k => ?_) (Ev.bind (brings_ev cs[i]! l hl) (round_l1 cs (by omega) l _ h1 i hi _ (bringsL cs[i]! l).length 0 out (by omega) (by omega) ?_))
    · rw [QaG.l0, if_pos (by omega), if_pos (by omega), rdCred]
    · rw [List.drop_zero]
      exact round_l0 cs hcs l hl n (i + 1) _ (by omega) (by omega)
theorem round_ev (cs : List Cred) (hcs : cs.length ≤ 100) (l : List RPair) (hl : l.length ≤ 1000) : Ev (fun k => QaG.f k cs l) (roundL cs l) := by
  have := round_l0 cs hcs l hl cs.length 0 l (by omega) (by omega); rw [List.drop_zero] at this; refine Ev.congr (fun k => ?_) this; unfold QaG.f; rw [if_pos (by simp; omega), List.nil_append]; rfl
def Ext (out res : List RPair) (M : RPair → Prop) : Prop := ∃ e, res = out ++ e ∧ e.Nodup ∧ (∀ x ∈ e, x ∉ out) ∧ ∀ x, x ∈ res ↔ x ∈ out ∨ M x
theorem ext_none (out : List RPair) {M : RPair → Prop} (h : ∀ x, M x → x ∈ out) : Ext out out M := ⟨[], by simp, List.nodup_nil, fun x hx => by (cases hx), fun x => ⟨.inl, fun h' => h'.elim id (h x)⟩⟩
theorem Ext.trans {a b c : List RPair} {M M' : RPair → Prop} (h : Ext a b M) (h' : Ext b c M') : Ext a c (fun x => M x ∨ M' x) := by
  obtain ⟨e, rfl, h1, h2, h3⟩ := h; obtain ⟨e', rfl, h4, h5, h6⟩ := h'; refine ⟨e ++ e', by rw [List.append_assoc], ?_, ?_, fun x => ?_⟩
  · rw [List.nodup_append]
    exact ⟨h1, h4, fun x hx y hy e => h5 y hy (List.mem_append_right _ (e ▸ hx))⟩
  · intro x hx
    rcases List.mem_append.mp hx with h | h
    · exact h2 x h
    · exact fun hxa => h5 x h (List.mem_append_left _ hxa)
  · rw [h6, h3]
    constructor
    · rintro ((h | h) | h)
      · exact .inl h
      · exact .inr (.inl h)
      · exact .inr (.inr h)
    · rintro (h | h | h)
      · exact .inl (.inl h)
      · exact .inl (.inr h)
      · exact .inr h
theorem Ext.imp {a b : List RPair} {M M' : RPair → Prop} (h : Ext a b M) (hM : ∀ x, M x ↔ M' x) : Ext a b M' := by
  obtain ⟨e, h0, h1, h2, h3⟩ := h; exact ⟨e, h0, h1, h2, fun x => (h3 x).trans ⟨fun h => h.imp id (hM x).mp, fun h => h.imp id (hM x).mpr⟩⟩
theorem addNew_ext (out : List RPair) (p : RPair) : Ext out (addNew out p) (fun x => x = p) := by
  unfold addNew
  by_cases h : p ∈ out
  · rw [if_pos h]
    exact ext_none out (fun x e => e ▸ h)
  · rw [if_neg h]
    exact ⟨[p], rfl, by simp, fun x hx => by rw [List.mem_singleton.mp hx]; exact h, fun x => by simp⟩
theorem addAll_ext : ∀ (more out : List RPair), Ext out (more.foldl addNew out) (fun x => x ∈ more)
  | [], out => ext_none out (fun x h => by cases h)
  | a :: m, out => by
    rw [List.foldl_cons]; exact ((addNew_ext out a).trans (addAll_ext m _)).imp (fun x => by rw [List.mem_cons])
theorem round_ext (l : List RPair) : ∀ (cs : List Cred) (out : List RPair), Ext out (cs.foldl (fun o c => (bringsL c l).foldl addNew o) out) (fun x => ∃ c ∈ cs, x ∈ bringsL c l)
  | [], out => ext_none out (fun x h => by obtain ⟨c, hc, _⟩ := h; cases hc)
  | c :: cs, out => by
    rw [List.foldl_cons]; refine ((addAll_ext (bringsL c l) out).trans (round_ext l cs _)).imp (fun x => ?_); constructor
    · rintro (h | ⟨c', hc', h⟩)
      · exact ⟨c, List.mem_cons_self .., h⟩
      · exact ⟨c', List.mem_cons_of_mem _ hc', h⟩
    · rintro ⟨c', hc', h⟩
      rcases List.mem_cons.mp hc' with e | e
      · exact .inl (e ▸ h)
      · exact .inr ⟨c', e, h⟩
theorem bringsL_mem (c : Cred) (l : List RPair) (x : RPair) : x ∈ bringsL c l ↔ x.f0 = credRole c ∧ ((c.f2 = 1 ∧ x.f1 = c.f3) ∨ (c.f2 = 2 ∧ (⟨c.f4, x.f1⟩ : RPair) ∈ l) ∨ (c.f2 = 3 ∧ ∃ u, (⟨linkFirst c, u⟩ : RPair) ∈ l ∧ numName u > 0 ∧ (⟨⟨u, c.f5.f1⟩, x.f1⟩ : RPair) ∈ l) ∨ (c.f2 = 4 ∧ (⟨c.f4, x.f1⟩ : RPair) ∈ l ∧ (⟨c.f5, x.f1⟩ : RPair) ∈ l)) := by
  unfold bringsL
  by_cases k1 : c.f2 = 1
  · rw [if_pos k1, List.mem_singleton]
    constructor
    · rintro rfl
      exact ⟨rfl, .inl ⟨k1, rfl⟩⟩
    · rintro ⟨h0, h⟩
      rcases h with h | h | h | h
      · exact rpair_ext h0 h.2
      · omega
      · omega
      · omega
  rw [if_neg k1, List.mem_flatMap]; unfold bringOne
  by_cases k2 : c.f2 = 2
  · simp only [if_pos k2]
    constructor
    · rintro ⟨p, hp, h⟩
      by_cases e : p.f0 = c.f4
      · rw [if_pos e, List.mem_singleton] at h
        subst h; exact ⟨rfl, .inr (.inl ⟨k2, by rw [← e]; exact hp⟩)⟩
      · rw [if_neg e] at h
        cases h
    · rintro ⟨h0, h⟩
      rcases h with h | h | h | h
      · omega
      · refine ⟨_, h.2, ?_⟩
        rw [if_pos rfl, List.mem_singleton]; exact rpair_ext h0 rfl
      · omega
      · omega
  simp only [if_neg k2]
  by_cases k4 : c.f2 = 4
  · simp only [if_pos k4]
    constructor
    · rintro ⟨p, hp, h⟩
      by_cases e : p.f0 = c.f4
      · rw [if_pos e] at h
        by_cases m : (⟨c.f5, p.f1⟩ : RPair) ∈ l
        · rw [if_pos m, List.mem_singleton] at h
          subst h; exact ⟨rfl, .inr (.inr (.inr ⟨k4, by rw [← e]; exact hp, m⟩))⟩
        · rw [if_neg m] at h
          cases h
      · rw [if_neg e] at h
        cases h
    · rintro ⟨h0, h⟩
      rcases h with h | h | h | h
      · omega
      · omega
      · omega
      · refine ⟨_, h.2.1, ?_⟩
        rw [if_pos rfl, if_pos h.2.2, List.mem_singleton]; exact rpair_ext h0 rfl
  simp only [if_neg k4]
  by_cases k3 : c.f2 = 3
  · simp only [if_pos k3]
    constructor
    · rintro ⟨p, hp, h⟩
      by_cases e : p.f0 = linkFirst c
      · rw [if_pos e] at h
        by_cases m : numName p.f1 > 0
        · rw [if_pos m, List.mem_map] at h
          obtain ⟨q, hq, rfl⟩ := h; rw [List.mem_filter, decide_eq_true_eq] at hq; exact ⟨rfl, .inr (.inr (.inl ⟨k3, p.f1, by rw [← e]; exact hp, m, by rw [← hq.2]; exact hq.1⟩))⟩
        · rw [if_neg m] at h
          cases h
      · rw [if_neg e] at h
        cases h
    · rintro ⟨h0, h⟩
      rcases h with h | h | h | h
      · omega
      · omega
      · obtain ⟨_, u, h1, h2, h3⟩ := h
        refine ⟨_, h1, ?_⟩; rw [if_pos rfl, if_pos h2, List.mem_map]; refine ⟨_, List.mem_filter.mpr ⟨h3, by simp⟩, rpair_ext h0.symm rfl⟩
      · omega
  simp only [if_neg k3]; constructor
  · rintro ⟨p, hp, h⟩
    cases h
  · rintro ⟨h0, h⟩
    omega
def SaidR (cs : List Cred) (p : RPair) : Prop := Said cs ⟨p.f0, p.f1⟩
theorem brings_said {cs : List Cred} {c : Cred} (hc : c ∈ cs) {l : List RPair} (hl : ∀ p ∈ l, SaidR cs p) {x : RPair} (hx : x ∈ bringsL c l) : SaidR cs x := by
  rw [bringsL_mem] at hx; obtain ⟨h0, h⟩ := hx; unfold SaidR; rw [h0]
  rcases h with h | h | h | h
  · rw [h.2]
    exact .member hc h.1
  · exact .incl hc h.1 (hl _ h.2)
  · obtain ⟨k, u, h1, h2, h3⟩ := h
    exact .link hc k (hl _ h1) h2 (hl _ h3)
  · exact .both hc h.1 (hl _ h.2.1) (hl _ h.2.2)
theorem closed_said {cs : List Cred} {l : List RPair} (h : ∀ c ∈ cs, ∀ x ∈ bringsL c l, x ∈ l) {p : Pair} (hp : Said cs p) : (⟨p.f0, p.f1⟩ : RPair) ∈ l := by
  induction hp with
  | @member c hc k => exact h c hc _ ((bringsL_mem c l _).mpr ⟨rfl, .inl ⟨k, rfl⟩⟩)
  | @incl c u hc k _ ih => exact h c hc _ ((bringsL_mem c l _).mpr ⟨rfl, .inr (.inl ⟨k, ih⟩)⟩)
  | @link c u v hc k _ n _ ih1 ih2 => exact h c hc _ ((bringsL_mem c l _).mpr ⟨rfl, .inr (.inr (.inl ⟨k, u, ih1, n, ih2⟩))⟩)
  | @both c u hc k _ _ ih1 ih2 => exact h c hc _ ((bringsL_mem c l _).mpr ⟨rfl, .inr (.inr (.inr ⟨k, ih1, ih2⟩))⟩)
theorem round_fix {cs : List Cred} {l : List RPair} (h : (roundL cs l).length = l.length) : roundL cs l = l ∧ ∀ c ∈ cs, ∀ x ∈ bringsL c l, x ∈ l := by
  obtain ⟨e, h0, h1, h2, h3⟩ := round_ext l cs l; have h0' : roundL cs l = l ++ e := h0; rw [h0', List.length_append] at h; have he : e = [] := List.eq_nil_of_length_eq_zero (by omega); rw [he, List.append_nil] at h0'; refine ⟨h0', fun c hc x hx => ?_⟩; have := (h3 x).mpr (.inr ⟨c, hc, hx⟩); have h4 : x ∈ roundL cs l := this; rw [h0'] at h4; exact h4
theorem round_closed {cs : List Cred} {l : List RPair} (h : ∀ c ∈ cs, ∀ x ∈ bringsL c l, x ∈ l) : (roundL cs l).length = l.length := by
  obtain ⟨e, h0, h1, h2, h3⟩ := round_ext l cs l; have h0' : roundL cs l = l ++ e := h0
  cases e with
  | nil => rw [h0', List.append_nil]
  | cons a e =>
    exfalso
    have : a ∈ l ∨ ∃ c ∈ cs, a ∈ bringsL c l := (h3 a).mp (by rw [h0]; simp); refine h2 a (List.mem_cons_self ..) ?_
    rcases this with h | ⟨c, hc, hx⟩
    · exact h
    · exact h c hc a hx
theorem saidR_400 {cs : List Cred} (hl : cs.length ≤ 20) {l : List RPair} (hn : l.Nodup) (h : ∀ p ∈ l, SaidR cs p) : l.length ≤ 400 := by
  have := said_400 hl (l := l.map fun p => (⟨p.f0, p.f1⟩ : Pair)) (by
    unfold List.Nodup; rw [List.pairwise_map]
    exact hn.imp fun {a b} hab e => hab (rpair_ext (congrArg S47.f0 e) (congrArg S47.f1 e))) (fun p hp => by
    obtain ⟨q, hq, rfl⟩ := List.mem_map.mp hp
    exact h q hq)
  simpa using this
def rLess (a b : RPair) : Bool := pairLess ⟨a.f0, a.f1⟩ ⟨b.f0, b.f1⟩
theorem rLess_irrefl (a : RPair) : rLess a a = false := by
  rw [Bool.eq_false_iff]; exact pairLess_irrefl _
theorem rLess_trans (a b c : RPair) (h : rLess a b = true) (h' : rLess b c = true) : rLess a c = true := pairLess_trans h h'
theorem rLess_total (a b : RPair) (h : a ≠ b) : rLess a b = true ∨ rLess b a = true := by
  by_cases h1 : rLess a b = true
  · exact .inl h1
  · by_cases h2 : rLess b a = true
    · exact .inr h2
    · have := pairLess_total h1 h2
      exact absurd (rpair_ext (congrArg S47.f0 this) (congrArg S47.f1 this)) h
theorem refLess_is (a b : RPair) : liveryref06_less.f a.f0.f0 a.f0.f1 a.f1 b.f0.f0 b.f0.f1 b.f1 = some (rLess a b) := by
  unfold liveryref06_less.f liveryref04_Less.f rLess
  by_cases e0 : a.f0.f0 = b.f0.f0
  · rw [(Lib.bytes_beq_iff _ _).mpr e0, if_pos ((toList_iff _ _).mpr e0)]
    by_cases e1 : a.f0.f1 = b.f0.f1
    · rw [(Lib.bytes_beq_iff _ _).mpr e1, if_neg (by decide)]
      congr 1
      rw [Bool.eq_iff_iff, pairLess_iff, roleLess_iff]
      show _ ↔ ((sLess a.f0.f0 b.f0.f0 = true ∨ (a.f0.f0 = b.f0.f0 ∧ sLess a.f0.f1 b.f0.f1 = true)) ∨ (a.f0 = b.f0 ∧ sLess a.f1 b.f1 = true))
      rw [e0, e1, sLess_irrefl, sLess_irrefl, show a.f0 = b.f0 from role_ext e0 e1]; simp [sLess]
    · have hb : (a.f0.f1.toList == b.f0.f1.toList) = false := by rw [beq_dec]; exact decide_eq_false e1
      rw [hb, if_pos (by rfl), Option.bind_some]
      congr 1
      rw [Bool.eq_iff_iff, pairLess_iff, roleLess_iff]
      show _ ↔ ((sLess a.f0.f0 b.f0.f0 = true ∨ (a.f0.f0 = b.f0.f0 ∧ sLess a.f0.f1 b.f0.f1 = true)) ∨ (a.f0 = b.f0 ∧ sLess a.f1 b.f1 = true))
      have hne : a.f0 ≠ b.f0 := fun e => e1 (by rw [e])
      rw [e0, sLess_irrefl]; simp [hne, sLess]
  · have hb : (a.f0.f0.toList == b.f0.f0.toList) = false := by rw [beq_dec]; exact decide_eq_false e0
    rw [hb, if_pos (by rfl), if_neg (fun h => e0 ((toList_iff _ _).mp h)), Option.bind_some]
    congr 1
    rw [Bool.eq_iff_iff, pairLess_iff, roleLess_iff]
    show _ ↔ ((sLess a.f0.f0 b.f0.f0 = true ∨ (a.f0.f0 = b.f0.f0 ∧ sLess a.f0.f1 b.f0.f1 = true)) ∨ (a.f0 = b.f0 ∧ sLess a.f1 b.f1 = true))
    have hne : a.f0 ≠ b.f0 := fun e => e0 (by rw [e])
    simp [hne, e0, sLess]
theorem refAll_l2 (x : List RPair) (hx : x.length < 1000000) (out : List RPair) (ho : out.length < 1000000) (R : List RPair) : ∀ (n m i : Nat), n + i = x.length → m < x.length →
    Ev (fun k => Qaw.l1 k (x.take (selLeast rLess x n m i) ++ x.drop (selLeast rLess x n m i + 1)) (out ++ [x[selLeast rLess x n m i]!])) R → Ev (fun k => Qaw.l2 k x out (m : Int) (i : Int)) R
  | 0, m, i, hn, hm, h => by
    rw [selLeast] at h; refine Ev.step (fun k => ?_) h; rw [Qaw.l2, if_neg (by omega), if_pos (by omega), if_pos (by omega), if_pos (by omega), if_pos (by omega), Option.bind_some, if_pos (by simp; omega), Option.bind_some, wrap_succ (by omega), if_pos (by omega), if_pos (by omega), Option.bind_some, if_pos (by simp; omega), rdR]; rfl
  | n + 1, m, i, hn, hm, h => by
    rw [selLeast] at h
    have e : ∀ k, Qaw.l2 (k + 1) x out (m : Int) (i : Int) = Qaw.l2 k x out ((if rLess x[i]! x[m]! then i else m : Nat) : Int) ((i + 1 : Nat) : Int) := fun k => by
      rw [Qaw.l2, if_pos (by omega), if_pos (by omega), if_pos (by omega), if_pos (by omega), rdR, rdR, refLess_is, Option.bind_some, wrap_succ (by omega)]
      cases rLess x[i]! x[m]! <;> rfl
    exact Ev.step e (refAll_l2 x hx out ho R n _ (i + 1) (by omega) (by split <;> omega) h)
theorem refAll_l1 : ∀ (n : Nat) (x out : List RPair), x.length ≤ n → x.length + out.length < 1000000 → Ev (fun k => Qaw.l1 k x out) (selSort rLess n x out)
  | 0, x, out, hn, hl => by
    rw [selSort]; refine Ev.step (fun k => ?_) (Ev.pure _); rw [Qaw.l1, if_neg (by omega)]
  | n + 1, x, out, hn, hl => by
    rw [selSort]
    by_cases c : x.length > 0
    · rw [if_pos c]
      have hm := selLeast_lt rLess x (x.length - 1) 0 1 (by omega) c; refine Ev.step (fun k => ?_) (refAll_l2 x (by omega) out (by omega) _ (x.length - 1) 0 1 (by omega) c (refAll_l1 n _ _ ?_ ?_))
      · rw [Qaw.l1, if_pos (by omega)]
        rfl
      · simp
        omega
      · simp
        omega
    · rw [if_neg c]
      refine Ev.step (fun k => ?_) (Ev.pure _); rw [Qaw.l1, if_neg (by omega)]
theorem refAll_l0 {cs : List Cred} (hcs : cs.length ≤ 20) : ∀ (n : Nat) (now : List RPair), now.Nodup → (∀ p ∈ now, SaidR cs p) → 401 - now.length ≤ n → ∃ fin : List RPair, fin.Nodup ∧ (∀ p, p ∈ fin ↔ SaidR cs p) ∧ Ev (fun k => Qaw.l0 k cs now) (selSort rLess fin.length fin [])
  | 0, now, hn, hs, h => by
    have := saidR_400 hcs hn hs; omega
  | n + 1, now, hn, hs, h => by
    have h400 := saidR_400 hcs hn hs; have hr := round_ev cs (by omega) now (by omega)
    by_cases e : (roundL cs now).length = now.length
    · have hf := round_fix e
      refine ⟨now, hn, fun p => ⟨hs p, fun hp => closed_said hf.2 hp⟩, ?_⟩; refine Ev.step (g := fun k => (QaG.f k cs now).bind fun t => if (t.length : Int) = (now.length : Int) then Qaw.l1 k now [] else Qaw.l0 k cs t) (fun k => by rw [Qaw.l0]) (Ev.bind hr ?_); simp only [if_pos (show ((roundL cs now).length : Int) = (now.length : Int) by omega)]; exact refAll_l1 now.length now [] (Nat.le_refl _) (by simp; omega)
    · obtain ⟨ex, h0, h1, h2, h3⟩ := round_ext now cs now
      have h0' : roundL cs now = now ++ ex := h0
      have hs' : ∀ p ∈ roundL cs now, SaidR cs p := fun p hp => by
        rcases (h3 p).mp hp with hp | ⟨c, hc, hp⟩
        · exact hs p hp
        · exact brings_said hc hs hp
      have hn' : (roundL cs now).Nodup := by
        rw [h0', List.nodup_append]; exact ⟨hn, h1, fun a ha b hb e => h2 b hb (e ▸ ha)⟩
      have hlt : now.length < (roundL cs now).length := by
        rw [h0', List.length_append] at e ⊢; omega
      obtain ⟨fin, f1, f2, f3⟩ := refAll_l0 hcs n (roundL cs now) hn' hs' (by omega); refine ⟨fin, f1, f2, ?_⟩; refine Ev.step (g := fun k => (QaG.f k cs now).bind fun t => if (t.length : Int) = (now.length : Int) then Qaw.l1 k now [] else Qaw.l0 k cs t) (fun k => by rw [Qaw.l0]) (Ev.bind hr ?_); simp only [if_neg (show ¬ ((roundL cs now).length : Int) = (now.length : Int) by omega)]; exact f3
def toR (p : Pair) : RPair := ⟨p.f0, p.f1⟩
structure AllOf (cs : List Cred) (A : List Pair) : Prop where
  sorted : A.Pairwise (fun a b => pairLess a b = true)
  mem : ∀ p, p ∈ A ↔ Said cs p
theorem AllOf.unique {cs : List Cred} {A B : List Pair} (h : AllOf cs A) (h' : AllOf cs B) : A = B :=
  sorted_eq (R := fun a b => pairLess a b = true) pairLess_irrefl (fun _ _ _ => pairLess_trans) h.sorted h'.sorted (fun p => (h.mem p).trans (h'.mem p).symm)
theorem AllOf.nodup {cs : List Cred} {A : List Pair} (h : AllOf cs A) : A.Nodup := sorted_nodup (R := fun a b => pairLess a b = true) pairLess_irrefl h.sorted
theorem AllOf.length {cs : List Cred} {A : List Pair} (h : AllOf cs A) (hl : cs.length ≤ 20) : A.length ≤ 400 := said_400 hl h.nodup (fun p hp => (h.mem p).mp hp)
theorem sortPairs_sorted {l : List Pair} (hn : l.Nodup) : (sortPairs l).Pairwise (fun a b => pairLess a b = true) := by
  have h1 : (sortPairs l).Pairwise (fun a b => (!(ltOf pairCmp) b a) = true) := by
    unfold sortPairs; refine List.pairwise_mergeSort (le := fun x y => !(ltOf pairCmp) y x) ?_ ?_ l
    · intro a b c h1 h2
      simp only [Bool.not_eq_true'] at *; exact pairSWO.ntrans _ _ _ h2 h1
    · intro a b
      rw [pairCmp_lt, pairCmp_lt]
      by_cases h1 : pairLess b a = true
      · have : ¬ pairLess a b = true := fun h2 => pairLess_irrefl _ (pairLess_trans h1 h2)
        simp_all
      · simp_all
  have h2 : (sortPairs l).Nodup := (List.mergeSort_perm l _).nodup_iff.mpr hn
  refine (h1.and h2).imp fun {a b} hh => ?_
  obtain ⟨h, h'⟩ := hh; simp only [pairCmp_lt, Bool.not_eq_true'] at h
  by_cases h3 : pairLess a b = true
  · exact h3
  · exact absurd (pairLess_total h3 (by rw [h]; decide)) h'
theorem run_all {cs : List Cred} (hm : Mays cs) (hl : cs.length ≤ 20) : ∃ s A, runF 2000 cs = some s ∧ s.known.length ≤ 1000000 ∧ sortPairs s.known = A ∧ AllOf cs A := by
  obtain ⟨s, h1, h2, h3⟩ := run_said hm hl; have := said_400 hl h2 (fun p hp => (h3 p).mp hp); exact ⟨s, _, h1, by omega, rfl, sortPairs_sorted h2, fun p => sortPairs_mem.trans (h3 p)⟩
theorem counts_mays (l : List Cred) : Mays (counts l) := fun c hc => (((counts_spec l).mem c).mp hc).may
theorem counts_length (l : List Cred) : (counts l).length ≤ l.length := by
  have := firsts_length (sortCreds l) []; rw [sortCreds_length] at this
  simpa [counts] using this
theorem all_is (l : List Cred) (hl : l.length < 20) (hok : ∀ c ∈ l, okCred c) : ∃ A, Qa1.f l = some A ∧ AllOf (counts l) A := by
  have hlen := counts_length l; obtain ⟨s, A, h1, h2, h3, h4⟩ := run_all (counts_mays l) (by omega); refine ⟨A, ?_, h4⟩; unfold Qa1.f; rw [progCounts_is l hl hok 200 (by omega), Option.bind_some, if_pos (by omega), h1, Option.bind_some, if_pos h2, h3]
theorem refAll_ev {cs : List Cred} (hl : cs.length ≤ 20) {A : List Pair} (hA : AllOf cs A) : Ev (fun k => Qaw.l0 k cs []) (A.map toR) := by
  obtain ⟨fin, f1, f2, f3⟩ := refAll_l0 hl 401 [] List.nodup_nil (fun p hp => by cases hp) (by simp)
  obtain ⟨s1, s2⟩ := selSort_spec rLess rLess_irrefl rLess_trans fin.length fin [] (Nat.le_refl _) (by
    rw [List.nil_append]
    exact f1.imp fun {a b} hab => rLess_total a b hab) List.Pairwise.nil (fun a ha => by cases ha)
  have e : selSort rLess fin.length fin [] = A.map toR := by
    refine sorted_eq (R := fun a b => rLess a b = true) (fun x h => by rw [rLess_irrefl] at h; cases h) rLess_trans s1 ?_ (fun x => ?_)
    · rw [List.pairwise_map]
      exact hA.sorted
    · rw [s2, List.mem_map]
      simp only [List.not_mem_nil, false_or]; rw [f2]; unfold SaidR; constructor
      · intro h
        exact ⟨_, (hA.mem _).mpr h, rfl⟩
      · rintro ⟨p, hp, rfl⟩
        exact (hA.mem p).mp hp
  rw [← e]; exact f3
theorem refAll_is (l : List Cred) (hl : l.length ≤ 20) {A : List Pair} (hA : AllOf (counts l) A) : Ev (fun k => Qaw.f k l) (A.map toR) := by
  unfold Qaw.f; have := counts_length l; exact Ev.bind (refCounts_is l (by omega)) (refAll_ev (by omega) hA)
end Go.Proofs.YtpjddgmdgfjlfaaDoor.Pr
end
