/- The proof's own texts, joined: part 8. No conditions. -/
import Derived.Sort.Walk0
import Derived.Laws.Strings
import Derived.Lib.SlicesS
import Derived.BigQuiet
import Derived.WalkKit
import Derived.WalkSpells
import Derived.WalkLawsBesides
import Derived.Lib.Hide
import Derived.Deep.QuietTactic
import Derived.Deep.RegionWith
import Derived.RegionTactic
import Derived.ChangeAlike
import Derived.Deep.RegionLaw
import Derived.Lib.SmallJoins
import Derived.StillTailTactics
import Derived.DeepKeys4
import Derived.KernelRfl
import Derived.Test.YtmaipohgahdclaaDoorProg
import Derived.Below
import Derived.Deep.Draws
import Derived.Deep.AppendLies
import Derived.Maps.AppendAt
import Derived.OwnWalk
import Derived.Laws.BytesArg
import Derived.Laws.MakeOwn
import Derived.Laws.OwnMore
import Derived.Deep.OwnRows
import Derived.Tactics
import Derived.Lib.ConvBytes
import Derived.Laws.Slices
import Derived.RowKit3
import Derived.Deep.LoopGhost
import Derived.WideLaws
import Derived.Deep.DeepCutAuto
import Derived.Deep.CutBlock
import Derived.Deep.RegionHeld3
import Derived.Laws.Rows
import Derived.Lib.AppendStr
import Derived.ArgAppend
import Derived.Laws.IdiomCopy
import Derived.OrdersHeld
import Derived.Laws.BitsLemmas
import Derived.RowKit
import Derived.Shelf.SlicesE.Clone
import Derived.Shelf.SlSortCmp.NoneTotal
import Derived.Shelf.SlicesG.Cmp
import Derived.Ground.SlgcProg
import Derived.Sort.Grow
import Derived.Shelf.SlSortCmp.WholeK
import Derived.Ground.SlsfProg
import Derived.Ground.SlgnProg
import Derived.Maps.OwnSet
import Derived.Maps.RangeRun
import Derived.Maps.Range
import Derived.Carry
import Derived.Outline
import Derived.Laws.StructEq
import Derived.Shelf.GgSortFunc.InsertionK
import Derived.Laws.RangeAny
import Derived.Laws.Closers25
import Derived.ProofKit
import Derived.ChangeSlices
import Derived.DataElems
import Derived.Sort.LotA
import Derived.Test.YtmaipohgahdclaaDoorPb0
import Derived.Test.YtmaipohgahdclaaDoorPb1
import Derived.Test.YtmaipohgahdclaaDoorPb2
import Derived.Test.YtmaipohgahdclaaDoorPb3
import Derived.Test.YtmaipohgahdclaaDoorPb4
import Derived.Test.YtmaipohgahdclaaDoorPb5
import Derived.Test.YtmaipohgahdclaaDoorPb6
import Derived.Test.YtmaipohgahdclaaDoorPb7
section
namespace Go.Proofs.YtmaipohgahdclaaDoor.Pr
open Go.RowKit Go.Proofs.YtmaipohgahdclaaDoorW.PrintWords Go.Proofs.YtmaipohgahdclaaDoorW.PrintLast Go.Proofs.YtmaipohgahdclaaDoorW.PrintMore
attribute [local go_sem] max2_int min2_int max_two min_two QaQ QaP max_four min_four
set_option linter.unusedVariables false
set_option linter.unusedSimpArgs false

end Go.Proofs.YtmaipohgahdclaaDoor.Pr
end
section
namespace Go.Proofs.YtmaipohgahdclaaDoor.Pr
open Go.RowKit Go.Proofs.YtmaipohgahdclaaDoorW.PrintWords Go.Proofs.YtmaipohgahdclaaDoorW.PrintLast Go.Proofs.YtmaipohgahdclaaDoorW.PrintMore
theorem toList_iff (x y : ByteArray) : x.toList = y.toList ↔ x = y := by
  rw [← Lib.bytes_beq_iff, beq_iff_eq]
theorem domName_ne {n : Int} (h : 1 ≤ n) (h' : n ≤ 16) : domName n ≠ ⟨#[]⟩ := by
  have : n = 1 ∨ n = 2 ∨ n = 3 ∨ n = 4 ∨ n = 5 ∨ n = 6 ∨ n = 7 ∨ n = 8 ∨ n = 9 ∨ n = 10 ∨ n = 11 ∨ n = 12 ∨ n = 13 ∨ n = 14 ∨ n = 15 ∨ n = 16 := by omega
  rcases this with rfl | rfl | rfl | rfl | rfl | rfl | rfl | rfl | rfl | rfl | rfl | rfl | rfl | rfl | rfl | rfl <;> decide
def numFrom (s : ByteArray) : Nat → Int → Int
  | 0, _ => 0
  | k + 1, n => if n ≤ 16 then (if domName n = s then n else numFrom s k (n + 1)) else 0
def numName (s : ByteArray) : Int := numFrom s 17 1
theorem number_from (s : ByteArray) : ∀ (k : Nat) (n : Int), 1 ≤ n → n ≤ 17 → 17 - n < k → names_Number.l0 k s n = some (numFrom s k n)
  | 0, n, _, _, h => by omega
  | k + 1, n, h0, h1, h2 => by
    rw [names_Number.l0, numFrom]
    by_cases c : n ≤ 16
    · rw [if_pos c, if_pos c]
      show (Option.bind (some (domName n)) _) = _
      rw [Option.bind_some]
      by_cases e : domName n = s
      · rw [if_pos ((toList_iff _ _).mpr e), if_pos e]
      · rw [if_neg (fun h => e ((toList_iff _ _).mp h)), if_neg e]
        have hw : wrap64 (n + 1) = n + 1 := by unfold wrap64; omega
        rw [hw]; exact number_from s k (n + 1) (by omega) (by omega) (by omega)
    · rw [if_neg c, if_neg c]
theorem numFrom_more (s : ByteArray) : ∀ (k : Nat) (n : Int), 17 - n < k → numFrom s (k + 1) n = numFrom s k n
  | 0, n, h => by
    rw [numFrom, numFrom, if_neg (by omega)]
  | k + 1, n, h => by
    rw [numFrom]
    conv => rhs; rw [numFrom]
    by_cases c : n ≤ 16
    · rw [if_pos c, if_pos c]
      by_cases e : domName n = s
      · rw [if_pos e, if_pos e]
      · rw [if_neg e, if_neg e]
        exact numFrom_more s k (n + 1) (by omega)
    · rw [if_neg c, if_neg c]
theorem number_is (s : ByteArray) : ∀ k, 17 ≤ k → names_Number.f k s = some (numName s) := by
  intro k hk; unfold names_Number.f; rw [number_from s k 1 (by omega) (by omega) (by omega)]
  congr 1
  unfold numName; obtain ⟨j, rfl⟩ := Nat.le.dest hk; clear hk
  induction j with
  | zero => rfl
  | succ j ih => rw [← ih]; exact numFrom_more s (17 + j) 1 (by omega)
theorem numFrom_spec (s : ByteArray) : ∀ (k : Nat) (n : Int), 17 - n ≤ k → (∃ m, n ≤ m ∧ m ≤ 16 ∧ domName m = s ∧ numFrom s k n = m) ∨ ((∀ m, n ≤ m → m ≤ 16 → domName m ≠ s) ∧ numFrom s k n = 0)
  | 0, n, h => .inr ⟨fun m _ _ => by omega, rfl⟩
  | k + 1, n, h => by
    rw [numFrom]
    by_cases c : n ≤ 16
    · rw [if_pos c]
      by_cases e : domName n = s
      · rw [if_pos e]
        exact .inl ⟨n, by omega, c, e, rfl⟩
      · rw [if_neg e]
        rcases numFrom_spec s k (n + 1) (by omega) with ⟨m, h1, h2, h3, h4⟩ | ⟨h1, h2⟩
        · exact .inl ⟨m, by omega, h2, h3, h4⟩
        · refine .inr ⟨fun m hm hm' => ?_, h2⟩
          by_cases e2 : m = n
          · rw [e2]; exact e
          · exact h1 m (by omega) hm'
    · rw [if_neg c]
      exact .inr ⟨fun m _ _ => by omega, rfl⟩
theorem numName_spec (s : ByteArray) : (∃ m, 1 ≤ m ∧ m ≤ 16 ∧ domName m = s ∧ numName s = m) ∨ ((∀ m, 1 ≤ m → m ≤ 16 → domName m ≠ s) ∧ numName s = 0) := numFrom_spec s 17 1 (by omega)
theorem bt_data (s : ByteArray) (i : Nat) (h : i < s.size) : bt s (i : Int) = ((s.data.getD i 0).toNat : Int) := by
  unfold bt; rw [dif_pos (by rw [Int.toNat_natCast]; exact h)]
  have : s.data.getD i 0 = s[i] := by
    rw [Array.getD, dif_pos (show i < s.data.size from h)]; rfl
  rw [this]; rfl
theorem size_two {s : ByteArray} (h : s.size = 2) (t : ByteArray) (ht : t.size = 2) (h0 : bt s 0 = bt t 0) (h1 : bt s 1 = bt t 1) : s = t := by
  apply ByteArray.ext
  apply Array.ext
  · exact h.trans ht.symm
  · intro i hi hi'
    have hs : i < 2 := by have : s.data.size = 2 := h; omega
    have e : bt s (i : Int) = bt t (i : Int) := by
      have : i = 0 ∨ i = 1 := by omega
      rcases this with rfl | rfl
      · exact h0
      · exact h1
    rw [bt_data s i (by omega), bt_data t i (by omega)] at e; rw [Array.getD, dif_pos hi, Array.getD, dif_pos hi'] at e; exact UInt8.toNat_inj.mp (by exact_mod_cast e)
theorem size_three {s : ByteArray} (h : s.size = 3) (t : ByteArray) (ht : t.size = 3) (h0 : bt s 0 = bt t 0) (h1 : bt s 1 = bt t 1) (h2 : bt s 2 = bt t 2) : s = t := by
  apply ByteArray.ext
  apply Array.ext
  · exact h.trans ht.symm
  · intro i hi hi'
    have hs : i < 3 := by have : s.data.size = 3 := h; omega
    have e : bt s (i : Int) = bt t (i : Int) := by
      have : i = 0 ∨ i = 1 ∨ i = 2 := by omega
      rcases this with rfl | rfl | rfl
      · exact h0
      · exact h1
      · exact h2
    rw [bt_data s i (by omega), bt_data t i (by omega)] at e; rw [Array.getD, dif_pos hi, Array.getD, dif_pos hi'] at e; exact UInt8.toNat_inj.mp (by exact_mod_cast e)
theorem refNumber_dom (m : Int) (h : 1 ≤ m) (h' : m ≤ 16) (k : Nat) : Qau.f (k + 2) (domName m) = some m := by
  have : m = 1 ∨ m = 2 ∨ m = 3 ∨ m = 4 ∨ m = 5 ∨ m = 6 ∨ m = 7 ∨ m = 8 ∨ m = 9 ∨ m = 10 ∨ m = 11 ∨ m = 12 ∨ m = 13 ∨ m = 14 ∨ m = 15 ∨ m = 16 := by omega
  rcases this with rfl | rfl | rfl | rfl | rfl | rfl | rfl | rfl | rfl | rfl | rfl | rfl | rfl | rfl | rfl | rfl <;> (show _ = some _; kernel_rfl)
theorem refNumber_none (s : ByteArray) (hn : ∀ m, 1 ≤ m → m ≤ 16 → domName m ≠ s) (k : Nat) : Qau.f (k + 2) s = some 0 := by
  have j0t : Qau.j0 (k + 2) s true = some 0 := by rw [Qau.j0, if_pos rfl]
  have j1t : ∀ x, Qau.j1 (k + 1) s x true = some 0 := fun x => by rw [Qau.j1, if_pos rfl]
  unfold Qau.f
  by_cases c1 : (s.size : Int) < 2
  · rw [if_pos c1, j0t]
  · rw [if_neg c1]
    by_cases c2 : (s.size : Int) > 3
    · rw [if_pos c2, j0t]
    · rw [if_neg c2, if_pos (by omega)]
      by_cases c3 : bt s 0 = 100
      · rw [if_pos c3, if_pos (by omega)]
        by_cases c4 : bt s 1 < 49
        · rw [if_pos c4, j0t]
        · rw [if_neg c4]
          by_cases c5 : bt s 1 > 57
          · rw [decide_eq_true c5, j0t]
          · rw [decide_eq_false c5, Qau.j0, if_neg (by decide), if_pos (by omega)]
            by_cases c6 : (s.size : Int) = 3
            · rw [if_pos c6, if_pos (by omega)]
              by_cases c7 : bt s 2 < 48
              · rw [if_pos c7, j1t]
              · rw [if_neg c7]
                by_cases c8 : bt s 2 > 57
                · rw [decide_eq_true c8, j1t]
                · rw [decide_eq_false c8, Qau.j1, if_neg (by decide), if_pos (by omega)]
                  by_cases c9 : 10 * ((bt s 1 - 48) % 256) + (bt s 2 - 48) % 256 > 16
                  · rw [if_pos c9]
                  · exfalso
                    have e1 : bt s 1 = 49 := by omega
                    have hv : bt s 2 = 48 ∨ bt s 2 = 49 ∨ bt s 2 = 50 ∨ bt s 2 = 51 ∨ bt s 2 = 52 ∨ bt s 2 = 53 ∨ bt s 2 = 54 := by omega
                    rcases hv with e | e | e | e | e | e | e
                    · exact hn 10 (by omega) (by omega) (size_three (by omega) (domName 10) rfl (c3.trans rfl) (e1.trans rfl) (e.trans rfl)).symm
                    · exact hn 11 (by omega) (by omega) (size_three (by omega) (domName 11) rfl (c3.trans rfl) (e1.trans rfl) (e.trans rfl)).symm
                    · exact hn 12 (by omega) (by omega) (size_three (by omega) (domName 12) rfl (c3.trans rfl) (e1.trans rfl) (e.trans rfl)).symm
                    · exact hn 13 (by omega) (by omega) (size_three (by omega) (domName 13) rfl (c3.trans rfl) (e1.trans rfl) (e.trans rfl)).symm
                    · exact hn 14 (by omega) (by omega) (size_three (by omega) (domName 14) rfl (c3.trans rfl) (e1.trans rfl) (e.trans rfl)).symm
                    · exact hn 15 (by omega) (by omega) (size_three (by omega) (domName 15) rfl (c3.trans rfl) (e1.trans rfl) (e.trans rfl)).symm
                    · exact hn 16 (by omega) (by omega) (size_three (by omega) (domName 16) rfl (c3.trans rfl) (e1.trans rfl) (e.trans rfl)).symm
            · rw [if_neg c6, if_neg (by omega)]
              exfalso
              have hv : bt s 1 = 49 ∨ bt s 1 = 50 ∨ bt s 1 = 51 ∨ bt s 1 = 52 ∨ bt s 1 = 53 ∨ bt s 1 = 54 ∨ bt s 1 = 55 ∨ bt s 1 = 56 ∨ bt s 1 = 57 := by omega
              rcases hv with e | e | e | e | e | e | e | e | e
              · exact hn 1 (by omega) (by omega) (size_two (by omega) (domName 1) rfl (c3.trans rfl) (e.trans rfl)).symm
              · exact hn 2 (by omega) (by omega) (size_two (by omega) (domName 2) rfl (c3.trans rfl) (e.trans rfl)).symm
              · exact hn 3 (by omega) (by omega) (size_two (by omega) (domName 3) rfl (c3.trans rfl) (e.trans rfl)).symm
              · exact hn 4 (by omega) (by omega) (size_two (by omega) (domName 4) rfl (c3.trans rfl) (e.trans rfl)).symm
              · exact hn 5 (by omega) (by omega) (size_two (by omega) (domName 5) rfl (c3.trans rfl) (e.trans rfl)).symm
              · exact hn 6 (by omega) (by omega) (size_two (by omega) (domName 6) rfl (c3.trans rfl) (e.trans rfl)).symm
              · exact hn 7 (by omega) (by omega) (size_two (by omega) (domName 7) rfl (c3.trans rfl) (e.trans rfl)).symm
              · exact hn 8 (by omega) (by omega) (size_two (by omega) (domName 8) rfl (c3.trans rfl) (e.trans rfl)).symm
              · exact hn 9 (by omega) (by omega) (size_two (by omega) (domName 9) rfl (c3.trans rfl) (e.trans rfl)).symm
      · rw [if_neg c3, j0t]
theorem refNumber_is (s : ByteArray) (k : Nat) : Qau.f (k + 2) s = some (numName s) := by
  rcases numName_spec s with ⟨m, h1, h2, h3, h4⟩ | ⟨h1, h2⟩
  · rw [h4, ← h3, refNumber_dom m h1 h2]
  · rw [h2, refNumber_none s h1]
theorem mayAt_bt {s : ByteArray} {i : Nat} (h : i < s.size) (hi : i ≠ 0) : mayAt i (s.data.getD i 0).toNat = true ↔ (97 ≤ bt s i ∧ bt s i ≤ 122) ∨ (48 ≤ bt s i ∧ bt s i ≤ 57) := by
  rw [bt_data s i h]; unfold mayAt; simp [hi]; omega
theorem refMay_loop (s : ByteArray) (h8 : s.size ≤ 8) : ∀ (k i : Nat), 1 ≤ i → i ≤ s.size → s.size - i < k → mayUpto s i = true → Qaw.l0 k s (i : Int) = some (mayUpto s s.size)
  | 0, i, _, _, h, _ => by omega
  | k + 1, i, h1, h2, h3, hm => by
    rw [Qaw.l0]
    by_cases c : (i : Int) < (s.size : Int)
    · rw [if_pos c, if_pos (by omega)]
      have hlt : i < s.size := by omega
      have hw : wrap64 ((i : Int) + 1) = ((i + 1 : Nat) : Int) := by unfold wrap64; omega
      have ih := fun hy : mayAt i (s.data.getD i 0).toNat = true => refMay_loop s h8 k (i + 1) (by omega) hlt (by omega) (by rw [mayUpto, hm, hy]; rfl)
      rw [mayAt_bt hlt (by omega)] at ih
      have no := fun hn : mayAt i (s.data.getD i 0).toNat = false => may_stop s i hn s.size hlt
      have hno : ¬ ((97 ≤ bt s i ∧ bt s i ≤ 122) ∨ (48 ≤ bt s i ∧ bt s i ≤ 57)) → mayUpto s s.size = false := fun hn => no (by rw [Bool.eq_false_iff, Ne, mayAt_bt hlt (by omega)]; exact hn)
      rw [hw]
      by_cases a1 : bt s i ≥ 97
      · rw [if_pos a1, if_pos (by omega)]
        by_cases a2 : bt s i ≤ 122
        · rw [if_pos a2]
          exact ih (.inl ⟨a1, a2⟩)
        · rw [if_neg a2, if_neg (by omega), hno (by omega)]
      · rw [if_neg a1]
        by_cases a3 : bt s i ≥ 48
        · rw [if_pos a3]
          by_cases a4 : bt s i ≤ 57
          · rw [if_pos a4]
            exact ih (.inr ⟨a3, a4⟩)
          · rw [if_neg a4, hno (by omega)]
        · rw [if_neg a3, hno (by omega)]
    · rw [if_neg c, show s.size = i by omega, hm]
theorem refMay_is (s : ByteArray) (k : Nat) (hk : 10 ≤ k) : Qaw.f k s = some (mayName s) := by
  obtain ⟨k, rfl⟩ : ∃ j, k = j + 1 := ⟨k - 1, by omega⟩
  have jt : Qaw.j0 (k + 1) s true = some false := by rw [Qaw.j0, if_pos rfl]
  unfold Qaw.f mayName
  by_cases c1 : (s.size : Int) < 1
  · rw [if_pos c1, jt, decide_eq_false (p := 0 < s.size) (by omega)]
    simp
  · rw [if_neg c1]
    by_cases c2 : (s.size : Int) > 8
    · rw [if_pos c2, jt, decide_eq_false (p := s.size ≤ 8) (by omega)]
      simp
    · rw [if_neg c2, if_pos (by omega), decide_eq_true (p := 0 < s.size) (by omega), decide_eq_true (p := s.size ≤ 8) (by omega), Bool.and_true, Bool.and_true]
      have h0 : bt s 0 = ((s.data.getD 0 0).toNat : Int) := bt_data s 0 (by omega)
      generalize hd : (s.data.getD 0 0).toNat = d at h0
      by_cases c3 : bt s 0 < 97
      · rw [if_pos c3, jt, may_stop s 0 (by rw [hd]; unfold mayAt; simp; omega) s.size (by omega)]
      · rw [if_neg c3]
        by_cases c4 : bt s 0 > 122
        · rw [decide_eq_true c4, jt, may_stop s 0 (by rw [hd]; unfold mayAt; simp; omega) s.size (by omega)]
        · rw [decide_eq_false c4, Qaw.j0, if_neg (by decide)]
          exact refMay_loop s (by omega) k 1 (Nat.le_refl _) (by omega) (by omega) (by rw [mayUpto, mayUpto, hd]; unfold mayAt; simp; omega)
theorem empty_iff (x : ByteArray) : x.toList = [] ↔ x = ⟨#[]⟩ := by
  rw [← toList_iff, show (⟨#[]⟩ : ByteArray).toList = [] by unfold ByteArray.toList; rw [ByteArray.toList.loop]; rfl]
def roleOk (r : Role) : Bool := decide (numName r.f0 > 0) && mayName r.f1
def bareOk (r : Role) : Bool := noText r.f0 && mayName r.f1
def credMay (c : Cred) : Bool :=
  (decide (1 ≤ c.f0.f0 ∧ c.f0.f0 ≤ 16) && decide (1 ≤ c.f0.f1 ∧ c.f0.f1 ≤ 4000) && mayName c.f1) &&
  (if c.f2 = 1 then mayName c.f3 && (noRole c.f4 && noRole c.f5) else if c.f2 = 2 then roleOk c.f4 && (noRole c.f5 && noText c.f3)
    else if c.f2 = 3 then bareOk c.f4 && (bareOk c.f5 && noText c.f3) else if c.f2 = 4 then roleOk c.f4 && (roleOk c.f5 && noText c.f3) else false)
def okCred (c : Cred) : Prop := c.f1.size ≤ maxLen ∧ c.f3.size ≤ maxLen ∧ (c.f4.f0.size ≤ maxLen ∧ c.f4.f1.size ≤ maxLen) ∧ c.f5.f0.size ≤ maxLen ∧ c.f5.f1.size ≤ maxLen
theorem may_is {s : ByteArray} (h : s.size ≤ maxLen) : names_May.f s = some (mayName s) := by
  unfold names_May.f; rw [if_pos h]
theorem role_is (r : Role) (h : r.f1.size ≤ maxLen) (k : Nat) (hk : 17 ≤ k) : names_Role.f k r.f0 r.f1 = some (roleOk r) := by
  unfold names_Role.f roleOk; rw [number_is _ k hk, Option.bind_some, may_is h, Option.bind_some]
  by_cases c : numName r.f0 > 0
  · rw [if_pos c, decide_eq_true c]; rfl
  · rw [if_neg c, decide_eq_false c]; rfl
theorem bare_is (r : Role) (h : r.f1.size ≤ maxLen) : cred_bare.f r.f0 r.f1 = some (bareOk r) := by
  unfold cred_bare.f bareOk noText; rw [may_is h, Option.bind_some]
  by_cases c : r.f0.toList = []
  · rw [if_pos c, c]; rfl
  · rw [if_neg c, beq_eq_false_iff_ne.mpr c]; rfl
theorem and3_is (x y z : Bool) : and3 (some x) (some y) (some z) = some (x && (y && z)) := by
  cases x <;> cases y <;> rfl
theorem credMay_is (c : Cred) (h : okCred c) : cred_May.f c.f0.f0 c.f0.f1 c.f1 c.f2 c.f3 c.f4.f0 c.f4.f1 c.f5.f0 c.f5.f1 = some (credMay c) := by
  obtain ⟨h1, h3, ⟨h40, h41⟩, h50, h51⟩ := h
  show mayF c = some (credMay c)
  unfold mayF credMay
  by_cases d : 1 ≤ c.f0.f0 ∧ c.f0.f0 ≤ 16
  · have hn : ¬ noText (domName c.f0.f0) = true := fun e => domName_ne d.1 d.2 ((empty_iff _).mp (beq_iff_eq.mp e))
    rw [if_neg hn, decide_eq_true d]
    by_cases s1 : c.f0.f1 < 1
    · rw [if_pos s1, decide_eq_false (p := 1 ≤ c.f0.f1 ∧ c.f0.f1 ≤ 4000) (by omega)]; rfl
    · rw [if_neg s1]
      by_cases s2 : c.f0.f1 > 4000
      · rw [if_pos s2, decide_eq_false (p := 1 ≤ c.f0.f1 ∧ c.f0.f1 ≤ 4000) (by omega)]; rfl
      · rw [if_neg s2, decide_eq_true (p := 1 ≤ c.f0.f1 ∧ c.f0.f1 ≤ 4000) (by omega), may_is h1, Option.bind_some]
        cases hm : mayName c.f1
        · rfl
        · rw [if_pos rfl]
          unfold mayKind
          by_cases k1 : c.f2 = 1
          · rw [if_pos k1, if_pos k1, may_is h3, and3_is]; rfl
          · rw [if_neg k1, if_neg k1]
            by_cases k2 : c.f2 = 2
            · rw [if_pos k2, if_pos k2, role_is c.f4 h41 20 (by omega), and3_is]; rfl
            · rw [if_neg k2, if_neg k2]
              by_cases k3 : c.f2 = 3
              · rw [if_pos k3, if_pos k3, bare_is c.f4 h41, bare_is c.f5 h51, and3_is]; rfl
              · rw [if_neg k3, if_neg k3]
                by_cases k4 : c.f2 = 4
                · rw [if_pos k4, if_pos k4, role_is c.f4 h41 20 (by omega), role_is c.f5 h51 20 (by omega), and3_is]; rfl
                · rw [if_neg k4, if_neg k4]; rfl
  · have e : domName c.f0.f0 = ⟨#[]⟩ := domName_out _ (by omega)
    rw [if_pos (show noText (domName c.f0.f0) = true from beq_iff_eq.mpr ((empty_iff _).mpr e)), decide_eq_false d]; rfl
end Go.Proofs.YtmaipohgahdclaaDoor.Pr
end
section
namespace Go.Proofs.YtmaipohgahdclaaDoor.Pr
open Go.RowKit Go.ChangeShapes Go.WideShapes Go.Proofs.YtmaipohgahdclaaDoorW.PrintWords Go.Proofs.YtmaipohgahdclaaDoorW.PrintLast Go.Proofs.YtmaipohgahdclaaDoorW.PrintMore
def Opens {α : Type} (P : Program) (e : TypeId) (d : Kd α) (Q : α → Prop) : Prop :=
  ∀ (H : Type) (enc : TypeId × Value → H) (w : World) (base : Nat) (spare : Nat → Bool) (held : Bool) (fuel : Nat) (cs : List Value) (x : DataW H × List MemPlace), DataW.trod enc P w base spare held fuel e cs = some x → ∃ a, d.K w a cs ∧ Q a
section
variable {H : Type} {enc : TypeId × Value → H} {P : Program} {w : World} {base : Nat} {spare : Nat → Bool} {held : Bool}
theorem field_at {t : TypeId} {fs : Array Field} {fuel : Nat} {cs : List Value} {x : DataW H × List MemPlace} (ht : P.underlying t = some (.struct fs)) (h : DataW.trod enc P w base spare held fuel t cs = some x) :
    cs.length = P.cellsOf t ∧ ∃ n, ∀ (i : Nat) (f : Field), fs[i]? = some f → ∃ y, DataW.trod enc P w base spare held n f.type ((cs.drop f.offset).take (P.cellsOf f.type)) = some y := by
  obtain ⟨xs, n, _, _, hl, hx, hf⟩ := DataW.trod_struct ht h; refine ⟨hl, n, fun i f hi => ?_⟩; have hi' : i < fs.size := (Array.getElem?_eq_some_iff.mp hi).1; exact ⟨xs[i]'(by omega), (hf i f hi).trans (List.getElem?_eq_getElem (by omega))⟩
theorem list_of {α : Type} {R : Nat → α → Prop} : ∀ n, (∀ i, i < n → ∃ y, R i y) → ∃ xs : List α, xs.length = n ∧ ∀ i y, xs[i]? = some y → R i y
  | 0, _ => ⟨[], rfl, fun i y h => by simp at h⟩
  | n + 1, h => by
    obtain ⟨xs, hl, hx⟩ := list_of n (fun i hi => h i (by omega)); obtain ⟨y, hy⟩ := h n (by omega); refine ⟨xs ++ [y], by simp [hl], fun i z hz => ?_⟩
    by_cases hi : i < n
    · rw [List.getElem?_append_left (by omega)] at hz
      exact hx i z hz
    · rw [List.getElem?_append_right (by omega)] at hz
      have hi2 : i - xs.length = 0 := by
        have := (List.getElem?_eq_some_iff.mp hz).1; simp at this; omega
      rw [hi2] at hz
      have : y = z := by simpa using hz
      rw [show i = n by omega, ← this]; exact hy
theorem cells_at {a : Addr} {n : Nat} {cs : List Value} (h : w.cells? base a n = some cs) : cs.length = n ∧ ∀ i u, cs[i]? = some u → w.cell? (a.add i) = some u := by
  unfold World.cells? at h
  split at h
  · have hl := mapM_some_length h
    rw [List.length_range] at hl; refine ⟨hl, fun i u hu => ?_⟩
    have hi : i < n := by have := (List.getElem?_eq_some_iff.mp hu).1; omega
    have := mapM_some_get h i i (by simp [hi]); rw [this, hu]
  · cases h
theorem open_row {α : Type} {d : Kd α} {Q : α → Prop} {t e : TypeId} {fuel : Nat} {a : Option Addr} {len cap : Nat} {x : DataW H × List MemPlace} (ht : P.underlying t = some (.slice e)) (hc : P.cellsOf e = d.sz) (ho : Opens P e d Q)
    (h : DataW.trod enc P w base spare held fuel t [.slice a len cap] = some x) : ∃ xs : List α, xs.length = len ∧ d.C w a xs.length xs ∧ xs.length ≤ cap ∧ ∀ y ∈ xs, Q y := by
  rcases DataW.trod_slice ht h with ⟨hcs, _⟩ | ⟨a', len', cap', elems, rest, n, _, hcs, _, hb, hl, hm, hlen, hel, _, _⟩
  · simp only [List.cons.injEq, Value.slice.injEq, and_true] at hcs
    obtain ⟨rfl, rfl, rfl⟩ := hcs; exact ⟨[], rfl, ⟨rfl, Nat.zero_le _, fun h => absurd h (Nat.lt_irrefl _)⟩, Nat.le_refl _, fun y hy => by cases hy⟩
  · simp only [List.cons.injEq, Value.slice.injEq, and_true] at hcs
    obtain ⟨rfl, rfl, rfl⟩ := hcs
    obtain ⟨xs, hxl, hx⟩ := list_of (R := fun i y => ∃ cs, w.cells? base (a'.add (i * P.cellsOf e)) (P.cellsOf e) = some cs ∧ d.K w y cs ∧ Q y) len (fun i hi => by
      have h1 := hel i hi; rw [List.getElem?_eq_getElem (by omega)] at h1; obtain ⟨cs, hcs, hy⟩ := Option.bind_eq_some_iff.mp h1; obtain ⟨y, hk, hq⟩ := ho _ _ _ _ _ _ _ _ _ hy
      exact ⟨y, cs, hcs, hk, hq⟩)
    refine ⟨xs, hxl, ⟨rfl, ?_, fun _ => ⟨a', rfl, fun j p hj => ?_⟩⟩, by omega, fun y hy => ?_⟩
    · have : maxLen = 9223372036854775807 := by decide
      omega
    · obtain ⟨cs, h1, h2, _⟩ := hx j p hj
      obtain ⟨hl1, hl2⟩ := cells_at h1; refine ⟨cs, by omega, h2, fun i u hu => ?_⟩; rw [← hc, ← Addr.add_add]; exact hl2 i u hu
    · obtain ⟨i, hi, e⟩ := List.getElem_of_mem hy
      obtain ⟨_, _, _, hq⟩ := hx i y (by rw [List.getElem?_eq_getElem hi, e]); exact hq
end
theorem list2 {α : Type} : ∀ {l : List α}, l.length = 2 → ∃ a b, l = [a, b]
  | [a, b], _ => ⟨a, b, rfl⟩
theorem list9 {α : Type} : ∀ {l : List α}, l.length = 9 → ∃ a b c d e f g h i, l = [a, b, c, d, e, f, g, h, i]
  | [a, b, c, d, e, f, g, h, i], _ => ⟨a, b, c, d, e, f, g, h, i, rfl⟩
theorem opens_role : Opens Tryd.prog 24 k24 (fun r => r.f0.size ≤ maxLen ∧ r.f1.size ≤ maxLen) := by
  intro H enc w base spare held fuel cs x h; obtain ⟨hl, n, hf⟩ := field_at Tryd.underlying24 h; rw [Tryd.cellsRole] at hl; obtain ⟨y0, h0⟩ : ∃ y, DataW.trod enc Tryd.prog w base spare held n 9 ((cs.drop 0).take (Tryd.prog.cellsOf 9)) = some y := hf 0 _ rfl; obtain ⟨y1, h1⟩ : ∃ y, DataW.trod enc Tryd.prog w base spare held n 9 ((cs.drop 1).take (Tryd.prog.cellsOf 9)) = some y := hf 1 _ rfl; rw [Tryd.cellsStr] at h0 h1; obtain ⟨c0, c1, rfl⟩ := list2 hl; obtain ⟨s0, e0, _, z0⟩ := DataW.trod_string Tryd.underlying9 h0; obtain ⟨s1, e1, _, z1⟩ := DataW.trod_string Tryd.underlying9 h1
  obtain rfl : c0 = .string s0 := by simpa using e0
  obtain rfl : c1 = .string s1 := by simpa using e1
  exact ⟨⟨s0, s1⟩, k24_mk w ⟨s0, s1⟩, z0, z1⟩
theorem Tryd.cellsInt : Tryd.prog.cellsOf 3 = 1 := by kernel_rfl
theorem Tryd.cellsID : Tryd.prog.cellsOf 26 = 2 := by kernel_rfl
theorem Tryd.cellsCred : Tryd.prog.cellsOf 44 = 9 := by kernel_rfl
theorem opens_id : Opens Tryd.prog 26 k26 (fun _ => True) := by
  intro H enc w base spare held fuel cs x h; obtain ⟨hl, n, hf⟩ := field_at Tryd.underlying26 h; rw [Tryd.cellsID] at hl; obtain ⟨y0, h0⟩ : ∃ y, DataW.trod enc Tryd.prog w base spare held n 3 ((cs.drop 0).take (Tryd.prog.cellsOf 3)) = some y := hf 0 _ rfl; obtain ⟨y1, h1⟩ : ∃ y, DataW.trod enc Tryd.prog w base spare held n 3 ((cs.drop 1).take (Tryd.prog.cellsOf 3)) = some y := hf 1 _ rfl; rw [Tryd.cellsInt] at h0 h1; obtain ⟨c0, c1, rfl⟩ := list2 hl; obtain ⟨s0, e0, _, z0⟩ := DataW.trod_int Tryd.underlying3 h0; obtain ⟨s1, e1, _, z1⟩ := DataW.trod_int Tryd.underlying3 h1
  obtain rfl : c0 = .int .i64 s0 := by simpa using e0
  obtain rfl : c1 = .int .i64 s1 := by simpa using e1
  exact ⟨⟨s0, s1⟩, k26_mk w ⟨s0, s1⟩, trivial⟩
theorem opens_cred : Opens Tryd.prog 44 k44 okCred := by
  intro H enc w base spare held fuel cs x h; obtain ⟨hl, n, hf⟩ := field_at Tryd.underlying44 h; rw [Tryd.cellsCred] at hl; obtain ⟨y0, h0⟩ : ∃ y, DataW.trod enc Tryd.prog w base spare held n 26 ((cs.drop 0).take (Tryd.prog.cellsOf 26)) = some y := hf 0 _ rfl; obtain ⟨y1, h1⟩ : ∃ y, DataW.trod enc Tryd.prog w base spare held n 9 ((cs.drop 2).take (Tryd.prog.cellsOf 9)) = some y := hf 1 _ rfl; obtain ⟨y2, h2⟩ : ∃ y, DataW.trod enc Tryd.prog w base spare held n 3 ((cs.drop 3).take (Tryd.prog.cellsOf 3)) = some y := hf 2 _ rfl; obtain ⟨y3, h3⟩ : ∃ y, DataW.trod enc Tryd.prog w base spare held n 9 ((cs.drop 4).take (Tryd.prog.cellsOf 9)) = some y := hf 3 _ rfl; obtain ⟨y4, h4⟩ : ∃ y, DataW.trod enc Tryd.prog w base spare held n 24 ((cs.drop 5).take (Tryd.prog.cellsOf 24)) = some y := hf 4 _ rfl; obtain ⟨y5, h5⟩ : ∃ y, DataW.trod enc Tryd.prog w base spare held n 24 ((cs.drop 7).take (Tryd.prog.cellsOf 24)) = some y := hf 5 _ rfl; rw [Tryd.cellsID] at h0; rw [Tryd.cellsStr] at h1 h3; rw [Tryd.cellsInt] at h2; rw [Tryd.cellsRole] at h4 h5; obtain ⟨c0, c1, c2, c3, c4, c5, c6, c7, c8, rfl⟩ := list9 hl; obtain ⟨a, ka, _⟩ := opens_id _ _ _ _ _ _ _ _ _ h0
  obtain ⟨rfl, rfl⟩ : c0 = .int .i64 a.f0 ∧ c1 = .int .i64 a.f1 := by simpa using k26_open ka
  obtain ⟨s1, e1, _, z1⟩ := DataW.trod_string Tryd.underlying9 h1; obtain ⟨s2, e2, _, z2⟩ := DataW.trod_int Tryd.underlying3 h2; obtain ⟨s3, e3, _, z3⟩ := DataW.trod_string Tryd.underlying9 h3
  obtain rfl : c2 = .string s1 := by simpa using e1
  obtain rfl : c3 = .int .i64 s2 := by simpa using e2
  obtain rfl : c4 = .string s3 := by simpa using e3
  obtain ⟨r4, k4, z4⟩ := opens_role _ _ _ _ _ _ _ _ _ h4
  obtain ⟨rfl, rfl⟩ : c5 = .string r4.f0 ∧ c6 = .string r4.f1 := by simpa using k24_open k4
  obtain ⟨r5, k5, z5⟩ := opens_role _ _ _ _ _ _ _ _ _ h5
  obtain ⟨rfl, rfl⟩ : c7 = .string r5.f0 ∧ c8 = .string r5.f1 := by simpa using k24_open k5
  exact ⟨⟨a, s1, s2, s3, r4, r5⟩, k44_mk w ⟨a, s1, s2, s3, r4, r5⟩, z1, z3, z4, z5⟩
section
variable {H : Type} {enc : TypeId × Value → H} {P : Program} {w : World} {base : Nat} {spare : Nat → Bool} {held : Bool}
theorem field_less {t : TypeId} {fs : Array Field} {fuel : Nat} {cs : List Value} {x : DataW H × List MemPlace} (ht : P.underlying t = some (.struct fs)) (h : DataW.trod enc P w base spare held fuel t cs = some x) :
    cs.length = P.cellsOf t ∧ ∃ n, n < fuel ∧ ∀ (i : Nat) (f : Field), fs[i]? = some f → ∃ y, DataW.trod enc P w base spare held n f.type ((cs.drop f.offset).take (P.cellsOf f.type)) = some y := by
  obtain ⟨xs, n, e, _, hl, hx, hf⟩ := DataW.trod_struct ht h; refine ⟨hl, n, by omega, fun i f hi => ?_⟩; have hi' : i < fs.size := (Array.getElem?_eq_some_iff.mp hi).1; exact ⟨xs[i]'(by omega), (hf i f hi).trans (List.getElem?_eq_getElem (by omega))⟩
theorem open_less {α : Type} {d : Kd α} {Q : α → Prop} {t e : TypeId} {fuel : Nat} {cs : List Value} {x : DataW H × List MemPlace} (ht : P.underlying t = some (.slice e)) (hc : P.cellsOf e = d.sz)
    (ho : ∀ n, n < fuel → ∀ (cs : List Value) (x : DataW H × List MemPlace), DataW.trod enc P w base spare held n e cs = some x → ∃ a, d.K w a cs ∧ Q a)
    (h : DataW.trod enc P w base spare held fuel t cs = some x) : ∃ (a : Option Addr) (cap : Nat) (xs : List α), cs = [.slice a xs.length cap] ∧ d.C w a xs.length xs ∧ xs.length ≤ cap ∧ ∀ y ∈ xs, Q y := by
  rcases DataW.trod_slice ht h with ⟨rfl, _⟩ | ⟨a', len', cap', elems, rest, n, en, rfl, _, hb, hl, hm, hlen, hel, _, _⟩
  · exact ⟨none, 0, [], rfl, ⟨rfl, Nat.zero_le _, fun h => absurd h (Nat.lt_irrefl _)⟩, Nat.le_refl _, fun y hy => by cases hy⟩
  · obtain ⟨xs, hxl, hx⟩ := list_of (R := fun i y => ∃ cs, w.cells? base (a'.add (i * P.cellsOf e)) (P.cellsOf e) = some cs ∧ d.K w y cs ∧ Q y) len' (fun i hi => by
      have h1 := hel i hi; rw [List.getElem?_eq_getElem (by omega)] at h1; obtain ⟨cs, hcs, hy⟩ := Option.bind_eq_some_iff.mp h1; obtain ⟨y, hk, hq⟩ := ho n (by omega) _ _ hy
      exact ⟨y, cs, hcs, hk, hq⟩)
    refine ⟨some a', cap', xs, by rw [hxl], ⟨rfl, ?_, fun _ => ⟨a', rfl, fun j p hj => ?_⟩⟩, by omega, fun y hy => ?_⟩
    · have : maxLen = 9223372036854775807 := by decide
      omega
    · obtain ⟨cs, h1, h2, _⟩ := hx j p hj
      obtain ⟨hl1, hl2⟩ := cells_at h1; refine ⟨cs, by omega, h2, fun i u hu => ?_⟩; rw [← hc, ← Addr.add_add]; exact hl2 i u hu
    · obtain ⟨i, hi, e⟩ := List.getElem_of_mem hy
      obtain ⟨_, _, _, hq⟩ := hx i y (by rw [List.getElem?_eq_getElem hi, e]); exact hq
end
theorem opens_okid : Opens Tryd.prog 26 k26 okID := by
  intro H enc w base spare held fuel cs x h; obtain ⟨hl, n, hf⟩ := field_at Tryd.underlying26 h; rw [Tryd.cellsID] at hl; obtain ⟨y0, h0⟩ : ∃ y, DataW.trod enc Tryd.prog w base spare held n 3 ((cs.drop 0).take (Tryd.prog.cellsOf 3)) = some y := hf 0 _ rfl; obtain ⟨y1, h1⟩ : ∃ y, DataW.trod enc Tryd.prog w base spare held n 3 ((cs.drop 1).take (Tryd.prog.cellsOf 3)) = some y := hf 1 _ rfl; rw [Tryd.cellsInt] at h0 h1; obtain ⟨c0, c1, rfl⟩ := list2 hl; obtain ⟨s0, e0, _, z0⟩ := DataW.trod_int Tryd.underlying3 h0; obtain ⟨s1, e1, _, z1⟩ := DataW.trod_int Tryd.underlying3 h1
  obtain rfl : c0 = .int .i64 s0 := by simpa using e0
  obtain rfl : c1 = .int .i64 s1 := by simpa using e1
  exact ⟨⟨s0, s1⟩, k26_mk w ⟨s0, s1⟩, z0, z1⟩
theorem list6 {α : Type} : ∀ {l : List α}, l.length = 6 → ∃ a b c d e f, l = [a, b, c, d, e, f]
  | [a, b, c, d, e, f], _ => ⟨a, b, c, d, e, f, rfl⟩
theorem Tryd.cellsProof : Tryd.prog.cellsOf 29 = 6 := by kernel_rfl
theorem Tryd.cellsProofs : Tryd.prog.cellsOf 27 = 1 := by kernel_rfl
theorem okTreeL : ∀ {ps : List Proof}, (∀ q ∈ ps, okTree q) → ∀ j ∈ idsL ps, okID j
  | [], _, j, hj => by rw [idsL_nil] at hj; cases hj
  | q :: ps, h, j, hj => by
    rw [idsL_cons, List.mem_append] at hj
    rcases hj with hj | hj
    · exact h q (List.mem_cons_self ..) j hj
    · exact okTreeL (fun q hq => h q (List.mem_cons_of_mem _ hq)) j hj
theorem okTree_mk {r : Role} {u : ByteArray} {i : ID} {ps : List Proof} (hi : okID i) (h : ∀ q ∈ ps, okTree q) : okTree ⟨r, u, i, ps⟩ := by
  intro j hj; rw [ids_eq] at hj
  rcases List.mem_cons.mp hj with rfl | hj
  · exact hi
  · exact okTreeL h j hj
theorem opens_proof : Opens Tryd.prog 29 k29 okTree := by
  intro H enc w base spare held fuel
  have key : ∀ m n, n ≤ m → ∀ (cs : List Value) (x : DataW H × List MemPlace), DataW.trod enc Tryd.prog w base spare held n 29 cs = some x → ∃ a, k29.K w a cs ∧ okTree a := by
    intro m
    induction m with
    | zero =>
      intro n hn cs x h; obtain ⟨_, m', hm, _⟩ := field_less Tryd.underlying29 h; omega
    | succ m ih =>
      intro n0 hn cs x h; obtain ⟨hl, n, hnl, hf⟩ := field_less Tryd.underlying29 h; rw [Tryd.cellsProof] at hl; obtain ⟨y0, h0⟩ : ∃ y, DataW.trod enc Tryd.prog w base spare held n 24 ((cs.drop 0).take (Tryd.prog.cellsOf 24)) = some y := hf 0 _ rfl; obtain ⟨y1, h1⟩ : ∃ y, DataW.trod enc Tryd.prog w base spare held n 9 ((cs.drop 2).take (Tryd.prog.cellsOf 9)) = some y := hf 1 _ rfl; obtain ⟨y2, h2⟩ : ∃ y, DataW.trod enc Tryd.prog w base spare held n 26 ((cs.drop 3).take (Tryd.prog.cellsOf 26)) = some y := hf 2 _ rfl; obtain ⟨y3, h3⟩ : ∃ y, DataW.trod enc Tryd.prog w base spare held n 27 ((cs.drop 5).take (Tryd.prog.cellsOf 27)) = some y := hf 3 _ rfl; rw [Tryd.cellsRole] at h0; rw [Tryd.cellsStr] at h1; rw [Tryd.cellsID] at h2; rw [Tryd.cellsProofs] at h3; obtain ⟨c0, c1, c2, c3, c4, c5, rfl⟩ := list6 hl; obtain ⟨r0, k0, _⟩ := opens_role _ _ _ _ _ _ _ _ _ h0
      obtain ⟨rfl, rfl⟩ : c0 = .string r0.f0 ∧ c1 = .string r0.f1 := by simpa using k24_open k0
      obtain ⟨s1, e1, _, z1⟩ := DataW.trod_string Tryd.underlying9 h1
      obtain rfl : c2 = .string s1 := by simpa using e1
      obtain ⟨i2, k2, z2⟩ := opens_okid _ _ _ _ _ _ _ _ _ h2
      obtain ⟨rfl, rfl⟩ : c3 = .int .i64 i2.f0 ∧ c4 = .int .i64 i2.f1 := by simpa using k26_open k2
      obtain ⟨a, cap, ps, e3, hC, hcap, hq⟩ := open_less (d := k29) Tryd.underlying27 (Tryd.cellsProof.trans rfl) (fun m' hm' cs x h => ih m' (by omega) cs x h) h3
      obtain rfl : c5 = .slice a ps.length cap := by simpa using e3
      exact ⟨⟨r0, s1, i2, ps⟩, k29_mk w ⟨r0, s1, i2, ps⟩ hcap hC, okTree_mk z2 hq⟩
  exact fun cs x h => key fuel fuel (Nat.le_refl _) cs x h
end Go.Proofs.YtmaipohgahdclaaDoor.Pr
end
section
namespace Go.Proofs.YtmaipohgahdclaaDoor.Pr
open Go.RowKit Go.Proofs.YtmaipohgahdclaaDoorW.PrintWords Go.Proofs.YtmaipohgahdclaaDoorW.PrintLast Go.Proofs.YtmaipohgahdclaaDoorW.PrintMore
def sameID (a b : Cred) : Bool := decide (a.f0.f0 = b.f0.f0) && decide (a.f0.f1 = b.f0.f1)
theorem sameID_iff {a b : Cred} : sameID a b = true ↔ a.f0.f0 = b.f0.f0 ∧ a.f0.f1 = b.f0.f1 := by
  unfold sameID; rw [Bool.and_eq_true, decide_eq_true_eq, decide_eq_true_eq]
def credLess (a b : Cred) : Prop := a.f0.f0 < b.f0.f0 ∨ (a.f0.f0 = b.f0.f0 ∧ a.f0.f1 < b.f0.f1)
theorem credLess_irrefl (a : Cred) : ¬ credLess a a := by unfold credLess; omega
theorem credLess_trans (a b c : Cred) (h : credLess a b) (h' : credLess b c) : credLess a c := by unfold credLess at *; omega
def First (l : List Cred) (c : Cred) : Prop := l.find? (fun d => credMay d && sameID d c) = some c
structure Counts (l R : List Cred) : Prop where
  sorted : R.Pairwise credLess
  mem : ∀ c, c ∈ R ↔ First l c
theorem Counts.unique {l R R' : List Cred} (h : Counts l R) (h' : Counts l R') : R = R' :=
  sorted_eq credLess_irrefl credLess_trans h.sorted h'.sorted (fun c => (h.mem c).trans (h'.mem c).symm)
theorem First.may {l : List Cred} {c : Cred} (h : First l c) : credMay c = true := by
  have := List.find?_some h; rw [Bool.and_eq_true] at this; exact this.1
theorem First.mem {l : List Cred} {c : Cred} (h : First l c) : c ∈ l := List.mem_of_find?_eq_some h
def firsts (out : List Cred) : List Cred → List Cred
  | [] => out
  | c :: l => if credMay c && !(out.any fun d => sameID d c) then firsts (out ++ [c]) l else firsts out l
theorem firsts_mem (c : Cred) : ∀ (l out : List Cred), c ∈ firsts out l ↔ c ∈ out ∨ ((∀ d ∈ out, sameID d c = false) ∧ First l c)
  | [], out => by
    rw [firsts]; unfold First; simp
  | x :: l, out => by
    rw [firsts]; unfold First; rw [List.find?_cons]
    by_cases h : (credMay x && !(out.any fun d => sameID d x)) = true
    · rw [if_pos h, firsts_mem c l (out ++ [x])]
      rw [Bool.and_eq_true, Bool.not_eq_true', List.any_eq_false] at h
      by_cases hx : sameID x c = true
      · rw [h.1, hx]
        simp only [Bool.and_self, Option.some.injEq, List.mem_append, List.mem_singleton]; constructor
        · rintro ((h1 | h1) | ⟨h1, _⟩)
          · exact .inl h1
          · exact .inr ⟨fun d hd => by rw [h1]; simpa using h.2 d hd, h1.symm⟩
          · have := h1 x (by simp)
            rw [hx] at this; cases this
        · rintro (h1 | ⟨_, h1⟩)
          · exact .inl (.inl h1)
          · exact .inl (.inr h1.symm)
      · rw [Bool.not_eq_true] at hx
        rw [hx, Bool.and_false]; simp only [List.mem_append, List.mem_singleton]; unfold First; constructor
        · rintro ((h1 | h1) | ⟨h1, h2⟩)
          · exact .inl h1
          · subst h1
            rw [Bool.eq_false_iff] at hx; exact absurd (sameID_iff.mpr ⟨rfl, rfl⟩) hx
          · exact .inr ⟨fun d hd => h1 d (.inl hd), h2⟩
        · rintro (h1 | ⟨h1, h2⟩)
          · exact .inl (.inl h1)
          · refine .inr ⟨fun d hd => ?_, h2⟩
            rcases hd with hd | hd
            · exact h1 d hd
            · rw [hd]; exact hx
    · rw [if_neg h, firsts_mem c l out]
      by_cases hx : sameID x c = true
      · by_cases hm : credMay x = true
        · have hany : (out.any fun d => sameID d x) = true := by
            rw [hm, Bool.true_and] at h
            simpa using h
          obtain ⟨d, hd, hdx⟩ := List.any_eq_true.mp hany
          have hdc : sameID d c = true := by
            rw [sameID_iff] at *; omega
          have no : ∀ P : Prop, ¬ ((∀ d ∈ out, sameID d c = false) ∧ P) := fun P hP => by
            have := hP.1 d hd; rw [hdc] at this; cases this
          simp only [no]
        · rw [Bool.not_eq_true] at hm
          rw [hm, Bool.false_and]; rfl
      · rw [Bool.not_eq_true] at hx
        rw [hx, Bool.and_false]; rfl
theorem firsts_apart : ∀ (l out : List Cred), out.Pairwise (fun a b => sameID a b = false) → (firsts out l).Pairwise (fun a b => sameID a b = false)
  | [], out, h => h
  | x :: l, out, h => by
    rw [firsts]
    split
    · rename_i hc
      rw [Bool.and_eq_true, Bool.not_eq_true', List.any_eq_false] at hc; refine firsts_apart l _ ?_; rw [List.pairwise_append]; exact ⟨h, List.pairwise_singleton _ _, fun a ha b hb => by rw [List.mem_singleton.mp hb]; simpa using hc.2 a ha⟩
    · exact firsts_apart l out h
theorem firsts_sorted : ∀ (l out : List Cred), out.Pairwise credLess → (∀ d ∈ out, ∀ c ∈ l, ¬ credLess c d) → l.Pairwise (fun x y => ¬ credLess y x) → (firsts out l).Pairwise credLess
  | [], out, h, _, _ => h
  | x :: l, out, h, hol, hl => by
    rw [firsts]; rw [List.pairwise_cons] at hl
    split
    · rename_i hc
      rw [Bool.and_eq_true, Bool.not_eq_true', List.any_eq_false] at hc; refine firsts_sorted l _ ?_ ?_ hl.2
      · rw [List.pairwise_append]
        refine ⟨h, List.pairwise_singleton _ _, fun a ha b hb => ?_⟩; rw [List.mem_singleton.mp hb]; have h1 := hol a ha x (List.mem_cons_self ..); have h2 := hc.2 a ha; rw [sameID_iff] at h2; unfold credLess at *; omega
      · intro d hd c hcl
        rcases List.mem_append.mp hd with h1 | h1
        · exact hol d h1 c (List.mem_cons_of_mem _ hcl)
        · rw [List.mem_singleton.mp h1]
          exact hl.1 c hcl
    · exact firsts_sorted l out h (fun d hd c hcl => hol d hd c (List.mem_cons_of_mem _ hcl)) hl.2
theorem sortCreds_filter (q : Cred → Bool) (hq : ∀ x y, q x = true → q y = true → sameID x y = true) (l : List Cred) : (sortCreds l).filter q = l.filter q := by
  refine insertion_filter _ q (fun x y h hx hy => ?_) l; have := hq x y hx hy; rw [credCmp_lt] at h; rw [sameID_iff] at this; omega
theorem sortCreds_sorted (l : List Cred) : (sortCreds l).Pairwise (fun x y => ¬ credLess y x) := by
  refine (insertion_sorted _ credSWO l).imp fun {a b} h => ?_
  rw [Bool.eq_false_iff, Ne, credCmp_lt] at h; exact h
theorem find_filter {α : Type} (p : α → Bool) (l : List α) : l.find? p = (l.filter p).head? := by
  rw [List.head?_filter]
theorem sortCreds_first (l : List Cred) (c : Cred) : First (sortCreds l) c ↔ First l c := by
  unfold First; rw [find_filter, find_filter]
  have e : ∀ m : List Cred, m.filter (fun d => credMay d && sameID d c) = (m.filter (fun d => sameID d c)).filter credMay := fun m => by rw [List.filter_filter]
  rw [e, e, sortCreds_filter _ (fun x y hx hy => by rw [sameID_iff] at *; omega)]
theorem prog_counts (l : List Cred) : Counts l (firsts [] (sortCreds l)) where
  sorted := firsts_sorted _ _ List.Pairwise.nil (fun d hd => by cases hd) (sortCreds_sorted l)
  mem c := by
    rw [firsts_mem, sortCreds_first]; simp
theorem firsts_length : ∀ (l out : List Cred), (firsts out l).length ≤ out.length + l.length
  | [], out => by rw [firsts]; simp
  | x :: l, out => by
    rw [firsts]
    split
    · have := firsts_length l (out ++ [x])
      simp at *; omega
    · have := firsts_length l out
      simp; omega
theorem numName_nonneg (s : ByteArray) : 0 ≤ numName s := by
  rcases numName_spec s with ⟨m, _, _, _, _⟩ | ⟨_, _⟩ <;> omega
theorem refRole_is (r : Role) (k : Nat) (hk : 10 ≤ k) : liveryref04_Role.f k r.f0 r.f1 = some (roleOk r) := by
  obtain ⟨j, rfl⟩ : ∃ j, k = j + 2 := ⟨k - 2, by omega⟩
  unfold liveryref04_Role.f roleOk; rw [refMay_is _ _ hk, Option.bind_some]; have := numName_nonneg r.f0; cases mayName r.f1
  · simp
  · rw [if_pos rfl, refNumber_is, Option.bind_some]
    by_cases e : numName r.f0 = 0
    · rw [e]; rfl
    · rw [decide_eq_true (show numName r.f0 > 0 by omega), bne_iff_ne.mpr e]
      rfl
theorem refBare_is (r : Role) (k : Nat) (hk : 10 ≤ k) : liveryref05_bare.f k r.f0 r.f1 = some (bareOk r) := by
  unfold liveryref05_bare.f bareOk noText; rw [refMay_is _ _ hk, Option.bind_some]; cases mayName r.f1
  · simp
  · simp
theorem refCredMay_is (c : Cred) (k : Nat) (hk : 12 ≤ k) : Qav.f k c.f0.f0 c.f0.f1 c.f1 c.f2 c.f3 c.f4.f0 c.f4.f1 c.f5.f0 c.f5.f1 = some (credMay c) := by
  obtain ⟨k, rfl⟩ : ∃ j, k = j + 1 := ⟨k - 1, by omega⟩
  unfold Qav.f credMay; rw [refMay_is _ _ (by omega), refMay_is _ _ (by omega), refRole_is c.f4 _ (by omega), refRole_is c.f5 _ (by omega)]; simp only [Option.bind_some]
  have jt : ∀ a b d, Qav.j0 (k + 1) a b d true c.f0.f0 c.f0.f1 c.f1 c.f2 c.f3 c.f4.f0 c.f4.f1 c.f5.f0 c.f5.f1 = some false := fun a b d => by rw [Qav.j0, if_pos rfl]
  by_cases d1 : c.f0.f0 < 1
  · rw [if_pos d1, jt, decide_eq_false (p := 1 ≤ c.f0.f0 ∧ c.f0.f0 ≤ 16) (by omega)]; rfl
  rw [if_neg d1]
  by_cases d2 : c.f0.f0 > 16
  · rw [if_pos d2, jt, decide_eq_false (p := 1 ≤ c.f0.f0 ∧ c.f0.f0 ≤ 16) (by omega)]; rfl
  rw [if_neg d2, decide_eq_true (p := 1 ≤ c.f0.f0 ∧ c.f0.f0 ≤ 16) (by omega)]
  by_cases s1 : c.f0.f1 < 1
  · rw [if_pos s1, jt, decide_eq_false (p := 1 ≤ c.f0.f1 ∧ c.f0.f1 ≤ 4000) (by omega)]; rfl
  rw [if_neg s1]
  by_cases s2 : c.f0.f1 > 4000
  · rw [if_pos s2, jt, decide_eq_false (p := 1 ≤ c.f0.f1 ∧ c.f0.f1 ≤ 4000) (by omega)]; rfl
  rw [if_neg s2, decide_eq_true (p := 1 ≤ c.f0.f1 ∧ c.f0.f1 ≤ 4000) (by omega)]; cases mayName c.f1
  · exact jt _ _ _
  show Qav.j0 (k + 1) _ _ _ false _ _ _ _ _ _ _ _ _ = _
  rw [Qav.j0, if_neg (by decide)]
  by_cases k1 : c.f2 = 1
  · rw [if_pos k1, if_pos k1]
    show (if mayName c.f3 = true then if noRole c.f4 = true then some (noRole c.f5) else some false else some false) = _
    cases mayName c.f3 <;> cases noRole c.f4 <;> simp
  rw [if_neg k1, if_neg k1]
  by_cases w : c.f3.toList = []
  · have wt : noText c.f3 = true := by unfold noText; rw [w]; rfl
    rw [if_pos w, wt]
    by_cases k2 : c.f2 = 2
    · rw [if_pos k2, if_pos k2]
      show (if roleOk c.f4 = true then some (noRole c.f5) else some false) = _
      cases roleOk c.f4 <;> simp
    rw [if_neg k2, if_neg k2]
    by_cases k3 : c.f2 = 3
    · rw [if_pos k3, if_pos k3, refBare_is c.f4 k (by omega), refBare_is c.f5 k (by omega), Option.bind_some, Option.bind_some]
      cases bareOk c.f4 <;> cases bareOk c.f5 <;> simp
    rw [if_neg k3, if_neg k3]
    by_cases k4 : c.f2 = 4
    · rw [if_pos k4, if_pos k4]
      cases roleOk c.f4 <;> cases roleOk c.f5 <;> simp
    · rw [if_neg k4, if_neg k4]; rfl
  · have wt : noText c.f3 = false := by unfold noText; exact beq_eq_false_iff_ne.mpr w
    rw [if_neg w, wt]; simp only [Bool.and_false]
    by_cases k2 : c.f2 = 2
    · rw [if_pos k2]; rfl
    rw [if_neg k2]
    by_cases k3 : c.f2 = 3
    · rw [if_pos k3]; rfl
    rw [if_neg k3]
    by_cases k4 : c.f2 = 4
    · rw [if_pos k4]; rfl
    · rw [if_neg k4]; rfl
theorem wrap_succ {i : Nat} (h : i < 1000000000000) : wrap64 ((i : Int) + 1) = ((i + 1 : Nat) : Int) := by unfold wrap64; omega
theorem rdCred (l : List Cred) (i : Nat) : Qaj l (i : Int) = l[i]! := by
  unfold Qaj; rw [Int.toNat_natCast, List.getElem!_eq_getElem?_getD, List.getD_eq_getElem?_getD]; rfl
theorem getBang {α : Type} [Inhabited α] {l : List α} {i : Nat} (h : i < l.length) : l[i]! = l[i] := getElem!_pos l i h
theorem drop_bang {α : Type} [Inhabited α] {l : List α} {i : Nat} (h : i < l.length) : l.drop i = l[i]! :: l.drop (i + 1) := by
  rw [getBang h]; exact List.drop_eq_getElem_cons h
theorem last_same {ini : List Cred} {z c : Cred} (hs : (ini ++ [z]).Pairwise credLess) (hc : ∀ d ∈ ini ++ [z], ¬ credLess c d) : ((ini ++ [z]).any fun d => sameID d c) = sameID z c := by
  rw [List.any_append]
  have h0 : (ini.any fun d => sameID d c) = false := by
    rw [List.any_eq_false]; intro d hd h; rw [List.pairwise_append] at hs; have h1 := hs.2.2 d hd z (by simp); have h2 := hc z (by simp); rw [sameID_iff] at h; unfold credLess at *; omega
  rw [h0]; simp
theorem progCounts_loop : ∀ (S out : List Cred), (∀ c ∈ S, okCred c) → S.Pairwise (fun x y => ¬ credLess y x) → out.Pairwise credLess → (∀ d ∈ out, ∀ c ∈ S, ¬ credLess c d) → countsF S out = some (firsts out S)
  | [], out, _, _, _, _ => by rw [countsF, firsts]
  | c :: S, out, hok, hpw, hs, hd => by
    have hmay := credMay_is c (hok c (List.mem_cons_self ..)); rw [List.pairwise_cons] at hpw
    have rest := fun (out' : List Cred) h2 h3 => progCounts_loop S out' (fun x hx => hok x (List.mem_cons_of_mem _ hx)) hpw.2 h2 h3
    have grown : ∀ (h : out.any (fun d => sameID d c) = false), countsF S (out ++ [c]) = some (firsts (out ++ [c]) S) := fun h => by
      rw [List.any_eq_false] at h; refine rest _ ?_ ?_
      · rw [List.pairwise_append]
        refine ⟨hs, List.pairwise_singleton _ _, fun a ha b hb => ?_⟩; rw [List.mem_singleton.mp hb]; have h1 := hd a ha c (List.mem_cons_self ..); have h2 := h a ha; rw [sameID_iff] at h2; unfold credLess at *; omega
      · intro d hdm x hx
        rcases List.mem_append.mp hdm with h1 | h1
        · exact hd d h1 x (List.mem_cons_of_mem _ hx)
        · rw [List.mem_singleton.mp h1]
          exact hpw.1 x hx
    have same : countsF S out = some (firsts out S) := rest out hs (fun d hdm x hx => hd d hdm x (List.mem_cons_of_mem _ hx)); rw [countsF, show mayOf c = some (credMay c) from hmay, Option.bind_some, firsts]
    by_cases m : credMay c = true
    · rw [if_pos m, m, Bool.true_and]
      rcases List.eq_nil_or_concat out with e | ⟨ini, z, e⟩
      · subst e
        rw [if_neg (by simp), if_pos (show (!(([] : List Cred).any fun d => sameID d c)) = true from rfl)]; exact grown rfl
      · rw [List.concat_eq_append] at e
        have hany : (out.any fun d => sameID d c) = sameID z c := by
          rw [e] at hs hd ⊢; exact last_same hs (fun d hdm => hd d hdm c (List.mem_cons_self ..))
        have hl : out.getLast?.map (·.f0) = some z.f0 := by rw [e, List.getLast?_concat]; rfl
        rw [hl, hany]; cases hb : sameID z c
        · rw [if_neg (fun h => by have := Option.some.inj h; rw [Bool.eq_false_iff, Ne, sameID_iff, this] at hb; exact hb ⟨rfl, rfl⟩), if_pos (show (!false) = true from rfl)]
          exact grown (hany.trans hb)
        · rw [if_pos (by obtain ⟨e0, e1⟩ := sameID_iff.mp hb; rw [id_ext e0 e1]), if_neg (show ¬ (!true) = true by decide)]
          exact same
    · rw [if_neg m]
      rw [Bool.not_eq_true] at m; rw [m, Bool.false_and]; exact same
theorem cred_ext {a b : Cred} (h0 : a.f0.f0 = b.f0.f0) (h0' : a.f0.f1 = b.f0.f1) (h1 : a.f1 = b.f1) (h2 : a.f2 = b.f2) (h3 : a.f3 = b.f3) (h4 : a.f4 = b.f4) (h5 : a.f5 = b.f5) : a = b := by
  obtain ⟨⟨_, _⟩, _, _, _, _, _⟩ := a; obtain ⟨⟨_, _⟩, _, _, _, _, _⟩ := b
  simp_all
instance credDec : DecidableEq Cred := fun a b => decidable_of_iff (a.f0.f0 = b.f0.f0 ∧ a.f0.f1 = b.f0.f1 ∧ a.f1 = b.f1 ∧ a.f2 = b.f2 ∧ a.f3 = b.f3 ∧ a.f4 = b.f4 ∧ a.f5 = b.f5)
  ⟨fun h => cred_ext h.1 h.2.1 h.2.2.1 h.2.2.2.1 h.2.2.2.2.1 h.2.2.2.2.2.1 h.2.2.2.2.2.2, fun h => by rw [h]; exact ⟨rfl, rfl, rfl, rfl, rfl, rfl, rfl⟩⟩
def counts (l : List Cred) : List Cred := firsts [] (sortCreds l)
theorem counts_spec (l : List Cred) : Counts l (counts l) := prog_counts l
theorem sortCreds_mem {l : List Cred} {c : Cred} : c ∈ sortCreds l ↔ c ∈ l := by
  have := sortCreds_filter (fun d => decide (d = c)) (fun x y hx hy => by
    rw [decide_eq_true_eq] at hx hy; rw [hx, hy]
    exact sameID_iff.mpr ⟨rfl, rfl⟩) l
  constructor
  · intro h
    have h1 : c ∈ (sortCreds l).filter (fun d => decide (d = c)) := List.mem_filter.mpr ⟨h, by simp⟩; rw [this] at h1; exact (List.mem_filter.mp h1).1
  · intro h
    have h1 : c ∈ l.filter (fun d => decide (d = c)) := List.mem_filter.mpr ⟨h, by simp⟩; rw [← this] at h1; exact (List.mem_filter.mp h1).1
theorem progCounts_is (l : List Cred) (hl : l.length < 21) (hok : ∀ c ∈ l, okCred c) : cred_Counts.f l = some (counts l) := by
  unfold cred_Counts.f cred_Sorted.f; have hlen := sortCreds_length l; rw [if_pos hl, Option.bind_some, if_pos (by omega)]; exact progCounts_loop (sortCreds l) [] (fun c hc => hok c (sortCreds_mem.mp hc)) (sortCreds_sorted l) List.Pairwise.nil (fun d hd => by cases hd)
def credLessB (a b : Cred) : Bool := if a.f0.f0 = b.f0.f0 then decide (a.f0.f1 < b.f0.f1) else decide (a.f0.f0 < b.f0.f0)
theorem credLessB_iff (a b : Cred) : credLessB a b = true ↔ credLess a b := by
  unfold credLessB credLess
  split <;> rw [decide_eq_true_eq] <;> omega
theorem before_is (a b : Cred) : liveryref05_Before.f a.f0.f0 a.f0.f1 b.f0.f0 b.f0.f1 = some (credLessB a b) := by
  unfold liveryref05_Before.f credLessB
  split <;> rfl
theorem refSorted_l1 (x : List Cred) (hx : x.length < 1000000) (out : List Cred) (ho : out.length < 1000000) (R : List Cred) : ∀ (n m i : Nat), n + i = x.length → m < x.length →
    Ev (fun k => Qat.l0 k (x.take (selLeast credLessB x n m i) ++ x.drop (selLeast credLessB x n m i + 1)) (out ++ [x[selLeast credLessB x n m i]!])) R → Ev (fun k => Qat.l1 k x out (m : Int) (i : Int)) R
  | 0, m, i, hn, hm, h => by
    rw [selLeast] at h; refine Ev.step (fun k => ?_) h; rw [Qat.l1, if_neg (by omega), if_pos (by omega), if_pos (by omega), if_pos (by omega), if_pos (by omega), Option.bind_some, if_pos (by simp; omega), Option.bind_some, wrap_succ (by omega), if_pos (by omega), if_pos (by omega), Option.bind_some, if_pos (by simp; omega), rdCred]; rfl
  | n + 1, m, i, hn, hm, h => by
    rw [selLeast] at h
    have e : ∀ k, Qat.l1 (k + 1) x out (m : Int) (i : Int) = Qat.l1 k x out ((if credLessB x[i]! x[m]! then i else m : Nat) : Int) ((i + 1 : Nat) : Int) := fun k => by
      rw [Qat.l1, if_pos (by omega), if_pos (by omega), if_pos (by omega), if_pos (by omega), rdCred, rdCred, before_is, Option.bind_some, wrap_succ (by omega)]
      cases credLessB x[i]! x[m]! <;> rfl
    exact Ev.step e (refSorted_l1 x hx out ho R n _ (i + 1) (by omega) (by split <;> omega) h)
theorem selLeast_lt {α : Type} [Inhabited α] (less : α → α → Bool) (l : List α) : ∀ (n m i : Nat), n + i = l.length → m < l.length → selLeast less l n m i < l.length
  | 0, m, i, hn, hm => hm
  | n + 1, m, i, hn, hm => by
    rw [selLeast]; exact selLeast_lt less l n _ _ (by omega) (by split <;> omega)
theorem refSorted_l0 : ∀ (n : Nat) (x out : List Cred), x.length ≤ n → x.length + out.length < 1000000 → Ev (fun k => Qat.l0 k x out) (selSort credLessB n x out)
  | 0, x, out, hn, hl => by
    rw [selSort]; refine Ev.step (fun k => ?_) (Ev.pure _); rw [Qat.l0, if_neg (by omega)]
  | n + 1, x, out, hn, hl => by
    rw [selSort]
    by_cases c : x.length > 0
    · rw [if_pos c]
      have hm := selLeast_lt credLessB x (x.length - 1) 0 1 (by omega) c; refine Ev.step (fun k => ?_) (refSorted_l1 x (by omega) out (by omega) _ (x.length - 1) 0 1 (by omega) c (refSorted_l0 n _ _ ?_ ?_))
      · rw [Qat.l0, if_pos (by omega)]
        rfl
      · simp
        omega
      · simp
        omega
    · rw [if_neg c]
      refine Ev.step (fun k => ?_) (Ev.pure _); rw [Qat.l0, if_neg (by omega)]
theorem refCounts_l1 (x : List Cred) (hx : x.length < 1000000) (out : List Cred) (ho : out.length < 1000000) (i : Nat) (hi : i < x.length) (b : Bool) (R : List Cred) : ∀ (n j : Nat) (h : Bool), n + j = out.length →
    Ev (fun k => Qap.l0 k x (if b && !(h || (out.drop j).any fun d => sameID d x[i]!) then out ++ [x[i]!] else out) ((i + 1 : Nat) : Int)) R → Ev (fun k => Qap.l1 k x out (i : Int) b h (j : Int)) R
  | 0, j, h, hn, hR => by
    rw [show out.drop j = [] from List.drop_eq_nil_of_le (by omega)] at hR; refine Ev.step (fun k => ?_) hR; rw [Qap.l1, if_neg (by omega), wrap_succ (by omega)]; cases b
    · rfl
    · cases h
      · rw [if_pos rfl, if_neg (by decide), if_pos (by omega), if_pos (by omega), if_pos (by omega), rdCred]
        rfl
      · rfl
  | n + 1, j, h, hn, hR => by
    rw [drop_bang (by omega : j < out.length), List.any_cons] at hR
    have e : ∀ k, Qap.l1 (k + 1) x out (i : Int) b h (j : Int) = Qap.l1 k x out (i : Int) b (h || sameID out[j]! x[i]!) ((j + 1 : Nat) : Int) := fun k => by
      rw [Qap.l1, if_pos (by omega), wrap_succ (by omega)]; cases h
      · rw [if_neg (by decide), if_pos (by omega), if_pos (by omega), if_pos (by omega), rdCred, rdCred]
        rfl
      · rfl
    refine Ev.step e (refCounts_l1 x hx out ho i hi b R n (j + 1) _ (by omega) ?_); rw [Bool.or_assoc]; exact hR
theorem refCounts_l0 (x : List Cred) (hx : x.length < 100000) : ∀ (n i : Nat) (out : List Cred), n + i = x.length → out.length ≤ i → Ev (fun k => Qap.l0 k x out (i : Int)) (selSort credLessB x.length (firsts out (x.drop i)) [])
  | 0, i, out, hn, ho => by
    rw [show x.drop i = [] from List.drop_eq_nil_of_le (by omega), firsts]; refine Ev.step (g := fun k => (Qat.f k out).bind fun t => some t) (fun k => ?_) (Ev.bind (a := selSort credLessB x.length out []) ?_ (Ev.pure _))
    · rw [Qap.l0, if_neg (by omega)]
    · exact refSorted_l0 _ out [] (by omega) (by simp; omega)
  | n + 1, i, out, hn, ho => by
    have hi : i < x.length := by omega
    rw [drop_bang hi, firsts]; refine Ev.step (g := fun k => (Qav.f k x[i]!.f0.f0 x[i]!.f0.f1 x[i]!.f1 x[i]!.f2 x[i]!.f3 x[i]!.f4.f0 x[i]!.f4.f1 x[i]!.f5.f0 x[i]!.f5.f1).bind fun t => Qap.l1 k x out (i : Int) t false 0) (fun k => ?_) (Ev.bind (.from 12 fun k hk => refCredMay_is _ k hk) (refCounts_l1 x (by omega) out (by omega) i hi _ _ out.length 0 false (by omega) ?_))
    · rw [Qap.l0, if_pos (by omega), if_pos (by omega), rdCred]
    · rw [List.drop_zero, Bool.false_or]
      split
      · exact refCounts_l0 x hx n (i + 1) _ (by omega) (by simp; omega)
      · exact refCounts_l0 x hx n (i + 1) _ (by omega) (by omega)
theorem refCounts_is (l : List Cred) (hl : l.length < 100000) : Ev (fun k => Qap.f k l) (counts l) := by
  have h := refCounts_l0 l hl l.length 0 [] (by omega) (by simp); rw [List.drop_zero] at h; have hlen := firsts_length l []; have hp := firsts_apart l [] List.Pairwise.nil
  obtain ⟨h1, h2⟩ := selSort_spec credLessB (fun x => by rw [Bool.eq_false_iff, Ne, credLessB_iff]; exact credLess_irrefl x) (fun x y z => by rw [credLessB_iff, credLessB_iff, credLessB_iff]; exact credLess_trans x y z) l.length (firsts [] l) [] (by simpa using hlen) (by
    rw [List.nil_append]
    refine hp.imp fun {a b} hab => ?_
    rw [credLessB_iff, credLessB_iff]; rw [Bool.eq_false_iff, Ne, sameID_iff] at hab; unfold credLess
    omega) List.Pairwise.nil (fun a ha => by cases ha)
  have e : selSort credLessB l.length (firsts [] l) [] = counts l := by
    refine Counts.unique (l := l) ⟨h1.imp fun {a b} hab => (credLessB_iff a b).mp hab, fun c => ?_⟩ (counts_spec l); rw [h2, firsts_mem]; simp
  rw [← e]; exact h
theorem counts_may {l : List Cred} {c : Cred} (h : c ∈ counts l) : credMay c = true := ((counts_spec l).mem c |>.mp h).may
theorem counts_length (l : List Cred) : (counts l).length ≤ l.length := by
  unfold counts; have := firsts_length (sortCreds l) []; have h2 := sortCreds_length l; simp at this; omega
mutual
def eqT : S29 → S29 → Bool
  | ⟨r, w, i, ps⟩, b => decide (r = b.f0) && (decide (w = b.f1) && (decide (i = b.f2) && eqTL ps b.f3))
def eqTL : List S29 → List S29 → Bool
  | [], [] => true
  | p :: ps, q :: qs => eqT p q && eqTL ps qs
  | [], _ :: _ => false
  | _ :: _, [] => false
end
theorem eqT_eq (a b : Proof) : eqT a b = (decide (a.f0 = b.f0) && (decide (a.f1 = b.f1) && (decide (a.f2 = b.f2) && eqTL a.f3 b.f3))) := by cases a; rw [eqT]
theorem eqTL_nil : eqTL [] [] = true := by rw [eqTL]
theorem eqTL_cons (p q : Proof) (ps qs : List Proof) : eqTL (p :: ps) (q :: qs) = (eqT p q && eqTL ps qs) := by rw [eqTL]
theorem eqTL_len : ∀ (ps qs : List Proof), ¬ ps.length = qs.length → eqTL ps qs = false
  | [], [], h => absurd rfl h
  | [], _ :: _, _ => by rw [eqTL]
  | _ :: _, [], _ => by rw [eqTL]
  | p :: ps, q :: qs, h => by rw [eqTL_cons, eqTL_len ps qs (fun e => h (by simp [e])), Bool.and_false]
theorem eqTL_refl : ∀ (ps : List Proof), (∀ q ∈ ps, eqT q q = true) → eqTL ps ps = true
  | [], _ => eqTL_nil
  | p :: ps, h => by rw [eqTL_cons, h p (List.mem_cons_self ..), eqTL_refl ps (fun q hq => h q (List.mem_cons_of_mem _ hq))]; rfl
theorem eqT_refl : ∀ p, eqT p p = true := treeInd fun p ih => by
  rw [eqT_eq, eqTL_refl p.f3 ih]; simp
theorem eqL_is (F : Proof → Proof → Option Bool) : ∀ (ps qs : List Proof), ps.length = qs.length → (∀ p ∈ ps, ∀ q, F p q = some (eqT p q)) → eqL F ps qs = some (eqTL ps qs)
  | [], [], _, _ => by rw [eqTL_nil]; rfl
  | [], _ :: _, h, _ => by cases h
  | _ :: _, [], h, _ => by cases h
  | p :: ps, q :: qs, h, hF => by
    rw [eqL, hF p (List.mem_cons_self ..), Option.bind_some, eqTL_cons, eqL_is F ps qs (by simpa using h) (fun p hp => hF p (List.mem_cons_of_mem _ hp))]
    cases eqT p q <;> rfl
theorem same_is : ∀ (k : Nat) (a b : Proof), dep a < k → cnt a < 1000000 → sameF k a b = some (eqT a b)
  | 0, a, b, h, _ => by omega
  | k + 1, a, b, h, hc => by
    have hp := parts_lt a; rw [sameF, if_pos (by omega), eqT_eq]
    by_cases e0 : a.f0 = b.f0
    · rw [if_pos e0, decide_eq_true e0]
      by_cases e1 : a.f1 = b.f1
      · rw [if_pos e1, decide_eq_true e1]
        by_cases e2 : a.f2 = b.f2
        · rw [if_pos e2, decide_eq_true e2]
          by_cases e3 : a.f3.length = b.f3.length
          · rw [if_pos e3, eqL_is (sameF k) a.f3 b.f3 e3 (fun p hp q => same_is k p q (by have := dep_mem hp; omega) (by have := cnt_mem hp; omega))]
            rfl
          · rw [if_neg e3, eqTL_len _ _ e3]
            rfl
        · rw [if_neg e2, decide_eq_false e2]
          rfl
      · rw [if_neg e1, decide_eq_false e1]
        rfl
    · rw [if_neg e0, decide_eq_false e0]
      rfl
def chkPart (F : Proof → Bool) (q : Proof) (role : Role) (who : ByteArray) : Bool := decide (q.f0 = role) && (decide (q.f1 = who) && F q)
def chkBy (F : Proof → Bool) (c : Cred) (p : Proof) : Bool :=
  if c.f2 = 1 then decide (c.f3 = p.f1) && decide (p.f3.length = 0)
  else if c.f2 = 3 then decide (p.f3.length = 2) && (decide (numName (pt p 0).f1 ≠ 0) && (chkPart F (pt p 0) (chkFirst c) (pt p 0).f1 && chkPart F (pt p 1) ⟨(pt p 0).f1, c.f5.f1⟩ p.f1))
  else if c.f2 = 4 then decide (p.f3.length = 2) && (chkPart F (pt p 0) c.f4 p.f1 && chkPart F (pt p 1) c.f5 p.f1)
  else decide (p.f3.length = 1) && chkPart F (pt p 0) c.f4 p.f1
def chk (cs : List Cred) : Nat → Proof → Bool
  | 0, _ => false
  | n + 1, p => match cs.find? (fun c => decide (c.f0 = p.f2)) with
    | none => false
    | some c => decide (credRole c = p.f0) && chkBy (chk cs n) c p
theorem pt_mem0 {p : Proof} (h : 0 < p.f3.length) : pt p 0 ∈ p.f3 := by
  have := rdP p.f3 0 h; unfold pt; rw [show ((0 : Nat) : Int) = 0 from rfl] at this; rw [this]; exact List.getElem_mem h
theorem pt_mem1 {p : Proof} (h : 1 < p.f3.length) : pt p 1 ∈ p.f3 := by
  have := rdP p.f3 1 h; unfold pt; rw [show ((1 : Nat) : Int) = 1 from rfl] at this; rw [this]; exact List.getElem_mem h
theorem partF_is {F : Proof → Option Bool} {G : Proof → Bool} {q : Proof} (h : F q = some (G q)) (role : Role) (who : ByteArray) : partF F q role who = some (chkPart G q role who) := by
  unfold partF chkPart
  by_cases e0 : q.f0 = role
  · rw [if_pos e0, decide_eq_true e0]
    by_cases e1 : q.f1 = who
    · rw [if_pos e1, decide_eq_true e1, h]
      rfl
    · rw [if_neg e1, decide_eq_false e1]
      rfl
  · rw [if_neg e0, decide_eq_false e0]
    rfl
theorem bindAnd (x y : Bool) (z : Option Bool) (h : z = some y) : ((some x).bind fun b => if b = true then z else some false) = some (x && y) := by
  rw [Option.bind_some, h]
  cases x <;> rfl
def Apart (cs : List Cred) : Prop := cs.Pairwise fun a b => a.f0 ≠ b.f0
theorem tput_new : ∀ (cs : List Cred) (T : List (ID × Cred)), Apart cs → (∀ y ∈ T, ∀ c ∈ cs, y.1 ≠ c.f0) → cs.foldl tputC T = T ++ cs.map fun c => (c.f0, c)
  | [], T, _, _ => by simp
  | c :: cs, T, h, hT => by
    have h' := List.pairwise_cons.mp h
    have h1 : tputC T c = T ++ [(c.f0, c)] := by
      unfold tputC; rw [if_neg]; intro e; obtain ⟨y, hy, e⟩ := List.any_eq_true.mp e; exact hT y hy c (List.mem_cons_self ..) (of_decide_eq_true e)
    rw [List.foldl_cons, h1, tput_new cs _ h'.2 (fun y hy d hd => ?_)]
    · simp
    · rcases List.mem_append.mp hy with hy | hy
      · exact hT y hy d (List.mem_cons_of_mem _ hd)
      · rw [List.mem_singleton] at hy
        subst hy; exact h'.1 d hd
theorem table_is {cs : List Cred} (h : Apart cs) : tableOf cs = cs.map fun c => (c.f0, c) := by
  unfold tableOf; rw [tput_new cs [] h (fun y hy => by cases hy), List.nil_append]
theorem find_is {cs : List Cred} (h : Apart cs) (i : ID) : tfind (tableOf cs) i = cs.find? fun c => decide (c.f0 = i) := by
  rw [table_is h]; unfold tfind
  induction cs with
  | nil => rfl
  | cons c cs ih =>
    rw [List.map_cons, List.find?_cons, List.find?_cons]; cases decide (c.f0 = i)
    · exact ih (List.pairwise_cons.mp h).2
    · rfl
theorem check_is {cs : List Cred} (ha : Apart cs) : ∀ (k : Nat) (p : Proof), dep p < k → okTree p → checkF (tableOf cs) k p = some (chk cs k p)
  | 0, p, h, _ => by omega
  | k + 1, p, h, ho => by
    have hq := fun q (hq : q ∈ p.f3) => check_is ha k q (by have := dep_mem hq; omega) (ho.mem hq)
    rw [checkF, if_pos (ho _ (self_ids p)), find_is ha, chk]
    cases hf : cs.find? fun c => decide (c.f0 = p.f2) with
    | none => rfl
    | some c =>
      simp only
      by_cases e : credRole c = p.f0
      · rw [if_pos e, decide_eq_true e, Bool.true_and]
        unfold chkBy
        by_cases k1 : c.f2 = 1
        · rw [if_pos k1, if_pos k1]
        · rw [if_neg k1, if_neg k1]
          by_cases k3 : c.f2 = 3
          · rw [if_pos k3, if_pos k3]
            unfold linkP
            by_cases hl : p.f3.length = 2
            · rw [if_pos hl, decide_eq_true hl, Bool.true_and, number_is _ 20 (by omega), Option.bind_some]
              by_cases hn : numName (pt p 0).f1 = 0
              · rw [if_pos hn, decide_eq_false (by simpa using hn), Bool.false_and]
              · rw [if_neg hn, decide_eq_true hn, Bool.true_and, partF_is (hq _ (pt_mem0 (by omega)))]
                exact bindAnd _ _ _ (partF_is (hq _ (pt_mem1 (by omega))) _ _)
            · rw [if_neg hl, decide_eq_false hl, Bool.false_and]
          · rw [if_neg k3, if_neg k3]
            by_cases k4 : c.f2 = 4
            · rw [if_pos k4, if_pos k4]
              unfold bothP
              by_cases hl : p.f3.length = 2
              · rw [if_pos hl, decide_eq_true hl, Bool.true_and, partF_is (hq _ (pt_mem0 (by omega)))]
                exact bindAnd _ _ _ (partF_is (hq _ (pt_mem1 (by omega))) _ _)
              · rw [if_neg hl, decide_eq_false hl, Bool.false_and]
            · rw [if_neg k4, if_neg k4]
              unfold includeP
              by_cases hl : p.f3.length = 1
              · rw [if_pos hl, decide_eq_true hl, Bool.true_and]
                exact partF_is (hq _ (pt_mem0 (by omega))) _ _
              · rw [if_neg hl, decide_eq_false hl, Bool.false_and]
      · rw [if_neg e, decide_eq_false e, Bool.false_and]
theorem few_is (l : List Cred) : QaW.f l = some (l.take 14) := by
  unfold QaW.f
  by_cases h : (l.length : Int) > 14
  · rw [if_pos h, if_pos (by omega)]
  · rw [if_neg h, List.take_of_length_le (by omega)]
theorem take_len (l : List Cred) : (l.take 14).length ≤ 14 := by simp; omega
theorem take_ok {l : List Cred} (h : ∀ c ∈ l, okCred c) : ∀ c ∈ l.take 14, okCred c := fun c hc => h c (List.mem_of_mem_take hc)
theorem small_ev (p : Proof) : Ev (fun k => QaJ.f k p.f0.f0 p.f0.f1 p.f1 p.f2.f0 p.f2.f1 p.f3) (decide (cnt p ≤ 60)) := by
  refine Ev.bind (few_ev p 60 (by omega)) ?_; have h := cnt_pos p
  rw [show decide (fewV (cnt p : Int) 60 > 0) = decide (cnt p ≤ 60) by
    unfold fewV
    by_cases e : cnt p ≤ 60
    · rw [if_pos (by omega), decide_eq_true e]
      exact decide_eq_true (by omega)
    · rw [if_neg (by omega), decide_eq_false e]
      exact decide_eq_false (by omega)]
  exact Ev.pure _
theorem counts_apart (l : List Cred) : Apart (counts l) := (counts_spec l).sorted.imp fun {a b} h e => by
  unfold credLess at h; rw [e] at h; omega
theorem okID_of {i : ID} (h0 : -9223372036854775808 ≤ i.f0 ∧ i.f0 ≤ 9223372036854775807) (h1 : -9223372036854775808 ≤ i.f1 ∧ i.f1 ≤ 9223372036854775807) : okID i := by
  have e1 : IntKind.i64.min = -9223372036854775808 := by decide
  have e2 : IntKind.i64.max = 9223372036854775807 := by decide
  constructor
  · show (decide (IntKind.i64.min ≤ i.f0) && decide (i.f0 ≤ IntKind.i64.max)) = true
    rw [e1, e2, decide_eq_true h0.1, decide_eq_true h0.2]; rfl
  · show (decide (IntKind.i64.min ≤ i.f1) && decide (i.f1 ≤ IntKind.i64.max)) = true
    rw [e1, e2, decide_eq_true h1.1, decide_eq_true h1.2]; rfl
theorem counts_good (l : List Cred) : goodIDs (counts l) := fun c h => by
  have := counts_may h; unfold credMay at this; simp only [Bool.and_eq_true, decide_eq_true_eq] at this; obtain ⟨⟨⟨h0, h1⟩, _⟩, _⟩ := this; exact okID_of (by omega) (by omega)
def errOf (b : Bool) : Int := if b = true then 0 else 15
theorem progCheck_is (l : List Cred) (p : Proof) (hl : l.length < 21) (hok : ∀ c ∈ l, okCred c) (hd : dep p < 200) (ho : okTree p) : Qax.f l p.f0.f0 p.f0.f1 p.f1 p.f2.f0 p.f2.f1 p.f3 = some (errOf (chk (counts l) 200 p)) := by
  have h1 := counts_length l; unfold Qax.f; rw [progCounts_is l hl hok, Option.bind_some, if_pos ⟨by omega, counts_good l⟩]; rw [show (⟨⟨p.f0.f0, p.f0.f1⟩, p.f1, ⟨p.f2.f0, p.f2.f1⟩, p.f3⟩ : Proof) = p by cases p; rfl, check_is (counts_apart l) 200 p hd ho]; rfl
theorem progSupport_is (p : Proof) (hd : dep p < 200) (ho : okTree p) (hc : cnt p ≤ 1000) : QaR.f p.f0.f0 p.f0.f1 p.f1 p.f2.f0 p.f2.f1 p.f3 = some (support p) := by
  unfold QaR.f; rw [show (⟨⟨p.f0.f0, p.f0.f1⟩, p.f1, ⟨p.f2.f0, p.f2.f1⟩, p.f3⟩ : Proof) = p by cases p; rfl, gather_is 200 p hd ho [] (by simp; omega), Option.bind_some]; have := fold_length (ids p) []; have h2 : (ids p).length = cnt p := rfl; simp at this; rw [if_pos (by omega)]; rfl
theorem progSame_is (a b : Proof) (hd : dep a < 200) (hc : cnt a < 1000000) : proof_Same.f a.f0.f0 a.f0.f1 a.f1 a.f2.f0 a.f2.f1 a.f3 b.f0.f0 b.f0.f1 b.f1 b.f2.f0 b.f2.f1 b.f3 = some (eqT a b) := by
  unfold proof_Same.f; rw [show (⟨⟨a.f0.f0, a.f0.f1⟩, a.f1, ⟨a.f2.f0, a.f2.f1⟩, a.f3⟩ : Proof) = a by cases a; rfl, show (⟨⟨b.f0.f0, b.f0.f1⟩, b.f1, ⟨b.f2.f0, b.f2.f1⟩, b.f3⟩ : Proof) = b by cases b; rfl]; exact same_is 200 a b hd hc
def exA : Cred := ⟨⟨1, 1⟩, ⟨#[97]⟩, 2, ⟨#[]⟩, ⟨⟨#[100, 50]⟩, ⟨#[98]⟩⟩, ⟨⟨#[]⟩, ⟨#[]⟩⟩⟩
def exB : Cred := ⟨⟨2, 1⟩, ⟨#[98]⟩, 1, ⟨#[97, 110, 110]⟩, ⟨⟨#[]⟩, ⟨#[]⟩⟩, ⟨⟨#[]⟩, ⟨#[]⟩⟩⟩
def exQ : Proof := ⟨⟨⟨#[100, 50]⟩, ⟨#[98]⟩⟩, ⟨#[97, 110, 110]⟩, ⟨2, 1⟩, []⟩
def exP : Proof := ⟨⟨⟨#[100, 49]⟩, ⟨#[97]⟩⟩, ⟨#[97, 110, 110]⟩, ⟨1, 1⟩, [exQ]⟩
def exR : Proof := ⟨⟨⟨#[100, 49]⟩, ⟨#[97]⟩⟩, ⟨#[97, 110, 110]⟩, ⟨1, 1⟩, []⟩
theorem noText_dec (s : ByteArray) : noText s = decide (s = ⟨#[]⟩) := by
  unfold noText; rw [Bool.eq_iff_iff, beq_iff_eq, empty_iff, decide_eq_true_eq]
theorem exA_may : credMay exA = true := by
  unfold credMay roleOk bareOk noRole; simp only [noText_dec]
  decide
theorem exB_may : credMay exB = true := by
  unfold credMay roleOk bareOk noRole; simp only [noText_dec]
  decide
theorem ex_counts : counts [exA, exB] = [exA, exB] := by
  refine (counts_spec [exA, exB]).unique ⟨?_, fun c => ?_⟩
  · rw [List.pairwise_cons]
    exact ⟨fun b hb => by rw [List.mem_singleton] at hb; subst hb; exact .inl (by decide), List.pairwise_singleton _ _⟩
  · constructor
    · intro h
      rcases List.mem_cons.mp h with rfl | h
      · unfold First
        rw [List.find?_cons, exA_may, show sameID exA exA = true by decide]; rfl
      · rw [List.mem_singleton] at h
        subst h; unfold First; rw [List.find?_cons, show sameID exA exB = false by decide, Bool.and_false, List.find?_cons, exB_may, show sameID exB exB = true by decide]; rfl
    · intro h
      exact h.mem
theorem exP_ids : ids exP = [⟨1, 1⟩, ⟨2, 1⟩] := by
  rw [ids_eq, show exP.f3 = [exQ] from rfl, idsL_cons, ids_eq, show exQ.f3 = [] from rfl, idsL_nil]; rfl
theorem exR_ids : ids exR = [⟨1, 1⟩] := by
  rw [ids_eq, show exR.f3 = [] from rfl, idsL_nil]; rfl
theorem exP_dep : dep exP = 1 := by
  rw [dep_eq, show exP.f3 = [exQ] from rfl, depL_cons, depL_nil, dep_eq, show exQ.f3 = [] from rfl, depL_nil]; rfl
theorem exR_dep : dep exR = 0 := by rw [dep_eq, show exR.f3 = [] from rfl, depL_nil]
theorem exP_cnt : cnt exP = 2 := by unfold cnt; rw [exP_ids]; rfl
theorem exP_ok : okTree exP := fun i hi => by
  rw [exP_ids] at hi
  rcases List.mem_cons.mp hi with rfl | hi
  · exact okID_of (by decide) (by decide)
  · rw [List.mem_singleton] at hi
    subst hi; exact okID_of (by decide) (by decide)
theorem exR_ok : okTree exR := fun i hi => by
  rw [exR_ids, List.mem_singleton] at hi; subst hi; exact okID_of (by decide) (by decide)
theorem exP_support : support exP = [⟨1, 1⟩, ⟨2, 1⟩] := by
  refine strict_unique (support_strict exP) ?_ (fun x => by rw [support_mem, exP_ids]); rw [List.pairwise_cons]; exact ⟨fun b hb => by rw [List.mem_singleton] at hb; subst hb; decide, List.pairwise_singleton _ _⟩
theorem exP_chk : chk [exA, exB] 200 exP = true := by decide +kernel
theorem exR_chk : chk [exA, exB] 200 exR = false := by decide +kernel
theorem exPP : eqT exP exP = true := eqT_refl _
theorem exPR : eqT exP exR = false := by
  rw [eqT_eq, show exP.f3 = [exQ] from rfl, show exR.f3 = [] from rfl, eqTL_len _ _ (by simp)]; simp
theorem ex_ok : ∀ c ∈ [exA, exB], okCred c := by
  intro c hc
  have : c = exA ∨ c = exB := by simpa using hc
  rcases this with rfl | rfl <;> exact ⟨by decide, by decide, ⟨by decide, by decide⟩, by decide, by decide⟩
theorem lives_ev : Ev (fun k => Qas.f k) true := by
  have h1 := progSupport_is exP (by rw [exP_dep]; omega) exP_ok (by rw [exP_cnt]; omega); have h2 := progCheck_is [exA, exB] exP (by decide) ex_ok (by rw [exP_dep]; omega) exP_ok; have h3 := progCheck_is [exA, exB] exR (by decide) ex_ok (by rw [exR_dep]; omega) exR_ok; have h4 := size_ev exP (by rw [exP_cnt]; omega); have h5 := progSame_is exP exP (by rw [exP_dep]; omega) (by rw [exP_cnt]; omega); have h6 := progSame_is exP exR (by rw [exP_dep]; omega) (by rw [exP_cnt]; omega); have h7 := within_ev exP 1 (by rw [exP_cnt]; omega) (by omega); have h8 := within_ev exP 0 (by rw [exP_cnt]; omega) (by omega); rw [exP_support] at h1; rw [ex_counts, exP_chk] at h2; rw [ex_counts, exR_chk] at h3; rw [exP_cnt] at h4; rw [exPP] at h5; rw [exPR] at h6; rw [exP_dep] at h7 h8; have g1 : QaR.f (⟨#[100, 49]⟩ : ByteArray) (⟨#[97]⟩ : ByteArray) (⟨#[97, 110, 110]⟩ : ByteArray) 1 1 [exQ] = some [⟨1, 1⟩, ⟨2, 1⟩] := h1; have g2 : Qax.f [exA, exB] (⟨#[100, 49]⟩ : ByteArray) (⟨#[97]⟩ : ByteArray) (⟨#[97, 110, 110]⟩ : ByteArray) 1 1 [exQ] = some 0 := h2; have g3 : Qax.f [exA, exB] (⟨#[100, 49]⟩ : ByteArray) (⟨#[97]⟩ : ByteArray) (⟨#[97, 110, 110]⟩ : ByteArray) 1 1 [] = some 15 := h3; have g5 : proof_Same.f (⟨#[100, 49]⟩ : ByteArray) (⟨#[97]⟩ : ByteArray) (⟨#[97, 110, 110]⟩ : ByteArray) 1 1 [exQ] (⟨#[100, 49]⟩ : ByteArray) (⟨#[97]⟩ : ByteArray) (⟨#[97, 110, 110]⟩ : ByteArray) 1 1 [exQ] = some true := h5; have g6 : proof_Same.f (⟨#[100, 49]⟩ : ByteArray) (⟨#[97]⟩ : ByteArray) (⟨#[97, 110, 110]⟩ : ByteArray) 1 1 [exQ] (⟨#[100, 49]⟩ : ByteArray) (⟨#[97]⟩ : ByteArray) (⟨#[97, 110, 110]⟩ : ByteArray) 1 1 [] = some false := h6
  unfold Qas.f; refine Ev.bind (Ev.pure [exA, exB]) (Ev.bind (Ev.pure [exQ]) ?_); simp only [g1, g2, g3, g5, g6, Option.bind_some]; exact Ev.bind h4 (Ev.bind h7 (Ev.bind h8 (Ev.pure _)))
theorem livesB : Ev (fun k => (Qas.f k).bind fun t => some t) true := Ev.bind lives_ev (Ev.pure _)
theorem chkPart_sub {F G : Proof → Bool} {q : Proof} {role : Role} {who : ByteArray} (h : chkPart F q role who = true) (hFG : F q = true → G q = true) : F q = true ∧ chkPart G q role who = true := by
  unfold chkPart at *; rw [Bool.and_eq_true, Bool.and_eq_true] at h; exact ⟨h.2.2, by rw [h.1, h.2.1, hFG h.2.2]; rfl⟩
theorem parts_one {p : Proof} (h : p.f3.length = 1) : ∀ q ∈ p.f3, q = pt p 0 := by
  intro q hq; obtain ⟨i, hi, rfl⟩ := List.getElem_of_mem hq; have := rdP p.f3 0 (by omega); unfold pt; rw [show ((0 : Nat) : Int) = 0 from rfl] at this; rw [this]
  congr
  omega
theorem parts_two {p : Proof} (h : p.f3.length = 2) : ∀ q ∈ p.f3, q = pt p 0 ∨ q = pt p 1 := by
  intro q hq; obtain ⟨i, hi, rfl⟩ := List.getElem_of_mem hq; have h0 := rdP p.f3 0 (by omega); have h1 := rdP p.f3 1 (by omega); rw [show ((0 : Nat) : Int) = 0 from rfl] at h0; rw [show ((1 : Nat) : Int) = 1 from rfl] at h1; unfold pt; rw [h0, h1]
  by_cases e : i = 0
  · subst e; exact .inl rfl
  · obtain rfl : i = 1 := by omega
    exact .inr rfl
theorem chkBy_sub {F G : Proof → Bool} {c : Cred} {p : Proof} (h : chkBy F c p = true) (hFG : ∀ q ∈ p.f3, F q = true → G q = true) : (∀ q ∈ p.f3, F q = true) ∧ chkBy G c p = true := by
  unfold chkBy at *
  by_cases k1 : c.f2 = 1
  · rw [if_pos k1] at h ⊢
    refine ⟨fun q hq => ?_, h⟩; rw [Bool.and_eq_true, decide_eq_true_eq, decide_eq_true_eq] at h; rw [List.eq_nil_of_length_eq_zero h.2] at hq; cases hq
  · rw [if_neg k1] at h ⊢
    by_cases k3 : c.f2 = 3
    · rw [if_pos k3] at h ⊢
      rw [Bool.and_eq_true, Bool.and_eq_true, Bool.and_eq_true, decide_eq_true_eq] at h; obtain ⟨hl, hn, ha, hb⟩ := h; have ha' := chkPart_sub ha (hFG _ (pt_mem0 (by omega))); have hb' := chkPart_sub hb (hFG _ (pt_mem1 (by omega))); refine ⟨fun q hq => ?_, by rw [decide_eq_true hl, hn, ha'.2, hb'.2]; rfl⟩
      rcases parts_two hl q hq with rfl | rfl
      · exact ha'.1
      · exact hb'.1
    · rw [if_neg k3] at h ⊢
      by_cases k4 : c.f2 = 4
      · rw [if_pos k4] at h ⊢
        rw [Bool.and_eq_true, Bool.and_eq_true, decide_eq_true_eq] at h; obtain ⟨hl, ha, hb⟩ := h; have ha' := chkPart_sub ha (hFG _ (pt_mem0 (by omega))); have hb' := chkPart_sub hb (hFG _ (pt_mem1 (by omega))); refine ⟨fun q hq => ?_, by rw [decide_eq_true hl, ha'.2, hb'.2]; rfl⟩
        rcases parts_two hl q hq with rfl | rfl
        · exact ha'.1
        · exact hb'.1
      · rw [if_neg k4] at h ⊢
        rw [Bool.and_eq_true, decide_eq_true_eq] at h; obtain ⟨hl, ha⟩ := h; have ha' := chkPart_sub ha (hFG _ (pt_mem0 (by omega))); refine ⟨fun q hq => ?_, by rw [decide_eq_true hl, ha'.2]; rfl⟩; rw [parts_one hl q hq]; exact ha'.1
theorem chk_some {cs : List Cred} {n : Nat} {p : Proof} (h : chk cs (n + 1) p = true) : ∃ c, cs.find? (fun c => decide (c.f0 = p.f2)) = some c ∧ credRole c = p.f0 ∧ chkBy (chk cs n) c p = true := by
  rw [chk] at h
  cases hf : cs.find? fun c => decide (c.f0 = p.f2) with
  | none => rw [hf] at h; cases h
  | some c =>
    rw [hf] at h; rw [Bool.and_eq_true, decide_eq_true_eq] at h; exact ⟨c, rfl, h.1, h.2⟩
theorem chk_mk {cs : List Cred} {n : Nat} {p : Proof} {c : Cred} (hf : cs.find? (fun c => decide (c.f0 = p.f2)) = some c) (hr : credRole c = p.f0) (hb : chkBy (chk cs n) c p = true) : chk cs (n + 1) p = true := by
  rw [chk, hf]
  show (decide (credRole c = p.f0) && _) = true
  rw [decide_eq_true hr, hb]; rfl
end Go.Proofs.YtmaipohgahdclaaDoor.Pr
end
section
namespace Go.Proofs.YtmaipohgahdclaaDoor.Pr
open Go.RowKit Go.Proofs.YtmaipohgahdclaaDoorW.PrintWords Go.Proofs.YtmaipohgahdclaaDoorW.PrintLast Go.Proofs.YtmaipohgahdclaaDoorW.PrintMore
set_option linter.unusedVariables false
theorem chk_more {cs cs' : List Cred} : ∀ (n : Nat) (p : Proof), (∀ i ∈ ids p, ∀ c, cs.find? (fun c => decide (c.f0 = i)) = some c → cs'.find? (fun c => decide (c.f0 = i)) = some c) → chk cs n p = true → chk cs' n p = true
  | 0, p, _, h => by rw [chk] at h; cases h
  | n + 1, p, hi, h => by
    obtain ⟨c, hf, hr, hb⟩ := chk_some h; exact chk_mk (hi _ (self_ids p) c hf) hr (chkBy_sub hb (fun q hq h => chk_more n q (fun i hm => hi i (mem_ids hq i hm)) h)).2
theorem idsL_mem : ∀ {ps : List Proof} {i : ID}, i ∈ idsL ps → ∃ q ∈ ps, i ∈ ids q
  | [], i, h => by rw [idsL_nil] at h; cases h
  | p :: ps, i, h => by
    rw [idsL_cons, List.mem_append] at h
    rcases h with h | h
    · exact ⟨p, List.mem_cons_self .., h⟩
    · obtain ⟨q, hq, hi⟩ := idsL_mem h
      exact ⟨q, List.mem_cons_of_mem _ hq, hi⟩
theorem chk_ids {cs : List Cred} : ∀ (n : Nat) (p : Proof), chk cs n p = true → ∀ i ∈ ids p, ∃ c ∈ cs, c.f0 = i
  | 0, p, h => by rw [chk] at h; cases h
  | n + 1, p, h => by
    obtain ⟨c, hf, hr, hb⟩ := chk_some h; intro i hi; rw [ids_eq] at hi
    rcases List.mem_cons.mp hi with rfl | hi
    · exact ⟨c, List.mem_of_find?_eq_some hf, of_decide_eq_true (List.find?_some (p := fun c : Cred => decide (c.f0 = p.f2)) hf)⟩
    · obtain ⟨q, hq, hi⟩ := idsL_mem hi
      exact chk_ids n q ((chkBy_sub hb (fun _ _ h => h)).1 q hq) i hi
theorem find_apart {cs : List Cred} (h : Apart cs) {c : Cred} (hc : c ∈ cs) : cs.find? (fun d => decide (d.f0 = c.f0)) = some c := by
  induction cs with
  | nil => cases hc
  | cons d cs ih =>
    have h' := List.pairwise_cons.mp h; rw [List.find?_cons]
    rcases List.mem_cons.mp hc with rfl | hc
    · rw [decide_eq_true rfl]
    · rw [decide_eq_false (h'.1 c hc)]
      exact ih h'.2 hc
theorem find_same {cs cs' : List Cred} (ha : Apart cs') {i : ID} (hs : ∀ c ∈ cs, c.f0 = i → c ∈ cs') {c : Cred} (h : cs.find? (fun c => decide (c.f0 = i)) = some c) : cs'.find? (fun c => decide (c.f0 = i)) = some c := by
  have e : c.f0 = i := of_decide_eq_true (List.find?_some (p := fun c : Cred => decide (c.f0 = i)) h); have := find_apart ha (hs c (List.mem_of_find?_eq_some h) e); rw [e] at this; exact this
theorem First.append {l m : List Cred} {c : Cred} (h : First l c) : First (l ++ m) c := by
  unfold First at *; rw [List.find?_append, h]; rfl
theorem counts_self {R : List Cred} (hs : R.Pairwise credLess) (hm : ∀ c ∈ R, credMay c = true) : counts R = R := by
  refine (counts_spec R).unique ⟨hs, fun c => ⟨fun hc => ?_, First.mem⟩⟩; unfold First
  induction R with
  | nil => cases hc
  | cons d R ih =>
    have h' := List.pairwise_cons.mp hs; rw [List.find?_cons]
    rcases List.mem_cons.mp hc with rfl | hc
    · rw [hm c (List.mem_cons_self ..), sameID_iff.mpr ⟨rfl, rfl⟩]
      rfl
    · have : sameID d c = false := by
        rw [Bool.eq_false_iff, Ne, sameID_iff]; have := h'.1 c hc; unfold credLess at this; omega
      rw [this, Bool.and_false]; exact ih h'.2 (fun c hc => hm c (List.mem_cons_of_mem _ hc)) hc
def aloneOf (l : List Cred) (s : List ID) : List Cred := (counts l).filter fun c => decide (c.f0 ∈ s)
theorem alone_counts (l : List Cred) (s : List ID) : counts (aloneOf l s) = aloneOf l s :=
  counts_self ((counts_spec l).sorted.filter _) fun c hc => counts_may (List.mem_filter.mp hc).1
theorem alone_chk {l : List Cred} {n : Nat} {p : Proof} (h : chk (counts l) n p = true) : chk (counts (aloneOf l (support p))) n p = true := by
  rw [alone_counts]; refine chk_more n p (fun i hi c hf => find_same ((counts_apart l).filter _) (fun d hd e => ?_) hf) h; rw [List.mem_filter]; exact ⟨hd, decide_eq_true (by rw [support_mem, e]; exact hi)⟩
theorem both_chk {l m : List Cred} {n : Nat} {p : Proof} (h : chk (counts l) n p = true) : chk (counts (l ++ m)) n p = true :=
  chk_more n p (fun i hi c hf => find_same (counts_apart _) (fun d hd _ => ((counts_spec _).mem d).mpr (((counts_spec l).mem d).mp hd).append) hf) h
theorem alone_length {l : List Cred} {n : Nat} {p : Proof} (h : chk (counts l) n p = true) : (aloneOf l (support p)).length = (support p).length := by
  have e : (aloneOf l (support p)).map (·.f0) = support p := by
    refine strict_unique ?_ (support_strict p) fun x => ?_
    · rw [List.pairwise_map]
      refine ((counts_spec l).sorted.filter _).imp fun {a b} h => ?_
      unfold credLess at h; rw [idLess_iff]; exact h
    · rw [List.mem_map]
      constructor
      · rintro ⟨c, hc, rfl⟩
        exact of_decide_eq_true (List.mem_filter.mp hc).2
      · intro hx
        obtain ⟨c, hc, rfl⟩ := chk_ids n p h x ((support_mem p x).mp hx); exact ⟨c, List.mem_filter.mpr ⟨hc, decide_eq_true hx⟩, rfl⟩
  have := congrArg List.length e; rw [List.length_map] at this; exact this
theorem alone_l1 (l more X : List Cred) (s : List ID) (p : Proof) (hX : X.length ≤ 1000) (hs : s.length ≤ 1000) (hn : s.Nodup) (i : Nat) (hi : i < X.length) (v : Bool) : ∀ (n j : Nat) (acc : List Cred), n + j = s.length → acc.length + n ≤ 100000 →
    Ev (fun k => Qal.l0 k l more s (acc ++ (if X[i]!.f0 ∈ s.drop j then [X[i]!] else [])) X ((i + 1 : Nat) : Int) p.f0.f0 p.f0.f1 p.f1 p.f2.f0 p.f2.f1 p.f3) v →
    Ev (fun k => Qal.l1 k l more s acc X (i : Int) (j : Int) p.f0.f0 p.f0.f1 p.f1 p.f2.f0 p.f2.f1 p.f3) v
  | 0, j, acc, hj, ha, h => by
    rw [List.drop_eq_nil_of_le (by omega), if_neg (List.not_mem_nil), List.append_nil] at h; refine Ev.step (fun k => ?_) h; rw [Qal.l1, if_neg (by omega), wrapN (by omega)]
  | n + 1, j, acc, hj, ha, h => by
    have hj' : j < s.length := by omega
    have hd : s.drop j = s[j] :: s.drop (j + 1) := List.drop_eq_getElem_cons hj'
    by_cases e : X[i]!.f0 = s[j]
    · have hno : X[i]!.f0 ∉ s.drop (j + 1) := by
        rw [e]; have := hn.sublist (List.drop_sublist j s); rw [hd, List.nodup_cons] at this; exact this.1
      rw [if_pos (by rw [hd, e]; exact List.mem_cons_self ..)] at h; refine Ev.step (fun k => ?_) (alone_l1 l more X s p hX hs hn i hi v n (j + 1) (acc ++ [X[i]!]) (by omega) (by simp; omega) (by rw [if_neg hno, List.append_nil]; exact h)); rw [Qal.l1, if_pos (by omega), if_pos (by omega), if_pos (by omega), if_pos (by omega), rdCred, rdI s j hj', idBeq, decide_eq_true e, if_pos rfl, if_pos (by omega), wrapN (by omega)]
    · have hm : (X[i]!.f0 ∈ s.drop j) = (X[i]!.f0 ∈ s.drop (j + 1)) := by
        rw [hd, List.mem_cons]; exact propext ⟨fun h => h.resolve_left e, .inr⟩
      simp only [hm] at h; refine Ev.step (fun k => ?_) (alone_l1 l more X s p hX hs hn i hi v n (j + 1) acc (by omega) (by omega) h); rw [Qal.l1, if_pos (by omega), if_pos (by omega), if_pos (by omega), if_pos (by omega), rdCred, rdI s j hj', idBeq, decide_eq_false e, if_neg (by decide), wrapN (by omega)]
theorem alone_l0 (l more X : List Cred) (s : List ID) (p : Proof) (hX : X.length ≤ 1000) (hs : s.length ≤ 1000) (hn : s.Nodup) (A : List Cred) (hend : Ev (fun k => Qal.l0 k l more s A X (X.length : Int) p.f0.f0 p.f0.f1 p.f1 p.f2.f0 p.f2.f1 p.f3) true) : ∀ (n i : Nat) (acc : List Cred), n + i = X.length → acc.length ≤ i → acc ++ (X.drop i).filter (fun c => decide (c.f0 ∈ s)) = A →
    Ev (fun k => Qal.l0 k l more s acc X (i : Int) p.f0.f0 p.f0.f1 p.f1 p.f2.f0 p.f2.f1 p.f3) true
  | 0, i, acc, hi, ha, h => by
    rw [List.drop_eq_nil_of_le (by omega), List.filter_nil, List.append_nil] at h
    obtain rfl : i = X.length := by omega
    subst h; exact hend
  | n + 1, i, acc, hi, ha, h => by
    have hi' : i < X.length := by omega
    rw [drop_bang hi', List.filter_cons] at h; refine Ev.step (fun k => by rw [Qal.l0, if_pos (by omega)]; rfl) (alone_l1 l more X s p hX hs hn i hi' true s.length 0 acc (by omega) (by omega) ?_); rw [List.drop_zero]; refine alone_l0 l more X s p hX hs hn A hend n (i + 1) _ (by omega) (by split <;> simp <;> omega) ?_; rw [← h]
    by_cases e : X[i]!.f0 ∈ s
    · rw [if_pos e, decide_eq_true e, if_pos rfl, List.append_assoc]
      rfl
    · rw [if_neg e, decide_eq_false e, if_neg (by decide), List.append_nil]
theorem alone_alll0 (l more : List Cred) (hl : l.length ≤ 14) (hm : more.length ≤ 6) (hok : ∀ c ∈ l, okCred c) (hokm : ∀ c ∈ more, okCred c) (p : Proof) (hp : okTree p) (hc : cnt p ≤ 60) (h : chk (counts l) 200 p = true) :
    Ev (fun k => (Qap.f k l).bind fun t => Qal.l0 k l more (support p) [] t 0 p.f0.f0 p.f0.f1 p.f1 p.f2.f0 p.f2.f1 p.f3) true := by
  have hcl := counts_length l; have hsl := support_length p; have hd := dep_lt p; have hal := alone_length h; have hfl : (aloneOf l (support p)).length ≤ (counts l).length := List.length_filter_le _ _; refine Ev.bind (refCounts_is l (by omega)) ?_; have g1 := progCheck_is (aloneOf l (support p)) p (by omega) (fun c hc => hok c ((((counts_spec l).mem c).mp (List.mem_filter.mp hc).1).mem)) (by omega) hp; have g2 := progCheck_is (l ++ more) p (by simp; omega) (fun c hc => (List.mem_append.mp hc).elim (hok c) (hokm c)) (by omega) hp; rw [alone_chk h] at g1; rw [both_chk h] at g2; have hn : (support p).Nodup := sorted_nodup (R := fun a b => idLess a b = true) idLess_irrefl (support_strict p); refine alone_l0 l more (counts l) (support p) p (by omega) (by omega) hn (aloneOf l (support p)) ?_ (counts l).length 0 [] (by omega) (by simp) (by rw [List.drop_zero]; rfl); refine Ev.step (fun k => ?_) livesB; rw [Qal.l0, if_neg (by omega), if_pos (by simp; omega), Option.bind_some, if_pos (by simp; omega), g1, Option.bind_some, if_pos (show errOf true = 0 from rfl), List.nil_append, g2, Option.bind_some, if_pos (show errOf true = 0 from rfl), if_pos (by omega)]
theorem alone_l51 (l more X : List Cred) (s : List ID) (p : Proof) (hX : X.length ≤ 1000) (hs : s.length ≤ 1000) (hn : s.Nodup) (i : Nat) (hi : i < X.length) (v : Bool) : ∀ (n j : Nat) (acc : List Cred), n + j = s.length → acc.length + n ≤ 100000 →
    Ev (fun k => Qal.l50 k l more s (acc ++ (if X[i]!.f0 ∈ s.drop j then [X[i]!] else [])) X ((i + 1 : Nat) : Int) p.f0.f0 p.f0.f1 p.f1 p.f2.f0 p.f2.f1 p.f3) v →
    Ev (fun k => Qal.l51 k l more s acc X (i : Int) (j : Int) p.f0.f0 p.f0.f1 p.f1 p.f2.f0 p.f2.f1 p.f3) v
  | 0, j, acc, hj, ha, h => by
    rw [List.drop_eq_nil_of_le (by omega), if_neg (List.not_mem_nil), List.append_nil] at h; refine Ev.step (fun k => ?_) h; rw [Qal.l51, if_neg (by omega), wrapN (by omega)]
  | n + 1, j, acc, hj, ha, h => by
    have hj' : j < s.length := by omega
    have hd : s.drop j = s[j] :: s.drop (j + 1) := List.drop_eq_getElem_cons hj'
    by_cases e : X[i]!.f0 = s[j]
    · have hno : X[i]!.f0 ∉ s.drop (j + 1) := by
        rw [e]; have := hn.sublist (List.drop_sublist j s); rw [hd, List.nodup_cons] at this; exact this.1
      rw [if_pos (by rw [hd, e]; exact List.mem_cons_self ..)] at h; refine Ev.step (fun k => ?_) (alone_l51 l more X s p hX hs hn i hi v n (j + 1) (acc ++ [X[i]!]) (by omega) (by simp; omega) (by rw [if_neg hno, List.append_nil]; exact h)); rw [Qal.l51, if_pos (by omega), if_pos (by omega), if_pos (by omega), if_pos (by omega), rdCred, rdI s j hj', idBeq, decide_eq_true e, if_pos rfl, if_pos (by omega), wrapN (by omega)]
    · have hm : (X[i]!.f0 ∈ s.drop j) = (X[i]!.f0 ∈ s.drop (j + 1)) := by
        rw [hd, List.mem_cons]; exact propext ⟨fun h => h.resolve_left e, .inr⟩
      simp only [hm] at h; refine Ev.step (fun k => ?_) (alone_l51 l more X s p hX hs hn i hi v n (j + 1) acc (by omega) (by omega) h); rw [Qal.l51, if_pos (by omega), if_pos (by omega), if_pos (by omega), if_pos (by omega), rdCred, rdI s j hj', idBeq, decide_eq_false e, if_neg (by decide), wrapN (by omega)]
theorem alone_l50 (l more X : List Cred) (s : List ID) (p : Proof) (hX : X.length ≤ 1000) (hs : s.length ≤ 1000) (hn : s.Nodup) (A : List Cred) (hend : Ev (fun k => Qal.l50 k l more s A X (X.length : Int) p.f0.f0 p.f0.f1 p.f1 p.f2.f0 p.f2.f1 p.f3) true) : ∀ (n i : Nat) (acc : List Cred), n + i = X.length → acc.length ≤ i → acc ++ (X.drop i).filter (fun c => decide (c.f0 ∈ s)) = A →
    Ev (fun k => Qal.l50 k l more s acc X (i : Int) p.f0.f0 p.f0.f1 p.f1 p.f2.f0 p.f2.f1 p.f3) true
  | 0, i, acc, hi, ha, h => by
    rw [List.drop_eq_nil_of_le (by omega), List.filter_nil, List.append_nil] at h
    obtain rfl : i = X.length := by omega
    subst h; exact hend
  | n + 1, i, acc, hi, ha, h => by
    have hi' : i < X.length := by omega
    rw [drop_bang hi', List.filter_cons] at h; refine Ev.step (fun k => by rw [Qal.l50, if_pos (by omega)]; rfl) (alone_l51 l more X s p hX hs hn i hi' true s.length 0 acc (by omega) (by omega) ?_); rw [List.drop_zero]; refine alone_l50 l more X s p hX hs hn A hend n (i + 1) _ (by omega) (by split <;> simp <;> omega) ?_; rw [← h]
    by_cases e : X[i]!.f0 ∈ s
    · rw [if_pos e, decide_eq_true e, if_pos rfl, List.append_assoc]
      rfl
    · rw [if_neg e, decide_eq_false e, if_neg (by decide), List.append_nil]
theorem alone_alll50 (l more : List Cred) (hl : l.length ≤ 14) (hm : more.length ≤ 6) (hok : ∀ c ∈ l, okCred c) (hokm : ∀ c ∈ more, okCred c) (p : Proof) (hp : okTree p) (hc : cnt p ≤ 60) (h : chk (counts l) 200 p = true) :
    Ev (fun k => (Qap.f k l).bind fun t => Qal.l50 k l more (support p) [] t 0 p.f0.f0 p.f0.f1 p.f1 p.f2.f0 p.f2.f1 p.f3) true := by
  have hcl := counts_length l; have hsl := support_length p; have hd := dep_lt p; have hal := alone_length h; have hfl : (aloneOf l (support p)).length ≤ (counts l).length := List.length_filter_le _ _; refine Ev.bind (refCounts_is l (by omega)) ?_; have g1 := progCheck_is (aloneOf l (support p)) p (by omega) (fun c hc => hok c ((((counts_spec l).mem c).mp (List.mem_filter.mp hc).1).mem)) (by omega) hp; have g2 := progCheck_is (l ++ more) p (by simp; omega) (fun c hc => (List.mem_append.mp hc).elim (hok c) (hokm c)) (by omega) hp; rw [alone_chk h] at g1; rw [both_chk h] at g2; have hn : (support p).Nodup := sorted_nodup (R := fun a b => idLess a b = true) idLess_irrefl (support_strict p); refine alone_l50 l more (counts l) (support p) p (by omega) (by omega) hn (aloneOf l (support p)) ?_ (counts l).length 0 [] (by omega) (by simp) (by rw [List.drop_zero]; rfl); refine Ev.step (fun k => ?_) livesB; rw [Qal.l50, if_neg (by omega), if_pos (by simp; omega), Option.bind_some, if_pos (by simp; omega), g1, Option.bind_some, if_pos (show errOf true = 0 from rfl), List.nil_append, g2, Option.bind_some, if_pos (show errOf true = 0 from rfl), if_pos (by omega)]
theorem proofAlone_true (l more : List Cred) (p : Proof) (hok : ∀ c ∈ l, okCred c) (hokm : ∀ c ∈ more, okCred c) (hp : okTree p) : Ev (fun k => Qal.f k l more p.f0.f0 p.f0.f1 p.f1 p.f2.f0 p.f2.f1 p.f3) true := by
  have hlen := take_len l; unfold Qal.f; rw [few_is]; refine Ev.bind (Ev.pure _) ?_
  by_cases c : (more.length : Int) > 6
  · simp only [if_pos c, if_pos (show 6 ≤ (more.length : Int) by omega)]
    refine Ev.bind (small_ev p) ?_
    by_cases h : cnt p ≤ 60
    · have hd := dep_lt p
      have g := progCheck_is (l.take 14) p (by omega) (take_ok hok) (by omega) hp; have g1 := progSupport_is p (by omega) hp (by omega); simp only [decide_eq_true h, if_true, g, g1, Option.bind_some]
      by_cases hk : chk (counts (l.take 14)) 200 p = true
      · rw [hk]
        simp only [show errOf true = 0 from rfl, if_true]; exact alone_alll0 (l.take 14) (more.take 6) (by omega) (by simp; omega) (take_ok hok) (fun c hc => hokm c (List.mem_of_mem_take hc)) p hp h hk
      · rw [Bool.not_eq_true] at hk
        rw [hk]; simp only [show ¬ errOf false = 0 by decide, if_false]; exact livesB
    · simp only [decide_eq_false h, Bool.false_eq_true, if_false]
      exact livesB
  · simp only [if_neg c]
    refine Ev.bind (small_ev p) ?_
    by_cases h : cnt p ≤ 60
    · have hd := dep_lt p
      have g := progCheck_is (l.take 14) p (by omega) (take_ok hok) (by omega) hp; have g1 := progSupport_is p (by omega) hp (by omega); simp only [decide_eq_true h, if_true, g, g1, Option.bind_some]
      by_cases hk : chk (counts (l.take 14)) 200 p = true
      · rw [hk]
        simp only [show errOf true = 0 from rfl, if_true]; exact alone_alll50 (l.take 14) more (by omega) (by omega) (take_ok hok) (hokm) p hp h hk
      · rw [Bool.not_eq_true] at hk
        rw [hk]; simp only [show ¬ errOf false = 0 by decide, if_false]; exact livesB
    · simp only [decide_eq_false h, Bool.false_eq_true, if_false]
      exact livesB
end Go.Proofs.YtmaipohgahdclaaDoor.Pr
end
