/- The proof's own texts, joined: part 3. No conditions. -/
import Derived.Maps.OwnSet
import Derived.Maps.RangeRun
import Derived.Maps.Range
import Derived.Carry
import Derived.Below
import Derived.Test.YtmaipohgahdclaaGreatDoorProg
import Derived.Deep.Draws
import Derived.Deep.AppendLies
import Derived.Maps.AppendAt
import Derived.OwnWalk
import Derived.Laws.BytesArg
import Derived.Laws.MakeOwn
import Derived.Laws.OwnMore
import Derived.Deep.OwnRows
import Derived.Tactics
import Derived.Lib.ConvBytes
import Derived.Laws.Slices
import Derived.WalkKit
import Derived.KernelRfl
import Derived.RowKit3
import Derived.Deep.LoopGhost
import Derived.Deep.QuietTactic
import Derived.BigQuiet
import Derived.WideLaws
import Derived.Deep.DeepCutAuto
import Derived.Deep.CutBlock
import Derived.Deep.RegionHeld3
import Derived.Laws.Rows
import Derived.Lib.AppendStr
import Derived.ArgAppend
import Derived.Laws.IdiomCopy
import Derived.OrdersHeld
import Derived.Laws.BitsLemmas
import Derived.RowKit
import Derived.WalkSpells
import Derived.WalkLawsBesides
import Derived.Lib.Hide
import Derived.Laws.RangeAny
import Derived.Laws.Closers25
import Derived.Outline
import Derived.Shelf.SlSortCmp.NoneTotal
import Derived.Sort.Grow
import Derived.Shelf.SlicesE.Clone
import Derived.Deep.RegionWith
import Derived.RegionTactic
import Derived.ChangeAlike
import Derived.Deep.RegionLaw
import Derived.Lib.SmallJoins
import Derived.Lib.SlicesS
import Derived.StillTailTactics
import Derived.DeepKeys4
import Derived.Laws.StructEq
import Derived.Shelf.GgSortFunc.InsertionK
import Derived.Sort.LotA
import Derived.Shelf.SlicesG.Cmp
import Derived.Ground.SlgcProg
import Derived.Sort.Walk0
import Derived.Laws.Strings
import Derived.Shelf.SlSortCmp.WholeK
import Derived.Ground.SlsfProg
import Derived.Ground.SlgnProg
import Derived.Test.YtmaipohgahdclaaGreatDoorPa0
import Derived.Test.YtmaipohgahdclaaGreatDoorPa1
import Derived.Test.YtmaipohgahdclaaGreatDoorPa2
section
namespace Go.Proofs.YtmaipohgahdclaaGreatDoor.Pr
open Go.RowKit Go.Proofs.YtmaipohgahdclaaGreatDoorW.PrintWords Go.Proofs.YtmaipohgahdclaaGreatDoorW.PrintLast Go.Proofs.YtmaipohgahdclaaGreatDoorW.PrintMore
theorem Ev.stepBind {α β : Type} {f : Nat → Option α} {g : Nat → Option β} {h : Nat → β → Option α} {a : β} {v : α} (e : ∀ k, f (k + 1) = (g k).bind (h k)) (hg : Ev g a) (hh : Ev (fun k => h k a) v) : Ev f v := Ev.step e (Ev.bind hg hh)
theorem wrapN {i : Nat} (h : i < 1000000000000) : wrap64 ((i : Int) + 1) = ((i + 1 : Nat) : Int) := by unfold wrap64; omega
theorem wrapAdd {x y : Int} (h : -1000000000000 < x + y ∧ x + y < 1000000000000) : wrap64 (x + y) = x + y := by unfold wrap64; omega
theorem size_l0 (ps : List Proof) (hl : ps.length < 1000000) (ih : ∀ q ∈ ps, Ev (fun k => proof_Size.f k q.f0.f0 q.f0.f1 q.f1 q.f2.f0 q.f2.f1 q.f3) (cnt q : Int)) : ∀ (n i : Nat) (x : Int), n + i = ps.length → 0 ≤ x → x + ((idsL (ps.drop i)).length : Int) < 2000000 → Ev (fun k => proof_Size.l0 k x ps (ps.length : Int) (i : Int)) (x + ((idsL (ps.drop i)).length : Int))
  | 0, i, x, hn, h0, hx => by
    rw [List.drop_eq_nil_of_le (by omega), idsL_nil]; refine Ev.step (fun k => ?_) (Ev.pure _); rw [proof_Size.l0, if_neg (by omega)]; simp
  | n + 1, i, x, hn, h0, hx => by
    have hi : i < ps.length := by omega
    rw [dropP ps i hi, idsL_cons, List.length_append] at hx ⊢; have h2 : (ids ps[i]).length = cnt ps[i] := rfl; refine Ev.stepBind (h := fun k t => proof_Size.l0 k (wrap64 (x + t)) ps (ps.length : Int) ((i + 1 : Nat) : Int)) (fun k => ?_) (ih _ (List.getElem_mem hi)) ?_
    · rw [proof_Size.l0, if_pos (by omega), if_pos (by omega), if_pos (by omega), wrapN (by omega), rdP ps i hi]
    · have := size_l0 ps hl ih n (i + 1) (x + (cnt ps[i] : Int)) (by omega) (by omega) (by omega)
      show Ev (fun k => proof_Size.l0 k (wrap64 (x + (cnt ps[i] : Int))) ps _ _) _
      rw [wrapAdd (by omega)]; rw [show x + (((ids ps[i]).length + (idsL (ps.drop (i + 1))).length : Nat) : Int) = x + (cnt ps[i] : Int) + ((idsL (ps.drop (i + 1))).length : Int) by omega]; exact this
theorem size_ev : ∀ p : Proof, cnt p < 1000000 → Ev (fun k => proof_Size.f k p.f0.f0 p.f0.f1 p.f1 p.f2.f0 p.f2.f1 p.f3) (cnt p : Int) := treeInd fun p ih hc => by
  have hl := parts_lt p
  have := size_l0 p.f3 (by omega) (fun q hq => ih q hq (by have := cnt_mem hq; omega)) p.f3.length 0 1 (by omega) (by omega) (by
    rw [List.drop_zero]; unfold cnt at hc; rw [ids_eq, List.length_cons] at hc
    omega)
  rw [List.drop_zero] at this; rw [show (cnt p : Int) = 1 + ((idsL p.f3).length : Int) by unfold cnt; rw [ids_eq, List.length_cons]; omega]; refine Ev.step (fun k => ?_) this; rw [proof_Size.f]; rfl
theorem within_l0 (ps : List Proof) (hl : ps.length < 1000000) (d : Int) (h0 : 0 ≤ d) (hd : d < 9223372036854775808) (ih : ∀ q ∈ ps, Ev (fun k => QaG.f k q.f0.f0 q.f0.f1 q.f1 q.f2.f0 q.f2.f1 q.f3 (d - 1)) (decide ((dep q : Int) ≤ d - 1))) : ∀ (n i : Nat), n + i = ps.length → Ev (fun k => QaG.l0 k d ps (ps.length : Int) (i : Int)) (decide ((depL (ps.drop i) : Int) ≤ d))
  | 0, i, hn => by
    rw [List.drop_eq_nil_of_le (by omega), depL_nil, decide_eq_true (by omega)]; refine Ev.step (fun k => ?_) (Ev.pure _); rw [QaG.l0, if_neg (by omega)]
  | n + 1, i, hn => by
    have hi : i < ps.length := by omega
    rw [dropP ps i hi, depL_cons]; refine Ev.stepBind (h := fun k t => if t = true then QaG.l0 k d ps (ps.length : Int) ((i + 1 : Nat) : Int) else some false) (fun k => ?_) (ih _ (List.getElem_mem hi)) ?_
    · rw [QaG.l0, if_pos (by omega), if_pos (by omega), if_pos (by omega), wrapN (by omega), rdP ps i hi, show wrap64 (d - 1) = d - 1 by unfold wrap64; omega]
    · by_cases h : (dep ps[i] : Int) ≤ d - 1
      · simp only [decide_eq_true h, if_true]
        have := within_l0 ps hl d h0 hd ih n (i + 1) (by omega)
        rw [show decide (((Nat.max (dep ps[i] + 1) (depL (ps.drop (i + 1))) : Nat) : Int) ≤ d) = decide ((depL (ps.drop (i + 1)) : Int) ≤ d) by
          rw [Bool.eq_iff_iff, decide_eq_true_eq, decide_eq_true_eq]; have e : Nat.max (dep ps[i] + 1) (depL (ps.drop (i + 1))) = max (dep ps[i] + 1) (depL (ps.drop (i + 1))) := rfl; rw [e]
          omega]
        exact this
      · simp only [decide_eq_false h, Bool.false_eq_true, if_false]
        rw [decide_eq_false (by
          have e : Nat.max (dep ps[i] + 1) (depL (ps.drop (i + 1))) = max (dep ps[i] + 1) (depL (ps.drop (i + 1))) := rfl; rw [e]
          omega)]
        exact Ev.pure _
theorem within_ev : ∀ p : Proof, ∀ d : Int, cnt p < 1000000 → d < 9223372036854775808 → Ev (fun k => QaG.f k p.f0.f0 p.f0.f1 p.f1 p.f2.f0 p.f2.f1 p.f3 d) (decide ((dep p : Int) ≤ d)) := treeInd fun p ih d hc hd => by
  have hl := parts_lt p
  by_cases h0 : d < 0
  · rw [decide_eq_false (by omega)]
    refine Ev.step (fun k => ?_) (Ev.pure _); rw [QaG.f, if_pos h0]
  · have := within_l0 p.f3 (by omega) d (by omega) hd (fun q hq => ih q hq (d - 1) (by have := cnt_mem hq; omega) (by omega)) p.f3.length 0 (by omega)
    rw [List.drop_zero, ← dep_eq] at this; refine Ev.step (fun k => ?_) this; rw [QaG.f, if_neg h0]; rfl
def fewV (n most : Int) : Int := if n ≤ most then n else -1
theorem few_l0 (p : Proof) (most : Int) (hm : -1000000 < most ∧ most < 1000000) (ih : ∀ q ∈ p.f3, ∀ m : Int, -1000000 < m ∧ m < 1000000 → Ev (fun k => QaV.f k q.f0.f0 q.f0.f1 q.f1 q.f2.f0 q.f2.f1 q.f3 m) (fewV (cnt q) m)) : ∀ (n i x : Nat), n + i = p.f3.length → i < x → ((x : Int) ≤ most ∨ x = 1) → Ev (fun k => QaV.l0 k most (x : Int) (i : Int) p.f0.f0 p.f0.f1 p.f1 p.f2.f0 p.f2.f1 p.f3) (fewV (x + (idsL (p.f3.drop i)).length) most)
  | 0, i, x, hn, h1, hx => by
    rw [List.drop_eq_nil_of_le (by omega), idsL_nil]; refine Ev.step (fun k => ?_) (Ev.pure _); rw [QaV.l0, if_neg (by omega)]; unfold fewV
    by_cases h : (x : Int) > most
    · rw [if_pos h, if_neg (by simp; omega)]
    · rw [if_neg h, if_pos (by simp; omega)]
      simp
  | n + 1, i, x, hn, h1, hx => by
    have hi : i < p.f3.length := by omega
    have hpos := cnt_pos p.f3[i]; have hcl : (ids p.f3[i]).length = cnt p.f3[i] := rfl; rw [dropP p.f3 i hi, idsL_cons, List.length_append]
    by_cases h : (x : Int) ≥ most
    · refine Ev.step (fun k => ?_) (Ev.pure _)
      rw [QaV.l0, if_pos (by omega), if_pos h]; unfold fewV; rw [if_neg (by omega)]
    · refine Ev.stepBind (h := fun k t => if t < 0 then some (-1) else QaV.l0 k most (wrap64 ((x : Int) + t)) ((i + 1 : Nat) : Int) p.f0.f0 p.f0.f1 p.f1 p.f2.f0 p.f2.f1 p.f3) (fun k => ?_) (ih _ (List.getElem_mem hi) (most - (x : Int)) (by omega)) ?_
      · rw [QaV.l0, if_pos (by omega), if_neg h, if_pos (by omega), wrapN (by omega), rdP p.f3 i hi, show wrap64 (most - (x : Int)) = most - (x : Int) by unfold wrap64; omega]
      · by_cases h2 : (cnt p.f3[i] : Int) ≤ most - (x : Int)
        · have e : fewV (cnt p.f3[i] : Int) (most - (x : Int)) = (cnt p.f3[i] : Int) := if_pos h2
          simp only [e, if_neg (show ¬ (cnt p.f3[i] : Int) < 0 by omega)]; have := few_l0 p most hm ih n (i + 1) (x + cnt p.f3[i]) (by omega) (by omega) (by omega); rw [wrapAdd (by omega)]; rw [show ((x : Int) + (((ids p.f3[i]).length + (idsL (p.f3.drop (i + 1))).length : Nat) : Int)) = ((x + cnt p.f3[i] : Nat) : Int) + ((idsL (p.f3.drop (i + 1))).length : Int) by omega]; exact this
        · have e : fewV (cnt p.f3[i] : Int) (most - (x : Int)) = -1 := if_neg h2
          simp only [e]; unfold fewV; rw [if_neg (by omega)]; exact Ev.pure _
theorem few_ev : ∀ p : Proof, ∀ most : Int, -1000000 < most ∧ most < 1000000 → Ev (fun k => QaV.f k p.f0.f0 p.f0.f1 p.f1 p.f2.f0 p.f2.f1 p.f3 most) (fewV (cnt p) most) := treeInd fun p ih most hm => by
  have := few_l0 p most hm ih p.f3.length 0 1 (by omega) (by omega) (.inr rfl); rw [List.drop_zero] at this; rw [show (cnt p : Int) = ((1 : Nat) : Int) + ((idsL p.f3).length : Int) by unfold cnt; rw [ids_eq, List.length_cons]; omega]; refine Ev.step (fun k => ?_) this; rw [QaV.f]; rfl
theorem putID_length (l : List ID) (x : ID) : (putID l x).length ≤ l.length + 1 := by
  unfold putID
  split
  · omega
  · simp
theorem gatherL_is (F : Proof → List ID → Option (List ID)) : ∀ (ps : List Proof) (l : List ID), (∀ q ∈ ps, ∀ l : List ID, l.length + cnt q < 1000000 → F q l = some ((ids q).foldl putID l)) → (∀ (xs : List ID) (l : List ID), (xs.foldl putID l).length ≤ l.length + xs.length) → l.length + (idsL ps).length < 1000000 → gatherL F ps l = some ((idsL ps).foldl putID l)
  | [], l, _, _, _ => by rw [idsL_nil]; rfl
  | p :: ps, l, h, hx, hl => by
    rw [idsL_cons, List.length_append] at hl; have h1 : (ids p).length = cnt p := rfl; have h2 := hx (ids p) l; rw [gatherL, h p (List.mem_cons_self ..) l (by omega), Option.bind_some, idsL_cons, List.foldl_append]; exact gatherL_is F ps _ (fun q hq => h q (List.mem_cons_of_mem _ hq)) hx (by omega)
theorem fold_length : ∀ (xs : List ID) (l : List ID), (xs.foldl putID l).length ≤ l.length + xs.length
  | [], l => by simp
  | x :: xs, l => by
    have h1 := fold_length xs (putID l x); have h2 := putID_length l x; rw [List.foldl_cons, List.length_cons]; omega
theorem gather_is : ∀ (k : Nat) (p : Proof), dep p < k → okTree p → ∀ l : List ID, l.length + cnt p < 1000000 → gatherF k p l = some ((ids p).foldl putID l)
  | 0, p, h, _, _, _ => by omega
  | k + 1, p, h, ho, l, hl => by
    have hp := parts_lt p; rw [gatherF, if_pos ⟨ho _ (self_ids p), by omega, by omega⟩, ids_eq, List.foldl_cons]; have h1 := putID_length l p.f2
    have hc : cnt p = (idsL p.f3).length + 1 := by unfold cnt; rw [ids_eq, List.length_cons]
    exact gatherL_is _ p.f3 _ (fun q hq l hl => gather_is k q (by have := dep_mem hq; omega) (ho.mem hq) l hl) fold_length (by omega)
theorem mem_putID (l : List ID) (x y : ID) : y ∈ putID l x ↔ y ∈ l ∨ y = x := by
  unfold putID
  split
  · exact ⟨.inl, fun h => h.elim id (fun e => e ▸ by assumption)⟩
  · simp
theorem nodup_putID {l : List ID} (h : l.Nodup) (x : ID) : (putID l x).Nodup := by
  unfold putID
  split
  · exact h
  · rename_i hx
    rw [List.nodup_append]; exact ⟨h, by simp, fun a ha b hb => by simp at hb; subst hb; exact fun e => hx (e ▸ ha)⟩
theorem mem_fold : ∀ (xs l : List ID) (y : ID), y ∈ xs.foldl putID l ↔ y ∈ l ∨ y ∈ xs
  | [], l, y => by simp
  | x :: xs, l, y => by
    rw [List.foldl_cons, mem_fold xs, mem_putID, List.mem_cons, or_assoc]
theorem nodup_fold : ∀ (xs l : List ID), l.Nodup → (xs.foldl putID l).Nodup
  | [], l, h => h
  | x :: xs, l, h => by rw [List.foldl_cons]; exact nodup_fold xs _ (nodup_putID h x)
theorem sortIDs_mem (l : List ID) (x : ID) : x ∈ sortIDs l ↔ x ∈ l := (List.mergeSort_perm l _).mem_iff
theorem sortIDs_strict {l : List ID} (h : l.Nodup) : (sortIDs l).Pairwise (fun a b => idLess a b = true) := by
  have hn : (sortIDs l).Nodup := (List.mergeSort_perm l _).nodup_iff.mpr h; have hs := sortIDs_sorted l; rw [List.Nodup] at hn
  refine (hs.and hn).imp fun {a b} hab => ?_
  have h1 := hab.1; rw [idCmp_lt] at h1
  by_cases h2 : idLess a b = true
  · exact h2
  · exact absurd (idLess_total h2 (by simpa using h1)) hab.2
theorem strict_unique {a b : List ID} (ha : a.Pairwise (fun x y => idLess x y = true)) (hb : b.Pairwise (fun x y => idLess x y = true)) (h : ∀ x, x ∈ a ↔ x ∈ b) : a = b := sorted_eq (R := fun x y => idLess x y = true) idLess_irrefl (fun _ _ _ => idLess_trans) ha hb h
def support (p : Proof) : List ID := sortIDs ((ids p).foldl putID [])
theorem support_strict (p : Proof) : (support p).Pairwise (fun a b => idLess a b = true) := sortIDs_strict (nodup_fold _ _ List.nodup_nil)
theorem support_mem (p : Proof) (x : ID) : x ∈ support p ↔ x ∈ ids p := by
  unfold support; rw [sortIDs_mem, mem_fold]; simp
end Go.Proofs.YtmaipohgahdclaaGreatDoor.Pr
end
