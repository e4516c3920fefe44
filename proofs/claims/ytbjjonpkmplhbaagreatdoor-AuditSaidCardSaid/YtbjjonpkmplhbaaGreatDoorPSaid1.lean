/- The proof's own texts, joined: part 1. No conditions. -/
import Derived.Test.YtbjjonpkmplhbaaGreatDoorProg
import Derived.Below
import Derived.Deep.Draws
import Derived.Deep.AppendLies
import Derived.Maps.AppendAt
import Derived.OwnWalk
import Derived.Laws.BytesArg
import Derived.Laws.MakeOwn
import Derived.Laws.OwnMore
import Derived.Deep.OwnRows
import Derived.Tactics
import Derived.Lib.ConvBytes
import Derived.Laws.Slices
import Derived.WalkKit
import Derived.KernelRfl
import Derived.RowKit3
import Derived.Deep.LoopGhost
import Derived.Deep.QuietTactic
import Derived.BigQuiet
import Derived.WideLaws
import Derived.Deep.DeepCutAuto
import Derived.Deep.CutBlock
import Derived.Deep.RegionHeld3
import Derived.Laws.Rows
import Derived.Lib.AppendStr
import Derived.ArgAppend
import Derived.Laws.IdiomCopy
import Derived.OrdersHeld
import Derived.Laws.BitsLemmas
import Derived.RowKit
import Derived.Laws.StructEq
import Derived.WalkSpells
import Derived.WalkLawsBesides
import Derived.Lib.Hide
import Derived.Outline
import Derived.Laws.RangeAny
import Derived.Laws.Closers25
import Derived.Maps.OwnSet
import Derived.Maps.RangeRun
import Derived.Maps.Range
import Derived.Carry
import Derived.Shelf.GgSortFunc.InsertionK
import Derived.Shelf.SlicesG.Cmp
import Derived.Ground.SlgcProg
import Derived.StillTailTactics
import Derived.Sort.Grow
import Derived.Lib.SlicesS
import Derived.Deep.RegionWith
import Derived.RegionTactic
import Derived.ChangeAlike
import Derived.Deep.RegionLaw
import Derived.Lib.SmallJoins
import Derived.Shelf.SlSortCmp.WholeK
import Derived.Shelf.SlSortCmp.NoneTotal
import Derived.Shelf.SlicesE.Clone
import Derived.Ground.SlsfProg
import Derived.Ground.SlgnProg
import Derived.DeepKeys4
import Derived.Sort.Walk0
import Derived.Laws.Strings
import Derived.Test.YtbjjonpkmplhbaaGreatDoorPSaid0
section
namespace Go.Proofs.YtbjjonpkmplhbaaGreatDoor.Pr
open Go.RowKit Go.Proofs.YtbjjonpkmplhbaaGreatDoorW.PrintWords Go.Proofs.YtbjjonpkmplhbaaGreatDoorW.PrintLast Go.Proofs.YtbjjonpkmplhbaaGreatDoorW.PrintMore
set_option linter.unusedVariables false
set_option linter.unusedSimpArgs false
theorem cz_ii {W : World} {k : Nat} {t : TypeId} {a0 : Int} {a1 : Int} (h : W.heap[k]? = some (.cells #[.int .i64 a0, .int .i64 a1] t (0, 0))) : W.cell? ⟨k, 0, none⟩ = some (.int .i64 a0) ∧ W.cell? ⟨k, 1, none⟩ = some (.int .i64 a1) :=
  ⟨(Qak h 0).trans rfl, (Qak h 1).trans rfl⟩
theorem QaM {W : World} {k : Nat} {t : TypeId} {a0 : Int} {a1 : Int} {a2 : ByteArray} {a3 : Int} {a4 : ByteArray} {a5 : ByteArray} {a6 : ByteArray} {a7 : ByteArray} {a8 : ByteArray} (h : W.heap[k]? = some (.cells #[.int .i64 a0, .int .i64 a1, .string a2, .int .i64 a3, .string a4, .string a5, .string a6, .string a7, .string a8] t (0, 0))) : W.cell? ⟨k, 0, none⟩ = some (.int .i64 a0) ∧ W.cell? ⟨k, 1, none⟩ = some (.int .i64 a1) ∧ W.cell? ⟨k, 2, none⟩ = some (.string a2) ∧ W.cell? ⟨k, 3, none⟩ = some (.int .i64 a3) ∧ W.cell? ⟨k, 4, none⟩ = some (.string a4) ∧ W.cell? ⟨k, 5, none⟩ = some (.string a5) ∧ W.cell? ⟨k, 6, none⟩ = some (.string a6) ∧ W.cell? ⟨k, 7, none⟩ = some (.string a7) ∧ W.cell? ⟨k, 8, none⟩ = some (.string a8) :=
  ⟨(Qak h 0).trans rfl, (Qak h 1).trans rfl, (Qak h 2).trans rfl, (Qak h 3).trans rfl, (Qak h 4).trans rfl, (Qak h 5).trans rfl, (Qak h 6).trans rfl, (Qak h 7).trans rfl, (Qak h 8).trans rfl⟩
theorem cz_ss {W : World} {k : Nat} {t : TypeId} {a0 : ByteArray} {a1 : ByteArray} (h : W.heap[k]? = some (.cells #[.string a0, .string a1] t (0, 0))) : W.cell? ⟨k, 0, none⟩ = some (.string a0) ∧ W.cell? ⟨k, 1, none⟩ = some (.string a1) :=
  ⟨(Qak h 0).trans rfl, (Qak h 1).trans rfl⟩
theorem cz_sss {W : World} {k : Nat} {t : TypeId} {a0 : ByteArray} {a1 : ByteArray} {a2 : ByteArray} (h : W.heap[k]? = some (.cells #[.string a0, .string a1, .string a2] t (0, 0))) : W.cell? ⟨k, 0, none⟩ = some (.string a0) ∧ W.cell? ⟨k, 1, none⟩ = some (.string a1) ∧ W.cell? ⟨k, 2, none⟩ = some (.string a2) :=
  ⟨(Qak h 0).trans rfl, (Qak h 1).trans rfl, (Qak h 2).trans rfl⟩
theorem fz_2 {W : World} {k : Nat} {cs : Array Value} {t : TypeId} (h : W.heap[k]? = some (.cells cs t (0, 0))) : W.frozen? ⟨k, 0, none⟩ = false ∧ W.frozen? ⟨k, 1, none⟩ = false :=
  ⟨QaP h 0, QaP h 1⟩
theorem fz_3 {W : World} {k : Nat} {cs : Array Value} {t : TypeId} (h : W.heap[k]? = some (.cells cs t (0, 0))) : W.frozen? ⟨k, 0, none⟩ = false ∧ W.frozen? ⟨k, 1, none⟩ = false ∧ W.frozen? ⟨k, 2, none⟩ = false :=
  ⟨QaP h 0, QaP h 1, QaP h 2⟩
theorem fz_9 {W : World} {k : Nat} {cs : Array Value} {t : TypeId} (h : W.heap[k]? = some (.cells cs t (0, 0))) : W.frozen? ⟨k, 0, none⟩ = false ∧ W.frozen? ⟨k, 1, none⟩ = false ∧ W.frozen? ⟨k, 2, none⟩ = false ∧ W.frozen? ⟨k, 3, none⟩ = false ∧ W.frozen? ⟨k, 4, none⟩ = false ∧ W.frozen? ⟨k, 5, none⟩ = false ∧ W.frozen? ⟨k, 6, none⟩ = false ∧ W.frozen? ⟨k, 7, none⟩ = false ∧ W.frozen? ⟨k, 8, none⟩ = false :=
  ⟨QaP h 0, QaP h 1, QaP h 2, QaP h 3, QaP h 4, QaP h 5, QaP h 6, QaP h 7, QaP h 8⟩
abbrev ob_iisisssss (a0 : Int) (a1 : Int) (a2 : ByteArray) (a3 : Int) (a4 : ByteArray) (a5 : ByteArray) (a6 : ByteArray) (a7 : ByteArray) (a8 : ByteArray) (t : TypeId) : Obj := .cells #[.int .i64 a0, .int .i64 a1, .string a2, .int .i64 a3, .string a4, .string a5, .string a6, .string a7, .string a8] t (0, 0)
abbrev ob_ss (a0 : ByteArray) (a1 : ByteArray) (t : TypeId) : Obj := .cells #[.string a0, .string a1] t (0, 0)
theorem put_ {α : Type} : (∀ (xs : List α) (i : Nat) (v : α), xs.toArray.setIfInBounds i v = (xs.set i v).toArray) ∧ (∀ (x v : α) (xs : List α), (x :: xs).set 0 v = v :: xs) ∧ ∀ (x v : α) (xs : List α) (i : Nat), (x :: xs).set (i + 1) v = x :: xs.set i v :=
  ⟨fun xs i v => List.setIfInBounds_toArray .., fun x v xs => List.set_cons_zero .., fun x v xs i => List.set_cons_succ ..⟩
abbrev tt := true
abbrev ff := false
section
variable {P : Program} {ops : Array Oper} {Q : Exit → Act → World → Prop} {md : Region.Mode} {S : World → Prop} {ds : List Nat}
theorem pz {v : Value} {fuel : Nat} {l l' : Array Bool} {a a' : Act} {w : World} {oi : Oper} {T : Bool × List (List Nat × List Nat)} (i N : Nat) (h : wpAnyLast P md ops Q S ds fuel l' a' w) (hi : ops[i]? = some oi := by rfl) (hN : oi.dst = some N := by rfl) (hl : l.setIfInBounds i true = l' := by simp only [put_]; rfl) (hT : Qaa (rtab md ops = T) := by assumption) (hc : anyT T l.toList l'.toList i = true := by kernel_rfl) (hw : Region.wanted oi (yielded ops a.tmps) = true := by rfl) (hy : ∀ w, (execOp a.eval oi).run P w = .ok (.value v) w := by intro w'; go_simp; (with_reducible rfl)) (ha : a.put (some N) v = a' := by simp only [Act.put, put_, Qbe, Qbh]; rfl) (hQ : ∀ c a w, Q (.panic c) (a.put oi.dst v) w → Q (.panic c) a w := by exact fun _ _ _ h => h) : wpAnyLast P md ops Q S ds (fuel + 1) l a w :=
  pure_ l' hi hN (any_of hT.out hc) hQ (.inl ⟨hw, hy⟩) ha h
theorem pu {fuel : Nat} {l l' : Array Bool} {a a' : Act} {w : World} {oi : Oper} {T : Bool × List (List Nat × List Nat)} (i N : Nat) (h : wpAnyLast P md ops Q S ds fuel l' a' w) (hi : ops[i]? = some oi := by rfl) (hN : oi.dst = some N := by rfl) (hl : l.setIfInBounds i true = l' := by simp only [put_]; rfl) (hT : Qaa (rtab md ops = T) := by assumption) (hc : anyT T l.toList l'.toList i = true := by kernel_rfl) (hw : Region.wanted oi (yielded ops a.tmps) = false := by rfl) (ha : a.put (some N) undef = a' := by simp only [Act.put, put_, Qbe, Qbh]; rfl) (hQ : ∀ c a w, Q (.panic c) (a.put oi.dst undef) w → Q (.panic c) a w := by exact fun _ _ _ h => h) : wpAnyLast P md ops Q S ds (fuel + 1) l a w :=
  pure_ l' hi hN (any_of hT.out hc) hQ (.inr ⟨hw, rfl⟩) ha h
theorem kz {v : Value} {fuel : Nat} {l l' : Array Bool} {a a' : Act} {w : World} {oi : Oper} (i N : Nat) (h : wpAnyLast P md ops Q S ds fuel l' a' w) (hi : ops[i]? = some oi := by rfl) (hN : oi.dst = some N := by rfl) (hl : l.setIfInBounds i true = l' := by simp only [put_]; rfl) (hc : anyB md ops l l' i = true := by kernel_rfl) (hw : Region.wanted oi (yielded ops a.tmps) = true := by rfl) (hy : ∀ w, (execOp a.eval oi).run P w = .ok (.value v) w := by intro w'; go_simp; (with_reducible rfl)) (ha : a.put (some N) v = a' := by simp only [Act.put, put_, Qbe, Qbh]; rfl) (hQ : ∀ c a w, Q (.panic c) (a.put oi.dst v) w → Q (.panic c) a w := by exact fun _ _ _ h => h) : wpAnyLast P md ops Q S ds (fuel + 1) l a w :=
  pure_ l' hi hN hc hQ (.inl ⟨hw, hy⟩) ha h
theorem ku {fuel : Nat} {l l' : Array Bool} {a a' : Act} {w : World} {oi : Oper} (i N : Nat) (h : wpAnyLast P md ops Q S ds fuel l' a' w) (hi : ops[i]? = some oi := by rfl) (hN : oi.dst = some N := by rfl) (hl : l.setIfInBounds i true = l' := by simp only [put_]; rfl) (hc : anyB md ops l l' i = true := by kernel_rfl) (hw : Region.wanted oi (yielded ops a.tmps) = false := by rfl) (ha : a.put (some N) undef = a' := by simp only [Act.put, put_, Qbe, Qbh]; rfl) (hQ : ∀ c a w, Q (.panic c) (a.put oi.dst undef) w → Q (.panic c) a w := by exact fun _ _ _ h => h) : wpAnyLast P md ops Q S ds (fuel + 1) l a w :=
  pure_ l' hi hN hc hQ (.inr ⟨hw, rfl⟩) ha h
end
theorem bk_ {W : World} {g : Nat} {o : Obj} (h : W.heap[g]? = some o := by (with_reducible repeat (first | refine Qat ?_ _ | refine Qan ?_ | refine Qam ?_ _)); exact Qaa.out (by assumption)) : W.heap[g]? = some o := h
theorem bf_ {W : World} {g : Nat} {o : Obj} (h : W.heap[g]? = some o := by repeat (first | (with_reducible exact Qaa.out (by assumption)) | (with_reducible first | refine Qat ?_ _ | refine Qan ?_ | refine Qam ?_ _) | refine blk_far ?_ (Qaa.out (by assumption)) _)) : W.heap[g]? = some o := h
theorem bw_ {B : Nat} {w W : World} (h : Below B w W := by repeat (first | (with_reducible exact Qaa.out (by assumption)) | (with_reducible first | apply Qai | apply QaK | apply Qau | refine below_set ?_ (Qaa.out (by assumption))) | exact Qaa.out (by assumption))) : Below B w W := h
theorem ro_ {α : Type} {d : Kd α} {e B : Nat} {ok : Nat → Prop} {W W0 : World} {v : Value} {xs : List α} (_ : Qaa (Kd.R d e W0 B ok v xs)) (h : Kd.R d e W B ok v xs := by (with_reducible repeat (first | apply Kd.QaN | apply Kd.QaQ | apply Kd.QaO)); exact Qaa.out (by assumption)) : Kd.R d e W B ok v xs := h

theorem kk2 {P : Program} {ops : Array Oper} {Q : Exit → Act → World → Prop} {md : Region.Mode} {S : World → Prop} {ds : List Nat} {v : Value} {fuel : Nat} {l l' : Array Bool} {a a' : Act} {w : World} {oi : Oper} (i N : Nat) (h : wpAnyLast P md ops Q S ds fuel l' a' w) (hi : ops[i]? = some oi := by rfl) (hN : oi.dst = some N := by rfl) (hl : l.setIfInBounds i true = l' := by simp only [put_]; rfl) (hc : takeB md ops ds l l' i = true := by kernel_rfl) (hw : Region.wanted oi (yielded ops a.tmps) = true := by rfl) (hy : ∀ w, S w → (execOp a.eval oi).run P w = .ok (.value v) w := by rintro w' ⟨s0, s1⟩; go_simp; (with_reducible rfl)) (ha : a.put (some N) v = a' := by simp only [Act.put, put_, Qbe, Qbh]; rfl) (hQ : ∀ c a w, Q (.panic c) (a.put oi.dst v) w → Q (.panic c) a w := by exact fun _ _ _ h => h) (hS : S w := by assumption) : wpAnyLast P md ops Q S ds (fuel + 1) l a w :=
  take_ l' hi hN hc hQ (.inl ⟨hw, hy⟩) hS ha h
theorem kk5 {P : Program} {ops : Array Oper} {Q : Exit → Act → World → Prop} {md : Region.Mode} {S : World → Prop} {ds : List Nat} {v : Value} {fuel : Nat} {l l' : Array Bool} {a a' : Act} {w : World} {oi : Oper} (i N : Nat) (h : wpAnyLast P md ops Q S ds fuel l' a' w) (hi : ops[i]? = some oi := by rfl) (hN : oi.dst = some N := by rfl) (hl : l.setIfInBounds i true = l' := by simp only [put_]; rfl) (hc : takeB md ops ds l l' i = true := by kernel_rfl) (hw : Region.wanted oi (yielded ops a.tmps) = true := by rfl) (hy : ∀ w, S w → (execOp a.eval oi).run P w = .ok (.value v) w := by rintro w' ⟨s0, s1, s2, s3, s4⟩; go_simp; (with_reducible rfl)) (ha : a.put (some N) v = a' := by simp only [Act.put, put_, Qbe, Qbh]; rfl) (hQ : ∀ c a w, Q (.panic c) (a.put oi.dst v) w → Q (.panic c) a w := by exact fun _ _ _ h => h) (hS : S w := by assumption) : wpAnyLast P md ops Q S ds (fuel + 1) l a w :=
  take_ l' hi hN hc hQ (.inl ⟨hw, hy⟩) hS ha h
theorem tk5 {P : Program} {ops : Array Oper} {Q : Exit → Act → World → Prop} {md : Region.Mode} {S : World → Prop} {ds : List Nat} {v : Value} {fuel : Nat} {l l' : Array Bool} {a a' : Act} {w : World} {oi : Oper} {T : Bool × List (List Nat × List Nat)} {B : List Nat} (i N : Nat) (h : wpAnyLast P md ops Q S ds fuel l' a' w) (hi : ops[i]? = some oi := by rfl) (hN : oi.dst = some N := by rfl) (hl : l.setIfInBounds i true = l' := by simp only [put_]; rfl) (hT : Qaa (rtab md ops = T) := by assumption) (hB : Qaa (waitsOk T.2 B = true) := by assumption) (hc : takeW T B ds l.toList l'.toList i = true := by kernel_rfl) (hw : Region.wanted oi (yielded ops a.tmps) = true := by rfl) (hy : ∀ w, S w → (execOp a.eval oi).run P w = .ok (.value v) w := by rintro w' ⟨s0, s1, s2, s3, s4⟩; go_simp; (with_reducible rfl)) (ha : a.put (some N) v = a' := by simp only [Act.put, put_, Qbe, Qbh]; rfl) (hQ : ∀ c a w, Q (.panic c) (a.put oi.dst v) w → Q (.panic c) a w := by exact fun _ _ _ h => h) (hS : S w := by assumption) : wpAnyLast P md ops Q S ds (fuel + 1) l a w :=
  take_ l' hi hN (take_ofW hT.out hB.out hc) hQ (.inl ⟨hw, hy⟩) hS ha h
theorem tk6 {P : Program} {ops : Array Oper} {Q : Exit → Act → World → Prop} {md : Region.Mode} {S : World → Prop} {ds : List Nat} {v : Value} {fuel : Nat} {l l' : Array Bool} {a a' : Act} {w : World} {oi : Oper} {T : Bool × List (List Nat × List Nat)} {B : List Nat} (i N : Nat) (h : wpAnyLast P md ops Q S ds fuel l' a' w) (hi : ops[i]? = some oi := by rfl) (hN : oi.dst = some N := by rfl) (hl : l.setIfInBounds i true = l' := by simp only [put_]; rfl) (hT : Qaa (rtab md ops = T) := by assumption) (hB : Qaa (waitsOk T.2 B = true) := by assumption) (hc : takeW T B ds l.toList l'.toList i = true := by kernel_rfl) (hw : Region.wanted oi (yielded ops a.tmps) = true := by rfl) (hy : ∀ w, S w → (execOp a.eval oi).run P w = .ok (.value v) w := by rintro w' ⟨s0, s1, s2, s3, s4, s5⟩; go_simp; (with_reducible rfl)) (ha : a.put (some N) v = a' := by simp only [Act.put, put_, Qbe, Qbh]; rfl) (hQ : ∀ c a w, Q (.panic c) (a.put oi.dst v) w → Q (.panic c) a w := by exact fun _ _ _ h => h) (hS : S w := by assumption) : wpAnyLast P md ops Q S ds (fuel + 1) l a w :=
  take_ l' hi hN (take_ofW hT.out hB.out hc) hQ (.inl ⟨hw, hy⟩) hS ha h
theorem tk9 {P : Program} {ops : Array Oper} {Q : Exit → Act → World → Prop} {md : Region.Mode} {S : World → Prop} {ds : List Nat} {v : Value} {fuel : Nat} {l l' : Array Bool} {a a' : Act} {w : World} {oi : Oper} {T : Bool × List (List Nat × List Nat)} {B : List Nat} (i N : Nat) (h : wpAnyLast P md ops Q S ds fuel l' a' w) (hi : ops[i]? = some oi := by rfl) (hN : oi.dst = some N := by rfl) (hl : l.setIfInBounds i true = l' := by simp only [put_]; rfl) (hT : Qaa (rtab md ops = T) := by assumption) (hB : Qaa (waitsOk T.2 B = true) := by assumption) (hc : takeW T B ds l.toList l'.toList i = true := by kernel_rfl) (hw : Region.wanted oi (yielded ops a.tmps) = true := by rfl) (hy : ∀ w, S w → (execOp a.eval oi).run P w = .ok (.value v) w := by rintro w' ⟨s0, s1, s2, s3, s4, s5, s6, s7, s8⟩; go_simp; (with_reducible rfl)) (ha : a.put (some N) v = a' := by simp only [Act.put, put_, Qbe, Qbh]; rfl) (hQ : ∀ c a w, Q (.panic c) (a.put oi.dst v) w → Q (.panic c) a w := by exact fun _ _ _ h => h) (hS : S w := by assumption) : wpAnyLast P md ops Q S ds (fuel + 1) l a w :=
  take_ l' hi hN (take_ofW hT.out hB.out hc) hQ (.inl ⟨hw, hy⟩) hS ha h
theorem tk12 {P : Program} {ops : Array Oper} {Q : Exit → Act → World → Prop} {md : Region.Mode} {S : World → Prop} {ds : List Nat} {v : Value} {fuel : Nat} {l l' : Array Bool} {a a' : Act} {w : World} {oi : Oper} {T : Bool × List (List Nat × List Nat)} {B : List Nat} (i N : Nat) (h : wpAnyLast P md ops Q S ds fuel l' a' w) (hi : ops[i]? = some oi := by rfl) (hN : oi.dst = some N := by rfl) (hl : l.setIfInBounds i true = l' := by simp only [put_]; rfl) (hT : Qaa (rtab md ops = T) := by assumption) (hB : Qaa (waitsOk T.2 B = true) := by assumption) (hc : takeW T B ds l.toList l'.toList i = true := by kernel_rfl) (hw : Region.wanted oi (yielded ops a.tmps) = true := by rfl) (hy : ∀ w, S w → (execOp a.eval oi).run P w = .ok (.value v) w := by rintro w' ⟨s0, s1, s2, s3, s4, s5, s6, s7, s8, s9, s10, s11⟩; go_simp; (with_reducible rfl)) (ha : a.put (some N) v = a' := by simp only [Act.put, put_, Qbe, Qbh]; rfl) (hQ : ∀ c a w, Q (.panic c) (a.put oi.dst v) w → Q (.panic c) a w := by exact fun _ _ _ h => h) (hS : S w := by assumption) : wpAnyLast P md ops Q S ds (fuel + 1) l a w :=
  take_ l' hi hN (take_ofW hT.out hB.out hc) hQ (.inl ⟨hw, hy⟩) hS ha h
theorem tk15 {P : Program} {ops : Array Oper} {Q : Exit → Act → World → Prop} {md : Region.Mode} {S : World → Prop} {ds : List Nat} {v : Value} {fuel : Nat} {l l' : Array Bool} {a a' : Act} {w : World} {oi : Oper} {T : Bool × List (List Nat × List Nat)} {B : List Nat} (i N : Nat) (h : wpAnyLast P md ops Q S ds fuel l' a' w) (hi : ops[i]? = some oi := by rfl) (hN : oi.dst = some N := by rfl) (hl : l.setIfInBounds i true = l' := by simp only [put_]; rfl) (hT : Qaa (rtab md ops = T) := by assumption) (hB : Qaa (waitsOk T.2 B = true) := by assumption) (hc : takeW T B ds l.toList l'.toList i = true := by kernel_rfl) (hw : Region.wanted oi (yielded ops a.tmps) = true := by rfl) (hy : ∀ w, S w → (execOp a.eval oi).run P w = .ok (.value v) w := by rintro w' ⟨s0, s1, s2, s3, s4, s5, s6, s7, s8, s9, s10, s11, s12, s13, s14⟩; go_simp; (with_reducible rfl)) (ha : a.put (some N) v = a' := by simp only [Act.put, put_, Qbe, Qbh]; rfl) (hQ : ∀ c a w, Q (.panic c) (a.put oi.dst v) w → Q (.panic c) a w := by exact fun _ _ _ h => h) (hS : S w := by assumption) : wpAnyLast P md ops Q S ds (fuel + 1) l a w :=
  take_ l' hi hN (take_ofW hT.out hB.out hc) hQ (.inl ⟨hw, hy⟩) hS ha h
theorem tk18 {P : Program} {ops : Array Oper} {Q : Exit → Act → World → Prop} {md : Region.Mode} {S : World → Prop} {ds : List Nat} {v : Value} {fuel : Nat} {l l' : Array Bool} {a a' : Act} {w : World} {oi : Oper} {T : Bool × List (List Nat × List Nat)} {B : List Nat} (i N : Nat) (h : wpAnyLast P md ops Q S ds fuel l' a' w) (hi : ops[i]? = some oi := by rfl) (hN : oi.dst = some N := by rfl) (hl : l.setIfInBounds i true = l' := by simp only [put_]; rfl) (hT : Qaa (rtab md ops = T) := by assumption) (hB : Qaa (waitsOk T.2 B = true) := by assumption) (hc : takeW T B ds l.toList l'.toList i = true := by kernel_rfl) (hw : Region.wanted oi (yielded ops a.tmps) = true := by rfl) (hy : ∀ w, S w → (execOp a.eval oi).run P w = .ok (.value v) w := by rintro w' ⟨s0, s1, s2, s3, s4, s5, s6, s7, s8, s9, s10, s11, s12, s13, s14, s15, s16, s17⟩; go_simp; (with_reducible rfl)) (ha : a.put (some N) v = a' := by simp only [Act.put, put_, Qbe, Qbh]; rfl) (hQ : ∀ c a w, Q (.panic c) (a.put oi.dst v) w → Q (.panic c) a w := by exact fun _ _ _ h => h) (hS : S w := by assumption) : wpAnyLast P md ops Q S ds (fuel + 1) l a w :=
  take_ l' hi hN (take_ofW hT.out hB.out hc) hQ (.inl ⟨hw, hy⟩) hS ha h
theorem gL {P : Program} {ops : Array Oper} {Q : Exit → Act → World → Prop} {rest : List Oper} {oi : Oper} {a : Act} {w : World} {f : FuncId} {fn : Func} {az : Array Operand} {ts : Array TypeId} (N : Nat) (hf : P.funcs[f]? = some fn) (args : Array Value) (h : Calls P f args w fun e w' => ∃ v, e = .returned v ∧ wpList P ops Q rest (a.put (some N) v) w') (hd : oi.dst = some N := by rfl) (hg : oi.guard = none := by rfl) (hname : (fn.name == "runtime.NumGoroutine") = false := by kernel_rfl) (hb : fn.body.isSome = true := by rfl) (hop : oi.op = .call { callee := .value (.func f), args := az, argTypes := ts } := by rfl) (hargs : az.map a.eval = args := by (try simp only [List.map_toArray, List.map_cons, List.map_nil]); first | done | rfl | (simp only [List.length_drop, List.length_take]; rfl)) : wpList P ops Q (oi :: rest) a w :=
  goesL_ (some N) hd hg hf hname hb args hop hargs h
theorem cb_ {W w : World} {p : Addr} {v : Value} (hb : Qaa (Below w.heap.size w W)) (h : w.cell? p = some v) : W.cell? p = some v := (hb.out.cell (World.block_lt_of_cell? w _ h)).trans h
theorem cc_ {W w : World} {p : Addr} {v : Value} (hb : Below w.heap.size w W) (h : w.cell? p = some v) : W.cell? p = some v := (hb.cell (World.block_lt_of_cell? w _ h)).trans h
theorem kd_ {α : Type} {d : Kd α} {w0 W : World} {A : Option Addr} {n : Nat} {xs : List α} (h0 : Kd.C d w0 A n xs) (hb : Below w0.heap.size w0 W := by repeat (first | (with_reducible first | exact Below.refl _ _ | apply Qai | apply QaK | apply Qau))) : Kd.C d W A n xs := Kd.Qa8 h0 hb
theorem dd_ {p : Prop} [Decidable p] (h : decide p = true := by first | (with_reducible assumption) | assumption) : p := of_decide_eq_true h
theorem gz_ {w W : World} {g : Nat} (hg : g = W.heap.size) (h : Below w.heap.size w W := by repeat (first | (with_reducible exact Qaa.out (by assumption)) | (with_reducible first | apply Qai | apply QaK | apply Qau | refine below_set ?_ (Qaa.out (by assumption))) | exact Qaa.out (by assumption))) : Qaa (w.heap.size ≤ g) := ⟨by rw [hg]; exact QaI h⟩
theorem nl_ {W : World} {g g' : Nat} {o : Obj} (hg : g' = W.heap.size) (h : W.heap[g]? = some o := by (with_reducible repeat (first | refine Qat ?_ _ | refine Qan ?_ | refine Qam ?_ _)); exact Qaa.out (by assumption)) : Qaa (g ≠ g') := ⟨by rw [hg]; exact Nat.ne_of_lt (Qbi h)⟩
theorem ng_ {W : World} {g g' : Nat} {o : Obj} (hg : g' = W.heap.size) (h : W.heap[g]? = some o := by (with_reducible repeat (first | refine Qat ?_ _ | refine Qan ?_ | refine Qam ?_ _)); exact Qaa.out (by assumption)) : Qaa (g' ≠ g) := ⟨by rw [hg]; exact Nat.ne_of_gt (Qbi h)⟩
abbrev cgl_iisisssss (w : World) (p : Nat) (a0 : Int) (a1 : Int) (a2 : ByteArray) (a3 : Int) (a4 : ByteArray) (a5 : ByteArray) (a6 : ByteArray) (a7 : ByteArray) (a8 : ByteArray) : Prop := w.cell? ⟨p, 0, none⟩ = some (.int .i64 a0) ∧ w.cell? ⟨p, 1, none⟩ = some (.int .i64 a1) ∧ w.cell? ⟨p, 2, none⟩ = some (.string a2) ∧ w.cell? ⟨p, 3, none⟩ = some (.int .i64 a3) ∧ w.cell? ⟨p, 4, none⟩ = some (.string a4) ∧ w.cell? ⟨p, 5, none⟩ = some (.string a5) ∧ w.cell? ⟨p, 6, none⟩ = some (.string a6) ∧ w.cell? ⟨p, 7, none⟩ = some (.string a7) ∧ w.cell? ⟨p, 8, none⟩ = some (.string a8)
abbrev cg_iisisssss (w : World) (p : Nat) (a0 : Int) (a1 : Int) (a2 : ByteArray) (a3 : Int) (a4 : ByteArray) (a5 : ByteArray) (a6 : ByteArray) (a7 : ByteArray) (a8 : ByteArray) (R : Prop) : Prop := w.cell? ⟨p, 0, none⟩ = some (.int .i64 a0) ∧ w.cell? ⟨p, 1, none⟩ = some (.int .i64 a1) ∧ w.cell? ⟨p, 2, none⟩ = some (.string a2) ∧ w.cell? ⟨p, 3, none⟩ = some (.int .i64 a3) ∧ w.cell? ⟨p, 4, none⟩ = some (.string a4) ∧ w.cell? ⟨p, 5, none⟩ = some (.string a5) ∧ w.cell? ⟨p, 6, none⟩ = some (.string a6) ∧ w.cell? ⟨p, 7, none⟩ = some (.string a7) ∧ w.cell? ⟨p, 8, none⟩ = some (.string a8) ∧ R
abbrev cgl_ss (w : World) (p : Nat) (a0 : ByteArray) (a1 : ByteArray) : Prop := w.cell? ⟨p, 0, none⟩ = some (.string a0) ∧ w.cell? ⟨p, 1, none⟩ = some (.string a1)
abbrev cg_ss (w : World) (p : Nat) (a0 : ByteArray) (a1 : ByteArray) (R : Prop) : Prop := w.cell? ⟨p, 0, none⟩ = some (.string a0) ∧ w.cell? ⟨p, 1, none⟩ = some (.string a1) ∧ R
abbrev crl_iisisssss (w : World) (p : Addr) (a0 : Int) (a1 : Int) (a2 : ByteArray) (a3 : Int) (a4 : ByteArray) (a5 : ByteArray) (a6 : ByteArray) (a7 : ByteArray) (a8 : ByteArray) : Prop := w.cell? p = some (.int .i64 a0) ∧ w.cell? ⟨p.block, p.off + 1, none⟩ = some (.int .i64 a1) ∧ w.cell? ⟨p.block, p.off + 2, none⟩ = some (.string a2) ∧ w.cell? ⟨p.block, p.off + 3, none⟩ = some (.int .i64 a3) ∧ w.cell? ⟨p.block, p.off + 4, none⟩ = some (.string a4) ∧ w.cell? ⟨p.block, p.off + 5, none⟩ = some (.string a5) ∧ w.cell? ⟨p.block, p.off + 6, none⟩ = some (.string a6) ∧ w.cell? ⟨p.block, p.off + 7, none⟩ = some (.string a7) ∧ w.cell? ⟨p.block, p.off + 8, none⟩ = some (.string a8)
abbrev cr_iisisssss (w : World) (p : Addr) (a0 : Int) (a1 : Int) (a2 : ByteArray) (a3 : Int) (a4 : ByteArray) (a5 : ByteArray) (a6 : ByteArray) (a7 : ByteArray) (a8 : ByteArray) (R : Prop) : Prop := w.cell? p = some (.int .i64 a0) ∧ w.cell? ⟨p.block, p.off + 1, none⟩ = some (.int .i64 a1) ∧ w.cell? ⟨p.block, p.off + 2, none⟩ = some (.string a2) ∧ w.cell? ⟨p.block, p.off + 3, none⟩ = some (.int .i64 a3) ∧ w.cell? ⟨p.block, p.off + 4, none⟩ = some (.string a4) ∧ w.cell? ⟨p.block, p.off + 5, none⟩ = some (.string a5) ∧ w.cell? ⟨p.block, p.off + 6, none⟩ = some (.string a6) ∧ w.cell? ⟨p.block, p.off + 7, none⟩ = some (.string a7) ∧ w.cell? ⟨p.block, p.off + 8, none⟩ = some (.string a8) ∧ R
abbrev crl_sss (w : World) (p : Addr) (a0 : ByteArray) (a1 : ByteArray) (a2 : ByteArray) : Prop := w.cell? p = some (.string a0) ∧ w.cell? ⟨p.block, p.off + 1, none⟩ = some (.string a1) ∧ w.cell? ⟨p.block, p.off + 2, none⟩ = some (.string a2)
abbrev cr_sss (w : World) (p : Addr) (a0 : ByteArray) (a1 : ByteArray) (a2 : ByteArray) (R : Prop) : Prop := w.cell? p = some (.string a0) ∧ w.cell? ⟨p.block, p.off + 1, none⟩ = some (.string a1) ∧ w.cell? ⟨p.block, p.off + 2, none⟩ = some (.string a2) ∧ R
theorem cw_2 {R : Prop} {W : World} {g : Nat} {t : TypeId} {a0 a1 : Value} (h : W.heap[g]? = some (.cells #[a0, a1] t (0, 0))) (r : R) : W.cell? ⟨g, 0, none⟩ = some a0 ∧ W.cell? ⟨g, 1, none⟩ = some a1 ∧ R := ⟨(Qak h 0).trans rfl, (Qak h 1).trans rfl, r⟩
theorem cl_2 {W : World} {g : Nat} {t : TypeId} {a0 a1 : Value} (h : W.heap[g]? = some (.cells #[a0, a1] t (0, 0))) : W.cell? ⟨g, 0, none⟩ = some a0 ∧ W.cell? ⟨g, 1, none⟩ = some a1 := ⟨(Qak h 0).trans rfl, (Qak h 1).trans rfl⟩
theorem cw_9 {R : Prop} {W : World} {g : Nat} {t : TypeId} {a0 a1 a2 a3 a4 a5 a6 a7 a8 : Value} (h : W.heap[g]? = some (.cells #[a0, a1, a2, a3, a4, a5, a6, a7, a8] t (0, 0))) (r : R) : W.cell? ⟨g, 0, none⟩ = some a0 ∧ W.cell? ⟨g, 1, none⟩ = some a1 ∧ W.cell? ⟨g, 2, none⟩ = some a2 ∧ W.cell? ⟨g, 3, none⟩ = some a3 ∧ W.cell? ⟨g, 4, none⟩ = some a4 ∧ W.cell? ⟨g, 5, none⟩ = some a5 ∧ W.cell? ⟨g, 6, none⟩ = some a6 ∧ W.cell? ⟨g, 7, none⟩ = some a7 ∧ W.cell? ⟨g, 8, none⟩ = some a8 ∧ R := ⟨(Qak h 0).trans rfl, (Qak h 1).trans rfl, (Qak h 2).trans rfl, (Qak h 3).trans rfl, (Qak h 4).trans rfl, (Qak h 5).trans rfl, (Qak h 6).trans rfl, (Qak h 7).trans rfl, (Qak h 8).trans rfl, r⟩
theorem cl_9 {W : World} {g : Nat} {t : TypeId} {a0 a1 a2 a3 a4 a5 a6 a7 a8 : Value} (h : W.heap[g]? = some (.cells #[a0, a1, a2, a3, a4, a5, a6, a7, a8] t (0, 0))) : W.cell? ⟨g, 0, none⟩ = some a0 ∧ W.cell? ⟨g, 1, none⟩ = some a1 ∧ W.cell? ⟨g, 2, none⟩ = some a2 ∧ W.cell? ⟨g, 3, none⟩ = some a3 ∧ W.cell? ⟨g, 4, none⟩ = some a4 ∧ W.cell? ⟨g, 5, none⟩ = some a5 ∧ W.cell? ⟨g, 6, none⟩ = some a6 ∧ W.cell? ⟨g, 7, none⟩ = some a7 ∧ W.cell? ⟨g, 8, none⟩ = some a8 := ⟨(Qak h 0).trans rfl, (Qak h 1).trans rfl, (Qak h 2).trans rfl, (Qak h 3).trans rfl, (Qak h 4).trans rfl, (Qak h 5).trans rfl, (Qak h 6).trans rfl, (Qak h 7).trans rfl, (Qak h 8).trans rfl⟩
section
attribute [local go_sem] QaE QaC QaS QaR Qaw Qav QaD QaB
def errW : Option Int → Value
  | none => .nilIface
  | some c => .iface 0 (.int .i64 c)
theorem Qap : errW none = .nilIface := rfl
theorem Qao (c : Int) : errW (some c) = .iface 0 (.int .i64 c) := rfl
theorem info35 : (Tryz.prog.info? 35).map (fun i => (i.zero, i.size, i.bytes)) = some (some (.agg #[(.int .i64 0), (.int .i64 0), (.string ⟨#[]⟩), (.int .i64 0), (.string ⟨#[]⟩), (.string ⟨#[]⟩), (.string ⟨#[]⟩), (.string ⟨#[]⟩), (.string ⟨#[]⟩)]), 9, 120) := by kernel_rfl
theorem info62 : (Tryz.prog.info? 62).map (fun i => (i.zero, i.size, i.bytes)) = some (some (.agg #[(.string ⟨#[]⟩), (.string ⟨#[]⟩), (.string ⟨#[]⟩)]), 3, 48) := by kernel_rfl
structure S33 where
  f0 : ByteArray
  f1 : ByteArray
def z33 : S33 := ⟨(⟨#[]⟩ : ByteArray), (⟨#[]⟩ : ByteArray)⟩
def k33 : Kd S33 := Kd.iso (Kd.pair Kd.string Kd.string) (fun x : S33 => (x.f0, x.f1))
theorem k33_open {w : World} {x : S33} {cs : List Value} (h : k33.K w x cs) : cs = [.string x.f0, .string x.f1] := by
  obtain ⟨_, _, rfl, rfl, rfl⟩ := h; exact rfl
theorem k33_openM {w : World} {base : Nat} {ok : Nat → Prop} {x : S33} {cs : List Value} (h : k33.M w base ok x cs) : cs = [.string x.f0, .string x.f1] := by
  obtain ⟨_, _, rfl, rfl, rfl⟩ := h; exact rfl
theorem k33_mk (w : World) (x : S33)  : k33.K w x [.string x.f0, .string x.f1] := ⟨[.string x.f0], [.string x.f1], rfl, rfl, rfl⟩
theorem k33_mkM (w : World) (base : Nat) (ok : Nat → Prop) (x : S33)  : k33.M w base ok x [.string x.f0, .string x.f1] := ⟨[.string x.f0], [.string x.f1], rfl, rfl, rfl⟩
def Qa7 (xs : List S33) (i : Int) : S33 := xs.getD i.toNat z33
theorem at_T33 {w : World} {A : Option Addr} {n : Nat} {xs : List S33} (h : Kd.C k33 w A n xs) (i : Int) (h0 : 0 ≤ i) (h1 : i < n) : ∃ ad , A = some ad ∧ w.cell? (ad.add (i.toNat * 2)) = some (.string (Qa7 xs i).f0) ∧ w.cell? ⟨(ad.add (i.toNat * 2)).block, (ad.add (i.toNat * 2)).off + 1, none⟩ = some (.string (Qa7 xs i).f1) := by
  obtain ⟨ad, c, e, _, hK, hc0⟩ := Kd.C_get h z33 i h0 h1; have hc : ∀ j u, c[j]? = some u → w.cell? (ad.add (i.toNat * 2 + j)) = some u := hc0; obtain rfl := k33_open hK; exact ⟨ad, e, hc 0 _ rfl, by rw [← Qbj _ _ 1 (by omega)]; exact hc 1 _ rfl⟩
structure S102 where
  f0 : S33
  f1 : ByteArray
def z102 : S102 := ⟨z33, (⟨#[]⟩ : ByteArray)⟩
def k102 : Kd S102 := Kd.iso (Kd.pair k33 Kd.string) (fun x : S102 => (x.f0, x.f1))
theorem k102_open {w : World} {x : S102} {cs : List Value} (h : k102.K w x cs) : cs = [.string x.f0.f0, .string x.f0.f1, .string x.f1] := by
  obtain ⟨_, _, rfl, s0, rfl⟩ := h; obtain rfl := k33_open s0; exact rfl
theorem k102_openM {w : World} {base : Nat} {ok : Nat → Prop} {x : S102} {cs : List Value} (h : k102.M w base ok x cs) : cs = [.string x.f0.f0, .string x.f0.f1, .string x.f1] := by
  obtain ⟨_, _, rfl, s0, rfl⟩ := h; obtain rfl := k33_openM s0; exact rfl
theorem k102_mkM (w : World) (base : Nat) (ok : Nat → Prop) (x : S102)  : k102.M w base ok x [.string x.f0.f0, .string x.f0.f1, .string x.f1] := ⟨[.string x.f0.f0, .string x.f0.f1], [.string x.f1], rfl, (k33_mkM w base ok x.f0 ), rfl⟩
def Qbx (xs : List S102) (i : Int) : S102 := xs.getD i.toNat z102
theorem at_T102 {w : World} {A : Option Addr} {n : Nat} {xs : List S102} (h : Kd.C k102 w A n xs) (i : Int) (h0 : 0 ≤ i) (h1 : i < n) : ∃ ad , A = some ad ∧ w.cell? (ad.add (i.toNat * 3)) = some (.string (Qbx xs i).f0.f0) ∧ w.cell? ⟨(ad.add (i.toNat * 3)).block, (ad.add (i.toNat * 3)).off + 1, none⟩ = some (.string (Qbx xs i).f0.f1) ∧ w.cell? ⟨(ad.add (i.toNat * 3)).block, (ad.add (i.toNat * 3)).off + 2, none⟩ = some (.string (Qbx xs i).f1) := by
  obtain ⟨ad, c, e, _, hK, hc0⟩ := Kd.C_get h z102 i h0 h1; have hc : ∀ j u, c[j]? = some u → w.cell? (ad.add (i.toNat * 3 + j)) = some u := hc0; obtain rfl := k102_open hK; exact ⟨ad, e, hc 0 _ rfl, by rw [← Qbj _ _ 1 (by omega)]; exact hc 1 _ rfl, by rw [← Qbj _ _ 2 (by omega)]; exact hc 2 _ rfl⟩
structure S31 where
  f0 : Int
  f1 : Int
def z31 : S31 := ⟨(0 : Int), (0 : Int)⟩
def k31 : Kd S31 := Kd.iso (Kd.pair (Kd.int .i64) (Kd.int .i64)) (fun x : S31 => (x.f0, x.f1))
theorem k31_open {w : World} {x : S31} {cs : List Value} (h : k31.K w x cs) : cs = [.int .i64 x.f0, .int .i64 x.f1] := by
  obtain ⟨_, _, rfl, rfl, rfl⟩ := h; exact rfl
theorem k31_openM {w : World} {base : Nat} {ok : Nat → Prop} {x : S31} {cs : List Value} (h : k31.M w base ok x cs) : cs = [.int .i64 x.f0, .int .i64 x.f1] := by
  obtain ⟨_, _, rfl, rfl, rfl⟩ := h; exact rfl
theorem k31_mk (w : World) (x : S31)  : k31.K w x [.int .i64 x.f0, .int .i64 x.f1] := ⟨[.int .i64 x.f0], [.int .i64 x.f1], rfl, rfl, rfl⟩
theorem k31_mkM (w : World) (base : Nat) (ok : Nat → Prop) (x : S31)  : k31.M w base ok x [.int .i64 x.f0, .int .i64 x.f1] := ⟨[.int .i64 x.f0], [.int .i64 x.f1], rfl, rfl, rfl⟩
def QbH (xs : List S31) (i : Int) : S31 := xs.getD i.toNat z31
theorem at_T31 {w : World} {A : Option Addr} {n : Nat} {xs : List S31} (h : Kd.C k31 w A n xs) (i : Int) (h0 : 0 ≤ i) (h1 : i < n) : ∃ ad , A = some ad ∧ w.cell? (ad.add (i.toNat * 2)) = some (.int .i64 (QbH xs i).f0) ∧ w.cell? ⟨(ad.add (i.toNat * 2)).block, (ad.add (i.toNat * 2)).off + 1, none⟩ = some (.int .i64 (QbH xs i).f1) := by
  obtain ⟨ad, c, e, _, hK, hc0⟩ := Kd.C_get h z31 i h0 h1; have hc : ∀ j u, c[j]? = some u → w.cell? (ad.add (i.toNat * 2 + j)) = some u := hc0; obtain rfl := k31_open hK; exact ⟨ad, e, hc 0 _ rfl, by rw [← Qbj _ _ 1 (by omega)]; exact hc 1 _ rfl⟩
structure S35 where
  f0 : S31
  f1 : ByteArray
  f2 : Int
  f3 : ByteArray
  f4 : S33
  f5 : S33
def z35 : S35 := ⟨z31, (⟨#[]⟩ : ByteArray), (0 : Int), (⟨#[]⟩ : ByteArray), z33, z33⟩
def k35 : Kd S35 := Kd.iso (Kd.pair k31 (Kd.pair Kd.string (Kd.pair (Kd.int .i64) (Kd.pair Kd.string (Kd.pair k33 k33))))) (fun x : S35 => (x.f0, x.f1, x.f2, x.f3, x.f4, x.f5))
theorem k35_open {w : World} {x : S35} {cs : List Value} (h : k35.K w x cs) : cs = [.int .i64 x.f0.f0, .int .i64 x.f0.f1, .string x.f1, .int .i64 x.f2, .string x.f3, .string x.f4.f0, .string x.f4.f1, .string x.f5.f0, .string x.f5.f1] := by
  obtain ⟨_, _, rfl, s0, ⟨_, _, rfl, rfl, ⟨_, _, rfl, rfl, ⟨_, _, rfl, rfl, ⟨_, _, rfl, s5, s7⟩⟩⟩⟩⟩ := h; obtain rfl := k31_open s0; obtain rfl := k33_open s5; obtain rfl := k33_open s7; exact rfl
theorem k35_openM {w : World} {base : Nat} {ok : Nat → Prop} {x : S35} {cs : List Value} (h : k35.M w base ok x cs) : cs = [.int .i64 x.f0.f0, .int .i64 x.f0.f1, .string x.f1, .int .i64 x.f2, .string x.f3, .string x.f4.f0, .string x.f4.f1, .string x.f5.f0, .string x.f5.f1] := by
  obtain ⟨_, _, rfl, s0, ⟨_, _, rfl, rfl, ⟨_, _, rfl, rfl, ⟨_, _, rfl, rfl, ⟨_, _, rfl, s5, s7⟩⟩⟩⟩⟩ := h; obtain rfl := k31_openM s0; obtain rfl := k33_openM s5; obtain rfl := k33_openM s7; exact rfl
theorem k35_mk (w : World) (x : S35)  : k35.K w x [.int .i64 x.f0.f0, .int .i64 x.f0.f1, .string x.f1, .int .i64 x.f2, .string x.f3, .string x.f4.f0, .string x.f4.f1, .string x.f5.f0, .string x.f5.f1] := ⟨[.int .i64 x.f0.f0, .int .i64 x.f0.f1], [.string x.f1, .int .i64 x.f2, .string x.f3, .string x.f4.f0, .string x.f4.f1, .string x.f5.f0, .string x.f5.f1], rfl, (k31_mk w x.f0 ), ⟨[.string x.f1], [.int .i64 x.f2, .string x.f3, .string x.f4.f0, .string x.f4.f1, .string x.f5.f0, .string x.f5.f1], rfl, rfl, ⟨[.int .i64 x.f2], [.string x.f3, .string x.f4.f0, .string x.f4.f1, .string x.f5.f0, .string x.f5.f1], rfl, rfl, ⟨[.string x.f3], [.string x.f4.f0, .string x.f4.f1, .string x.f5.f0, .string x.f5.f1], rfl, rfl, ⟨[.string x.f4.f0, .string x.f4.f1], [.string x.f5.f0, .string x.f5.f1], rfl, (k33_mk w x.f4 ), (k33_mk w x.f5 )⟩⟩⟩⟩⟩
theorem k35_mkM (w : World) (base : Nat) (ok : Nat → Prop) (x : S35)  : k35.M w base ok x [.int .i64 x.f0.f0, .int .i64 x.f0.f1, .string x.f1, .int .i64 x.f2, .string x.f3, .string x.f4.f0, .string x.f4.f1, .string x.f5.f0, .string x.f5.f1] := ⟨[.int .i64 x.f0.f0, .int .i64 x.f0.f1], [.string x.f1, .int .i64 x.f2, .string x.f3, .string x.f4.f0, .string x.f4.f1, .string x.f5.f0, .string x.f5.f1], rfl, (k31_mkM w base ok x.f0 ), ⟨[.string x.f1], [.int .i64 x.f2, .string x.f3, .string x.f4.f0, .string x.f4.f1, .string x.f5.f0, .string x.f5.f1], rfl, rfl, ⟨[.int .i64 x.f2], [.string x.f3, .string x.f4.f0, .string x.f4.f1, .string x.f5.f0, .string x.f5.f1], rfl, rfl, ⟨[.string x.f3], [.string x.f4.f0, .string x.f4.f1, .string x.f5.f0, .string x.f5.f1], rfl, rfl, ⟨[.string x.f4.f0, .string x.f4.f1], [.string x.f5.f0, .string x.f5.f1], rfl, (k33_mkM w base ok x.f4 ), (k33_mkM w base ok x.f5 )⟩⟩⟩⟩⟩
def Qae (xs : List S35) (i : Int) : S35 := xs.getD i.toNat z35
theorem at_T35 {w : World} {A : Option Addr} {n : Nat} {xs : List S35} (h : Kd.C k35 w A n xs) (i : Int) (h0 : 0 ≤ i) (h1 : i < n) : ∃ ad , A = some ad ∧ w.cell? (ad.add (i.toNat * 9)) = some (.int .i64 (Qae xs i).f0.f0) ∧ w.cell? ⟨(ad.add (i.toNat * 9)).block, (ad.add (i.toNat * 9)).off + 1, none⟩ = some (.int .i64 (Qae xs i).f0.f1) ∧ w.cell? ⟨(ad.add (i.toNat * 9)).block, (ad.add (i.toNat * 9)).off + 2, none⟩ = some (.string (Qae xs i).f1) ∧ w.cell? ⟨(ad.add (i.toNat * 9)).block, (ad.add (i.toNat * 9)).off + 3, none⟩ = some (.int .i64 (Qae xs i).f2) ∧ w.cell? ⟨(ad.add (i.toNat * 9)).block, (ad.add (i.toNat * 9)).off + 4, none⟩ = some (.string (Qae xs i).f3) ∧ w.cell? ⟨(ad.add (i.toNat * 9)).block, (ad.add (i.toNat * 9)).off + 5, none⟩ = some (.string (Qae xs i).f4.f0) ∧ w.cell? ⟨(ad.add (i.toNat * 9)).block, (ad.add (i.toNat * 9)).off + 6, none⟩ = some (.string (Qae xs i).f4.f1) ∧ w.cell? ⟨(ad.add (i.toNat * 9)).block, (ad.add (i.toNat * 9)).off + 7, none⟩ = some (.string (Qae xs i).f5.f0) ∧ w.cell? ⟨(ad.add (i.toNat * 9)).block, (ad.add (i.toNat * 9)).off + 8, none⟩ = some (.string (Qae xs i).f5.f1) := by
  obtain ⟨ad, c, e, _, hK, hc0⟩ := Kd.C_get h z35 i h0 h1; have hc : ∀ j u, c[j]? = some u → w.cell? (ad.add (i.toNat * 9 + j)) = some u := hc0; obtain rfl := k35_open hK; exact ⟨ad, e, hc 0 _ rfl, by rw [← Qbj _ _ 1 (by omega)]; exact hc 1 _ rfl, by rw [← Qbj _ _ 2 (by omega)]; exact hc 2 _ rfl, by rw [← Qbj _ _ 3 (by omega)]; exact hc 3 _ rfl, by rw [← Qbj _ _ 4 (by omega)]; exact hc 4 _ rfl, by rw [← Qbj _ _ 5 (by omega)]; exact hc 5 _ rfl, by rw [← Qbj _ _ 6 (by omega)]; exact hc 6 _ rfl, by rw [← Qbj _ _ 7 (by omega)]; exact hc 7 _ rfl, by rw [← Qbj _ _ 8 (by omega)]; exact hc 8 _ rfl⟩
structure S62 where
  f0 : S33
  f1 : ByteArray
def z62 : S62 := ⟨z33, (⟨#[]⟩ : ByteArray)⟩
def k62 : Kd S62 := Kd.iso (Kd.pair k33 Kd.string) (fun x : S62 => (x.f0, x.f1))
theorem k62_open {w : World} {x : S62} {cs : List Value} (h : k62.K w x cs) : cs = [.string x.f0.f0, .string x.f0.f1, .string x.f1] := by
  obtain ⟨_, _, rfl, s0, rfl⟩ := h; obtain rfl := k33_open s0; exact rfl
theorem k62_mkM (w : World) (base : Nat) (ok : Nat → Prop) (x : S62)  : k62.M w base ok x [.string x.f0.f0, .string x.f0.f1, .string x.f1] := ⟨[.string x.f0.f0, .string x.f0.f1], [.string x.f1], rfl, (k33_mkM w base ok x.f0 ), rfl⟩
def Qah (xs : List S62) (i : Int) : S62 := xs.getD i.toNat z62
theorem QbL {w : World} {A : Option Addr} {n : Nat} {xs : List S62} (h : Kd.C k62 w A n xs) (i : Int) (h0 : 0 ≤ i) (h1 : i < n) : ∃ ad , A = some ad ∧ w.cell? (ad.add (i.toNat * 3)) = some (.string (Qah xs i).f0.f0) ∧ w.cell? ⟨(ad.add (i.toNat * 3)).block, (ad.add (i.toNat * 3)).off + 1, none⟩ = some (.string (Qah xs i).f0.f1) ∧ w.cell? ⟨(ad.add (i.toNat * 3)).block, (ad.add (i.toNat * 3)).off + 2, none⟩ = some (.string (Qah xs i).f1) := by
  obtain ⟨ad, c, e, _, hK, hc0⟩ := Kd.C_get h z62 i h0 h1; have hc : ∀ j u, c[j]? = some u → w.cell? (ad.add (i.toNat * 3 + j)) = some u := hc0; obtain rfl := k62_open hK; exact ⟨ad, e, hc 0 _ rfl, by rw [← Qbj _ _ 1 (by omega)]; exact hc 1 _ rfl, by rw [← Qbj _ _ 2 (by omega)]; exact hc 2 _ rfl⟩

theorem eqA31 (d : Nat) (w : World) (x0 y0 : Int) (x1 y1 : Int) :
    (Op.equalIn (d + 2) 31 (.agg #[.int .i64 x0, .int .i64 x1]) (.agg #[.int .i64 y0, .int .i64 y1])).run Tryz.prog w = .ok (x0 == y0 && (x1 == y1)) w := by
  refine eqA_of Tryz.underlying31 (by kernel_rfl) ?_; refine eqf_cons (by rfl) (by go_simp; rfl) (by go_simp; rfl) (by go_simp) ?_; exact eqf_last (by rfl) (by go_simp; rfl) (by go_simp; rfl) (by go_simp)

theorem eqA33 (d : Nat) (w : World) (x0 y0 : ByteArray) (x1 y1 : ByteArray) :
    (Op.equalIn (d + 2) 33 (.agg #[.string x0, .string x1]) (.agg #[.string y0, .string y1])).run Tryz.prog w = .ok (x0.toList == y0.toList && (x1.toList == y1.toList)) w := by
  refine eqA_of Tryz.underlying33 (by kernel_rfl) ?_; refine eqf_cons (by rfl) (by go_simp; rfl) (by go_simp; rfl) (by go_simp) ?_; exact eqf_last (by rfl) (by go_simp; rfl) (by go_simp; rfl) (by go_simp)

theorem eqA62 (d : Nat) (w : World) (x0 y0 : ByteArray) (x1 y1 : ByteArray) (x2 y2 : ByteArray) :
    (Op.equalIn (d + 3) 62 (.agg #[.string x0, .string x1, .string x2]) (.agg #[.string y0, .string y1, .string y2])).run Tryz.prog w = .ok ((x0.toList == y0.toList && (x1.toList == y1.toList)) && (x2.toList == y2.toList)) w := by
  refine eqA_of Tryz.underlying62 (by kernel_rfl) ?_; refine eqf_cons (by rfl) (by go_simp) (by go_simp) (eqA33 (d + 0) w _ _ _ _) ?_; exact eqf_last (by rfl) (by go_simp; rfl) (by go_simp; rfl) (by go_simp)

theorem eqA102 (d : Nat) (w : World) (x0 y0 : ByteArray) (x1 y1 : ByteArray) (x2 y2 : ByteArray) :
    (Op.equalIn (d + 3) 102 (.agg #[.string x0, .string x1, .string x2]) (.agg #[.string y0, .string y1, .string y2])).run Tryz.prog w = .ok ((x0.toList == y0.toList && (x1.toList == y1.toList)) && (x2.toList == y2.toList)) w := by
  refine eqA_of Tryz.underlying102 (by kernel_rfl) ?_; refine eqf_cons (by rfl) (by go_simp) (by go_simp) (eqA33 (d + 0) w _ _ _ _) ?_; exact eqf_last (by rfl) (by go_simp; rfl) (by go_simp; rfl) (by go_simp)
end
section
attribute [local go_sem] QaE QaC QaS QaR Qaw Qav QaD QaB
attribute [local go_sem high] eqA102
def Qa2.l0 : Nat → List (S102) → Int → Int → ByteArray → ByteArray → ByteArray → Option (Int)
 | 0, _, _, _, _, _, _ => none
 | k + 1, x0, x7, x8, x102000, x102001, x102002 => if x8 < x7 then (if 0 ≤ x8 then (if x8 < (x0.length : Int) then (if ((x102000.toList == (((Qbx x0 x8).f0.f0).toList) && (x102001.toList == (((Qbx x0 x8).f0.f1).toList))) && (x102002.toList == (((Qbx x0 x8).f1).toList))) = true then (some x8) else (Qa2.l0 k x0 x7 (wrap64 (x8 + 1)) x102000 x102001 x102002)) else (none)) else (none)) else (some (-1))
def Qa2.f (k : Nat) (l0 : List (S102)) (a1_0 : ByteArray) (a1_1 : ByteArray) (a1_2 : ByteArray) : Option (Int) := Qa2.l0 k l0 (l0.length : Int) 0 a1_0 a1_1 a1_2
set_option maxHeartbeats 8000000 in
set_option maxRecDepth 100000 in
theorem Qa2.calls (k : Nat) (A0 : Option Addr) (c0 : Nat) (l0 : List (S102)) (a1_0 : ByteArray) (a1_1 : ByteArray) (a1_2 : ByteArray) (r : Int) (w : World) (hr0 : Kd.C k102 w A0 l0.length l0) (hc0 : l0.length ≤ c0) (h : Qa2.f k l0 a1_0 a1_1 a1_2 = some r) :
  Calls Tryz.prog 74 #[.slice A0 l0.length c0, .agg #[.string a1_0, .string a1_1, .string a1_2]] w fun e w' => e = .returned (.int .i64 r) ∧ Below w.heap.size w w' := by
 have hu102 := Tryz.underlying102; have HR0 := Qaa.mk hr0; have HC0 := Qaa.mk hc0; clear hr0 hc0; have HB := Qaa.mk (Below.refl w.heap.size w); have H : (Qa2.l0 k l0 (l0.length : Int) 0 a1_0 a1_1 a1_2) = some r := h; clear h; have H' := Qaa.mk H; clear H; go_enter Tryz.func74, Tryz.ntmps74
 go_wp2_with (first | ((with_reducible refine QaA (N := 3) rfl ?_); refine Qax ?hg (N := 3) ?hd (cs := #[.string a1_0, .string a1_1, .string a1_2]) (t := 102) ?hr ?_; (case hd => rfl); (case hg => rfl); (case hr => first | (go_simp; done) | (go_simp; rfl)); intro gb101 hg w3 hbox hb; have BK101 := Qaa.mk (hbox); have GW101 := (gz_ hg : Qaa (w.heap.size ≤ gb101)); have GE101 := (gz_ hg : Qaa (w.heap.size ≤ gb101)); replace HB := Qaa.mk (Qac bw_ hb); clear hb hbox hg))
 repeat (go_quiet (first | ((with_reducible refine QaA (N := 3) rfl ?_); refine Qax ?hg (N := 3) ?hd (cs := #[.string a1_0, .string a1_1, .string a1_2]) (t := 102) ?hr ?_; (case hd => rfl); (case hg => rfl); (case hr => first | (go_simp; done) | (go_simp; rfl)); intro gb101 hg w3 hbox hb; have BK101 := Qaa.mk (hbox); have GW101 := (gz_ hg : Qaa (w.heap.size ≤ gb101)); have GE101 := (gz_ hg : Qaa (w.heap.size ≤ gb101)); replace HB := Qaa.mk (Qac bw_ hb); clear hb hbox hg)); try go_wp2_with (first | ((with_reducible refine QaA (N := 3) rfl ?_); refine Qax ?hg (N := 3) ?hd (cs := #[.string a1_0, .string a1_1, .string a1_2]) (t := 102) ?hr ?_; (case hd => rfl); (case hg => rfl); (case hr => first | (go_simp; done) | (go_simp; rfl)); intro gb101 hg w3 hbox hb; have BK101 := Qaa.mk (hbox); have GW101 := (gz_ hg : Qaa (w.heap.size ≤ gb101)); have GE101 := (gz_ hg : Qaa (w.heap.size ≤ gb101)); replace HB := Qaa.mk (Qac bw_ hb); clear hb hbox hg)))
 go_loopg [8] k (fun kq v8 w' => ∃ (x8_1 : Int), v8 = .int .i64 x8_1 ∧ Qaa (Qa2.l0 kq l0 (l0.length : Int) x8_1 a1_0 a1_1 a1_2 = some r) ∧ Qaa (kq ≤ k) ∧ Qaa (w'.heap[gb101]? = some (.cells #[.string a1_0, .string a1_1, .string a1_2] 102 (0, 0))) ∧ Qaa (Below w.heap.size w w'))
 case atStart => exact ⟨(0), (by first | rfl | (simp; done) | (simp [*]; done)), H', ⟨Nat.le_refl _⟩, ⟨by (with_reducible repeat (first | refine Qat ?_ _ | refine Qan ?_ | refine Qam ?_ _)); exact BK101.out⟩, ⟨bw_⟩⟩
 case round =>
  clear H'; (try clear p2); obtain ⟨x8_1, rfl, HA, HK1, BK101, HB⟩ := hrel
  cases gk with
  | zero => exact absurd HA.out (by simp [Qa2.l0])
  | succ k1 =>
   have H := HA.out; clear HA; simp only [Qa2.l0] at H
   by_cases c4 : x8_1 < (l0.length : Int)
   ·rw [if_pos c4] at H; have c4b0 : decide (x8_1 < (l0.length : Int)) = true := decide_eq_true c4; clear c4
    by_cases c5 : 0 ≤ x8_1
    ·rw [if_pos c5] at H; have c5b0 : decide (0 ≤ x8_1) = true := decide_eq_true c5; clear c5
     by_cases c6 : x8_1 < (l0.length : Int)
     ·rw [if_pos c6] at H; have c6b0 : decide (x8_1 < (l0.length : Int)) = true := decide_eq_true c6; clear c6
      by_cases c7 : ((a1_0.toList == (((Qbx l0 x8_1).f0.f0).toList) && (a1_1.toList == (((Qbx l0 x8_1).f0.f1).toList))) && (a1_2.toList == (((Qbx l0 x8_1).f1).toList))) = true
      ·rw [if_pos c7] at H; have c7b0 : ((a1_0.toList == (((Qbx l0 x8_1).f0.f0).toList) && (a1_1.toList == (((Qbx l0 x8_1).f0.f1).toList))) && (a1_2.toList == (((Qbx l0 x8_1).f1).toList))) = true := c7; clear c7; obtain rfl := Option.some.inj H; have c8_0 : wr.cell? ⟨gb101, 0, none⟩ = some (.string a1_0) := (Qak BK101.out 0).trans rfl; have c8_1 : wr.cell? ⟨gb101, 1, none⟩ = some (.string a1_1) := (Qak BK101.out 1).trans rfl; have c8_2 : wr.cell? ⟨gb101, 2, none⟩ = some (.string a1_2) := (Qak BK101.out 2).trans rfl; obtain ⟨f8_0, f8_1, f8_2⟩ := fz_3 BK101.out; have p102 : 0 ≤ (x8_1 : Int) := dd_; have q102 : x8_1 < (l0.length : Int) := dd_; obtain ⟨ad102, e102, hx102_0, hx102_1, hx102_2⟩ := at_T102 HR0.out x8_1 p102 q102; cases e102; replace hx102_0 := cb_ HB hx102_0; replace hx102_1 := cb_ HB hx102_1; replace hx102_2 := cb_ HB hx102_2; replace p102 := eq_true p102; replace q102 := eq_true q102; go_wp2
       repeat (go_quiet (fail); try go_wp2)
       go_ret; exact ⟨by first | rfl | (simp [Qap, Qao] <;> rfl) | (simp [*, Qap, Qao] <;> rfl), bw_⟩
      ·rw [if_neg c7] at H
       have c7b0 : ((a1_0.toList == (((Qbx l0 x8_1).f0.f0).toList) && (a1_1.toList == (((Qbx l0 x8_1).f0.f1).toList))) && (a1_2.toList == (((Qbx l0 x8_1).f1).toList))) = false := by simpa using c7
       clear c7; have H' := Qaa.mk H; clear H; have c9_0 : wr.cell? ⟨gb101, 0, none⟩ = some (.string a1_0) := (Qak BK101.out 0).trans rfl; have c9_1 : wr.cell? ⟨gb101, 1, none⟩ = some (.string a1_1) := (Qak BK101.out 1).trans rfl; have c9_2 : wr.cell? ⟨gb101, 2, none⟩ = some (.string a1_2) := (Qak BK101.out 2).trans rfl; obtain ⟨f9_0, f9_1, f9_2⟩ := fz_3 BK101.out; have p102 : 0 ≤ (x8_1 : Int) := dd_; have q102 : x8_1 < (l0.length : Int) := dd_; obtain ⟨ad102, e102, hx102_0, hx102_1, hx102_2⟩ := at_T102 HR0.out x8_1 p102 q102; cases e102; replace hx102_0 := cb_ HB hx102_0; replace hx102_1 := cb_ HB hx102_1; replace hx102_2 := cb_ HB hx102_2; replace p102 := eq_true p102; replace q102 := eq_true q102; go_wp2
       repeat (go_quiet (fail); try go_wp2)
       go_roundg k1
       case measure => have := HK1.out; omega
       case rel => exact ⟨(wrap64 (x8_1 + 1)), (by first | rfl | (simp; done) | (simp [*]; done)), H', ⟨by have := HK1.out; omega⟩, ⟨by (with_reducible repeat (first | refine Qat ?_ _ | refine Qan ?_ | refine Qam ?_ _)); exact BK101.out⟩, ⟨bw_⟩⟩
     ·rw [if_neg c6] at H; exact absurd H (by simp)
    ·rw [if_neg c5] at H; exact absurd H (by simp)
   ·rw [if_neg c4] at H; have c4b0 : decide (x8_1 < (l0.length : Int)) = false := decide_eq_false c4; clear c4; obtain rfl := Option.some.inj H; go_wp2
    repeat (go_quiet (fail); try go_wp2)
    go_ret; exact ⟨by first | rfl | (simp [Qap, Qao] <;> rfl) | (simp [*, Qap, Qao] <;> rfl), bw_⟩
end
section
attribute [local go_sem] QaE QaC QaS QaR Qaw Qav QaD QaB
def QbC.f (k : Nat) (l0 : List (S102)) (a1_0 : ByteArray) (a1_1 : ByteArray) (a1_2 : ByteArray) : Option (Bool) := (Qa2.f k l0 a1_0 a1_1 a1_2).bind fun t102 => (some (decide (t102 ≥ 0)))
set_option maxHeartbeats 8000000 in
set_option maxRecDepth 100000 in
theorem QbC.calls (k : Nat) (A0 : Option Addr) (c0 : Nat) (l0 : List (S102)) (a1_0 : ByteArray) (a1_1 : ByteArray) (a1_2 : ByteArray) (r : Bool) (w : World) (hr0 : Kd.C k102 w A0 l0.length l0) (hc0 : l0.length ≤ c0) (h : QbC.f k l0 a1_0 a1_1 a1_2 = some r) :
  Calls Tryz.prog 67 #[.slice A0 l0.length c0, .agg #[.string a1_0, .string a1_1, .string a1_2]] w fun e w' => e = .returned (.bool r) ∧ Below w.heap.size w w' := by
 have hu102 := Tryz.underlying102; have HR0 := Qaa.mk hr0; have HC0 := Qaa.mk hc0; clear hr0 hc0; have HB := Qaa.mk (Below.refl w.heap.size w); have H : ((Qa2.f k l0 a1_0 a1_1 a1_2).bind fun t102 => (some (decide (t102 ≥ 0)))) = some r := h; clear h; replace H := Option.bind_eq_some_iff.mp H; obtain ⟨t102, A30, H⟩ := H; replace H : (some (decide (t102 ≥ 0))) = some r := H; have A3 := Qaa.mk A30; clear A30; obtain rfl := Option.some.inj H; go_enter Tryz.func67, Tryz.ntmps67
 go_wp2_with (first | ((with_reducible refine QaA (N := 3) rfl ?_); refine Qax ?hg (N := 3) ?hd (cs := #[.string a1_0, .string a1_1, .string a1_2]) (t := 102) ?hr ?_; (case hd => rfl); (case hg => rfl); (case hr => first | (go_simp; done) | (go_simp; rfl)); intro gb101 hg w4 hbox hb; have BK101 := Qaa.mk (hbox); have GW101 := (gz_ hg : Qaa (w.heap.size ≤ gb101)); have GE101 := (gz_ hg : Qaa (w.heap.size ≤ gb101)); replace HB := Qaa.mk (Qac bw_ hb); clear hb hbox hg; obtain ⟨c5_0, c5_1, c5_2⟩ := cz_sss BK101.out; obtain ⟨f5_0, f5_1, f5_2⟩ := fz_3 BK101.out) | ((with_reducible refine QaT (f := 74) rfl ?_); refine gL 7 Tryz.func74 #[.slice A0 l0.length c0, .agg #[.string a1_0, .string a1_1, .string a1_2]] ?_; (with_reducible refine (Qa2.calls k _ _ l0 a1_0 a1_1 a1_2 t102 _ ?side1 ?side2 A3.out).mono ?_); (case side1 => exact kd_ (Kd.Qa8 HR0.out HB.out)); (case side2 => exact HC0.out); rintro e w6 ⟨rfl, hb⟩; refine ⟨_, rfl, ?_⟩; replace BK101 := Qaa.mk (Qad (g := gb101) bk_ hb); replace HB := Qaa.mk (Qac bw_ hb); (try clear hb); (try clear hb2); (try clear hk); (try clear hi)))
 go_ret; exact ⟨by first | rfl | (simp [Qap, Qao] <;> rfl) | (simp [*, Qap, Qao] <;> rfl), bw_⟩
end
end Go.Proofs.YtbjjonpkmplhbaaGreatDoor.Pr
end
section
namespace Go.Proofs.YtbjjonpkmplhbaaGreatDoor
open Go.RowKit
def domName (n : Int) : ByteArray :=
  if n = 1 then ⟨#[100, 49]⟩ else if n = 2 then ⟨#[100, 50]⟩ else if n = 3 then ⟨#[100, 51]⟩ else if n = 4 then ⟨#[100, 52]⟩
  else if n = 5 then ⟨#[100, 53]⟩ else if n = 6 then ⟨#[100, 54]⟩ else if n = 7 then ⟨#[100, 55]⟩ else if n = 8 then ⟨#[100, 56]⟩
  else if n = 9 then ⟨#[100, 57]⟩ else if n = 10 then ⟨#[100, 49, 48]⟩ else if n = 11 then ⟨#[100, 49, 49]⟩ else if n = 12 then ⟨#[100, 49, 50]⟩
  else if n = 13 then ⟨#[100, 49, 51]⟩ else if n = 14 then ⟨#[100, 49, 52]⟩ else if n = 15 then ⟨#[100, 49, 53]⟩ else if n = 16 then ⟨#[100, 49, 54]⟩
  else ⟨#[]⟩
theorem domName_out (n : Int) (h : n < 1 ∨ 16 < n) : domName n = ⟨#[]⟩ := by
  unfold domName
  repeat rw [if_neg (by omega)]
set_option maxRecDepth 100000 in
theorem QbT (n : Int) (w : World) : Calls Tryz.prog 15 #[.int .i64 n] w fun e w' => e = .returned (.string (domName n)) ∧ w = w' := by
  by_cases h : n < 1 ∨ 16 < n
  · have H := Lib.hid (domName_out n h)
    rcases h with h | h
    · have h1 : decide (n < 1) = true := decide_eq_true h
      go_enter Tryz.func15, Tryz.ntmps15; go_wp2; go_ret; exact ⟨by rw [H.out]; rfl, rfl⟩
    · have h1 : decide (n < 1) = false := decide_eq_false (by omega)
      have h2 : decide (16 < n) = true := decide_eq_true h; go_enter Tryz.func15, Tryz.ntmps15; go_wp2; go_ret; exact ⟨by rw [H.out]; rfl, rfl⟩
  · have h' : n = 1 ∨ n = 2 ∨ n = 3 ∨ n = 4 ∨ n = 5 ∨ n = 6 ∨ n = 7 ∨ n = 8 ∨ n = 9 ∨ n = 10 ∨ n = 11 ∨ n = 12 ∨ n = 13 ∨ n = 14 ∨ n = 15 ∨ n = 16 := by omega
    clear h
    rcases h' with rfl | rfl | rfl | rfl | rfl | rfl | rfl | rfl | rfl | rfl | rfl | rfl | rfl | rfl | rfl | rfl
    all_goals
      go_enter Tryz.func15, Tryz.ntmps15; go_wp2; go_ret; exact ⟨by first | rfl | decide, rfl⟩
end Go.Proofs.YtbjjonpkmplhbaaGreatDoor
end
section
namespace Go.Proofs.YtbjjonpkmplhbaaGreatDoor.Pr
open Go.RowKit Go.Proofs.YtbjjonpkmplhbaaGreatDoorW.PrintWords Go.Proofs.YtbjjonpkmplhbaaGreatDoorW.PrintLast Go.Proofs.YtbjjonpkmplhbaaGreatDoorW.PrintMore
set_option linter.unusedVariables false
set_option linter.unusedSimpArgs false
section
attribute [local go_sem] QaE QaC QaS QaR Qaw Qav QaD QaB
def Qbu.f (a0 : Int) : Option ByteArray := some (domName a0)
theorem Qbu.calls (a0 : Int) (r : ByteArray) (w : World) (h : Qbu.f a0 = some r) :
    Calls Tryz.prog 15 #[.int .i64 a0] w fun e w' => e = .returned (.string r) ∧ Drawn0 w w' := by
  obtain rfl := Option.some.inj h
  exact (QbT a0 w).mono fun e w' ⟨he, hw⟩ => ⟨he, by rw [hw]; exact Drawn0.refl _⟩
end
end Go.Proofs.YtbjjonpkmplhbaaGreatDoor.Pr
end
section
namespace Go.Proofs.YtbjjonpkmplhbaaGreatDoor
open Go.RowKit
def mayAt (i : Nat) (c : Nat) : Bool := decide (97 ≤ c ∧ c ≤ 122) || (decide (48 ≤ c ∧ c ≤ 57) && decide (i ≠ 0))
def mayUpto (s : ByteArray) : Nat → Bool
  | 0 => true
  | n + 1 => mayUpto s n && mayAt n (s.data.getD n 0).toNat
def mayName (s : ByteArray) : Bool := mayUpto s s.size && decide (0 < s.size) && decide (s.size ≤ 8)
theorem may_stop (s : ByteArray) (i : Nat) (h : mayAt i (s.data.getD i 0).toNat = false) : ∀ n, i < n → mayUpto s n = false
  | n + 1, hn => by
    rw [mayUpto]
    by_cases e : i = n
    · subst e
      rw [h, Bool.and_false]
    · rw [may_stop s i h n (by omega), Bool.false_and]
theorem may_byte (s : ByteArray) (i : Nat) (h : i < s.size) : (s.data.getD i 0).toNat = (s[i]'h).toNat := by
  have : s.data.getD i 0 = s.data[i]'h := by simp [Array.getD, h]
  rw [this]; rfl
theorem may_next (s : ByteArray) (pos : Nat) (h : pos < s.size) : ∃ d wd : Nat, (∀ (P : Program) (w : World) (ty : TypeId), (Instr.next (.pointer (some ⟨w.heap.size, 0, none⟩)) true ty).run P (w.iter s pos) = .ok (.tuple #[.bool true, .int .i64 pos, .int .i32 (d : Int)]) (w.iter s (pos + wd))) ∧
    d ≤ 2147483647 ∧ (d < 128 → wd = 1 ∧ (s.data.getD pos 0).toNat = d) ∧ (128 ≤ d → 128 ≤ (s.data.getD pos 0).toNat) := by
  rw [may_byte s pos h]
  by_cases ha : (s[pos]'h).toNat < 128
  · exact ⟨(s[pos]'h).toNat, 1, fun P w ty => run_next_ascii w s pos ty h ha, by omega, fun _ => ⟨rfl, rfl⟩, fun _ => by omega⟩
  · have hd := (decode_high s pos h (by omega)).1
    exact ⟨(Utf8.decode s pos).1, (Utf8.decode s pos).2, fun P w ty => run_next_any w s pos ty h, decode_le s pos, fun _ => by omega, fun _ => by omega⟩
theorem may_yes {s : ByteArray} {pos d : Nat} (hm : mayUpto s pos = true) (hd : (s.data.getD pos 0).toNat = d) (h : mayAt pos d = true) : mayUpto s (pos + 1) = true := by
  rw [mayUpto, hm, hd, h]; rfl
theorem may_no {s : ByteArray} {pos d : Nat} (hp : pos < s.size) (hd1 : d < 128 → (s.data.getD pos 0).toNat = d) (hd2 : 128 ≤ d → 128 ≤ (s.data.getD pos 0).toNat) (h : d < 128 → mayAt pos d = false) : mayName s = false := by
  have h3 : mayAt pos (s.data.getD pos 0).toNat = false := by
    by_cases hd : d < 128
    · rw [hd1 hd]
      exact h hd
    · have := hd2 (by omega)
      unfold mayAt; rw [decide_eq_false (by omega), decide_eq_false (by omega)]; rfl
  rw [mayName, may_stop s pos h3 s.size hp]; rfl
theorem may_empty (s : ByteArray) : s.toList.isEmpty = decide (s.size = 0) := by
  rw [← decide_eq_emptyBytes s]
  apply decide_eq_decide.2
  constructor
  · rintro rfl
    rfl
  · intro h
    apply ByteArray.ext
    apply Array.eq_empty_of_size_eq_zero
    exact h
theorem may_at_letter {pos d : Nat} (h : 97 ≤ d) (h' : d ≤ 122) : mayAt pos d = true := by unfold mayAt; rw [decide_eq_true ⟨h, h'⟩]; rfl
theorem may_at_digit {pos d : Nat} (h : 48 ≤ d) (h' : d ≤ 57) (hp : pos ≠ 0) : mayAt pos d = true := by unfold mayAt; rw [decide_eq_true (p := 48 ≤ d ∧ d ≤ 57) ⟨h, h'⟩, decide_eq_true hp]; simp
theorem may_at_none {pos d : Nat} (h : d < 97 ∨ 122 < d) (h' : (d < 48 ∨ 57 < d) ∨ pos = 0) : mayAt pos d = false := by
  unfold mayAt; rw [decide_eq_false (by omega)]
  rcases h' with h' | h'
  · rw [decide_eq_false (by omega)]
    rfl
  · rw [h']
    simp
set_option maxRecDepth 100000 in
set_option maxHeartbeats 1000000 in
theorem may_walk (s : ByteArray) (w : World) (hs : s.size ≤ maxLen) : Calls Tryz.prog 51 #[.string s] w fun e w' => e = .returned (.bool (mayName s)) ∧ Below w.heap.size w w' := by
  unfold maxLen at hs; go_enter Tryz.func51, Tryz.ntmps51; go_wp2
  go_loopw [3, 4, 5, 6] (fun _ _ _ _ w' => ∃ pos : Nat, w' = w.iter s pos ∧ pos ≤ s.size ∧ mayUpto s pos = true) (fun _ _ _ _ w' => s.size - w'.iterPos w.heap.size)
  case atStart => exact ⟨0, rfl, Nat.zero_le _, rfl⟩
  case round =>
    obtain ⟨pos, rfl, hle, hm⟩ := hrel; have HM := Lib.hid hm; clear hm
    have hB : ∀ p, Below w.heap.size w (w.iter s p) := fun p => (Below.refl _ _).alloc (Nat.le_refl _) _
    by_cases hp : pos < s.size
    · obtain ⟨d, wd, hnx0, hd1, hd2, hd3⟩ := may_next s pos hp
      have hnx := fun ty => hnx0 Tryz.prog w ty
      have HD2 := Lib.hid hd2; have HD3 := Lib.hid hd3; clear hnx0 hd2 hd3
      by_cases c1 : 97 ≤ d
      · by_cases c2 : d ≤ 122
        · have c7 : 48 ≤ d := by omega
          have a1 : decide ((97 : Int) ≤ (d : Int)) = true := decide_eq_true (by omega); have a2 : decide ((d : Int) ≤ 122) = true := decide_eq_true (by omega); have a3 : decide ((48 : Int) ≤ (d : Int)) = true := decide_eq_true (by omega); have a4 : decide ((d : Int) ≤ 57) = false := decide_eq_false (by omega); go_wp2
          go_roundw
          case rel => exact ⟨pos + wd, rfl, by have := HD2.out (by omega); omega, by rw [(HD2.out (by omega)).1]; exact may_yes HM.out (HD2.out (by omega)).2 (may_at_letter c1 c2)⟩
          case measure =>
            have := (HD2.out (by omega)).1; simp; omega
        · have hno := may_no hp (fun h => (HD2.out h).2) HD3.out (fun _ => may_at_none (by omega) (by omega))
          have HN := Lib.hid hno; clear hno; have a1 : decide ((97 : Int) ≤ (d : Int)) = true := decide_eq_true (by omega); have a2 : decide ((d : Int) ≤ 122) = false := decide_eq_false (by omega); have a3 : decide ((48 : Int) ≤ (d : Int)) = true := decide_eq_true (by omega); have a4 : decide ((d : Int) ≤ 57) = false := decide_eq_false (by omega); go_wp2; go_ret; exact ⟨by rw [HN.out]; rfl, hB _⟩
      · by_cases c3 : 48 ≤ d
        · by_cases c4 : d ≤ 57
          · by_cases c5 : pos = 0
            · have hno := may_no hp (fun h => (HD2.out h).2) HD3.out (fun _ => may_at_none (by omega) (.inr c5))
              have HN := Lib.hid hno; clear hno; have c6 : ((pos : Int) == 0) = true := beq_iff_eq.2 (by omega); have C5 := Lib.hid c5; clear c5; have a1 : decide ((97 : Int) ≤ (d : Int)) = false := decide_eq_false (by omega); have a2 : decide ((d : Int) ≤ 122) = true := decide_eq_true (by omega); have a3 : decide ((48 : Int) ≤ (d : Int)) = true := decide_eq_true (by omega); have a4 : decide ((d : Int) ≤ 57) = true := decide_eq_true (by omega); go_wp2; go_ret; exact ⟨by rw [HN.out]; rfl, hB _⟩
            · have c6 : ((pos : Int) == 0) = false := beq_eq_false_iff_ne.2 (by omega)
              have a1 : decide ((97 : Int) ≤ (d : Int)) = false := decide_eq_false (by omega); have a2 : decide ((d : Int) ≤ 122) = true := decide_eq_true (by omega); have a3 : decide ((48 : Int) ≤ (d : Int)) = true := decide_eq_true (by omega); have a4 : decide ((d : Int) ≤ 57) = true := decide_eq_true (by omega); go_wp2
              go_roundw
              case rel => exact ⟨pos + wd, rfl, by have := HD2.out (by omega); omega, by rw [(HD2.out (by omega)).1]; exact may_yes HM.out (HD2.out (by omega)).2 (may_at_digit c3 c4 c5)⟩
              case measure =>
                have := (HD2.out (by omega)).1; simp; omega
          · have hno := may_no hp (fun h => (HD2.out h).2) HD3.out (fun _ => may_at_none (by omega) (by omega))
            have HN := Lib.hid hno; clear hno; have a1 : decide ((97 : Int) ≤ (d : Int)) = false := decide_eq_false (by omega); have a2 : decide ((d : Int) ≤ 122) = true := decide_eq_true (by omega); have a3 : decide ((48 : Int) ≤ (d : Int)) = true := decide_eq_true (by omega); have a4 : decide ((d : Int) ≤ 57) = false := decide_eq_false (by omega); go_wp2; go_ret; exact ⟨by rw [HN.out]; rfl, hB _⟩
        · have hno := may_no hp (fun h => (HD2.out h).2) HD3.out (fun _ => may_at_none (by omega) (by omega))
          have HN := Lib.hid hno; clear hno; have a1 : decide ((97 : Int) ≤ (d : Int)) = false := decide_eq_false (by omega); have a2 : decide ((d : Int) ≤ 122) = true := decide_eq_true (by omega); have a3 : decide ((48 : Int) ≤ (d : Int)) = false := decide_eq_false (by omega); have a4 : decide ((d : Int) ≤ 57) = true := decide_eq_true (by omega); go_wp2; go_ret; exact ⟨by rw [HN.out]; rfl, hB _⟩
    · obtain rfl : pos = s.size := by omega
      have hnx : ∀ ty, (Instr.next (.pointer (some ⟨w.heap.size, 0, none⟩)) true ty).run Tryz.prog (w.iter s s.size) = _ := fun ty => run_next_end w s s.size ty hp
      have he := may_empty s; have HE := Lib.hid he; clear he
      by_cases h0 : s.size = 0
      · have h1 : s.toList.isEmpty = true := by rw [HE.out]; exact decide_eq_true h0
        have hno : mayName s = false := by rw [mayName, decide_eq_false (p := 0 < s.size) (by omega)]; simp
        have HN := Lib.hid hno; have H0 := Lib.hid h0; clear hno h0; go_wp2; go_ret; exact ⟨by rw [HN.out]; rfl, hB _⟩
      · have h1 : s.toList.isEmpty = false := by rw [HE.out]; exact decide_eq_false h0
        have hyes : mayName s = decide ((s.size : Int) ≤ 8) := by
          rw [mayName, HM.out, decide_eq_true (p := 0 < s.size) (by omega)]; simp only [Bool.true_and]
          apply decide_eq_decide.2
          omega
        have HN := Lib.hid hyes; clear hyes; go_wp2
        all_goals
          go_ret; exact ⟨by rw [HN.out]; rfl, hB _⟩
end Go.Proofs.YtbjjonpkmplhbaaGreatDoor
end
section
namespace Go.Proofs.YtbjjonpkmplhbaaGreatDoor.Pr
open Go.RowKit Go.Proofs.YtbjjonpkmplhbaaGreatDoorW.PrintWords Go.Proofs.YtbjjonpkmplhbaaGreatDoorW.PrintLast Go.Proofs.YtbjjonpkmplhbaaGreatDoorW.PrintMore
set_option linter.unusedVariables false
set_option linter.unusedSimpArgs false
section
attribute [local go_sem] QaE QaC QaS QaR Qaw Qav QaD QaB
def Qa6.f (a0 : ByteArray) : Option Bool := if a0.size ≤ maxLen then some (mayName a0) else none
theorem Qa6.calls (a0 : ByteArray) (r : Bool) (w : World) (h : Qa6.f a0 = some r) :
    Calls Tryz.prog 51 #[.string a0] w fun e w' => e = .returned (.bool r) ∧ Below w.heap.size w w' := by
  unfold Qa6.f at h
  split at h
  · rename_i hs
    obtain rfl := Option.some.inj h; exact may_walk a0 w hs
  · cases h

def QaX.l0 : Nat → ByteArray → Int → Option (Int)
 | 0, _, _ => none
 | k + 1, x0, x3 => if x3 ≤ 16 then ((Qbu.f x3).bind fun t101 => (if t101.toList = x0.toList then (some x3) else (QaX.l0 k x0 (wrap64 (x3 + 1))))) else (some 0)
def QaX.f (k : Nat) (a0 : ByteArray) : Option (Int) := QaX.l0 k a0 1
set_option maxHeartbeats 8000000 in
set_option maxRecDepth 100000 in
theorem QaX.calls (k : Nat) (a0 : ByteArray) (r : Int) (w : World) (h : QaX.f k a0 = some r) :
  Calls Tryz.prog 65 #[.string a0] w fun e w' => e = .returned (.int .i64 r) ∧ Drawn0 w w' := by
 have H : (QaX.l0 k a0 1) = some r := h; clear h; have H' := Qaa.mk H; clear H; go_enter Tryz.func65, Tryz.ntmps65; go_wp2
 go_loopg [3] k (fun kq v3 w' => ∃ (x3_1 : Int), v3 = .int .i64 x3_1 ∧ Qaa (QaX.l0 kq a0 x3_1 = some r) ∧ Qaa (kq ≤ k) ∧ Drawn0 w w')
 case atStart => exact ⟨(1), (by first | rfl | (simp; done) | (simp [*]; done)), H', ⟨Nat.le_refl _⟩, by repeat (first | exact Drawn0.refl _ | apply Drawn0.step)⟩
 case round =>
  clear H'; obtain ⟨x3_1, rfl, HA, HK1, ⟨m1, rfl⟩⟩ := hrel
  cases gk with
  | zero => exact absurd HA.out (by simp [QaX.l0])
  | succ k1 =>
   have H := HA.out; clear HA; simp only [QaX.l0] at H
   by_cases c2 : x3_1 ≤ 16
   ·rw [if_pos c2] at H; have c2b0 : decide (x3_1 ≤ 16) = true := decide_eq_true c2; clear c2; replace H := Option.bind_eq_some_iff.mp H; obtain ⟨t101, A30, H⟩ := H; replace H : (if t101.toList = a0.toList then (some x3_1) else (QaX.l0 k1 a0 (wrap64 (x3_1 + 1)))) = some r := H; have A3 := Qaa.mk A30; clear A30
    by_cases c4 : t101.toList = a0.toList
    ·rw [if_pos c4] at H; have c4b0 : (t101.toList == a0.toList) = true := beq_iff_eq.mpr c4; have c4b1 : (t101.toList != a0.toList) = false := bne_eq_false_iff_eq.mpr c4; clear c4; obtain rfl := Option.some.inj H
     go_wp2_with (first | ((with_reducible refine QaT (f := 15) rfl ?_); refine gL 9 Tryz.func15 #[.int .i64 x3_1] ?_; (with_reducible refine (Qbu.calls x3_1 t101 _ A3.out).mono ?_); rintro e w' ⟨rfl, ⟨nd, rfl⟩⟩; refine ⟨_, rfl, ?_⟩))
     go_ret; exact ⟨by first | rfl | (simp; done) | (simp [*]; done), by repeat (first | exact Drawn0.refl _ | apply Drawn0.step)⟩
    ·rw [if_neg c4] at H; have c4b0 : (t101.toList == a0.toList) = false := beq_eq_false_iff_ne.mpr c4; have c4b1 : (t101.toList != a0.toList) = true := bne_iff_ne.mpr c4; have H' := Qaa.mk H; clear H
     go_wp2_with (first | ((with_reducible refine QaT (f := 15) rfl ?_); refine gL 9 Tryz.func15 #[.int .i64 x3_1] ?_; (with_reducible refine (Qbu.calls x3_1 t101 _ A3.out).mono ?_); rintro e w' ⟨rfl, ⟨nd, rfl⟩⟩; refine ⟨_, rfl, ?_⟩))
     go_roundg k1
     case measure => have := HK1.out; omega
     case rel => exact ⟨(wrap64 (x3_1 + 1)), (by first | rfl | (simp; done) | (simp [*]; done)), H', ⟨by have := HK1.out; omega⟩, by repeat (first | exact Drawn0.refl _ | apply Drawn0.step)⟩
   ·rw [if_neg c2] at H; have c2b0 : decide (x3_1 ≤ 16) = false := decide_eq_false c2; clear c2; obtain rfl := Option.some.inj H; go_wp2; go_ret; exact ⟨by first | rfl | (simp; done) | (simp [*]; done), by repeat (first | exact Drawn0.refl _ | apply Drawn0.step)⟩

def Qa5.f (k : Nat) (a0_0 : ByteArray) (a0_1 : ByteArray) : Option (Bool) := (QaX.f k a0_0).bind fun t102 => (if t102 > 0 then ((Qa6.f a0_1).bind fun t103 => (some t103)) else (some false))
set_option maxHeartbeats 8000000 in
set_option maxRecDepth 100000 in
theorem Qa5.calls (k : Nat) (a0_0 : ByteArray) (a0_1 : ByteArray) (r : Bool) (w : World) (h : Qa5.f k a0_0 a0_1 = some r) :
  Calls Tryz.prog 52 #[.agg #[.string a0_0, .string a0_1]] w fun e w' => e = .returned (.bool r) ∧ Below w.heap.size w w' := by
 have hu33 := Tryz.underlying33; have HB := Qaa.mk (Below.refl w.heap.size w); have H : ((QaX.f k a0_0).bind fun t102 => (if t102 > 0 then ((Qa6.f a0_1).bind fun t103 => (some t103)) else (some false))) = some r := h; clear h; replace H := Option.bind_eq_some_iff.mp H; obtain ⟨t102, A20, H⟩ := H; replace H : (if t102 > 0 then ((Qa6.f a0_1).bind fun t103 => (some t103)) else (some false)) = some r := H; have A2 := Qaa.mk A20; clear A20
 by_cases c3 : t102 > 0
 ·rw [if_pos c3] at H; have c3b0 : decide (0 < t102) = true := decide_eq_true c3; clear c3; replace H := Option.bind_eq_some_iff.mp H; obtain ⟨t103, A40, H⟩ := H; replace H : (some t103) = some r := H; have A4 := Qaa.mk A40; clear A40; obtain rfl := Option.some.inj H; go_enter Tryz.func52, Tryz.ntmps52
  go_wp2_with (first | ((with_reducible refine QaA (N := 1) rfl ?_); refine Qax ?hg (N := 1) ?hd (cs := #[.string a0_0, .string a0_1]) (t := 33) ?hr ?_; (case hd => rfl); (case hg => rfl); (case hr => first | (go_simp; done) | (go_simp; rfl)); intro gb101 hg w5 hbox hb; have BK101 := Qaa.mk (hbox); have GW101 := (gz_ hg : Qaa (w.heap.size ≤ gb101)); have GE101 := (gz_ hg : Qaa (w.heap.size ≤ gb101)); replace HB := Qaa.mk (Qac bw_ hb); clear hb hbox hg; obtain ⟨c6_0, c6_1⟩ := cz_ss BK101.out; obtain ⟨f6_0, f6_1⟩ := fz_2 BK101.out) | ((with_reducible refine QaT (f := 65) rfl ?_); refine gL 5 Tryz.func65 #[.string a0_0] ?_; (with_reducible refine (QaX.calls k a0_0 t102 _ A2.out).mono ?_); rintro e w' ⟨rfl, ⟨nd, rfl⟩⟩; refine ⟨_, rfl, ?_⟩) | (go_at_call 51; (with_reducible refine (Qa6.calls a0_1 t103 _ A4.out).mono ?_); rintro e w7 ⟨rfl, hb⟩; replace BK101 := Qaa.mk (Qad (g := gb101) bk_ hb); replace HB := Qaa.mk (Qac bw_ hb); (try clear hb); (try clear hb2); (try clear hk); (try clear hi)))
  go_ret; exact ⟨by first | rfl | (simp [Qap, Qao] <;> rfl) | (simp [*, Qap, Qao] <;> rfl), bw_⟩
 ·rw [if_neg c3] at H; have c3b0 : decide (0 < t102) = false := decide_eq_false c3; clear c3; obtain rfl := Option.some.inj H; go_enter Tryz.func52, Tryz.ntmps52
  go_wp2_with (first | ((with_reducible refine QaA (N := 1) rfl ?_); refine Qax ?hg (N := 1) ?hd (cs := #[.string a0_0, .string a0_1]) (t := 33) ?hr ?_; (case hd => rfl); (case hg => rfl); (case hr => first | (go_simp; done) | (go_simp; rfl)); intro gb101 hg w8 hbox hb; have BK101 := Qaa.mk (hbox); have GW101 := (gz_ hg : Qaa (w.heap.size ≤ gb101)); have GE101 := (gz_ hg : Qaa (w.heap.size ≤ gb101)); replace HB := Qaa.mk (Qac bw_ hb); clear hb hbox hg; obtain ⟨c9_0, c9_1⟩ := cz_ss BK101.out; obtain ⟨f9_0, f9_1⟩ := fz_2 BK101.out) | ((with_reducible refine QaT (f := 65) rfl ?_); refine gL 5 Tryz.func65 #[.string a0_0] ?_; (with_reducible refine (QaX.calls k a0_0 t102 _ A2.out).mono ?_); rintro e w' ⟨rfl, ⟨nd, rfl⟩⟩; refine ⟨_, rfl, ?_⟩))
  go_ret; exact ⟨by first | rfl | (simp [Qap, Qao] <;> rfl) | (simp [*, Qap, Qao] <;> rfl), bw_⟩

def QbA.f (a0_0 : ByteArray) (a0_1 : ByteArray) : Option (Bool) := if a0_0.toList = ([] : List UInt8) then ((Qa6.f a0_1).bind fun t102 => (some t102)) else (some false)
set_option maxHeartbeats 8000000 in
set_option maxRecDepth 100000 in
theorem QbA.calls (a0_0 : ByteArray) (a0_1 : ByteArray) (r : Bool) (w : World) (h : QbA.f a0_0 a0_1 = some r) :
  Calls Tryz.prog 53 #[.agg #[.string a0_0, .string a0_1]] w fun e w' => e = .returned (.bool r) ∧ Below w.heap.size w w' := by
 have hu33 := Tryz.underlying33; have HB := Qaa.mk (Below.refl w.heap.size w); have H : (if a0_0.toList = ([] : List UInt8) then ((Qa6.f a0_1).bind fun t102 => (some t102)) else (some false)) = some r := h; clear h
 by_cases c2 : a0_0.toList = ([] : List UInt8)
 ·rw [if_pos c2] at H; have c2b0 : (a0_0.toList == ([] : List UInt8)) = true := beq_iff_eq.mpr c2; have c2b1 : (a0_0.toList != ([] : List UInt8)) = false := bne_eq_false_iff_eq.mpr c2; clear c2; replace H := Option.bind_eq_some_iff.mp H; obtain ⟨t102, A30, H⟩ := H; replace H : (some t102) = some r := H; have A3 := Qaa.mk A30; clear A30; obtain rfl := Option.some.inj H; go_enter Tryz.func53, Tryz.ntmps53
  go_wp2_with (first | ((with_reducible refine QaA (N := 1) rfl ?_); refine Qax ?hg (N := 1) ?hd (cs := #[.string a0_0, .string a0_1]) (t := 33) ?hr ?_; (case hd => rfl); (case hg => rfl); (case hr => first | (go_simp; done) | (go_simp; rfl)); intro gb101 hg w4 hbox hb; have BK101 := Qaa.mk (hbox); have GW101 := (gz_ hg : Qaa (w.heap.size ≤ gb101)); have GE101 := (gz_ hg : Qaa (w.heap.size ≤ gb101)); replace HB := Qaa.mk (Qac bw_ hb); clear hb hbox hg; obtain ⟨c5_0, c5_1⟩ := cz_ss BK101.out; obtain ⟨f5_0, f5_1⟩ := fz_2 BK101.out) | (go_at_call 51; (with_reducible refine (Qa6.calls a0_1 t102 _ A3.out).mono ?_); rintro e w6 ⟨rfl, hb⟩; replace BK101 := Qaa.mk (Qad (g := gb101) bk_ hb); replace HB := Qaa.mk (Qac bw_ hb); (try clear hb); (try clear hb2); (try clear hk); (try clear hi)))
  go_ret; exact ⟨by first | rfl | (simp [Qap, Qao] <;> rfl) | (simp [*, Qap, Qao] <;> rfl), bw_⟩
 ·rw [if_neg c2] at H; have c2b0 : (a0_0.toList == ([] : List UInt8)) = false := beq_eq_false_iff_ne.mpr c2; have c2b1 : (a0_0.toList != ([] : List UInt8)) = true := bne_iff_ne.mpr c2; obtain rfl := Option.some.inj H; go_enter Tryz.func53, Tryz.ntmps53
  go_wp2_with (first | ((with_reducible refine QaA (N := 1) rfl ?_); refine Qax ?hg (N := 1) ?hd (cs := #[.string a0_0, .string a0_1]) (t := 33) ?hr ?_; (case hd => rfl); (case hg => rfl); (case hr => first | (go_simp; done) | (go_simp; rfl)); intro gb101 hg w7 hbox hb; have BK101 := Qaa.mk (hbox); have GW101 := (gz_ hg : Qaa (w.heap.size ≤ gb101)); have GE101 := (gz_ hg : Qaa (w.heap.size ≤ gb101)); replace HB := Qaa.mk (Qac bw_ hb); clear hb hbox hg; obtain ⟨c8_0, c8_1⟩ := cz_ss BK101.out; obtain ⟨f8_0, f8_1⟩ := fz_2 BK101.out))
  go_ret; exact ⟨by first | rfl | (simp [Qap, Qao] <;> rfl) | (simp [*, Qap, Qao] <;> rfl), bw_⟩
end
structure BW (W : World) where
  now : World
  ok : Below W.heap.size W now
instance bwNonempty (W : World) : Nonempty (BW W) := ⟨⟨W, Below.refl _ _⟩⟩
theorem QaL {P : Program} {id : Nat} {Q : Exit → Act → World → Prop} {a : Act} {W : World} {l : List Oper} (hm : P.follows .mixedOrders = true) (hB : Region.lexB .any l.toArray = true)
    (h : wpQuiet P l.toArray (fun w' => ∃ u : BW W, w' = u.now) (fun a' => ∀ w', (∃ u : BW W, w' = u.now) → Q .normal a' w') l a) : (Code.region id l.toArray true).wp P Q a W :=
  wp_region_quiet (C := fun w' => ∃ u : BW W, w' = u.now) hm hB ⟨⟨_, Qau (Below.refl W.heap.size W)⟩, rfl⟩ (by simpa using h)
theorem Qaz {W : World} {a : Addr} {v : Value} (h : W.cell? a = some v) (u : BW W) : u.now.cell? a = some v := Qa0 u.ok h
theorem QbF {P : Program} {f : FuncId} {args : Array Value} {W : World} {v : Value} {u : BW W} (h : Calls P f args u.now fun e w' => e = .returned v ∧ Below u.now.heap.size u.now w') : Calls P f args u.now fun e w'' => e = .returned v ∧ ∃ u' : BW W, w'' = u'.now :=
  h.mono fun _ w' ⟨he, hb⟩ => ⟨he, ⟨w', Qac u.ok hb⟩, rfl⟩
theorem bw_alloc {w : World} {a : Addr} {v : Value} (h : w.cell? a = some v) (o : Obj) : (w.alloc o).cell? a = some v := Qa0 (Qai (Below.refl _ _) o) h
section
attribute [local go_sem] QaE QaC QaS QaR Qaw Qav QaD QaB
def QbI.f (a0_0 : Int) (a0_1 : Int) (a0_2 : ByteArray) (a0_3 : Int) (a0_4 : ByteArray) (a0_5 : ByteArray) (a0_6 : ByteArray) (a0_7 : ByteArray) (a0_8 : ByteArray) : Option (ByteArray × ByteArray) := (Qbu.f a0_0).bind fun t103 => (some (t103, a0_2))
def QbI.T1 : Bool × List (List Nat × List Nat) := (true, [([], []), ([0], [0]), ([1], [1]), ([2], [2]), ([], []), ([4], [4]), ([3, 5], [3, 5]), ([6, 3, 0, 1, 2, 3, 4, 5, 6], [6])])
def QbI.B1 : List Nat := [0, 1, 3, 7, 0, 16, 63, 127]
theorem QbI.tab1 : rtab .any (opsOf Tryz.f85 1) = QbI.T1 := by kernel_rfl
theorem QbI.bits1 : waitsOk QbI.T1.2 QbI.B1 = true := by kernel_rfl
set_option maxHeartbeats 8000000 in
set_option maxRecDepth 100000 in
theorem QbI.calls (a0_0 : Int) (a0_1 : Int) (a0_2 : ByteArray) (a0_3 : Int) (a0_4 : ByteArray) (a0_5 : ByteArray) (a0_6 : ByteArray) (a0_7 : ByteArray) (a0_8 : ByteArray) (r1 : ByteArray) (r2 : ByteArray) (w : World) (h : QbI.f a0_0 a0_1 a0_2 a0_3 a0_4 a0_5 a0_6 a0_7 a0_8 = some (r1, r2)) :
  Calls Tryz.prog 85 #[.agg #[.int .i64 a0_0, .int .i64 a0_1, .string a0_2, .int .i64 a0_3, .string a0_4, .string a0_5, .string a0_6, .string a0_7, .string a0_8]] w fun e w' => e = .returned (.agg #[.string r1, .string r2]) ∧ Below w.heap.size w w' := by
 have hu35 := Tryz.underlying35; have hu33 := Tryz.underlying33; have HB := Qaa.mk (Below.refl w.heap.size w); have H : ((Qbu.f a0_0).bind fun t103 => (some (t103, a0_2))) = some (r1, r2) := h; clear h; replace H := Option.bind_eq_some_iff.mp H; obtain ⟨t103, A20, H⟩ := H; replace H : (some (t103, a0_2)) = some (r1, r2) := H; have A2 := Qaa.mk A20; clear A20; simp only [Option.some.injEq, Prod.mk.injEq] at H; obtain ⟨rfl, rfl⟩ := H; go_enter Tryz.func85, Tryz.ntmps85
 try go_wp2_with (first | ((with_reducible refine QaA (N := 1) rfl ?_); refine Qax ?hg (N := 1) ?hd (cs := #[.int .i64 a0_0, .int .i64 a0_1, .string a0_2, .int .i64 a0_3, .string a0_4, .string a0_5, .string a0_6, .string a0_7, .string a0_8]) (t := 35) ?hr ?_; (case hd => rfl); (case hg => rfl); (case hr => first | (go_simp; done) | (go_simp; rfl)); intro gb101 hg w3 hbox hb; have BK101 := Qaa.mk (hbox); have GW101 := (gz_ hg : Qaa (w.heap.size ≤ gb101)); have GE101 := (gz_ hg : Qaa (w.heap.size ≤ gb101)); replace HB := Qaa.mk (Qac bw_ hb); clear hb hbox hg) | ((with_reducible refine QaA (N := 2) rfl ?_); refine Qax ?hg (N := 2) ?hd (cs := #[.string (⟨#[]⟩ : ByteArray), .string (⟨#[]⟩ : ByteArray)]) (t := 33) ?hr ?_; (case hd => rfl); (case hg => rfl); (case hr => first | (go_simp; done) | (go_simp; rfl)); intro gb102 hg w4 hbox hb; have BK102 := Qaa.mk (hbox); have GW102 := (gz_ hg : Qaa (w.heap.size ≤ gb102)); have GE102 := (gz_ hg : Qaa (w.heap.size ≤ gb102)); have NB101_102 := (nl_ hg : Qaa (gb101 ≠ gb102)); have NB102_101 := (ng_ hg : Qaa (gb102 ≠ gb101)); replace BK101 := Qaa.mk (Qad (g := gb101) bk_ hb); replace HB := Qaa.mk (Qac bw_ hb); clear hb hbox hg))
 replace BK101 := Qaa.mk (Qan BK101.out); replace BK102 := Qaa.mk (Qan BK102.out); replace HB := Qaa.mk (Qau HB.out); refine Qbo (n := 8) (S := fun w' => cgl_iisisssss w' gb101 a0_0 a0_1 a0_2 a0_3 a0_4 a0_5 a0_6 a0_7 a0_8) (ds := []) #[ff,ff,ff,ff,ff,ff,ff,ff] (by kernel_rfl) rfl rfl (cl_9 BK101.out) (fun hHeld => ?_); refine Qa9 QbI.tab1 QbI.bits1 (fun HT_ HW_ => ?_)
 generalize w4.drew = w5 at BK101 BK102 HB hHeld ⊢
 refine pz 0 3 ?_; refine pz 1 4 ?_; refine pz 4 7 ?_; refine tk9 2 5 ?_; refine tk9 5 8 ?_; refine one_ (i := 3) (N := some 6) #[tt,tt,tt,tt,tt,tt,ff,ff] rfl rfl (QbK HT_.out (by kernel_rfl)) (by decide) (fun K hK => ?_); refine goes_ Tryz.func15 (by kernel_rfl) rfl #[.int .i64 a0_0] (by rfl) rfl rfl (by (try simp only [List.map_toArray, List.map_cons, List.map_nil]); first | done | rfl | (simp only [List.length_drop, List.length_take]; rfl)) ?_
 with_reducible refine (Qbu.calls a0_0 t103 _ A2.out).mono ?_
 rintro e w' ⟨rfl, ⟨nd, rfl⟩⟩; refine ⟨_, rfl, ?_⟩; refine hK.out _ _ (cl_9 BK101.out) (fun hHeld => ?_); clear hK K; refine norm_ (a' := ?_) ?_ ?_; rotate_left
 ·show Act.put _ (some 6) _ = _
  simp only [Act.put, put_, Qbe, Qbh]; rfl
 refine pz 6 9 ?_; refine one_ (i := 7) (N := none) #[tt,tt,tt,tt,tt,tt,tt,tt] rfl rfl (QbK HT_.out (by kernel_rfl)) (by decide) (fun K hK => ?_); have hs6 : w5.cell? ⟨gb102, 0, none⟩ = some (.string (⟨#[]⟩ : ByteArray)) := (Qak BK102.out 0).trans rfl; have hfs6 := QaP BK102.out 0; have hns6_0 := NB101_102.out; have hms6_0 := NB102_101.out; have hs7 : w5.cell? ⟨gb102, 1, none⟩ = some (.string (⟨#[]⟩ : ByteArray)) := (Qak BK102.out 1).trans rfl; have hfs7 := QaP BK102.out 1; have hns7_0 := NB101_102.out; have hms7_0 := NB102_101.out; refine skip_ (w1 := ?_) (by rfl) rfl ?_ ?_; rotate_left
 ·go_simp; rfl
 refine hK.out _ _ ⟨((cell_far (p := ⟨gb102, _, none⟩) NB101_102.out _).trans (((cell_far (p := ⟨gb102, _, none⟩) NB101_102.out _).trans (hHeld.1)))), ((cell_far (p := ⟨gb102, _, none⟩) NB101_102.out _).trans (((cell_far (p := ⟨gb102, _, none⟩) NB101_102.out _).trans (hHeld.2.1)))), ((cell_far (p := ⟨gb102, _, none⟩) NB101_102.out _).trans (((cell_far (p := ⟨gb102, _, none⟩) NB101_102.out _).trans (hHeld.2.2.1)))), ((cell_far (p := ⟨gb102, _, none⟩) NB101_102.out _).trans (((cell_far (p := ⟨gb102, _, none⟩) NB101_102.out _).trans (hHeld.2.2.2.1)))), ((cell_far (p := ⟨gb102, _, none⟩) NB101_102.out _).trans (((cell_far (p := ⟨gb102, _, none⟩) NB101_102.out _).trans (hHeld.2.2.2.2.1)))), ((cell_far (p := ⟨gb102, _, none⟩) NB101_102.out _).trans (((cell_far (p := ⟨gb102, _, none⟩) NB101_102.out _).trans (hHeld.2.2.2.2.2.1)))), ((cell_far (p := ⟨gb102, _, none⟩) NB101_102.out _).trans (((cell_far (p := ⟨gb102, _, none⟩) NB101_102.out _).trans (hHeld.2.2.2.2.2.2.1)))), ((cell_far (p := ⟨gb102, _, none⟩) NB101_102.out _).trans (((cell_far (p := ⟨gb102, _, none⟩) NB101_102.out _).trans (hHeld.2.2.2.2.2.2.2.1)))), ((cell_far (p := ⟨gb102, _, none⟩) NB101_102.out _).trans (((cell_far (p := ⟨gb102, _, none⟩) NB101_102.out _).trans (hHeld.2.2.2.2.2.2.2.2))))⟩ (fun hHeld => ?_); clear hK K; refine QbS (Qbz HT_.out (by kernel_rfl)) ?_
 try go_wp2
 refine bodyPost_ret (results_cell_row rfl _ _ gb102 33 #[.string t103, .string a0_2] (0, 0) _ rfl (by (with_reducible repeat (first | refine Qat ?_ _ | refine Qan ?_ | refine Qam ?_ _)); refine Qbl (cs := #[.string t103, .string (⟨#[]⟩ : ByteArray)]) ?_ 1 _ rfl; (with_reducible repeat (first | refine Qat ?_ _ | refine Qan ?_ | refine Qam ?_ _)); refine Qbl (cs := #[.string (⟨#[]⟩ : ByteArray), .string (⟨#[]⟩ : ByteArray)]) ?_ 0 _ rfl; (with_reducible repeat (first | refine Qat ?_ _ | refine Qan ?_ | refine Qam ?_ _)); exact BK102.out) Tryz.underlying33 rfl (by kernel_rfl)) rfl ?_; exact ⟨by first | rfl | (simp [Qap, Qao] <;> rfl) | (simp [*, Qap, Qao] <;> rfl), bw_⟩

set_option maxRecDepth 100000 in
set_option maxHeartbeats 1000000 in
theorem or_calls (w : World) (g : Nat) (a b : Int) (h0 : w.cell? ⟨g, 0, none⟩ = some (.int .i64 a)) (h1 : w.cell? ⟨g, 1, none⟩ = some (.int .i64 b)) :
    Calls Tryz.prog 97 #[.slice (some ⟨g, 0, none⟩) 2 2] w fun e w' => e = .returned (.int .i64 (if a = 0 then b else a)) ∧ w' = w := by
  obtain ⟨r, hr⟩ : ∃ r, r = (if a = 0 then b else a) := ⟨_, rfl⟩
  rw [← hr]; have HR := Lib.hid hr; clear hr; go_enter Tryz.func97, Tryz.ntmps97; go_wp2
  go_loopg [5, 8] 3 (fun kq _ v8 w' => ∃ i : Nat, v8 = .int .i64 i ∧ Hid (kq = 3 - i) ∧ Hid (i ≤ 2) ∧ w' = w ∧ Hid (1 ≤ i → a = 0) ∧ Hid (2 ≤ i → b = 0))
  case atStart => exact ⟨0, rfl, Lib.hid rfl, Lib.hid (by omega), rfl, Lib.hid (by omega), Lib.hid (by omega)⟩
  case round =>
    obtain ⟨i, rfl, HK, HI, rfl, HA, HB⟩ := hrel; have hi := HI.out
    by_cases i0 : i = 0
    · subst i0
      clear hi
      by_cases a0 : a = 0
      · have b0 : (a != 0) = false := by rw [a0]; rfl
        have A0 := Lib.hid a0; clear a0; go_wp2
        go_roundg 2
        case measure => have := HK.out; omega
        case rel => exact ⟨1, rfl, Lib.hid rfl, Lib.hid (by omega), rfl, Lib.hid (fun _ => A0.out), Lib.hid (by omega)⟩
      · have b0 : (a != 0) = true := bne_iff_ne.mpr a0
        have A0 := Lib.hid a0; clear a0; go_wp2; go_ret; exact ⟨by rw [HR.out, if_neg A0.out]; rfl, rfl⟩
    · by_cases i1 : i = 1
      · subst i1
        clear hi i0
        by_cases a0 : b = 0
        · have b0 : (b != 0) = false := by rw [a0]; rfl
          have A0 := Lib.hid a0; clear a0; go_wp2
          go_roundg 1
          case measure => have := HK.out; omega
          case rel => exact ⟨2, rfl, Lib.hid rfl, Lib.hid (by omega), rfl, Lib.hid (fun _ => HA.out (by omega)), Lib.hid (fun _ => A0.out)⟩
        · have b0 : (b != 0) = true := bne_iff_ne.mpr a0
          have A0 := Lib.hid a0; clear a0; go_wp2; go_ret; exact ⟨by rw [HR.out, if_pos (HA.out (by omega))]; rfl, rfl⟩
      · have i2 : i = 2 := by omega
        subst i2; clear hi i0 i1; go_wp2; go_ret; exact ⟨by rw [HR.out, if_pos (HA.out (by omega)), HB.out (by omega)]; rfl, rfl⟩
end
end Go.Proofs.YtbjjonpkmplhbaaGreatDoor.Pr
end
section
namespace Go.Proofs.YtbjjonpkmplhbaaGreatDoor
open Go.ChangeMaps (setBlock) 
open Go.MapKept
open Go.Maps (Keyed)
open Go.RowKit
structure KeyK (P : Program) (k : TypeId) {κ : Type} (enc : κ → Value) (ok : κ → Prop) : Prop where
  keyed : Keyed P k
  lit : ∀ x, ok x → ∃ l, keyOf P k (enc x) = some l
  inj : ∀ x y, ok x → ok y → enc x = enc y → x = y
def Tbl {κ : Type} (enc : κ → Value) (ok : κ → Prop) (w : World) (b : Nat) (l : List (κ × Value)) : Prop :=
  ∃ es clock, w.heap[b]? = some (.map es clock) ∧ es.toList.map (fun e => (e.key, e.val)) = l.map (fun x => (enc x.1, x.2)) ∧ (∀ x ∈ l, ok x.1) ∧ Stamped es clock ∧ es.size ≤ maxLen
def tput {κ : Type} [DecidableEq κ] (l : List (κ × Value)) (x : κ) (v : Value) : List (κ × Value) :=
  if l.any (fun y => decide (y.1 = x)) then l.map (fun y => if y.1 = x then (x, v) else y) else l ++ [(x, v)]
def tget {κ : Type} [DecidableEq κ] (l : List (κ × Value)) (x : κ) : Option Value := (l.find? fun y => decide (y.1 = x)).map (·.2)
section
variable {κ : Type} {P : Program} {k : TypeId} {enc : κ → Value} {ok : κ → Prop} {w : World} {b : Nat} {l : List (κ × Value)}
theorem Tbl.lt (h : Tbl enc ok w b l) : b < w.heap.size := by
  obtain ⟨es, clock, hb, _⟩ := h; exact (Array.getElem?_eq_some_iff.1 hb).1
theorem Tbl.same (h : Tbl enc ok w b l) {w' : World} (hs : w'.heap[b]? = w.heap[b]?) : Tbl enc ok w' b l := by
  obtain ⟨es, clock, hb, r⟩ := h; exact ⟨es, clock, hs.trans hb, r⟩
theorem Tbl.below (h : Tbl enc ok w b l) {w' : World} (hb : Below w.heap.size w w') : Tbl enc ok w' b l := h.same (hb.block b h.lt)
theorem Tbl.grown (h : Tbl enc ok w b l) {w' : World} {row : Option Nat} (hg : w.grownBy w' row) (hne : some b ≠ row) : Tbl enc ok w' b l := h.same (hg.block b h.lt hne)
theorem Tbl.set (h : Tbl enc ok w b l) {a : Addr} (hne : b ≠ a.block) (u : Value) : Tbl enc ok (w.setCell a u) b l := h.same (Below.heap_setCell w a u b hne)
theorem Tbl.made (enc : κ → Value) (ok : κ → Prop) (w : World) : Tbl enc ok (w.alloc (.map #[] 0)) w.heap.size [] :=
  ⟨#[], 0, (MapKept.heap_alloc w _).1, rfl, by simp, stamped_empty 0, by simp [maxLen]⟩
theorem Tbl.nodup (h : Tbl enc ok w b l) : (l.map (·.1)).Nodup := by
  obtain ⟨es, clock, _, hl, _, hs, _⟩ := h; have h3 : (es.toList.map (·.key)).Nodup := hs.2.2
  have e1 : es.toList.map (·.key) = (es.toList.map (fun e => (e.key, e.val))).map (·.1) := by rw [List.map_map]; rfl
  rw [e1, hl, List.map_map] at h3
  have e2 : l.map ((fun x => x.1) ∘ fun x => (enc x.1, x.2)) = (l.map (·.1)).map enc := by rw [List.map_map]; rfl
  rw [e2] at h3; exact List.Pairwise.of_map enc (fun a b hne e => hne (congrArg enc e)) h3
theorem Tbl.oks (h : Tbl enc ok w b l) : ∀ x ∈ l, ok x.1 := by
  obtain ⟨es, clock, _, _, ho, _⟩ := h; exact ho
theorem tbl_keys (K : KeyK P k enc ok) {es : Array MapEntry} {l : List (κ × Value)} (hl : es.toList.map (fun e => (e.key, e.val)) = l.map (fun x => (enc x.1, x.2))) (ho : ∀ x ∈ l, ok x.1) : ∀ e ∈ es.toList, ∃ x ∈ l, e.key = enc x.1 ∧ e.val = x.2 ∧ ∃ lit, keyOf P k e.key = some lit := by
  intro e he
  have hm : (e.key, e.val) ∈ l.map (fun x => (enc x.1, x.2)) := by rw [← hl]; exact List.mem_map.2 ⟨e, he, rfl⟩
  obtain ⟨x, hx, hxe⟩ := List.mem_map.1 hm; simp only [Prod.mk.injEq] at hxe; obtain ⟨lit, hlit⟩ := K.lit x.1 (ho x hx); exact ⟨x, hx, hxe.1.symm, hxe.2.symm, lit, by rw [← hxe.1]; exact hlit⟩
variable [DecidableEq κ]
theorem tget_some {l : List (κ × Value)} {x : κ} {v : Value} (hn : (l.map (·.1)).Nodup) (h : (x, v) ∈ l) : tget l x = some v := by
  induction l with
  | nil => simp at h
  | cons y l ih =>
    rw [List.map_cons, List.nodup_cons] at hn; unfold tget; rw [List.find?_cons]
    rcases List.mem_cons.1 h with h | h
    · subst h
      simp
    · by_cases e : y.1 = x
      · exact absurd (List.mem_map.2 ⟨(x, v), h, e.symm⟩) hn.1
      · rw [decide_eq_false e]
        exact ih hn.2 h
theorem tget_none {l : List (κ × Value)} {x : κ} (h : ∀ y ∈ l, y.1 ≠ x) : tget l x = none := by
  unfold tget; rw [List.find?_eq_none.2 (fun y hy => by simpa using h y hy)]; rfl
theorem Tbl.look (K : KeyK P k enc ok) (h : Tbl enc ok w b l) {t e : TypeId} (ht : P.underlying t = some (.map k e)) {z : Value} (hz : ∀ W, (zeroValue e).run P W = .ok z W) {x : κ} (hx : ok x) (c : Bool) :
    ∀ W : World, W.heap[b]? = w.heap[b]? → (Instr.lookup t (.map (some b)) (enc x) c).run P W = .ok (if c then .tuple #[(tget l x).getD z, .bool (tget l x).isSome] else (tget l x).getD z) W := by
  obtain ⟨es, clock, hb, hl, ho, hs, hm⟩ := h; obtain ⟨lit, hlit⟩ := K.lit x hx; have keys := tbl_keys K hl ho; have hn : (l.map (·.1)).Nodup := Tbl.nodup (w := w) (b := b) ⟨es, clock, hb, hl, ho, hs, hm⟩; intro W hW; have hb' := hW.trans hb
  rcases K.keyed.find W hlit es.toList (fun e he => (keys e he).choose_spec.2.2.2) with ⟨h1, h2⟩ | ⟨j, e0, h1, h2, h3⟩
  · have hno : tget l x = none := by
      apply tget_none
      intro y hy hyx
      have hm : (enc y.1, y.2) ∈ es.toList.map (fun e => (e.key, e.val)) := by rw [hl]; exact List.mem_map.2 ⟨y, hy, rfl⟩
      obtain ⟨e, he, hey⟩ := List.mem_map.1 hm; simp only [Prod.mk.injEq] at hey; exact h2 e he (by rw [hey.1, hyx])
    rw [hno]; simp [Instr.lookup, run_underlying ht, MapKept.run_getObj_map hb', K.keyed.check W _ hlit, h1, hz, Result.andThen]
  · have hm0 : e0 ∈ es.toList := List.mem_of_getElem? h2
    obtain ⟨y, hy, hk1, hv1, _⟩ := keys e0 hm0; have hyx : y.1 = x := K.inj _ _ (ho y hy) hx (by rw [← hk1, h3])
    have hsome : tget l x = some e0.val := by
      rw [hv1, ← hyx]; exact tget_some hn hy
    rw [hsome]; simp [Instr.lookup, run_underlying ht, MapKept.run_getObj_map hb', K.keyed.check W _ hlit, h1, Result.andThen]
theorem Tbl.store (K : KeyK P k enc ok) (h : Tbl enc ok w b l) {t e : TypeId} (ht : P.underlying t = some (.map k e)) {x : κ} (hx : ok x) (v : Value) (hroom : l.length < maxLen) :
    ∃ O, (∀ W : World, W.heap[b]? = w.heap[b]? → (Instr.mapUpdate t (.map (some b)) (enc x) v).run P W = .ok () (setBlock W b O)) ∧ ∀ W : World, b < W.heap.size → Tbl enc ok (setBlock W b O) b (tput l x v) := by
  obtain ⟨es, clock, hb, hl, ho, hs, hm⟩ := h; obtain ⟨lit, hlit⟩ := K.lit x hx; have keys := tbl_keys K hl ho; have hn : (l.map (·.1)).Nodup := Tbl.nodup (w := w) (b := b) ⟨es, clock, hb, hl, ho, hs, hm⟩
  have hlen : es.size = l.length := by simpa using congrArg List.length hl
  have hbo : ∀ (W : World) (O : Obj), b < W.heap.size → (setBlock W b O).heap[b]? = some O := fun W O hW => by simp [setBlock, hW]
  rcases K.keyed.find w hlit es.toList (fun e he => (keys e he).choose_spec.2.2.2) with ⟨h1, h2⟩ | ⟨j, e0, h1, h2, h3⟩
  · refine ⟨.map (es.push ⟨enc x, v, clock⟩) (clock + 1), fun W hW => ?_, fun W hW => ⟨_, _, hbo W _ hW, ?_, ?_, stamped_push hs h2, by rw [Array.size_push]; omega⟩⟩
    · have hb' := hW.trans hb
      rcases K.keyed.find W hlit es.toList (fun e he => (keys e he).choose_spec.2.2.2) with ⟨h1', _⟩ | ⟨j, e0, _, h2', h3'⟩
      · simp [Instr.mapUpdate, run_underlying ht, MapKept.run_getObj_map hb', K.keyed.check W false hlit, h1', MapKept.run_setObj_map _ hb', Result.andThen, setBlock]
      · exact absurd h3' (h2 e0 (List.mem_of_getElem? h2'))
    · have hno : l.any (fun y => decide (y.1 = x)) = false := by
        rw [List.any_eq_false]; intro y hy; simp only [decide_eq_true_eq]; intro hyx
        have hm : (enc y.1, y.2) ∈ es.toList.map (fun e => (e.key, e.val)) := by rw [hl]; exact List.mem_map.2 ⟨y, hy, rfl⟩
        obtain ⟨e, he, hey⟩ := List.mem_map.1 hm; simp only [Prod.mk.injEq] at hey; exact h2 e he (by rw [hey.1, hyx])
      unfold tput; rw [hno]; simp [hl]
    · intro y hy
      unfold tput at hy
      split at hy
      · obtain ⟨z, hz, rfl⟩ := List.mem_map.1 hy
        split
        · exact hx
        · exact ho z hz
      · rcases List.mem_append.1 hy with hy | hy
        · exact ho y hy
        · rw [List.mem_singleton.1 hy]
          exact hx
  · have hm0 : e0 ∈ es.toList := List.mem_of_getElem? h2
    obtain ⟨y, hy, hk1, hv1, _⟩ := keys e0 hm0; have hyx : y.1 = x := K.inj _ _ (ho y hy) hx (by rw [← hk1, h3])
    have hj : es[j]? = some e0 := by simpa using h2
    refine ⟨.map (es.modify j fun e => { e with key := enc x, val := v }) clock, fun W hW => ?_, fun W hW => ⟨_, _, hbo W _ hW, ?_, ?_, ?_, by rw [Array.size_modify]; omega⟩⟩
    · have hb' := hW.trans hb
      rcases K.keyed.find W hlit es.toList (fun e he => (keys e he).choose_spec.2.2.2) with ⟨_, h2'⟩ | ⟨j', e1, h1', h2', h3'⟩
      · exact absurd h3 (h2' e0 hm0)
      · have hjj : j' = j := by
          have hnd : (es.toList.map (·.key)).Nodup := hs.2.2
          have a1 : (es.toList.map (·.key))[j']? = some (enc x) := by rw [List.getElem?_map, h2', Option.map_some, h3']
          have a2 : (es.toList.map (·.key))[j]? = some (enc x) := by rw [List.getElem?_map, h2, Option.map_some, h3]
          have b1 := (List.getElem?_eq_some_iff.1 a1).1; exact (List.getElem?_inj b1 hnd).1 (a1.trans a2.symm)
        subst hjj; have he1 : e1 = e0 := Option.some.inj (h2'.symm.trans h2)
        have hkk : ((es[j']?).map (·.key)).getD (enc x) = enc x := by rw [hj]; simp [h3]
        simp [Instr.mapUpdate, run_underlying ht, MapKept.run_getObj_map hb', K.keyed.check W false hlit, h1', hj, h3, K.keyed.stays W hlit, MapKept.run_setObj_map _ hb', Result.andThen, setBlock]
    · have hyes : l.any (fun y => decide (y.1 = x)) = true := List.any_eq_true.2 ⟨y, hy, by simpa using hyx⟩
      unfold tput; rw [hyes]; simp only [if_true]
      apply List.ext_getElem?
      intro i; have hi := congrArg (fun z => z[i]?) hl; simp only [List.getElem?_map] at hi ⊢; rw [Array.getElem?_toList, Array.getElem?_modify]; rw [Array.getElem?_toList] at hi
      by_cases hij : j = i
      · subst hij
        rw [if_pos rfl]; rw [hj] at hi ⊢
        cases hli : l[j]? with
        | none => rw [hli] at hi; simp at hi
        | some q =>
          rw [hli] at hi; simp only [Option.map_some, Option.some.injEq, Prod.mk.injEq] at hi ⊢; have hq : q.1 = x := K.inj _ _ (ho q (List.mem_of_getElem? hli)) hx (by rw [← hi.1, h3]); rw [if_pos hq]; exact ⟨rfl, rfl⟩
      · rw [if_neg hij, hi]
        cases hli : l[i]? with
        | none => rfl
        | some q =>
          simp only [Option.map_some, Option.some.injEq]
          have hq : q.1 ≠ x := by
            intro hqx
            have a1 : (l.map (·.1))[i]? = some x := by rw [List.getElem?_map, hli, Option.map_some, hqx]
            have hlj : l[j]?.map (·.1) = some x := by
              have hjj := congrArg (fun z => z[j]?) hl; simp only [List.getElem?_map] at hjj; rw [Array.getElem?_toList, hj] at hjj
              cases hlj : l[j]? with
              | none => rw [hlj] at hjj; simp at hjj
              | some q' =>
                rw [hlj] at hjj; simp only [Option.map_some, Option.some.injEq, Prod.mk.injEq] at hjj ⊢; exact K.inj _ _ (ho q' (List.mem_of_getElem? hlj)) hx (by rw [← hjj.1, h3])
            have a2 : (l.map (·.1))[j]? = some x := by rw [List.getElem?_map]; exact hlj
            have b1 := (List.getElem?_eq_some_iff.1 a1).1; exact hij ((List.getElem?_inj b1 hn).1 (a1.trans a2.symm)).symm
          rw [if_neg hq]
    · intro z hz
      unfold tput at hz
      split at hz
      · obtain ⟨q, hq, rfl⟩ := List.mem_map.1 hz
        split
        · exact hx
        · exact ho q hq
      · rcases List.mem_append.1 hz with hz | hz
        · exact ho z hz
        · rw [List.mem_singleton.1 hz]
          exact hx
    · exact stamped_modify hs j _ (fun _ _ => rfl) (fun e1 _ he1 => by rw [hj] at he1; cases he1; exact h3.symm)
omit [DecidableEq κ] in
def Rng (enc : κ → Value) (ok : κ → Prop) (w : World) (b r : Nat) (l left : List (κ × Value)) : Prop :=
  ∃ es clock since seen c0, w.heap[b]? = some (.map es clock) ∧ es.toList.map (fun e => (e.key, e.val)) = l.map (fun x => (enc x.1, x.2)) ∧ (∀ x ∈ l, ok x.1) ∧ Stamped es clock ∧ es.size ≤ maxLen ∧
    w.heap[r]? = some (.mapIter (some b) since seen c0) ∧ (∀ x ∈ es.toList, x.born < since) ∧ since ≤ c0 ∧ since ≤ clock ∧ (∀ x ∈ left, ok x.1) ∧
    (leftOf es seen).toList.map (fun e => (e.key, e.val)) = left.map (fun x => (enc x.1, x.2))
omit [DecidableEq κ] in
theorem Rng.tbl {r : Nat} {left : List (κ × Value)} (h : Rng enc ok w b r l left) : Tbl enc ok w b l := by
  obtain ⟨es, clock, since, seen, c0, h1, h2, h3, h4, h5, _⟩ := h; exact ⟨es, clock, h1, h2, h3, h4, h5⟩
omit [DecidableEq κ] in
theorem Rng.lt {r : Nat} {left : List (κ × Value)} (h : Rng enc ok w b r l left) : r < w.heap.size := by
  obtain ⟨es, clock, since, seen, c0, h1, h2, h3, h4, h5, h6, _⟩ := h; exact (Array.getElem?_eq_some_iff.1 h6).1
omit [DecidableEq κ] in
theorem Rng.same {r : Nat} {left : List (κ × Value)} (h : Rng enc ok w b r l left) {w' : World} (hb : w'.heap[b]? = w.heap[b]?) (hr : w'.heap[r]? = w.heap[r]?) : Rng enc ok w' b r l left := by
  obtain ⟨es, clock, since, seen, c0, h1, h2, h3, h4, h5, h6, q⟩ := h; exact ⟨es, clock, since, seen, c0, hb.trans h1, h2, h3, h4, h5, hr.trans h6, q⟩
omit [DecidableEq κ] in
theorem Rng.grown {r : Nat} {left : List (κ × Value)} (h : Rng enc ok w b r l left) {w' : World} {row : Option Nat} (hg : w.grownBy w' row) (hb : some b ≠ row) (hr : some r ≠ row) : Rng enc ok w' b r l left := h.same (hg.block b h.tbl.lt hb) (hg.block r h.lt hr)
omit [DecidableEq κ] in
theorem Rng.below {r : Nat} {left : List (κ × Value)} (h : Rng enc ok w b r l left) {w' : World} (hb : Below w.heap.size w w') : Rng enc ok w' b r l left := h.same (hb.block b h.tbl.lt) (hb.block r h.lt)
omit [DecidableEq κ] in
theorem Rng.ne {r : Nat} {left : List (κ × Value)} (h : Rng enc ok w b r l left) : b ≠ r := by
  obtain ⟨es, clock, since, seen, c0, h1, h2, h3, h4, h5, h6, q⟩ := h; rintro rfl; rw [h1] at h6; cases h6
omit [DecidableEq κ] in
theorem Tbl.range (h : Tbl enc ok w b l) {t e : TypeId} (ht : P.underlying t = some (.map k e)) :
    ∃ O, (∀ W : World, W.heap[b]? = w.heap[b]? → (Instr.range t (.map (some b))).run P W = .ok (.pointer (some ⟨W.heap.size, 0, none⟩)) (W.alloc O)) ∧ ∀ W : World, W.heap[b]? = w.heap[b]? → Rng enc ok (W.alloc O) b W.heap.size l l := by
  have hlt := h.lt; obtain ⟨es, clock, hb, hl, ho, hs, hm⟩ := h; refine ⟨.mapIter (some b) clock #[] clock, fun W hW => run_range_map W t k e b es clock ht (hW.trans hb), fun W hW => ?_⟩; have hltW : b < W.heap.size := (Array.getElem?_eq_some_iff.1 (hW.trans hb)).1; exact ⟨es, clock, clock, #[], clock, ((MapKept.heap_alloc W _).2 b hltW).trans (hW.trans hb), hl, ho, hs, hm, (MapKept.heap_alloc W _).1, hs.1, Nat.le_refl _, Nat.le_refl _, ho, by rw [show (leftOf es #[]).toList = es.toList from by unfold leftOf; rw [Array.toList_filter, List.filter_eq_self.2 (fun _ _ => by simp)]]; exact hl⟩
theorem map_drop_one {α : Type} (l : List α) (e : α) (he : e ∈ l) (p : α → Bool) (hp : ∀ x ∈ l, p x = false ↔ x = e) (hn : l.Nodup) : ∃ a c, l = a ++ e :: c ∧ l.filter p = a ++ c := by
  obtain ⟨a, c, rfl⟩ := List.append_of_mem he; refine ⟨a, c, rfl, ?_⟩; rw [List.nodup_append] at hn; have hc := List.nodup_cons.1 hn.2.1; rw [List.filter_append, List.filter_cons]; have he' : p e = false := (hp e (by simp)).2 rfl; rw [he']; simp only [Bool.false_eq_true, if_false]; rw [List.filter_eq_self.2 (fun x hx => ?_), List.filter_eq_self.2 (fun x hx => ?_)]
  · cases h : p x
    · have := (hp x (by simp [hx])).1 h
      subst this; exact absurd hx hc.1
    · rfl
  · cases h : p x
    · have := (hp x (by simp [hx])).1 h
      subst this; exact absurd rfl (hn.2.2 x hx x (by simp))
    · rfl
omit [DecidableEq κ] in
theorem Rng.next {r : Nat} {left : List (κ × Value)} (h : Rng enc ok w b r l left) (ty : TypeId) :
    (left = [] ∧ (Instr.next (.pointer (some ⟨r, 0, none⟩)) false ty).run P w = .ok (.tuple #[.bool false]) w) ∨
    ∃ a x c w', left = a ++ x :: c ∧ ok x.1 ∧ (Instr.next (.pointer (some ⟨r, 0, none⟩)) false ty).run P w = .ok (.tuple #[.bool true, enc x.1, x.2]) w' ∧ Rng enc ok w' b r l (a ++ c) ∧ w.grownBy w' (some r) ∧ w'.heap.size = w.heap.size ∧
      (∀ W : World, W.heap[b]? = w'.heap[b]? → W.heap[r]? = w'.heap[r]? → (Instr.entry (.pointer (some ⟨r, 0, none⟩))).run P W = .ok (.tuple #[enc x.1, x.2]) W) := by
  have hne := h.ne; obtain ⟨es, clock, since, seen, c0, hb, hl, ho, hs, hm, hr, hold, hsc, hsk, hol, hle⟩ := h
  rcases run_next_at (P := P) w ty r b since c0 seen es clock hr hb hold hsc with ⟨h0, hrun⟩ | ⟨e, he, w1, hal, hrun⟩
  · left
    refine ⟨?_, hrun⟩; have := congrArg List.length hle; simp at this; exact List.eq_nil_of_length_eq_zero (by omega)
  · right
    obtain ⟨hem, hes⟩ := mem_left he
    have hr1 : w1.heap[r]? = some (.mapIter (some b) since seen c0) := by rcases hal with rfl | rfl <;> exact hr
    have hb1 : w1.heap[b]? = some (.map es clock) := by rcases hal with rfl | rfl <;> exact hb
    have hset := heap_set (o' := .mapIter (some b) since (seen.push e.born) clock) hr1; have hb' : (setBlock w1 r (.mapIter (some b) since (seen.push e.born) clock)).heap[b]? = some (.map es clock) := (hset.2 b hne).trans hb1
    have hnd : (leftOf es seen).toList.Nodup := by
      unfold leftOf; rw [Array.toList_filter]; exact (List.Pairwise.of_map (fun e : MapEntry => e.born) (fun a b hne e => hne (congrArg MapEntry.born e)) hs.2.1).filter _
    have hborn : ∀ x ∈ (leftOf es seen).toList, (!(seen.push e.born).contains x.born) = false ↔ x = e := by
      intro x hx; obtain ⟨hxm, hxs⟩ := mem_left hx; rw [contains_push, hxs]; constructor
      · intro h
        simp at h; exact born_inj hs.2.1 hxm hem h
      · rintro rfl
        simp
    obtain ⟨a', c', h1, h2⟩ := map_drop_one (leftOf es seen).toList e he (fun x => !(seen.push e.born).contains x.born) hborn hnd
    have h3 : (leftOf es (seen.push e.born)).toList = a' ++ c' := by
      rw [← h2]; unfold leftOf; rw [Array.toList_filter, Array.toList_filter, List.filter_filter]
      apply List.filter_congr
      intro x hx; rw [contains_push]
      cases seen.contains x.born <;> simp
    rw [h1, List.map_append, List.map_cons] at hle; obtain ⟨a, xc, hle1, hle2, hle3⟩ := List.append_eq_map_iff.1 hle; obtain ⟨x, c, hxc, hle4, hle5⟩ := List.map_eq_cons_iff.1 hle3; simp only [Prod.mk.injEq] at hle4; refine ⟨a, x, c, _, by rw [hle1, hxc], hol x (by rw [hle1, hxc]; simp), by rw [hle4.1, hle4.2]; exact hrun, ⟨es, clock, since, seen.push e.born, clock, hb', hl, ho, hs, hm, hset.1, hold, hsk, hsk, fun y hy => hol y (by rw [hle1, hxc]; rcases List.mem_append.1 hy with hy | hy <;> simp [hy]), by rw [h3, List.map_append, List.map_append, hle2, hle5]⟩, ?_, ?_, fun W hWb hWr => ?_⟩
    · rcases hal with rfl | rfl <;> exact ⟨rfl, rfl, rfl, by simp [setBlock], fun i _ hi => hset.2 i (fun e1 => hi (by rw [e1]))⟩
    · rcases hal with rfl | rfl <;> simp [setBlock]
    · rw [hle4.1, hle4.2]
      exact run_entry_at W r b since seen es clock e (hWr.trans hset.1) (hWb.trans hb') hem hs.2.1
end
end Go.Proofs.YtbjjonpkmplhbaaGreatDoor
end
section
namespace Go.Proofs.YtbjjonpkmplhbaaGreatDoor.Pr
open Go.RowKit Go.Proofs.YtbjjonpkmplhbaaGreatDoorW.PrintWords Go.Proofs.YtbjjonpkmplhbaaGreatDoorW.PrintLast Go.Proofs.YtbjjonpkmplhbaaGreatDoorW.PrintMore
set_option linter.unusedVariables false
set_option linter.unusedSimpArgs false
section
open Go.Sort
structure Flat {α : Type} (d : Kd α) (enc : α → List Value) : Prop where
  opens : ∀ {w base ok x cs}, d.M w base ok x cs → cs = enc x
  shuts : ∀ w base ok x, d.M w base ok x (enc x)
  len : ∀ x, (enc x).length = d.sz
section
variable {α : Type} [Inhabited α] {d : Kd α} {enc : α → List Value} {w : World} {e base : Nat} {ok : Nat → Prop} {g off n cap : Nat} {l : List α}
omit [Inhabited α] in
theorem flat_len (enc : α → List Value) (k : Nat) (hk : ∀ x, (enc x).length = k) (l : List α) : (l.flatMap enc).length = l.length * k := by
  induction l with
  | nil => simp
  | cons x l ih => rw [List.flatMap_cons, List.length_append, hk, ih, List.length_cons, Nat.add_mul, Nat.one_mul, Nat.add_comm]
theorem flat_toList (enc : α → List Value) (k : Nat) (hk : ∀ x, (enc x).length = k) (l : List α) : (flatK enc k l.toArray).toList = l.flatMap enc := by
  apply List.ext_getElem?
  intro i; have hlen : (l.flatMap enc).length = l.length * k := flat_len enc k hk l
  by_cases hi : i < l.length * k
  · have hk0 : 0 < k := by rcases Nat.eq_zero_or_pos k with h | h; (subst h; simp at hi); exact h
    have h1 := get_flatK enc k l.toArray i (by simpa using hi); rw [Array.getElem?_toList, getElem?_pos _ i (by simpa using hi)]; rw [getElem!_pos _ i (by simpa using hi)] at h1; rw [h1]; clear h1 hlen
    induction l generalizing i with
    | nil => simp at hi
    | cons x l ih =>
      rw [List.flatMap_cons]
      by_cases hx : i < k
      · rw [List.getElem?_append_left (by rw [hk]; exact hx), Nat.div_eq_of_lt hx, Nat.mod_eq_of_lt hx]
        simp [hk, hx]
      · rw [List.getElem?_append_right (by rw [hk]; omega), hk]
        have hi2 : i - k < l.length * k := by simp [Nat.add_mul] at hi; omega
        have e1 : i / k = (i - k) / k + 1 := by
          have := Nat.add_div_right (i - k) hk0; rw [show i - k + k = i by omega] at this; exact this
        have e2 : i % k = (i - k) % k := by
          have := Nat.add_mod_right (i - k) k; rw [show i - k + k = i by omega] at this; exact this
        rw [← ih (i - k) hi2, e1, e2]; simp
  · rw [Array.getElem?_toList, getElem?_neg _ i (by simpa using hi), List.getElem?_eq_none (by omega)]
omit [Inhabited α] in
theorem reps_flat (hF : Flat d enc) {inner : List Value} (h : Reps (d.M w base ok) d.sz l inner) : inner = l.flatMap enc := by
  induction l generalizing inner with
  | nil =>
    have := h.1; simp at this; simp [this]
  | cons x l ih =>
    have h0 := hF.opens (h.2 0 x rfl); simp only [Nat.zero_mul, List.drop_zero] at h0
    have ht : Reps (d.M w base ok) d.sz l (inner.drop d.sz) := ⟨by rw [List.length_drop, h.1]; simp [Nat.add_mul], fun j p hp => by
      have := h.2 (j + 1) p (by simpa using hp); rw [List.drop_drop, show d.sz + j * d.sz = (j + 1) * d.sz by rw [Nat.add_mul]; omega]
      exact this⟩
    rw [List.flatMap_cons, ← ih ht, ← h0, List.take_append_drop]
omit [Inhabited α] in
theorem flat_reps (hF : Flat d enc) (w : World) (base : Nat) (ok : Nat → Prop) (l : List α) : Reps (d.M w base ok) d.sz l (l.flatMap enc) := by
  induction l with
  | nil => exact Reps.none _ _
  | cons x l ih =>
    refine ⟨?_, fun j p hp => ?_⟩
    · rw [List.flatMap_cons, List.length_append, hF.len, ih.1]
      simp [Nat.add_mul]; omega
    · rw [List.flatMap_cons]
      cases j with
      | zero =>
        simp at hp; subst hp; rw [Nat.zero_mul, List.drop_zero, List.take_append_of_le_length (by rw [hF.len]; exact Nat.le_refl _), List.take_of_length_le (by rw [hF.len]; exact Nat.le_refl _)]; exact hF.shuts _ _ _ _
      | succ j =>
        rw [show (j + 1) * d.sz = (enc x).length + j * d.sz by rw [hF.len, Nat.add_mul]; omega, ← List.drop_drop, List.drop_left' rfl]; exact ih.2 j p (by simpa using hp)
theorem holds_of_R (hF : Flat d enc) (hR : Kd.R d e w base ok (.slice (some ⟨g, off, none⟩) n cap) l) : off = 0 ∧ n = l.length ∧ base ≤ g ∧ HoldsK enc d.sz w g 0 l.toArray ∧ g < w.heap.size ∧ cap ≤ maxLen := by
  obtain ⟨h0, inner, ⟨hl, ho⟩, hr⟩ := hR
  rcases ho with ⟨ho, _⟩ | ⟨g', cap', cur, hv, hg, hb, hle, hmax, hsz, htake⟩
  · cases ho
  · simp only [Value.slice.injEq, Option.some.injEq, Addr.mk.injEq] at hv
    obtain ⟨⟨rfl, rfl, _⟩, rfl, rfl⟩ := hv; refine ⟨rfl, rfl, hg, ?_, Qbi hb, hmax⟩; have hin := reps_flat hF hr; intro j hj; rw [size_flatK] at hj
    have hj' : j < l.length * d.sz := by simpa using hj
    rw [Nat.zero_add]; refine ⟨?_, QaP hb j⟩; rw [Qak hb]
    have e1 : cur[j]? = inner[j]? := by
      rw [← htake, List.getElem?_take_of_lt hj', Array.getElem?_toList]
    rw [e1, hin, ← flat_toList enc d.sz hF.len, Array.getElem?_toList, getElem?_pos _ j (by rw [size_flatK]; exact hj), getElem!_pos _ j (by rw [size_flatK]; exact hj)]; rfl
theorem sorted_block {w : World} {e : Nat} {cur : Array Value} (hb : w.heap[g]? = some (.cells cur e (0, 0))) (k m : Nat) (dl : List α) (os : Array Obj) :
    (sortWorldK enc k w g 0 m dl.toArray os).heap[g]? = some (.cells (putCells id 0 (flatK enc k dl.toArray) cur) e (0, 0)) := by
  unfold sortWorldK
  have h1 : g < (putRowK enc k (Sort.ahead w m) g 0 dl.toArray).heap.size := by
    show g < (putRow id (Sort.ahead w m) g 0 _).heap.size
    rw [size_putRow]; exact Qbi hb
  rw [heap_grow_old _ _ h1]
  show ((Sort.ahead w m).heap.modify g _)[g]? = _
  rw [Array.getElem?_modify]
  show (if g = g then (w.heap[g]?).map _ else _) = _
  rw [if_pos rfl, hb]; rfl
theorem sorted_other (enc : α → List Value) (w : World) (g k m : Nat) (dl : List α) (os : Array Obj) (i : Nat) (hi : i < w.heap.size) (hne : i ≠ g) : (sortWorldK enc k w g 0 m dl.toArray os).heap[i]? = w.heap[i]? := by
  unfold sortWorldK
  have h1 : i < (putRowK enc k (Sort.ahead w m) g 0 dl.toArray).heap.size := by
    show i < (putRow id (Sort.ahead w m) g 0 _).heap.size
    rw [size_putRow]; exact hi
  rw [heap_grow_old _ _ h1]
  show ((Sort.ahead w m).heap.modify g _)[i]? = _
  rw [Array.getElem?_modify, if_neg (by omega)]; rfl
theorem sorted_below (enc : α → List Value) (w : World) (g k m : Nat) (dl : List α) (os : Array Obj) {B : Nat} (hB : B ≤ w.heap.size) (hg : B ≤ g) : Below B w (sortWorldK enc k w g 0 m dl.toArray os) := by
  refine ⟨rfl, rfl, rfl, ?_, fun i hi => sorted_other enc w g k m dl os i (by omega) (by omega)⟩; unfold sortWorldK; rw [size_grow]
  show _ ≤ (putRow id (Sort.ahead w m) g 0 _).heap.size + _
  rw [size_putRow]; exact Nat.le_add_right _ _
theorem R_of_sorted (hF : Flat d enc) (hR : Kd.R d e w base ok (.slice (some ⟨g, 0, none⟩) n cap) l) (m : Nat) (dl : List α) (os : Array Obj) (hlen : dl.length = l.length) : Kd.R d e (sortWorldK enc d.sz w g 0 m dl.toArray os) base ok (.slice (some ⟨g, 0, none⟩) n cap) dl := by
  obtain ⟨h0, inner, ⟨hl, ho⟩, hr⟩ := hR
  rcases ho with ⟨ho, _⟩ | ⟨g', cap', cur, hv, hg, hb, hle, hmax, hsz, htake⟩
  · cases ho
  · simp only [Value.slice.injEq, Option.some.injEq, Addr.mk.injEq] at hv
    obtain ⟨⟨rfl, _, _⟩, rfl, rfl⟩ := hv; refine ⟨h0, dl.flatMap enc, ⟨?_, .inr ⟨g, cap, putCells id 0 (flatK enc d.sz dl.toArray) cur, by rw [hlen], hg, sorted_block hb d.sz m dl os, by omega, hmax, ?_, ?_⟩⟩, flat_reps hF _ _ _ _⟩
    · exact (flat_reps hF w base ok dl).1
    · unfold putCells
      simpa using hsz
    · rw [← flat_toList enc d.sz hF.len]
      apply List.ext_getElem?
      intro i; have hle2 : l.length * d.sz ≤ cap * d.sz := Nat.mul_le_mul_right _ hle
      by_cases hi : i < l.length * d.sz
      · rw [List.getElem?_take_of_lt (by rw [hlen]; exact hi), Array.getElem?_toList, Array.getElem?_toList]
        unfold putCells; rw [Array.getElem?_mapIdx, getElem?_pos cur i (by omega), getElem?_pos _ i (by rw [size_flatK]; simpa [hlen] using hi)]; simp only [Option.map_some]; rw [if_pos ⟨Nat.zero_le _, by rw [size_flatK]; simpa [hlen] using hi⟩, Nat.sub_zero, getElem!_pos _ i (by rw [size_flatK]; simpa [hlen] using hi)]; rfl
      · rw [List.getElem?_eq_none (by rw [List.length_take]; rw [hlen]; omega), Array.getElem?_toList, getElem?_neg _ i (by rw [size_flatK]; simpa [hlen] using hi)]
end
end
end Go.Proofs.YtbjjonpkmplhbaaGreatDoor.Pr
end
section
namespace Go.Proofs
open Go.Shelf
def Tryz.cmpInt_ren : Go.Shelf.Ren := ⟨fun | 5 => 98 | 7 => 102 | n => n, fun | 22 => 3 | 3 => 3 | 4 => 4 | n => n, fun | n => n⟩
theorem Tryz.cmpInt : Go.Proofs.SlLaysC2.n5 Tryz.prog Tryz.cmpInt_ren := {
  mixed := by kernel_rfl
  f5 := ⟨Tryz.f98.name, by decide, Tryz.func98.trans (congrArg some (by kernel_rfl))⟩
  f7 := ⟨Tryz.f102.name, by decide, Tryz.func102.trans (congrArg some (by kernel_rfl))⟩
  t3 := Tryz.underlying3
  a3 := Tryz.isAgg3
  z3 := Tryz.sizeOf3
  v3 := Tryz.zeroValue3
  t4 := Tryz.underlying4
  a4 := Tryz.isAgg4
  z4 := Tryz.sizeOf4
  v4 := Tryz.zeroValue4
  t22 := Tryz.underlying3
  a22 := Tryz.isAgg3
  z22 := Tryz.sizeOf3
  v22 := Tryz.zeroValue3 }
end Go.Proofs
end
section
namespace Go.Proofs.YtbjjonpkmplhbaaGreatDoor.Pr
open Go.RowKit Go.Proofs.YtbjjonpkmplhbaaGreatDoorW.PrintWords Go.Proofs.YtbjjonpkmplhbaaGreatDoorW.PrintLast Go.Proofs.YtbjjonpkmplhbaaGreatDoorW.PrintMore
set_option linter.unusedVariables false
set_option linter.unusedSimpArgs false
section
attribute [local go_sem] QaE QaC QaS QaR Qaw Qav QaD QaB
abbrev Role := S33
theorem role_ext {a b : Role} (h0 : a.f0 = b.f0) (h1 : a.f1 = b.f1) : a = b := by cases a; cases b; simp_all
instance roleDec : DecidableEq Role := fun a b => decidable_of_iff (a.f0 = b.f0 ∧ a.f1 = b.f1) ⟨fun h => role_ext h.1 h.2, fun h => by rw [h]; exact ⟨rfl, rfl⟩⟩
abbrev Cred := S35
abbrev kCred := k35
theorem Tryz.cellsRole : Tryz.prog.cellsOf 33 = 2 := by kernel_rfl
theorem Tryz.cellsStr : Tryz.prog.cellsOf 9 = 1 := by kernel_rfl
def encCred (c : Cred) : Value := .agg #[.int .i64 c.f0.f0, .int .i64 c.f0.f1, .string c.f1, .int .i64 c.f2, .string c.f3, .string c.f4.f0, .string c.f4.f1, .string c.f5.f0, .string c.f5.f1]
def credRole (c : Cred) : Role := ⟨domName c.f0.f0, c.f1⟩
theorem QbQ (c : Cred) (w : World) : Calls Tryz.prog 85 #[encCred c] w fun e w' => e = .returned (.agg #[.string (credRole c).f0, .string (credRole c).f1]) ∧ Below w.heap.size w w' := QbI.calls _ _ _ _ _ _ _ _ _ _ _ _ (by rfl)
theorem eqRole_t {a b : Role} (h : a = b) : (a.f0.toList == b.f0.toList && (a.f1.toList == b.f1.toList)) = true := by subst h; simp
theorem eqRole_f {a b : Role} (h : ¬ a = b) : (a.f0.toList == b.f0.toList && (a.f1.toList == b.f1.toList)) = false := by
  rw [Bool.eq_false_iff]; intro e; simp only [Bool.and_eq_true, beq_iff_eq] at e; exact h (role_ext ((Lib.bytes_beq_iff _ _).mp (by rw [beq_iff_eq]; exact e.1)) ((Lib.bytes_beq_iff _ _).mp (by rw [beq_iff_eq]; exact e.2)))
abbrev credObj (c : Cred) : Obj := .cells #[.int .i64 c.f0.f0, .int .i64 c.f0.f1, .string c.f1, .int .i64 c.f2, .string c.f3, .string c.f4.f0, .string c.f4.f1, .string c.f5.f0, .string c.f5.f1] 35
theorem credCells {W : World} {k : Nat} {c : Cred} (h : W.heap[k]? = some (credObj c)) : W.cell? ⟨k, 0, none⟩ = some (.int .i64 c.f0.f0) ∧ W.cell? ⟨k, 1, none⟩ = some (.int .i64 c.f0.f1) ∧ W.cell? ⟨k, 2, none⟩ = some (.string c.f1) ∧ W.cell? ⟨k, 3, none⟩ = some (.int .i64 c.f2) ∧ W.cell? ⟨k, 4, none⟩ = some (.string c.f3) ∧ W.cell? ⟨k, 5, none⟩ = some (.string c.f4.f0) ∧ W.cell? ⟨k, 6, none⟩ = some (.string c.f4.f1) ∧ W.cell? ⟨k, 7, none⟩ = some (.string c.f5.f0) ∧ W.cell? ⟨k, 8, none⟩ = some (.string c.f5.f1) :=
  ⟨(Qak h 0).trans rfl, (Qak h 1).trans rfl, (Qak h 2).trans rfl, (Qak h 3).trans rfl, (Qak h 4).trans rfl, (Qak h 5).trans rfl, (Qak h 6).trans rfl, (Qak h 7).trans rfl, (Qak h 8).trans rfl⟩
def credCmp (x y : Cred) : Int := if Lib.compareInt x.f0.f0 y.f0.f0 = 0 then Lib.compareInt x.f0.f1 y.f0.f1 else Lib.compareInt x.f0.f0 y.f0.f0
theorem cmp_calls (x y : Int) (w : World) : Calls Tryz.prog 98 #[.int .i64 x, .int .i64 y] w fun e w' => e = .returned (.int .i64 (Lib.compareInt x y)) ∧ w' = w := AnyG.cmp_Compare_int Tryz.cmpInt x y w
theorem boxes_grow (w : World) (a b c : Obj) (n : Nat) : ∃ q os, ((((w.alloc a).alloc b).drewN n).alloc c) = Sort.grow (w.drewN q) os := by
  refine ⟨n, #[a] ++ #[b] ++ #[c], ?_⟩; rw [Sort.alloc_eq_grow, Sort.alloc_eq_grow, Sort.alloc_eq_grow, Sort.grow_grow]; exact Sort.grow_grow (w.drewN n) _ _
set_option maxRecDepth 100000 in
set_option maxHeartbeats 4000000 in
theorem sorted1_calls (x y : Cred) (W : World) : Calls Tryz.prog 96 #[encCred x, encCred y] W fun e w' => e = .returned (.int .i64 (credCmp x y)) ∧ ∃ q os', w' = Sort.grow (W.drewN q) os' := by
  unfold credCmp encCred
  have hc1 := fun W' => cmp_calls x.f0.f0 y.f0.f0 W'
  have hc2 := fun W' => cmp_calls x.f0.f1 y.f0.f1 W'
  generalize Lib.compareInt x.f0.f0 y.f0.f0 = r1 at hc1 ⊢
  generalize Lib.compareInt x.f0.f1 y.f0.f1 = r2 at hc2 ⊢
  obtain ⟨r, hr⟩ : ∃ r, r = (if r1 = 0 then r2 else r1) := ⟨_, rfl⟩
  have hor := fun W g h0 h1 => or_calls W g r1 r2 h0 h1
  simp only [← hr] at hor ⊢; clear hr; go_enter Tryz.func96, Tryz.ntmps96
  go_upto_region 1 with fail
  change Code.wp _ _ _ _ ((W.alloc (credObj x)).alloc (credObj y))
  have HG : ∀ n : Nat, ∃ q os, ((((W.alloc (credObj x)).alloc (credObj y)).drewN n).alloc (.cells #[.int .i64 r1, .int .i64 r2] 3)) = Sort.grow (W.drewN q) os := fun n => boxes_grow W _ _ _ n
  have BX : ((W.alloc (credObj x)).alloc (credObj y)).heap[W.heap.size]? = some (credObj x) := Qam (Qa1 W _) _
  have BY : ((W.alloc (credObj x)).alloc (credObj y)).heap[W.heap.size + 1]? = some (credObj y) := by
    have := Qa1 (W.alloc (credObj x)) (credObj y)
    simpa using this
  generalize (W.alloc (credObj x)).alloc (credObj y) = V at HG BX BY ⊢
  have x0 := (credCells BX).1; have x1 := (credCells BX).2.1; have y0 := (credCells BY).1; have y1 := (credCells BY).2.1; refine wp_region_still_tail 14 (by kernel_rfl) (by kernel_rfl) ?_; simp only [List.take_succ_cons, List.take_zero, List.drop_succ_cons, List.drop_zero]
  still_step
  still_step
  still_step
  still_step
  still_step
  still_step
  still_call (hc1 _)
  still_step
  still_step
  still_step
  still_step
  still_step
  still_step
  still_call (hc2 _)
  refine wpStill_nil ?_; change wpList _ _ _ _ _ V.drew
  go_wp2_with (go_at_call 97; refine (hor _ V.heap.size ?_ ?_).mono ?_; simp; simp; rintro e w3 ⟨rfl, rfl⟩)
  go_ret; exact ⟨rfl, HG 1⟩
end
abbrev roleObj2 (r : Role) : Obj := .cells #[.string r.f0, .string r.f1] 33
theorem roleCells2 {W : World} {k : Nat} {r : Role} (h : W.heap[k]? = some (roleObj2 r)) : W.cell? ⟨k, 0, none⟩ = some (.string r.f0) ∧ W.cell? ⟨k, 1, none⟩ = some (.string r.f1) :=
  ⟨(Qak h 0).trans rfl, (Qak h 1).trans rfl⟩
theorem boxed1 {w W : World} {o : Obj} (h : w.alloc o = W) : Below w.heap.size w W ∧ W.heap[w.heap.size]? = some o := by
  subst h; exact ⟨Qai (Below.refl w.heap.size w) _, Qa1 w _⟩
section
attribute [local go_sem high] eqA33
def noText (s : ByteArray) : Bool := s.toList == ([] : List UInt8)
def noRole (r : Role) : Bool := noText r.f0 && noText r.f1
def and3 (x : Option Bool) (y z : Option Bool) : Option Bool := x.bind fun b => if b = true then (y.bind fun d => if d = true then z else some false) else some false
def mayKind (c : Cred) : Option Bool :=
  if c.f2 = 1 then and3 (Qa6.f c.f3) (some (noRole c.f4)) (some (noRole c.f5))
  else if c.f2 = 2 then and3 (Qa5.f 20 c.f4.f0 c.f4.f1) (some (noRole c.f5)) (some (noText c.f3))
  else if c.f2 = 3 then and3 (QbA.f c.f4.f0 c.f4.f1) (QbA.f c.f5.f0 c.f5.f1) (some (noText c.f3))
  else if c.f2 = 4 then and3 (Qa5.f 20 c.f4.f0 c.f4.f1) (Qa5.f 20 c.f5.f0 c.f5.f1) (some (noText c.f3))
  else some false
def mayF (c : Cred) : Option Bool :=
  if noText (domName c.f0.f0) = true then some false else if c.f0.f1 < 1 then some false else if c.f0.f1 > 4000 then some false else (Qa6.f c.f1).bind fun m => if m = true then mayKind c else some false
theorem noText_f {s : ByteArray} (h : noText s = false) : (s.toList == ([] : List UInt8)) = false ∧ decide (s.toList = ([] : List UInt8)) = false := by
  unfold noText at h; exact ⟨h, by rw [beq_eq_false_iff_ne] at h; exact decide_eq_false h⟩
theorem noText_t {s : ByteArray} (h : noText s = true) : (s.toList == ([] : List UInt8)) = true ∧ s.toList = ([] : List UInt8) := by
  unfold noText at h; exact ⟨h, beq_iff_eq.mp h⟩
theorem noRole_any (r : Role) : (∃ x y, noRole r = (x && y) ∧ (r.f0.toList == ([] : List UInt8)) = x ∧ (r.f1.toList == ([] : List UInt8)) = y) := ⟨_, _, rfl, rfl, rfl⟩
set_option maxRecDepth 100000 in
set_option maxHeartbeats 8000000 in
theorem mayC_walk (w : World) (c : Cred) (r : Bool) (h : mayF c = some r) : Calls Tryz.prog 34 #[encCred c] w fun e w' => e = .returned (.bool r) ∧ Below w.heap.size w w' := by
  unfold mayF at h; unfold encCred; go_enter Tryz.func34, Tryz.ntmps34
  go_upto_region 1 with fail
  change Code.wp _ _ _ _ (w.alloc (credObj c))
  generalize hW : w.alloc (credObj c) = W
  obtain ⟨HB, BC⟩ := boxed1 hW; obtain ⟨c0, c1, c2, c3, c4, c5, c6, c7, c8⟩ := credCells BC; clear hW; cases e0 : noText (domName c.f0.f0)
  · rw [e0, if_neg (by decide)] at h
    obtain ⟨d0, d1⟩ := noText_f e0; clear e0
    by_cases e1 : c.f0.f1 < 1
    · rw [if_pos e1] at h
      obtain rfl := Option.some.inj h; have d2 : decide (c.f0.f1 < 1) = true := decide_eq_true e1; clear h e1
      go_wp2_with (go_at_call 15; refine (QbT _ _).mono ?_; rintro e w' ⟨rfl, rfl⟩)
      go_ret; exact ⟨rfl, HB⟩
    · rw [if_neg e1] at h
      have d2 : decide (c.f0.f1 < 1) = false := decide_eq_false e1; clear e1
      by_cases e1 : c.f0.f1 > 4000
      · rw [if_pos e1] at h
        obtain rfl := Option.some.inj h; have d3 : decide (4000 < c.f0.f1) = true := decide_eq_true e1; clear h e1
        go_wp2_with (go_at_call 15; refine (QbT _ _).mono ?_; rintro e w' ⟨rfl, rfl⟩)
        go_ret; exact ⟨rfl, HB⟩
      · rw [if_neg e1] at h
        have d3 : decide (4000 < c.f0.f1) = false := decide_eq_false e1; clear e1; obtain ⟨m, hm, h⟩ := Option.bind_eq_some_iff.mp h; have HM := Lib.hid hm; cases m
        · obtain rfl := Option.some.inj h
          clear h hm
          go_wp2_with (first | (go_at_call 15; refine (QbT _ _).mono ?_; rintro e w' ⟨rfl, rfl⟩) | (go_at_call 51; refine (Qa6.calls _ _ _ HM.out).mono ?_; rintro e w3 ⟨rfl, hB3⟩))
          go_ret; exact ⟨rfl, Qac HB hB3⟩
        · rw [if_pos rfl] at h
          have HH := Lib.hid h; clear h hm
          go_upto_region 3 with (first | (go_at_call 15; refine (QbT _ _).mono ?_; rintro e w' ⟨rfl, rfl⟩) | (go_at_call 51; refine (Qa6.calls _ _ _ HM.out).mono ?_; rintro e w3 ⟨rfl, hB3⟩))
          have HB3 := Qac HB hB3; have BC3 := Qad BC hB3; clear c0 c1 c2 c3 c4 c5 c6 c7 c8 HB BC hB3 d0 d1 d2 d3
          go_upto_region 4 with fail
          change Code.wp _ _ _ _ (w3.alloc (roleObj2 ⟨⟨#[]⟩, ⟨#[]⟩⟩)); have HB4 := Qai HB3 (roleObj2 ⟨⟨#[]⟩, ⟨#[]⟩⟩); have BC4 := Qam BC3 (roleObj2 ⟨⟨#[]⟩, ⟨#[]⟩⟩); have BN := Qa1 w3 (roleObj2 ⟨⟨#[]⟩, ⟨#[]⟩⟩); clear HB3 BC3
          generalize w3.heap.size = k3 at BN ⊢
          generalize w3.alloc (roleObj2 ⟨⟨#[]⟩, ⟨#[]⟩⟩) = X at HB4 BC4 BN ⊢
          obtain ⟨c0, c1, c2, c3, c4, c5, c6, c7, c8⟩ := credCells BC4; obtain ⟨z0, z1⟩ := roleCells2 BN; have h := HH.out; unfold mayKind at h; clear HH
          by_cases k1 : c.f2 = 1
          · rw [if_pos k1] at h
            have d1 : (c.f2 == 1) = true := beq_iff_eq.mpr k1; clear k1; unfold and3 at h; obtain ⟨b, hb, h⟩ := Option.bind_eq_some_iff.mp h; have HA := Lib.hid hb; clear hb; cases b
            · obtain rfl := Option.some.inj h
              clear h
              go_wp2_with (first | (go_at_call 51; (with_reducible refine (Qa6.calls _ _ _ HA.out).mono ?_); rintro e w5 ⟨rfl, hB5⟩; have HB5 := Qac HB4 hB5; have BC5 := Qad BC4 hB5; have BN5 := Qad BN hB5; obtain ⟨c0, c1, c2, c3, c4, c5, c6, c7, c8⟩ := credCells BC5; obtain ⟨z0, z1⟩ := roleCells2 BN5))
              go_ret; exact ⟨rfl, HB5⟩
            rw [if_pos rfl] at h; rw [Option.bind_some] at h; obtain ⟨x4, y4, e4, hx4, hy4⟩ := noRole_any c.f4; rw [e4] at h; clear e4; obtain ⟨x5, y5, e5, hx5, hy5⟩ := noRole_any c.f5; rw [e5] at h; clear e5; cases x4
            · obtain rfl : false = r := Option.some.inj h
              clear h
              go_wp2_with (first | (go_at_call 51; (with_reducible refine (Qa6.calls _ _ _ HA.out).mono ?_); rintro e w5 ⟨rfl, hB5⟩; have HB5 := Qac HB4 hB5; have BC5 := Qad BC4 hB5; have BN5 := Qad BN hB5; obtain ⟨c0, c1, c2, c3, c4, c5, c6, c7, c8⟩ := credCells BC5; obtain ⟨z0, z1⟩ := roleCells2 BN5))
              go_ret; exact ⟨rfl, HB5⟩
            cases y4
            · obtain rfl : false = r := Option.some.inj h
              clear h
              go_wp2_with (first | (go_at_call 51; (with_reducible refine (Qa6.calls _ _ _ HA.out).mono ?_); rintro e w5 ⟨rfl, hB5⟩; have HB5 := Qac HB4 hB5; have BC5 := Qad BC4 hB5; have BN5 := Qad BN hB5; obtain ⟨c0, c1, c2, c3, c4, c5, c6, c7, c8⟩ := credCells BC5; obtain ⟨z0, z1⟩ := roleCells2 BN5))
              go_ret; exact ⟨rfl, HB5⟩
            cases x5
            · obtain rfl : false = r := Option.some.inj h
              clear h
              go_wp2_with (first | (go_at_call 51; (with_reducible refine (Qa6.calls _ _ _ HA.out).mono ?_); rintro e w5 ⟨rfl, hB5⟩; have HB5 := Qac HB4 hB5; have BC5 := Qad BC4 hB5; have BN5 := Qad BN hB5; obtain ⟨c0, c1, c2, c3, c4, c5, c6, c7, c8⟩ := credCells BC5; obtain ⟨z0, z1⟩ := roleCells2 BN5))
              go_ret; exact ⟨rfl, HB5⟩
            cases y5
            · obtain rfl : false = r := Option.some.inj h
              clear h
              go_wp2_with (first | (go_at_call 51; (with_reducible refine (Qa6.calls _ _ _ HA.out).mono ?_); rintro e w5 ⟨rfl, hB5⟩; have HB5 := Qac HB4 hB5; have BC5 := Qad BC4 hB5; have BN5 := Qad BN hB5; obtain ⟨c0, c1, c2, c3, c4, c5, c6, c7, c8⟩ := credCells BC5; obtain ⟨z0, z1⟩ := roleCells2 BN5))
              go_ret; exact ⟨rfl, HB5⟩
            obtain rfl : true = r := Option.some.inj h; clear h
            go_wp2_with (first | (go_at_call 51; (with_reducible refine (Qa6.calls _ _ _ HA.out).mono ?_); rintro e w5 ⟨rfl, hB5⟩; have HB5 := Qac HB4 hB5; have BC5 := Qad BC4 hB5; have BN5 := Qad BN hB5; obtain ⟨c0, c1, c2, c3, c4, c5, c6, c7, c8⟩ := credCells BC5; obtain ⟨z0, z1⟩ := roleCells2 BN5))
            go_ret; exact ⟨rfl, HB5⟩
          · rw [if_neg k1] at h
            have d1 : (c.f2 == 1) = false := beq_eq_false_iff_ne.mpr k1; clear k1
            by_cases k2 : c.f2 = 2
            · rw [if_pos k2] at h
              have d2 : (c.f2 == 2) = true := beq_iff_eq.mpr k2; clear k2; unfold and3 at h; obtain ⟨b, hb, h⟩ := Option.bind_eq_some_iff.mp h; have HA := Lib.hid hb; clear hb; cases b
              · obtain rfl := Option.some.inj h
                clear h
                go_wp2_with (first | (go_at_call 52; (with_reducible refine (Qa5.calls 20 _ _ _ _ HA.out).mono ?_); rintro e w5 ⟨rfl, hB5⟩; have HB5 := Qac HB4 hB5; have BC5 := Qad BC4 hB5; have BN5 := Qad BN hB5; obtain ⟨c0, c1, c2, c3, c4, c5, c6, c7, c8⟩ := credCells BC5; obtain ⟨z0, z1⟩ := roleCells2 BN5))
                go_ret; exact ⟨rfl, HB5⟩
              rw [if_pos rfl] at h; rw [Option.bind_some] at h; obtain ⟨x5, y5, e5, hx5, hy5⟩ := noRole_any c.f5; rw [e5] at h; clear e5
              obtain ⟨x3, hx3⟩ : ∃ x3, (c.f3.toList == ([] : List UInt8)) = x3 := ⟨_, rfl⟩
              rw [show noText c.f3 = x3 from hx3] at h; cases x5
              · obtain rfl : false = r := Option.some.inj h
                clear h
                go_wp2_with (first | (go_at_call 52; (with_reducible refine (Qa5.calls 20 _ _ _ _ HA.out).mono ?_); rintro e w5 ⟨rfl, hB5⟩; have HB5 := Qac HB4 hB5; have BC5 := Qad BC4 hB5; have BN5 := Qad BN hB5; obtain ⟨c0, c1, c2, c3, c4, c5, c6, c7, c8⟩ := credCells BC5; obtain ⟨z0, z1⟩ := roleCells2 BN5))
                go_ret; exact ⟨rfl, HB5⟩
              cases y5
              · obtain rfl : false = r := Option.some.inj h
                clear h
                go_wp2_with (first | (go_at_call 52; (with_reducible refine (Qa5.calls 20 _ _ _ _ HA.out).mono ?_); rintro e w5 ⟨rfl, hB5⟩; have HB5 := Qac HB4 hB5; have BC5 := Qad BC4 hB5; have BN5 := Qad BN hB5; obtain ⟨c0, c1, c2, c3, c4, c5, c6, c7, c8⟩ := credCells BC5; obtain ⟨z0, z1⟩ := roleCells2 BN5))
                go_ret; exact ⟨rfl, HB5⟩
              cases x3
              · obtain rfl : false = r := Option.some.inj h
                clear h
                go_wp2_with (first | (go_at_call 52; (with_reducible refine (Qa5.calls 20 _ _ _ _ HA.out).mono ?_); rintro e w5 ⟨rfl, hB5⟩; have HB5 := Qac HB4 hB5; have BC5 := Qad BC4 hB5; have BN5 := Qad BN hB5; obtain ⟨c0, c1, c2, c3, c4, c5, c6, c7, c8⟩ := credCells BC5; obtain ⟨z0, z1⟩ := roleCells2 BN5))
                go_ret; exact ⟨rfl, HB5⟩
              obtain rfl : true = r := Option.some.inj h; clear h
              go_wp2_with (first | (go_at_call 52; (with_reducible refine (Qa5.calls 20 _ _ _ _ HA.out).mono ?_); rintro e w5 ⟨rfl, hB5⟩; have HB5 := Qac HB4 hB5; have BC5 := Qad BC4 hB5; have BN5 := Qad BN hB5; obtain ⟨c0, c1, c2, c3, c4, c5, c6, c7, c8⟩ := credCells BC5; obtain ⟨z0, z1⟩ := roleCells2 BN5))
              go_ret; exact ⟨rfl, HB5⟩
            · rw [if_neg k2] at h
              have d2 : (c.f2 == 2) = false := beq_eq_false_iff_ne.mpr k2; clear k2
              by_cases k3 : c.f2 = 3
              · rw [if_pos k3] at h
                have d3 : (c.f2 == 3) = true := beq_iff_eq.mpr k3; clear k3; unfold and3 at h; obtain ⟨b, hb, h⟩ := Option.bind_eq_some_iff.mp h; have HA := Lib.hid hb; clear hb; cases b
                · obtain rfl := Option.some.inj h
                  clear h
                  go_wp2_with (first | (go_at_call 53; (with_reducible refine (QbA.calls _ _ _ _ HA.out).mono ?_); rintro e w5 ⟨rfl, hB5⟩; have HB5 := Qac HB4 hB5; have BC5 := Qad BC4 hB5; have BN5 := Qad BN hB5; obtain ⟨c0, c1, c2, c3, c4, c5, c6, c7, c8⟩ := credCells BC5; obtain ⟨z0, z1⟩ := roleCells2 BN5))
                  go_ret; exact ⟨rfl, HB5⟩
                rw [if_pos rfl] at h; obtain ⟨d, hd, h⟩ := Option.bind_eq_some_iff.mp h; have HD := Lib.hid hd; clear hd; cases d
                · obtain rfl := Option.some.inj h
                  clear h
                  go_wp2_with (first | (go_at_call 53; (with_reducible refine (QbA.calls _ _ _ _ HA.out).mono ?_); rintro e w5 ⟨rfl, hB5⟩; have HB5 := Qac HB4 hB5; have BC5 := Qad BC4 hB5; have BN5 := Qad BN hB5; obtain ⟨c0, c1, c2, c3, c4, c5, c6, c7, c8⟩ := credCells BC5; obtain ⟨z0, z1⟩ := roleCells2 BN5) | (go_at_call 53; (with_reducible refine (QbA.calls _ _ _ _ HD.out).mono ?_); rintro e w6 ⟨rfl, hB6⟩; have HB6 := Qac HB5 hB6; have BC6 := Qad BC5 hB6; have BN6 := Qad BN5 hB6; obtain ⟨c0, c1, c2, c3, c4, c5, c6, c7, c8⟩ := credCells BC6; obtain ⟨z0, z1⟩ := roleCells2 BN6))
                  go_ret; exact ⟨rfl, HB6⟩
                rw [if_pos rfl] at h
                obtain ⟨x3, hx3⟩ : ∃ x3, (c.f3.toList == ([] : List UInt8)) = x3 := ⟨_, rfl⟩
                rw [show noText c.f3 = x3 from hx3] at h; cases x3
                · obtain rfl : false = r := Option.some.inj h
                  clear h
                  go_wp2_with (first | (go_at_call 53; (with_reducible refine (QbA.calls _ _ _ _ HA.out).mono ?_); rintro e w5 ⟨rfl, hB5⟩; have HB5 := Qac HB4 hB5; have BC5 := Qad BC4 hB5; have BN5 := Qad BN hB5; obtain ⟨c0, c1, c2, c3, c4, c5, c6, c7, c8⟩ := credCells BC5; obtain ⟨z0, z1⟩ := roleCells2 BN5) | (go_at_call 53; (with_reducible refine (QbA.calls _ _ _ _ HD.out).mono ?_); rintro e w6 ⟨rfl, hB6⟩; have HB6 := Qac HB5 hB6; have BC6 := Qad BC5 hB6; have BN6 := Qad BN5 hB6; obtain ⟨c0, c1, c2, c3, c4, c5, c6, c7, c8⟩ := credCells BC6; obtain ⟨z0, z1⟩ := roleCells2 BN6))
                  go_ret; exact ⟨rfl, HB6⟩
                obtain rfl : true = r := Option.some.inj h; clear h
                go_wp2_with (first | (go_at_call 53; (with_reducible refine (QbA.calls _ _ _ _ HA.out).mono ?_); rintro e w5 ⟨rfl, hB5⟩; have HB5 := Qac HB4 hB5; have BC5 := Qad BC4 hB5; have BN5 := Qad BN hB5; obtain ⟨c0, c1, c2, c3, c4, c5, c6, c7, c8⟩ := credCells BC5; obtain ⟨z0, z1⟩ := roleCells2 BN5) | (go_at_call 53; (with_reducible refine (QbA.calls _ _ _ _ HD.out).mono ?_); rintro e w6 ⟨rfl, hB6⟩; have HB6 := Qac HB5 hB6; have BC6 := Qad BC5 hB6; have BN6 := Qad BN5 hB6; obtain ⟨c0, c1, c2, c3, c4, c5, c6, c7, c8⟩ := credCells BC6; obtain ⟨z0, z1⟩ := roleCells2 BN6))
                go_ret; exact ⟨rfl, HB6⟩
              · rw [if_neg k3] at h
                have d3 : (c.f2 == 3) = false := beq_eq_false_iff_ne.mpr k3; clear k3
                by_cases k4 : c.f2 = 4
                · rw [if_pos k4] at h
                  have d4 : (c.f2 == 4) = true := beq_iff_eq.mpr k4; clear k4; unfold and3 at h; obtain ⟨b, hb, h⟩ := Option.bind_eq_some_iff.mp h; have HA := Lib.hid hb; clear hb; cases b
                  · obtain rfl := Option.some.inj h
                    clear h
                    go_wp2_with (first | (go_at_call 52; (with_reducible refine (Qa5.calls 20 _ _ _ _ HA.out).mono ?_); rintro e w5 ⟨rfl, hB5⟩; have HB5 := Qac HB4 hB5; have BC5 := Qad BC4 hB5; have BN5 := Qad BN hB5; obtain ⟨c0, c1, c2, c3, c4, c5, c6, c7, c8⟩ := credCells BC5; obtain ⟨z0, z1⟩ := roleCells2 BN5))
                    go_ret; exact ⟨rfl, HB5⟩
                  rw [if_pos rfl] at h; obtain ⟨d, hd, h⟩ := Option.bind_eq_some_iff.mp h; have HD := Lib.hid hd; clear hd; cases d
                  · obtain rfl := Option.some.inj h
                    clear h
                    go_wp2_with (first | (go_at_call 52; (with_reducible refine (Qa5.calls 20 _ _ _ _ HA.out).mono ?_); rintro e w5 ⟨rfl, hB5⟩; have HB5 := Qac HB4 hB5; have BC5 := Qad BC4 hB5; have BN5 := Qad BN hB5; obtain ⟨c0, c1, c2, c3, c4, c5, c6, c7, c8⟩ := credCells BC5; obtain ⟨z0, z1⟩ := roleCells2 BN5) | (go_at_call 52; (with_reducible refine (Qa5.calls 20 _ _ _ _ HD.out).mono ?_); rintro e w6 ⟨rfl, hB6⟩; have HB6 := Qac HB5 hB6; have BC6 := Qad BC5 hB6; have BN6 := Qad BN5 hB6; obtain ⟨c0, c1, c2, c3, c4, c5, c6, c7, c8⟩ := credCells BC6; obtain ⟨z0, z1⟩ := roleCells2 BN6))
                    go_ret; exact ⟨rfl, HB6⟩
                  rw [if_pos rfl] at h
                  obtain ⟨x3, hx3⟩ : ∃ x3, (c.f3.toList == ([] : List UInt8)) = x3 := ⟨_, rfl⟩
                  rw [show noText c.f3 = x3 from hx3] at h; cases x3
                  · obtain rfl : false = r := Option.some.inj h
                    clear h
                    go_wp2_with (first | (go_at_call 52; (with_reducible refine (Qa5.calls 20 _ _ _ _ HA.out).mono ?_); rintro e w5 ⟨rfl, hB5⟩; have HB5 := Qac HB4 hB5; have BC5 := Qad BC4 hB5; have BN5 := Qad BN hB5; obtain ⟨c0, c1, c2, c3, c4, c5, c6, c7, c8⟩ := credCells BC5; obtain ⟨z0, z1⟩ := roleCells2 BN5) | (go_at_call 52; (with_reducible refine (Qa5.calls 20 _ _ _ _ HD.out).mono ?_); rintro e w6 ⟨rfl, hB6⟩; have HB6 := Qac HB5 hB6; have BC6 := Qad BC5 hB6; have BN6 := Qad BN5 hB6; obtain ⟨c0, c1, c2, c3, c4, c5, c6, c7, c8⟩ := credCells BC6; obtain ⟨z0, z1⟩ := roleCells2 BN6))
                    go_ret; exact ⟨rfl, HB6⟩
                  obtain rfl : true = r := Option.some.inj h; clear h
                  go_wp2_with (first | (go_at_call 52; (with_reducible refine (Qa5.calls 20 _ _ _ _ HA.out).mono ?_); rintro e w5 ⟨rfl, hB5⟩; have HB5 := Qac HB4 hB5; have BC5 := Qad BC4 hB5; have BN5 := Qad BN hB5; obtain ⟨c0, c1, c2, c3, c4, c5, c6, c7, c8⟩ := credCells BC5; obtain ⟨z0, z1⟩ := roleCells2 BN5) | (go_at_call 52; (with_reducible refine (Qa5.calls 20 _ _ _ _ HD.out).mono ?_); rintro e w6 ⟨rfl, hB6⟩; have HB6 := Qac HB5 hB6; have BC6 := Qad BC5 hB6; have BN6 := Qad BN5 hB6; obtain ⟨c0, c1, c2, c3, c4, c5, c6, c7, c8⟩ := credCells BC6; obtain ⟨z0, z1⟩ := roleCells2 BN6))
                  go_ret; exact ⟨rfl, HB6⟩
                · rw [if_neg k4] at h
                  have d4 : (c.f2 == 4) = false := beq_eq_false_iff_ne.mpr k4; clear k4; obtain rfl := Option.some.inj h; clear h; go_wp2; go_ret; exact ⟨rfl, HB4⟩
  · rw [e0, if_pos rfl] at h
    obtain rfl := Option.some.inj h; obtain ⟨d0, d1⟩ := noText_t e0; clear e0 h
    go_wp2_with (go_at_call 15; refine (QbT _ _).mono ?_; rintro e w' ⟨rfl, rfl⟩)
    go_ret; exact ⟨rfl, HB⟩
end
section
attribute [local go_sem] QaE QaC QaS QaR Qaw Qav QaD QaB
def cred_May.f (a0_0 : Int) (a0_1 : Int) (a0_2 : ByteArray) (a0_3 : Int) (a0_4 : ByteArray) (a0_5 : ByteArray) (a0_6 : ByteArray) (a0_7 : ByteArray) (a0_8 : ByteArray) : Option Bool := mayF ⟨⟨a0_0, a0_1⟩, a0_2, a0_3, a0_4, ⟨a0_5, a0_6⟩, ⟨a0_7, a0_8⟩⟩
theorem cred_May.calls (a0_0 : Int) (a0_1 : Int) (a0_2 : ByteArray) (a0_3 : Int) (a0_4 : ByteArray) (a0_5 : ByteArray) (a0_6 : ByteArray) (a0_7 : ByteArray) (a0_8 : ByteArray) (r : Bool) (w : World) (h : cred_May.f a0_0 a0_1 a0_2 a0_3 a0_4 a0_5 a0_6 a0_7 a0_8 = some r) :
    Calls Tryz.prog 34 #[.agg #[.int .i64 a0_0, .int .i64 a0_1, .string a0_2, .int .i64 a0_3, .string a0_4, .string a0_5, .string a0_6, .string a0_7, .string a0_8]] w fun e w' => e = .returned (.bool r) ∧ Below w.heap.size w w' := by
  exact mayC_walk w ⟨⟨a0_0, a0_1⟩, a0_2, a0_3, a0_4, ⟨a0_5, a0_6⟩, ⟨a0_7, a0_8⟩⟩ r h
end
end Go.Proofs.YtbjjonpkmplhbaaGreatDoor.Pr
end
section
namespace Go.Proofs
open Go.Shelf
def Tryz.insCred_ren : Go.Shelf.Ren := ⟨fun | 20 => 112 | n => n, fun | 24 => 35 | 22 => 29 | 3 => 3 | 25 => 132 | 4 => 4 | 0 => 0 | n => n, fun | n => n⟩
theorem Tryz.insCred : Go.Proofs.SlLaysF0.n20 Tryz.prog Tryz.insCred_ren := {
  mixed := by kernel_rfl
  f20 := ⟨Tryz.f112.name, by decide, Tryz.func112.trans (congrArg some (by kernel_rfl))⟩
  t0 := Tryz.underlying0
  a0 := Tryz.isAgg0
  z0 := Tryz.sizeOf0
  v0 := Tryz.zeroValue0
  t3 := Tryz.underlying3
  a3 := Tryz.isAgg3
  z3 := Tryz.sizeOf3
  v3 := Tryz.zeroValue3
  t4 := Tryz.underlying4
  a4 := Tryz.isAgg4
  z4 := Tryz.sizeOf4
  v4 := Tryz.zeroValue4
  t22 := Tryz.underlying29
  a22 := Tryz.isAgg29
  z22 := Tryz.sizeOf29
  v22 := Tryz.zeroValue29
  t25 := Tryz.underlying132
  a25 := Tryz.isAgg132
  z25 := Tryz.sizeOf132
  v25 := Tryz.zeroValue132 }
def Tryz.sortPair_ren : Go.Shelf.Ren := ⟨fun | 6 => 89 | 15 => 100 | 14 => 99 | 28 => 111 | 29 => 79 | 20 => 103 | 21 => 104 | 22 => 105 | 23 => 106 | 24 => 107 | 25 => 108 | 26 => 109 | 27 => 110 | 46 => 114 | 47 => 115 | 48 => 116 | 49 => 117 | 50 => 118 | 57 => 120 | n => n, fun | 22 => 101 | 24 => 102 | 25 => 127 | 3 => 3 | 39 => 122 | 0 => 0 | 53 => 119 | 55 => 105 | 4 => 4 | 46 => 140 | 45 => 139 | 50 => 144 | 5 => 5 | 9 => 9 | 66 => 148 | 70 => 152 | 76 => 154 | 77 => 155 | n => n, fun | n => n⟩
theorem Tryz.sortPair : Go.Proofs.SlLaysF0.n6 Tryz.prog Tryz.sortPair_ren := {
  mixed := by kernel_rfl
  f6 := ⟨Tryz.f89.name, by decide, Tryz.func89.trans (congrArg some (by kernel_rfl))⟩
  f14 := ⟨Tryz.f99.name, by decide, Tryz.func99.trans (congrArg some (by kernel_rfl))⟩
  f15 := Tryz.func100.trans (congrArg some (by kernel_rfl))
  f20 := ⟨Tryz.f103.name, by decide, Tryz.func103.trans (congrArg some (by kernel_rfl))⟩
  f21 := ⟨Tryz.f104.name, by decide, Tryz.func104.trans (congrArg some (by kernel_rfl))⟩
  f22 := ⟨Tryz.f105.name, by decide, Tryz.func105.trans (congrArg some (by kernel_rfl))⟩
  f23 := ⟨Tryz.f106.name, by decide, Tryz.func106.trans (congrArg some (by kernel_rfl))⟩
  f24 := ⟨Tryz.f107.name, by decide, Tryz.func107.trans (congrArg some (by kernel_rfl))⟩
  f25 := ⟨Tryz.f108.name, by decide, Tryz.func108.trans (congrArg some (by kernel_rfl))⟩
  f26 := ⟨Tryz.f109.name, by decide, Tryz.func109.trans (congrArg some (by kernel_rfl))⟩
  f27 := ⟨Tryz.f110.name, by decide, Tryz.func110.trans (congrArg some (by kernel_rfl))⟩
  f28 := Tryz.func111.trans (congrArg some (by kernel_rfl))
  f29 := Tryz.func79.trans (congrArg some (by kernel_rfl))
  f46 := ⟨Tryz.f114.name, by decide, Tryz.func114.trans (congrArg some (by kernel_rfl))⟩
  f47 := Tryz.func115.trans (congrArg some (by kernel_rfl))
  f48 := Tryz.func116.trans (congrArg some (by kernel_rfl))
  f49 := ⟨Tryz.f117.name, by decide, Tryz.func117.trans (congrArg some (by kernel_rfl))⟩
  f50 := ⟨Tryz.f118.name, by decide, Tryz.func118.trans (congrArg some (by kernel_rfl))⟩
  f57 := ⟨Tryz.f120.name, by decide, Tryz.func120.trans (congrArg some (by kernel_rfl))⟩
  t0 := Tryz.underlying0
  a0 := Tryz.isAgg0
  z0 := Tryz.sizeOf0
  v0 := Tryz.zeroValue0
  t3 := Tryz.underlying3
  a3 := Tryz.isAgg3
  z3 := Tryz.sizeOf3
  v3 := Tryz.zeroValue3
  t4 := Tryz.underlying4
  a4 := Tryz.isAgg4
  z4 := Tryz.sizeOf4
  v4 := Tryz.zeroValue4
  t5 := Tryz.underlying5
  a5 := Tryz.isAgg5
  z5 := Tryz.sizeOf5
  v5 := Tryz.zeroValue5
  t9 := Tryz.underlying9
  a9 := Tryz.isAgg9
  z9 := Tryz.sizeOf9
  v9 := Tryz.zeroValue9
  t22 := Tryz.underlying101
  a22 := Tryz.isAgg101
  z22 := Tryz.sizeOf101
  v22 := Tryz.zeroValue101
  t25 := Tryz.underlying127
  a25 := Tryz.isAgg127
  z25 := Tryz.sizeOf127
  v25 := Tryz.zeroValue127
  t39 := Tryz.underlying122
  a39 := Tryz.isAgg122
  z39 := Tryz.sizeOf122
  v39 := Tryz.zeroValue122
  t45 := Tryz.underlying139
  a45 := Tryz.isAgg139
  z45 := Tryz.sizeOf139
  v45 := Tryz.zeroValue139
  t46 := Tryz.underlying140
  a46 := Tryz.isAgg140
  z46 := Tryz.sizeOf140
  v46 := Tryz.zeroValue140
  t50 := Tryz.underlying144
  a50 := Tryz.isAgg144
  z50 := Tryz.sizeOf144
  v50 := Tryz.zeroValue144
  t53 := Tryz.underlying119
  a53 := Tryz.isAgg119
  z53 := Tryz.sizeOf119
  v53 := Tryz.zeroValue119
  t55 := Tryz.underlying105
  a55 := Tryz.isAgg105
  z55 := Tryz.sizeOf105
  v55 := Tryz.zeroValue105
  t66 := Tryz.underlying148
  a66 := Tryz.isAgg148
  z66 := Tryz.sizeOf148
  v66 := Tryz.zeroValue148
  t70 := Tryz.underlying152
  a70 := Tryz.isAgg152
  z70 := Tryz.sizeOf152
  v70 := Tryz.zeroValue152
  t76 := Tryz.underlying154
  a76 := Tryz.isAgg154
  z76 := Tryz.sizeOf154
  v76 := Tryz.zeroValue154
  t77 := Tryz.underlying155
  a77 := Tryz.isAgg155
  z77 := Tryz.sizeOf155
  v77 := Tryz.zeroValue155 }
def Tryz.cloneCred_ren : Go.Shelf.Ren := ⟨fun | 41 => 94 | n => n, fun | 22 => 29 | 23 => 35 | 4 => 4 | n => n, fun | n => n⟩
theorem Tryz.cloneCred : Go.Proofs.SlLaysE0.n41 Tryz.prog Tryz.cloneCred_ren := {
  mixed := by kernel_rfl
  f41 := ⟨Tryz.f94.name, by decide, Tryz.func94.trans (congrArg some (by kernel_rfl))⟩
  t4 := Tryz.underlying4
  a4 := Tryz.isAgg4
  z4 := Tryz.sizeOf4
  v4 := Tryz.zeroValue4
  t22 := Tryz.underlying29
  a22 := Tryz.isAgg29
  z22 := Tryz.sizeOf29
  v22 := Tryz.zeroValue29 }
end Go.Proofs
end
section
namespace Go.Proofs.YtbjjonpkmplhbaaGreatDoor.Pr
open Go.RowKit Go.Proofs.YtbjjonpkmplhbaaGreatDoorW.PrintWords Go.Proofs.YtbjjonpkmplhbaaGreatDoorW.PrintLast Go.Proofs.YtbjjonpkmplhbaaGreatDoorW.PrintMore
set_option linter.unusedVariables false
set_option linter.unusedSimpArgs false
section
attribute [local go_sem] QaE QaC QaS QaR Qaw Qav QaD QaB
def encCredL (c : Cred) : List Value := [.int .i64 c.f0.f0, .int .i64 c.f0.f1, .string c.f1, .int .i64 c.f2, .string c.f3, .string c.f4.f0, .string c.f4.f1, .string c.f5.f0, .string c.f5.f1]
instance : Inhabited Cred := ⟨z35⟩
theorem flatCred : Flat kCred encCredL where
  opens h := k35_openM h
  shuts w base ok x := k35_mkM w base ok x
  len _ := rfl
theorem isAggCred (w : World) : (isAgg 35).run Tryz.prog w = .ok true w := by kernel_rfl
theorem sizeOfCred (w : World) : (Go.sizeOf 35).run Tryz.prog w = .ok 9 w := by kernel_rfl
def sortCreds (l : List Cred) : List Cred := (Go.Sort.insertionSort (ltOf credCmp) l.toArray 0 l.length).toList
theorem credCmp_lt (x y : Cred) : ltOf credCmp x y = true ↔ x.f0.f0 < y.f0.f0 ∨ (x.f0.f0 = y.f0.f0 ∧ x.f0.f1 < y.f0.f1) := by
  unfold ltOf credCmp Lib.compareInt; rw [decide_eq_true_eq]
  by_cases h1 : x.f0.f0 < y.f0.f0
  · simp [h1]
  · by_cases h2 : y.f0.f0 < x.f0.f0
    · simp [h1, h2]
      omega
    · have e : x.f0.f0 = y.f0.f0 := by omega
      by_cases h3 : x.f0.f1 < y.f0.f1
      · simp [e, h3]
      · by_cases h4 : y.f0.f1 < x.f0.f1 <;> simp [e, h3, h4]
theorem credSWO : Go.Sort.SWO (ltOf credCmp) where
  irrefl x := by rw [Bool.eq_false_iff, Ne, credCmp_lt]; omega
  trans x y z h1 h2 := by rw [credCmp_lt] at *; omega
  ntrans x y z h1 h2 := by rw [Bool.eq_false_iff, Ne, credCmp_lt] at *; omega
theorem Qbq (l : List Cred) : (sortCreds l).length = l.length := by
  have := (Go.Sort.insertionSort_holds credSWO l.toArray 0 l.length (Nat.zero_le _) (by simp)).1.1
  simpa [sortCreds] using this
theorem insert_calls (w : World) (B : Nat) (g cap n : Nat) (l : List Cred) (hn : n = l.length) (hR : Kd.R kCred 35 w B (fun _ => True) (.slice (some ⟨g, 0, none⟩) n cap) l) (hB : B ≤ w.heap.size) (hl : l.length ≤ 20) : Calls Tryz.prog 112 #[.slice (some ⟨g, 0, none⟩) n cap, .int .i64 0, .int .i64 n, .func (.func 96) #[] #[]] w fun e w' =>
    e = .returned (.tuple #[]) ∧ Kd.R kCred 35 w' B (fun _ => True) (.slice (some ⟨g, 0, none⟩) n cap) (sortCreds l) ∧ Below B w w' := by
  subst hn; obtain ⟨_, _, hg, hH, hlt, hmax⟩ := holds_of_R flatCred hR; have eg : ∀ args w, (callFunc 96 args).run Tryz.prog w = .ok (.enter 96 args) w := enters_of Tryz.func96 (by kernel_rfl) rfl
  have hc : CmpLays Tryz.prog 96 #[] encCredL 9 credCmp g 0 l.toArray.size w := fun _ _ _ _ x y => sorted1_calls x y _
  refine (AnyQ.insertionSortCmpFunc Tryz.insCred 9 isAggCred sizeOfCred encCredL (fun _ => rfl) (fun x v hv => by simp [encCredL] at hv; rcases hv with rfl | rfl | rfl | rfl | rfl | rfl | rfl | rfl | rfl <;> rfl) credCmp 96 #[] g 0 cap 0 l.length l.toArray w eg hc hH hlt (Nat.zero_le _) (by simp) (by simp; omega)).mono ?_; rintro e w' ⟨rfl, n, os, rfl⟩; refine ⟨rfl, R_of_sorted flatCred hR n (sortCreds l) os (Qbq l), sorted_below encCredL w g 9 n (sortCreds l) os hB hg⟩
theorem insertion_20 (d : Array Cred) : Go.Sort.insertionSort (ltOf credCmp) d 20 20 = d := by
  unfold Go.Sort.insertionSort; rw [Go.Sort.insOuter]; simp
theorem insert_20 (w : World) (B : Nat) (g cap : Nat) (l : List Cred) (hn : l.length = 20) (hR : Kd.R kCred 35 w B (fun _ => True) (.slice (some ⟨g, 0, none⟩) 20 cap) l) (hB : B ≤ w.heap.size) : Calls Tryz.prog 112 #[.slice (some ⟨g, 0, none⟩) 20 cap, .int .i64 20, .int .i64 20, .func (.func 96) #[] #[]] w fun e w' =>
    e = .returned (.tuple #[]) ∧ Kd.R kCred 35 w' B (fun _ => True) (.slice (some ⟨g, 0, none⟩) 20 cap) l ∧ Below B w w' := by
  have hR0 : Kd.R kCred 35 w B (fun _ => True) (.slice (some ⟨g, 0, none⟩) l.length cap) l := by rw [hn]; exact hR
  obtain ⟨_, _, hg, hH, hlt, hmax⟩ := holds_of_R flatCred hR0; have eg : ∀ args w, (callFunc 96 args).run Tryz.prog w = .ok (.enter 96 args) w := enters_of Tryz.func96 (by kernel_rfl) rfl
  have hc : CmpLays Tryz.prog 96 #[] encCredL 9 credCmp g 0 l.toArray.size w := fun _ _ _ _ x y => sorted1_calls x y _
  have hlen : (Go.Sort.insertionSort (ltOf credCmp) l.toArray 20 20).toList.length = l.length := by rw [insertion_20]
  have key : Calls Tryz.prog 112 #[.slice (some ⟨g, 0, none⟩) l.length cap, .int .i64 (20 : Nat), .int .i64 (20 : Nat), .func (.func 96) #[] #[]] w fun e w' =>
      e = .returned (.tuple #[]) ∧ Kd.R kCred 35 w' B (fun _ => True) (.slice (some ⟨g, 0, none⟩) l.length cap) (Go.Sort.insertionSort (ltOf credCmp) l.toArray 20 20).toList ∧ Below B w w' := by
    refine (AnyQ.insertionSortCmpFunc Tryz.insCred 9 isAggCred sizeOfCred encCredL (fun _ => rfl) (fun x v hv => by simp [encCredL] at hv; rcases hv with rfl | rfl | rfl | rfl | rfl | rfl | rfl | rfl | rfl <;> rfl) credCmp 96 #[] g 0 cap 20 20 l.toArray w eg hc hH hlt (Nat.le_refl _) (by simp [hn]) (by simp; omega)).mono ?_; rintro e w' ⟨rfl, n, os, rfl⟩; exact ⟨rfl, R_of_sorted flatCred hR0 n _ os hlen, sorted_below encCredL w g 9 n _ os hB hg⟩
  rw [insertion_20, hn] at key; exact key
set_option maxRecDepth 100000 in
set_option maxHeartbeats 4000000 in
theorem stable_lt (w : World) (B : Nat) (g cap n : Nat) (l : List Cred) (hn : n = l.length) (hR : Kd.R kCred 35 w B (fun _ => True) (.slice (some ⟨g, 0, none⟩) n cap) l) (hB : B ≤ w.heap.size) (hl : l.length < 20) : Calls Tryz.prog 101 #[.slice (some ⟨g, 0, none⟩) n cap, .int .i64 n, .func (.func 96) #[] #[]] w fun e w' =>
    e = .returned (.tuple #[]) ∧ Kd.R kCred 35 w' B (fun _ => True) (.slice (some ⟨g, 0, none⟩) n cap) (sortCreds l) ∧ Below B w w' := by
  have hi := insert_calls w B g cap n l hn hR hB (by omega); have d1 : decide ((20 : Int) ≤ (n : Int)) = false := decide_eq_false (by omega); have d2 : decide (20 ≤ n) = false := decide_eq_false (by omega); have d3 : decide ((20 : Int) < (n : Int)) = false := decide_eq_false (by omega); have d4 : decide (20 < n) = false := decide_eq_false (by omega); clear hR hl hn; go_enter Tryz.func101, Tryz.ntmps101; go_wp2
  go_loopg [7, 8] 1 (fun kq v7 v8 w' => v7 = .int .i64 0 ∧ v8 = .int .i64 20 ∧ w' = w)
  case atStart => exact ⟨rfl, rfl, rfl⟩
  case round =>
    obtain ⟨rfl, rfl, rfl⟩ := hrel
    go_wp2_with (go_at_call 112; refine hi.mono ?_; rintro e w3 ⟨rfl, hR3, hB3⟩)
    have HR := Lib.hid hR3; have HBw := Lib.hid hB3; clear hR3 hB3 hi
    go_loopg [6, 7, 8, 9] 1 (fun kq v6 _ _ _ w' => v6 = .int .i64 20 ∧ w' = w3)
    case atStart => exact ⟨rfl, rfl⟩
    case round =>
      obtain ⟨rfl, rfl⟩ := hrel; go_wp2; go_end0; exact ⟨rfl, HR.out, HBw.out⟩
set_option maxRecDepth 100000 in
set_option maxHeartbeats 4000000 in
theorem stable_20 (w : World) (B : Nat) (g cap : Nat) (l : List Cred) (hn : l.length = 20) (hR : Kd.R kCred 35 w B (fun _ => True) (.slice (some ⟨g, 0, none⟩) 20 cap) l) (hB : B ≤ w.heap.size) : Calls Tryz.prog 101 #[.slice (some ⟨g, 0, none⟩) 20 cap, .int .i64 20, .func (.func 96) #[] #[]] w fun e w' =>
    e = .returned (.tuple #[]) ∧ Kd.R kCred 35 w' B (fun _ => True) (.slice (some ⟨g, 0, none⟩) 20 cap) (sortCreds l) ∧ Below B w w' := by
  have hi : Calls Tryz.prog 112 #[.slice (some ⟨g, 0, none⟩) 20 cap, .int .i64 0, .int .i64 20, .func (.func 96) #[] #[]] w fun e w' =>
      e = .returned (.tuple #[]) ∧ Kd.R kCred 35 w' B (fun _ => True) (.slice (some ⟨g, 0, none⟩) 20 cap) (sortCreds l) ∧ Below B w w' := insert_calls w B g cap 20 l hn.symm hR hB (by omega)
  have hL := Lib.hid ((Qbq l).trans hn); have hS := Lib.hid hB; clear hR hn hB; go_enter Tryz.func101, Tryz.ntmps101; go_wp2
  go_loopw [7, 8] (fun v7 v8 w' => (v7 = .int .i64 0 ∧ v8 = .int .i64 20 ∧ w' = w) ∨ (v7 = .int .i64 20 ∧ v8 = .int .i64 40 ∧ Kd.R kCred 35 w' B (fun _ => True) (.slice (some ⟨g, 0, none⟩) 20 cap) (sortCreds l) ∧ Below B w w')) (fun _ v8 _ => (60 - intOf v8).toNat)
  case atStart => exact .inl ⟨rfl, rfl, rfl⟩
  case round =>
    rcases hrel with ⟨rfl, rfl, rfl⟩ | ⟨rfl, rfl, hR3, hB3⟩
    · go_wp2_with (go_at_call 112; refine hi.mono ?_; rintro e w3 ⟨rfl, hR3, hB3⟩)
      go_roundw
      case rel => exact .inr ⟨rfl, rfl, hR3, hB3⟩
      case measure => simp [intOf]
    · have h2 := insert_20 _ B g cap (sortCreds l) hL.out hR3 (Nat.le_trans hS.out hB3.size)
      have HB := Lib.hid hB3; clear hi hR3 hB3
      go_wp2_with (go_at_call 112; refine h2.mono ?_; rintro e w4 ⟨rfl, hR4, hB4⟩)
      have HR := Lib.hid hR4; have HBw := Lib.hid hB4; clear hR4 hB4 h2
      go_loopg [6, 7, 8, 9] 1 (fun kq v6 _ _ _ w' => v6 = .int .i64 20 ∧ w' = w4)
      case atStart => exact ⟨rfl, rfl⟩
      case round =>
        obtain ⟨rfl, rfl⟩ := hrel; go_wp2; go_end0; exact ⟨rfl, HR.out, HB.out.trans HBw.out⟩
theorem stable_calls (w : World) (B : Nat) (g cap n : Nat) (l : List Cred) (hn : n = l.length) (hR : Kd.R kCred 35 w B (fun _ => True) (.slice (some ⟨g, 0, none⟩) n cap) l) (hB : B ≤ w.heap.size) (hl : l.length < 21) : Calls Tryz.prog 101 #[.slice (some ⟨g, 0, none⟩) n cap, .int .i64 n, .func (.func 96) #[] #[]] w fun e w' =>
    e = .returned (.tuple #[]) ∧ Kd.R kCred 35 w' B (fun _ => True) (.slice (some ⟨g, 0, none⟩) n cap) (sortCreds l) ∧ Below B w w' := by
  by_cases h : l.length < 20
  · exact stable_lt w B g cap n l hn hR hB h
  · obtain rfl : n = 20 := by omega
    exact stable_20 w B g cap l hn.symm hR hB

theorem cloned_nil {w : World} {e : Nat} : Kd.R kCred e (w.alloc (.cells #[] e)) w.heap.size (fun _ => True) (.slice (some ⟨w.heap.size, 0, none⟩) 0 0) [] :=
  ⟨fun _ _ => trivial, [], ⟨by simp, .inr ⟨w.heap.size, 0, #[], rfl, Nat.le_refl _, Qa1 w _, Nat.le_refl _, Nat.zero_le _, by simp, by simp⟩⟩, Reps.none _ _⟩
theorem infoCred : (Tryz.prog.info? 35).map (fun i => (i.zero, i.size, i.bytes)) = some (some (.agg #[(.int .i64 0), (.int .i64 0), (.string ⟨#[]⟩), (.int .i64 0), (.string ⟨#[]⟩), (.string ⟨#[]⟩), (.string ⟨#[]⟩), (.string ⟨#[]⟩), (.string ⟨#[]⟩)]), 9, 120) := by kernel_rfl
set_option maxRecDepth 100000 in
set_option maxHeartbeats 4000000 in
theorem clone_calls (w : World) (A0 : Option Addr) (c0 n : Nat) (l : List Cred) (hn : n = l.length) (hC : Kd.C kCred w A0 n l) (hl : l.length ≤ 1000000) : Calls Tryz.prog 94 #[.slice A0 n c0] w fun e w' =>
    ∃ v, e = .returned v ∧ Kd.R kCred 35 w' w.heap.size (fun _ => True) v l ∧ Below w.heap.size w w' := by
  have _ := @Qbq
  cases A0 with
  | none =>
    have hl0 : l = [] := by
      rcases Nat.eq_zero_or_pos n with h0 | h0
      · exact List.eq_nil_of_length_eq_zero (by omega)
      · obtain ⟨ad, h, _⟩ := hC.2.2 h0
        cases h
    subst hl0; refine (AnyE.slices_Clone_nil Tryz.cloneCred n c0 w).mono ?_; rintro e w' ⟨rfl, rfl⟩; exact ⟨_, rfl, Kd.R_nil _ _ _ _ _, Below.refl _ _⟩
  | some ad =>
    have q22 : ∀ (W : World) (n c n' c' : Nat), (binOp .eql 29 (.slice (some ad) n c) (.slice none n' c')).run Tryz.prog W = .ok (.bool false) W := fun W n c n' c' => Lib.run_eql_slice_nil W _ _ (some ad) n c n' c' Tryz.underlying29
    have HC := Lib.hid hC; have HL := Lib.hid hl; have HN := Lib.hid hn; clear hC hl hn; go_enter Tryz.func94, Tryz.ntmps94
    go_wp2_with ((with_reducible refine QaY (b := .append) (xs := #[.tmp 5, .tmp 6]) rfl ?_); at_builtin; refine Kd.QbN kCred (Rr := kCred.K w) (w0 := w) w.heap.size rfl (.tmp 5) (.tmp 6) 29 35 (.agg #[(.int .i64 0), (.int .i64 0), (.string ⟨#[]⟩), (.int .i64 0), (.string ⟨#[]⟩), (.string ⟨#[]⟩), (.string ⟨#[]⟩), (.string ⟨#[]⟩), (.string ⟨#[]⟩)]) 120 rfl Tryz.underlying29 infoCred rfl (by decide) (by omega) (.slice (some ⟨w.heap.size, 0, none⟩) 0 0) ([] : List Cred) l (some ad) n c0 (fun _ => True) (fun _ => False) rfl rfl ?aO ?aR (fun x cs h => by rw [k35_open h]; exact k35_mkM _ _ _ x) (fun _ h => h.elim) (fun _ _ => trivial) ?aB ?aS ?aL ?_; (case aO => exact cloned_nil); (case aR => exact Kd.C_alloc HC.out _); (case aB => exact (Qai (Below.refl _ _) _)); (case aS => exact (QaI (Qai (Below.refl _ _) _))); (case aL => (have := HL.out; have := HN.out; simp; omega)); intro v2 w2 ho hb hg hat)
    go_ret; exact ⟨v2, rfl, by simpa using ho, hb⟩

set_option maxRecDepth 100000 in
set_option maxHeartbeats 4000000 in
theorem sortStable_calls (w : World) (B : Nat) (g cap n : Nat) (l : List Cred) (hn : n = l.length) (hR : Kd.R kCred 35 w B (fun _ => True) (.slice (some ⟨g, 0, none⟩) n cap) l) (hB : B ≤ w.heap.size) (hl : l.length < 21) : Calls Tryz.prog 95 #[.slice (some ⟨g, 0, none⟩) n cap, .func (.func 96) #[] #[]] w fun e w' =>
    e = .returned (.tuple #[]) ∧ Kd.R kCred 35 w' B (fun _ => True) (.slice (some ⟨g, 0, none⟩) n cap) (sortCreds l) ∧ Below B w w' := by
  have hi := stable_calls w B g cap n l hn hR hB hl; clear hR hl hn; go_enter Tryz.func95, Tryz.ntmps95
  go_wp2_with (go_at_call 101; refine hi.mono ?_; rintro e w3 ⟨rfl, hR3, hB3⟩)
  go_end0; exact ⟨rfl, hR3, hB3⟩
set_option maxRecDepth 100000 in
set_option maxHeartbeats 4000000 in
theorem stable_none (w : World) (c : Nat) : Calls Tryz.prog 101 #[.slice none 0 c, .int .i64 0, .func (.func 96) #[] #[]] w fun e w' => e = .returned (.tuple #[]) ∧ w' = w := by
  have hi := AnyF.insertionSortCmpFunc_none Tryz.insCred none c (.func (.func 96) #[] #[]) w; change Calls Tryz.prog 112 _ _ _ at hi; go_enter Tryz.func101, Tryz.ntmps101; go_wp2
  go_loopg [7, 8] 1 (fun kq v7 v8 w' => v7 = .int .i64 0 ∧ v8 = .int .i64 20 ∧ w' = w)
  case atStart => exact ⟨rfl, rfl, rfl⟩
  case round =>
    obtain ⟨rfl, rfl, rfl⟩ := hrel
    go_wp2_with (go_at_call 112; refine hi.mono ?_; rintro e w3 ⟨rfl, rfl⟩)
    clear hi
    go_loopg [6, 7, 8, 9] 1 (fun kq v6 _ _ _ w' => v6 = .int .i64 20 ∧ w' = w3)
    case atStart => exact ⟨rfl, rfl⟩
    case round =>
      obtain ⟨rfl, rfl⟩ := hrel; go_wp2; go_end0; exact ⟨rfl, rfl⟩
set_option maxRecDepth 100000 in
set_option maxHeartbeats 4000000 in
theorem sortStable_none (w : World) (c : Nat) : Calls Tryz.prog 95 #[.slice none 0 c, .func (.func 96) #[] #[]] w fun e w' => e = .returned (.tuple #[]) ∧ w' = w := by
  have hi := stable_none w c; go_enter Tryz.func95, Tryz.ntmps95
  go_wp2_with (go_at_call 101; refine hi.mono ?_; rintro e w3 ⟨rfl, rfl⟩)
  go_end0; exact ⟨rfl, rfl⟩
theorem sortStable_any (w : World) (B : Nat) (v : Value) (l : List Cred) (hR : Kd.R kCred 35 w B (fun _ => True) v l) (hB : B ≤ w.heap.size) (hl : l.length < 21) : Calls Tryz.prog 95 #[v, .func (.func 96) #[] #[]] w fun e w' =>
    e = .returned (.tuple #[]) ∧ Kd.R kCred 35 w' B (fun _ => True) v (sortCreds l) ∧ Below B w w' := by
  obtain ⟨A, c, rfl⟩ := Kd.Qbd hR
  cases A with
  | none =>
    have hl0 : l = [] := by
      obtain ⟨_, inner, ⟨_, ho⟩, hr⟩ := hR
      rcases ho with ⟨_, h0⟩ | ⟨g', cap', cur, hv, _⟩
      · exact List.eq_nil_of_length_eq_zero h0
      · cases hv
    subst hl0; refine (sortStable_none w c).mono ?_; rintro e w' ⟨rfl, rfl⟩; have hs : sortCreds [] = [] := List.eq_nil_of_length_eq_zero (by rw [Qbq]; rfl); exact ⟨rfl, by rw [hs]; exact hR, Below.refl _ _⟩
  | some a =>
    obtain ⟨g, off, fr⟩ := a
    have hfr : fr = none ∧ off = 0 := by
      obtain ⟨_, inner, ⟨_, ho⟩, hr⟩ := hR
      rcases ho with ⟨h0, _⟩ | ⟨g', cap', cur, hv, _⟩
      · cases h0
      · simp only [Value.slice.injEq, Option.some.injEq, Addr.mk.injEq] at hv
        exact ⟨hv.1.2.2, hv.1.2.1⟩
    obtain ⟨rfl, rfl⟩ := hfr; exact sortStable_calls w B g c l.length l rfl hR hB hl

def QbU.f (l0 : List (S35)) : Option (List (S35)) := if l0.length < 21 then some (sortCreds l0) else none
set_option maxRecDepth 100000 in
set_option maxHeartbeats 4000000 in
theorem QbU.calls (A0 : Option Addr) (c0 : Nat) (l0 : List (S35)) (r : List (S35)) (w : World) (hr0 : Kd.C k35 w A0 l0.length l0) (hc0 : l0.length ≤ c0) (h : QbU.f l0 = some r) :
    Calls Tryz.prog 83 #[.slice A0 l0.length c0] w fun e w' => ∃ v0_ : Value, e = .returned (v0_) ∧ Kd.R k35 35 w' w.heap.size (fun _ => True) v0_ r ∧ Below w.heap.size w w' := by
  unfold QbU.f at h
  by_cases hl : l0.length < 21
  · rw [if_pos hl] at h
    obtain rfl := Option.some.inj h; have hcl := clone_calls w A0 c0 l0.length l0 rfl hr0 (by omega); have HL := Lib.hid hl; clear hr0 hc0 h hl; go_enter Tryz.func83, Tryz.ntmps83
    go_wp2_with (first | (go_at_call 94; refine hcl.mono ?_; rintro e w3 ⟨v3, rfl, hR3, hB3⟩) | (go_at_call 95; refine (sortStable_any w3 w.heap.size v3 l0 hR3 hB3.size HL.out).mono ?_; rintro e w4 ⟨rfl, hR4, hB4⟩))
    go_ret; exact ⟨v3, rfl, hR4, hB3.trans hB4⟩
  · rw [if_neg hl] at h
    cases h
end
section
open Go.Maps
abbrev ID := S31
theorem id_ext {a b : ID} (h0 : a.f0 = b.f0) (h1 : a.f1 = b.f1) : a = b := by cases a; cases b; simp_all
instance idDec : DecidableEq ID := fun a b => decidable_of_iff (a.f0 = b.f0 ∧ a.f1 = b.f1) ⟨fun h => id_ext h.1 h.2, fun h => by rw [h]; exact ⟨rfl, rfl⟩⟩
def encID (x : ID) : Value := .agg #[.int .i64 x.f0, .int .i64 x.f1]
def okID (x : ID) : Prop := (Lit.int .i64 x.f0).wf = true ∧ (Lit.int .i64 x.f1).wf = true
instance okIDDec (x : ID) : Decidable (okID x) := by unfold okID; infer_instance
theorem idk_laid : laidOutB Tryz.prog = true := by kernel_rfl
theorem idk_row : 31 < Tryz.prog.types.size := of_decide_eq_true (by kernel_rfl)
theorem idk_key : Tryz.prog.keyType 31 = true := by kernel_rfl
theorem idk_tsize : Tryz.prog.types.size = 2 + (Tryz.prog.types.size - 2) := by have := of_decide_eq_true (p := 2 ≤ Tryz.prog.types.size) (by kernel_rfl); omega
theorem idLaw : WideMaps.KeyLaw Tryz.prog 31 := deep_law_laid idk_laid (m := 2) (by omega) idk_row (by kernel_rfl) (by rw [Tryz.underlying31])
theorem idk_cells : Tryz.prog.cellsOf 31 = 2 := by kernel_rfl
theorem idk_int : Tryz.prog.cellsOf 3 = 1 := by kernel_rfl
theorem lits_int (d : Nat) (n : Int) (hn : (Lit.int .i64 n).wf = true) : Tryz.prog.keyLits (d + 1) 3 [.int .i64 n] = some [.int .i64 n] := by
  unfold Program.keyLits; rw [Tryz.underlying3]; simp [hn]
theorem lits_id (d : Nat) (x : ID) (hx : okID x) : Tryz.prog.keyLits (d + 2) 31 [.int .i64 x.f0, .int .i64 x.f1] = some [.int .i64 x.f0, .int .i64 x.f1] := by
  unfold Program.keyLits; rw [Tryz.underlying31]; simp [idk_cells, idk_int, lits_int d _ hx.1, lits_int d _ hx.2]
theorem idKey : KeyK Tryz.prog 31 encID okID where
  keyed := Keyed.of_law idLaw
  lit x hx := by
    refine ⟨.string (keyBytes [.int .i64 x.f0, .int .i64 x.f1]), ?_⟩
    have hf : (encID x).formed Tryz.prog 31 = true := by
      simp [encID, Value.formed, Tryz.underlying31, idk_cells]
    unfold keyOf; rw [Tryz.underlying31]; simp only [idk_key, hf, Bool.and_self, if_true]
    have hc : (encID x).cells.toList = [.int .i64 x.f0, .int .i64 x.f1] := by simp [encID, Value.cells]
    rw [hc, idk_tsize, show 2 + (Tryz.prog.types.size - 2) + 1 = (Tryz.prog.types.size - 1) + 2 from by have := idk_tsize; omega, lits_id _ x hx]; rfl
  inj p q _ _ h := by
    simp only [encID, Value.agg.injEq, Array.mk.injEq, List.cons.injEq, Value.int.injEq, and_true, true_and] at h; exact id_ext h.1 h.2
theorem neID_f {a b : ID} (h : a = b) : (!(a.f0 == b.f0) || (!(a.f1 == b.f1))) = false := by subst h; simp
theorem neID_t {a b : ID} (h : ¬ a = b) : (!(a.f0 == b.f0) || (!(a.f1 == b.f1))) = true := by
  by_cases e0 : a.f0 = b.f0
  · by_cases e1 : a.f1 = b.f1
    · exact absurd (by cases a; cases b; simp_all) h
    · simp [e1]
  · simp [e0]
end
section
attribute [local go_sem high] eqA31
abbrev mayOf (c : Cred) : Option Bool := cred_May.f c.f0.f0 c.f0.f1 c.f1 c.f2 c.f3 c.f4.f0 c.f4.f1 c.f5.f0 c.f5.f1
def countsF : List Cred → List Cred → Option (List Cred)
  | [], out => some out
  | c :: S, out => (mayOf c).bind fun m => if m = true then (if (out.getLast?).map (·.f0) = some c.f0 then countsF S out else countsF S (out ++ [c])) else countsF S out
set_option maxRecDepth 100000 in
set_option maxHeartbeats 8000000 in
theorem countsW (w : World) (A0 : Option Addr) (c0 : Nat) (l S out : List Cred) (hr0 : Kd.C kCred w A0 l.length l) (hc0 : l.length ≤ c0) (hS : QbU.f l = some S) (hlen : S.length ≤ 1000000) (h : countsF S [] = some out) :
    Calls Tryz.prog 75 #[.slice A0 l.length c0] w fun e w' => ∃ v, e = .returned v ∧ Kd.R kCred 35 w' w.heap.size (fun _ => True) v out ∧ Below w.heap.size w w' := by
  have HS := Lib.hid hS; have HF := Lib.hid h; have HL := Lib.hid hlen; have HR0 := Lib.hid hr0; have HC0 := Lib.hid hc0; clear hS h hlen hr0 hc0; go_enter Tryz.func75, Tryz.ntmps75
  go_wp2_with (go_at_call 83; refine (QbU.calls A0 c0 l S w HR0.out HC0.out HS.out).mono ?_; rintro e w3 ⟨v3, rfl, hR3, hB3⟩; obtain ⟨A3, cc3, rfl⟩ := Kd.Qbd hR3)
  have HC3 := Lib.hid (Kd.QaW hR3).2.2; have HB3 := Lib.hid hB3; clear hR3 hB3
  go_loopg [3, 9] (S.length + 1) (fun kq v3 v9 w' => ∃ (i : Nat) (acc : List Cred), v9 = .int .i64 i ∧ Hid (kq = S.length + 1 - i) ∧ Hid (i ≤ S.length) ∧ Hid (acc.length ≤ i) ∧ Hid (countsF (S.drop i) acc = some out) ∧ Hid (Kd.R kCred 35 w' w3.heap.size (fun _ => True) v3 acc) ∧ Hid (Below w3.heap.size w3 w'))
  case atStart => exact ⟨0, [], rfl, Lib.hid rfl, Lib.hid (Nat.zero_le _), Lib.hid (Nat.le_refl _), HF, Lib.hid (Kd.R_nil _ _ _ _ _), Lib.hid (Below.refl _ _)⟩
  case round =>
    clear HF; obtain ⟨i, acc, rfl, HKq, HI, HA, HF, HR, HW⟩ := hrel; obtain ⟨A4, c4, hv⟩ := Kd.Qbd HR.out; subst hv
    by_cases hi : i < S.length
    · have d1 : decide ((i : Int) < (S.length : Int)) = true := decide_eq_true (by omega)
      have d2 : decide (i < S.length) = true := decide_eq_true hi; obtain ⟨ad, e, hx0, hx1, hx2, hx3, hx4, hx5, hx6, hx7, hx8⟩ := at_T35 (Kd.Qa8 HC3.out HW.out) (i : Int) (by omega) (by omega); obtain rfl := e
      obtain ⟨x, hx⟩ : ∃ x, x = S[i] := ⟨_, rfl⟩
      have erd : Qae S (i : Int) = x := by
        unfold Qae; rw [hx, Int.toNat_natCast, List.getD_eq_getElem?_getD, List.getElem?_eq_getElem hi]; rfl
      rw [erd, Int.toNat_natCast] at hx0 hx1 hx2 hx3 hx4 hx5 hx6 hx7 hx8; have p101 : (0 ≤ (i : Int)) = True := eq_true (by omega); have q101 : ((i : Int) < (S.length : Int)) = True := eq_true (by omega); have hF := HF.out; rw [List.drop_eq_getElem_cons hi, ← hx, countsF] at hF; obtain ⟨m, hm, hF⟩ := Option.bind_eq_some_iff.mp hF
      have wrapI : wrap64 ((i : Int) + 1) = ((i + 1 : Nat) : Int) := by unfold wrap64; have := HL.out; omega
      have HIL := Lib.hid hi; have HMy := Lib.hid hm; clear hx erd hi hm; replace HF := Lib.hid hF; clear hF
      go_upto_region 5 with fail
      change Code.wp _ _ _ _ (wr.alloc (credObj x)); have HXa := Qai (Below.refl wr.heap.size wr) (credObj x); have B3 := Qa1 wr (credObj x); have WX := Qac HW.out HXa; have RX := Kd.Qa3 HR.out HXa
      obtain ⟨kx, hkx⟩ : ∃ kx, kx = wr.heap.size := ⟨_, rfl⟩
      rw [← hkx] at B3 ⊢; clear hx0 hx1 hx2 hx3 hx4 hx5 hx6 hx7 hx8 HXa HW HR hkx
      generalize wr.alloc (credObj x) = X at B3 WX RX ⊢
      obtain ⟨kc0, kc1, kc2, kc3, kc4, kc5, kc6, kc7, kc8⟩ := credCells B3; have HBX := Lib.hid B3; have HWX := Lib.hid WX; have HRX := Lib.hid RX; clear B3 WX RX; have g0 := Qaz kc0; have g1 := Qaz kc1; have g2 := Qaz kc2; have g3 := Qaz kc3; have g4 := Qaz kc4; have g5 := Qaz kc5; have g6 := Qaz kc6; have g7 := Qaz kc7; have g8 := Qaz kc8; clear kc0 kc1 kc2 kc3 kc4 kc5 kc6 kc7 kc8; have HMC := Lib.hid (fun W => cred_May.calls _ _ _ _ _ _ _ _ _ _ W HMy.out); cases m
      · have hF := HF.out
        rw [if_neg (by decide)] at hF; replace HF := Lib.hid hF; clear hF; refine QaL (by kernel_rfl) (by kernel_rfl) ?_
        repeat (go_big_quiet_step (with_reducible refine QbF (HMC.out _)))
        refine wpQuiet_nil ?_; rintro _ ⟨u, rfl⟩; have HWY := Lib.hid (Qac HWX.out u.ok); have HRY := Lib.hid (Kd.Qa3 HRX.out u.ok); have BY := Qad HBX.out u.ok; clear g0 g1 g2 g3 g4 g5 g6 g7 g8 HWX HRX HBX
        generalize u.now = Y at HWY HRY BY ⊢
        clear u; go_wp2
        go_roundg (S.length + 1 - (i + 1))
        case measure => have := HKq.out; have := HIL.out; omega
        case rel => exact ⟨i + 1, acc, by first | rfl | exact congrArg _ wrapI, Lib.hid rfl, Lib.hid HIL.out, Lib.hid (Nat.le_succ_of_le HA.out), HF, HRY, HWY⟩
      · have hF := HF.out
        rw [if_pos rfl] at hF
        by_cases ha : acc.length = 0
        · have e0 : acc = [] := List.eq_nil_of_length_eq_zero ha
          rw [if_neg (by rw [e0]; simp)] at hF; replace HF := Lib.hid hF; have b1 : ((acc.length : Int) == 0) = true := beq_iff_eq.mpr (by omega); have b2 : (acc.length == 0) = true := beq_iff_eq.mpr ha; clear hF e0 ha; refine QaL (by kernel_rfl) (by kernel_rfl) ?_
          repeat (go_big_quiet_step (with_reducible refine QbF (HMC.out _)))
          refine wpQuiet_nil ?_; rintro _ ⟨u, rfl⟩; have HWY := Lib.hid (Qac HWX.out u.ok); have HRY := Lib.hid (Kd.Qa3 HRX.out u.ok); have BY := Qad HBX.out u.ok; clear g0 g1 g2 g3 g4 g5 g6 g7 g8 HWX HRX HBX
          generalize u.now = Y at HWY HRY BY ⊢
          clear u; obtain ⟨kc0, kc1, kc2, kc3, kc4, kc5, kc6, kc7, kc8⟩ := credCells BY; clear BY
          go_wp2_with ((with_reducible refine QaY (b := .append) (xs := #[.tmp 32, .tmp 34]) rfl ?_); at_builtin; refine Kd.QbG kCred (w0 := w3) w3.heap.size rfl (.tmp 32) (.tmp 34) 29 35 (.agg #[.int .i64 0, .int .i64 0, .string ⟨#[]⟩, .int .i64 0, .string ⟨#[]⟩, .string ⟨#[]⟩, .string ⟨#[]⟩, .string ⟨#[]⟩, .string ⟨#[]⟩]) 120 rfl Tryz.underlying29 infoCred rfl (by decide) (by omega) _ acc x [.int .i64 x.f0.f0, .int .i64 x.f0.f1, .string x.f1, .int .i64 x.f2, .string x.f3, .string x.f4.f0, .string x.f4.f1, .string x.f5.f0, .string x.f5.f1] (fun _ => True) (fun _ => False) rfl rfl ?aP (fun _ hk => hk.elim) (fun _ _ => trivial) ?aO ?aB ?aS ?aL ?_; (case aP => exact k35_mkM _ _ _ x); (case aB => exact HWY.out); (case aO => exact HRY.out); (case aS => exact QaI HWY.out); (case aL => have := HA.out; have := HIL.out; have := HL.out; omega); intro v2 w2 ho hb hg hat)
          have HO := Lib.hid ho; have HBo := Lib.hid hb
          clear ho hb hg hat
          go_roundg (S.length + 1 - (i + 1))
          case measure => have := HKq.out; have := HIL.out; omega
          case rel => exact ⟨i + 1, acc ++ [x], by first | rfl | exact congrArg _ wrapI, Lib.hid rfl, Lib.hid HIL.out, Lib.hid (by have := HA.out; simp; omega), HF, HO, HBo⟩
        · obtain ⟨j, hj⟩ : ∃ j, acc.length = j + 1 := ⟨acc.length - 1, by omega⟩
          have b1 : ((acc.length : Int) == 0) = false := beq_eq_false_iff_ne.mpr (by omega); have b2 : (acc.length == 0) = false := beq_eq_false_iff_ne.mpr ha
          have b3 : (acc.length : Int) - 1 = (j : Int) := by omega
          have b4 : wrap64 (j : Int) = (j : Int) := by unfold wrap64; have := HA.out; have := HIL.out; have := HL.out; omega
          have b5 : (0 ≤ (j : Int)) = True := eq_true (by omega); have b6 : ((j : Int) < (acc.length : Int)) = True := eq_true (by omega); have b7 : (j < acc.length) = True := eq_true (by omega); obtain ⟨al, e, hy0, hy1, _, _, _, _, _, _, _⟩ := at_T35 (Kd.QaW HRX.out).2.2 (j : Int) (by omega) (by omega); obtain rfl := e
          obtain ⟨y, hy⟩ : ∃ y, y = Qae acc (j : Int) := ⟨_, rfl⟩
          have hl : acc.getLast?.map (·.f0) = some y.f0 := by
            rw [List.getLast?_eq_getElem?, hj, Nat.add_sub_cancel, List.getElem?_eq_getElem (by omega), hy]; unfold Qae; rw [Int.toNat_natCast, List.getD_eq_getElem?_getD, List.getElem?_eq_getElem (by omega)]; rfl
          rw [← hy, Int.toNat_natCast] at hy0 hy1; rw [hl] at hF; have g9 := Qaz hy0; have g10 := Qaz hy1; clear hy hl hy0 hy1 ha; have HJ := Lib.hid hj; clear hj
          by_cases e1 : y.f0 = x.f0
          · rw [if_pos (by rw [e1])] at hF
            replace HF := Lib.hid hF; have b8 := neID_f e1; clear hF e1; refine QaL (by kernel_rfl) (by kernel_rfl) ?_
            repeat (go_big_quiet_step (with_reducible refine QbF (HMC.out _)))
            refine wpQuiet_nil ?_; rintro _ ⟨u, rfl⟩; have HWY := Lib.hid (Qac HWX.out u.ok); have HRY := Lib.hid (Kd.Qa3 HRX.out u.ok); have BY := Qad HBX.out u.ok; clear g0 g1 g2 g3 g4 g5 g6 g7 g8 HWX HRX HBX
            generalize u.now = Y at HWY HRY BY ⊢
            clear u; go_wp2
            go_roundg (S.length + 1 - (i + 1))
            case measure => have := HKq.out; have := HIL.out; omega
            case rel => exact ⟨i + 1, acc, by first | rfl | exact congrArg _ wrapI, Lib.hid rfl, Lib.hid HIL.out, Lib.hid (Nat.le_succ_of_le HA.out), HF, HRY, HWY⟩
          · rw [if_neg (by simpa using e1)] at hF
            replace HF := Lib.hid hF; have b8 := neID_t e1; clear hF e1; refine QaL (by kernel_rfl) (by kernel_rfl) ?_
            repeat (go_big_quiet_step (with_reducible refine QbF (HMC.out _)))
            refine wpQuiet_nil ?_; rintro _ ⟨u, rfl⟩; have HWY := Lib.hid (Qac HWX.out u.ok); have HRY := Lib.hid (Kd.Qa3 HRX.out u.ok); have BY := Qad HBX.out u.ok; clear g0 g1 g2 g3 g4 g5 g6 g7 g8 HWX HRX HBX
            generalize u.now = Y at HWY HRY BY ⊢
            clear u; clear g9 g10 b1 b2 b3 b4 b5 b6 b7 b8; obtain ⟨kc0, kc1, kc2, kc3, kc4, kc5, kc6, kc7, kc8⟩ := credCells BY; clear BY
            go_wp2_with ((with_reducible refine QaY (b := .append) (xs := #[.tmp 32, .tmp 34]) rfl ?_); at_builtin; refine Kd.QbG kCred (w0 := w3) w3.heap.size rfl (.tmp 32) (.tmp 34) 29 35 (.agg #[.int .i64 0, .int .i64 0, .string ⟨#[]⟩, .int .i64 0, .string ⟨#[]⟩, .string ⟨#[]⟩, .string ⟨#[]⟩, .string ⟨#[]⟩, .string ⟨#[]⟩]) 120 rfl Tryz.underlying29 infoCred rfl (by decide) (by omega) _ acc x [.int .i64 x.f0.f0, .int .i64 x.f0.f1, .string x.f1, .int .i64 x.f2, .string x.f3, .string x.f4.f0, .string x.f4.f1, .string x.f5.f0, .string x.f5.f1] (fun _ => True) (fun _ => False) rfl rfl ?aP (fun _ hk => hk.elim) (fun _ _ => trivial) ?aO ?aB ?aS ?aL ?_; (case aP => exact k35_mkM _ _ _ x); (case aB => exact HWY.out); (case aO => exact HRY.out); (case aS => exact QaI HWY.out); (case aL => have := HA.out; have := HIL.out; have := HL.out; omega); intro v2 w2 ho hb hg hat)
            have HO := Lib.hid ho; have HBo := Lib.hid hb
            clear ho hb hg hat
            go_roundg (S.length + 1 - (i + 1))
            case measure => have := HKq.out; have := HIL.out; omega
            case rel => exact ⟨i + 1, acc ++ [x], by first | rfl | exact congrArg _ wrapI, Lib.hid rfl, Lib.hid HIL.out, Lib.hid (by have := HA.out; simp; omega), HF, HO, HBo⟩
    · have d1 : decide ((i : Int) < (S.length : Int)) = false := decide_eq_false (by omega)
      have d2 : decide (i < S.length) = false := decide_eq_false hi; have hF := HF.out; rw [List.drop_eq_nil_of_le (by omega), countsF] at hF; obtain rfl := Option.some.inj hF; clear hF HF hi; go_wp2; go_ret; exact ⟨_, rfl, Kd.QbW HR.out HB3.out.size, Qac HB3.out HW.out⟩
end
section
attribute [local go_sem] QaE QaC QaS QaR Qaw Qav QaD QaB
def QbV.f (l0 : List (S35)) : Option (List (S35)) := (QbU.f l0).bind fun S => if S.length ≤ 1000000 then countsF S [] else none
theorem QbV.calls (A0 : Option Addr) (c0 : Nat) (l0 : List (S35)) (r : List (S35)) (w : World) (hr0 : Kd.C k35 w A0 l0.length l0) (hc0 : l0.length ≤ c0) (h : QbV.f l0 = some r) :
    Calls Tryz.prog 75 #[.slice A0 l0.length c0] w fun e w' => ∃ v0_ : Value, e = .returned (v0_) ∧ Kd.R k35 35 w' w.heap.size (fun _ => True) v0_ r ∧ Below w.heap.size w w' := by
  unfold QbV.f at h; obtain ⟨S, hS, h⟩ := Option.bind_eq_some_iff.mp h
  by_cases hl : S.length ≤ 1000000
  · rw [if_pos hl] at h
    exact countsW w A0 c0 l0 S r hr0 hc0 hS hl h
  · rw [if_neg hl] at h
    cases h
end
section
attribute [local go_sem] QaE QaC QaS QaR Qaw Qav QaD QaB
open Go.Maps
open Go.ChangeMaps (setBlock)
abbrev Pair := S102
theorem Qbw {a b : Pair} (h0 : a.f0 = b.f0) (h1 : a.f1 = b.f1) : a = b := by cases a; cases b; simp_all
instance pairDec : DecidableEq Pair := fun a b => decidable_of_iff (a.f0 = b.f0 ∧ a.f1 = b.f1) ⟨fun h => Qbw h.1 h.2, fun h => by rw [h]; exact ⟨rfl, rfl⟩⟩
def encPair (p : Pair) : Value := .agg #[.string p.f0.f0, .string p.f0.f1, .string p.f1]
def okPair (p : Pair) : Prop := p.f0.f0.size ≤ maxLen ∧ p.f0.f1.size ≤ maxLen ∧ p.f1.size ≤ maxLen
theorem Tryz.laidOut : laidOutB Tryz.prog = true := by kernel_rfl
theorem Tryz.rowPair : 102 < Tryz.prog.types.size := of_decide_eq_true (by kernel_rfl)
theorem Tryz.keyPair : Tryz.prog.keyType 102 = true := by kernel_rfl
theorem Tryz.tsize : Tryz.prog.types.size = 2 + (Tryz.prog.types.size - 2) := by have := of_decide_eq_true (p := 2 ≤ Tryz.prog.types.size) (by kernel_rfl); omega
theorem pairLaw : WideMaps.KeyLaw Tryz.prog 102 := deep_law_laid Tryz.laidOut (m := 3) (by omega) Tryz.rowPair (by kernel_rfl) (by rw [Tryz.underlying102])
theorem Tryz.cellsPair : Tryz.prog.cellsOf 102 = 3 := by kernel_rfl
theorem lits_str (d : Nat) (s : ByteArray) (hs : s.size ≤ maxLen) : Tryz.prog.keyLits (d + 1) 9 [.string s] = some [.string s.data.toList] := by
  unfold Program.keyLits; rw [Tryz.underlying9]; simp [hs]
theorem lits_role (d : Nat) (a b : ByteArray) (ha : a.size ≤ maxLen) (hb : b.size ≤ maxLen) : Tryz.prog.keyLits (d + 2) 33 [.string a, .string b] = some [.string a.data.toList, .string b.data.toList] := by
  unfold Program.keyLits; rw [Tryz.underlying33]; simp [Tryz.cellsRole, Tryz.cellsStr, lits_str d a ha, lits_str d b hb]
theorem lits_pair (d : Nat) (p : Pair) (hp : okPair p) : Tryz.prog.keyLits (d + 3) 102 [.string p.f0.f0, .string p.f0.f1, .string p.f1] = some [.string p.f0.f0.data.toList, .string p.f0.f1.data.toList, .string p.f1.data.toList] := by
  unfold Program.keyLits; rw [Tryz.underlying102]; simp [Tryz.cellsPair, Tryz.cellsRole, Tryz.cellsStr, lits_role d _ _ hp.1 hp.2.1, lits_str (d + 1) _ hp.2.2]
theorem pairKey : KeyK Tryz.prog 102 encPair okPair where
  keyed := Keyed.of_law pairLaw
  lit p hp := by
    refine ⟨.string (keyBytes [.string p.f0.f0.data.toList, .string p.f0.f1.data.toList, .string p.f1.data.toList]), ?_⟩
    have hf : (encPair p).formed Tryz.prog 102 = true := by
      simp [encPair, Value.formed, Tryz.underlying102, Tryz.cellsPair]
    unfold keyOf; rw [Tryz.underlying102]; simp only [Tryz.keyPair, hf, Bool.and_self, if_true]
    have hc : (encPair p).cells.toList = [.string p.f0.f0, .string p.f0.f1, .string p.f1] := by simp [encPair, Value.cells]
    rw [hc, Tryz.tsize, show 2 + (Tryz.prog.types.size - 2) + 1 = (Tryz.prog.types.size - 2) + 3 from by omega, lits_pair _ p hp]; rfl
  inj p q _ _ h := by
    simp only [encPair, Value.agg.injEq, Array.mk.injEq, List.cons.injEq, Value.string.injEq, and_true] at h; exact Qbw (role_ext h.1 h.2.1) h.2.2
abbrev kPair := k102
def knownT (known : List Pair) : List (Pair × Value) := known.map fun p => (p, .bool true)
def SolverAt (w : World) (B : Nat) (ok : Nat → Prop) (g b : Nat) (vc : Value) (creds : List Cred) (known waits : List Pair) : Prop :=
  ∃ vw, w.heap[g]? = some (.cells #[vc, .map (some b), vw] 114 (0, 0)) ∧ (B ≤ g ∧ ok g) ∧ (B ≤ b ∧ ok b) ∧ Kd.R kCred 35 w B (fun _ => True) vc creds ∧ Tbl encPair okPair w b (knownT known) ∧ Kd.Q kPair 102 w B ok vw waits
theorem SolverAt.below {w w' : World} {B g b : Nat} {ok : Nat → Prop} {vc : Value} {creds : List Cred} {known waits : List Pair} (h : SolverAt w B ok g b vc creds known waits) (hb : Below w.heap.size w w') : SolverAt w' B ok g b vc creds known waits := by
  obtain ⟨vw, hg, hBg, hBb, hvc, hT, hQ⟩ := h; exact ⟨vw, (hb.block g (Qbi hg)).trans hg, hBg, hBb, Kd.Qa3 hvc hb, hT.below hb, Kd.Q_below hQ hb⟩
def Kept (w w' : World) (ok : Nat → Prop) : Prop := ∀ k, k < w.heap.size → ¬ ok k → w'.heap[k]? = w.heap[k]?
theorem Kept.of_below {w w' : World} (h : Below w.heap.size w w') (ok : Nat → Prop) : Kept w w' ok := fun k hk _ => h.block k hk
theorem Kept.trans {w w1 w2 : World} {ok ok' : Nat → Prop} (h : Kept w w1 ok) (h' : Kept w1 w2 ok') (hs : w.heap.size ≤ w1.heap.size) (hok : ∀ k, k < w.heap.size → ok' k → ok k) : Kept w w2 ok :=
  fun k hk hn => (h' k (by omega) (fun e => hn (hok k hk e))).trans (h k hk hn)
theorem SolverAt.mono {w : World} {B g b : Nat} {ok ok' : Nat → Prop} {vc : Value} {creds : List Cred} {known waits : List Pair} (h : SolverAt w B ok g b vc creds known waits) (hk : ∀ k, ok k → ok' k) : SolverAt w B ok' g b vc creds known waits := by
  obtain ⟨vw, hg, hBg, hBb, hvc, hT, hQ⟩ := h; exact ⟨vw, hg, ⟨hBg.1, hk _ hBg.2⟩, ⟨hBb.1, hk _ hBb.2⟩, hvc, hT, Kd.Q_mono hQ hk⟩
theorem knownT_get (known : List Pair) (p : Pair) : tget (knownT known) p = if p ∈ known then some (.bool true) else none := by
  unfold tget knownT
  induction known with
  | nil => rfl
  | cons q known ih =>
    rw [List.map_cons, List.find?_cons]
    by_cases h : q = p
    · subst h
      simp
    · rw [decide_eq_false h]
      simp only [List.mem_cons]; rw [ih]
      have : (p = q ∨ p ∈ known) ↔ p ∈ known := ⟨fun h' => h'.resolve_left (fun e => h e.symm), .inr⟩
      simp only [this]
theorem blk_thaw {w : World} {g : Nat} {cs : Array Value} {t : TypeId} (h : w.heap[g]? = some (.cells cs t (0, 0))) (i : Nat) : w.frozen? ⟨g, i, none⟩ = false := by simp [World.frozen?, h]
theorem cell_alloc {w : World} {a : Addr} {v : Value} (h : w.cell? a = some v) (o : Obj) : (w.alloc o).cell? a = some v := Qa0 (Qai (Below.refl _ _) o) h
theorem heap_alloc_old {w : World} {i : Nat} (h : i < w.heap.size) (o : Obj) : (w.alloc o).heap[i]? = w.heap[i]? := (MapKept.heap_alloc w o).2 i h
theorem infoPair : (Tryz.prog.info? 102).map (fun i => (i.zero, i.size, i.bytes)) = some (some (.agg #[.string ⟨#[]⟩, .string ⟨#[]⟩, .string ⟨#[]⟩]), 3, 48) := by kernel_rfl
theorem zeroBool (w : World) : (zeroValue 4).run Tryz.prog w = .ok (.bool false) w := by kernel_rfl
set_option maxRecDepth 100000 in
set_option maxHeartbeats 2000000 in
theorem learn_old (w : World) (B g b : Nat) (ok : Nat → Prop) (vc : Value) (creds : List Cred) (known waits : List Pair) (p : Pair) (hp : okPair p) (hS : SolverAt w B ok g b vc creds known waits) (hin : p ∈ known) :
    Calls Tryz.prog 84 #[.pointer (some ⟨g, 0, none⟩), encPair p] w fun e w' => e = .returned (.tuple #[]) ∧ SolverAt w' B ok g b vc creds known waits ∧ Below w.heap.size w w' := by
  obtain ⟨vw, hg, hBg, hBb, hvc, hT, hQ⟩ := hS
  have hl := fun n => hT.look pairKey Tryz.underlying112 zeroBool hp false ((w.alloc (.cells #[.string p.f0.f0, .string p.f0.f1, .string p.f1] 102)).drewN n) (heap_alloc_old hT.lt _)
  rw [knownT_get, if_pos hin] at hl; simp only [Option.getD_some, Bool.false_eq_true, if_false, encPair] at hl; have hc1 := cell_alloc (show w.cell? ⟨g, 1, none⟩ = some (.map (some b)) from (Qak hg 1).trans rfl) (.cells #[.string p.f0.f0, .string p.f0.f1, .string p.f1] 102); unfold encPair; go_enter Tryz.func84, Tryz.ntmps84; go_wp2
  go_quiet (fail)
  go_wp2; go_end0; have hb := QaK (Qai (Below.refl w.heap.size w) (.cells #[.string p.f0.f0, .string p.f0.f1, .string p.f1] 102)) nq; exact ⟨rfl, SolverAt.below ⟨vw, hg, hBg, hBb, hvc, hT, hQ⟩ hb, hb⟩
theorem learn_mid (w : World) (B g b : Nat) (O : Obj) (vc vw : Value) (known : List Pair) (p : Pair) (nq : Nat) (Y : World) (hBb : B ≤ b) (hg : w.heap[g]? = some (.cells #[vc, .map (some b), vw] 114 (0, 0))) (hT : Tbl encPair okPair w b (knownT known))
    (hT' : ∀ W : World, b < W.heap.size → Tbl encPair okPair (setBlock W b O) b (tput (knownT known) p (.bool true))) (hY : Y = setBlock ((w.alloc (.cells #[.string p.f0.f0, .string p.f0.f1, .string p.f1] 102)).drewN (nq + 1)) b O) :
    (Y.heap[g]? = some (.cells #[vc, .map (some b), vw] 114 (0, 0)) ∧ Y.heap[w.heap.size]? = some (.cells #[.string p.f0.f0, .string p.f0.f1, .string p.f1] 102 (0, 0)) ∧ Tbl encPair okPair Y b (tput (knownT known) p (.bool true))) ∧ Y.heap.size = w.heap.size + 1 ∧ (∀ i, i < w.heap.size → i ≠ b → Y.heap[i]? = w.heap[i]?) ∧ Below B w Y := by
  have hlt := hT.lt; have hgl := Qbi hg
  have hgb : g ≠ b := by
    rintro rfl; obtain ⟨es, clock, hb, _⟩ := hT; rw [hg] at hb; cases hb
  have hother : ∀ (W : World) (i : Nat), i ≠ b → (setBlock W b O).heap[i]? = W.heap[i]? := fun W i hi => by simp [setBlock, Ne.symm hi]
  have hsz : ((w.alloc (.cells #[.string p.f0.f0, .string p.f0.f1, .string p.f1] 102)).drewN (nq + 1)).heap.size = w.heap.size + 1 := by simp
  have hold : ∀ i, i < w.heap.size → i ≠ b → Y.heap[i]? = w.heap[i]? := fun i hi hne => by
    rw [hY, hother _ _ hne]; exact heap_alloc_old hi _
  refine ⟨⟨(hold g hgl hgb).trans hg, ?_, ?_⟩, ?_, hold, ?_⟩
  · rw [hY, hother _ _ (by omega)]
    exact heap_alloc_new w _
  · rw [hY]
    exact hT' _ (by rw [hsz]; omega)
  · rw [hY]
    show ((w.alloc _).heap.setIfInBounds b O).size = _
    simp
  · rw [hY]
    exact ⟨rfl, rfl, rfl, by show w.heap.size ≤ ((w.alloc _).heap.setIfInBounds b O).size; simp, fun i hi => by rw [hother _ _ (by omega)]; exact heap_alloc_old (by omega) _⟩
theorem knownT_put (known : List Pair) (p : Pair) (h : ¬ p ∈ known) : tput (knownT known) p (.bool true) = knownT (known ++ [p]) := by
  unfold tput; rw [if_neg]
  · unfold knownT
    simp
  · unfold knownT
    simp only [List.any_map, List.any_eq_true, not_exists, not_and]; intro q hq hqp; simp at hqp; exact h (hqp ▸ hq)
theorem learn_end (Y w1 : World) (B g b : Nat) (ok : Nat → Prop) (vc vw v1 : Value) (creds : List Cred) (known waits : List Pair) (p : Pair) (hin : ¬ p ∈ known) (hgY : Y.heap[g]? = some (.cells #[vc, .map (some b), vw] 114 (0, 0))) (TY : Tbl encPair okPair Y b (tput (knownT known) p (.bool true)))
    (RY : Kd.R kCred 35 Y B (fun _ => True) vc creds) (QY : Kd.Q kPair 102 Y B ok vw waits) (hBg : B ≤ g ∧ ok g) (hBb : B ≤ b ∧ ok b) (hq1 : Kd.Q kPair 102 w1 B ok v1 (waits ++ [p])) (hg1 : (Y.drew).grownBy w1 vw.ownBlock) :
    SolverAt (w1.setCell ⟨g, 2, none⟩ v1) B ok g b vc creds (known ++ [p]) (waits ++ [p]) := by
  have hg1' : Y.grownBy w1 vw.ownBlock := ⟨hg1.os, hg1.tape, hg1.output, hg1.size, hg1.block⟩
  have hgg := (hg1'.block g (Qbi hgY) (Kd.Q_ne QY hgY (by decide))).trans hgY
  have hbg : b ≠ g := by
    rintro rfl; obtain ⟨es, clock, hb, _⟩ := TY; rw [hgY] at hb; cases hb
  have hbv : some b ≠ vw.ownBlock := by
    intro e; obtain ⟨cells, hc⟩ := Kd.Q_typed QY b e.symm; obtain ⟨es, clock, hb, _⟩ := TY; rw [hc] at hb; cases hb
  refine ⟨v1, by simpa using blk_set hgg 2 v1, hBg, hBb, ?_, ?_, Kd.Q_set hq1 hgg (by decide) 2 v1⟩
  · refine Kd.R_set (Kd.R_over' RY (fun k hk => Kd.Q_typed QY k hk) (by decide) hg1') hgg (by decide) 2 v1
  · rw [knownT_put known p hin] at TY
    exact (TY.grown hg1' hbv).set hbg v1
set_option maxRecDepth 100000 in
set_option maxHeartbeats 2000000 in
theorem learn_new (w : World) (B g b : Nat) (ok : Nat → Prop) (vc : Value) (creds : List Cred) (known waits : List Pair) (p : Pair) (hp : okPair p) (hS : SolverAt w B ok g b vc creds known waits) (hin : ¬ p ∈ known) (hroom : known.length < 1000000) (hroom2 : waits.length < 1000000) :
    Calls Tryz.prog 84 #[.pointer (some ⟨g, 0, none⟩), encPair p] w fun e w' => e = .returned (.tuple #[]) ∧ SolverAt w' B (fun k => ok k ∨ w.heap.size ≤ k) g b vc creds (known ++ [p]) (waits ++ [p]) ∧ Below B w w' ∧ Kept w w' ok := by
  obtain ⟨vw, hg, hBg, hBb, hvc, hT, hQ⟩ := hS
  have hl := fun n => hT.look pairKey Tryz.underlying112 zeroBool hp false ((w.alloc (.cells #[.string p.f0.f0, .string p.f0.f1, .string p.f1] 102)).drewN n) (heap_alloc_old hT.lt _)
  rw [knownT_get, if_neg hin] at hl; simp only [Option.getD_none, Bool.false_eq_true, if_false, encPair] at hl
  have hT0 : B ≤ w.heap.size := by have := hT.lt; omega
  obtain ⟨O, hu, hT'⟩ := hT.store pairKey Tryz.underlying112 hp (.bool true) (by unfold knownT maxLen; rw [List.length_map]; omega)
  have hu1 := fun n => hu ((w.alloc (.cells #[.string p.f0.f0, .string p.f0.f1, .string p.f1] 102)).drewN n) (heap_alloc_old hT.lt _)
  simp only [encPair] at hu1; have hc1 := cell_alloc (show w.cell? ⟨g, 1, none⟩ = some (.map (some b)) from (Qak hg 1).trans rfl) (.cells #[.string p.f0.f0, .string p.f0.f1, .string p.f1] 102); unfold encPair; clear hu; go_enter Tryz.func84, Tryz.ntmps84; go_wp2
  go_quiet (fail)
  go_wp2
  go_region
  all_goals
    obtain ⟨Y, hY⟩ : ∃ Y, Y = setBlock ((w.alloc (.cells #[.string p.f0.f0, .string p.f0.f1, .string p.f1] 102)).drewN (nq + 1)) b O := ⟨_, rfl⟩
    rw [← hY]; have HY := Lib.hid hY; clear hY hu1 hl hc1; obtain ⟨⟨hgY, boxY, TY⟩, sizeY, oldY, belowY⟩ := learn_mid w B g b O vc vw known p nq Y hBb.1 hg hT hT' HY.out
    have QYo : Kd.Q kPair 102 Y B ok vw waits := Kd.Q_mono (Kd.Q_move (Kd.Q_bound hQ) (fun k hk => oldY k hk.2.2.1 (fun e => by
      obtain ⟨_, _, _, q, _, cells, hc⟩ := hk; obtain ⟨es, clock, hb, _⟩ := hT; rw [e, hb] at hc
      cases hc))) (fun _ hk => hk.1)
    have QY : Kd.Q kPair 102 Y B (fun k => ok k ∨ w.heap.size ≤ k) vw waits := Kd.Q_mono QYo (fun _ h => .inl h)
    have RY : Kd.R kCred 35 Y B (fun _ => True) vc creds := Kd.Qbf (Kd.R_move (Kd.R_bound hvc) (fun k hk => oldY k hk.2.2.1 (fun e => by
      obtain ⟨_, _, _, q, _, cells, hc⟩ := hk; obtain ⟨es, clock, hb, _⟩ := hT; rw [e, hb] at hc
      cases hc))) (fun _ hk => hk.1)
    have c2 : Y.cell? ⟨g, 2, none⟩ = some vw := (Qak hgY 2).trans rfl; have c2a := cell_alloc c2 (.cells #[.string p.f0.f0, .string p.f0.f1, .string p.f1] 102); have b0 : Y.cell? ⟨w.heap.size, 0, none⟩ = some (.string p.f0.f0) := (Qak boxY 0).trans rfl; have b1 : Y.cell? ⟨w.heap.size, 1, none⟩ = some (.string p.f0.f1) := (Qak boxY 1).trans rfl; have b2 : Y.cell? ⟨w.heap.size, 2, none⟩ = some (.string p.f1) := (Qak boxY 2).trans rfl; have SZ := Lib.hid sizeY; clear sizeY hT hT' HY; go_wp2
    go_region_law ((refine Kd.Q_append_step kPair (w0 := w) (W := Y.drew) B (by rfl) (.tmp 20) (.tmp 22) 101 102 _ 48 (by rfl) Tryz.underlying101 infoPair rfl (by decide) (by decide) vw waits p [.string p.f0.f0, .string p.f0.f1, .string p.f1] (fun k => ok k ∨ w.heap.size ≤ k) (fun _ => False) (by rfl) (by rfl) (k102_mkM _ _ _ p) (fun _ h => h.elim) (fun k hk => .inr (by have := SZ.out; have hk' : Y.heap.size ≤ k := hk; omega)) (Kd.Q_drew QY) (below_drew belowY) (by have := SZ.out; have := hT0; simp; omega) (by omega) ?_; intro v1 w1 hq1 hb1 hg1 hat; obtain ⟨A1, c1, rfl, hl1⟩ := Kd.Q_slice hq1; have hg2 := (hg1.block g (Qbi hgY) (Kd.Q_ne QY hgY (by decide))).trans hgY; have c2' : w1.cell? ⟨g, 2, none⟩ = some vw := (Qak hg2 2).trans rfl; have f2' : w1.frozen? ⟨g, 2, none⟩ = false := blk_thaw hg2 2))
    all_goals
      go_wp2; go_end0; refine ⟨rfl, learn_end Y w1 B g b (fun k => ok k ∨ w.heap.size ≤ k) vc vw _ creds known waits p hin hgY TY RY QY ⟨hBg.1, .inl hBg.2⟩ ⟨hBb.1, .inl hBb.2⟩ (by simpa using hq1) hg1, hb1.setCell hBg.1 _, fun k hk hn => ?_⟩; have e1 : (w1.setCell ⟨g, 2, none⟩ (.slice A1 (waits.length + 1) c1)).heap[k]? = w1.heap[k]? := Below.heap_setCell w1 ⟨g, 2, none⟩ _ k (fun e => hn (e ▸ hBg.2)); have e2 : w1.heap[k]? = Y.heap[k]? := hg1.block k (by have := SZ.out; show k < Y.heap.size; omega) (fun e => hn (QYo.1 k e.symm)); have e3 := oldY k hk (fun e => hn (e ▸ hBb.2)); have e4 := (e1.trans e2).trans e3
      simpa using e4
structure St where
  known : List Pair
  waits : List Pair
instance okPairDec (p : Pair) : Decidable (okPair p) := by unfold okPair; infer_instance
def St.learn (s : St) (p : Pair) : Option St := if p ∈ s.known then some s else if s.known.length < 1000000 ∧ s.waits.length < 1000000 ∧ okPair p then some ⟨s.known ++ [p], s.waits ++ [p]⟩ else none
theorem SolverAt.oks {w : World} {B g b : Nat} {ok : Nat → Prop} {vc : Value} {creds : List Cred} {known waits : List Pair} (h : SolverAt w B ok g b vc creds known waits) : ∀ p ∈ known, okPair p := by
  obtain ⟨vw, hg, hBg, hBb, hvc, hT, hQ⟩ := h; intro p hp; exact hT.oks (p, .bool true) (List.mem_map.mpr ⟨p, hp, rfl⟩)
theorem SolverAt.base {w : World} {B g b : Nat} {ok : Nat → Prop} {vc : Value} {creds : List Cred} {known waits : List Pair} (h : SolverAt w B ok g b vc creds known waits) : B ≤ w.heap.size := by
  obtain ⟨vw, hg, hBg, hBb, hvc, hT, hQ⟩ := h; have := Qbi hg; omega
theorem learn_calls (w : World) (B g b : Nat) (ok : Nat → Prop) (vc : Value) (creds : List Cred) (s s' : St) (p : Pair) (hS : SolverAt w B ok g b vc creds s.known s.waits) (h : s.learn p = some s') :
    Calls Tryz.prog 84 #[.pointer (some ⟨g, 0, none⟩), encPair p] w fun e w' => e = .returned (.tuple #[]) ∧ SolverAt w' B (fun k => ok k ∨ w.heap.size ≤ k) g b vc creds s'.known s'.waits ∧ Below B w w' ∧ Kept w w' ok := by
  unfold St.learn at h
  by_cases hin : p ∈ s.known
  · rw [if_pos hin] at h
    obtain rfl := Option.some.inj h; refine (learn_old w B g b ok vc creds s.known s.waits p (hS.oks p hin) hS hin).mono ?_; rintro e w' ⟨h1, h2, h3⟩; exact ⟨h1, h2.mono (fun _ h => .inl h), h3.mono hS.base, Kept.of_below h3 ok⟩
  · rw [if_neg hin] at h
    by_cases hr : s.known.length < 1000000 ∧ s.waits.length < 1000000 ∧ okPair p
    · rw [if_pos hr] at h
      obtain rfl := Option.some.inj h; exact learn_new w B g b ok vc creds s.known s.waits p hr.2.2 hS hin hr.1 hr.2.1
    · rw [if_neg hr] at h
      cases h
end
section
attribute [local go_sem] QaE QaC QaS QaR Qaw Qav QaD QaB
attribute [local go_sem high] eqA33
abbrev pairObj (p : Pair) : Obj := .cells #[.string p.f0.f0, .string p.f0.f1, .string p.f1] 102
theorem boxed {w W : World} {c : Cred} {p : Pair} (h : (w.alloc (credObj c)).alloc (pairObj p) = W) : Below w.heap.size w W ∧ W.heap[w.heap.size]? = some (credObj c) ∧ W.heap[w.heap.size + 1]? = some (pairObj p) := by
  subst h; refine ⟨Qai (Qai (Below.refl w.heap.size w) _) _, Qam (Qa1 w _) _, ?_⟩; have := Qa1 (w.alloc (credObj c)) (pairObj p)
  simpa using this
theorem pairCells {W : World} {k : Nat} {p : Pair} (h : W.heap[k]? = some (pairObj p)) : W.cell? ⟨k, 0, none⟩ = some (.string p.f0.f0) ∧ W.cell? ⟨k, 1, none⟩ = some (.string p.f0.f1) ∧ W.cell? ⟨k, 2, none⟩ = some (.string p.f1) :=
  ⟨(Qak h 0).trans rfl, (Qak h 1).trans rfl, (Qak h 2).trans rfl⟩
def includeF (c : Cred) (p : Pair) (s : St) : Option St := if p.f0 = c.f4 then s.learn ⟨credRole c, p.f1⟩ else some s
set_option maxRecDepth 100000 in
set_option maxHeartbeats 2000000 in
theorem include_calls (w : World) (B g b : Nat) (ok : Nat → Prop) (vc : Value) (creds : List Cred) (s s' : St) (c : Cred) (p : Pair) (hS : SolverAt w B ok g b vc creds s.known s.waits) (h : includeF c p s = some s') :
    Calls Tryz.prog 86 #[.pointer (some ⟨g, 0, none⟩), encCred c, encPair p] w fun e w' => e = .returned (.tuple #[]) ∧ SolverAt w' B (fun k => ok k ∨ w.heap.size ≤ k) g b vc creds s'.known s'.waits ∧ Below B w w' ∧ Kept w w' ok := by
  unfold includeF at h
  by_cases he : p.f0 = c.f4
  · rw [if_pos he] at h
    have hb := eqRole_t he; clear he; unfold encPair encCred; go_enter Tryz.func86, Tryz.ntmps86; go_wp2; change Code.wp _ _ _ _ ((w.alloc (credObj c)).alloc (pairObj p))
    generalize hW : (w.alloc (credObj c)).alloc (pairObj p) = W
    obtain ⟨HB, BC, BP⟩ := boxed hW; obtain ⟨c0, c1, c2, c3, c4, c5, c6, c7, c8⟩ := credCells BC; obtain ⟨p0, p1, p2⟩ := pairCells BP; clear hW
    go_region_with (first | (go_at_call 85; refine (QbQ c _).mono ?_; rintro e w3 ⟨rfl, hB3⟩; have HB3 : Below w.heap.size w w3 := Qac (by repeat (first | exact HB | apply QaK | apply Qau)) hB3; have p23 := Qa0 hB3 p2) | (go_at_call 84; refine (learn_calls _ B g b ok vc creds s s' ⟨credRole c, p.f1⟩ ?_ h).mono ?_; exact hS.below HB3; rintro e w5 ⟨rfl, hS5, hB5, hK5⟩))
    all_goals
      go_wp2; go_end0; exact ⟨rfl, hS5.mono (fun k h => h.imp_right (fun h => Nat.le_trans HB3.size h)), (HB3.mono hS.base).trans hB5, (Kept.of_below HB3 ok).trans hK5 HB3.size (fun _ _ h => h)⟩
  · rw [if_neg he] at h
    obtain rfl := Option.some.inj h; have hb := eqRole_f he; clear he; unfold encPair encCred; go_enter Tryz.func86, Tryz.ntmps86; go_wp2; go_end0; have hb := Qai (Qai (Below.refl w.heap.size w) (credObj c)) (pairObj p); exact ⟨rfl, (hS.below hb).mono (fun _ h => .inl h), hb.mono hS.base, Kept.of_below hb ok⟩

def roleLess (a b : Role) : Bool := if a = b then false else Op.bytesLess a.f0.toList b.f0.toList || (a.f0.toList == b.f0.toList && Op.bytesLess a.f1.toList b.f1.toList)
def encRole (a : Role) : Value := .agg #[.string a.f0, .string a.f1]
set_option maxHeartbeats 1000000 in
theorem less_calls (a b : Role) (W : World) : Calls Tryz.prog 91 #[encRole a, encRole b] W fun e w' => e = .returned (.bool (roleLess a b)) ∧ ∃ q os', w' = Sort.grow (W.drewN q) os' := by
  unfold roleLess encRole
  by_cases h : a = b
  · rw [if_pos h]
    have hb := eqRole_t h; clear h; go_enter Tryz.func91, Tryz.ntmps91; go_wp2; go_ret; exact ⟨rfl, 0, _, by rw [Sort.alloc_eq_grow, Sort.alloc_eq_grow, Sort.grow_grow]; rfl⟩
  · rw [if_neg h]
    have hb := eqRole_f h; clear h
    generalize h1 : Op.bytesLess a.f0.toList b.f0.toList = b1
    generalize h2 : (a.f0.toList == b.f0.toList) = b2 at hb
    generalize h3 : Op.bytesLess a.f1.toList b.f1.toList = b3
    cases b1 <;> cases b2 <;> cases b3 <;> (
      go_enter Tryz.func91, Tryz.ntmps91; go_wp2; go_ret
      exact ⟨rfl, 0, _, by rw [Sort.alloc_eq_grow, Sort.alloc_eq_grow, Sort.grow_grow]; rfl⟩)
end
theorem eqP_pair (d : Nat) (w : World) (x0 y0 : ByteArray) (x1 y1 : ByteArray) (x2 y2 : ByteArray) :
    (Op.equalIn (d + 3) 102 (.agg #[.string x0, .string x1, .string x2]) (.agg #[.string y0, .string y1, .string y2])).run Tryz.prog w = .ok ((x0.toList == y0.toList && (x1.toList == y1.toList)) && (x2.toList == y2.toList)) w := by
  refine eqA_of Tryz.underlying102 (by kernel_rfl) ?_; refine eqf_cons (by rfl) (by go_simp) (by go_simp) (eqA33 (d + 0) w _ _ _ _) ?_; exact eqf_last (by rfl) (by go_simp; rfl) (by go_simp; rfl) (by go_simp)
section
attribute [local go_sem] QaE QaC QaS QaR Qaw Qav QaD QaB
attribute [local go_sem high] eqA33
attribute [local go_sem high] eqP_pair
def pairLess (a b : Pair) : Bool := roleLess a.f0 b.f0 || (decide (a.f0 = b.f0) && Op.bytesLess a.f1.toList b.f1.toList)
def pairCmp (x y : Pair) : Int := if x = y then 0 else if pairLess x y = true then -1 else 1
theorem eqPair_t {a b : Pair} (h : a = b) : ((a.f0.f0.toList == b.f0.f0.toList && (a.f0.f1.toList == b.f0.f1.toList)) && (a.f1.toList == b.f1.toList)) = true := by subst h; simp
theorem eqPair_f {a b : Pair} (h : ¬ a = b) : ((a.f0.f0.toList == b.f0.f0.toList && (a.f0.f1.toList == b.f0.f1.toList)) && (a.f1.toList == b.f1.toList)) = false := by
  rw [Bool.eq_false_iff]; intro e; rw [Bool.and_eq_true] at e; refine h (Qbw ?_ ((Lib.bytes_beq_iff _ _).mp e.2))
  apply Decidable.byContradiction
  intro hr; rw [eqRole_f hr] at e; exact absurd e.1 (by decide)
theorem boxed_grow {W w3 : World} {x y : Pair} {q : Nat} {os : Array Obj} (h : w3 = Sort.grow (((W.alloc (pairObj x)).alloc (pairObj y)).drewN q) os) : w3.heap[W.heap.size]? = some (pairObj x) ∧ w3.heap[W.heap.size + 1]? = some (pairObj y) ∧ ∃ q os', w3 = Sort.grow (W.drewN q) os' := by
  have hs : ((W.alloc (pairObj x)).alloc (pairObj y)).heap.size = W.heap.size + 2 := by simp
  have hb : ∀ k, k < W.heap.size + 2 → w3.heap[k]? = ((W.alloc (pairObj x)).alloc (pairObj y)).heap[k]? := fun k hk => by
    rw [h]
    show (((W.alloc (pairObj x)).alloc (pairObj y)).heap ++ os)[k]? = _
    rw [Array.getElem?_append_left (by rw [hs]; exact hk)]
  refine ⟨(hb _ (by omega)).trans (Qam (Qa1 W _) _), (hb _ (by omega)).trans ?_, q, #[pairObj x] ++ #[pairObj y] ++ os, ?_⟩
  · have := Qa1 (W.alloc (pairObj x)) (pairObj y)
    simpa using this
  · rw [h, Sort.alloc_eq_grow, Sort.alloc_eq_grow, Sort.grow_grow]
    exact Sort.grow_grow (W.drewN q) _ os
set_option maxHeartbeats 2000000 in
theorem pairs1_calls (x y : Pair) (W : World) : Calls Tryz.prog 90 #[encPair x, encPair y] W fun e w' => e = .returned (.int .i64 (pairCmp x y)) ∧ ∃ q os', w' = Sort.grow (W.drewN q) os' := by
  unfold pairCmp pairLess encPair
  by_cases h : x = y
  · rw [if_pos h]
    have hb := eqPair_t h; clear h; go_enter Tryz.func90, Tryz.ntmps90; go_wp2; go_ret; exact ⟨rfl, 0, _, by rw [Sort.alloc_eq_grow, Sort.alloc_eq_grow, Sort.grow_grow]; rfl⟩
  · rw [if_neg h]
    have hb := eqPair_f h; clear h
    have HL := fun W' => less_calls x.f0 y.f0 W'
    obtain ⟨b2, h2, hr⟩ : ∃ b2 : Bool, (x.f0.f0.toList == y.f0.f0.toList && (x.f0.f1.toList == y.f0.f1.toList)) = b2 ∧ decide (x.f0 = y.f0) = b2 := by
      by_cases hr : x.f0 = y.f0
      · exact ⟨true, eqRole_t hr, decide_eq_true hr⟩
      · exact ⟨false, eqRole_f hr, decide_eq_false hr⟩
    rw [hr]; clear hr; unfold encRole at HL
    generalize roleLess x.f0 y.f0 = b1 at HL ⊢
    generalize h3 : Op.bytesLess x.f1.toList y.f1.toList = b3
    rw [h2] at hb
    cases b1 <;> cases b2 <;> cases b3 <;> simp only [Bool.true_and, Bool.false_and] at hb <;> (
      go_enter Tryz.func90, Tryz.ntmps90
      go_upto_region 1 with fail
      change Code.wp _ _ _ _ ((W.alloc (pairObj x)).alloc (pairObj y))
      go_wp2_with (go_at_call 91; refine (HL _).mono ?_; rintro e w3 ⟨rfl, q, os, hw3⟩; obtain ⟨BX, BY, hos⟩ := boxed_grow hw3; clear hw3; obtain ⟨x0, x1, x2⟩ := pairCells BX; obtain ⟨y0, y1, y2⟩ := pairCells BY; clear BX BY)
      go_ret
      exact ⟨rfl, hos⟩)
end
section
attribute [local go_sem] QaE QaC QaS QaR Qaw Qav QaD QaB
attribute [local go_sem high] eqA33
theorem look_known {w W : World} {B g b : Nat} {ok : Nat → Prop} {vc : Value} {creds : List Cred} {known waits : List Pair} (hS : SolverAt w B ok g b vc creds known waits) (hB : Below w.heap.size w W) (r : Role) (u : ByteArray) (hq : okPair ⟨r, u⟩) (n : Nat) :
    (Instr.lookup 112 (.map (some b)) (.agg #[.string r.f0, .string r.f1, .string u]) false).run Tryz.prog (W.drewN n) = .ok (.bool (decide ((⟨r, u⟩ : Pair) ∈ known))) (W.drewN n) := by
  obtain ⟨vw, hg, hBg, hBb, hvc, hT, hQ⟩ := hS; have hl := hT.look pairKey Tryz.underlying112 zeroBool hq false (W.drewN n) (hB.block b hT.lt); rw [knownT_get] at hl; refine hl.trans ?_
  by_cases hin : (⟨r, u⟩ : Pair) ∈ known
  · simp [hin]
  · simp [hin]
theorem SolverAt.cells {w : World} {B g b : Nat} {ok : Nat → Prop} {vc : Value} {creds : List Cred} {known waits : List Pair} (hS : SolverAt w B ok g b vc creds known waits) : w.cell? ⟨g, 0, none⟩ = some vc ∧ w.cell? ⟨g, 1, none⟩ = some (.map (some b)) := by
  obtain ⟨vw, hg, hBg, hBb, hvc, hT, hQ⟩ := hS; exact ⟨(Qak hg 0).trans rfl, (Qak hg 1).trans rfl⟩
def bothSecond (c : Cred) (p : Pair) (s : St) : Option St := if p.f0 = c.f5 then (if okPair ⟨c.f4, p.f1⟩ then (if (⟨c.f4, p.f1⟩ : Pair) ∈ s.known then s.learn ⟨credRole c, p.f1⟩ else some s) else none) else some s
def bothF (c : Cred) (p : Pair) (s : St) : Option St := if p.f0 = c.f4 then (if okPair ⟨c.f5, p.f1⟩ then (if (⟨c.f5, p.f1⟩ : Pair) ∈ s.known then s.learn ⟨credRole c, p.f1⟩ else bothSecond c p s) else none) else bothSecond c p s
set_option maxRecDepth 100000 in
set_option maxHeartbeats 2000000 in
theorem both_calls (w : World) (B g b : Nat) (ok : Nat → Prop) (vc : Value) (creds : List Cred) (s s' : St) (c : Cred) (p : Pair) (hS : SolverAt w B ok g b vc creds s.known s.waits) (h : bothF c p s = some s') :
    Calls Tryz.prog 88 #[.pointer (some ⟨g, 0, none⟩), encCred c, encPair p] w fun e w' => e = .returned (.tuple #[]) ∧ SolverAt w' B (fun k => ok k ∨ w.heap.size ≤ k) g b vc creds s'.known s'.waits ∧ Below B w w' ∧ Kept w w' ok := by
  unfold encPair encCred; go_enter Tryz.func88, Tryz.ntmps88
  go_upto_region 1 with fail
  change Code.wp _ _ _ _ ((w.alloc (credObj c)).alloc (pairObj p))
  generalize hW : (w.alloc (credObj c)).alloc (pairObj p) = W
  obtain ⟨HB, BC, BP⟩ := boxed hW; obtain ⟨c0, c1, c2, c3, c4, c5, c6, c7, c8⟩ := credCells BC; obtain ⟨p0, p1, p2⟩ := pairCells BP; have s1 := (hS.below HB).cells.2; have L := look_known hS HB; clear hW
  go_cut [41] from 6 to 48 (fun v wc => ∃ t : Bool, v = .bool t ∧ (∃ n, wc = W.drewN n) ∧ (if t then s.learn ⟨credRole c, p.f1⟩ else some s) = some s')
  case first =>
    unfold bothF bothSecond at h
    by_cases e1 : p.f0 = c.f4
    · rw [if_pos e1] at h
      have hb1 := eqRole_t e1; clear e1
      by_cases k1 : okPair ⟨c.f5, p.f1⟩
      · rw [if_pos k1] at h
        have l1 := fun n => L c.f5 p.f1 k1 n
        by_cases i1 : (⟨c.f5, p.f1⟩ : Pair) ∈ s.known
        · rw [if_pos i1] at h
          simp only [decide_eq_true i1] at l1
          go_quiet (fail)
          all_goals
            go_wp2_with fail
            go_meet
            case rel => exact ⟨true, rfl, ⟨_, rfl⟩, h⟩
        · rw [if_neg i1] at h
          simp only [decide_eq_false i1] at l1
          by_cases e2 : p.f0 = c.f5
          · rw [if_pos e2] at h
            have hb2 := eqRole_t e2; clear e2
            by_cases k2 : okPair ⟨c.f4, p.f1⟩
            · rw [if_pos k2] at h
              have l2 := fun n => L c.f4 p.f1 k2 n
              clear L k1 k2
              by_cases i2 : (⟨c.f4, p.f1⟩ : Pair) ∈ s.known
              · rw [if_pos i2] at h
                simp only [decide_eq_true i2] at l2
                go_quiet (fail)
                all_goals
                  go_wp2_with fail
                  go_meet
                  case rel => exact ⟨true, rfl, ⟨_, rfl⟩, h⟩
              · rw [if_neg i2] at h
                simp only [decide_eq_false i2] at l2
                go_quiet (fail)
                all_goals
                  go_wp2_with fail
                  go_meet
                  case rel => exact ⟨false, rfl, ⟨_, rfl⟩, h⟩
            · rw [if_neg k2] at h
              cases h
          · rw [if_neg e2] at h
            have hb2 := eqRole_f e2; clear e2
            go_quiet (fail)
            all_goals
              go_wp2_with fail
              go_meet
              case rel => exact ⟨false, rfl, ⟨_, rfl⟩, h⟩
      · rw [if_neg k1] at h
        cases h
    · rw [if_neg e1] at h
      have hb1 := eqRole_f e1; clear e1
      by_cases e2 : p.f0 = c.f5
      · rw [if_pos e2] at h
        have hb2 := eqRole_t e2; clear e2
        by_cases k2 : okPair ⟨c.f4, p.f1⟩
        · rw [if_pos k2] at h
          have l2 := fun n => L c.f4 p.f1 k2 n
          clear L k2
          by_cases i2 : (⟨c.f4, p.f1⟩ : Pair) ∈ s.known
          · rw [if_pos i2] at h
            simp only [decide_eq_true i2] at l2
            go_quiet (fail)
            all_goals
              go_wp2_with fail
              go_meet
              case rel => exact ⟨true, rfl, ⟨_, rfl⟩, h⟩
          · rw [if_neg i2] at h
            simp only [decide_eq_false i2] at l2
            go_quiet (fail)
            all_goals
              go_wp2_with fail
              go_meet
              case rel => exact ⟨false, rfl, ⟨_, rfl⟩, h⟩
        · rw [if_neg k2] at h
          cases h
      · rw [if_neg e2] at h
        have hb2 := eqRole_f e2; clear e2
        go_quiet (fail)
        all_goals
          go_wp2_with fail
          go_meet
          case rel => exact ⟨false, rfl, ⟨_, rfl⟩, h⟩
  case rest =>
    obtain ⟨t, rfl, ⟨n, rfl⟩, hh⟩ := hcut; clear L h s1; have HBn := QaK HB n; have BCn := Qat BC n; have BPn := Qat BP n
    generalize W.drewN n = V at HBn BCn BPn ⊢
    clear c0 c1 c2 c3 c4 c5 c6 c7 c8 p0 p1 p2 BC BP HB; obtain ⟨c0, c1, c2, c3, c4, c5, c6, c7, c8⟩ := credCells BCn; obtain ⟨p0, p1, p2⟩ := pairCells BPn
    cases t with
    | true =>
      go_wp2
      go_region_with (first | (go_at_call 85; refine (QbQ c _).mono ?_; rintro e w3 ⟨rfl, hB3⟩; have HB3 : Below w.heap.size w w3 := Qac (by repeat (first | exact HBn | apply QaK | apply Qau)) hB3; have p23 := Qa0 hB3 p2) | (go_at_call 84; refine (learn_calls _ B g b ok vc creds s s' ⟨credRole c, p.f1⟩ ?_ hh).mono ?_; exact hS.below HB3; rintro e w5 ⟨rfl, hS5, hB5, hK5⟩))
      all_goals
        go_wp2; go_end0; exact ⟨rfl, hS5.mono (fun k h => h.imp_right (fun h => Nat.le_trans HB3.size h)), (HB3.mono hS.base).trans hB5, (Kept.of_below HB3 ok).trans hK5 HB3.size (fun _ _ h => h)⟩
    | false =>
      obtain rfl := Option.some.inj hh; go_wp2; go_end0; exact ⟨rfl, (hS.below HBn).mono (fun _ h => .inl h), HBn.mono hS.base, Kept.of_below HBn ok⟩
end
end Go.Proofs.YtbjjonpkmplhbaaGreatDoor.Pr
end
section
namespace Go.Proofs.YtbjjonpkmplhbaaGreatDoor
theorem bl_irrefl : ∀ x : List UInt8, Op.bytesLess x x = false
  | [] => rfl
  | a :: x => by
    unfold Op.bytesLess; simp [bl_irrefl x]
theorem bl_trans : ∀ x y z : List UInt8, Op.bytesLess x y = true → Op.bytesLess y z = true → Op.bytesLess x z = true
  | [], [], z => fun h _ => by simp [Op.bytesLess] at h
  | [], b :: y, [] => fun _ h => by simp [Op.bytesLess] at h
  | [], b :: y, c :: z => fun _ _ => by simp [Op.bytesLess]
  | a :: x, [], z => fun h _ => by simp [Op.bytesLess] at h
  | a :: x, b :: y, [] => fun _ h => by simp [Op.bytesLess] at h
  | a :: x, b :: y, c :: z => fun h1 h2 => by
    have ih := bl_trans x y z; simp only [Op.bytesLess] at *; simp only [UInt8.lt_iff_toNat_lt, Bool.or_eq_true, decide_eq_true_eq, Bool.and_eq_true, beq_iff_eq] at *
    rcases h1 with h1 | ⟨rfl, h1⟩
    · rcases h2 with h2 | ⟨rfl, h2⟩
      · exact .inl (Nat.lt_trans h1 h2)
      · exact .inl h1
    · rcases h2 with h2 | ⟨rfl, h2⟩
      · exact .inl h2
      · exact .inr ⟨rfl, ih h1 h2⟩
theorem bl_total : ∀ x y : List UInt8, Op.bytesLess x y = false → Op.bytesLess y x = false → x = y
  | [], [] => fun _ _ => rfl
  | [], b :: y => fun h _ => by simp [Op.bytesLess] at h
  | a :: x, [] => fun _ h => by simp [Op.bytesLess] at h
  | a :: x, b :: y => fun h1 h2 => by
    have ih := bl_total x y; simp only [Op.bytesLess] at *; simp only [UInt8.lt_iff_toNat_lt, Bool.or_eq_false_iff, decide_eq_false_iff_not, Bool.and_eq_false_iff, beq_eq_false_iff_ne] at *; have e : a = b := UInt8.toNat_inj.mp (by omega); subst e; rw [ih (h1.2.resolve_left (fun h => h rfl)) (h2.2.resolve_left (fun h => h rfl))]
def sLess (a b : ByteArray) : Bool := Op.bytesLess a.toList b.toList
theorem QbY (a : ByteArray) : sLess a a = false := bl_irrefl _
theorem sLess_trans {a b c : ByteArray} (h : sLess a b = true) (h' : sLess b c = true) : sLess a c = true := bl_trans _ _ _ h h'
theorem sLess_total {a b : ByteArray} (h : sLess a b = false) (h' : sLess b a = false) : a = b := by
  have := bl_total _ _ h h'; exact (Lib.bytes_beq_iff a b).mp (by rw [beq_iff_eq]; exact this)
end Go.Proofs.YtbjjonpkmplhbaaGreatDoor
end
section
namespace Go.Proofs.YtbjjonpkmplhbaaGreatDoor.Pr
open Go.RowKit Go.Proofs.YtbjjonpkmplhbaaGreatDoorW.PrintWords Go.Proofs.YtbjjonpkmplhbaaGreatDoorW.PrintLast Go.Proofs.YtbjjonpkmplhbaaGreatDoorW.PrintMore
set_option linter.unusedVariables false
set_option linter.unusedSimpArgs false
section
attribute [local go_sem] QaE QaC QaS QaR Qaw Qav QaD QaB
theorem roleLess_iff (a b : Role) : roleLess a b = true ↔ sLess a.f0 b.f0 = true ∨ (a.f0 = b.f0 ∧ sLess a.f1 b.f1 = true) := by
  unfold roleLess
  by_cases h : a = b
  · subst h
    rw [if_pos rfl, QbY, QbY]; simp
  · rw [if_neg h]
    show (sLess _ _ || (_ && sLess _ _)) = true ↔ _
    rw [Bool.or_eq_true, Bool.and_eq_true, Lib.bytes_beq_iff]
theorem QbZ (a b : Pair) : pairLess a b = true ↔ roleLess a.f0 b.f0 = true ∨ (a.f0 = b.f0 ∧ sLess a.f1 b.f1 = true) := by
  unfold pairLess
  show (roleLess _ _ || (_ && sLess _ _)) = true ↔ _
  rw [Bool.or_eq_true, Bool.and_eq_true, decide_eq_true_eq]
theorem roleLess_irrefl (a : Role) : ¬ roleLess a a = true := by unfold roleLess; simp
theorem roleLess_trans {a b c : Role} (h1 : roleLess a b = true) (h2 : roleLess b c = true) : roleLess a c = true := by
  rw [roleLess_iff] at *
  rcases h1 with h1 | ⟨e1, h1⟩
  · rcases h2 with h2 | ⟨e2, h2⟩
    · exact .inl (sLess_trans h1 h2)
    · exact .inl (e2 ▸ h1)
  · rcases h2 with h2 | ⟨e2, h2⟩
    · exact .inl (e1 ▸ h2)
    · exact .inr ⟨e1.trans e2, sLess_trans h1 h2⟩
theorem roleLess_total {a b : Role} (h1 : ¬ roleLess a b = true) (h2 : ¬ roleLess b a = true) : a = b := by
  rw [roleLess_iff, not_or, not_and, Bool.not_eq_true, Bool.not_eq_true] at *; have e := sLess_total h1.1 h2.1; exact role_ext e (sLess_total (h1.2 e) (h2.2 e.symm))
theorem Qby (a : Pair) : ¬ pairLess a a = true := by
  rw [QbZ, QbY]; simp [roleLess_irrefl]
theorem QbO {a b c : Pair} (h1 : pairLess a b = true) (h2 : pairLess b c = true) : pairLess a c = true := by
  rw [QbZ] at *
  rcases h1 with h1 | ⟨e1, h1⟩
  · rcases h2 with h2 | ⟨e2, h2⟩
    · exact .inl (roleLess_trans h1 h2)
    · exact .inl (e2 ▸ h1)
  · rcases h2 with h2 | ⟨e2, h2⟩
    · exact .inl (e1 ▸ h2)
    · exact .inr ⟨e1.trans e2, sLess_trans h1 h2⟩
theorem QbP {a b : Pair} (h1 : ¬ pairLess a b = true) (h2 : ¬ pairLess b a = true) : a = b := by
  rw [QbZ, not_or, not_and, Bool.not_eq_true] at *; have e := roleLess_total (by simpa using h1.1) (by simpa using h2.1); exact Qbw e (sLess_total (by simpa using h1.2 e) (by simpa using h2.2 e.symm))
theorem QbJ (x y : Pair) : Go.Proofs.ltOf pairCmp x y = pairLess x y := by
  unfold Go.Proofs.ltOf pairCmp
  by_cases h : x = y
  · subst h
    rw [if_pos rfl]; have := Qby x
    simp_all
  · rw [if_neg h]
    by_cases h2 : pairLess x y = true
    · rw [if_pos h2, h2]
      rfl
    · rw [if_neg h2]
      simp_all
theorem pairSWO : Go.Sort.SWO (Go.Proofs.ltOf pairCmp) where
  irrefl x := by rw [QbJ]; have := Qby x; simp_all
  trans x y z h1 h2 := by rw [QbJ] at *; exact QbO h1 h2
  ntrans x y z h1 h2 := by
    rw [QbJ] at *; rw [Bool.eq_false_iff] at *; intro h3
    by_cases h4 : pairLess y x = true
    · exact h2 (QbO h4 h3)
    · rw [QbP h1 h4] at h3
      exact h2 h3
def sortPairs (l : List Pair) : List Pair := l.mergeSort fun x y => !(Go.Proofs.ltOf pairCmp) y x
def encPairL (p : Pair) : List Value := [.string p.f0.f0, .string p.f0.f1, .string p.f1]
instance : Inhabited Pair := ⟨⟨⟨⟨#[]⟩, ⟨#[]⟩⟩, ⟨#[]⟩⟩⟩
theorem flatPair : Flat kPair encPairL where
  opens h := k102_openM h
  shuts w base ok x := k102_mkM w base ok x
  len _ := rfl
theorem isAggPair (w : World) : (isAgg 102).run Tryz.prog w = .ok true w := by kernel_rfl
theorem sizeOfPair (w : World) : (Go.sizeOf 102).run Tryz.prog w = .ok 3 w := by kernel_rfl
theorem sort_calls (w : World) (B : Nat) (v : Value) (l : List Pair) (hR : Kd.R kPair 102 w B (fun _ => True) v l) (hB : B ≤ w.heap.size) (hl : l.length < 4611686018427387904) : Calls Tryz.prog 89 #[v, .func (.func 90) #[] #[]] w fun e w' =>
    e = .returned (.tuple #[]) ∧ Kd.R kPair 102 w' B (fun _ => True) v (sortPairs l) ∧ Below B w w' := by
  obtain ⟨A, c, rfl⟩ := Kd.Qbd hR
  cases A with
  | none =>
    have hl : l = [] := by
      obtain ⟨_, inner, ⟨_, ho⟩, hr⟩ := hR
      rcases ho with ⟨_, h0⟩ | ⟨g', cap', cur, hv, _⟩
      · exact List.eq_nil_of_length_eq_zero h0
      · cases hv
    subst hl; refine (AnyF.slices_SortFunc_none Tryz.sortPair none c (.func (.func 90) #[] #[]) w).mono ?_; rintro e w' ⟨rfl, rfl⟩; exact ⟨rfl, by simpa [sortPairs] using hR, Below.refl _ _⟩
  | some a =>
    obtain ⟨g, off, fr⟩ := a
    have hfr : fr = none := by
      obtain ⟨_, inner, ⟨_, ho⟩, hr⟩ := hR
      rcases ho with ⟨h0, _⟩ | ⟨g', cap', cur, hv, _⟩
      · cases h0
      · simp only [Value.slice.injEq, Option.some.injEq, Addr.mk.injEq] at hv
        exact hv.1.2.2
    subst hfr; obtain ⟨rfl, _, hg, hH, hlt, hmax⟩ := holds_of_R flatPair hR; have eg : ∀ args w, (callFunc 90 args).run Tryz.prog w = .ok (.enter 90 args) w := enters_of Tryz.func90 (by kernel_rfl) rfl
    have hc : CmpLays Tryz.prog 90 #[] encPairL 3 pairCmp g 0 l.toArray.size w := fun _ _ _ _ x y => pairs1_calls x y _
    have hT : ∀ x y, (ltOf pairCmp) x y = false → (ltOf pairCmp) y x = false → x = y := fun x y h1 h2 => by
      rw [QbJ] at *; exact QbP (by simp_all) (by simp_all)
    have hsz : l.toArray.size < 4611686018427387904 := by simpa using hl
    refine (AnyQ.slices_SortFunc_total Tryz.sortPair 3 isAggPair sizeOfPair encPairL (fun _ => rfl) (fun x v hv => by simp [encPairL] at hv; rcases hv with rfl | rfl | rfl <;> rfl) pairCmp pairSWO 90 #[] g 0 c l.toArray w eg hc hH hlt hsz hT).mono ?_; rintro e w' ⟨rfl, n, os, rfl⟩; exact ⟨rfl, R_of_sorted flatPair hR n (sortPairs l) os (List.length_mergeSort _), sorted_below encPairL w g 3 n (sortPairs l) os hB hg⟩
theorem sortPairs_length (l : List Pair) : (sortPairs l).length = l.length := List.length_mergeSort _
theorem R_keep {α : Type} {d : Kd α} {e : Nat} {w w1 : World} {base : Nat} {ok : Nat → Prop} {v : Value} {xs : List α} (h : Kd.R d e w base ok v xs) {row : Nat} (hg : w.grownBy w1 (some row)) (hrow : ∀ c t, w.heap[row]? ≠ some (.cells c t (0, 0))) : Kd.R d e w1 base ok v xs := by
  refine Kd.Qbf (Kd.R_move (Kd.R_bound h) (fun k hk => ?_)) (fun _ hk => hk.1); obtain ⟨_, _, hlt, q, _, cells, hc⟩ := hk; refine hg.block k hlt (fun e => ?_)
  injection e with e
  subst e; exact hrow _ _ hc
theorem rng_cells {w : World} {b r : Nat} {l left : List (Pair × Value)} (h : Rng encPair okPair w b r l left) : (∀ c t, w.heap[r]? ≠ some (.cells c t (0, 0))) ∧ (∀ c t, w.heap[b]? ≠ some (.cells c t (0, 0))) := by
  obtain ⟨es, clock, since, seen, c0, hb, hl, ho, hs, hm, hr, _⟩ := h; exact ⟨fun c t e => by (rw [hr] at e; cases e), fun c t e => by (rw [hb] at e; cases e)⟩
theorem knownT_split {left : List Pair} {a c : List (Pair × Value)} {x : Pair × Value} (h : knownT left = a ++ x :: c) : ∃ l1 p l2, left = l1 ++ p :: l2 ∧ a = knownT l1 ∧ c = knownT l2 ∧ x = (p, .bool true) := by
  unfold knownT at *; obtain ⟨l1, l2', rfl, h1, h2⟩ := List.map_eq_append_iff.mp h; obtain ⟨p, l2, rfl, h3, h4⟩ := List.map_eq_cons_iff.mp h2; exact ⟨l1, p, l2, rfl, h1.symm, h4.symm, h3.symm⟩
theorem sortPairs_perm {l l' : List Pair} (h : l.Perm l') : sortPairs l = sortPairs l' := by
  have hsort : ∀ x : List Pair, (sortPairs x).Pairwise (fun a b => (!(ltOf pairCmp) b a) = true) := fun x => by
    unfold sortPairs; refine List.pairwise_mergeSort (le := fun x y => !(ltOf pairCmp) y x) ?_ ?_ x
    · intro a b c h1 h2
      simp only [Bool.not_eq_true'] at *; exact pairSWO.ntrans _ _ _ h2 h1
    · intro a b
      rw [QbJ, QbJ]
      by_cases h1 : pairLess b a = true
      · have : ¬ pairLess a b = true := fun h2 => Qby _ (QbO h1 h2)
        simp_all
      · simp_all
  refine List.Perm.eq_of_pairwise (le := fun a b => (!(ltOf pairCmp) b a) = true) ?_ (hsort l) (hsort l') (((List.mergeSort_perm l _).trans h).trans (List.mergeSort_perm l' _).symm); intro a b _ _ h1 h2; simp only [QbJ] at h1 h2; exact QbP (by simp_all) (by simp_all)
set_option maxRecDepth 100000 in
set_option maxHeartbeats 4000000 in
theorem pairs_calls (w : World) (B g b : Nat) (ok : Nat → Prop) (vc : Value) (creds : List Cred) (s : St) (hS : SolverAt w B ok g b vc creds s.known s.waits) (hroom : s.known.length ≤ 1000000) :
    Calls Tryz.prog 77 #[.pointer (some ⟨g, 0, none⟩)] w fun e w' => ∃ v, e = .returned v ∧ Kd.R kPair 102 w' w.heap.size (fun _ => True) v (sortPairs s.known) ∧ Below w.heap.size w w' := by
  have s1 := (SolverAt.cells hS).2; have _ := @look_known; obtain ⟨vw, hg, hBg, hBb, hvc, hT, hQ⟩ := hS; obtain ⟨O, hrun, hrng⟩ := hT.range (P := Tryz.prog) Tryz.underlying112; have hrun1 := hrun w rfl; have HR0 := Lib.hid (hrng w rfl); clear hrun hrng hT; clear hg hBg hBb hvc hQ; go_enter Tryz.func77, Tryz.ntmps77; go_wp2
  go_loopg [3, 4] (s.known.length + 1) (fun kq v3 _ w' => ∃ dn left : List Pair, Hid (kq = left.length + 1) ∧ Hid (Kd.R kPair 102 w' w.heap.size (fun _ => True) v3 dn) ∧ Hid (Rng encPair okPair w' b w.heap.size (knownT s.known) (knownT left)) ∧ Hid ((dn ++ left).Perm s.known) ∧ Hid (Below w.heap.size w w'))
  case atStart => exact ⟨[], s.known, Lib.hid rfl, Lib.hid (Kd.R_nil _ _ _ _ _), Lib.hid HR0.out, Lib.hid (List.Perm.refl _), Lib.hid (Qai (Below.refl _ _) _)⟩
  case round =>
    clear hrun1 HR0; obtain ⟨dn, left, HK, HO, HRng, HP, HB⟩ := hrel
    rcases HRng.out.next (P := Tryz.prog) 0 with ⟨hl, hnx⟩ | ⟨a, x, c, w1, hsp, hok, hnx, hrng1, hgr, hsz, hent⟩
    · have hl' : left = [] := by simpa [knownT] using hl
      have HE := Lib.hid hl'; clear hl hl'
      go_wp2_with (go_at_call 89; refine (sort_calls _ w.heap.size _ dn HO.out HB.out.size (by have := HP.out.length_eq; simp at this; omega)).mono ?_; rintro e w3 ⟨rfl, hR3, hB3⟩)
      go_ret; have hp := HP.out; rw [HE.out, List.append_nil] at hp; rw [sortPairs_perm hp] at hR3; exact ⟨_, rfl, hR3, HB.out.trans hB3⟩
    · obtain ⟨l1, p, l2, e0, rfl, rfl, rfl⟩ := knownT_split hsp
      have HE := Lib.hid e0; have HC := rng_cells HRng.out; have R1 := Lib.hid (R_keep HO.out hgr HC.1); have B1 := Lib.hid (HB.out.grown hgr HB.out.size (fun k hk => by injection hk with hk; omega)); have N1 := Lib.hid hrng1; have hent1 := hent w1 rfl rfl; have LM := Lib.hid (show dn.length < 1000001 by have := HP.out.length_eq; simp at this; omega); unfold encPair at hnx hent1; clear hsp e0 hok hrng1 hgr hsz hent HC HO HRng HB
      go_wp2_with ((with_reducible refine QaY (b := .append) (xs := #[.tmp 14, .tmp 16]) rfl ?_); at_builtin; refine Kd.QbG kPair (w0 := w) w.heap.size rfl (.tmp 14) (.tmp 16) 101 102 (.agg #[(.string ⟨#[]⟩), (.string ⟨#[]⟩), (.string ⟨#[]⟩)]) 48 rfl Tryz.underlying101 infoPair rfl (by decide) (by omega) _ dn p [.string p.f0.f0, .string p.f0.f1, .string p.f1] (fun _ => True) (fun _ => False) rfl ?aX ?aP (fun _ hk => hk.elim) (fun _ _ => trivial) ?aO ?aB ?aS ?aL ?_; (case aX => (show Value.slice (some ⟨w1.heap.size + 1, 0, none⟩) 1 1 = _; simp)); (case aP => exact k102_mkM _ _ _ p); (case aB => exact (Qai B1.out _)); (case aO => exact (Kd.QaN R1.out _)); (case aS => exact (QaI (Qai B1.out _))); (case aL => have := LM.out; omega); intro v2 w2 ho hb hg hat)
      have hne := rng_cells N1.out
      have hrow : ∀ i, (∀ c t, w1.heap[i]? ≠ some (.cells c t (0, 0))) → some i ≠ u3.ownBlock := fun i hi e => by
        obtain ⟨cells, hc⟩ := Kd.R_typed R1.out i e.symm; exact hi _ _ hc
      have hnew := (N1.out.below (Qai (Below.refl w1.heap.size w1) _)).grown hg (hrow b hne.2) (hrow _ hne.1); have HG := Lib.hid hnew; clear hnew hnx hent1
      go_roundg ((l1 ++ l2).length + 1)
      case measure =>
        have e1 := HK.out; rw [HE.out] at e1; simp at e1 ⊢; omega
      case rel =>
        refine ⟨dn ++ [p], l1 ++ l2, Lib.hid rfl, Lib.hid ho, Lib.hid ?_, Lib.hid ?_, Lib.hid hb⟩
        · have := HG.out
          rw [show knownT (l1 ++ l2) = knownT l1 ++ knownT l2 from List.map_append]; exact this
        · have hp := HP.out
          rw [HE.out] at hp; refine List.Perm.trans ?_ hp; rw [List.append_assoc]; exact List.Perm.append_left dn (show (p :: (l1 ++ l2)).Perm (l1 ++ p :: l2) from List.perm_middle.symm)
end
section
attribute [local go_sem] QaE QaC QaS QaR Qaw Qav QaD QaB
attribute [local go_sem high] eqA33
def linkFirst (c : Cred) : Role := ⟨domName c.f0.f0, c.f4.f1⟩
def learnMany (c : Cred) (second : Role) : List Pair → St → Option St
  | [], s => some s
  | q :: l, s => if q.f0 = second then (s.learn ⟨credRole c, q.f1⟩).bind (learnMany c second l) else learnMany c second l s
def linkA (c : Cred) (p : Pair) (s : St) : Option St :=
  if p.f0 = linkFirst c then (QaX.f 20 p.f1).bind fun n => if n > 0 then (if s.known.length ≤ 1000000 then learnMany c ⟨p.f1, c.f5.f1⟩ (sortPairs s.known) s else none) else some s else some s
def linkB (c : Cred) (p : Pair) (s : St) : Option St :=
  if p.f0.f1 = c.f5.f1 then (if okPair ⟨linkFirst c, p.f0.f0⟩ then (if (⟨linkFirst c, p.f0.f0⟩ : Pair) ∈ s.known then s.learn ⟨credRole c, p.f1⟩ else some s) else none) else some s
def linkF (c : Cred) (p : Pair) (s : St) : Option St := (linkA c p s).bind (linkB c p)
abbrev roleObj (r : Role) : Obj := .cells #[.string r.f0, .string r.f1] 33
theorem roleCells {W : World} {k : Nat} {r : Role} (h : W.heap[k]? = some (roleObj r)) : W.cell? ⟨k, 0, none⟩ = some (.string r.f0) ∧ W.cell? ⟨k, 1, none⟩ = some (.string r.f1) :=
  ⟨(Qak h 0).trans rfl, (Qak h 1).trans rfl⟩
theorem wrap_id {n : Int} (h0 : -9223372036854775808 ≤ n) (h1 : n ≤ 9223372036854775807) : wrap64 n = n := by
  unfold wrap64; omega
set_option maxRecDepth 100000 in
set_option maxHeartbeats 4000000 in
theorem link_calls (w : World) (B g b : Nat) (ok : Nat → Prop) (vc : Value) (creds : List Cred) (s s' : St) (c : Cred) (p : Pair) (hS : SolverAt w B ok g b vc creds s.known s.waits) (hok : ∀ k, ok k → k < w.heap.size) (h : linkF c p s = some s') :
    Calls Tryz.prog 87 #[.pointer (some ⟨g, 0, none⟩), encCred c, encPair p] w fun e w' => e = .returned (.tuple #[]) ∧ SolverAt w' B (fun k => ok k ∨ w.heap.size ≤ k) g b vc creds s'.known s'.waits ∧ Below B w w' ∧ Kept w w' ok := by
  unfold encPair encCred; go_enter Tryz.func87, Tryz.ntmps87
  go_upto_region 1 with fail
  change Code.wp _ _ _ _ ((w.alloc (credObj c)).alloc (pairObj p))
  generalize hW : (w.alloc (credObj c)).alloc (pairObj p) = W
  obtain ⟨HB, BC, BP⟩ := boxed hW; obtain ⟨c0, c1, c2, c3, c4, c5, c6, c7, c8⟩ := credCells BC; obtain ⟨p0, p1, p2⟩ := pairCells BP; clear hW
  go_cut [6] from 6 to 78 (fun v wc => ∃ k1, v = .pointer (some ⟨k1, 0, none⟩) ∧ w.heap.size ≤ k1 ∧ wc.heap[k1]? = some (roleObj (linkFirst c)) ∧ Below W.heap.size W wc)
  case first =>
    have c0a := cell_alloc c0 (.cells #[.string ⟨#[]⟩, .string ⟨#[]⟩] 33); have c6a := cell_alloc c6 (.cells #[.string ⟨#[]⟩, .string ⟨#[]⟩] 33)
    --FIRST
    go_region_with (go_at_call 15; refine (QbT _ _).mono ?_; rintro e w' ⟨rfl, rfl⟩)
    all_goals
      go_wp2_with fail
      go_meet
      case rel => exact ⟨W.heap.size, rfl, HB.size, Qan (Qa1 W _), Qau (Qai (Below.refl _ _) _)⟩
    --END
  case rest =>
    obtain ⟨k1, rfl, hk1, BF, HB1⟩ := hcut; have HBc := Qac HB HB1; have BCc := Qad BC HB1; have BPc := Qad BP HB1; clear c0 c1 c2 c3 c4 c5 c6 c7 c8 p0 p1 p2 BC BP HB HB1; obtain ⟨s1, hA, hB⟩ := Option.bind_eq_some_iff.mp h; clear h; have K1 := Lib.hid hk1; clear hk1
    go_upto_region 2 with fail
    have KA := Lib.hid hA; clear hA
    go_cut [27] from 10 to 78 (fun v w2 => ∃ t : Bool, v = .bool t ∧ (∃ n, w2 = wc.drewN n) ∧ (if t then (s.known.length ≤ 1000000 ∧ learnMany c ⟨p.f1, c.f5.f1⟩ (sortPairs s.known) s = some s1) else s = s1))
    case first =>
      clear hB; obtain ⟨c0, c1, c2, c3, c4, c5, c6, c7, c8⟩ := credCells BCc; obtain ⟨p0, p1, p2⟩ := pairCells BPc; obtain ⟨f0, f1⟩ := roleCells BF; have hA := KA.out; unfold linkA at hA
      by_cases e1 : p.f0 = linkFirst c
      · rw [if_pos e1] at hA
        obtain ⟨n, hn, hA⟩ := Option.bind_eq_some_iff.mp hA; have hb1 := eqRole_t e1; clear e1 KA; have HN := Lib.hid hn; clear hn
        by_cases hn0 : n > 0
        · rw [if_pos hn0] at hA
          have d1 : decide (0 < n) = true := decide_eq_true hn0; clear hn0
          by_cases hl : s.known.length ≤ 1000000
          · rw [if_pos hl] at hA
            have HA := Lib.hid hA; have HL := Lib.hid hl; clear hA hl
            go_wp2_with (go_at_call 65; refine (QaX.calls 20 _ _ _ HN.out).mono ?_; rintro e w' ⟨rfl, ⟨nd, rfl⟩⟩)
            go_meet
            case rel => exact ⟨true, rfl, ⟨_, rfl⟩, HL.out, HA.out⟩
          · rw [if_neg hl] at hA
            cases hA
        · rw [if_neg hn0] at hA
          have HA := Lib.hid (Option.some.inj hA); have d1 : decide (0 < n) = false := decide_eq_false hn0; clear hn0 hA
          go_wp2_with (go_at_call 65; refine (QaX.calls 20 _ _ _ HN.out).mono ?_; rintro e w' ⟨rfl, ⟨nd, rfl⟩⟩)
          go_meet
          case rel => exact ⟨false, rfl, ⟨_, rfl⟩, HA.out⟩
      · rw [if_neg e1] at hA
        have HA := Lib.hid (Option.some.inj hA); have hb1 := eqRole_f e1; clear e1 hA KA; go_wp2
        go_meet
        case rel => exact ⟨false, rfl, ⟨0, rfl⟩, HA.out⟩
    case rest =>
      obtain ⟨t, rfl, ⟨nd, rfl⟩, ht⟩ := hcut; have HBd := QaK HBc nd; have BCd := Qat BCc nd; have BPd := Qat BPc nd; have BFd := Qat BF nd; clear HBc BCc BPc BF
      generalize wc.drewN nd = V at HBd BCd BPd BFd ⊢
      have HT := Lib.hid ht; clear ht KA
      go_upto_if 27 with fail
      go_cut [] from 7 to 78 (fun w2 => SolverAt w2 B (fun k => ok k ∨ w.heap.size ≤ k) g b vc creds s1.known s1.waits ∧ Below B w w2 ∧ Kept w w2 ok ∧ w2.heap[w.heap.size]? = some (credObj c) ∧ w2.heap[w.heap.size + 1]? = some (pairObj p) ∧ w2.heap[k1]? = some (roleObj (linkFirst c)))
      case first =>
        cases t with
        | false =>
          go_wp2
          go_meet
          case rel =>
            obtain rfl : s = s1 := HT.out; exact ⟨(hS.below HBd).mono (fun _ h => .inl h), HBd.mono hS.base, Kept.of_below HBd ok, BCd, BPd, BFd⟩
        | true =>
          obtain ⟨hl, hm⟩ : s.known.length ≤ 1000000 ∧ learnMany c ⟨p.f1, c.f5.f1⟩ (sortPairs s.known) s = some s1 := HT.out; obtain ⟨c0, c1, c2, c3, c4, c5, c6, c7, c8⟩ := credCells BCd; obtain ⟨p0, p1, p2⟩ := pairCells BPd; have HM := Lib.hid hm; have HL := Lib.hid hl; clear hm hl HT
          go_upto_region 4 with fail
          change Code.wp _ _ _ _ (V.alloc (.cells #[.string p.f1, .string c.f5.f1] 33)); have HB2 := Qai HBd (roleObj ⟨p.f1, c.f5.f1⟩); have BC2 := Qam BCd (roleObj ⟨p.f1, c.f5.f1⟩); have BP2 := Qam BPd (roleObj ⟨p.f1, c.f5.f1⟩); have BF2 := Qam BFd (roleObj ⟨p.f1, c.f5.f1⟩); have BS2 := Qa1 V (roleObj ⟨p.f1, c.f5.f1⟩); have HV := Lib.hid (HBd.size); clear c0 c1 c2 c3 c4 c5 c6 c7 c8 p0 p1 p2 HBd BCd BPd BFd; change Code.wp _ _ _ _ (V.alloc (roleObj ⟨p.f1, c.f5.f1⟩))
          generalize hU : V.alloc (roleObj ⟨p.f1, c.f5.f1⟩) = U at HB2 BC2 BP2 BF2 BS2 ⊢
          clear hU
          go_wp2_with (go_at_call 77; refine (pairs_calls _ B g b ok vc creds s (hS.below HB2) HL.out).mono ?_; rintro e w5 ⟨v5, rfl, hR5, hB5⟩; obtain ⟨A5, cc5, rfl⟩ := Kd.Qbd hR5; have HB5 := Qac HB2 hB5; have BC5 := Qad BC2 hB5; have BP5 := Qad BP2 hB5; have BF5 := Qad BF2 hB5; have BS5 := Qad BS2 hB5)
          have HU := Lib.hid HB2.size; have hS5 := hS.below HB5; have HS5 := Lib.hid hS5; have HB5' := Lib.hid HB5; have HR5 := Lib.hid hR5; have HC5 := Lib.hid BC5; have HP5 := Lib.hid BP5; have HF5 := Lib.hid BF5; have HT5 := Lib.hid BS5; have VLE := Lib.hid (show V.heap.size < w5.heap.size from Qbi BS5); clear hR5 hB5 hS5 HB5 BC5 BP5 BF5 BS5 HB2 BC2 BP2 BF2 BS2; have HLL := Lib.hid (show (sortPairs s.known).length ≤ 1000000 by rw [sortPairs_length]; exact HL.out)
          generalize sortPairs s.known = L at HM HR5 HLL ⊢
          go_loopg [37, 9] (L.length + 1) (fun kq v37 _ w' => ∃ (i : Nat) (st : St), v37 = .int .i64 i ∧ Hid (kq = L.length + 1 - i) ∧ Hid (i ≤ L.length) ∧ Hid (learnMany c ⟨p.f1, c.f5.f1⟩ (L.drop i) st = some s1) ∧ Hid (SolverAt w' B (fun k => ok k ∨ w5.heap.size ≤ k) g b vc creds st.known st.waits) ∧ Hid (Below B w w') ∧ Hid (Kept w5 w' ok) ∧ Hid (w5.heap.size ≤ w'.heap.size))
          case atStart => exact ⟨0, s, rfl, Lib.hid rfl, Lib.hid (Nat.zero_le _), Lib.hid HM.out, Lib.hid (HS5.out.mono (fun _ h => .inl h)), Lib.hid (HB5'.out.mono hS.base), Lib.hid (fun _ _ _ => rfl), Lib.hid (Nat.le_refl _)⟩
          case round =>
            obtain ⟨i, st, rfl, HK, HI, HLM, HSt, HBt, HKt, HSz⟩ := hrel
            have box : ∀ {k : Nat} {o : Obj}, w5.heap[k]? = some o → w.heap.size ≤ k → ∀ w', Kept w5 w' ok → w'.heap[k]? = some o := fun hb hk w' hK => (hK _ (Qbi hb) (fun e => by have := hok _ e; omega)).trans hb
            by_cases hi : i < L.length
            · have d1 : decide ((i : Int) < (L.length : Int)) = true := decide_eq_true (by omega)
              have d2 : decide (i < L.length) = true := decide_eq_true hi; have B4 := box HC5.out (Nat.le_refl _) _ HKt.out; have B5 := box HP5.out (by omega) _ HKt.out; have B7 := box HT5.out HV.out _ HKt.out
              have HKU : ∀ k, U.heap.size ≤ k → ¬ ok k := fun k hk e => by have := hok k e; have := HU.out; omega
              have R9 : Kd.R kPair 102 wr U.heap.size (fun _ => True) (.slice A5 L.length cc5) L := Kd.Qbf (Kd.R_move (Kd.R_bound HR5.out) (fun k hk => HKt.out k hk.2.2.1 (HKU k hk.2.1))) (fun _ h => h.1); obtain ⟨ad, e, hx0, hx1, hx2⟩ := at_T102 (Kd.QaW R9).2.2 (i : Int) (by omega) (by omega); cases e
              obtain ⟨q, hq⟩ : ∃ q, q = L[i] := ⟨_, rfl⟩
              have erd : Qbx L (i : Int) = q := by
                unfold Qbx; rw [hq, Int.toNat_natCast, List.getD_eq_getElem?_getD, List.getElem?_eq_getElem hi]; rfl
              rw [erd, Int.toNat_natCast] at hx0 hx1 hx2; have hm := HLM.out; rw [List.drop_eq_getElem_cons hi, ← hq] at hm; unfold learnMany at hm
              have p101 : 0 ≤ (i : Int) := by omega
              have q101 : (i : Int) < (L.length : Int) := by omega
              replace p101 := eq_true p101; replace q101 := eq_true q101; have HIL := Lib.hid hi; clear box hi hq erd R9
              go_upto_region 7 with fail
              change Code.wp _ _ _ _ (wr.alloc (pairObj q)); have HX := Qai (Below.refl wr.heap.size wr) (pairObj q); have B9 := Qa1 wr (pairObj q); have B4x := Qad B4 HX; have B7x := Qad B7 HX; clear B4 B5 B7 hx0 hx1 hx2
              generalize wr.alloc (pairObj q) = X at HX B9 B4x B7x ⊢
              obtain ⟨c0, c1, c2, c3, c4, c5, c6, c7, c8⟩ := credCells B4x; obtain ⟨s0, s1'⟩ := roleCells B7x; obtain ⟨q0, q1, q2⟩ := pairCells B9
              have wrapI : wrap64 ((i : Int) + 1) = ((i + 1 : Nat) : Int) := by rw [wrap_id (by omega) (by have := HLL.out; have := HIL.out; omega)]; rfl
              by_cases e1 : q.f0 = ⟨p.f1, c.f5.f1⟩
              · rw [if_pos e1] at hm
                obtain ⟨st2, h1, h2⟩ := Option.bind_eq_some_iff.mp hm; have H1 := Lib.hid h1; have H2 := Lib.hid h2; have hb1 : (q.f0.f0.toList == p.f1.toList && (q.f0.f1.toList == c.f5.f1.toList)) = true := eqRole_t e1; clear e1 hm h1 h2; go_wp2
                go_region_with (first | (go_at_call 85; refine (QbQ c _).mono ?_; rintro e w3 ⟨rfl, hB3⟩; have HB3 : Below X.heap.size X w3 := Qac (by repeat (first | exact Below.refl _ _ | apply QaK | apply Qau)) hB3; have p23 := Qa0 hB3 q2) | (go_at_call 84; refine (learn_calls _ B g b (fun k => ok k ∨ w5.heap.size ≤ k) vc creds st st2 ⟨credRole c, q.f1⟩ ?_ H1.out).mono ?_; exact (HSt.out.below HX).below HB3; rintro e w8 ⟨rfl, hS8, hB8, hK8⟩))
                all_goals
                  go_wp2
                  go_roundg (L.length + 1 - (i + 1))
                  case measure => have := HK.out; have := HI.out; omega
                  case rel => exact ⟨i + 1, st2, by first | rfl | exact congrArg _ wrapI, Lib.hid rfl, Lib.hid (by have := HIL.out; omega), Lib.hid H2.out, Lib.hid (hS8.mono (fun k h => h.elim id (fun h => .inr (by have := HSz.out; have := HX.size; have := HB3.size; omega)))), Lib.hid ((HBt.out.trans (HX.mono (by have := HSt.out.base; omega))).trans ((HB3.mono (by have := HSt.out.base; have := HX.size; omega)).trans hB8)), Lib.hid (fun k hk hn => (hK8 k (by have := HSz.out; have := HX.size; have := HB3.size; omega) (fun e => e.elim hn (by omega))).trans ((HB3.block k (by have := HSz.out; have := HX.size; omega)).trans ((HX.block k (by have := HSz.out; omega)).trans (HKt.out k hk hn)))), Lib.hid (by have := HSz.out; have := HX.size; have := HB3.size; have := hB8.size; omega)⟩
              · rw [if_neg e1] at hm
                have H2 := Lib.hid hm; have hb1 : (q.f0.f0.toList == p.f1.toList && (q.f0.f1.toList == c.f5.f1.toList)) = false := eqRole_f e1; clear e1 hm; go_wp2
                go_roundg (L.length + 1 - (i + 1))
                case measure => have := HK.out; have := HI.out; omega
                case rel => exact ⟨i + 1, st, by first | rfl | exact congrArg _ wrapI, Lib.hid rfl, Lib.hid (by have := HIL.out; omega), Lib.hid H2.out, Lib.hid (HSt.out.below HX), Lib.hid (HBt.out.trans (HX.mono (by have := HSt.out.base; omega))), Lib.hid (fun k hk hn => (HX.block k (by have := HSz.out; omega)).trans (HKt.out k hk hn)), Lib.hid (by have := HSz.out; have := HX.size; omega)⟩
            · have d1 : decide ((i : Int) < (L.length : Int)) = false := decide_eq_false (by omega)
              have d2 : decide (i < L.length) = false := decide_eq_false hi; have HE := Lib.hid (show i = L.length by have := HI.out; omega); clear hi; go_wp2
              go_meet
              case rel =>
                have hm := HLM.out; rw [HE.out, List.drop_length] at hm; obtain rfl : st = s1 := Option.some.inj hm; exact ⟨HSt.out.mono (fun k h => h.imp_right (fun h => Nat.le_trans HB5'.out.size h)), HBt.out, (Kept.of_below HB5'.out ok).trans HKt.out HB5'.out.size (fun _ _ h => h), box HC5.out (Nat.le_refl _) _ HKt.out, box HP5.out (by omega) _ HKt.out, box HF5.out K1.out _ HKt.out⟩
      case rest =>
        obtain ⟨hS2, hB2, hK2, BC2, BP2, BF2⟩ := hcut; obtain ⟨c0, c1, c2, c3, c4, c5, c6, c7, c8⟩ := credCells BC2; obtain ⟨p0, p1, p2⟩ := pairCells BP2; obtain ⟨f0, f1⟩ := roleCells BF2; have s1c := (SolverAt.cells hS2).2; have HWc := Lib.hid (show w.heap.size ≤ wc.heap.size from Nat.le_of_lt (Qbi BC2)); clear HT HBd BCd BPd BFd; have hBw := Below.refl wc.heap.size wc
        go_upto_region 10 with fail
        go_cut [71] from 53 to 78 (fun v w3 => ∃ t : Bool, v = .bool t ∧ (∃ n, w3 = wc.drewN n) ∧ (if t then s1.learn ⟨credRole c, p.f1⟩ else some s1) = some s')
        case first =>
          unfold linkB at hB
          by_cases e1 : p.f0.f1 = c.f5.f1
          · rw [if_pos e1] at hB
            have hb1 : (p.f0.f1.toList == c.f5.f1.toList) = true := by rw [e1]; simp
            clear e1
            by_cases k1' : okPair ⟨linkFirst c, p.f0.f0⟩
            · rw [if_pos k1'] at hB
              have l1 := fun n => look_known hS2 hBw (linkFirst c) p.f0.f0 k1' n
              by_cases i1 : (⟨linkFirst c, p.f0.f0⟩ : Pair) ∈ s1.known
              · rw [if_pos i1] at hB
                simp only [decide_eq_true i1] at l1; have HH := Lib.hid hB; clear hB k1'
                go_quiet (fail)
                all_goals
                  go_wp2_with fail
                  go_meet
                  case rel => exact ⟨true, rfl, ⟨_, rfl⟩, HH.out⟩
              · rw [if_neg i1] at hB
                simp only [decide_eq_false i1] at l1; have HH := Lib.hid hB; clear hB k1'
                go_quiet (fail)
                all_goals
                  go_wp2_with fail
                  go_meet
                  case rel => exact ⟨false, rfl, ⟨_, rfl⟩, HH.out⟩
            · rw [if_neg k1'] at hB
              cases hB
          · rw [if_neg e1] at hB
            have hb1 : (p.f0.f1.toList == c.f5.f1.toList) = false := (Lib.bytes_beq_false_iff _ _).mpr e1; have HH := Lib.hid hB; clear hB e1
            go_quiet (fail)
            all_goals
              go_wp2_with fail
              go_meet
              case rel => exact ⟨false, rfl, ⟨_, rfl⟩, HH.out⟩
        case rest =>
          obtain ⟨t, rfl, ⟨n3, rfl⟩, ht⟩ := hcut; have HBn := QaK hBw n3; have BCn := Qat BC2 n3; have BPn := Qat BP2 n3; clear c0 c1 c2 c3 c4 c5 c6 c7 c8 p0 p1 p2 f0 f1 BC2 BP2 BF2; have HH := Lib.hid ht
          generalize wc.drewN n3 = Y at HBn BCn BPn ⊢
          obtain ⟨c0, c1, c2, c3, c4, c5, c6, c7, c8⟩ := credCells BCn; obtain ⟨p0, p1, p2⟩ := pairCells BPn; have HSY := Lib.hid (hS2.below HBn); have HBY := Lib.hid (hB2.trans (HBn.mono hS2.base)); have HKY := Lib.hid (show Kept w Y ok from hK2.trans (Kept.of_below HBn ok) HWc.out (fun _ _ h => h)); have HSZ := Lib.hid (show w.heap.size ≤ Y.heap.size by have := HWc.out; have := HBn.size; omega); clear HBn BCn BPn hS2 hB2 hK2 hBw s1c ht
          cases t with
          | false =>
            obtain rfl : s1 = s' := Option.some.inj HH.out; go_wp2; go_end0; exact ⟨rfl, HSY.out, HBY.out, HKY.out⟩
          | true =>
            go_wp2
            go_region_with (first | (go_at_call 85; refine (QbQ c _).mono ?_; rintro e w3 ⟨rfl, hB3⟩; have HB3 : Below Y.heap.size Y w3 := Qac (by repeat (first | exact Below.refl _ _ | apply QaK | apply Qau)) hB3; have p23 := Qa0 hB3 p2) | (go_at_call 84; refine (learn_calls _ B g b (fun k => ok k ∨ w.heap.size ≤ k) vc creds s1 s' ⟨credRole c, p.f1⟩ ?_ HH.out).mono ?_; exact HSY.out.below HB3; rintro e w8 ⟨rfl, hS8, hB8, hK8⟩))
            all_goals
              go_wp2; go_end0; exact ⟨rfl, hS8.mono (fun k h => h.elim id (fun h => .inr (by have := HSZ.out; have := HB3.size; omega))), (HBY.out.trans (HB3.mono HSY.out.base)).trans hB8, fun k hk hn => (hK8 k (by have := HSZ.out; have := HB3.size; omega) (fun e => e.elim hn (by omega))).trans ((HB3.block k (by have := HSZ.out; omega)).trans (HKY.out k hk hn))⟩
end
section
attribute [local go_sem] QaE QaC QaS QaR Qaw Qav QaD QaB
def membersF : List Cred → St → Option St
  | [], s => some s
  | c :: l, s => if c.f2 = 1 then (s.learn ⟨credRole c, c.f3⟩).bind (membersF l) else membersF l s
def stepF (p : Pair) (c : Cred) (s : St) : Option St := if c.f2 = 1 then some s else if c.f2 = 3 then linkF c p s else if c.f2 = 4 then bothF c p s else includeF c p s
def stepsF (p : Pair) : List Cred → St → Option St
  | [], s => some s
  | c :: l, s => (stepF p c s).bind (stepsF p l)
def loopF (creds : List Cred) : Nat → St → Option St
  | 0, _ => none
  | k + 1, s => match s.waits with
    | [] => some s
    | p :: ws => (stepsF p creds ⟨s.known, ws⟩).bind (loopF creds k)
def runF (k : Nat) (creds : List Cred) : Option St := (membersF creds ⟨[], []⟩).bind (loopF creds k)
theorem addr_zero (ad : Addr) : ad.add 0 = ad := by
  obtain ⟨b, o, f⟩ := ad; unfold Addr.add
  split <;> simp_all
theorem SolverAt.bound {w : World} {B g b : Nat} {ok : Nat → Prop} {vc : Value} {creds : List Cred} {known waits : List Pair} (h : SolverAt w B ok g b vc creds known waits) : SolverAt w B (fun k => ok k ∧ k < w.heap.size) g b vc creds known waits := by
  obtain ⟨vw, hg, hBg, hBb, hvc, hT, hQ⟩ := h; exact ⟨vw, hg, ⟨hBg.1, hBg.2, Qbi hg⟩, ⟨hBb.1, hBb.2, hT.lt⟩, hvc, hT, Kd.Q_mono (Kd.Q_bound hQ) (fun k hk => ⟨hk.1, hk.2.2.1⟩)⟩
theorem SolverAt.waits' {w : World} {B g b : Nat} {ok : Nat → Prop} {vc : Value} {creds : List Cred} {known waits : List Pair} (h : SolverAt w B ok g b vc creds known waits) : ∃ A c, waits.length ≤ c ∧ w.heap[g]? = some (.cells #[vc, .map (some b), .slice A waits.length c] 114 (0, 0)) ∧ Kd.C kPair w A waits.length waits := by
  obtain ⟨vw, hg, hBg, hBb, hvc, hT, hQ⟩ := h; obtain ⟨A, c, rfl, hl, hC⟩ := Kd.Q_reads hQ; exact ⟨A, c, hl, hg, hC⟩
theorem SolverAt.creds' {w : World} {B g b : Nat} {ok : Nat → Prop} {A : Option Addr} {n c : Nat} {creds : List Cred} {known waits : List Pair} (h : SolverAt w B ok g b (.slice A n c) creds known waits) : n = creds.length ∧ Kd.C kCred w A creds.length creds := by
  obtain ⟨vw, hg, hBg, hBb, hvc, hT, hQ⟩ := h; have := Kd.QaW hvc; exact ⟨this.1, this.2.2⟩
theorem SolverAt.pop {w W : World} {B g b : Nat} {ok : Nat → Prop} {vc : Value} {creds : List Cred} {known ws : List Pair} {p : Pair} {A : Option Addr} {c : Nat} (h : SolverAt w B ok g b vc creds known (p :: ws)) (hg : w.heap[g]? = some (.cells #[vc, .map (some b), .slice A (ws.length + 1) c] 114 (0, 0)))
    (hb : Below w.heap.size w W) : SolverAt (W.setCell ⟨g, 2, none⟩ (.slice (if c = 1 then A else A.map (·.add 3)) ws.length (c - 1))) B ok g b vc creds known ws := by
  have hgW := (hb.block g (Qbi hg)).trans hg; obtain ⟨vw, hg', hBg, hBb, hvc, hT, hQ⟩ := h; rw [hg] at hg'
  injection hg' with hg'
  injection hg' with hg'
  have e : vw = .slice A (ws.length + 1) c := by
    injection hg' with hg'
    injection hg' with _ hg'
    injection hg' with _ hg'
    injection hg' with hg' _
    exact hg'.symm
  subst e; have hQ2 := Kd.Q_drop (k := 1) (Kd.Q_below hQ hb) (by simp); simp only [Nat.one_mul, List.drop_succ_cons, List.drop_zero, Nat.add_sub_cancel] at hQ2
  have hbg : b ≠ g := by
    rintro rfl; obtain ⟨es, clock, hb, _⟩ := hT; rw [hg] at hb; cases hb
  exact ⟨.slice (if c = 1 then A else A.map (·.add 3)) ws.length (c - 1), by simpa using blk_set hgW 2 _, hBg, hBb, Kd.R_set (Kd.Qa3 hvc hb) hgW (by decide) 2 _, (hT.below hb).set hbg _, Kd.Q_set hQ2 hgW (by decide) 2 _⟩
set_option maxRecDepth 100000 in
set_option maxHeartbeats 4000000 in
theorem run_calls (w : World) (B g b : Nat) (ok : Nat → Prop) (vc : Value) (creds : List Cred) (fuel : Nat) (s' : St) (hS : SolverAt w B ok g b vc creds [] []) (hcl : creds.length ≤ 1000000) (h : runF fuel creds = some s') :
    Calls Tryz.prog 76 #[.pointer (some ⟨g, 0, none⟩)] w fun e w' => e = .returned (.tuple #[]) ∧ SolverAt w' B (fun k => ok k ∨ w.heap.size ≤ k) g b vc creds s'.known s'.waits ∧ Below B w w' := by
  obtain ⟨s1, hM, hL⟩ := Option.bind_eq_some_iff.mp h; clear h
  obtain ⟨A0, cc0, rfl⟩ : ∃ A c, vc = .slice A creds.length c := by
    obtain ⟨vw, hg, hBg, hBb, hvc, hT, hQ⟩ := hS; exact Kd.Qbd hvc
  have g0 := (SolverAt.cells hS).1; have HS := Lib.hid hS; have HM := Lib.hid hM; have HL := Lib.hid hL; have HC := Lib.hid hcl; clear hS hM hL hcl; go_enter Tryz.func76, Tryz.ntmps76; go_wp2
  go_loopg [3, 13] (creds.length + 1) (fun kq _ v13 w' => ∃ (i : Nat) (st : St), v13 = .int .i64 i ∧ Hid (kq = creds.length + 1 - i) ∧ Hid (i ≤ creds.length) ∧ Hid (membersF (creds.drop i) st = some s1) ∧ Hid (SolverAt w' B (fun k => ok k ∨ w.heap.size ≤ k) g b (.slice A0 creds.length cc0) creds st.known st.waits) ∧ Hid (Below B w w') ∧ Hid (w.heap.size ≤ w'.heap.size))
  case atStart => exact ⟨0, ⟨[], []⟩, rfl, Lib.hid rfl, Lib.hid (Nat.zero_le _), Lib.hid HM.out, Lib.hid (HS.out.mono (fun _ h => .inl h)), Lib.hid (Below.refl _ _), Lib.hid (Nat.le_refl _)⟩
  case round =>
    obtain ⟨i, st, rfl, HK, HI, HMs, HSt, HBt, HSz⟩ := hrel
    by_cases hi : i < creds.length
    · have d1 : decide ((i : Int) < (creds.length : Int)) = true := decide_eq_true (by omega)
      have d2 : decide (i < creds.length) = true := decide_eq_true hi; obtain ⟨ad, e, hx0, hx1, hx2, hx3, hx4, hx5, hx6, hx7, hx8⟩ := at_T35 (SolverAt.creds' HSt.out).2 (i : Int) (by omega) (by omega); cases e
      obtain ⟨c, hc⟩ : ∃ c, c = creds[i] := ⟨_, rfl⟩
      have erd : Qae creds (i : Int) = c := by
        unfold Qae; rw [hc, Int.toNat_natCast, List.getD_eq_getElem?_getD, List.getElem?_eq_getElem hi]; rfl
      rw [erd, Int.toNat_natCast] at hx0 hx1 hx2 hx3 hx4 hx5 hx6 hx7 hx8; have hm := HMs.out; rw [List.drop_eq_getElem_cons hi, ← hc] at hm; unfold membersF at hm; have p101 : (0 ≤ (i : Int)) = True := eq_true (by omega); have q101 : ((i : Int) < (creds.length : Int)) = True := eq_true (by omega); have HIL := Lib.hid hi; clear hi hc erd
      have wrapI : wrap64 ((i : Int) + 1) = ((i + 1 : Nat) : Int) := by rw [wrap_id (by omega) (by have := HC.out; have := HIL.out; omega)]; rfl
      go_upto_region 3 with fail
      change Code.wp _ _ _ _ (wr.alloc (credObj c)); have HX := Qai (Below.refl wr.heap.size wr) (credObj c); have B3 := Qa1 wr (credObj c); clear hx0 hx1 hx2 hx3 hx4 hx5 hx6 hx7 hx8
      generalize wr.alloc (credObj c) = X at HX B3 ⊢
      obtain ⟨c0, c1, c2, c3, c4, c5, c6, c7, c8⟩ := credCells B3
      by_cases e1 : c.f2 = 1
      · rw [if_pos e1] at hm
        obtain ⟨st2, h1, h2⟩ := Option.bind_eq_some_iff.mp hm; have H1 := Lib.hid h1; have H2 := Lib.hid h2; have hb1 : (c.f2 == 1) = true := beq_iff_eq.mpr e1; clear e1 hm h1 h2
        --FIRST
        go_wp2
        go_region_with (first | (go_at_call 85; refine (QbQ c _).mono ?_; rintro e w3 ⟨rfl, hB3⟩; have HB3 : Below X.heap.size X w3 := Qac (by repeat (first | exact Below.refl _ _ | apply QaK | apply Qau)) hB3; have p23 := Qa0 hB3 c4) | (go_at_call 84; refine (learn_calls _ B g b (fun k => ok k ∨ w.heap.size ≤ k) (.slice (some ad) creds.length cc0) creds st st2 ⟨credRole c, c.f3⟩ ?_ H1.out).mono ?_; exact (HSt.out.below HX).below HB3; rintro e w8 ⟨rfl, hS8, hB8, hK8⟩))
        all_goals
          go_wp2
          go_roundg (creds.length + 1 - (i + 1))
          case measure => have := HK.out; have := HI.out; omega
          case rel => exact ⟨i + 1, st2, by first | rfl | exact congrArg _ wrapI, Lib.hid rfl, Lib.hid (by have := HIL.out; omega), Lib.hid H2.out, Lib.hid (hS8.mono (fun k h => h.elim id (fun h => .inr (by have := HSz.out; have := HX.size; have := HB3.size; omega)))), Lib.hid ((HBt.out.trans (HX.mono (by have := HSt.out.base; omega))).trans ((HB3.mono (by have := HSt.out.base; have := HX.size; omega)).trans hB8)), Lib.hid (by have := HSz.out; have := HX.size; have := HB3.size; have := hB8.size; omega)⟩
        --END
      · rw [if_neg e1] at hm
        have H2 := Lib.hid hm; have hb1 : (c.f2 == 1) = false := beq_eq_false_iff_ne.mpr e1; clear e1 hm; go_wp2
        go_roundg (creds.length + 1 - (i + 1))
        case measure => have := HK.out; have := HI.out; omega
        case rel => exact ⟨i + 1, st, by first | rfl | exact congrArg _ wrapI, Lib.hid rfl, Lib.hid (by have := HIL.out; omega), Lib.hid H2.out, Lib.hid (HSt.out.below HX), Lib.hid (HBt.out.trans (HX.mono (by have := HSt.out.base; omega))), Lib.hid (by have := HSz.out; have := HX.size; omega)⟩
    · have d1 : decide ((i : Int) < (creds.length : Int)) = false := decide_eq_false (by omega)
      have d2 : decide (i < creds.length) = false := decide_eq_false hi; have HE := Lib.hid (show i = creds.length by have := HI.out; omega); clear hi; go_wp2; have hm := HMs.out; rw [HE.out, List.drop_length] at hm; obtain rfl : st = s1 := Option.some.inj hm; have HS1 := Lib.hid HSt.out; have HB1 := Lib.hid HBt.out; have HZ1 := Lib.hid HSz.out; clear HSt HBt HSz hm HM HMs HK HI HE d1 d2
      go_loopg [4, 6, 7, 53] fuel (fun kq _ _ _ _ w' => ∃ st : St, Hid (loopF creds kq st = some s') ∧ Hid (SolverAt w' B (fun k => ok k ∨ w.heap.size ≤ k) g b (.slice A0 creds.length cc0) creds st.known st.waits) ∧ Hid (Below B w w') ∧ Hid (w.heap.size ≤ w'.heap.size))
      case atStart => exact ⟨st, Lib.hid HL.out, Lib.hid HS1.out, Lib.hid HB1.out, Lib.hid HZ1.out⟩
      case round =>
        clear HS1 HB1 HZ1 HL; obtain ⟨st, HLo, HSt, HBt, HSz⟩ := hrel; have hl := HLo.out; clear HLo
        cases gk with
        | zero => cases hl
        | succ k1 =>
          unfold loopF at hl; obtain ⟨kn, wts⟩ := st; obtain ⟨A, cc, hcc, hgw, hC⟩ := SolverAt.waits' HSt.out
          cases wts with
          | nil =>
            obtain rfl := Option.some.inj hl; clear hl; have g2 := (Qak hgw 2).trans (rfl : _ = some (Value.slice A 0 cc)); clear hgw hC; go_wp2; go_end0; exact ⟨rfl, HSt.out, HBt.out⟩
          | cons p ws =>
            simp only at hl; obtain ⟨st2, h1, h2⟩ := Option.bind_eq_some_iff.mp hl; have H1 := Lib.hid h1; have H2 := Lib.hid h2; clear hl h1 h2
            obtain ⟨n, hn⟩ : ∃ n, n = ws.length + 1 := ⟨_, rfl⟩
            have HN := Lib.hid hn; have d1 : decide ((0 : Int) < (n : Int)) = true := decide_eq_true (by omega); have d2 : decide (0 < n) = true := decide_eq_true (by omega); have g2 := (Qak hgw 2).trans (show _ = some (Value.slice A n cc) by rw [hn]; rfl); obtain ⟨ad, e, hx0, hx1, hx2⟩ := at_T102 hC (0 : Int) (by omega) (by simp); cases e; have p101 : ((0 : Int) ≤ 0) = True := eq_true (by omega); have q101 : ((0 : Int) < (n : Int)) = True := eq_true (by omega); have erd : Qbx (p :: ws) (0 : Int) = p := rfl; have had : ad.add ((0 : Int).toNat * 3) = ad := addr_zero ad; have r101 : (0 < n) = True := eq_true (by omega); rw [erd, had] at hx0 hx1 hx2; have HGW := Lib.hid hgw; clear hgw hC hn erd
            go_upto_region 8 with fail
            change Code.wp _ _ _ _ (wr.alloc (pairObj p)); have HX := Qai (Below.refl wr.heap.size wr) (pairObj p); have B4 := Qa1 wr (pairObj p); have gX := (HX.block g (Qbi HGW.out)).trans HGW.out; have HPop := Lib.hid (SolverAt.pop (SolverAt.bound HSt.out) HGW.out HX)
            have HXs : (wr.alloc (pairObj p)).heap.size = wr.heap.size + 1 := by simp
            clear hx0 hx1 hx2 g2 had
            generalize wr.alloc (pairObj p) = X at HX B4 gX HPop HXs ⊢
            have g2 := (Qak gX 2).trans (show _ = some (Value.slice (some ad) n cc) by rw [HN.out]; rfl); have f2 := blk_thaw gX 2; obtain ⟨i04, hi04, _, hsz4, _⟩ := info_parts infoPair; have hcut := cut_from (P := Tryz.prog) 101 102 .i64 Tryz.underlying101 hi04 3 hsz4 (some ad) n cc 1 (by omega) (by have := HN.out; omega); simp only [Int.toNat_one, Nat.one_mul] at hcut
            obtain ⟨A2, hA2⟩ : ∃ A2, A2 = (if cc = 1 then some ad else (some ad).map (·.add 3)) := ⟨_, rfl⟩
            obtain ⟨n2, hn2⟩ : ∃ n2, n2 = n - 1 := ⟨_, rfl⟩
            obtain ⟨cc2, hc2⟩ : ∃ cc2, cc2 = cc - 1 := ⟨_, rfl⟩
            rw [← hA2, ← hn2, ← hc2] at hcut; have HPop2 := Lib.hid (show SolverAt (X.setCell ⟨g, 2, none⟩ (.slice A2 n2 cc2)) B (fun k => (ok k ∨ w.heap.size ≤ k) ∧ k < wr.heap.size) g b (.slice A0 creds.length cc0) creds kn ws by rw [hn2, HN.out, Nat.add_sub_cancel, hA2, hc2]; exact HPop.out); clear hA2 hn2 hc2 HPop hi04 hsz4
            have hne4 : wr.heap.size ≠ g := by have := Qbi HGW.out; omega
            have B4z : (X.setCell ⟨g, 2, none⟩ (.slice A2 n2 cc2)).heap[wr.heap.size]? = some (pairObj p) := (Below.heap_setCell X ⟨g, 2, none⟩ (.slice A2 n2 cc2) _ hne4).trans B4
            have SZz : (X.setCell ⟨g, 2, none⟩ (.slice A2 n2 cc2)).heap.size = X.heap.size := by simp
            have hBg : B ≤ g := by obtain ⟨_, _, hh, _⟩ := HSt.out; exact hh.1
            have BZz := (HX.mono (by have := HSt.out.base; omega)).setCell (p := ⟨g, 2, none⟩) hBg (.slice A2 n2 cc2); have H4z := Lib.hid B4z; have HSZz := Lib.hid SZz; have HBZz := Lib.hid BZz; have HX2 := Lib.hid (show X.heap.size = wr.heap.size + 1 from HXs); clear hne4 B4z SZz hBg BZz
            go_upto_region 9 with fail
            change Code.wp _ _ _ _ (X.setCell ⟨g, 2, none⟩ (.slice A2 n2 cc2))
            generalize X.setCell ⟨g, 2, none⟩ (.slice A2 n2 cc2) = Z at H4z HSZz HBZz HPop2 ⊢
            have z0 := (SolverAt.cells HPop2.out).1; have HB' := Lib.hid (HX.size); clear B4 gX g2 f2 hcut HX HGW; go_wp2; have HSZ2 := Lib.hid (show Z.heap.size = wr.heap.size + 1 by have := HSZz.out; have := HX2.out; omega)
            obtain ⟨wO, hwO⟩ : ∃ x, x = wr := ⟨_, rfl⟩
            subst hwO
            go_loopg [6, 7, 53] (creds.length + 1) (fun kq _ _ v53 w' => ∃ (j : Nat) (st3 : St), v53 = .int .i64 j ∧ Hid (kq = creds.length + 1 - j) ∧ Hid (j ≤ creds.length) ∧ Hid (stepsF p (creds.drop j) st3 = some st2) ∧ Hid (SolverAt w' B (fun k => ((ok k ∨ w.heap.size ≤ k) ∧ k < wO.heap.size) ∨ Z.heap.size ≤ k) g b (.slice A0 creds.length cc0) creds st3.known st3.waits) ∧ Hid (Below B wO w') ∧ Hid (w'.heap[wO.heap.size]? = some (pairObj p)) ∧ Hid (Z.heap.size ≤ w'.heap.size))
            case atStart => exact ⟨0, ⟨kn, ws⟩, rfl, Lib.hid rfl, Lib.hid (Nat.zero_le _), Lib.hid H1.out, Lib.hid (HPop2.out.mono (fun _ h => .inl h)), Lib.hid HBZz.out, Lib.hid H4z.out, Lib.hid (Nat.le_refl _)⟩
            case round =>
              clear z0 HPop2 H4z HBZz; obtain ⟨j, st3, rfl, HK3, HJ, HM3, HS3, HB3, HP3, HZ3⟩ := hrel
              by_cases hj : j < creds.length
              · have d1 : decide ((j : Int) < (creds.length : Int)) = true := decide_eq_true (by omega)
                have d2 : decide (j < creds.length) = true := decide_eq_true hj; obtain ⟨ad3, e, hx0, hx1, hx2, hx3, hx4, hx5, hx6, hx7, hx8⟩ := at_T35 (SolverAt.creds' HS3.out).2 (j : Int) (by omega) (by omega); cases e
                obtain ⟨c, hc⟩ : ∃ c, c = creds[j] := ⟨_, rfl⟩
                have erd : Qae creds (j : Int) = c := by
                  unfold Qae; rw [hc, Int.toNat_natCast, List.getD_eq_getElem?_getD, List.getElem?_eq_getElem hj]; rfl
                rw [erd, Int.toNat_natCast] at hx0 hx1 hx2 hx3 hx4 hx5 hx6 hx7 hx8; have hm := HM3.out; rw [List.drop_eq_getElem_cons hj, ← hc] at hm; unfold stepsF at hm; obtain ⟨st4, h1j, h2j⟩ := Option.bind_eq_some_iff.mp hm; have H2j := Lib.hid h2j; have p101 : (0 ≤ (j : Int)) = True := eq_true (by omega); have q101 : ((j : Int) < (creds.length : Int)) = True := eq_true (by omega); have HJL := Lib.hid hj
                have wrapJ : wrap64 ((j : Int) + 1) = ((j + 1 : Nat) : Int) := by rw [wrap_id (by omega) (by have := HC.out; have := HJL.out; omega)]; rfl
                clear hj hc erd hm h2j
                go_upto_region 12 with fail
                change Code.wp _ _ _ _ (wr.alloc (credObj c)); have HX3 := Qai (Below.refl wr.heap.size wr) (credObj c); have B3 := Qa1 wr (credObj c); have B4x := Qam HP3.out (credObj c); clear hx0 hx1 hx2 hx3 hx4 hx5 hx6 hx7 hx8
                generalize wr.alloc (credObj c) = X3 at HX3 B3 B4x ⊢
                obtain ⟨c0, c1, c2, c3, c4, c5, c6, c7, c8⟩ := credCells B3; obtain ⟨p0, p1, p2⟩ := pairCells B4x; unfold stepF at h1j
                by_cases e1 : c.f2 = 1
                · rw [if_pos e1] at h1j
                  have b1 : (c.f2 == 1) = true := beq_iff_eq.mpr e1; obtain rfl := Option.some.inj h1j; clear e1 h1j; go_wp2
                  go_roundg (creds.length + 1 - (j + 1))
                  case measure => have := HK3.out; have := HJ.out; omega
                  case rel => exact ⟨j + 1, st3, by first | rfl | exact congrArg _ wrapJ, Lib.hid rfl, Lib.hid (by have := HJL.out; omega), Lib.hid H2j.out, Lib.hid (HS3.out.below HX3), Lib.hid (HB3.out.trans (HX3.mono (by have := HS3.out.base; omega))), Lib.hid B4x, Lib.hid (by have := HZ3.out; have := HX3.size; omega)⟩
                · rw [if_neg e1] at h1j
                  have b1 : (c.f2 == 1) = false := beq_eq_false_iff_ne.mpr e1
                  by_cases e3 : c.f2 = 3
                  · rw [if_pos e3] at h1j
                    have b3 : (c.f2 == 3) = true := beq_iff_eq.mpr e3; have H1j := Lib.hid h1j; clear e1 e3 h1j; have hS3 := SolverAt.bound (HS3.out.below HX3)
                    go_wp2_with (go_at_call 87; refine (link_calls X3 B g b _ _ creds st3 st4 c p hS3 (fun k h => h.2) H1j.out).mono ?_; rintro e w8 ⟨rfl, hS8, hB8, hK8⟩)
                    go_roundg (creds.length + 1 - (j + 1))
                    case measure => have := HK3.out; have := HJ.out; omega
                    case rel => exact ⟨j + 1, st4, by first | rfl | exact congrArg _ wrapJ, Lib.hid rfl, Lib.hid (by have := HJL.out; omega), Lib.hid H2j.out, Lib.hid (hS8.mono (fun k h => h.elim (fun h => h.1) (fun h => .inr (by have := HZ3.out; have := HX3.size; omega)))), Lib.hid ((HB3.out.trans (HX3.mono (by have := HS3.out.base; omega))).trans hB8), Lib.hid ((hK8 _ (Qbi B4x) (fun h => by have := HSZ2.out; rcases h.1 with h | h; (exact absurd h.2 (by omega)); omega)).trans B4x), Lib.hid (by have := HZ3.out; have := HX3.size; have := hB8.size; omega)⟩
                  · rw [if_neg e3] at h1j
                    have b3 : (c.f2 == 3) = false := beq_eq_false_iff_ne.mpr e3
                    by_cases e4 : c.f2 = 4
                    · rw [if_pos e4] at h1j
                      have b4 : (c.f2 == 4) = true := beq_iff_eq.mpr e4; have H1j := Lib.hid h1j; clear e1 e3 e4 h1j; have hS3 := SolverAt.bound (HS3.out.below HX3)
                      go_wp2_with (go_at_call 88; refine (both_calls X3 B g b _ _ creds st3 st4 c p hS3 H1j.out).mono ?_; rintro e w8 ⟨rfl, hS8, hB8, hK8⟩)
                      go_roundg (creds.length + 1 - (j + 1))
                      case measure => have := HK3.out; have := HJ.out; omega
                      case rel => exact ⟨j + 1, st4, by first | rfl | exact congrArg _ wrapJ, Lib.hid rfl, Lib.hid (by have := HJL.out; omega), Lib.hid H2j.out, Lib.hid (hS8.mono (fun k h => h.elim (fun h => h.1) (fun h => .inr (by have := HZ3.out; have := HX3.size; omega)))), Lib.hid ((HB3.out.trans (HX3.mono (by have := HS3.out.base; omega))).trans hB8), Lib.hid ((hK8 _ (Qbi B4x) (fun h => by have := HSZ2.out; rcases h.1 with h | h; (exact absurd h.2 (by omega)); omega)).trans B4x), Lib.hid (by have := HZ3.out; have := HX3.size; have := hB8.size; omega)⟩
                    · rw [if_neg e4] at h1j
                      have b4 : (c.f2 == 4) = false := beq_eq_false_iff_ne.mpr e4; have H1j := Lib.hid h1j; clear e1 e3 e4 h1j; have hS3 := SolverAt.bound (HS3.out.below HX3)
                      go_wp2_with (go_at_call 86; refine (include_calls X3 B g b _ _ creds st3 st4 c p hS3 H1j.out).mono ?_; rintro e w8 ⟨rfl, hS8, hB8, hK8⟩)
                      go_roundg (creds.length + 1 - (j + 1))
                      case measure => have := HK3.out; have := HJ.out; omega
                      case rel => exact ⟨j + 1, st4, by first | rfl | exact congrArg _ wrapJ, Lib.hid rfl, Lib.hid (by have := HJL.out; omega), Lib.hid H2j.out, Lib.hid (hS8.mono (fun k h => h.elim (fun h => h.1) (fun h => .inr (by have := HZ3.out; have := HX3.size; omega)))), Lib.hid ((HB3.out.trans (HX3.mono (by have := HS3.out.base; omega))).trans hB8), Lib.hid ((hK8 _ (Qbi B4x) (fun h => by have := HSZ2.out; rcases h.1 with h | h; (exact absurd h.2 (by omega)); omega)).trans B4x), Lib.hid (by have := HZ3.out; have := HX3.size; have := hB8.size; omega)⟩
              · have d1 : decide ((j : Int) < (creds.length : Int)) = false := decide_eq_false (by omega)
                have d2 : decide (j < creds.length) = false := decide_eq_false hj; have HE := Lib.hid (show j = creds.length by have := HJ.out; omega); clear hj; go_wp2; have hm := HM3.out; rw [HE.out, List.drop_length] at hm; obtain rfl : st3 = st2 := Option.some.inj hm
                go_roundg k1
                case measure => omega
                case rel => exact ⟨st3, Lib.hid H2.out, Lib.hid (HS3.out.mono (fun k h => h.elim (fun h => h.1) (fun h => .inr (by have := HSz.out; have := HSZ2.out; omega)))), Lib.hid (HBt.out.trans HB3.out), Lib.hid (by have := HSz.out; have := HSZ2.out; have := HZ3.out; omega)⟩

def Qb1.f (l0 : List (S35)) : Option (List (S102)) := (QbV.f l0).bind fun cs => if cs.length ≤ 1000000 then (runF 2000 cs).bind fun s => (if s.known.length ≤ 1000000 then some (sortPairs s.known) else none) else none
theorem solver_made {w w3 : World} {v : Value} {cs : List Cred} (hR : Kd.R kCred 35 w3 w.heap.size (fun _ => True) v cs) (hB : Below w.heap.size w w3) :
    SolverAt ((w3.alloc (.map #[] 0)).alloc (.cells #[v, .map (some w3.heap.size), .slice none 0 0] 114)) w.heap.size (fun _ => True) (w3.heap.size + 1) w3.heap.size v cs [] [] := by
  have h1 := Qai (Below.refl w3.heap.size w3) (.map #[] 0); have h2 := Qai h1 (.cells #[v, .map (some w3.heap.size), .slice none 0 0] 114); refine ⟨.slice none 0 0, ?_, ⟨by have := hB.size; omega, trivial⟩, ⟨hB.size, trivial⟩, Kd.Qa3 hR h2, ?_, Kd.Q_nil _ _ _ _ _⟩
  · have := Qa1 (w3.alloc (.map #[] 0)) (.cells #[v, .map (some w3.heap.size), .slice none 0 0] 114)
    simpa using this
  · exact (Tbl.made encPair okPair w3).below (Qai (Below.refl _ _) _)
set_option maxRecDepth 100000 in
set_option maxHeartbeats 4000000 in
theorem Qb1.calls (A0 : Option Addr) (c0 : Nat) (l0 : List (S35)) (r : List (S102)) (w : World) (hr0 : Kd.C k35 w A0 l0.length l0) (hc0 : l0.length ≤ c0) (h : Qb1.f l0 = some r) :
    Calls Tryz.prog 68 #[.slice A0 l0.length c0] w fun e w' => ∃ v0_ : Value, e = .returned (v0_) ∧ Kd.R k102 102 w' w.heap.size (fun _ => True) v0_ r ∧ Below w.heap.size w w' := by
  unfold Qb1.f at h; obtain ⟨cs, hcs, h⟩ := Option.bind_eq_some_iff.mp h
  by_cases hl : cs.length ≤ 1000000
  · rw [if_pos hl] at h
    obtain ⟨s, hs, h⟩ := Option.bind_eq_some_iff.mp h
    by_cases hk : s.known.length ≤ 1000000
    · rw [if_pos hk] at h
      obtain rfl := Option.some.inj h; have hct := QbV.calls A0 c0 l0 cs w hr0 hc0 hcs; have HC := Lib.hid hl; have HS := Lib.hid hs; have HK := Lib.hid hk
      have hmk := fun W => run_makeMap (P := Tryz.prog) 112 W
      clear hr0 hc0 h hl hs hk hcs; go_enter Tryz.func68, Tryz.ntmps68
      go_wp2_with (first | (go_at_call 75; refine hct.mono ?_; rintro e w3 ⟨v3, rfl, hR3, hB3⟩; obtain ⟨A3, c3, rfl⟩ := Kd.Qbd hR3) | (go_at_call 76; refine (run_calls _ w.heap.size (w3.heap.size + 1) w3.heap.size (fun _ => True) _ cs 2000 s (solver_made hR3 hB3) HC.out HS.out).mono ?_; rintro e w5 ⟨rfl, hS5, hB5⟩) | (go_at_call 77; refine (pairs_calls w5 w.heap.size (w3.heap.size + 1) w3.heap.size _ _ cs s hS5 HK.out).mono ?_; rintro e w6 ⟨v6, rfl, hR6, hB6⟩))
      go_ret; have hT := (hB3.trans ((Qai (Qai (Below.refl w3.heap.size w3) _) _).mono hB3.size)).trans hB5; exact ⟨v6, rfl, Kd.QbW hR6 hT.size, hT.trans (hB6.mono hT.size)⟩
    · rw [if_neg hk] at h
      cases h
  · rw [if_neg hl] at h
    cases h

def solve_Has.f (k : Nat) (l0 : List (S35)) (a1 : ByteArray) (a2_0 : ByteArray) (a2_1 : ByteArray) : Option (Bool) := (Qb1.f l0).bind fun t102 => ((QbC.f k t102 a2_0 a2_1 a1).bind fun t105 => (some t105))
set_option maxHeartbeats 8000000 in
set_option maxRecDepth 100000 in
theorem solve_Has.calls (k : Nat) (A0 : Option Addr) (c0 : Nat) (l0 : List (S35)) (a1 : ByteArray) (a2_0 : ByteArray) (a2_1 : ByteArray) (r : Bool) (w : World) (hr0 : Kd.C k35 w A0 l0.length l0) (hc0 : l0.length ≤ c0) (h : solve_Has.f k l0 a1 a2_0 a2_1 = some r) :
  Calls Tryz.prog 56 #[.slice A0 l0.length c0, .string a1, .agg #[.string a2_0, .string a2_1]] w fun e w' => e = .returned (.bool r) ∧ Below w.heap.size w w' := by
 have hu33 := Tryz.underlying33; have hu102 := Tryz.underlying102; have HR0 := Qaa.mk hr0; have HC0 := Qaa.mk hc0; clear hr0 hc0; have HB := Qaa.mk (Below.refl w.heap.size w); have H : ((Qb1.f l0).bind fun t102 => ((QbC.f k t102 a2_0 a2_1 a1).bind fun t105 => (some t105))) = some r := h; clear h; replace H := Option.bind_eq_some_iff.mp H; obtain ⟨t102, A40, H⟩ := H; replace H : ((QbC.f k t102 a2_0 a2_1 a1).bind fun t105 => (some t105)) = some r := H; have A4 := Qaa.mk A40; clear A40; replace H := Option.bind_eq_some_iff.mp H; obtain ⟨t105, A50, H⟩ := H; replace H : (some t105) = some r := H; have A5 := Qaa.mk A50; clear A50; obtain rfl := Option.some.inj H; go_enter Tryz.func56, Tryz.ntmps56
 try go_wp2_with (first | ((with_reducible refine QaA (N := 5) rfl ?_); refine Qax ?hg (N := 5) ?hd (cs := #[.string a2_0, .string a2_1]) (t := 33) ?hr ?_; (case hd => rfl); (case hg => rfl); (case hr => first | (go_simp; done) | (go_simp; rfl)); intro gb101 hg w6 hbox hb; have BK101 := Qaa.mk (hbox); have GW101 := (gz_ hg : Qaa (w.heap.size ≤ gb101)); have GE101 := (gz_ hg : Qaa (w.heap.size ≤ gb101)); replace HB := Qaa.mk (Qac bw_ hb); clear hb hbox hg))
 replace BK101 := Qaa.mk (Qan BK101.out); replace HB := Qaa.mk (Qau HB.out); refine Qbo (n := 7) (S := fun w' => cgl_ss w' gb101 a2_0 a2_1) (ds := []) #[ff,ff,ff,ff,ff,ff,ff] (by kernel_rfl) rfl rfl (cl_2 BK101.out) (fun hHeld => ?_)
 generalize w6.drew = w7 at BK101 HB hHeld ⊢
 refine kz 0 7 ?_; refine kz 3 10 ?_; refine kk2 2 9 ?_; refine kz 4 11 ?_; refine one_ (i := 1) (N := some 8) #[tt,tt,tt,tt,tt,ff,ff] rfl rfl (by kernel_rfl) (by decide) (fun K hK => ?_); refine goes_ Tryz.func68 (by kernel_rfl) rfl #[.slice A0 l0.length c0] (by rfl) rfl rfl (by (try simp only [List.map_toArray, List.map_cons, List.map_nil]); first | done | rfl | (simp only [List.length_drop, List.length_take]; rfl)) ?_
 with_reducible refine (Qb1.calls _ _ l0 t102 _ ?side1 ?side2 A4.out).mono ?_
 (case side1 => exact kd_ (Kd.Qa8 HR0.out HB.out))
 (case side2 => exact HC0.out)
 rintro e w8 ⟨v103, rfl, ho0, hb⟩; refine ⟨_, rfl, ?_⟩; have HO104 := Qaa.mk (Kd.QbW ho0 (QaI bw_)); replace BK101 := Qaa.mk (Qad (g := gb101) bk_ hb); replace HB := Qaa.mk (Qac bw_ hb)
 (try clear hb)
 (try clear hb2)
 (try clear hk)
 (try clear hi)
 (try clear ho0)
 obtain ⟨Ao9, co9, eo9⟩ := Kd.Qbd HO104.out
 (first | subst eo9 | (injection eo9 with f1_ f2_ f3_; have f4_ := f1_.symm; have f5_ := f3_.symm; clear f1_ f2_ f3_; subst f4_; subst f5_))
 refine hK.out _ _ (cl_2 BK101.out) (fun hHeld => ?_); clear hK K; refine norm_ (a' := ?_) ?_ ?_; rotate_left
 ·show Act.put _ (some 8) _ = _
  simp only [Act.put, put_, Qbe, Qbh]; rfl
 refine one_ (i := 5) (N := some 12) #[tt,tt,tt,tt,tt,tt,ff] rfl rfl (by kernel_rfl) (by decide) (fun K hK => ?_); refine goes_ Tryz.func67 (by kernel_rfl) rfl #[.slice Ao9 t102.length co9, .agg #[.string a2_0, .string a2_1, .string a1]] (by rfl) rfl rfl (by (try simp only [List.map_toArray, List.map_cons, List.map_nil]); first | done | rfl | (simp only [List.length_drop, List.length_take]; rfl)) ?_
 with_reducible refine (QbC.calls k _ _ t102 a2_0 a2_1 a1 t105 _ ?side1 ?side2 A5.out).mono ?_
 (case side1 => exact kd_ ((Kd.QaW HO104.out).2.2))
 (case side2 => exact (Kd.QaW HO104.out).2.1)
 rintro e w10 ⟨rfl, hb⟩; refine ⟨_, rfl, ?_⟩; replace HO104 := Qaa.mk (Kd.Qa3 (ro_ HO104) hb); replace BK101 := Qaa.mk (Qad (g := gb101) bk_ hb); replace HB := Qaa.mk (Qac bw_ hb)
 (try clear hb)
 (try clear hb2)
 (try clear hk)
 (try clear hi)
 refine hK.out _ _ (cl_2 BK101.out) (fun hHeld => ?_); clear hK K; refine norm_ (a' := ?_) ?_ ?_; rotate_left
 ·show Act.put _ (some 12) _ = _
  simp only [Act.put, put_, Qbe, Qbh]; rfl
 refine kz 6 6 ?_; refine QbS (by kernel_rfl) ?_
 try go_wp2
 go_ret; exact ⟨by first | rfl | (simp [Qap, Qao] <;> rfl) | (simp [*, Qap, Qao] <;> rfl), bw_⟩
end
section
attribute [local go_sem] QaE QaC QaS QaR Qaw Qav QaD QaB
attribute [local go_sem high] eqA33
def Qbb.l0 : Nat → List (S33) → Int → Int → ByteArray → ByteArray → Option (Int)
 | 0, _, _, _, _, _ => none
 | k + 1, x0, x7, x8, x102000, x102001 => if x8 < x7 then (if 0 ≤ x8 then (if x8 < (x0.length : Int) then (if (x102000.toList == (((Qa7 x0 x8).f0).toList) && (x102001.toList == (((Qa7 x0 x8).f1).toList))) = true then (some x8) else (Qbb.l0 k x0 x7 (wrap64 (x8 + 1)) x102000 x102001)) else (none)) else (none)) else (some (-1))
def Qbb.f (k : Nat) (l0 : List (S33)) (a1_0 : ByteArray) (a1_1 : ByteArray) : Option (Int) := Qbb.l0 k l0 (l0.length : Int) 0 a1_0 a1_1
set_option maxHeartbeats 8000000 in
set_option maxRecDepth 100000 in
theorem Qbb.calls (k : Nat) (A0 : Option Addr) (c0 : Nat) (l0 : List (S33)) (a1_0 : ByteArray) (a1_1 : ByteArray) (r : Int) (w : World) (hr0 : Kd.C k33 w A0 l0.length l0) (hc0 : l0.length ≤ c0) (h : Qbb.f k l0 a1_0 a1_1 = some r) :
  Calls Tryz.prog 59 #[.slice A0 l0.length c0, .agg #[.string a1_0, .string a1_1]] w fun e w' => e = .returned (.int .i64 r) ∧ Below w.heap.size w w' := by
 have hu33 := Tryz.underlying33; have HR0 := Qaa.mk hr0; have HC0 := Qaa.mk hc0; clear hr0 hc0; have HB := Qaa.mk (Below.refl w.heap.size w); have H : (Qbb.l0 k l0 (l0.length : Int) 0 a1_0 a1_1) = some r := h; clear h; have H' := Qaa.mk H; clear H; go_enter Tryz.func59, Tryz.ntmps59
 go_wp2_with (first | ((with_reducible refine QaA (N := 3) rfl ?_); refine Qax ?hg (N := 3) ?hd (cs := #[.string a1_0, .string a1_1]) (t := 33) ?hr ?_; (case hd => rfl); (case hg => rfl); (case hr => first | (go_simp; done) | (go_simp; rfl)); intro gb101 hg w3 hbox hb; have BK101 := Qaa.mk (hbox); have GW101 := (gz_ hg : Qaa (w.heap.size ≤ gb101)); have GE101 := (gz_ hg : Qaa (w.heap.size ≤ gb101)); replace HB := Qaa.mk (Qac bw_ hb); clear hb hbox hg))
 repeat (go_quiet (first | ((with_reducible refine QaA (N := 3) rfl ?_); refine Qax ?hg (N := 3) ?hd (cs := #[.string a1_0, .string a1_1]) (t := 33) ?hr ?_; (case hd => rfl); (case hg => rfl); (case hr => first | (go_simp; done) | (go_simp; rfl)); intro gb101 hg w3 hbox hb; have BK101 := Qaa.mk (hbox); have GW101 := (gz_ hg : Qaa (w.heap.size ≤ gb101)); have GE101 := (gz_ hg : Qaa (w.heap.size ≤ gb101)); replace HB := Qaa.mk (Qac bw_ hb); clear hb hbox hg)); try go_wp2_with (first | ((with_reducible refine QaA (N := 3) rfl ?_); refine Qax ?hg (N := 3) ?hd (cs := #[.string a1_0, .string a1_1]) (t := 33) ?hr ?_; (case hd => rfl); (case hg => rfl); (case hr => first | (go_simp; done) | (go_simp; rfl)); intro gb101 hg w3 hbox hb; have BK101 := Qaa.mk (hbox); have GW101 := (gz_ hg : Qaa (w.heap.size ≤ gb101)); have GE101 := (gz_ hg : Qaa (w.heap.size ≤ gb101)); replace HB := Qaa.mk (Qac bw_ hb); clear hb hbox hg)))
 go_loopg [8] k (fun kq v8 w' => ∃ (x8_1 : Int), v8 = .int .i64 x8_1 ∧ Qaa (Qbb.l0 kq l0 (l0.length : Int) x8_1 a1_0 a1_1 = some r) ∧ Qaa (kq ≤ k) ∧ Qaa (w'.heap[gb101]? = some (.cells #[.string a1_0, .string a1_1] 33 (0, 0))) ∧ Qaa (Below w.heap.size w w'))
 case atStart => exact ⟨(0), (by first | rfl | (simp; done) | (simp [*]; done)), H', ⟨Nat.le_refl _⟩, ⟨by (with_reducible repeat (first | refine Qat ?_ _ | refine Qan ?_ | refine Qam ?_ _)); exact BK101.out⟩, ⟨bw_⟩⟩
 case round =>
  clear H'; (try clear p2); obtain ⟨x8_1, rfl, HA, HK1, BK101, HB⟩ := hrel
  cases gk with
  | zero => exact absurd HA.out (by simp [Qbb.l0])
  | succ k1 =>
   have H := HA.out; clear HA; simp only [Qbb.l0] at H
   by_cases c4 : x8_1 < (l0.length : Int)
   ·rw [if_pos c4] at H; have c4b0 : decide (x8_1 < (l0.length : Int)) = true := decide_eq_true c4; clear c4
    by_cases c5 : 0 ≤ x8_1
    ·rw [if_pos c5] at H; have c5b0 : decide (0 ≤ x8_1) = true := decide_eq_true c5; clear c5
     by_cases c6 : x8_1 < (l0.length : Int)
     ·rw [if_pos c6] at H; have c6b0 : decide (x8_1 < (l0.length : Int)) = true := decide_eq_true c6; clear c6
      by_cases c7 : (a1_0.toList == (((Qa7 l0 x8_1).f0).toList) && (a1_1.toList == (((Qa7 l0 x8_1).f1).toList))) = true
      ·rw [if_pos c7] at H; have c7b0 : (a1_0.toList == (((Qa7 l0 x8_1).f0).toList) && (a1_1.toList == (((Qa7 l0 x8_1).f1).toList))) = true := c7
       (try (have c7b1 : decide (a1_0.toList = (((Qa7 l0 x8_1).f0).toList) && (a1_1.toList == (((Qa7 l0 x8_1).f1).toList))) = true := by simpa using c7))
       (try (have c7b2 : (a1_0.toList == (((Qa7 l0 x8_1).f0).toList) && (a1_1.toList == (((Qa7 l0 x8_1).f1).toList))) = true := by simpa using c7))
       clear c7; obtain rfl := Option.some.inj H; have c8_0 : wr.cell? ⟨gb101, 0, none⟩ = some (.string a1_0) := (Qak BK101.out 0).trans rfl; have c8_1 : wr.cell? ⟨gb101, 1, none⟩ = some (.string a1_1) := (Qak BK101.out 1).trans rfl; obtain ⟨f8_0, f8_1⟩ := fz_2 BK101.out; have p102 : 0 ≤ (x8_1 : Int) := dd_; have q102 : x8_1 < (l0.length : Int) := dd_; obtain ⟨ad102, e102, hx102_0, hx102_1⟩ := at_T33 HR0.out x8_1 p102 q102; cases e102; replace hx102_0 := cb_ HB hx102_0; replace hx102_1 := cb_ HB hx102_1; replace p102 := eq_true p102; replace q102 := eq_true q102; go_wp2
       repeat (go_quiet (fail); try go_wp2)
       go_ret; exact ⟨by first | rfl | (simp [Qap, Qao] <;> rfl) | (simp [*, Qap, Qao] <;> rfl), bw_⟩
      ·rw [if_neg c7] at H
       have c7b0 : (a1_0.toList == (((Qa7 l0 x8_1).f0).toList) && (a1_1.toList == (((Qa7 l0 x8_1).f1).toList))) = false := by simpa using c7
       (try (have c7b1 : decide (a1_0.toList = (((Qa7 l0 x8_1).f0).toList) && (a1_1.toList == (((Qa7 l0 x8_1).f1).toList))) = false := by simpa using c7))
       (try (have c7b2 : (a1_0.toList == (((Qa7 l0 x8_1).f0).toList) && (a1_1.toList == (((Qa7 l0 x8_1).f1).toList))) = false := by simpa using c7))
       (try (have c7b3 : ¬ (a1_0.toList = (((Qa7 l0 x8_1).f0).toList) && (a1_1.toList == (((Qa7 l0 x8_1).f1).toList))) := by simpa using c7))
       clear c7; have H' := Qaa.mk H; clear H; have c9_0 : wr.cell? ⟨gb101, 0, none⟩ = some (.string a1_0) := (Qak BK101.out 0).trans rfl; have c9_1 : wr.cell? ⟨gb101, 1, none⟩ = some (.string a1_1) := (Qak BK101.out 1).trans rfl; obtain ⟨f9_0, f9_1⟩ := fz_2 BK101.out; have p102 : 0 ≤ (x8_1 : Int) := dd_; have q102 : x8_1 < (l0.length : Int) := dd_; obtain ⟨ad102, e102, hx102_0, hx102_1⟩ := at_T33 HR0.out x8_1 p102 q102; cases e102; replace hx102_0 := cb_ HB hx102_0; replace hx102_1 := cb_ HB hx102_1; replace p102 := eq_true p102; replace q102 := eq_true q102; go_wp2
       repeat (go_quiet (fail); try go_wp2)
       go_roundg k1
       case measure => have := HK1.out; omega
       case rel => exact ⟨(wrap64 (x8_1 + 1)), (by first | rfl | (simp; done) | (simp [*]; done)), H', ⟨by have := HK1.out; omega⟩, ⟨by (with_reducible repeat (first | refine Qat ?_ _ | refine Qan ?_ | refine Qam ?_ _)); exact BK101.out⟩, ⟨bw_⟩⟩
     ·rw [if_neg c6] at H; exact absurd H (by simp)
    ·rw [if_neg c5] at H; exact absurd H (by simp)
   ·rw [if_neg c4] at H; have c4b0 : decide (x8_1 < (l0.length : Int)) = false := decide_eq_false c4; clear c4; obtain rfl := Option.some.inj H; go_wp2
    repeat (go_quiet (fail); try go_wp2)
    go_ret; exact ⟨by first | rfl | (simp [Qap, Qao] <;> rfl) | (simp [*, Qap, Qao] <;> rfl), bw_⟩
end
section
attribute [local go_sem] QaE QaC QaS QaR Qaw Qav QaD QaB
def api_Role_40.f (k : Nat) (l0 : List (S33)) (a1_0 : ByteArray) (a1_1 : ByteArray) : Option (Bool) := (Qbb.f k l0 a1_0 a1_1).bind fun t102 => (some (decide (t102 ≥ 0)))
set_option maxHeartbeats 8000000 in
set_option maxRecDepth 100000 in
theorem api_Role_40.calls (k : Nat) (A0 : Option Addr) (c0 : Nat) (l0 : List (S33)) (a1_0 : ByteArray) (a1_1 : ByteArray) (r : Bool) (w : World) (hr0 : Kd.C k33 w A0 l0.length l0) (hc0 : l0.length ≤ c0) (h : api_Role_40.f k l0 a1_0 a1_1 = some r) :
  Calls Tryz.prog 40 #[.slice A0 l0.length c0, .agg #[.string a1_0, .string a1_1]] w fun e w' => e = .returned (.bool r) ∧ Below w.heap.size w w' := by
 have hu33 := Tryz.underlying33; have HR0 := Qaa.mk hr0; have HC0 := Qaa.mk hc0; clear hr0 hc0; have HB := Qaa.mk (Below.refl w.heap.size w); have H : ((Qbb.f k l0 a1_0 a1_1).bind fun t102 => (some (decide (t102 ≥ 0)))) = some r := h; clear h; replace H := Option.bind_eq_some_iff.mp H; obtain ⟨t102, A30, H⟩ := H; replace H : (some (decide (t102 ≥ 0))) = some r := H; have A3 := Qaa.mk A30; clear A30; obtain rfl := Option.some.inj H; go_enter Tryz.func40, Tryz.ntmps40
 go_wp2_with (first | ((with_reducible refine QaA (N := 3) rfl ?_); refine Qax ?hg (N := 3) ?hd (cs := #[.string a1_0, .string a1_1]) (t := 33) ?hr ?_; (case hd => rfl); (case hg => rfl); (case hr => first | (go_simp; done) | (go_simp; rfl)); intro gb101 hg w4 hbox hb; have BK101 := Qaa.mk (hbox); have GW101 := (gz_ hg : Qaa (w.heap.size ≤ gb101)); have GE101 := (gz_ hg : Qaa (w.heap.size ≤ gb101)); replace HB := Qaa.mk (Qac bw_ hb); clear hb hbox hg; obtain ⟨c5_0, c5_1⟩ := cz_ss BK101.out; obtain ⟨f5_0, f5_1⟩ := fz_2 BK101.out) | ((with_reducible refine QaT (f := 59) rfl ?_); refine gL 7 Tryz.func59 #[.slice A0 l0.length c0, .agg #[.string a1_0, .string a1_1]] ?_; (with_reducible refine (Qbb.calls k _ _ l0 a1_0 a1_1 t102 _ ?side1 ?side2 A3.out).mono ?_); (case side1 => exact kd_ (Kd.Qa8 HR0.out HB.out)); (case side2 => exact HC0.out); rintro e w6 ⟨rfl, hb⟩; refine ⟨_, rfl, ?_⟩; replace BK101 := Qaa.mk (Qad (g := gb101) bk_ hb); replace HB := Qaa.mk (Qac bw_ hb); (try clear hb); (try clear hb2); (try clear hk); (try clear hi)))
 go_ret; exact ⟨by first | rfl | (simp [Qap, Qao] <;> rfl) | (simp [*, Qap, Qao] <;> rfl), bw_⟩
end
end Go.Proofs.YtbjjonpkmplhbaaGreatDoor.Pr
end
