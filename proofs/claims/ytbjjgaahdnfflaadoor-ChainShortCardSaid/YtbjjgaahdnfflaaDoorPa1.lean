/- The proof's own texts, joined: part 1. No conditions. -/
import Derived.Laws.StructEq
import Derived.Below
import Derived.Deep.Draws
import Derived.Deep.AppendLies
import Derived.Maps.AppendAt
import Derived.OwnWalk
import Derived.Laws.BytesArg
import Derived.Laws.MakeOwn
import Derived.Laws.OwnMore
import Derived.Deep.OwnRows
import Derived.Tactics
import Derived.Lib.ConvBytes
import Derived.Laws.Slices
import Derived.WalkKit
import Derived.KernelRfl
import Derived.RowKit3
import Derived.Deep.LoopGhost
import Derived.Deep.QuietTactic
import Derived.BigQuiet
import Derived.WideLaws
import Derived.Deep.DeepCutAuto
import Derived.Deep.CutBlock
import Derived.Deep.RegionHeld3
import Derived.Laws.Rows
import Derived.Lib.AppendStr
import Derived.ArgAppend
import Derived.Laws.IdiomCopy
import Derived.RowKit
import Derived.OrdersHeld
import Derived.Laws.BitsLemmas
import Derived.Test.YtbjjgaahdnfflaaDoorProg
import Derived.Maps.OwnSet
import Derived.Maps.RangeRun
import Derived.Maps.Range
import Derived.Carry
import Derived.DeepKeys4
import Derived.WalkSpells
import Derived.WalkLawsBesides
import Derived.Lib.Hide
import Derived.Outline
import Derived.Shelf.GgSortFunc.InsertionK
import Derived.Shelf.SlicesG.Cmp
import Derived.Ground.SlgcProg
import Derived.StillTailTactics
import Derived.Sort.Grow
import Derived.Lib.SlicesS
import Derived.Deep.RegionWith
import Derived.RegionTactic
import Derived.ChangeAlike
import Derived.Deep.RegionLaw
import Derived.Lib.SmallJoins
import Derived.Shelf.SlSortCmp.WholeK
import Derived.Shelf.SlSortCmp.NoneTotal
import Derived.Shelf.SlicesE.Clone
import Derived.Ground.SlsfProg
import Derived.Ground.SlgnProg
import Derived.Laws.RangeAny
import Derived.Laws.Closers25
import Derived.Test.YtbjjgaahdnfflaaDoorPa0
section
namespace Go.Proofs.YtbjjgaahdnfflaaDoor.Pr
open Go.RowKit Go.Proofs.YtbjjgaahdnfflaaDoorW.PrintWords Go.Proofs.YtbjjgaahdnfflaaDoorW.PrintLast Go.Proofs.YtbjjgaahdnfflaaDoorW.PrintMore
attribute [local go_sem] max2_int min2_int max_two min_two max_three min_three max_four min_four
set_option linter.unusedVariables false
set_option linter.unusedSimpArgs false
theorem cz_ii {W : World} {k : Nat} {t : TypeId} {a0 : Int} {a1 : Int} (h : W.heap[k]? = some (.cells #[.int .i64 a0, .int .i64 a1] t (0, 0))) : W.cell? ⟨k, 0, none⟩ = some (.int .i64 a0) ∧ W.cell? ⟨k, 1, none⟩ = some (.int .i64 a1) :=
  ⟨(Qai h 0).trans rfl, (Qai h 1).trans rfl⟩
theorem cz_iisisssss {W : World} {k : Nat} {t : TypeId} {a0 : Int} {a1 : Int} {a2 : ByteArray} {a3 : Int} {a4 : ByteArray} {a5 : ByteArray} {a6 : ByteArray} {a7 : ByteArray} {a8 : ByteArray} (h : W.heap[k]? = some (.cells #[.int .i64 a0, .int .i64 a1, .string a2, .int .i64 a3, .string a4, .string a5, .string a6, .string a7, .string a8] t (0, 0))) : W.cell? ⟨k, 0, none⟩ = some (.int .i64 a0) ∧ W.cell? ⟨k, 1, none⟩ = some (.int .i64 a1) ∧ W.cell? ⟨k, 2, none⟩ = some (.string a2) ∧ W.cell? ⟨k, 3, none⟩ = some (.int .i64 a3) ∧ W.cell? ⟨k, 4, none⟩ = some (.string a4) ∧ W.cell? ⟨k, 5, none⟩ = some (.string a5) ∧ W.cell? ⟨k, 6, none⟩ = some (.string a6) ∧ W.cell? ⟨k, 7, none⟩ = some (.string a7) ∧ W.cell? ⟨k, 8, none⟩ = some (.string a8) :=
  ⟨(Qai h 0).trans rfl, (Qai h 1).trans rfl, (Qai h 2).trans rfl, (Qai h 3).trans rfl, (Qai h 4).trans rfl, (Qai h 5).trans rfl, (Qai h 6).trans rfl, (Qai h 7).trans rfl, (Qai h 8).trans rfl⟩
theorem cz_ss {W : World} {k : Nat} {t : TypeId} {a0 : ByteArray} {a1 : ByteArray} (h : W.heap[k]? = some (.cells #[.string a0, .string a1] t (0, 0))) : W.cell? ⟨k, 0, none⟩ = some (.string a0) ∧ W.cell? ⟨k, 1, none⟩ = some (.string a1) :=
  ⟨(Qai h 0).trans rfl, (Qai h 1).trans rfl⟩
theorem cz_sssiiv {W : World} {k : Nat} {t : TypeId} {a0 : ByteArray} {a1 : ByteArray} {a2 : ByteArray} {a3 : Int} {a4 : Int} {a5 : Value} (h : W.heap[k]? = some (.cells #[.string a0, .string a1, .string a2, .int .i64 a3, .int .i64 a4, a5] t (0, 0))) : W.cell? ⟨k, 0, none⟩ = some (.string a0) ∧ W.cell? ⟨k, 1, none⟩ = some (.string a1) ∧ W.cell? ⟨k, 2, none⟩ = some (.string a2) ∧ W.cell? ⟨k, 3, none⟩ = some (.int .i64 a3) ∧ W.cell? ⟨k, 4, none⟩ = some (.int .i64 a4) ∧ W.cell? ⟨k, 5, none⟩ = some (a5) :=
  ⟨(Qai h 0).trans rfl, (Qai h 1).trans rfl, (Qai h 2).trans rfl, (Qai h 3).trans rfl, (Qai h 4).trans rfl, (Qai h 5).trans rfl⟩
theorem fz_2 {W : World} {k : Nat} {cs : Array Value} {t : TypeId} (h : W.heap[k]? = some (.cells cs t (0, 0))) : W.frozen? ⟨k, 0, none⟩ = false ∧ W.frozen? ⟨k, 1, none⟩ = false :=
  ⟨Qal h 0, Qal h 1⟩
theorem fz_6 {W : World} {k : Nat} {cs : Array Value} {t : TypeId} (h : W.heap[k]? = some (.cells cs t (0, 0))) : W.frozen? ⟨k, 0, none⟩ = false ∧ W.frozen? ⟨k, 1, none⟩ = false ∧ W.frozen? ⟨k, 2, none⟩ = false ∧ W.frozen? ⟨k, 3, none⟩ = false ∧ W.frozen? ⟨k, 4, none⟩ = false ∧ W.frozen? ⟨k, 5, none⟩ = false :=
  ⟨Qal h 0, Qal h 1, Qal h 2, Qal h 3, Qal h 4, Qal h 5⟩
theorem fz_9 {W : World} {k : Nat} {cs : Array Value} {t : TypeId} (h : W.heap[k]? = some (.cells cs t (0, 0))) : W.frozen? ⟨k, 0, none⟩ = false ∧ W.frozen? ⟨k, 1, none⟩ = false ∧ W.frozen? ⟨k, 2, none⟩ = false ∧ W.frozen? ⟨k, 3, none⟩ = false ∧ W.frozen? ⟨k, 4, none⟩ = false ∧ W.frozen? ⟨k, 5, none⟩ = false ∧ W.frozen? ⟨k, 6, none⟩ = false ∧ W.frozen? ⟨k, 7, none⟩ = false ∧ W.frozen? ⟨k, 8, none⟩ = false :=
  ⟨Qal h 0, Qal h 1, Qal h 2, Qal h 3, Qal h 4, Qal h 5, Qal h 6, Qal h 7, Qal h 8⟩
abbrev ob_ii (a0 : Int) (a1 : Int) (t : TypeId) : Obj := .cells #[.int .i64 a0, .int .i64 a1] t (0, 0)
abbrev Qaw (a0 : Int) (a1 : Int) (a2 : ByteArray) (a3 : Int) (a4 : ByteArray) (a5 : ByteArray) (a6 : ByteArray) (a7 : ByteArray) (a8 : ByteArray) (t : TypeId) : Obj := .cells #[.int .i64 a0, .int .i64 a1, .string a2, .int .i64 a3, .string a4, .string a5, .string a6, .string a7, .string a8] t (0, 0)
abbrev ob_ss (a0 : ByteArray) (a1 : ByteArray) (t : TypeId) : Obj := .cells #[.string a0, .string a1] t (0, 0)
abbrev ob_sssiiv (a0 : ByteArray) (a1 : ByteArray) (a2 : ByteArray) (a3 : Int) (a4 : Int) (a5 : Value) (t : TypeId) : Obj := .cells #[.string a0, .string a1, .string a2, .int .i64 a3, .int .i64 a4, a5] t (0, 0)
theorem put_ {α : Type} : (∀ (xs : List α) (i : Nat) (v : α), xs.toArray.setIfInBounds i v = (xs.set i v).toArray) ∧ (∀ (x v : α) (xs : List α), (x :: xs).set 0 v = v :: xs) ∧ ∀ (x v : α) (xs : List α) (i : Nat), (x :: xs).set (i + 1) v = x :: xs.set i v :=
  ⟨fun xs i v => List.setIfInBounds_toArray .., fun x v xs => List.set_cons_zero .., fun x v xs i => List.set_cons_succ ..⟩
abbrev tt := true
abbrev ff := false
def errW : Option Int → Value
  | none => .nilIface
  | some c => .iface 0 (.int .i64 c)
theorem Qau : errW none = .nilIface := rfl
theorem Qat (c : Int) : errW (some c) = .iface 0 (.int .i64 c) := rfl
theorem info42 : (Tryd.prog.info? 42).map (fun i => (i.zero, i.size, i.bytes)) = some (some (.agg #[(.int .i64 0), (.int .i64 0), (.string ⟨#[]⟩), (.int .i64 0), (.string ⟨#[]⟩), (.string ⟨#[]⟩), (.string ⟨#[]⟩), (.string ⟨#[]⟩), (.string ⟨#[]⟩)]), 9, 120) := by kernel_rfl
structure S26 where
  f0 : Int
  f1 : Int
def z26 : S26 := ⟨(0 : Int), (0 : Int)⟩
def k26 : Kd S26 := Kd.iso (Kd.pair (Kd.int .i64) (Kd.int .i64)) (fun x : S26 => (x.f0, x.f1))
theorem k26_heap : Kd.Heap k26 := Kd.heap_iso _ (Kd.heap_pair (Kd.heap_int .i64) (Kd.heap_int .i64))
theorem k26_open {w : World} {x : S26} {cs : List Value} (h : k26.K w x cs) : cs = [.int .i64 x.f0, .int .i64 x.f1] := by
  obtain ⟨_, _, rfl, rfl, rfl⟩ := h; exact rfl
theorem k26_openM {w : World} {base : Nat} {ok : Nat → Prop} {x : S26} {cs : List Value} (h : k26.M w base ok x cs) : cs = [.int .i64 x.f0, .int .i64 x.f1] := by
  obtain ⟨_, _, rfl, rfl, rfl⟩ := h; exact rfl
theorem k26_mk (w : World) (x : S26)  : k26.K w x [.int .i64 x.f0, .int .i64 x.f1] := ⟨[.int .i64 x.f0], [.int .i64 x.f1], rfl, rfl, rfl⟩
theorem k26_mkM (w : World) (base : Nat) (ok : Nat → Prop) (x : S26)  : k26.M w base ok x [.int .i64 x.f0, .int .i64 x.f1] := ⟨[.int .i64 x.f0], [.int .i64 x.f1], rfl, rfl, rfl⟩
structure S24 where
  f0 : ByteArray
  f1 : ByteArray
def z24 : S24 := ⟨(⟨#[]⟩ : ByteArray), (⟨#[]⟩ : ByteArray)⟩
def k24 : Kd S24 := Kd.iso (Kd.pair Kd.string Kd.string) (fun x : S24 => (x.f0, x.f1))
theorem k24_heap : Kd.Heap k24 := Kd.heap_iso _ (Kd.heap_pair Kd.heap_string Kd.heap_string)
theorem k24_open {w : World} {x : S24} {cs : List Value} (h : k24.K w x cs) : cs = [.string x.f0, .string x.f1] := by
  obtain ⟨_, _, rfl, rfl, rfl⟩ := h; exact rfl
theorem k24_openM {w : World} {base : Nat} {ok : Nat → Prop} {x : S24} {cs : List Value} (h : k24.M w base ok x cs) : cs = [.string x.f0, .string x.f1] := by
  obtain ⟨_, _, rfl, rfl, rfl⟩ := h; exact rfl
theorem k24_mk (w : World) (x : S24)  : k24.K w x [.string x.f0, .string x.f1] := ⟨[.string x.f0], [.string x.f1], rfl, rfl, rfl⟩
theorem k24_mkM (w : World) (base : Nat) (ok : Nat → Prop) (x : S24)  : k24.M w base ok x [.string x.f0, .string x.f1] := ⟨[.string x.f0], [.string x.f1], rfl, rfl, rfl⟩
def rd_T24 (xs : List S24) (i : Int) : S24 := xs.getD i.toNat z24
theorem at_T24 {w : World} {A : Option Addr} {n : Nat} {xs : List S24} (h : Kd.C k24 w A n xs) (i : Int) (h0 : 0 ≤ i) (h1 : i < n) : ∃ ad , A = some ad ∧ w.cell? (ad.add (i.toNat * 2)) = some (.string (rd_T24 xs i).f0) ∧ w.cell? ⟨(ad.add (i.toNat * 2)).block, (ad.add (i.toNat * 2)).off + 1, none⟩ = some (.string (rd_T24 xs i).f1) := by
  obtain ⟨ad, c, e, _, hK, hc0⟩ := Kd.C_get h z24 i h0 h1; have hc : ∀ j u, c[j]? = some u → w.cell? (ad.add (i.toNat * 2 + j)) = some u := hc0; obtain rfl := k24_open hK; exact ⟨ad, e, hc 0 _ rfl, by rw [← add_field _ _ 1 (by omega)]; exact hc 1 _ rfl⟩
structure S42 where
  f0 : S26
  f1 : ByteArray
  f2 : Int
  f3 : ByteArray
  f4 : S24
  f5 : S24
def z42 : S42 := ⟨z26, (⟨#[]⟩ : ByteArray), (0 : Int), (⟨#[]⟩ : ByteArray), z24, z24⟩
def k42 : Kd S42 := Kd.iso (Kd.pair k26 (Kd.pair Kd.string (Kd.pair (Kd.int .i64) (Kd.pair Kd.string (Kd.pair k24 k24))))) (fun x : S42 => (x.f0, x.f1, x.f2, x.f3, x.f4, x.f5))
theorem k42_heap : Kd.Heap k42 := Kd.heap_iso _ (Kd.heap_pair k26_heap (Kd.heap_pair Kd.heap_string (Kd.heap_pair (Kd.heap_int .i64) (Kd.heap_pair Kd.heap_string (Kd.heap_pair k24_heap k24_heap)))))
theorem k42_open {w : World} {x : S42} {cs : List Value} (h : k42.K w x cs) : cs = [.int .i64 x.f0.f0, .int .i64 x.f0.f1, .string x.f1, .int .i64 x.f2, .string x.f3, .string x.f4.f0, .string x.f4.f1, .string x.f5.f0, .string x.f5.f1] := by
  obtain ⟨_, _, rfl, s0, ⟨_, _, rfl, rfl, ⟨_, _, rfl, rfl, ⟨_, _, rfl, rfl, ⟨_, _, rfl, s5, s7⟩⟩⟩⟩⟩ := h; obtain rfl := k26_open s0; obtain rfl := k24_open s5; obtain rfl := k24_open s7; exact rfl
theorem k42_openM {w : World} {base : Nat} {ok : Nat → Prop} {x : S42} {cs : List Value} (h : k42.M w base ok x cs) : cs = [.int .i64 x.f0.f0, .int .i64 x.f0.f1, .string x.f1, .int .i64 x.f2, .string x.f3, .string x.f4.f0, .string x.f4.f1, .string x.f5.f0, .string x.f5.f1] := by
  obtain ⟨_, _, rfl, s0, ⟨_, _, rfl, rfl, ⟨_, _, rfl, rfl, ⟨_, _, rfl, rfl, ⟨_, _, rfl, s5, s7⟩⟩⟩⟩⟩ := h; obtain rfl := k26_openM s0; obtain rfl := k24_openM s5; obtain rfl := k24_openM s7; exact rfl
theorem k42_mk (w : World) (x : S42)  : k42.K w x [.int .i64 x.f0.f0, .int .i64 x.f0.f1, .string x.f1, .int .i64 x.f2, .string x.f3, .string x.f4.f0, .string x.f4.f1, .string x.f5.f0, .string x.f5.f1] := ⟨[.int .i64 x.f0.f0, .int .i64 x.f0.f1], [.string x.f1, .int .i64 x.f2, .string x.f3, .string x.f4.f0, .string x.f4.f1, .string x.f5.f0, .string x.f5.f1], rfl, (k26_mk w x.f0 ), ⟨[.string x.f1], [.int .i64 x.f2, .string x.f3, .string x.f4.f0, .string x.f4.f1, .string x.f5.f0, .string x.f5.f1], rfl, rfl, ⟨[.int .i64 x.f2], [.string x.f3, .string x.f4.f0, .string x.f4.f1, .string x.f5.f0, .string x.f5.f1], rfl, rfl, ⟨[.string x.f3], [.string x.f4.f0, .string x.f4.f1, .string x.f5.f0, .string x.f5.f1], rfl, rfl, ⟨[.string x.f4.f0, .string x.f4.f1], [.string x.f5.f0, .string x.f5.f1], rfl, (k24_mk w x.f4 ), (k24_mk w x.f5 )⟩⟩⟩⟩⟩
theorem k42_mkM (w : World) (base : Nat) (ok : Nat → Prop) (x : S42)  : k42.M w base ok x [.int .i64 x.f0.f0, .int .i64 x.f0.f1, .string x.f1, .int .i64 x.f2, .string x.f3, .string x.f4.f0, .string x.f4.f1, .string x.f5.f0, .string x.f5.f1] := ⟨[.int .i64 x.f0.f0, .int .i64 x.f0.f1], [.string x.f1, .int .i64 x.f2, .string x.f3, .string x.f4.f0, .string x.f4.f1, .string x.f5.f0, .string x.f5.f1], rfl, (k26_mkM w base ok x.f0 ), ⟨[.string x.f1], [.int .i64 x.f2, .string x.f3, .string x.f4.f0, .string x.f4.f1, .string x.f5.f0, .string x.f5.f1], rfl, rfl, ⟨[.int .i64 x.f2], [.string x.f3, .string x.f4.f0, .string x.f4.f1, .string x.f5.f0, .string x.f5.f1], rfl, rfl, ⟨[.string x.f3], [.string x.f4.f0, .string x.f4.f1, .string x.f5.f0, .string x.f5.f1], rfl, rfl, ⟨[.string x.f4.f0, .string x.f4.f1], [.string x.f5.f0, .string x.f5.f1], rfl, (k24_mkM w base ok x.f4 ), (k24_mkM w base ok x.f5 )⟩⟩⟩⟩⟩
def Qam (xs : List S42) (i : Int) : S42 := xs.getD i.toNat z42
theorem at_T42 {w : World} {A : Option Addr} {n : Nat} {xs : List S42} (h : Kd.C k42 w A n xs) (i : Int) (h0 : 0 ≤ i) (h1 : i < n) : ∃ ad , A = some ad ∧ w.cell? (ad.add (i.toNat * 9)) = some (.int .i64 (Qam xs i).f0.f0) ∧ w.cell? ⟨(ad.add (i.toNat * 9)).block, (ad.add (i.toNat * 9)).off + 1, none⟩ = some (.int .i64 (Qam xs i).f0.f1) ∧ w.cell? ⟨(ad.add (i.toNat * 9)).block, (ad.add (i.toNat * 9)).off + 2, none⟩ = some (.string (Qam xs i).f1) ∧ w.cell? ⟨(ad.add (i.toNat * 9)).block, (ad.add (i.toNat * 9)).off + 3, none⟩ = some (.int .i64 (Qam xs i).f2) ∧ w.cell? ⟨(ad.add (i.toNat * 9)).block, (ad.add (i.toNat * 9)).off + 4, none⟩ = some (.string (Qam xs i).f3) ∧ w.cell? ⟨(ad.add (i.toNat * 9)).block, (ad.add (i.toNat * 9)).off + 5, none⟩ = some (.string (Qam xs i).f4.f0) ∧ w.cell? ⟨(ad.add (i.toNat * 9)).block, (ad.add (i.toNat * 9)).off + 6, none⟩ = some (.string (Qam xs i).f4.f1) ∧ w.cell? ⟨(ad.add (i.toNat * 9)).block, (ad.add (i.toNat * 9)).off + 7, none⟩ = some (.string (Qam xs i).f5.f0) ∧ w.cell? ⟨(ad.add (i.toNat * 9)).block, (ad.add (i.toNat * 9)).off + 8, none⟩ = some (.string (Qam xs i).f5.f1) := by
  obtain ⟨ad, c, e, _, hK, hc0⟩ := Kd.C_get h z42 i h0 h1; have hc : ∀ j u, c[j]? = some u → w.cell? (ad.add (i.toNat * 9 + j)) = some u := hc0; obtain rfl := k42_open hK; exact ⟨ad, e, hc 0 _ rfl, by rw [← add_field _ _ 1 (by omega)]; exact hc 1 _ rfl, by rw [← add_field _ _ 2 (by omega)]; exact hc 2 _ rfl, by rw [← add_field _ _ 3 (by omega)]; exact hc 3 _ rfl, by rw [← add_field _ _ 4 (by omega)]; exact hc 4 _ rfl, by rw [← add_field _ _ 5 (by omega)]; exact hc 5 _ rfl, by rw [← add_field _ _ 6 (by omega)]; exact hc 6 _ rfl, by rw [← add_field _ _ 7 (by omega)]; exact hc 7 _ rfl, by rw [← add_field _ _ 8 (by omega)]; exact hc 8 _ rfl⟩
structure S29 where
  f0 : S24
  f1 : ByteArray
  f2 : S26
  f3 : (List S29)
def z29 : S29 := ⟨z24, (⟨#[]⟩ : ByteArray), z26, ([] : List S29)⟩
def F29 (d : Kd S29) : Kd S29 := Kd.iso (Kd.pair k24 (Kd.pair Kd.string (Kd.pair k26 (Kd.slice 29 d)))) (fun x : S29 => (x.f0, x.f1, x.f2, x.f3))
theorem mono29 : Kd.Mono F29 := Kd.mono_iso _ (Kd.mono_pair (Kd.mono_const _) (Kd.mono_pair (Kd.mono_const _) (Kd.mono_pair (Kd.mono_const _) (Kd.mono_slice 29 Kd.mono_id))))
theorem sub29 : Kd.Sub F29 [29] := Kd.sub_iso _ (Kd.sub_pair (Kd.sub_const _ (by decide)) (Kd.sub_pair (Kd.sub_const _ (by decide)) (Kd.sub_pair (Kd.sub_const _ (by decide)) (Kd.sub_slice 29 (by decide) Kd.sub_id))))
theorem sz29 : ∀ n, (Kd.upto F29 6 [29] n).sz = 6 := Kd.upto_sz (fun _ => rfl)
def k29 : Kd S29 := Kd.fix F29 6 [29] sz29 (Kd.upto_E sub29)
theorem k29_open {w : World} {x : S29} {cs : List Value} (h : k29.K w x cs) : ∃ A5 c5, cs = [.string x.f0.f0, .string x.f0.f1, .string x.f1, .int .i64 x.f2.f0, .int .i64 x.f2.f1, .slice A5 x.f3.length c5] ∧ x.f3.length ≤ c5 ∧ k29.C w A5 x.f3.length x.f3 := by
  obtain ⟨n, h⟩ := h
  cases n with
  | zero => exact h.elim
  | succ n =>
    obtain ⟨_, _, rfl, s0, ⟨_, _, rfl, rfl, ⟨_, _, rfl, s3, ⟨A5, c5, rfl, l5, g5⟩⟩⟩⟩ := h; obtain rfl := k24_open s0; obtain rfl := k26_open s3; exact ⟨A5, c5, rfl, l5, Kd.fix_C g5⟩
theorem k29_mk (w : World) (x : S29) {A5 : Option Addr} {c5 : Nat} (l5 : x.f3.length ≤ c5) (g5 : k29.C w A5 x.f3.length x.f3) : k29.K w x [.string x.f0.f0, .string x.f0.f1, .string x.f1, .int .i64 x.f2.f0, .int .i64 x.f2.f1, .slice A5 x.f3.length c5] := by
  obtain ⟨n5, q5⟩ := Kd.fix_C_back mono29 g5; have r5 := Kd.upto_C_le mono29 sz29 (show n5 ≤ n5 by omega) q5; exact ⟨n5 + 1, ⟨[.string x.f0.f0, .string x.f0.f1], [.string x.f1, .int .i64 x.f2.f0, .int .i64 x.f2.f1, .slice A5 x.f3.length c5], rfl, (k24_mk w x.f0 ), ⟨[.string x.f1], [.int .i64 x.f2.f0, .int .i64 x.f2.f1, .slice A5 x.f3.length c5], rfl, rfl, ⟨[.int .i64 x.f2.f0, .int .i64 x.f2.f1], [.slice A5 x.f3.length c5], rfl, (k26_mk w x.f2 ), ⟨A5, c5, rfl, l5, r5⟩⟩⟩⟩⟩
theorem k29_mkM (w : World) (base : Nat) (ok : Nat → Prop) (x : S29) {v5 : Value} (g5 : k29.R 29 w base ok v5 x.f3) : k29.M w base ok x [.string x.f0.f0, .string x.f0.f1, .string x.f1, .int .i64 x.f2.f0, .int .i64 x.f2.f1, v5] := by
  obtain ⟨n5, q5⟩ := Kd.fix_R_back mono29 g5; have r5 := Kd.upto_R_le mono29 sz29 (show n5 ≤ n5 by omega) q5; exact ⟨n5 + 1, ⟨[.string x.f0.f0, .string x.f0.f1], [.string x.f1, .int .i64 x.f2.f0, .int .i64 x.f2.f1, v5], rfl, (k24_mkM w base ok x.f0 ), ⟨[.string x.f1], [.int .i64 x.f2.f0, .int .i64 x.f2.f1, v5], rfl, rfl, ⟨[.int .i64 x.f2.f0, .int .i64 x.f2.f1], [v5], rfl, (k26_mkM w base ok x.f2 ), ⟨v5, rfl, r5⟩⟩⟩⟩⟩
def rd_T29 (xs : List S29) (i : Int) : S29 := xs.getD i.toNat z29
theorem at_T29 {w : World} {A : Option Addr} {n : Nat} {xs : List S29} (h : Kd.C k29 w A n xs) (i : Int) (h0 : 0 ≤ i) (h1 : i < n) : ∃ ad A5 c5, A = some ad ∧ w.cell? (ad.add (i.toNat * 6)) = some (.string (rd_T29 xs i).f0.f0) ∧ w.cell? ⟨(ad.add (i.toNat * 6)).block, (ad.add (i.toNat * 6)).off + 1, none⟩ = some (.string (rd_T29 xs i).f0.f1) ∧ w.cell? ⟨(ad.add (i.toNat * 6)).block, (ad.add (i.toNat * 6)).off + 2, none⟩ = some (.string (rd_T29 xs i).f1) ∧ w.cell? ⟨(ad.add (i.toNat * 6)).block, (ad.add (i.toNat * 6)).off + 3, none⟩ = some (.int .i64 (rd_T29 xs i).f2.f0) ∧ w.cell? ⟨(ad.add (i.toNat * 6)).block, (ad.add (i.toNat * 6)).off + 4, none⟩ = some (.int .i64 (rd_T29 xs i).f2.f1) ∧ w.cell? ⟨(ad.add (i.toNat * 6)).block, (ad.add (i.toNat * 6)).off + 5, none⟩ = some (.slice A5 (rd_T29 xs i).f3.length c5) ∧ (rd_T29 xs i).f3.length ≤ c5 ∧ k29.C w A5 (rd_T29 xs i).f3.length (rd_T29 xs i).f3 := by
  obtain ⟨ad, c, e, _, hK, hc0⟩ := Kd.C_get h z29 i h0 h1; have hc : ∀ j u, c[j]? = some u → w.cell? (ad.add (i.toNat * 6 + j)) = some u := hc0; obtain ⟨A5, c5, rfl, l5, g5⟩ := k29_open hK; exact ⟨ad, A5, c5, e, hc 0 _ rfl, by rw [← add_field _ _ 1 (by omega)]; exact hc 1 _ rfl, by rw [← add_field _ _ 2 (by omega)]; exact hc 2 _ rfl, by rw [← add_field _ _ 3 (by omega)]; exact hc 3 _ rfl, by rw [← add_field _ _ 4 (by omega)]; exact hc 4 _ rfl, by rw [← add_field _ _ 5 (by omega)]; exact hc 5 _ rfl, l5, g5⟩
structure S50 where
  f0 : S24
  f1 : ByteArray
def z50 : S50 := ⟨z24, (⟨#[]⟩ : ByteArray)⟩
def k50 : Kd S50 := Kd.iso (Kd.pair k24 Kd.string) (fun x : S50 => (x.f0, x.f1))
theorem k50_open {w : World} {x : S50} {cs : List Value} (h : k50.K w x cs) : cs = [.string x.f0.f0, .string x.f0.f1, .string x.f1] := by
  obtain ⟨_, _, rfl, s0, rfl⟩ := h; obtain rfl := k24_open s0; exact rfl
theorem k50_openM {w : World} {base : Nat} {ok : Nat → Prop} {x : S50} {cs : List Value} (h : k50.M w base ok x cs) : cs = [.string x.f0.f0, .string x.f0.f1, .string x.f1] := by
  obtain ⟨_, _, rfl, s0, rfl⟩ := h; obtain rfl := k24_openM s0; exact rfl
theorem k50_mkM (w : World) (base : Nat) (ok : Nat → Prop) (x : S50)  : k50.M w base ok x [.string x.f0.f0, .string x.f0.f1, .string x.f1] := ⟨[.string x.f0.f0, .string x.f0.f1], [.string x.f1], rfl, (k24_mkM w base ok x.f0 ), rfl⟩
def rd_T50 (xs : List S50) (i : Int) : S50 := xs.getD i.toNat z50
theorem at_T50 {w : World} {A : Option Addr} {n : Nat} {xs : List S50} (h : Kd.C k50 w A n xs) (i : Int) (h0 : 0 ≤ i) (h1 : i < n) : ∃ ad , A = some ad ∧ w.cell? (ad.add (i.toNat * 3)) = some (.string (rd_T50 xs i).f0.f0) ∧ w.cell? ⟨(ad.add (i.toNat * 3)).block, (ad.add (i.toNat * 3)).off + 1, none⟩ = some (.string (rd_T50 xs i).f0.f1) ∧ w.cell? ⟨(ad.add (i.toNat * 3)).block, (ad.add (i.toNat * 3)).off + 2, none⟩ = some (.string (rd_T50 xs i).f1) := by
  obtain ⟨ad, c, e, _, hK, hc0⟩ := Kd.C_get h z50 i h0 h1; have hc : ∀ j u, c[j]? = some u → w.cell? (ad.add (i.toNat * 3 + j)) = some u := hc0; obtain rfl := k50_open hK; exact ⟨ad, e, hc 0 _ rfl, by rw [← add_field _ _ 1 (by omega)]; exact hc 1 _ rfl, by rw [← add_field _ _ 2 (by omega)]; exact hc 2 _ rfl⟩
theorem eqA24 (d : Nat) (w : World) (x0 y0 : ByteArray) (x1 y1 : ByteArray) :
    (Op.equalIn (d + 2) 24 (.agg #[.string x0, .string x1]) (.agg #[.string y0, .string y1])).run Tryd.prog w = .ok (x0.toList == y0.toList && (x1.toList == y1.toList)) w := by
  refine eqA_of Tryd.underlying24 (by kernel_rfl) ?_; refine eqf_cons (by rfl) (by go_simp; rfl) (by go_simp; rfl) (by go_simp) ?_; exact eqf_last (by rfl) (by go_simp; rfl) (by go_simp; rfl) (by go_simp)
theorem eqA26 (d : Nat) (w : World) (x0 y0 : Int) (x1 y1 : Int) :
    (Op.equalIn (d + 2) 26 (.agg #[.int .i64 x0, .int .i64 x1]) (.agg #[.int .i64 y0, .int .i64 y1])).run Tryd.prog w = .ok (x0 == y0 && (x1 == y1)) w := by
  refine eqA_of Tryd.underlying26 (by kernel_rfl) ?_; refine eqf_cons (by rfl) (by go_simp; rfl) (by go_simp; rfl) (by go_simp) ?_; exact eqf_last (by rfl) (by go_simp; rfl) (by go_simp; rfl) (by go_simp)
def liverylaw08_few.f (l0 : List (S42)) : Option ((List (S42))) := if (l0.length : Int) > 9 then (if 9 ≤ (l0.length : Int) then (some (l0.take 9)) else (none)) else (some l0)
set_option maxHeartbeats 8000000 in
set_option maxRecDepth 100000 in
theorem liverylaw08_few.calls (P0_ : Nat → Prop) (A0 : Option Addr) (c0 : Nat) (l0 : List (S42)) (r : List (S42)) (w : World) (hs0 : Kd.V k42 42 w w.heap.size (fun k_ => P0_ k_) (.slice A0 l0.length c0) l0) (h : liverylaw08_few.f l0 = some r) :
  Calls Tryd.prog 4 #[.slice A0 l0.length c0] w fun e w' => ∃ v0_ : Value, e = .returned (v0_) ∧ Kd.V k42 42 w' w.heap.size (fun k_ => (P0_ k_ ∨ w.heap.size ≤ k_)) v0_ r ∧ Below w.heap.size w w' := by
 have HO0 := Qad.mk (show Kd.V k42 42 w w.heap.size (fun k_ => (P0_ k_ ∨ w.heap.size ≤ k_)) (.slice A0 l0.length c0) l0 from Kd.V_mono hs0 (fun k_ hk => .inl hk)); have HB := Qad.mk (Below.refl w.heap.size w); have H : (if (l0.length : Int) > 9 then (if 9 ≤ (l0.length : Int) then (some (l0.take 9)) else (none)) else (some l0)) = some r := h; clear h
 by_cases c2 : (l0.length : Int) > 9
 ·rw [if_pos c2] at H; have c2b0 : decide (9 < (l0.length : Int)) = true := decide_eq_true c2; have c2b1 : decide (9 < l0.length) = true := decide_eq_true (by omega); clear c2
  by_cases c3 : 9 ≤ (l0.length : Int)
  ·rw [if_pos c3] at H; have c3b0 := eq_true c3; have c3b1 : decide (9 ≤ (l0.length : Int)) = true := decide_eq_true c3; clear c3
   obtain ⟨y101, hy101⟩ : ∃ y_ : List (S42), y_ = (l0.take 9) := ⟨_, rfl⟩
   replace H : (some y101) = some r := by first | (rw [hy101]; with_reducible exact H) | (have H2_ := (Option.bind_some _ _).symm.trans H; rw [hy101]; with_reducible exact H2_) | (have H2_ := (Option.bind_some _ _).symm.trans H; with_reducible exact H2_) | with_reducible exact H | (rw [hy101]; exact H) | exact H
   have Ny101 := Qad.mk hy101; clear hy101; obtain rfl := Option.some.inj H; have q4 : (9 : Int) ≤ ((l0.length : Int) : Int) := of_decide_eq_true (by first | (with_reducible assumption) | assumption); obtain ⟨i04, hi04, _, hsz4, _⟩ := info_parts info42; have hroom4 : l0.length ≤ c0 := (Kd.V_reads' HO0.out).2.1; have hC4 : Kd.F k42 _ _ A0 l0.length l0 := (Kd.V_at (base := w.heap.size) HO0.out).2.2; have hcut4 := cut_to (P := Tryd.prog) 22 42 .i64 Tryd.underlying22 hi04 A0 l0.length c0 9 (by omega) q4 hroom4; have hr4 := Kd.F_take (m := 9) hC4 (by omega)
   have hy4 : y101.length = (9 : Int).toNat := (by rw [Ny101.out, List.length_take]; omega)
   rw [← Ny101.out] at hr4; rw [← hy4] at hcut4; have HO105 := Qad.mk (show Kd.V k42 42 _ w.heap.size _ (.slice A0 y101.length c0) y101 from Kd.V_mk (by omega) hr4); have HC105 := Qad.mk (show y101.length ≤ c0 from by omega); clear hr4 hC4 hroom4 hi04 hsz4; have KY4 := Qad.mk hy4; clear hy4; replace q4 := eq_true q4; go_enter Tryd.func4, Tryd.ntmps4; go_wp2; go_ret; exact ⟨_, by first | rfl | (simp [Qau, Qat] <;> rfl) | (simp [*, Qau, Qat] <;> rfl), by (with_reducible repeat (first | apply Kd.V_alloc | apply Kd.V_drewN | apply Kd.V_drew)); exact HO105.out, by repeat (first | (with_reducible first | exact HB.out | apply Qab | apply Qaa | apply Qac) | exact HB.out)⟩
  ·rw [if_neg c3] at H; exact absurd H (by simp)
 ·rw [if_neg c2] at H; have c2b0 : decide (9 < (l0.length : Int)) = false := decide_eq_false c2; have c2b1 : decide (9 < l0.length) = false := decide_eq_false (by omega); clear c2; obtain rfl := Option.some.inj H; go_enter Tryd.func4, Tryd.ntmps4; go_wp2; go_ret; exact ⟨_, by first | rfl | (simp [Qau, Qat] <;> rfl) | (simp [*, Qau, Qat] <;> rfl), by (with_reducible repeat (first | apply Kd.V_alloc | apply Kd.V_drewN | apply Kd.V_drew)); exact HO0.out, by repeat (first | (with_reducible first | exact HB.out | apply Qab | apply Qaa | apply Qac) | exact HB.out)⟩
mutual
def Qaz.l0 : Nat → Int → Int → Int → ByteArray → ByteArray → ByteArray → Int → Int → List (S29) → Option (Int)
 | 0, _, _, _, _, _, _, _, _, _ => none
 | k + 1, x1, x5, x6, x102000, x102001, x102002, x102003, x102004, x102005 => if x6 < (x102005.length : Int) then (if x5 ≥ x1 then (some (-1)) else (if 0 ≤ x6 then ((Qaz.f k ((rd_T29 x102005 x6).f0.f0) ((rd_T29 x102005 x6).f0.f1) ((rd_T29 x102005 x6).f1) ((rd_T29 x102005 x6).f2.f0) ((rd_T29 x102005 x6).f2.f1) ((rd_T29 x102005 x6).f3) (wrap64 (x1 - x5))).bind fun t103 => (if t103 < 0 then (some (-1)) else (Qaz.l0 k x1 (wrap64 (x5 + t103)) (wrap64 (x6 + 1)) x102000 x102001 x102002 x102003 x102004 x102005))) else (none))) else (if x5 > x1 then (some (-1)) else (some x5))
def Qaz.f : Nat → ByteArray → ByteArray → ByteArray → Int → Int → List (S29) → Int → Option (Int)
 | 0, _, _, _, _, _, _, _ => none
 | k + 1, a0_0, a0_1, a0_2, a0_3, a0_4, l0_5, a1 => Qaz.l0 k a1 1 0 a0_0 a0_1 a0_2 a0_3 a0_4 l0_5
end
set_option maxHeartbeats 8000000 in
set_option maxRecDepth 100000 in
theorem Qaz.calls (k : Nat) : ∀ (a0_0 : ByteArray) (a0_1 : ByteArray) (a0_2 : ByteArray) (a0_3 : Int) (a0_4 : Int) (A0_5 : Option Addr) (c0_5 : Nat) (l0_5 : List (S29)) (a1 : Int) (r : Int) (w : World) (hr0_5 : Kd.C k29 w A0_5 l0_5.length l0_5) (hc0_5 : l0_5.length ≤ c0_5) (h : Qaz.f k a0_0 a0_1 a0_2 a0_3 a0_4 l0_5 a1 = some r),
  Calls Tryd.prog 5 #[.agg #[.string a0_0, .string a0_1, .string a0_2, .int .i64 a0_3, .int .i64 a0_4, .slice A0_5 l0_5.length c0_5], .int .i64 a1] w fun e w' => e = .returned (.int .i64 r) ∧ Below w.heap.size w w' := by
 induction k using Nat.strongRecOn with
 | _ k ih =>
 intro a0_0 a0_1 a0_2 a0_3 a0_4 A0_5 c0_5 l0_5 a1 r w hr0_5 hc0_5 h
 cases k with
 | zero => exact absurd h (by simp [Qaz.f])
 | succ k =>
 simp only [Qaz.f] at h; have hu29 := Tryd.underlying29; have HR0_5 := Qad.mk hr0_5; have HC0_5 := Qad.mk hc0_5; clear hr0_5 hc0_5; have HB := Qad.mk (Below.refl w.heap.size w); have H : (Qaz.l0 k a1 1 0 a0_0 a0_1 a0_2 a0_3 a0_4 l0_5) = some r := h; clear h; have H' := Qad.mk H; clear H; go_enter Tryd.func5, Tryd.ntmps5
 go_wp2_with (first | ((with_reducible refine gate_dst (N := 2) rfl ?_); refine box_event ?hg (N := 2) ?hd (cs := #[.string a0_0, .string a0_1, .string a0_2, .int .i64 a0_3, .int .i64 a0_4, .slice A0_5 l0_5.length c0_5]) (t := 29) ?hr ?_; (case hd => rfl); (case hg => rfl); (case hr => first | (go_simp; done) | (go_simp; rfl)); intro gb101 hg w3 hbox hb; have n0_ := Qad.mk (Qaf (by repeat (first | (with_reducible first | exact HB.out | apply Qab | apply Qaa | apply Qac) | exact HB.out)) hb); have n1_ := Qad.mk (hbox); have n2_ := Qad.mk ((by rw [hg]; exact (Qav (by repeat (first | (with_reducible first | exact HB.out | apply Qab | apply Qaa | apply Qac) | exact HB.out))) : w.heap.size ≤ gb101)); have n3_ := n2_; clear HB; have HB := n0_; have BK101 := n1_; have GW101 := n2_; have GE101 := n3_; clear n0_ n1_ n2_ n3_; clear hb hbox hg))
 go_loopg [5, 6] k (fun kq v5 v6 w' => ∃ (x5_1 : Int) (x6_1 : Int), v5 = .int .i64 x5_1 ∧ v6 = .int .i64 x6_1 ∧ Qad (Qaz.l0 kq a1 x5_1 x6_1 a0_0 a0_1 a0_2 a0_3 a0_4 l0_5 = some r) ∧ Qad (kq ≤ k) ∧ Qad (w'.heap[gb101]? = some (.cells #[.string a0_0, .string a0_1, .string a0_2, .int .i64 a0_3, .int .i64 a0_4, (.slice A0_5 l0_5.length c0_5)] 29 (0, 0))) ∧ Qad (Below w.heap.size w w'))
 case atStart => exact ⟨(1), (0), (by first | rfl | (simp; done) | (simp [*]; done)), (by first | rfl | (simp; done) | (simp [*]; done)), H', ⟨Nat.le_refl _⟩, ⟨by (with_reducible repeat (first | refine Qah ?_ _ | refine Qak ?_ | refine Qag ?_ _)); exact BK101.out⟩, ⟨by repeat (first | (with_reducible first | exact HB.out | apply Qab | apply Qaa | apply Qac | refine Qaj ?_ GE101.out) | exact HB.out)⟩⟩
 case round =>
  clear H'; (try clear p2); obtain ⟨x5_1, x6_1, rfl, rfl, HA, HK1, BK101, HB⟩ := hrel
  cases gk with
  | zero => exact absurd HA.out (by simp [Qaz.l0])
  | succ k1 =>
   have H := HA.out; clear HA; simp only [Qaz.l0] at H
   by_cases c4 : x6_1 < (l0_5.length : Int)
   ·rw [if_pos c4] at H; have c4b0 : decide (x6_1 < (l0_5.length : Int)) = true := decide_eq_true c4; clear c4
    by_cases c5 : x5_1 ≥ a1
    ·rw [if_pos c5] at H; have c5b0 : decide (a1 ≤ x5_1) = true := decide_eq_true c5; clear c5; obtain rfl := Option.some.inj H; have hcz6_0 : wr.cell? ⟨gb101, 0, none⟩ = some (.string a0_0) := (Qai BK101.out 0).trans rfl; have hcz6_1 : wr.cell? ⟨gb101, 1, none⟩ = some (.string a0_1) := (Qai BK101.out 1).trans rfl; have hcz6_2 : wr.cell? ⟨gb101, 2, none⟩ = some (.string a0_2) := (Qai BK101.out 2).trans rfl; have hcz6_3 : wr.cell? ⟨gb101, 3, none⟩ = some (.int .i64 a0_3) := (Qai BK101.out 3).trans rfl; have hcz6_4 : wr.cell? ⟨gb101, 4, none⟩ = some (.int .i64 a0_4) := (Qai BK101.out 4).trans rfl; have hcz6_5 : wr.cell? ⟨gb101, 5, none⟩ = some (.slice A0_5 l0_5.length c0_5) := (Qai BK101.out 5).trans rfl; obtain ⟨hfz6_0, hfz6_1, hfz6_2, hfz6_3, hfz6_4, hfz6_5⟩ := fz_6 BK101.out; go_wp2; go_ret; exact ⟨by first | rfl | (simp [Qau, Qat] <;> rfl) | (simp [*, Qau, Qat] <;> rfl), by repeat (first | (with_reducible first | exact HB.out | apply Qab | apply Qaa | apply Qac | refine Qaj ?_ GE101.out) | exact HB.out)⟩
    ·rw [if_neg c5] at H; have c5b0 : decide (a1 ≤ x5_1) = false := decide_eq_false c5; clear c5
     by_cases c7 : 0 ≤ x6_1
     ·rw [if_pos c7] at H; have c7b0 : decide (0 ≤ x6_1) = true := decide_eq_true c7; clear c7; replace H := Option.bind_eq_some_iff.mp H; obtain ⟨t103, A80, H⟩ := H; replace H : (if t103 < 0 then (some (-1)) else (Qaz.l0 k1 a1 (wrap64 (x5_1 + t103)) (wrap64 (x6_1 + 1)) a0_0 a0_1 a0_2 a0_3 a0_4 l0_5)) = some r := H; have A8 := Qad.mk A80; clear A80
      by_cases c9 : t103 < 0
      ·rw [if_pos c9] at H; have c9b0 : decide (t103 < 0) = true := decide_eq_true c9; clear c9; obtain rfl := Option.some.inj H; have hcz10_0 : wr.cell? ⟨gb101, 0, none⟩ = some (.string a0_0) := (Qai BK101.out 0).trans rfl; have hcz10_1 : wr.cell? ⟨gb101, 1, none⟩ = some (.string a0_1) := (Qai BK101.out 1).trans rfl; have hcz10_2 : wr.cell? ⟨gb101, 2, none⟩ = some (.string a0_2) := (Qai BK101.out 2).trans rfl; have hcz10_3 : wr.cell? ⟨gb101, 3, none⟩ = some (.int .i64 a0_3) := (Qai BK101.out 3).trans rfl; have hcz10_4 : wr.cell? ⟨gb101, 4, none⟩ = some (.int .i64 a0_4) := (Qai BK101.out 4).trans rfl; have hcz10_5 : wr.cell? ⟨gb101, 5, none⟩ = some (.slice A0_5 l0_5.length c0_5) := (Qai BK101.out 5).trans rfl; obtain ⟨hfz10_0, hfz10_1, hfz10_2, hfz10_3, hfz10_4, hfz10_5⟩ := fz_6 BK101.out; have p102 : 0 ≤ (x6_1 : Int) := of_decide_eq_true (by first | (with_reducible assumption) | assumption); have q102 : x6_1 < (l0_5.length : Int) := of_decide_eq_true (by first | (with_reducible assumption) | assumption); obtain ⟨ad102, A102_5, c102_5, e102, hx102_0, hx102_1, hx102_2, hx102_3, hx102_4, hx102_5, hl102_5, hi102_5⟩ := at_T29 HR0_5.out x6_1 p102 q102; cases e102; replace hx102_0 := (HB.out.cell (World.block_lt_of_cell? w _ hx102_0)).trans hx102_0; replace hx102_1 := (HB.out.cell (World.block_lt_of_cell? w _ hx102_1)).trans hx102_1
       replace hx102_2 := (HB.out.cell (World.block_lt_of_cell? w _ hx102_2)).trans hx102_2; replace hx102_3 := (HB.out.cell (World.block_lt_of_cell? w _ hx102_3)).trans hx102_3; replace hx102_4 := (HB.out.cell (World.block_lt_of_cell? w _ hx102_4)).trans hx102_4; replace hx102_5 := (HB.out.cell (World.block_lt_of_cell? w _ hx102_5)).trans hx102_5; have HR102_5 := Qad.mk hi102_5; have HC102_5 := Qad.mk hl102_5; clear hi102_5 hl102_5; replace p102 := eq_true p102; replace q102 := eq_true q102
       go_wp2_with (first | ((with_reducible refine gate_callee (f := 5) rfl ?_); refine goesL_ (some 26) rfl rfl Tryd.func5 (by kernel_rfl) rfl #[.agg #[.string ((rd_T29 l0_5 x6_1).f0.f0), .string ((rd_T29 l0_5 x6_1).f0.f1), .string ((rd_T29 l0_5 x6_1).f1), .int .i64 ((rd_T29 l0_5 x6_1).f2.f0), .int .i64 ((rd_T29 l0_5 x6_1).f2.f1), .slice A102_5 ((rd_T29 l0_5 x6_1).f3).length c102_5], .int .i64 (wrap64 (a1 - x5_1))] rfl (by (try simp only [List.map_toArray, List.map_cons, List.map_nil]); first | done | rfl | (simp only [List.length_drop, List.length_take]; rfl)) ?_; (with_reducible refine (ih k1 (by have := HK1.out; omega) ((rd_T29 l0_5 x6_1).f0.f0) ((rd_T29 l0_5 x6_1).f0.f1) ((rd_T29 l0_5 x6_1).f1) ((rd_T29 l0_5 x6_1).f2.f0) ((rd_T29 l0_5 x6_1).f2.f1) _ _ ((rd_T29 l0_5 x6_1).f3) (wrap64 (a1 - x5_1)) t103 _ ?side1 ?side2 A8.out).mono ?_); (case side1 => repeat (first | exact (Kd.C_below HR102_5.out HB.out) | (with_reducible refine Kd.C_alloc ?_ _) | (with_reducible refine Kd.C_drewN ?_ _) | (with_reducible refine Kd.C_drew ?_))); (case side2 => exact HC102_5.out); rintro e w11 ⟨rfl, hb⟩; refine ⟨_, rfl, ?_⟩; have n0_ := Qad.mk (Qae (g := gb101) (o := ob_sssiiv a0_0 a0_1 a0_2 a0_3 a0_4 (.slice (some ad102) l0_5.length c0_5) 29) (by (with_reducible repeat (first | refine Qah ?_ _ | refine Qak ?_ | refine Qag ?_ _)); exact BK101.out) hb); have n1_ := Qad.mk (Qaf (by repeat (first | (with_reducible first | exact HB.out | apply Qab | apply Qaa | apply Qac | refine Qaj ?_ GE101.out) | exact HB.out)) hb); clear BK101; clear HB; have BK101 := n0_; have HB := n1_; clear n0_ n1_; (try clear hb); (try clear hb2); (try clear hk); (try clear hi)))
       go_ret; exact ⟨by first | rfl | (simp [Qau, Qat] <;> rfl) | (simp [*, Qau, Qat] <;> rfl), by repeat (first | (with_reducible first | exact HB.out | apply Qab | apply Qaa | apply Qac | refine Qaj ?_ GE101.out) | exact HB.out)⟩
      ·rw [if_neg c9] at H; have c9b0 : decide (t103 < 0) = false := decide_eq_false c9; clear c9; have H' := Qad.mk H; clear H; have hcz12_0 : wr.cell? ⟨gb101, 0, none⟩ = some (.string a0_0) := (Qai BK101.out 0).trans rfl; have hcz12_1 : wr.cell? ⟨gb101, 1, none⟩ = some (.string a0_1) := (Qai BK101.out 1).trans rfl; have hcz12_2 : wr.cell? ⟨gb101, 2, none⟩ = some (.string a0_2) := (Qai BK101.out 2).trans rfl; have hcz12_3 : wr.cell? ⟨gb101, 3, none⟩ = some (.int .i64 a0_3) := (Qai BK101.out 3).trans rfl; have hcz12_4 : wr.cell? ⟨gb101, 4, none⟩ = some (.int .i64 a0_4) := (Qai BK101.out 4).trans rfl; have hcz12_5 : wr.cell? ⟨gb101, 5, none⟩ = some (.slice A0_5 l0_5.length c0_5) := (Qai BK101.out 5).trans rfl; obtain ⟨hfz12_0, hfz12_1, hfz12_2, hfz12_3, hfz12_4, hfz12_5⟩ := fz_6 BK101.out; have p102 : 0 ≤ (x6_1 : Int) := of_decide_eq_true (by first | (with_reducible assumption) | assumption); have q102 : x6_1 < (l0_5.length : Int) := of_decide_eq_true (by first | (with_reducible assumption) | assumption); obtain ⟨ad102, A102_5, c102_5, e102, hx102_0, hx102_1, hx102_2, hx102_3, hx102_4, hx102_5, hl102_5, hi102_5⟩ := at_T29 HR0_5.out x6_1 p102 q102; cases e102; replace hx102_0 := (HB.out.cell (World.block_lt_of_cell? w _ hx102_0)).trans hx102_0; replace hx102_1 := (HB.out.cell (World.block_lt_of_cell? w _ hx102_1)).trans hx102_1
       replace hx102_2 := (HB.out.cell (World.block_lt_of_cell? w _ hx102_2)).trans hx102_2; replace hx102_3 := (HB.out.cell (World.block_lt_of_cell? w _ hx102_3)).trans hx102_3; replace hx102_4 := (HB.out.cell (World.block_lt_of_cell? w _ hx102_4)).trans hx102_4; replace hx102_5 := (HB.out.cell (World.block_lt_of_cell? w _ hx102_5)).trans hx102_5; have HR102_5 := Qad.mk hi102_5; have HC102_5 := Qad.mk hl102_5; clear hi102_5 hl102_5; replace p102 := eq_true p102; replace q102 := eq_true q102
       go_wp2_with (first | ((with_reducible refine gate_callee (f := 5) rfl ?_); refine goesL_ (some 26) rfl rfl Tryd.func5 (by kernel_rfl) rfl #[.agg #[.string ((rd_T29 l0_5 x6_1).f0.f0), .string ((rd_T29 l0_5 x6_1).f0.f1), .string ((rd_T29 l0_5 x6_1).f1), .int .i64 ((rd_T29 l0_5 x6_1).f2.f0), .int .i64 ((rd_T29 l0_5 x6_1).f2.f1), .slice A102_5 ((rd_T29 l0_5 x6_1).f3).length c102_5], .int .i64 (wrap64 (a1 - x5_1))] rfl (by (try simp only [List.map_toArray, List.map_cons, List.map_nil]); first | done | rfl | (simp only [List.length_drop, List.length_take]; rfl)) ?_; (with_reducible refine (ih k1 (by have := HK1.out; omega) ((rd_T29 l0_5 x6_1).f0.f0) ((rd_T29 l0_5 x6_1).f0.f1) ((rd_T29 l0_5 x6_1).f1) ((rd_T29 l0_5 x6_1).f2.f0) ((rd_T29 l0_5 x6_1).f2.f1) _ _ ((rd_T29 l0_5 x6_1).f3) (wrap64 (a1 - x5_1)) t103 _ ?side1 ?side2 A8.out).mono ?_); (case side1 => repeat (first | exact (Kd.C_below HR102_5.out HB.out) | (with_reducible refine Kd.C_alloc ?_ _) | (with_reducible refine Kd.C_drewN ?_ _) | (with_reducible refine Kd.C_drew ?_))); (case side2 => exact HC102_5.out); rintro e w13 ⟨rfl, hb⟩; refine ⟨_, rfl, ?_⟩; have n0_ := Qad.mk (Qae (g := gb101) (o := ob_sssiiv a0_0 a0_1 a0_2 a0_3 a0_4 (.slice (some ad102) l0_5.length c0_5) 29) (by (with_reducible repeat (first | refine Qah ?_ _ | refine Qak ?_ | refine Qag ?_ _)); exact BK101.out) hb); have n1_ := Qad.mk (Qaf (by repeat (first | (with_reducible first | exact HB.out | apply Qab | apply Qaa | apply Qac | refine Qaj ?_ GE101.out) | exact HB.out)) hb); clear BK101; clear HB; have BK101 := n0_; have HB := n1_; clear n0_ n1_; (try clear hb); (try clear hb2); (try clear hk); (try clear hi)))
       go_roundg k1
       case measure => have := HK1.out; omega
       case rel => exact ⟨(wrap64 (x5_1 + t103)), (wrap64 (x6_1 + 1)), (by first | rfl | (simp; done) | (simp [*]; done)), (by first | rfl | (simp; done) | (simp [*]; done)), H', ⟨by have := HK1.out; omega⟩, ⟨by (with_reducible repeat (first | refine Qah ?_ _ | refine Qak ?_ | refine Qag ?_ _)); exact BK101.out⟩, ⟨by repeat (first | (with_reducible first | exact HB.out | apply Qab | apply Qaa | apply Qac | refine Qaj ?_ GE101.out) | exact HB.out)⟩⟩
     ·rw [if_neg c7] at H; exact absurd H (by simp)
   ·rw [if_neg c4] at H; have c4b0 : decide (x6_1 < (l0_5.length : Int)) = false := decide_eq_false c4; clear c4
    by_cases c14 : x5_1 > a1
    ·rw [if_pos c14] at H; have c14b0 : decide (a1 < x5_1) = true := decide_eq_true c14; clear c14; obtain rfl := Option.some.inj H; have hcz15_0 : wr.cell? ⟨gb101, 0, none⟩ = some (.string a0_0) := (Qai BK101.out 0).trans rfl; have hcz15_1 : wr.cell? ⟨gb101, 1, none⟩ = some (.string a0_1) := (Qai BK101.out 1).trans rfl; have hcz15_2 : wr.cell? ⟨gb101, 2, none⟩ = some (.string a0_2) := (Qai BK101.out 2).trans rfl; have hcz15_3 : wr.cell? ⟨gb101, 3, none⟩ = some (.int .i64 a0_3) := (Qai BK101.out 3).trans rfl; have hcz15_4 : wr.cell? ⟨gb101, 4, none⟩ = some (.int .i64 a0_4) := (Qai BK101.out 4).trans rfl; have hcz15_5 : wr.cell? ⟨gb101, 5, none⟩ = some (.slice A0_5 l0_5.length c0_5) := (Qai BK101.out 5).trans rfl; obtain ⟨hfz15_0, hfz15_1, hfz15_2, hfz15_3, hfz15_4, hfz15_5⟩ := fz_6 BK101.out; go_wp2; go_ret; exact ⟨by first | rfl | (simp [Qau, Qat] <;> rfl) | (simp [*, Qau, Qat] <;> rfl), by repeat (first | (with_reducible first | exact HB.out | apply Qab | apply Qaa | apply Qac | refine Qaj ?_ GE101.out) | exact HB.out)⟩
    ·rw [if_neg c14] at H; have c14b0 : decide (a1 < x5_1) = false := decide_eq_false c14; clear c14; obtain rfl := Option.some.inj H; have hcz16_0 : wr.cell? ⟨gb101, 0, none⟩ = some (.string a0_0) := (Qai BK101.out 0).trans rfl; have hcz16_1 : wr.cell? ⟨gb101, 1, none⟩ = some (.string a0_1) := (Qai BK101.out 1).trans rfl; have hcz16_2 : wr.cell? ⟨gb101, 2, none⟩ = some (.string a0_2) := (Qai BK101.out 2).trans rfl; have hcz16_3 : wr.cell? ⟨gb101, 3, none⟩ = some (.int .i64 a0_3) := (Qai BK101.out 3).trans rfl; have hcz16_4 : wr.cell? ⟨gb101, 4, none⟩ = some (.int .i64 a0_4) := (Qai BK101.out 4).trans rfl; have hcz16_5 : wr.cell? ⟨gb101, 5, none⟩ = some (.slice A0_5 l0_5.length c0_5) := (Qai BK101.out 5).trans rfl; obtain ⟨hfz16_0, hfz16_1, hfz16_2, hfz16_3, hfz16_4, hfz16_5⟩ := fz_6 BK101.out; go_wp2; go_ret; exact ⟨by first | rfl | (simp [Qau, Qat] <;> rfl) | (simp [*, Qau, Qat] <;> rfl), by repeat (first | (with_reducible first | exact HB.out | apply Qab | apply Qaa | apply Qac | refine Qaj ?_ GE101.out) | exact HB.out)⟩
def liveryref04_Domain.j0 : Nat → Int → Bool → Option (ByteArray)
 | 0, _, _ => none
 | k + 1, x0, x8 => if x8 = true then (some (⟨#[]⟩ : ByteArray)) else (if x0 < 10 then ((some (([(wrap64 (48 + x0)) % 256] : List Int) : List Int)).bind fun y101 => (if 1 + (strOfNums y101).size ≤ 9223372036854775807 then (some ((⟨#[100]⟩ : ByteArray) ++ (strOfNums y101))) else (none))) else ((some (([(wrap64 ((wrap64 (48 + x0)) - 10)) % 256] : List Int) : List Int)).bind fun y104 => (if 2 + (strOfNums y104).size ≤ 9223372036854775807 then (some ((⟨#[100, 49]⟩ : ByteArray) ++ (strOfNums y104))) else (none))))
def liveryref04_Domain.f (k : Nat) (a0 : Int) : Option (ByteArray) := if a0 < 1 then (liveryref04_Domain.j0 k a0 true) else (liveryref04_Domain.j0 k a0 (decide (a0 > 16)))
set_option maxHeartbeats 8000000 in
set_option maxRecDepth 100000 in
theorem liveryref04_Domain.calls (k : Nat) (a0 : Int) (r : ByteArray) (w : World) (h : liveryref04_Domain.f k a0 = some r) :
  Calls Tryd.prog 26 #[.int .i64 a0] w fun e w' => e = .returned (.string r) ∧ Below w.heap.size w w' := by
 have HB := Qad.mk (Below.refl w.heap.size w); have H : (if a0 < 1 then (liveryref04_Domain.j0 k a0 true) else (liveryref04_Domain.j0 k a0 (decide (a0 > 16)))) = some r := h; clear h; have HC2 := Qad.mk H; clear H; go_enter Tryd.func26, Tryd.ntmps26
 go_upto_region 1 with (fail)
 go_cut [8] (fun v8 wc => ∃ (kq : Nat) (x8_1 : Bool), v8 = .bool x8_1 ∧ Qad (liveryref04_Domain.j0 kq a0 x8_1 = some r) ∧ Qad (kq ≤ k) ∧ Qad (Below w.heap.size w wc))
 case first =>
  have H := HC2.out; clear HC2
  by_cases c3 : a0 < 1
  ·rw [if_pos c3] at H; have c3b0 : decide (a0 < 1) = true := decide_eq_true c3; clear c3
   (first | rw [c3b0] | (simp only [i64_w, i32_w]; rw [c3b0]) | skip)
   have H' := Qad.mk H; clear H; go_wp2
   go_meet
   case rel => exact ⟨_, (true), (by first | rfl | (simp; done) | (simp [*]; done)), H', ⟨by first | omega | exact Nat.le_refl _⟩, ⟨by repeat (first | (with_reducible first | exact HB.out | apply Qab | apply Qaa | apply Qac) | exact HB.out)⟩⟩
  ·rw [if_neg c3] at H; have c3b0 : decide (a0 < 1) = false := decide_eq_false c3; clear c3
   (first | rw [c3b0] | (simp only [i64_w, i32_w]; rw [c3b0]) | skip)
   have H' := Qad.mk H; clear H; go_wp2
   go_meet
   case rel => exact ⟨_, (decide (a0 > 16)), (by first | rfl | (simp; done) | (simp [*]; done)), H', ⟨by first | omega | exact Nat.le_refl _⟩, ⟨by repeat (first | (with_reducible first | exact HB.out | apply Qab | apply Qaa | apply Qac) | exact HB.out)⟩⟩
 case rest =>
  clear HC2; (try clear c2); (try clear p2); (try clear c3); (try clear c3b0); obtain ⟨kq, x8_1, rfl, HA, HJ1, HB⟩ := hcut
  cases kq with
  | zero => exact absurd HA.out (by simp [liveryref04_Domain.j0])
  | succ kj1 =>
   have H := HA.out; clear HA; simp only [liveryref04_Domain.j0] at H
   by_cases c4 : x8_1 = true
   ·subst c4
    have H1 : (some (⟨#[]⟩ : ByteArray)) = some r := by rw [if_pos rfl] at H; exact H
    clear H; have H := H1; clear H1; obtain rfl := Option.some.inj H; go_wp2; go_ret; exact ⟨by first | rfl | (simp [Qau, Qat] <;> rfl) | (simp [*, Qau, Qat] <;> rfl), by repeat (first | (with_reducible first | exact HB.out | apply Qab | apply Qaa | apply Qac) | exact HB.out)⟩
   ·replace c4 := Bool.eq_false_iff.mpr c4; subst c4
    have H1 : (if a0 < 10 then ((some (([(wrap64 (48 + a0)) % 256] : List Int) : List Int)).bind fun y101 => (if 1 + (strOfNums y101).size ≤ 9223372036854775807 then (some ((⟨#[100]⟩ : ByteArray) ++ (strOfNums y101))) else (none))) else ((some (([(wrap64 ((wrap64 (48 + a0)) - 10)) % 256] : List Int) : List Int)).bind fun y104 => (if 2 + (strOfNums y104).size ≤ 9223372036854775807 then (some ((⟨#[100, 49]⟩ : ByteArray) ++ (strOfNums y104))) else (none)))) = some r := by rw [if_neg (show ¬ (false = true) by decide)] at H; exact H
    clear H; have H := H1; clear H1
    by_cases c5 : a0 < 10
    ·rw [if_pos c5] at H; have c5b0 : decide (a0 < 10) = true := decide_eq_true c5; clear c5
     obtain ⟨y101, hy101⟩ : ∃ y_ : List Int, y_ = (([(wrap64 (48 + a0)) % 256] : List Int)) := ⟨_, rfl⟩
     replace H : (if 1 + (strOfNums y101).size ≤ 9223372036854775807 then (some ((⟨#[100]⟩ : ByteArray) ++ (strOfNums y101))) else (none)) = some r := by first | (rw [hy101]; with_reducible exact H) | (have H2_ := (Option.bind_some _ _).symm.trans H; rw [hy101]; with_reducible exact H2_) | (have H2_ := (Option.bind_some _ _).symm.trans H; with_reducible exact H2_) | with_reducible exact H | (rw [hy101]; exact H) | exact H
     have Ny101 := Qad.mk hy101; clear hy101
     by_cases c6 : 1 + (strOfNums y101).size ≤ 9223372036854775807
     ·rw [if_pos c6] at H; have c6b0 := eq_true c6; have c6b1 : decide (1 + (strOfNums y101).size ≤ 9223372036854775807) = true := decide_eq_true c6
      try have c6b2 : (9223372036854775807 < 1 + (strOfNums y101).size) = False := eq_false (Nat.not_lt.2 c6)
      obtain rfl := Option.some.inj H
      go_wp2_with (first | ((with_reducible refine gate_dst (N := 14) rfl ?_); refine Kd.R_lit (Kd.int .u8) _ 5 ?hg (N := 14) ?hd (xs := ([(wrap64 (48 + a0)) % 256] : List Int)) (inner := [.int .u8 ((wrap64 (48 + a0)) % 256)]) (ok := fun _ => True) (okp := fun _ => True) ?hr ?hp (fun _ hk => hk) trivial (Below.refl _ _) (Nat.le_refl _) (by simp) ?_; (case hd => rfl); (case hg => rfl); (case hr => first | (go_simp; done) | (go_simp; rfl)); (case hp => exact (Reps.one (show Kd.M (Kd.int .u8) _ _ _ ((wrap64 (48 + a0)) % 256) [.int .u8 ((wrap64 (48 + a0)) % 256)] from rfl) (Reps.none _ _))); intro v102 w7 ho8 hb hg_ hnew_; clear hg_ hnew_; (first | rw [← Ny101.out] at ho8 | (simp only [Int.reduceToNat] at ho8; rw [← Ny101.out] at ho8)); have n0_ := Qad.mk (Kd.R_lower ho8 (Qav (by repeat (first | (with_reducible first | exact HB.out | apply Qab | apply Qaa | apply Qac) | exact HB.out)))); have n1_ := Qad.mk (Qaf (by repeat (first | (with_reducible first | exact HB.out | apply Qab | apply Qaa | apply Qac) | exact HB.out)) hb); clear HB; have HO103 := n0_; have HB := n1_; clear n0_ n1_; clear hb ho8; have hcv9 := own_string (P := Tryd.prog) Tryd.underlying78 Tryd.underlying5 Tryd.underlying9 (Kd.own_of_R HO103.out)))
      go_ret; exact ⟨by first | rfl | (simp [Qau, Qat] <;> rfl) | (simp [*, Qau, Qat] <;> rfl), by repeat (first | (with_reducible first | exact HB.out | apply Qab | apply Qaa | apply Qac) | exact HB.out)⟩
     ·rw [if_neg c6] at H; exact absurd H (by simp)
    ·rw [if_neg c5] at H; have c5b0 : decide (a0 < 10) = false := decide_eq_false c5; clear c5
     obtain ⟨y104, hy104⟩ : ∃ y_ : List Int, y_ = (([(wrap64 ((wrap64 (48 + a0)) - 10)) % 256] : List Int)) := ⟨_, rfl⟩
     replace H : (if 2 + (strOfNums y104).size ≤ 9223372036854775807 then (some ((⟨#[100, 49]⟩ : ByteArray) ++ (strOfNums y104))) else (none)) = some r := by first | (rw [hy104]; with_reducible exact H) | (have H2_ := (Option.bind_some _ _).symm.trans H; rw [hy104]; with_reducible exact H2_) | (have H2_ := (Option.bind_some _ _).symm.trans H; with_reducible exact H2_) | with_reducible exact H | (rw [hy104]; exact H) | exact H
     have Ny104 := Qad.mk hy104; clear hy104
     by_cases c10 : 2 + (strOfNums y104).size ≤ 9223372036854775807
     ·rw [if_pos c10] at H; have c10b0 := eq_true c10; have c10b1 : decide (2 + (strOfNums y104).size ≤ 9223372036854775807) = true := decide_eq_true c10
      try have c10b2 : (9223372036854775807 < 2 + (strOfNums y104).size) = False := eq_false (Nat.not_lt.2 c10)
      obtain rfl := Option.some.inj H
      go_wp2_with (first | ((with_reducible refine gate_dst (N := 21) rfl ?_); refine Kd.R_lit (Kd.int .u8) _ 5 ?hg (N := 21) ?hd (xs := ([(wrap64 ((wrap64 (48 + a0)) - 10)) % 256] : List Int)) (inner := [.int .u8 ((wrap64 ((wrap64 (48 + a0)) - 10)) % 256)]) (ok := fun _ => True) (okp := fun _ => True) ?hr ?hp (fun _ hk => hk) trivial (Below.refl _ _) (Nat.le_refl _) (by simp) ?_; (case hd => rfl); (case hg => rfl); (case hr => first | (go_simp; done) | (go_simp; rfl)); (case hp => exact (Reps.one (show Kd.M (Kd.int .u8) _ _ _ ((wrap64 ((wrap64 (48 + a0)) - 10)) % 256) [.int .u8 ((wrap64 ((wrap64 (48 + a0)) - 10)) % 256)] from rfl) (Reps.none _ _))); intro v105 w11 ho12 hb hg_ hnew_; clear hg_ hnew_; (first | rw [← Ny104.out] at ho12 | (simp only [Int.reduceToNat] at ho12; rw [← Ny104.out] at ho12)); have n0_ := Qad.mk (Kd.R_lower ho12 (Qav (by repeat (first | (with_reducible first | exact HB.out | apply Qab | apply Qaa | apply Qac) | exact HB.out)))); have n1_ := Qad.mk (Qaf (by repeat (first | (with_reducible first | exact HB.out | apply Qab | apply Qaa | apply Qac) | exact HB.out)) hb); clear HB; have HO106 := n0_; have HB := n1_; clear n0_ n1_; clear hb ho12; have hcv13 := own_string (P := Tryd.prog) Tryd.underlying78 Tryd.underlying5 Tryd.underlying9 (Kd.own_of_R HO106.out)))
      go_ret; exact ⟨by first | rfl | (simp [Qau, Qat] <;> rfl) | (simp [*, Qau, Qat] <;> rfl), by repeat (first | (with_reducible first | exact HB.out | apply Qab | apply Qaa | apply Qac) | exact HB.out)⟩
     ·rw [if_neg c10] at H; exact absurd H (by simp)
def liveryref05_Role.f (k : Nat) (a0_0 : Int) (a0_1 : Int) (a0_2 : ByteArray) (a0_3 : Int) (a0_4 : ByteArray) (a0_5 : ByteArray) (a0_6 : ByteArray) (a0_7 : ByteArray) (a0_8 : ByteArray) : Option (ByteArray × ByteArray) := (liveryref04_Domain.f k a0_0).bind fun t103 => (some (t103, a0_2))
def liveryref05_Role.T1 : Bool × List (List Nat × List Nat) := (true, [([], []), ([0], [0]), ([1], [1]), ([2], [2]), ([], []), ([4], [4]), ([3, 5], [3, 5]), ([6, 3, 0, 1, 2, 3, 4, 5, 6], [6])])
def liveryref05_Role.B1 : List Nat := [0, 1, 3, 7, 0, 16, 63, 127]
theorem liveryref05_Role.tab1 : rtab .any (opsOf Tryd.f16 1) = liveryref05_Role.T1 := by kernel_rfl
theorem liveryref05_Role.bits1 : waitsOk liveryref05_Role.T1.2 liveryref05_Role.B1 = true := by kernel_rfl
set_option maxHeartbeats 8000000 in
set_option maxRecDepth 100000 in
theorem liveryref05_Role.calls (k : Nat) (a0_0 : Int) (a0_1 : Int) (a0_2 : ByteArray) (a0_3 : Int) (a0_4 : ByteArray) (a0_5 : ByteArray) (a0_6 : ByteArray) (a0_7 : ByteArray) (a0_8 : ByteArray) (r1 : ByteArray) (r2 : ByteArray) (w : World) (h : liveryref05_Role.f k a0_0 a0_1 a0_2 a0_3 a0_4 a0_5 a0_6 a0_7 a0_8 = some (r1, r2)) :
  Calls Tryd.prog 16 #[.agg #[.int .i64 a0_0, .int .i64 a0_1, .string a0_2, .int .i64 a0_3, .string a0_4, .string a0_5, .string a0_6, .string a0_7, .string a0_8]] w fun e w' => e = .returned (.agg #[.string r1, .string r2]) ∧ Below w.heap.size w w' := by
 have hu42 := Tryd.underlying42; have hu24 := Tryd.underlying24; have HB := Qad.mk (Below.refl w.heap.size w); have H : ((liveryref04_Domain.f k a0_0).bind fun t103 => (some (t103, a0_2))) = some (r1, r2) := h; clear h; replace H := Option.bind_eq_some_iff.mp H; obtain ⟨t103, A20, H⟩ := H; replace H : (some (t103, a0_2)) = some (r1, r2) := H; have A2 := Qad.mk A20; clear A20; simp only [Option.some.injEq, Prod.mk.injEq] at H; obtain ⟨rfl, rfl⟩ := H; go_enter Tryd.func16, Tryd.ntmps16
 try go_wp2_with (first | ((with_reducible refine gate_dst (N := 1) rfl ?_); refine box_event ?hg (N := 1) ?hd (cs := #[.int .i64 a0_0, .int .i64 a0_1, .string a0_2, .int .i64 a0_3, .string a0_4, .string a0_5, .string a0_6, .string a0_7, .string a0_8]) (t := 42) ?hr ?_; (case hd => rfl); (case hg => rfl); (case hr => first | (go_simp; done) | (go_simp; rfl)); intro gb101 hg w3 hbox hb; have n0_ := Qad.mk (Qaf (by repeat (first | (with_reducible first | exact HB.out | apply Qab | apply Qaa | apply Qac) | exact HB.out)) hb); have n1_ := Qad.mk (hbox); have n2_ := Qad.mk ((by rw [hg]; exact (Qav (by repeat (first | (with_reducible first | exact HB.out | apply Qab | apply Qaa | apply Qac) | exact HB.out))) : w.heap.size ≤ gb101)); have n3_ := n2_; clear HB; have HB := n0_; have BK101 := n1_; have GW101 := n2_; have GE101 := n3_; clear n0_ n1_ n2_ n3_; clear hb hbox hg) | ((with_reducible refine gate_dst (N := 2) rfl ?_); refine box_event ?hg (N := 2) ?hd (cs := #[.string (⟨#[]⟩ : ByteArray), .string (⟨#[]⟩ : ByteArray)]) (t := 24) ?hr ?_; (case hd => rfl); (case hg => rfl); (case hr => first | (go_simp; done) | (go_simp; rfl)); intro gb102 hg w4 hbox hb; have n0_ := Qad.mk (Qae (g := gb101) (o := Qaw a0_0 a0_1 a0_2 a0_3 a0_4 a0_5 a0_6 a0_7 a0_8 42) (by (with_reducible repeat (first | refine Qah ?_ _ | refine Qak ?_ | refine Qag ?_ _)); exact BK101.out) hb); have n1_ := Qad.mk (Qaf (by repeat (first | (with_reducible first | exact HB.out | apply Qab | apply Qaa | apply Qac | refine Qaj ?_ GE101.out) | exact HB.out)) hb); have n2_ := Qad.mk (hbox); have n3_ := Qad.mk ((by rw [hg]; exact (Qav (by repeat (first | (with_reducible first | exact HB.out | apply Qab | apply Qaa | apply Qac | refine Qaj ?_ GE101.out) | exact HB.out))) : w.heap.size ≤ gb102)); have n4_ := n3_; have n5_ := Qad.mk ((by rw [hg]; exact Nat.ne_of_lt (blk_lt (g := gb101) (o := Qaw a0_0 a0_1 a0_2 a0_3 a0_4 a0_5 a0_6 a0_7 a0_8 42) (by (with_reducible repeat (first | refine Qah ?_ _ | refine Qak ?_ | refine Qag ?_ _)); exact BK101.out)) : gb101 ≠ gb102)); have n6_ := Qad.mk ((by rw [hg]; exact Nat.ne_of_gt (blk_lt (g := gb101) (o := Qaw a0_0 a0_1 a0_2 a0_3 a0_4 a0_5 a0_6 a0_7 a0_8 42) (by (with_reducible repeat (first | refine Qah ?_ _ | refine Qak ?_ | refine Qag ?_ _)); exact BK101.out)) : gb102 ≠ gb101)); clear BK101; clear HB; have BK101 := n0_; have HB := n1_; have BK102 := n2_; have GW102 := n3_; have GE102 := n4_; have NB101_102 := n5_; have NB102_101 := n6_; clear n0_ n1_ n2_ n3_ n4_ n5_ n6_; clear hb hbox hg))
 have n0_ := Qad.mk (Qak BK101.out); have n1_ := Qad.mk (Qak BK102.out); have n2_ := Qad.mk (Qac HB.out); clear BK101; clear BK102; clear HB; have BK101 := n0_; have BK102 := n1_; have HB := n2_; clear n0_ n1_ n2_; refine start_ (n := 8) (S := fun w' => w'.cell? ⟨gb101, 0, none⟩ = some (.int .i64 a0_0) ∧ w'.cell? ⟨gb101, 1, none⟩ = some (.int .i64 a0_1) ∧ w'.cell? ⟨gb101, 2, none⟩ = some (.string a0_2) ∧ w'.cell? ⟨gb101, 3, none⟩ = some (.int .i64 a0_3) ∧ w'.cell? ⟨gb101, 4, none⟩ = some (.string a0_4) ∧ w'.cell? ⟨gb101, 5, none⟩ = some (.string a0_5) ∧ w'.cell? ⟨gb101, 6, none⟩ = some (.string a0_6) ∧ w'.cell? ⟨gb101, 7, none⟩ = some (.string a0_7) ∧ w'.cell? ⟨gb101, 8, none⟩ = some (.string a0_8)) (ds := []) #[ff,ff,ff,ff,ff,ff,ff,ff] (by kernel_rfl) rfl rfl ⟨(Qai BK101.out 0).trans rfl, (Qai BK101.out 1).trans rfl, (Qai BK101.out 2).trans rfl, (Qai BK101.out 3).trans rfl, (Qai BK101.out 4).trans rfl, (Qai BK101.out 5).trans rfl, (Qai BK101.out 6).trans rfl, (Qai BK101.out 7).trans rfl, (Qai BK101.out 8).trans rfl⟩ (fun hHeld => ?_); refine with_tabW liveryref05_Role.tab1 liveryref05_Role.bits1 (fun HT_ HW_ => ?_)
 generalize w4.drew = w5 at BK101 BK102 HB hHeld ⊢
 refine pure_ (i := 0) (N := some 3) (v := ?_) (a' := ?_) #[tt,ff,ff,ff,ff,ff,ff,ff] rfl rfl (any_of HT_.out (by kernel_rfl)) (fun _ _ _ h => h) (Or.inl ⟨by rfl, ?_⟩) ?_ ?_; rotate_left
 ·intro w'; go_simp; (with_reducible rfl)
 rotate_left
 ·simp only [Act.put, put_, i64_w, i32_w]; rfl
 refine pure_ (i := 1) (N := some 4) (v := ?_) (a' := ?_) #[tt,tt,ff,ff,ff,ff,ff,ff] rfl rfl (any_of HT_.out (by kernel_rfl)) (fun _ _ _ h => h) (Or.inl ⟨by rfl, ?_⟩) ?_ ?_; rotate_left
 ·intro w'; go_simp; (with_reducible rfl)
 rotate_left
 ·simp only [Act.put, put_, i64_w, i32_w]; rfl
 refine pure_ (i := 4) (N := some 7) (v := ?_) (a' := ?_) #[tt,tt,ff,ff,tt,ff,ff,ff] rfl rfl (any_of HT_.out (by kernel_rfl)) (fun _ _ _ h => h) (Or.inl ⟨by rfl, ?_⟩) ?_ ?_; rotate_left
 ·intro w'; go_simp; (with_reducible rfl)
 rotate_left
 ·simp only [Act.put, put_, i64_w, i32_w]; rfl
 refine take_ (i := 2) (N := some 5) (v := ?_) (a' := ?_) #[tt,tt,tt,ff,tt,ff,ff,ff] rfl rfl (take_ofW HT_.out HW_.out (by kernel_rfl)) (fun _ _ _ h => h) (Or.inl ⟨by rfl, ?_⟩) hHeld ?_ ?_; rotate_left
 ·rintro w' ⟨s0, s1, s2, s3, s4, s5, s6, s7, s8⟩; go_simp; (with_reducible rfl)
 rotate_left
 ·simp only [Act.put, put_, i64_w, i32_w]; rfl
 refine take_ (i := 5) (N := some 8) (v := ?_) (a' := ?_) #[tt,tt,tt,ff,tt,tt,ff,ff] rfl rfl (take_ofW HT_.out HW_.out (by kernel_rfl)) (fun _ _ _ h => h) (Or.inl ⟨by rfl, ?_⟩) hHeld ?_ ?_; rotate_left
 ·rintro w' ⟨s0, s1, s2, s3, s4, s5, s6, s7, s8⟩; go_simp; (with_reducible rfl)
 rotate_left
 ·simp only [Act.put, put_, i64_w, i32_w]; rfl
 refine one_ (i := 3) (N := some 6) #[tt,tt,tt,tt,tt,tt,ff,ff] rfl rfl (one_of HT_.out (by kernel_rfl)) (by decide) (fun K hK => ?_); refine goes_ Tryd.func26 (by kernel_rfl) rfl #[.int .i64 a0_0] (by rfl) rfl rfl (by (try simp only [List.map_toArray, List.map_cons, List.map_nil]); first | done | rfl | (simp only [List.length_drop, List.length_take]; rfl)) ?_
 with_reducible refine (liveryref04_Domain.calls k a0_0 t103 _ A2.out).mono ?_
 rintro e w6 ⟨rfl, hb⟩; refine ⟨_, rfl, ?_⟩; have n0_ := Qad.mk (Qae (g := gb101) (o := Qaw a0_0 a0_1 a0_2 a0_3 a0_4 a0_5 a0_6 a0_7 a0_8 42) (by (with_reducible repeat (first | refine Qah ?_ _ | refine Qak ?_ | refine Qag ?_ _)); exact BK101.out) hb); have n1_ := Qad.mk (Qae (g := gb102) (o := ob_ss (⟨#[]⟩ : ByteArray) (⟨#[]⟩ : ByteArray) 24) (by (with_reducible repeat (first | refine Qah ?_ _ | refine Qak ?_ | refine Qag ?_ _)); exact BK102.out) hb); have n2_ := Qad.mk (Qaf (by repeat (first | (with_reducible first | exact HB.out | apply Qab | apply Qaa | apply Qac | refine Qaj ?_ GE101.out | refine Qaj ?_ GE102.out) | exact HB.out)) hb); clear BK101; clear BK102; clear HB; have BK101 := n0_; have BK102 := n1_; have HB := n2_; clear n0_ n1_ n2_
 (try clear hb)
 (try clear hb2)
 (try clear hk)
 (try clear hi)
 refine hK.out _ _ ⟨(Qai BK101.out 0).trans rfl, (Qai BK101.out 1).trans rfl, (Qai BK101.out 2).trans rfl, (Qai BK101.out 3).trans rfl, (Qai BK101.out 4).trans rfl, (Qai BK101.out 5).trans rfl, (Qai BK101.out 6).trans rfl, (Qai BK101.out 7).trans rfl, (Qai BK101.out 8).trans rfl⟩ (fun hHeld => ?_); clear hK K; refine norm_ (a' := ?_) ?_ ?_; rotate_left
 ·show Act.put _ (some 6) _ = _
  simp only [Act.put, put_, i64_w, i32_w]; rfl
 refine pure_ (i := 6) (N := some 9) (v := ?_) (a' := ?_) #[tt,tt,tt,tt,tt,tt,tt,ff] rfl rfl (any_of HT_.out (by kernel_rfl)) (fun _ _ _ h => h) (Or.inl ⟨by rfl, ?_⟩) ?_ ?_; rotate_left
 ·intro w'; go_simp; (with_reducible rfl)
 rotate_left
 ·simp only [Act.put, put_, i64_w, i32_w]; rfl
 refine one_ (i := 7) (N := none) #[tt,tt,tt,tt,tt,tt,tt,tt] rfl rfl (one_of HT_.out (by kernel_rfl)) (by decide) (fun K hK => ?_); have hs7 : w6.cell? ⟨gb102, 0, none⟩ = some (.string (⟨#[]⟩ : ByteArray)) := (Qai BK102.out 0).trans rfl; have hfs7 := Qal BK102.out 0; have hns7_0 := NB101_102.out; have hms7_0 := NB102_101.out; have hs8 : w6.cell? ⟨gb102, 1, none⟩ = some (.string (⟨#[]⟩ : ByteArray)) := (Qai BK102.out 1).trans rfl; have hfs8 := Qal BK102.out 1; have hns8_0 := NB101_102.out; have hms8_0 := NB102_101.out; refine skip_ (w1 := ?_) (by rfl) rfl ?_ ?_; rotate_left
 ·go_simp; rfl
 refine hK.out _ _ ⟨((cell_far (p := ⟨gb102, _, none⟩) NB101_102.out _).trans (((cell_far (p := ⟨gb102, _, none⟩) NB101_102.out _).trans (hHeld.1)))), ((cell_far (p := ⟨gb102, _, none⟩) NB101_102.out _).trans (((cell_far (p := ⟨gb102, _, none⟩) NB101_102.out _).trans (hHeld.2.1)))), ((cell_far (p := ⟨gb102, _, none⟩) NB101_102.out _).trans (((cell_far (p := ⟨gb102, _, none⟩) NB101_102.out _).trans (hHeld.2.2.1)))), ((cell_far (p := ⟨gb102, _, none⟩) NB101_102.out _).trans (((cell_far (p := ⟨gb102, _, none⟩) NB101_102.out _).trans (hHeld.2.2.2.1)))), ((cell_far (p := ⟨gb102, _, none⟩) NB101_102.out _).trans (((cell_far (p := ⟨gb102, _, none⟩) NB101_102.out _).trans (hHeld.2.2.2.2.1)))), ((cell_far (p := ⟨gb102, _, none⟩) NB101_102.out _).trans (((cell_far (p := ⟨gb102, _, none⟩) NB101_102.out _).trans (hHeld.2.2.2.2.2.1)))), ((cell_far (p := ⟨gb102, _, none⟩) NB101_102.out _).trans (((cell_far (p := ⟨gb102, _, none⟩) NB101_102.out _).trans (hHeld.2.2.2.2.2.2.1)))), ((cell_far (p := ⟨gb102, _, none⟩) NB101_102.out _).trans (((cell_far (p := ⟨gb102, _, none⟩) NB101_102.out _).trans (hHeld.2.2.2.2.2.2.2.1)))), ((cell_far (p := ⟨gb102, _, none⟩) NB101_102.out _).trans (((cell_far (p := ⟨gb102, _, none⟩) NB101_102.out _).trans (hHeld.2.2.2.2.2.2.2.2))))⟩ (fun hHeld => ?_); clear hK K; refine done_ (done_of HT_.out (by kernel_rfl)) ?_
 try go_wp2
 refine bodyPost_ret (results_cell_row rfl _ _ gb102 24 #[.string t103, .string a0_2] (0, 0) _ rfl (by (with_reducible repeat (first | refine Qah ?_ _ | refine Qak ?_ | refine Qag ?_ _)); refine blk_put (cs := #[.string t103, .string (⟨#[]⟩ : ByteArray)]) ?_ 1 _ rfl; (with_reducible repeat (first | refine Qah ?_ _ | refine Qak ?_ | refine Qag ?_ _)); refine blk_put (cs := #[.string (⟨#[]⟩ : ByteArray), .string (⟨#[]⟩ : ByteArray)]) ?_ 0 _ rfl; (with_reducible repeat (first | refine Qah ?_ _ | refine Qak ?_ | refine Qag ?_ _)); exact BK102.out) Tryd.underlying24 rfl (by kernel_rfl)) rfl ?_; exact ⟨by first | rfl | (simp [Qau, Qat] <;> rfl) | (simp [*, Qau, Qat] <;> rfl), by repeat (first | (with_reducible first | exact HB.out | apply Qab | apply Qaa | apply Qac | refine Qaj ?_ GE101.out | refine Qaj ?_ GE102.out) | exact HB.out)⟩
mutual
def Qao.j0 : Nat → ByteArray → Bool → Option (Int)
 | 0, _, _ => none
 | k + 1, x0, x26 => if x26 = true then (some 0) else (if 1 < (x0.size : Int) then (if (x0.size : Int) = 3 then (if 2 < (x0.size : Int) then (if (bt x0 2) < 48 then (Qao.j1 k x0 (((bt x0 1) - 48) % 256) true) else (Qao.j1 k x0 (((bt x0 1) - 48) % 256) (decide ((bt x0 2) > 57)))) else (none)) else (if (((bt x0 1) - 48) % 256) > 16 then (some 0) else (some (((bt x0 1) - 48) % 256)))) else (none))
def Qao.j1 : Nat → ByteArray → Int → Bool → Option (Int)
 | 0, _, _, _ => none
 | k + 1, x0, x3, x41 => if x41 = true then (some 0) else (if 2 < (x0.size : Int) then (if (((10 * x3) + (((bt x0 2) - 48) % 256))) > 16 then (some 0) else (some (((10 * x3) + (((bt x0 2) - 48) % 256))))) else (none))
end
def Qao.f (k : Nat) (a0 : ByteArray) : Option (Int) := if (a0.size : Int) < 2 then (Qao.j0 k a0 true) else (if (a0.size : Int) > 3 then (Qao.j0 k a0 true) else (if 0 < (a0.size : Int) then (if (bt a0 0) = 100 then (if 1 < (a0.size : Int) then (if (bt a0 1) < 49 then (Qao.j0 k a0 true) else (Qao.j0 k a0 (decide ((bt a0 1) > 57)))) else (none)) else (Qao.j0 k a0 true)) else (none)))
set_option maxHeartbeats 8000000 in
set_option maxRecDepth 100000 in
theorem Qao.calls (k : Nat) (a0 : ByteArray) (r : Int) (w : World) (h : Qao.f k a0 = some r) :
  Calls Tryd.prog 17 #[.string a0] w fun e w' => e = .returned (.int .i64 r) ∧ Drawn0 w w' := by
 have H : (if (a0.size : Int) < 2 then (Qao.j0 k a0 true) else (if (a0.size : Int) > 3 then (Qao.j0 k a0 true) else (if 0 < (a0.size : Int) then (if (bt a0 0) = 100 then (if 1 < (a0.size : Int) then (if (bt a0 1) < 49 then (Qao.j0 k a0 true) else (Qao.j0 k a0 (decide ((bt a0 1) > 57)))) else (none)) else (Qao.j0 k a0 true)) else (none)))) = some r := h; clear h; have HC2 := Qad.mk H; clear H; go_enter Tryd.func17, Tryd.ntmps17
 go_upto_region 1 with (fail)
 go_cut [26] (fun v26 wc => ∃ (kq : Nat) (x26_1 : Bool), v26 = .bool x26_1 ∧ Qad (Qao.j0 kq a0 x26_1 = some r) ∧ Qad (kq ≤ k) ∧ Drawn0 w wc)
 case first =>
  have H := HC2.out; clear HC2
  by_cases c3 : (a0.size : Int) < 2
  ·rw [if_pos c3] at H; have c3b0 : decide ((a0.size : Int) < 2) = true := decide_eq_true c3; have c3b1 : decide (a0.size < 2) = true := decide_eq_true (by omega); clear c3
   (first | rw [c3b0] | (simp only [i64_w, i32_w]; rw [c3b0]) | skip)
   have H' := Qad.mk H; clear H; go_wp2
   go_meet
   case rel => exact ⟨_, (true), (by first | rfl | (simp; done) | (simp [*]; done)), H', ⟨by first | omega | exact Nat.le_refl _⟩, by repeat (first | exact Drawn0.refl _ | apply Drawn0.step)⟩
  ·rw [if_neg c3] at H; have c3b0 : decide ((a0.size : Int) < 2) = false := decide_eq_false c3; have c3b1 : decide (a0.size < 2) = false := decide_eq_false (by omega); clear c3
   (first | rw [c3b0] | (simp only [i64_w, i32_w]; rw [c3b0]) | skip)
   by_cases c4 : (a0.size : Int) > 3
   ·rw [if_pos c4] at H; have c4b0 : decide (3 < (a0.size : Int)) = true := decide_eq_true c4; have c4b1 : decide (3 < a0.size) = true := decide_eq_true (by omega); clear c4; have H' := Qad.mk H; clear H; go_wp2
    go_meet
    case rel => exact ⟨_, (true), (by first | rfl | (simp; done) | (simp [*]; done)), H', ⟨by first | omega | exact Nat.le_refl _⟩, by repeat (first | exact Drawn0.refl _ | apply Drawn0.step)⟩
   ·rw [if_neg c4] at H; have c4b0 : decide (3 < (a0.size : Int)) = false := decide_eq_false c4; have c4b1 : decide (3 < a0.size) = false := decide_eq_false (by omega); clear c4
    by_cases c5 : 0 < (a0.size : Int)
    ·rw [if_pos c5] at H; have c5b0 : decide (0 < (a0.size : Int)) = true := decide_eq_true c5; have c5b1 : decide (0 < a0.size) = true := decide_eq_true (by omega); clear c5
     by_cases c7 : (bt a0 0) = 100
     ·rw [if_pos c7] at H; have c7b0 : ((bt a0 0) == 100) = true := beq_iff_eq.mpr c7; have c7b1 : ((bt a0 0) != 100) = false := bne_eq_false_iff_eq.mpr c7; clear c7
      by_cases c8 : 1 < (a0.size : Int)
      ·rw [if_pos c8] at H; have c8b0 : decide (1 < (a0.size : Int)) = true := decide_eq_true c8; have c8b1 : decide (1 < a0.size) = true := decide_eq_true (by omega); clear c8
       by_cases c10 : (bt a0 1) < 49
       ·rw [if_pos c10] at H; have c10b0 : decide ((bt a0 1) < 49) = true := decide_eq_true c10; clear c10; have H' := Qad.mk H; clear H
        have p6 : 0 ≤ (0 : Int) := (by omega)
        have q6 : 0 < a0.size := (by have : (0 : Int) < (a0.size : Int) := of_decide_eq_true (by first | (with_reducible assumption) | assumption); omega)
        have hx6 : ∀ h : 0 < a0.size, ((a0[0]'h).toNat : Int) = bt a0 0 := bt_at a0 0; clear p6; have qi6 : (0 < (a0.size : Int)) = True := eq_true (of_decide_eq_true (by first | (with_reducible assumption) | assumption)); replace q6 := eq_true q6
        have p9 : 0 ≤ (1 : Int) := (by omega)
        have q9 : 1 < a0.size := (by have : (1 : Int) < (a0.size : Int) := of_decide_eq_true (by first | (with_reducible assumption) | assumption); omega)
        have hx9 : ∀ h : 1 < a0.size, ((a0[1]'h).toNat : Int) = bt a0 1 := bt_at a0 1; clear p9; have qi9 : (1 < (a0.size : Int)) = True := eq_true (of_decide_eq_true (by first | (with_reducible assumption) | assumption)); replace q9 := eq_true q9; go_wp2
        go_meet
        case rel => exact ⟨_, (true), (by first | rfl | (simp; done) | (simp [*]; done)), H', ⟨by first | omega | exact Nat.le_refl _⟩, by repeat (first | exact Drawn0.refl _ | apply Drawn0.step)⟩
       ·rw [if_neg c10] at H; have c10b0 : decide ((bt a0 1) < 49) = false := decide_eq_false c10; clear c10; have H' := Qad.mk H; clear H
        have p6 : 0 ≤ (0 : Int) := (by omega)
        have q6 : 0 < a0.size := (by have : (0 : Int) < (a0.size : Int) := of_decide_eq_true (by first | (with_reducible assumption) | assumption); omega)
        have hx6 : ∀ h : 0 < a0.size, ((a0[0]'h).toNat : Int) = bt a0 0 := bt_at a0 0; clear p6; have qi6 : (0 < (a0.size : Int)) = True := eq_true (of_decide_eq_true (by first | (with_reducible assumption) | assumption)); replace q6 := eq_true q6
        have p9 : 0 ≤ (1 : Int) := (by omega)
        have q9 : 1 < a0.size := (by have : (1 : Int) < (a0.size : Int) := of_decide_eq_true (by first | (with_reducible assumption) | assumption); omega)
        have hx9 : ∀ h : 1 < a0.size, ((a0[1]'h).toNat : Int) = bt a0 1 := bt_at a0 1; clear p9; have qi9 : (1 < (a0.size : Int)) = True := eq_true (of_decide_eq_true (by first | (with_reducible assumption) | assumption)); replace q9 := eq_true q9
        have p11 : 0 ≤ (1 : Int) := (by omega)
        have q11 : 1 < a0.size := (by have : (1 : Int) < (a0.size : Int) := of_decide_eq_true (by first | (with_reducible assumption) | assumption); omega)
        have hx11 : ∀ h : 1 < a0.size, ((a0[1]'h).toNat : Int) = bt a0 1 := bt_at a0 1; clear p11; have qi11 : (1 < (a0.size : Int)) = True := eq_true (of_decide_eq_true (by first | (with_reducible assumption) | assumption)); replace q11 := eq_true q11; go_wp2
        go_meet
        case rel => exact ⟨_, (decide ((bt a0 1) > 57)), (by first | rfl | (simp; done) | (simp [*]; done)), H', ⟨by first | omega | exact Nat.le_refl _⟩, by repeat (first | exact Drawn0.refl _ | apply Drawn0.step)⟩
      ·rw [if_neg c8] at H; exact absurd H (by simp)
     ·rw [if_neg c7] at H; have c7b0 : ((bt a0 0) == 100) = false := beq_eq_false_iff_ne.mpr c7; have c7b1 : ((bt a0 0) != 100) = true := bne_iff_ne.mpr c7; have H' := Qad.mk H; clear H
      have p6 : 0 ≤ (0 : Int) := (by omega)
      have q6 : 0 < a0.size := (by have : (0 : Int) < (a0.size : Int) := of_decide_eq_true (by first | (with_reducible assumption) | assumption); omega)
      have hx6 : ∀ h : 0 < a0.size, ((a0[0]'h).toNat : Int) = bt a0 0 := bt_at a0 0; clear p6; have qi6 : (0 < (a0.size : Int)) = True := eq_true (of_decide_eq_true (by first | (with_reducible assumption) | assumption)); replace q6 := eq_true q6; go_wp2
      go_meet
      case rel => exact ⟨_, (true), (by first | rfl | (simp; done) | (simp [*]; done)), H', ⟨by first | omega | exact Nat.le_refl _⟩, by repeat (first | exact Drawn0.refl _ | apply Drawn0.step)⟩
    ·rw [if_neg c5] at H; exact absurd H (by simp)
 case rest =>
  clear HC2; (try clear c1); (try clear p1); (try clear q1); (try clear hx1); (try clear qi1); (try clear p2); (try clear c3); (try clear c3b0); (try clear c3b1); (try clear c4); (try clear c4b0); (try clear c4b1); (try clear c5); (try clear c5b0); (try clear c5b1); (try clear p6); (try clear q6); (try clear hx6); (try clear qi6); (try clear c7); (try clear c7b0); (try clear c7b1); (try clear c8); (try clear c8b0); (try clear c8b1); (try clear p9); (try clear q9); (try clear hx9); (try clear qi9); (try clear c10); (try clear c10b0); (try clear p11); (try clear q11); (try clear hx11); (try clear qi11); (try clear p11); (try clear p6); (try clear p9); (try clear q11); (try clear q6); (try clear q9); obtain ⟨kq, x26_1, rfl, HA, HJ1, ⟨mc1, rfl⟩⟩ := hcut
  cases kq with
  | zero => exact absurd HA.out (by simp [Qao.j0])
  | succ kj1 =>
   have H := HA.out; clear HA; simp only [Qao.j0] at H
   by_cases c12 : x26_1 = true
   ·subst c12
    have H1 : (some 0) = some r := by rw [if_pos rfl] at H; exact H
    clear H; have H := H1; clear H1; obtain rfl := Option.some.inj H; go_wp2; go_ret; exact ⟨by first | rfl | (simp; done) | (simp [*]; done), by repeat (first | exact Drawn0.refl _ | apply Drawn0.step)⟩
   ·replace c12 := Bool.eq_false_iff.mpr c12; subst c12
    have H1 : (if 1 < (a0.size : Int) then (if (a0.size : Int) = 3 then (if 2 < (a0.size : Int) then (if (bt a0 2) < 48 then (Qao.j1 kj1 a0 (((bt a0 1) - 48) % 256) true) else (Qao.j1 kj1 a0 (((bt a0 1) - 48) % 256) (decide ((bt a0 2) > 57)))) else (none)) else (if (((bt a0 1) - 48) % 256) > 16 then (some 0) else (some (((bt a0 1) - 48) % 256)))) else (none)) = some r := by rw [if_neg (show ¬ (false = true) by decide)] at H; exact H
    clear H; have H := H1; clear H1
    by_cases c13 : 1 < (a0.size : Int)
    ·rw [if_pos c13] at H; have c13b0 : decide (1 < (a0.size : Int)) = true := decide_eq_true c13; have c13b1 : decide (1 < a0.size) = true := decide_eq_true (by omega); clear c13
     by_cases c15 : (a0.size : Int) = 3
     ·rw [if_pos c15] at H; have c15b0 : ((a0.size : Int) == 3) = true := beq_iff_eq.mpr c15; have c15b1 : ((a0.size : Int) != 3) = false := bne_eq_false_iff_eq.mpr c15; clear c15; have HC16 := Qad.mk H; clear H
      have p14 : 0 ≤ (1 : Int) := (by omega)
      have q14 : 1 < a0.size := (by have : (1 : Int) < (a0.size : Int) := of_decide_eq_true (by first | (with_reducible assumption) | assumption); omega)
      have hx14 : ∀ h : 1 < a0.size, ((a0[1]'h).toNat : Int) = bt a0 1 := bt_at a0 1; clear p14; have qi14 : (1 < (a0.size : Int)) = True := eq_true (of_decide_eq_true (by first | (with_reducible assumption) | assumption)); replace q14 := eq_true q14
      go_upto_region 5 with (fail)
      go_cut [41] (fun v41 wc => ∃ (kq : Nat) (x41_15 : Bool), v41 = .bool x41_15 ∧ Qad (Qao.j1 kq a0 (((bt a0 1) - 48) % 256) x41_15 = some r) ∧ Qad (kq ≤ kj1) ∧ Drawn0 w wc)
      case first =>
       have H := HC16.out; clear HC16
       by_cases c17 : 2 < (a0.size : Int)
       ·rw [if_pos c17] at H; have c17b0 : decide (2 < (a0.size : Int)) = true := decide_eq_true c17; have c17b1 : decide (2 < a0.size) = true := decide_eq_true (by omega); clear c17
        (first | rw [c17b0] | (simp only [i64_w, i32_w]; rw [c17b0]) | skip)
        by_cases c19 : (bt a0 2) < 48
        ·rw [if_pos c19] at H; have c19b0 : decide ((bt a0 2) < 48) = true := decide_eq_true c19; clear c19; have H' := Qad.mk H; clear H
         have p18 : 0 ≤ (2 : Int) := (by omega)
         have q18 : 2 < a0.size := (by have : (2 : Int) < (a0.size : Int) := of_decide_eq_true (by first | (with_reducible assumption) | assumption); omega)
         have hx18 : ∀ h : 2 < a0.size, ((a0[2]'h).toNat : Int) = bt a0 2 := bt_at a0 2; clear p18; have qi18 : (2 < (a0.size : Int)) = True := eq_true (of_decide_eq_true (by first | (with_reducible assumption) | assumption)); replace q18 := eq_true q18; go_wp2
         go_meet
         case rel => exact ⟨_, (true), (by first | rfl | (simp; done) | (simp [*]; done)), H', ⟨by have := HJ1.out; first | omega | exact Nat.le_refl _⟩, by repeat (first | exact Drawn0.refl _ | apply Drawn0.step)⟩
        ·rw [if_neg c19] at H; have c19b0 : decide ((bt a0 2) < 48) = false := decide_eq_false c19; clear c19; have H' := Qad.mk H; clear H
         have p18 : 0 ≤ (2 : Int) := (by omega)
         have q18 : 2 < a0.size := (by have : (2 : Int) < (a0.size : Int) := of_decide_eq_true (by first | (with_reducible assumption) | assumption); omega)
         have hx18 : ∀ h : 2 < a0.size, ((a0[2]'h).toNat : Int) = bt a0 2 := bt_at a0 2; clear p18; have qi18 : (2 < (a0.size : Int)) = True := eq_true (of_decide_eq_true (by first | (with_reducible assumption) | assumption)); replace q18 := eq_true q18
         have p20 : 0 ≤ (2 : Int) := (by omega)
         have q20 : 2 < a0.size := (by have : (2 : Int) < (a0.size : Int) := of_decide_eq_true (by first | (with_reducible assumption) | assumption); omega)
         have hx20 : ∀ h : 2 < a0.size, ((a0[2]'h).toNat : Int) = bt a0 2 := bt_at a0 2; clear p20; have qi20 : (2 < (a0.size : Int)) = True := eq_true (of_decide_eq_true (by first | (with_reducible assumption) | assumption)); replace q20 := eq_true q20; go_wp2
         go_meet
         case rel => exact ⟨_, (decide ((bt a0 2) > 57)), (by first | rfl | (simp; done) | (simp [*]; done)), H', ⟨by have := HJ1.out; first | omega | exact Nat.le_refl _⟩, by repeat (first | exact Drawn0.refl _ | apply Drawn0.step)⟩
       ·rw [if_neg c17] at H; exact absurd H (by simp)
      case rest =>
       clear HC16; (try clear c1); (try clear p1); (try clear q1); (try clear hx1); (try clear qi1); (try clear p2); (try clear q2); (try clear hx2); (try clear qi2); (try clear c3); (try clear c3b0); (try clear c3b1); (try clear c4); (try clear c4b0); (try clear c4b1); (try clear c5); (try clear c5b0); (try clear c5b1); (try clear p6); (try clear q6); (try clear hx6); (try clear qi6); (try clear c7); (try clear c7b0); (try clear c7b1); (try clear c8); (try clear c8b0); (try clear c8b1); (try clear p9); (try clear q9); (try clear hx9); (try clear qi9); (try clear c10); (try clear c10b0); (try clear p11); (try clear q11); (try clear hx11); (try clear qi11); (try clear c12); (try clear c13); (try clear c13b0); (try clear c13b1); (try clear p14); (try clear q14); (try clear hx14); (try clear qi14); (try clear c15); (try clear c15b0); (try clear c15b1); (try clear c17); (try clear c17b0); (try clear c17b1); (try clear p18); (try clear q18); (try clear hx18); (try clear qi18); (try clear c19); (try clear c19b0); (try clear p20); (try clear q20); (try clear hx20); (try clear qi20); (try clear p1); (try clear p11); (try clear p14); (try clear p18); (try clear p2); (try clear p20); (try clear p6); (try clear p9); (try clear q1); (try clear q11); (try clear q14); (try clear q18); (try clear q20); (try clear q6); (try clear q9); obtain ⟨kq, x41_15, rfl, HA, HJ15, ⟨mc15, rfl⟩⟩ := hcut
       cases kq with
       | zero => exact absurd HA.out (by simp [Qao.j1])
       | succ kj15 =>
        have H := HA.out; clear HA; simp only [Qao.j1] at H
        by_cases c21 : x41_15 = true
        ·subst c21
         have H1 : (some 0) = some r := by rw [if_pos rfl] at H; exact H
         clear H; have H := H1; clear H1; obtain rfl := Option.some.inj H; go_wp2; go_ret; exact ⟨by first | rfl | (simp; done) | (simp [*]; done), by repeat (first | exact Drawn0.refl _ | apply Drawn0.step)⟩
        ·replace c21 := Bool.eq_false_iff.mpr c21; subst c21
         have H1 : (if 2 < (a0.size : Int) then (if (((10 * (((bt a0 1) - 48) % 256)) + (((bt a0 2) - 48) % 256))) > 16 then (some 0) else (some (((10 * (((bt a0 1) - 48) % 256)) + (((bt a0 2) - 48) % 256))))) else (none)) = some r := by rw [if_neg (show ¬ (false = true) by decide)] at H; exact H
         clear H; have H := H1; clear H1
         by_cases c22 : 2 < (a0.size : Int)
         ·rw [if_pos c22] at H; have c22b0 : decide (2 < (a0.size : Int)) = true := decide_eq_true c22; have c22b1 : decide (2 < a0.size) = true := decide_eq_true (by omega); clear c22
          by_cases c24 : (((10 * (((bt a0 1) - 48) % 256)) + (((bt a0 2) - 48) % 256))) > 16
          ·rw [if_pos c24] at H; have c24b0 : decide (16 < (((10 * (((bt a0 1) - 48) % 256)) + (((bt a0 2) - 48) % 256)))) = true := decide_eq_true c24; clear c24; obtain rfl := Option.some.inj H
           have p23 : 0 ≤ (2 : Int) := (by omega)
           have q23 : 2 < a0.size := (by have : (2 : Int) < (a0.size : Int) := of_decide_eq_true (by first | (with_reducible assumption) | assumption); omega)
           have hx23 : ∀ h : 2 < a0.size, ((a0[2]'h).toNat : Int) = bt a0 2 := bt_at a0 2; clear p23; have qi23 : (2 < (a0.size : Int)) = True := eq_true (of_decide_eq_true (by first | (with_reducible assumption) | assumption)); replace q23 := eq_true q23; go_wp2; go_ret; exact ⟨by first | rfl | (simp; done) | (simp [*]; done), by repeat (first | exact Drawn0.refl _ | apply Drawn0.step)⟩
          ·rw [if_neg c24] at H; have c24b0 : decide (16 < (((10 * (((bt a0 1) - 48) % 256)) + (((bt a0 2) - 48) % 256)))) = false := decide_eq_false c24; clear c24; obtain rfl := Option.some.inj H
           have p23 : 0 ≤ (2 : Int) := (by omega)
           have q23 : 2 < a0.size := (by have : (2 : Int) < (a0.size : Int) := of_decide_eq_true (by first | (with_reducible assumption) | assumption); omega)
           have hx23 : ∀ h : 2 < a0.size, ((a0[2]'h).toNat : Int) = bt a0 2 := bt_at a0 2; clear p23; have qi23 : (2 < (a0.size : Int)) = True := eq_true (of_decide_eq_true (by first | (with_reducible assumption) | assumption)); replace q23 := eq_true q23; go_wp2; go_ret; exact ⟨by first | rfl | (simp; done) | (simp [*]; done), by repeat (first | exact Drawn0.refl _ | apply Drawn0.step)⟩
         ·rw [if_neg c22] at H; exact absurd H (by simp)
     ·rw [if_neg c15] at H; have c15b0 : ((a0.size : Int) == 3) = false := beq_eq_false_iff_ne.mpr c15; have c15b1 : ((a0.size : Int) != 3) = true := bne_iff_ne.mpr c15
      by_cases c25 : (((bt a0 1) - 48) % 256) > 16
      ·rw [if_pos c25] at H; have c25b0 : decide (16 < (((bt a0 1) - 48) % 256)) = true := decide_eq_true c25; clear c25; obtain rfl := Option.some.inj H
       have p14 : 0 ≤ (1 : Int) := (by omega)
       have q14 : 1 < a0.size := (by have : (1 : Int) < (a0.size : Int) := of_decide_eq_true (by first | (with_reducible assumption) | assumption); omega)
       have hx14 : ∀ h : 1 < a0.size, ((a0[1]'h).toNat : Int) = bt a0 1 := bt_at a0 1; clear p14; have qi14 : (1 < (a0.size : Int)) = True := eq_true (of_decide_eq_true (by first | (with_reducible assumption) | assumption)); replace q14 := eq_true q14; go_wp2; go_ret; exact ⟨by first | rfl | (simp; done) | (simp [*]; done), by repeat (first | exact Drawn0.refl _ | apply Drawn0.step)⟩
      ·rw [if_neg c25] at H; have c25b0 : decide (16 < (((bt a0 1) - 48) % 256)) = false := decide_eq_false c25; clear c25; obtain rfl := Option.some.inj H
       have p14 : 0 ≤ (1 : Int) := (by omega)
       have q14 : 1 < a0.size := (by have : (1 : Int) < (a0.size : Int) := of_decide_eq_true (by first | (with_reducible assumption) | assumption); omega)
       have hx14 : ∀ h : 1 < a0.size, ((a0[1]'h).toNat : Int) = bt a0 1 := bt_at a0 1; clear p14; have qi14 : (1 < (a0.size : Int)) = True := eq_true (of_decide_eq_true (by first | (with_reducible assumption) | assumption)); replace q14 := eq_true q14; go_wp2; go_ret; exact ⟨by first | rfl | (simp; done) | (simp [*]; done), by repeat (first | exact Drawn0.refl _ | apply Drawn0.step)⟩
    ·rw [if_neg c13] at H; exact absurd H (by simp)
def liveryref06_First.f (k : Nat) (a0_0 : Int) (a0_1 : Int) (a0_2 : ByteArray) (a0_3 : Int) (a0_4 : ByteArray) (a0_5 : ByteArray) (a0_6 : ByteArray) (a0_7 : ByteArray) (a0_8 : ByteArray) : Option (ByteArray × ByteArray) := (liveryref04_Domain.f k a0_0).bind fun t103 => (some (t103, a0_6))
def liveryref06_First.T1 : Bool × List (List Nat × List Nat) := (true, [([], []), ([0], [0]), ([1], [1]), ([2], [2]), ([], []), ([4], [4]), ([5], [5]), ([3, 6], [3, 6]), ([7, 3, 0, 1, 2, 3, 4, 5, 6, 7], [7])])
def liveryref06_First.B1 : List Nat := [0, 1, 3, 7, 0, 16, 48, 127, 255]
theorem liveryref06_First.tab1 : rtab .any (opsOf Tryd.f18 1) = liveryref06_First.T1 := by kernel_rfl
theorem liveryref06_First.bits1 : waitsOk liveryref06_First.T1.2 liveryref06_First.B1 = true := by kernel_rfl
set_option maxHeartbeats 8000000 in
set_option maxRecDepth 100000 in
theorem liveryref06_First.calls (k : Nat) (a0_0 : Int) (a0_1 : Int) (a0_2 : ByteArray) (a0_3 : Int) (a0_4 : ByteArray) (a0_5 : ByteArray) (a0_6 : ByteArray) (a0_7 : ByteArray) (a0_8 : ByteArray) (r1 : ByteArray) (r2 : ByteArray) (w : World) (h : liveryref06_First.f k a0_0 a0_1 a0_2 a0_3 a0_4 a0_5 a0_6 a0_7 a0_8 = some (r1, r2)) :
  Calls Tryd.prog 18 #[.agg #[.int .i64 a0_0, .int .i64 a0_1, .string a0_2, .int .i64 a0_3, .string a0_4, .string a0_5, .string a0_6, .string a0_7, .string a0_8]] w fun e w' => e = .returned (.agg #[.string r1, .string r2]) ∧ Below w.heap.size w w' := by
 have hu42 := Tryd.underlying42; have hu24 := Tryd.underlying24; have HB := Qad.mk (Below.refl w.heap.size w); have H : ((liveryref04_Domain.f k a0_0).bind fun t103 => (some (t103, a0_6))) = some (r1, r2) := h; clear h; replace H := Option.bind_eq_some_iff.mp H; obtain ⟨t103, A20, H⟩ := H; replace H : (some (t103, a0_6)) = some (r1, r2) := H; have A2 := Qad.mk A20; clear A20; simp only [Option.some.injEq, Prod.mk.injEq] at H; obtain ⟨rfl, rfl⟩ := H; go_enter Tryd.func18, Tryd.ntmps18
 try go_wp2_with (first | ((with_reducible refine gate_dst (N := 1) rfl ?_); refine box_event ?hg (N := 1) ?hd (cs := #[.int .i64 a0_0, .int .i64 a0_1, .string a0_2, .int .i64 a0_3, .string a0_4, .string a0_5, .string a0_6, .string a0_7, .string a0_8]) (t := 42) ?hr ?_; (case hd => rfl); (case hg => rfl); (case hr => first | (go_simp; done) | (go_simp; rfl)); intro gb101 hg w3 hbox hb; have n0_ := Qad.mk (Qaf (by repeat (first | (with_reducible first | exact HB.out | apply Qab | apply Qaa | apply Qac) | exact HB.out)) hb); have n1_ := Qad.mk (hbox); have n2_ := Qad.mk ((by rw [hg]; exact (Qav (by repeat (first | (with_reducible first | exact HB.out | apply Qab | apply Qaa | apply Qac) | exact HB.out))) : w.heap.size ≤ gb101)); have n3_ := n2_; clear HB; have HB := n0_; have BK101 := n1_; have GW101 := n2_; have GE101 := n3_; clear n0_ n1_ n2_ n3_; clear hb hbox hg) | ((with_reducible refine gate_dst (N := 2) rfl ?_); refine box_event ?hg (N := 2) ?hd (cs := #[.string (⟨#[]⟩ : ByteArray), .string (⟨#[]⟩ : ByteArray)]) (t := 24) ?hr ?_; (case hd => rfl); (case hg => rfl); (case hr => first | (go_simp; done) | (go_simp; rfl)); intro gb102 hg w4 hbox hb; have n0_ := Qad.mk (Qae (g := gb101) (o := Qaw a0_0 a0_1 a0_2 a0_3 a0_4 a0_5 a0_6 a0_7 a0_8 42) (by (with_reducible repeat (first | refine Qah ?_ _ | refine Qak ?_ | refine Qag ?_ _)); exact BK101.out) hb); have n1_ := Qad.mk (Qaf (by repeat (first | (with_reducible first | exact HB.out | apply Qab | apply Qaa | apply Qac | refine Qaj ?_ GE101.out) | exact HB.out)) hb); have n2_ := Qad.mk (hbox); have n3_ := Qad.mk ((by rw [hg]; exact (Qav (by repeat (first | (with_reducible first | exact HB.out | apply Qab | apply Qaa | apply Qac | refine Qaj ?_ GE101.out) | exact HB.out))) : w.heap.size ≤ gb102)); have n4_ := n3_; have n5_ := Qad.mk ((by rw [hg]; exact Nat.ne_of_lt (blk_lt (g := gb101) (o := Qaw a0_0 a0_1 a0_2 a0_3 a0_4 a0_5 a0_6 a0_7 a0_8 42) (by (with_reducible repeat (first | refine Qah ?_ _ | refine Qak ?_ | refine Qag ?_ _)); exact BK101.out)) : gb101 ≠ gb102)); have n6_ := Qad.mk ((by rw [hg]; exact Nat.ne_of_gt (blk_lt (g := gb101) (o := Qaw a0_0 a0_1 a0_2 a0_3 a0_4 a0_5 a0_6 a0_7 a0_8 42) (by (with_reducible repeat (first | refine Qah ?_ _ | refine Qak ?_ | refine Qag ?_ _)); exact BK101.out)) : gb102 ≠ gb101)); clear BK101; clear HB; have BK101 := n0_; have HB := n1_; have BK102 := n2_; have GW102 := n3_; have GE102 := n4_; have NB101_102 := n5_; have NB102_101 := n6_; clear n0_ n1_ n2_ n3_ n4_ n5_ n6_; clear hb hbox hg))
 have n0_ := Qad.mk (Qak BK101.out); have n1_ := Qad.mk (Qak BK102.out); have n2_ := Qad.mk (Qac HB.out); clear BK101; clear BK102; clear HB; have BK101 := n0_; have BK102 := n1_; have HB := n2_; clear n0_ n1_ n2_; refine start_ (n := 9) (S := fun w' => w'.cell? ⟨gb101, 0, none⟩ = some (.int .i64 a0_0) ∧ w'.cell? ⟨gb101, 1, none⟩ = some (.int .i64 a0_1) ∧ w'.cell? ⟨gb101, 2, none⟩ = some (.string a0_2) ∧ w'.cell? ⟨gb101, 3, none⟩ = some (.int .i64 a0_3) ∧ w'.cell? ⟨gb101, 4, none⟩ = some (.string a0_4) ∧ w'.cell? ⟨gb101, 5, none⟩ = some (.string a0_5) ∧ w'.cell? ⟨gb101, 6, none⟩ = some (.string a0_6) ∧ w'.cell? ⟨gb101, 7, none⟩ = some (.string a0_7) ∧ w'.cell? ⟨gb101, 8, none⟩ = some (.string a0_8)) (ds := []) #[ff,ff,ff,ff,ff,ff,ff,ff,ff] (by kernel_rfl) rfl rfl ⟨(Qai BK101.out 0).trans rfl, (Qai BK101.out 1).trans rfl, (Qai BK101.out 2).trans rfl, (Qai BK101.out 3).trans rfl, (Qai BK101.out 4).trans rfl, (Qai BK101.out 5).trans rfl, (Qai BK101.out 6).trans rfl, (Qai BK101.out 7).trans rfl, (Qai BK101.out 8).trans rfl⟩ (fun hHeld => ?_); refine with_tabW liveryref06_First.tab1 liveryref06_First.bits1 (fun HT_ HW_ => ?_)
 generalize w4.drew = w5 at BK101 BK102 HB hHeld ⊢
 refine pure_ (i := 0) (N := some 3) (v := ?_) (a' := ?_) #[tt,ff,ff,ff,ff,ff,ff,ff,ff] rfl rfl (any_of HT_.out (by kernel_rfl)) (fun _ _ _ h => h) (Or.inl ⟨by rfl, ?_⟩) ?_ ?_; rotate_left
 ·intro w'; go_simp; (with_reducible rfl)
 rotate_left
 ·simp only [Act.put, put_, i64_w, i32_w]; rfl
 refine pure_ (i := 1) (N := some 4) (v := ?_) (a' := ?_) #[tt,tt,ff,ff,ff,ff,ff,ff,ff] rfl rfl (any_of HT_.out (by kernel_rfl)) (fun _ _ _ h => h) (Or.inl ⟨by rfl, ?_⟩) ?_ ?_; rotate_left
 ·intro w'; go_simp; (with_reducible rfl)
 rotate_left
 ·simp only [Act.put, put_, i64_w, i32_w]; rfl
 refine pure_ (i := 4) (N := some 7) (v := ?_) (a' := ?_) #[tt,tt,ff,ff,tt,ff,ff,ff,ff] rfl rfl (any_of HT_.out (by kernel_rfl)) (fun _ _ _ h => h) (Or.inl ⟨by rfl, ?_⟩) ?_ ?_; rotate_left
 ·intro w'; go_simp; (with_reducible rfl)
 rotate_left
 ·simp only [Act.put, put_, i64_w, i32_w]; rfl
 refine pure_ (i := 5) (N := some 8) (v := ?_) (a' := ?_) #[tt,tt,ff,ff,tt,tt,ff,ff,ff] rfl rfl (any_of HT_.out (by kernel_rfl)) (fun _ _ _ h => h) (Or.inl ⟨by rfl, ?_⟩) ?_ ?_; rotate_left
 ·intro w'; go_simp; (with_reducible rfl)
 rotate_left
 ·simp only [Act.put, put_, i64_w, i32_w]; rfl
 refine take_ (i := 2) (N := some 5) (v := ?_) (a' := ?_) #[tt,tt,tt,ff,tt,tt,ff,ff,ff] rfl rfl (take_ofW HT_.out HW_.out (by kernel_rfl)) (fun _ _ _ h => h) (Or.inl ⟨by rfl, ?_⟩) hHeld ?_ ?_; rotate_left
 ·rintro w' ⟨s0, s1, s2, s3, s4, s5, s6, s7, s8⟩; go_simp; (with_reducible rfl)
 rotate_left
 ·simp only [Act.put, put_, i64_w, i32_w]; rfl
 refine take_ (i := 6) (N := some 9) (v := ?_) (a' := ?_) #[tt,tt,tt,ff,tt,tt,tt,ff,ff] rfl rfl (take_ofW HT_.out HW_.out (by kernel_rfl)) (fun _ _ _ h => h) (Or.inl ⟨by rfl, ?_⟩) hHeld ?_ ?_; rotate_left
 ·rintro w' ⟨s0, s1, s2, s3, s4, s5, s6, s7, s8⟩; go_simp; (with_reducible rfl)
 rotate_left
 ·simp only [Act.put, put_, i64_w, i32_w]; rfl
 refine one_ (i := 3) (N := some 6) #[tt,tt,tt,tt,tt,tt,tt,ff,ff] rfl rfl (one_of HT_.out (by kernel_rfl)) (by decide) (fun K hK => ?_); refine goes_ Tryd.func26 (by kernel_rfl) rfl #[.int .i64 a0_0] (by rfl) rfl rfl (by (try simp only [List.map_toArray, List.map_cons, List.map_nil]); first | done | rfl | (simp only [List.length_drop, List.length_take]; rfl)) ?_
 with_reducible refine (liveryref04_Domain.calls k a0_0 t103 _ A2.out).mono ?_
 rintro e w6 ⟨rfl, hb⟩; refine ⟨_, rfl, ?_⟩; have n0_ := Qad.mk (Qae (g := gb101) (o := Qaw a0_0 a0_1 a0_2 a0_3 a0_4 a0_5 a0_6 a0_7 a0_8 42) (by (with_reducible repeat (first | refine Qah ?_ _ | refine Qak ?_ | refine Qag ?_ _)); exact BK101.out) hb); have n1_ := Qad.mk (Qae (g := gb102) (o := ob_ss (⟨#[]⟩ : ByteArray) (⟨#[]⟩ : ByteArray) 24) (by (with_reducible repeat (first | refine Qah ?_ _ | refine Qak ?_ | refine Qag ?_ _)); exact BK102.out) hb); have n2_ := Qad.mk (Qaf (by repeat (first | (with_reducible first | exact HB.out | apply Qab | apply Qaa | apply Qac | refine Qaj ?_ GE101.out | refine Qaj ?_ GE102.out) | exact HB.out)) hb); clear BK101; clear BK102; clear HB; have BK101 := n0_; have BK102 := n1_; have HB := n2_; clear n0_ n1_ n2_
 (try clear hb)
 (try clear hb2)
 (try clear hk)
 (try clear hi)
 refine hK.out _ _ ⟨(Qai BK101.out 0).trans rfl, (Qai BK101.out 1).trans rfl, (Qai BK101.out 2).trans rfl, (Qai BK101.out 3).trans rfl, (Qai BK101.out 4).trans rfl, (Qai BK101.out 5).trans rfl, (Qai BK101.out 6).trans rfl, (Qai BK101.out 7).trans rfl, (Qai BK101.out 8).trans rfl⟩ (fun hHeld => ?_); clear hK K; refine norm_ (a' := ?_) ?_ ?_; rotate_left
 ·show Act.put _ (some 6) _ = _
  simp only [Act.put, put_, i64_w, i32_w]; rfl
 refine pure_ (i := 7) (N := some 10) (v := ?_) (a' := ?_) #[tt,tt,tt,tt,tt,tt,tt,tt,ff] rfl rfl (any_of HT_.out (by kernel_rfl)) (fun _ _ _ h => h) (Or.inl ⟨by rfl, ?_⟩) ?_ ?_; rotate_left
 ·intro w'; go_simp; (with_reducible rfl)
 rotate_left
 ·simp only [Act.put, put_, i64_w, i32_w]; rfl
 refine one_ (i := 8) (N := none) #[tt,tt,tt,tt,tt,tt,tt,tt,tt] rfl rfl (one_of HT_.out (by kernel_rfl)) (by decide) (fun K hK => ?_); have hs7 : w6.cell? ⟨gb102, 0, none⟩ = some (.string (⟨#[]⟩ : ByteArray)) := (Qai BK102.out 0).trans rfl; have hfs7 := Qal BK102.out 0; have hns7_0 := NB101_102.out; have hms7_0 := NB102_101.out; have hs8 : w6.cell? ⟨gb102, 1, none⟩ = some (.string (⟨#[]⟩ : ByteArray)) := (Qai BK102.out 1).trans rfl; have hfs8 := Qal BK102.out 1; have hns8_0 := NB101_102.out; have hms8_0 := NB102_101.out; refine skip_ (w1 := ?_) (by rfl) rfl ?_ ?_; rotate_left
 ·go_simp; rfl
 refine hK.out _ _ ⟨((cell_far (p := ⟨gb102, _, none⟩) NB101_102.out _).trans (((cell_far (p := ⟨gb102, _, none⟩) NB101_102.out _).trans (hHeld.1)))), ((cell_far (p := ⟨gb102, _, none⟩) NB101_102.out _).trans (((cell_far (p := ⟨gb102, _, none⟩) NB101_102.out _).trans (hHeld.2.1)))), ((cell_far (p := ⟨gb102, _, none⟩) NB101_102.out _).trans (((cell_far (p := ⟨gb102, _, none⟩) NB101_102.out _).trans (hHeld.2.2.1)))), ((cell_far (p := ⟨gb102, _, none⟩) NB101_102.out _).trans (((cell_far (p := ⟨gb102, _, none⟩) NB101_102.out _).trans (hHeld.2.2.2.1)))), ((cell_far (p := ⟨gb102, _, none⟩) NB101_102.out _).trans (((cell_far (p := ⟨gb102, _, none⟩) NB101_102.out _).trans (hHeld.2.2.2.2.1)))), ((cell_far (p := ⟨gb102, _, none⟩) NB101_102.out _).trans (((cell_far (p := ⟨gb102, _, none⟩) NB101_102.out _).trans (hHeld.2.2.2.2.2.1)))), ((cell_far (p := ⟨gb102, _, none⟩) NB101_102.out _).trans (((cell_far (p := ⟨gb102, _, none⟩) NB101_102.out _).trans (hHeld.2.2.2.2.2.2.1)))), ((cell_far (p := ⟨gb102, _, none⟩) NB101_102.out _).trans (((cell_far (p := ⟨gb102, _, none⟩) NB101_102.out _).trans (hHeld.2.2.2.2.2.2.2.1)))), ((cell_far (p := ⟨gb102, _, none⟩) NB101_102.out _).trans (((cell_far (p := ⟨gb102, _, none⟩) NB101_102.out _).trans (hHeld.2.2.2.2.2.2.2.2))))⟩ (fun hHeld => ?_); clear hK K; refine done_ (done_of HT_.out (by kernel_rfl)) ?_
 try go_wp2
 refine bodyPost_ret (results_cell_row rfl _ _ gb102 24 #[.string t103, .string a0_6] (0, 0) _ rfl (by (with_reducible repeat (first | refine Qah ?_ _ | refine Qak ?_ | refine Qag ?_ _)); refine blk_put (cs := #[.string t103, .string (⟨#[]⟩ : ByteArray)]) ?_ 1 _ rfl; (with_reducible repeat (first | refine Qah ?_ _ | refine Qak ?_ | refine Qag ?_ _)); refine blk_put (cs := #[.string (⟨#[]⟩ : ByteArray), .string (⟨#[]⟩ : ByteArray)]) ?_ 0 _ rfl; (with_reducible repeat (first | refine Qah ?_ _ | refine Qak ?_ | refine Qag ?_ _)); exact BK102.out) Tryd.underlying24 rfl (by kernel_rfl)) rfl ?_; exact ⟨by first | rfl | (simp [Qau, Qat] <;> rfl) | (simp [*, Qau, Qat] <;> rfl), by repeat (first | (with_reducible first | exact HB.out | apply Qab | apply Qaa | apply Qac | refine Qaj ?_ GE101.out | refine Qaj ?_ GE102.out) | exact HB.out)⟩
end Go.Proofs.YtbjjgaahdnfflaaDoor.Pr
end
section
namespace Go.Proofs.YtbjjgaahdnfflaaDoor
open Go.ChangeMaps (setBlock) 
open Go.MapKept
open Go.Maps (Keyed)
open Go.RowKit
structure KeyK (P : Program) (k : TypeId) {κ : Type} (enc : κ → Value) (ok : κ → Prop) : Prop where
  keyed : Keyed P k
  lit : ∀ x, ok x → ∃ l, keyOf P k (enc x) = some l
  inj : ∀ x y, ok x → ok y → enc x = enc y → x = y
def Tbl {κ : Type} (enc : κ → Value) (ok : κ → Prop) (w : World) (b : Nat) (l : List (κ × Value)) : Prop :=
  ∃ es clock, w.heap[b]? = some (.map es clock) ∧ es.toList.map (fun e => (e.key, e.val)) = l.map (fun x => (enc x.1, x.2)) ∧ (∀ x ∈ l, ok x.1) ∧ Stamped es clock ∧ es.size ≤ maxLen
def tput {κ : Type} [DecidableEq κ] (l : List (κ × Value)) (x : κ) (v : Value) : List (κ × Value) :=
  if l.any (fun y => decide (y.1 = x)) then l.map (fun y => if y.1 = x then (x, v) else y) else l ++ [(x, v)]
def tget {κ : Type} [DecidableEq κ] (l : List (κ × Value)) (x : κ) : Option Value := (l.find? fun y => decide (y.1 = x)).map (·.2)
section
variable {κ : Type} {P : Program} {k : TypeId} {enc : κ → Value} {ok : κ → Prop} {w : World} {b : Nat} {l : List (κ × Value)}
theorem Tbl.lt (h : Tbl enc ok w b l) : b < w.heap.size := by
  obtain ⟨es, clock, hb, _⟩ := h; exact (Array.getElem?_eq_some_iff.1 hb).1
theorem Tbl.same (h : Tbl enc ok w b l) {w' : World} (hs : w'.heap[b]? = w.heap[b]?) : Tbl enc ok w' b l := by
  obtain ⟨es, clock, hb, r⟩ := h; exact ⟨es, clock, hs.trans hb, r⟩
theorem Tbl.below (h : Tbl enc ok w b l) {w' : World} (hb : Below w.heap.size w w') : Tbl enc ok w' b l := h.same (hb.block b h.lt)
theorem Tbl.grown (h : Tbl enc ok w b l) {w' : World} {row : Option Nat} (hg : w.grownBy w' row) (hne : some b ≠ row) : Tbl enc ok w' b l := h.same (hg.block b h.lt hne)
theorem Tbl.set (h : Tbl enc ok w b l) {a : Addr} (hne : b ≠ a.block) (u : Value) : Tbl enc ok (w.setCell a u) b l := h.same (Below.heap_setCell w a u b hne)
theorem Tbl.made (enc : κ → Value) (ok : κ → Prop) (w : World) : Tbl enc ok (w.alloc (.map #[] 0)) w.heap.size [] :=
  ⟨#[], 0, (MapKept.heap_alloc w _).1, rfl, by simp, stamped_empty 0, by simp [maxLen]⟩
theorem Tbl.nodup (h : Tbl enc ok w b l) : (l.map (·.1)).Nodup := by
  obtain ⟨es, clock, _, hl, _, hs, _⟩ := h; have h3 : (es.toList.map (·.key)).Nodup := hs.2.2
  have e1 : es.toList.map (·.key) = (es.toList.map (fun e => (e.key, e.val))).map (·.1) := by rw [List.map_map]; rfl
  rw [e1, hl, List.map_map] at h3
  have e2 : l.map ((fun x => x.1) ∘ fun x => (enc x.1, x.2)) = (l.map (·.1)).map enc := by rw [List.map_map]; rfl
  rw [e2] at h3; exact List.Pairwise.of_map enc (fun a b hne e => hne (congrArg enc e)) h3
theorem Tbl.oks (h : Tbl enc ok w b l) : ∀ x ∈ l, ok x.1 := by
  obtain ⟨es, clock, _, _, ho, _⟩ := h; exact ho
theorem Tbl.small (h : Tbl enc ok w b l) : l.length ≤ maxLen := by
  obtain ⟨es, clock, _, hl, _, _, hm⟩ := h; have := congrArg List.length hl; simp at this; omega
theorem tbl_keys (K : KeyK P k enc ok) {es : Array MapEntry} {l : List (κ × Value)} (hl : es.toList.map (fun e => (e.key, e.val)) = l.map (fun x => (enc x.1, x.2))) (ho : ∀ x ∈ l, ok x.1) : ∀ e ∈ es.toList, ∃ x ∈ l, e.key = enc x.1 ∧ e.val = x.2 ∧ ∃ lit, keyOf P k e.key = some lit := by
  intro e he
  have hm : (e.key, e.val) ∈ l.map (fun x => (enc x.1, x.2)) := by rw [← hl]; exact List.mem_map.2 ⟨e, he, rfl⟩
  obtain ⟨x, hx, hxe⟩ := List.mem_map.1 hm; simp only [Prod.mk.injEq] at hxe; obtain ⟨lit, hlit⟩ := K.lit x.1 (ho x hx); exact ⟨x, hx, hxe.1.symm, hxe.2.symm, lit, by rw [← hxe.1]; exact hlit⟩
variable [DecidableEq κ]
theorem tget_some {l : List (κ × Value)} {x : κ} {v : Value} (hn : (l.map (·.1)).Nodup) (h : (x, v) ∈ l) : tget l x = some v := by
  induction l with
  | nil => simp at h
  | cons y l ih =>
    rw [List.map_cons, List.nodup_cons] at hn; unfold tget; rw [List.find?_cons]
    rcases List.mem_cons.1 h with h | h
    · subst h
      simp
    · by_cases e : y.1 = x
      · exact absurd (List.mem_map.2 ⟨(x, v), h, e.symm⟩) hn.1
      · rw [decide_eq_false e]
        exact ih hn.2 h
theorem tget_none {l : List (κ × Value)} {x : κ} (h : ∀ y ∈ l, y.1 ≠ x) : tget l x = none := by
  unfold tget; rw [List.find?_eq_none.2 (fun y hy => by simpa using h y hy)]; rfl
theorem Tbl.look (K : KeyK P k enc ok) (h : Tbl enc ok w b l) {t e : TypeId} (ht : P.underlying t = some (.map k e)) {z : Value} (hz : ∀ W, (zeroValue e).run P W = .ok z W) {x : κ} (hx : ok x) (c : Bool) :
    ∀ W : World, W.heap[b]? = w.heap[b]? → (Instr.lookup t (.map (some b)) (enc x) c).run P W = .ok (if c then .tuple #[(tget l x).getD z, .bool (tget l x).isSome] else (tget l x).getD z) W := by
  obtain ⟨es, clock, hb, hl, ho, hs, hm⟩ := h; obtain ⟨lit, hlit⟩ := K.lit x hx; have keys := tbl_keys K hl ho; have hn : (l.map (·.1)).Nodup := Tbl.nodup (w := w) (b := b) ⟨es, clock, hb, hl, ho, hs, hm⟩; intro W hW; have hb' := hW.trans hb
  rcases K.keyed.find W hlit es.toList (fun e he => (keys e he).choose_spec.2.2.2) with ⟨h1, h2⟩ | ⟨j, e0, h1, h2, h3⟩
  · have hno : tget l x = none := by
      apply tget_none
      intro y hy hyx
      have hm : (enc y.1, y.2) ∈ es.toList.map (fun e => (e.key, e.val)) := by rw [hl]; exact List.mem_map.2 ⟨y, hy, rfl⟩
      obtain ⟨e, he, hey⟩ := List.mem_map.1 hm; simp only [Prod.mk.injEq] at hey; exact h2 e he (by rw [hey.1, hyx])
    rw [hno]; simp [Instr.lookup, run_underlying ht, MapKept.run_getObj_map hb', K.keyed.check W _ hlit, h1, hz, Result.andThen]
  · have hm0 : e0 ∈ es.toList := List.mem_of_getElem? h2
    obtain ⟨y, hy, hk1, hv1, _⟩ := keys e0 hm0; have hyx : y.1 = x := K.inj _ _ (ho y hy) hx (by rw [← hk1, h3])
    have hsome : tget l x = some e0.val := by
      rw [hv1, ← hyx]; exact tget_some hn hy
    rw [hsome]; simp [Instr.lookup, run_underlying ht, MapKept.run_getObj_map hb', K.keyed.check W _ hlit, h1, Result.andThen]
theorem Tbl.store (K : KeyK P k enc ok) (h : Tbl enc ok w b l) {t e : TypeId} (ht : P.underlying t = some (.map k e)) {x : κ} (hx : ok x) (v : Value) (hroom : l.length < maxLen) :
    ∃ O, (∀ W : World, W.heap[b]? = w.heap[b]? → (Instr.mapUpdate t (.map (some b)) (enc x) v).run P W = .ok () (setBlock W b O)) ∧ ∀ W : World, b < W.heap.size → Tbl enc ok (setBlock W b O) b (tput l x v) := by
  obtain ⟨es, clock, hb, hl, ho, hs, hm⟩ := h; obtain ⟨lit, hlit⟩ := K.lit x hx; have keys := tbl_keys K hl ho; have hn : (l.map (·.1)).Nodup := Tbl.nodup (w := w) (b := b) ⟨es, clock, hb, hl, ho, hs, hm⟩
  have hlen : es.size = l.length := by simpa using congrArg List.length hl
  have hbo : ∀ (W : World) (O : Obj), b < W.heap.size → (setBlock W b O).heap[b]? = some O := fun W O hW => by simp [setBlock, hW]
  rcases K.keyed.find w hlit es.toList (fun e he => (keys e he).choose_spec.2.2.2) with ⟨h1, h2⟩ | ⟨j, e0, h1, h2, h3⟩
  · refine ⟨.map (es.push ⟨enc x, v, clock⟩) (clock + 1), fun W hW => ?_, fun W hW => ⟨_, _, hbo W _ hW, ?_, ?_, stamped_push hs h2, by rw [Array.size_push]; omega⟩⟩
    · have hb' := hW.trans hb
      rcases K.keyed.find W hlit es.toList (fun e he => (keys e he).choose_spec.2.2.2) with ⟨h1', _⟩ | ⟨j, e0, _, h2', h3'⟩
      · simp [Instr.mapUpdate, run_underlying ht, MapKept.run_getObj_map hb', K.keyed.check W false hlit, h1', MapKept.run_setObj_map _ hb', Result.andThen, setBlock]
      · exact absurd h3' (h2 e0 (List.mem_of_getElem? h2'))
    · have hno : l.any (fun y => decide (y.1 = x)) = false := by
        rw [List.any_eq_false]; intro y hy; simp only [decide_eq_true_eq]; intro hyx
        have hm : (enc y.1, y.2) ∈ es.toList.map (fun e => (e.key, e.val)) := by rw [hl]; exact List.mem_map.2 ⟨y, hy, rfl⟩
        obtain ⟨e, he, hey⟩ := List.mem_map.1 hm; simp only [Prod.mk.injEq] at hey; exact h2 e he (by rw [hey.1, hyx])
      unfold tput; rw [hno]; simp [hl]
    · intro y hy
      unfold tput at hy
      split at hy
      · obtain ⟨z, hz, rfl⟩ := List.mem_map.1 hy
        split
        · exact hx
        · exact ho z hz
      · rcases List.mem_append.1 hy with hy | hy
        · exact ho y hy
        · rw [List.mem_singleton.1 hy]
          exact hx
  · have hm0 : e0 ∈ es.toList := List.mem_of_getElem? h2
    obtain ⟨y, hy, hk1, hv1, _⟩ := keys e0 hm0; have hyx : y.1 = x := K.inj _ _ (ho y hy) hx (by rw [← hk1, h3])
    have hj : es[j]? = some e0 := by simpa using h2
    refine ⟨.map (es.modify j fun e => { e with key := enc x, val := v }) clock, fun W hW => ?_, fun W hW => ⟨_, _, hbo W _ hW, ?_, ?_, ?_, by rw [Array.size_modify]; omega⟩⟩
    · have hb' := hW.trans hb
      rcases K.keyed.find W hlit es.toList (fun e he => (keys e he).choose_spec.2.2.2) with ⟨_, h2'⟩ | ⟨j', e1, h1', h2', h3'⟩
      · exact absurd h3 (h2' e0 hm0)
      · have hjj : j' = j := by
          have hnd : (es.toList.map (·.key)).Nodup := hs.2.2
          have a1 : (es.toList.map (·.key))[j']? = some (enc x) := by rw [List.getElem?_map, h2', Option.map_some, h3']
          have a2 : (es.toList.map (·.key))[j]? = some (enc x) := by rw [List.getElem?_map, h2, Option.map_some, h3]
          have b1 := (List.getElem?_eq_some_iff.1 a1).1; exact (List.getElem?_inj b1 hnd).1 (a1.trans a2.symm)
        subst hjj; have he1 : e1 = e0 := Option.some.inj (h2'.symm.trans h2)
        have hkk : ((es[j']?).map (·.key)).getD (enc x) = enc x := by rw [hj]; simp [h3]
        simp [Instr.mapUpdate, run_underlying ht, MapKept.run_getObj_map hb', K.keyed.check W false hlit, h1', hj, h3, K.keyed.stays W hlit, MapKept.run_setObj_map _ hb', Result.andThen, setBlock]
    · have hyes : l.any (fun y => decide (y.1 = x)) = true := List.any_eq_true.2 ⟨y, hy, by simpa using hyx⟩
      unfold tput; rw [hyes]; simp only [if_true]
      apply List.ext_getElem?
      intro i; have hi := congrArg (fun z => z[i]?) hl; simp only [List.getElem?_map] at hi ⊢; rw [Array.getElem?_toList, Array.getElem?_modify]; rw [Array.getElem?_toList] at hi
      by_cases hij : j = i
      · subst hij
        rw [if_pos rfl]; rw [hj] at hi ⊢
        cases hli : l[j]? with
        | none => rw [hli] at hi; simp at hi
        | some q =>
          rw [hli] at hi; simp only [Option.map_some, Option.some.injEq, Prod.mk.injEq] at hi ⊢; have hq : q.1 = x := K.inj _ _ (ho q (List.mem_of_getElem? hli)) hx (by rw [← hi.1, h3]); rw [if_pos hq]; exact ⟨rfl, rfl⟩
      · rw [if_neg hij, hi]
        cases hli : l[i]? with
        | none => rfl
        | some q =>
          simp only [Option.map_some, Option.some.injEq]
          have hq : q.1 ≠ x := by
            intro hqx
            have a1 : (l.map (·.1))[i]? = some x := by rw [List.getElem?_map, hli, Option.map_some, hqx]
            have hlj : l[j]?.map (·.1) = some x := by
              have hjj := congrArg (fun z => z[j]?) hl; simp only [List.getElem?_map] at hjj; rw [Array.getElem?_toList, hj] at hjj
              cases hlj : l[j]? with
              | none => rw [hlj] at hjj; simp at hjj
              | some q' =>
                rw [hlj] at hjj; simp only [Option.map_some, Option.some.injEq, Prod.mk.injEq] at hjj ⊢; exact K.inj _ _ (ho q' (List.mem_of_getElem? hlj)) hx (by rw [← hjj.1, h3])
            have a2 : (l.map (·.1))[j]? = some x := by rw [List.getElem?_map]; exact hlj
            have b1 := (List.getElem?_eq_some_iff.1 a1).1; exact hij ((List.getElem?_inj b1 hn).1 (a1.trans a2.symm)).symm
          rw [if_neg hq]
    · intro z hz
      unfold tput at hz
      split at hz
      · obtain ⟨q, hq, rfl⟩ := List.mem_map.1 hz
        split
        · exact hx
        · exact ho q hq
      · rcases List.mem_append.1 hz with hz | hz
        · exact ho z hz
        · rw [List.mem_singleton.1 hz]
          exact hx
    · exact stamped_modify hs j _ (fun _ _ => rfl) (fun e1 _ he1 => by rw [hj] at he1; cases he1; exact h3.symm)
omit [DecidableEq κ] in
theorem Tbl.count (h : Tbl enc ok w b l) {t e : TypeId} (ht : P.underlying t = some (.map k e)) (ty : TypeId) : ∀ W : World, W.heap[b]? = w.heap[b]? → (Builtin.len_ #[t] ty #[.map (some b)]).run P W = .ok (.int .i64 l.length) W := by
  obtain ⟨es, clock, hb, hl, ho, hs, hm⟩ := h
  have hlen : es.size = l.length := by simpa using congrArg List.length hl
  intro W hW; simp [Builtin.len_, run_underlying ht, MapKept.run_getObj_map (hW.trans hb), Result.andThen, goInt, hlen]
def Rng (enc : κ → Value) (ok : κ → Prop) (w : World) (b r : Nat) (l left : List (κ × Value)) : Prop :=
  ∃ es clock since seen c0, w.heap[b]? = some (.map es clock) ∧ es.toList.map (fun e => (e.key, e.val)) = l.map (fun x => (enc x.1, x.2)) ∧ (∀ x ∈ l, ok x.1) ∧ Stamped es clock ∧ es.size ≤ maxLen ∧
    w.heap[r]? = some (.mapIter (some b) since seen c0) ∧ (∀ x ∈ es.toList, x.born < since) ∧ since ≤ c0 ∧ since ≤ clock ∧ (∀ x ∈ left, ok x.1) ∧
    (leftOf es seen).toList.map (fun e => (e.key, e.val)) = left.map (fun x => (enc x.1, x.2))
omit [DecidableEq κ] in
theorem Rng.tbl {r : Nat} {left : List (κ × Value)} (h : Rng enc ok w b r l left) : Tbl enc ok w b l := by
  obtain ⟨es, clock, since, seen, c0, h1, h2, h3, h4, h5, _⟩ := h; exact ⟨es, clock, h1, h2, h3, h4, h5⟩
omit [DecidableEq κ] in
theorem Rng.lt {r : Nat} {left : List (κ × Value)} (h : Rng enc ok w b r l left) : r < w.heap.size := by
  obtain ⟨es, clock, since, seen, c0, h1, h2, h3, h4, h5, h6, _⟩ := h; exact (Array.getElem?_eq_some_iff.1 h6).1
omit [DecidableEq κ] in
theorem Rng.same {r : Nat} {left : List (κ × Value)} (h : Rng enc ok w b r l left) {w' : World} (hb : w'.heap[b]? = w.heap[b]?) (hr : w'.heap[r]? = w.heap[r]?) : Rng enc ok w' b r l left := by
  obtain ⟨es, clock, since, seen, c0, h1, h2, h3, h4, h5, h6, q⟩ := h; exact ⟨es, clock, since, seen, c0, hb.trans h1, h2, h3, h4, h5, hr.trans h6, q⟩
omit [DecidableEq κ] in
theorem Rng.grown {r : Nat} {left : List (κ × Value)} (h : Rng enc ok w b r l left) {w' : World} {row : Option Nat} (hg : w.grownBy w' row) (hb : some b ≠ row) (hr : some r ≠ row) : Rng enc ok w' b r l left := h.same (hg.block b h.tbl.lt hb) (hg.block r h.lt hr)
omit [DecidableEq κ] in
theorem Rng.below {r : Nat} {left : List (κ × Value)} (h : Rng enc ok w b r l left) {w' : World} (hb : Below w.heap.size w w') : Rng enc ok w' b r l left := h.same (hb.block b h.tbl.lt) (hb.block r h.lt)
omit [DecidableEq κ] in
theorem Rng.ne {r : Nat} {left : List (κ × Value)} (h : Rng enc ok w b r l left) : b ≠ r := by
  obtain ⟨es, clock, since, seen, c0, h1, h2, h3, h4, h5, h6, q⟩ := h; rintro rfl; rw [h1] at h6; cases h6
omit [DecidableEq κ] in
theorem Tbl.range (h : Tbl enc ok w b l) {t e : TypeId} (ht : P.underlying t = some (.map k e)) :
    ∃ O, (∀ W : World, W.heap[b]? = w.heap[b]? → (Instr.range t (.map (some b))).run P W = .ok (.pointer (some ⟨W.heap.size, 0, none⟩)) (W.alloc O)) ∧ ∀ W : World, W.heap[b]? = w.heap[b]? → Rng enc ok (W.alloc O) b W.heap.size l l := by
  have hlt := h.lt; obtain ⟨es, clock, hb, hl, ho, hs, hm⟩ := h; refine ⟨.mapIter (some b) clock #[] clock, fun W hW => run_range_map W t k e b es clock ht (hW.trans hb), fun W hW => ?_⟩; have hltW : b < W.heap.size := (Array.getElem?_eq_some_iff.1 (hW.trans hb)).1; exact ⟨es, clock, clock, #[], clock, ((MapKept.heap_alloc W _).2 b hltW).trans (hW.trans hb), hl, ho, hs, hm, (MapKept.heap_alloc W _).1, hs.1, Nat.le_refl _, Nat.le_refl _, ho, by rw [show (leftOf es #[]).toList = es.toList from by unfold leftOf; rw [Array.toList_filter, List.filter_eq_self.2 (fun _ _ => by simp)]]; exact hl⟩
theorem map_drop_one {α : Type} (l : List α) (e : α) (he : e ∈ l) (p : α → Bool) (hp : ∀ x ∈ l, p x = false ↔ x = e) (hn : l.Nodup) : ∃ a c, l = a ++ e :: c ∧ l.filter p = a ++ c := by
  obtain ⟨a, c, rfl⟩ := List.append_of_mem he; refine ⟨a, c, rfl, ?_⟩; rw [List.nodup_append] at hn; have hc := List.nodup_cons.1 hn.2.1; rw [List.filter_append, List.filter_cons]; have he' : p e = false := (hp e (by simp)).2 rfl; rw [he']; simp only [Bool.false_eq_true, if_false]; rw [List.filter_eq_self.2 (fun x hx => ?_), List.filter_eq_self.2 (fun x hx => ?_)]
  · cases h : p x
    · have := (hp x (by simp [hx])).1 h
      subst this; exact absurd hx hc.1
    · rfl
  · cases h : p x
    · have := (hp x (by simp [hx])).1 h
      subst this; exact absurd rfl (hn.2.2 x hx x (by simp))
    · rfl
omit [DecidableEq κ] in
theorem Rng.next {r : Nat} {left : List (κ × Value)} (h : Rng enc ok w b r l left) (ty : TypeId) :
    (left = [] ∧ (Instr.next (.pointer (some ⟨r, 0, none⟩)) false ty).run P w = .ok (.tuple #[.bool false]) w) ∨
    ∃ a x c w', left = a ++ x :: c ∧ ok x.1 ∧ (Instr.next (.pointer (some ⟨r, 0, none⟩)) false ty).run P w = .ok (.tuple #[.bool true, enc x.1, x.2]) w' ∧ Rng enc ok w' b r l (a ++ c) ∧ w.grownBy w' (some r) ∧ w'.heap.size = w.heap.size ∧
      (∀ W : World, W.heap[b]? = w'.heap[b]? → W.heap[r]? = w'.heap[r]? → (Instr.entry (.pointer (some ⟨r, 0, none⟩))).run P W = .ok (.tuple #[enc x.1, x.2]) W) := by
  have hne := h.ne; obtain ⟨es, clock, since, seen, c0, hb, hl, ho, hs, hm, hr, hold, hsc, hsk, hol, hle⟩ := h
  rcases run_next_at (P := P) w ty r b since c0 seen es clock hr hb hold hsc with ⟨h0, hrun⟩ | ⟨e, he, w1, hal, hrun⟩
  · left
    refine ⟨?_, hrun⟩; have := congrArg List.length hle; simp at this; exact List.eq_nil_of_length_eq_zero (by omega)
  · right
    obtain ⟨hem, hes⟩ := mem_left he
    have hr1 : w1.heap[r]? = some (.mapIter (some b) since seen c0) := by rcases hal with rfl | rfl <;> exact hr
    have hb1 : w1.heap[b]? = some (.map es clock) := by rcases hal with rfl | rfl <;> exact hb
    have hset := heap_set (o' := .mapIter (some b) since (seen.push e.born) clock) hr1; have hb' : (setBlock w1 r (.mapIter (some b) since (seen.push e.born) clock)).heap[b]? = some (.map es clock) := (hset.2 b hne).trans hb1
    have hnd : (leftOf es seen).toList.Nodup := by
      unfold leftOf; rw [Array.toList_filter]; exact (List.Pairwise.of_map (fun e : MapEntry => e.born) (fun a b hne e => hne (congrArg MapEntry.born e)) hs.2.1).filter _
    have hborn : ∀ x ∈ (leftOf es seen).toList, (!(seen.push e.born).contains x.born) = false ↔ x = e := by
      intro x hx; obtain ⟨hxm, hxs⟩ := mem_left hx; rw [contains_push, hxs]; constructor
      · intro h
        simp at h; exact born_inj hs.2.1 hxm hem h
      · rintro rfl
        simp
    obtain ⟨a', c', h1, h2⟩ := map_drop_one (leftOf es seen).toList e he (fun x => !(seen.push e.born).contains x.born) hborn hnd
    have h3 : (leftOf es (seen.push e.born)).toList = a' ++ c' := by
      rw [← h2]; unfold leftOf; rw [Array.toList_filter, Array.toList_filter, List.filter_filter]
      apply List.filter_congr
      intro x hx; rw [contains_push]
      cases seen.contains x.born <;> simp
    rw [h1, List.map_append, List.map_cons] at hle; obtain ⟨a, xc, hle1, hle2, hle3⟩ := List.append_eq_map_iff.1 hle; obtain ⟨x, c, hxc, hle4, hle5⟩ := List.map_eq_cons_iff.1 hle3; simp only [Prod.mk.injEq] at hle4; refine ⟨a, x, c, _, by rw [hle1, hxc], hol x (by rw [hle1, hxc]; simp), by rw [hle4.1, hle4.2]; exact hrun, ⟨es, clock, since, seen.push e.born, clock, hb', hl, ho, hs, hm, hset.1, hold, hsk, hsk, fun y hy => hol y (by rw [hle1, hxc]; rcases List.mem_append.1 hy with hy | hy <;> simp [hy]), by rw [h3, List.map_append, List.map_append, hle2, hle5]⟩, ?_, ?_, fun W hWb hWr => ?_⟩
    · rcases hal with rfl | rfl <;> exact ⟨rfl, rfl, rfl, by simp [setBlock], fun i _ hi => hset.2 i (fun e1 => hi (by rw [e1]))⟩
    · rcases hal with rfl | rfl <;> simp [setBlock]
    · rw [hle4.1, hle4.2]
      exact run_entry_at W r b since seen es clock e (hWr.trans hset.1) (hWb.trans hb') hem hs.2.1
end
end Go.Proofs.YtbjjgaahdnfflaaDoor
end
section
namespace Go.Proofs.YtbjjgaahdnfflaaDoor.Pr
open Go.RowKit Go.Proofs.YtbjjgaahdnfflaaDoorW.PrintWords Go.Proofs.YtbjjgaahdnfflaaDoorW.PrintLast Go.Proofs.YtbjjgaahdnfflaaDoorW.PrintMore
open Go.Maps
abbrev ID := S26
theorem id_ext {a b : ID} (h0 : a.f0 = b.f0) (h1 : a.f1 = b.f1) : a = b := by cases a; cases b; simp_all
instance idDec : DecidableEq ID := fun a b => decidable_of_iff (a.f0 = b.f0 ∧ a.f1 = b.f1) ⟨fun h => id_ext h.1 h.2, fun h => by rw [h]; exact ⟨rfl, rfl⟩⟩
def encID (x : ID) : Value := .agg #[.int .i64 x.f0, .int .i64 x.f1]
def okID (x : ID) : Prop := (Lit.int .i64 x.f0).wf = true ∧ (Lit.int .i64 x.f1).wf = true
instance okIDDec (x : ID) : Decidable (okID x) := by unfold okID; infer_instance
theorem idk_laid : laidOutB Tryd.prog = true := by kernel_rfl
theorem idk_row : 26 < Tryd.prog.types.size := of_decide_eq_true (by kernel_rfl)
theorem idk_key : Tryd.prog.keyType 26 = true := by kernel_rfl
theorem idk_tsize : Tryd.prog.types.size = 2 + (Tryd.prog.types.size - 2) := by have := of_decide_eq_true (p := 2 ≤ Tryd.prog.types.size) (by kernel_rfl); omega
theorem idLaw : WideMaps.KeyLaw Tryd.prog 26 := deep_law_laid idk_laid (m := 2) (by omega) idk_row (by kernel_rfl) (by rw [Tryd.underlying26])
theorem idk_cells : Tryd.prog.cellsOf 26 = 2 := by kernel_rfl
theorem idk_int : Tryd.prog.cellsOf 3 = 1 := by kernel_rfl
theorem lits_int (d : Nat) (n : Int) (hn : (Lit.int .i64 n).wf = true) : Tryd.prog.keyLits (d + 1) 3 [.int .i64 n] = some [.int .i64 n] := by
  unfold Program.keyLits; rw [Tryd.underlying3]; simp [hn]
theorem lits_id (d : Nat) (x : ID) (hx : okID x) : Tryd.prog.keyLits (d + 2) 26 [.int .i64 x.f0, .int .i64 x.f1] = some [.int .i64 x.f0, .int .i64 x.f1] := by
  unfold Program.keyLits; rw [Tryd.underlying26]; simp [idk_cells, idk_int, lits_int d _ hx.1, lits_int d _ hx.2]
theorem idKey : KeyK Tryd.prog 26 encID okID where
  keyed := Keyed.of_law idLaw
  lit x hx := by
    refine ⟨.string (keyBytes [.int .i64 x.f0, .int .i64 x.f1]), ?_⟩
    have hf : (encID x).formed Tryd.prog 26 = true := by
      simp [encID, Value.formed, Tryd.underlying26, idk_cells]
    unfold keyOf; rw [Tryd.underlying26]; simp only [idk_key, hf, Bool.and_self, if_true]
    have hc : (encID x).cells.toList = [.int .i64 x.f0, .int .i64 x.f1] := by simp [encID, Value.cells]
    rw [hc, idk_tsize, show 2 + (Tryd.prog.types.size - 2) + 1 = (Tryd.prog.types.size - 1) + 2 from by have := idk_tsize; omega, lits_id _ x hx]; rfl
  inj p q _ _ h := by
    simp only [encID, Value.agg.injEq, Array.mk.injEq, List.cons.injEq, Value.int.injEq, and_true, true_and] at h; exact id_ext h.1 h.2
theorem neID_f {a b : ID} (h : a = b) : (!(a.f0 == b.f0) || (!(a.f1 == b.f1))) = false := by subst h; simp
theorem neID_t {a b : ID} (h : ¬ a = b) : (!(a.f0 == b.f0) || (!(a.f1 == b.f1))) = true := by
  by_cases e0 : a.f0 = b.f0
  · by_cases e1 : a.f1 = b.f1
    · exact absurd (by cases a; cases b; simp_all) h
    · simp [e1]
  · simp [e0]
end Go.Proofs.YtbjjgaahdnfflaaDoor.Pr
end
section
namespace Go.Proofs.YtbjjgaahdnfflaaDoor.Pr
open Go.RowKit Go.Proofs.YtbjjgaahdnfflaaDoorW.PrintWords Go.Proofs.YtbjjgaahdnfflaaDoorW.PrintLast Go.Proofs.YtbjjgaahdnfflaaDoorW.PrintMore
structure BW (W : World) where
  now : World
  ok : Below W.heap.size W now
instance bwNonempty (W : World) : Nonempty (BW W) := ⟨⟨W, Below.refl _ _⟩⟩
theorem wp_region_below {P : Program} {id : Nat} {Q : Exit → Act → World → Prop} {a : Act} {W : World} {l : List Oper} (hm : P.follows .mixedOrders = true) (hB : Region.lexB .any l.toArray = true)
    (h : wpQuiet P l.toArray (fun w' => ∃ u : BW W, w' = u.now) (fun a' => ∀ w', (∃ u : BW W, w' = u.now) → Q .normal a' w') l a) : (Code.region id l.toArray true).wp P Q a W :=
  wp_region_quiet (C := fun w' => ∃ u : BW W, w' = u.now) hm hB ⟨⟨_, Qac (Below.refl W.heap.size W)⟩, rfl⟩ (by simpa using h)
theorem Qay {W : World} {a : Addr} {v : Value} (h : W.cell? a = some v) (u : BW W) : u.now.cell? a = some v := pw_cell_below u.ok h
theorem bw_call {P : Program} {f : FuncId} {args : Array Value} {W : World} {v : Value} {u : BW W} (h : Calls P f args u.now fun e w' => e = .returned v ∧ Below u.now.heap.size u.now w') : Calls P f args u.now fun e w'' => e = .returned v ∧ ∃ u' : BW W, w'' = u'.now :=
  h.mono fun _ w' ⟨he, hb⟩ => ⟨he, ⟨w', Qaf u.ok hb⟩, rfl⟩
theorem bw_alloc {w : World} {a : Addr} {v : Value} (h : w.cell? a = some v) (o : Obj) : (w.alloc o).cell? a = some v := pw_cell_below (Qab (Below.refl _ _) o) h
end Go.Proofs.YtbjjgaahdnfflaaDoor.Pr
end
section
namespace Go.Proofs.YtbjjgaahdnfflaaDoor
open Go.RowKit
def domName (n : Int) : ByteArray :=
  if n = 1 then ⟨#[100, 49]⟩ else if n = 2 then ⟨#[100, 50]⟩ else if n = 3 then ⟨#[100, 51]⟩ else if n = 4 then ⟨#[100, 52]⟩
  else if n = 5 then ⟨#[100, 53]⟩ else if n = 6 then ⟨#[100, 54]⟩ else if n = 7 then ⟨#[100, 55]⟩ else if n = 8 then ⟨#[100, 56]⟩
  else if n = 9 then ⟨#[100, 57]⟩ else if n = 10 then ⟨#[100, 49, 48]⟩ else if n = 11 then ⟨#[100, 49, 49]⟩ else if n = 12 then ⟨#[100, 49, 50]⟩
  else if n = 13 then ⟨#[100, 49, 51]⟩ else if n = 14 then ⟨#[100, 49, 52]⟩ else if n = 15 then ⟨#[100, 49, 53]⟩ else if n = 16 then ⟨#[100, 49, 54]⟩
  else ⟨#[]⟩
theorem domName_out (n : Int) (h : n < 1 ∨ 16 < n) : domName n = ⟨#[]⟩ := by
  unfold domName
  repeat rw [if_neg (by omega)]
set_option maxRecDepth 100000 in
theorem domain_walk (n : Int) (w : World) : Calls Tryd.prog 45 #[.int .i64 n] w fun e w' => e = .returned (.string (domName n)) ∧ w = w' := by
  by_cases h : n < 1 ∨ 16 < n
  · have H := Lib.hid (domName_out n h)
    rcases h with h | h
    · have h1 : decide (n < 1) = true := decide_eq_true h
      go_enter Tryd.func45, Tryd.ntmps45; go_wp2; go_ret; exact ⟨by rw [H.out]; rfl, rfl⟩
    · have h1 : decide (n < 1) = false := decide_eq_false (by omega)
      have h2 : decide (16 < n) = true := decide_eq_true h; go_enter Tryd.func45, Tryd.ntmps45; go_wp2; go_ret; exact ⟨by rw [H.out]; rfl, rfl⟩
  · have h' : n = 1 ∨ n = 2 ∨ n = 3 ∨ n = 4 ∨ n = 5 ∨ n = 6 ∨ n = 7 ∨ n = 8 ∨ n = 9 ∨ n = 10 ∨ n = 11 ∨ n = 12 ∨ n = 13 ∨ n = 14 ∨ n = 15 ∨ n = 16 := by omega
    clear h
    rcases h' with rfl | rfl | rfl | rfl | rfl | rfl | rfl | rfl | rfl | rfl | rfl | rfl | rfl | rfl | rfl | rfl
    all_goals
      go_enter Tryd.func45, Tryd.ntmps45; go_wp2; go_ret; exact ⟨by first | rfl | decide, rfl⟩
end Go.Proofs.YtbjjgaahdnfflaaDoor
end
section
namespace Go.Proofs.YtbjjgaahdnfflaaDoor.Pr
open Go.RowKit Go.Proofs.YtbjjgaahdnfflaaDoorW.PrintWords Go.Proofs.YtbjjgaahdnfflaaDoorW.PrintLast Go.Proofs.YtbjjgaahdnfflaaDoorW.PrintMore
attribute [local go_sem] max2_int min2_int max_two min_two max_three min_three max_four min_four
set_option linter.unusedVariables false
set_option linter.unusedSimpArgs false
def names_Domain.f (a0 : Int) : Option ByteArray := some (domName a0)
theorem names_Domain.calls (a0 : Int) (r : ByteArray) (w : World) (h : names_Domain.f a0 = some r) :
    Calls Tryd.prog 45 #[.int .i64 a0] w fun e w' => e = .returned (.string r) ∧ Drawn0 w w' := by
  obtain rfl := Option.some.inj h
  exact (domain_walk a0 w).mono fun e w' ⟨he, hw⟩ => ⟨he, by rw [hw]; exact Drawn0.refl _⟩
def cred_Role.f (a0_0 : Int) (a0_1 : Int) (a0_2 : ByteArray) (a0_3 : Int) (a0_4 : ByteArray) (a0_5 : ByteArray) (a0_6 : ByteArray) (a0_7 : ByteArray) (a0_8 : ByteArray) : Option (ByteArray × ByteArray) := (names_Domain.f a0_0).bind fun t103 => (some (t103, a0_2))
def cred_Role.T1 : Bool × List (List Nat × List Nat) := (true, [([], []), ([0], [0]), ([1], [1]), ([2], [2]), ([], []), ([4], [4]), ([3, 5], [3, 5]), ([6, 3, 0, 1, 2, 3, 4, 5, 6], [6])])
def cred_Role.B1 : List Nat := [0, 1, 3, 7, 0, 16, 63, 127]
theorem cred_Role.tab1 : rtab .any (opsOf Tryd.f35 1) = cred_Role.T1 := by kernel_rfl
theorem cred_Role.bits1 : waitsOk cred_Role.T1.2 cred_Role.B1 = true := by kernel_rfl
set_option maxHeartbeats 8000000 in
set_option maxRecDepth 100000 in
theorem cred_Role.calls (a0_0 : Int) (a0_1 : Int) (a0_2 : ByteArray) (a0_3 : Int) (a0_4 : ByteArray) (a0_5 : ByteArray) (a0_6 : ByteArray) (a0_7 : ByteArray) (a0_8 : ByteArray) (r1 : ByteArray) (r2 : ByteArray) (w : World) (h : cred_Role.f a0_0 a0_1 a0_2 a0_3 a0_4 a0_5 a0_6 a0_7 a0_8 = some (r1, r2)) :
  Calls Tryd.prog 35 #[.agg #[.int .i64 a0_0, .int .i64 a0_1, .string a0_2, .int .i64 a0_3, .string a0_4, .string a0_5, .string a0_6, .string a0_7, .string a0_8]] w fun e w' => e = .returned (.agg #[.string r1, .string r2]) ∧ Below w.heap.size w w' := by
 have hu42 := Tryd.underlying42; have hu24 := Tryd.underlying24; have HB := Qad.mk (Below.refl w.heap.size w); have H : ((names_Domain.f a0_0).bind fun t103 => (some (t103, a0_2))) = some (r1, r2) := h; clear h; replace H := Option.bind_eq_some_iff.mp H; obtain ⟨t103, A20, H⟩ := H; replace H : (some (t103, a0_2)) = some (r1, r2) := H; have A2 := Qad.mk A20; clear A20; simp only [Option.some.injEq, Prod.mk.injEq] at H; obtain ⟨rfl, rfl⟩ := H; go_enter Tryd.func35, Tryd.ntmps35
 try go_wp2_with (first | ((with_reducible refine gate_dst (N := 1) rfl ?_); refine box_event ?hg (N := 1) ?hd (cs := #[.int .i64 a0_0, .int .i64 a0_1, .string a0_2, .int .i64 a0_3, .string a0_4, .string a0_5, .string a0_6, .string a0_7, .string a0_8]) (t := 42) ?hr ?_; (case hd => rfl); (case hg => rfl); (case hr => first | (go_simp; done) | (go_simp; rfl)); intro gb101 hg w3 hbox hb; have n0_ := Qad.mk (Qaf (by repeat (first | (with_reducible first | exact HB.out | apply Qab | apply Qaa | apply Qac) | exact HB.out)) hb); have n1_ := Qad.mk (hbox); have n2_ := Qad.mk ((by rw [hg]; exact (Qav (by repeat (first | (with_reducible first | exact HB.out | apply Qab | apply Qaa | apply Qac) | exact HB.out))) : w.heap.size ≤ gb101)); have n3_ := n2_; clear HB; have HB := n0_; have BK101 := n1_; have GW101 := n2_; have GE101 := n3_; clear n0_ n1_ n2_ n3_; clear hb hbox hg) | ((with_reducible refine gate_dst (N := 2) rfl ?_); refine box_event ?hg (N := 2) ?hd (cs := #[.string (⟨#[]⟩ : ByteArray), .string (⟨#[]⟩ : ByteArray)]) (t := 24) ?hr ?_; (case hd => rfl); (case hg => rfl); (case hr => first | (go_simp; done) | (go_simp; rfl)); intro gb102 hg w4 hbox hb; have n0_ := Qad.mk (Qae (g := gb101) (o := Qaw a0_0 a0_1 a0_2 a0_3 a0_4 a0_5 a0_6 a0_7 a0_8 42) (by (with_reducible repeat (first | refine Qah ?_ _ | refine Qak ?_ | refine Qag ?_ _)); exact BK101.out) hb); have n1_ := Qad.mk (Qaf (by repeat (first | (with_reducible first | exact HB.out | apply Qab | apply Qaa | apply Qac | refine Qaj ?_ GE101.out) | exact HB.out)) hb); have n2_ := Qad.mk (hbox); have n3_ := Qad.mk ((by rw [hg]; exact (Qav (by repeat (first | (with_reducible first | exact HB.out | apply Qab | apply Qaa | apply Qac | refine Qaj ?_ GE101.out) | exact HB.out))) : w.heap.size ≤ gb102)); have n4_ := n3_; have n5_ := Qad.mk ((by rw [hg]; exact Nat.ne_of_lt (blk_lt (g := gb101) (o := Qaw a0_0 a0_1 a0_2 a0_3 a0_4 a0_5 a0_6 a0_7 a0_8 42) (by (with_reducible repeat (first | refine Qah ?_ _ | refine Qak ?_ | refine Qag ?_ _)); exact BK101.out)) : gb101 ≠ gb102)); have n6_ := Qad.mk ((by rw [hg]; exact Nat.ne_of_gt (blk_lt (g := gb101) (o := Qaw a0_0 a0_1 a0_2 a0_3 a0_4 a0_5 a0_6 a0_7 a0_8 42) (by (with_reducible repeat (first | refine Qah ?_ _ | refine Qak ?_ | refine Qag ?_ _)); exact BK101.out)) : gb102 ≠ gb101)); clear BK101; clear HB; have BK101 := n0_; have HB := n1_; have BK102 := n2_; have GW102 := n3_; have GE102 := n4_; have NB101_102 := n5_; have NB102_101 := n6_; clear n0_ n1_ n2_ n3_ n4_ n5_ n6_; clear hb hbox hg))
 have n0_ := Qad.mk (Qak BK101.out); have n1_ := Qad.mk (Qak BK102.out); have n2_ := Qad.mk (Qac HB.out); clear BK101; clear BK102; clear HB; have BK101 := n0_; have BK102 := n1_; have HB := n2_; clear n0_ n1_ n2_; refine start_ (n := 8) (S := fun w' => w'.cell? ⟨gb101, 0, none⟩ = some (.int .i64 a0_0) ∧ w'.cell? ⟨gb101, 1, none⟩ = some (.int .i64 a0_1) ∧ w'.cell? ⟨gb101, 2, none⟩ = some (.string a0_2) ∧ w'.cell? ⟨gb101, 3, none⟩ = some (.int .i64 a0_3) ∧ w'.cell? ⟨gb101, 4, none⟩ = some (.string a0_4) ∧ w'.cell? ⟨gb101, 5, none⟩ = some (.string a0_5) ∧ w'.cell? ⟨gb101, 6, none⟩ = some (.string a0_6) ∧ w'.cell? ⟨gb101, 7, none⟩ = some (.string a0_7) ∧ w'.cell? ⟨gb101, 8, none⟩ = some (.string a0_8)) (ds := []) #[ff,ff,ff,ff,ff,ff,ff,ff] (by kernel_rfl) rfl rfl ⟨(Qai BK101.out 0).trans rfl, (Qai BK101.out 1).trans rfl, (Qai BK101.out 2).trans rfl, (Qai BK101.out 3).trans rfl, (Qai BK101.out 4).trans rfl, (Qai BK101.out 5).trans rfl, (Qai BK101.out 6).trans rfl, (Qai BK101.out 7).trans rfl, (Qai BK101.out 8).trans rfl⟩ (fun hHeld => ?_); refine with_tabW cred_Role.tab1 cred_Role.bits1 (fun HT_ HW_ => ?_)
 generalize w4.drew = w5 at BK101 BK102 HB hHeld ⊢
 refine pure_ (i := 0) (N := some 3) (v := ?_) (a' := ?_) #[tt,ff,ff,ff,ff,ff,ff,ff] rfl rfl (any_of HT_.out (by kernel_rfl)) (fun _ _ _ h => h) (Or.inl ⟨by rfl, ?_⟩) ?_ ?_; rotate_left
 ·intro w'; go_simp; (with_reducible rfl)
 rotate_left
 ·simp only [Act.put, put_, i64_w, i32_w]; rfl
 refine pure_ (i := 1) (N := some 4) (v := ?_) (a' := ?_) #[tt,tt,ff,ff,ff,ff,ff,ff] rfl rfl (any_of HT_.out (by kernel_rfl)) (fun _ _ _ h => h) (Or.inl ⟨by rfl, ?_⟩) ?_ ?_; rotate_left
 ·intro w'; go_simp; (with_reducible rfl)
 rotate_left
 ·simp only [Act.put, put_, i64_w, i32_w]; rfl
 refine pure_ (i := 4) (N := some 7) (v := ?_) (a' := ?_) #[tt,tt,ff,ff,tt,ff,ff,ff] rfl rfl (any_of HT_.out (by kernel_rfl)) (fun _ _ _ h => h) (Or.inl ⟨by rfl, ?_⟩) ?_ ?_; rotate_left
 ·intro w'; go_simp; (with_reducible rfl)
 rotate_left
 ·simp only [Act.put, put_, i64_w, i32_w]; rfl
 refine take_ (i := 2) (N := some 5) (v := ?_) (a' := ?_) #[tt,tt,tt,ff,tt,ff,ff,ff] rfl rfl (take_ofW HT_.out HW_.out (by kernel_rfl)) (fun _ _ _ h => h) (Or.inl ⟨by rfl, ?_⟩) hHeld ?_ ?_; rotate_left
 ·rintro w' ⟨s0, s1, s2, s3, s4, s5, s6, s7, s8⟩; go_simp; (with_reducible rfl)
 rotate_left
 ·simp only [Act.put, put_, i64_w, i32_w]; rfl
 refine take_ (i := 5) (N := some 8) (v := ?_) (a' := ?_) #[tt,tt,tt,ff,tt,tt,ff,ff] rfl rfl (take_ofW HT_.out HW_.out (by kernel_rfl)) (fun _ _ _ h => h) (Or.inl ⟨by rfl, ?_⟩) hHeld ?_ ?_; rotate_left
 ·rintro w' ⟨s0, s1, s2, s3, s4, s5, s6, s7, s8⟩; go_simp; (with_reducible rfl)
 rotate_left
 ·simp only [Act.put, put_, i64_w, i32_w]; rfl
 refine one_ (i := 3) (N := some 6) #[tt,tt,tt,tt,tt,tt,ff,ff] rfl rfl (one_of HT_.out (by kernel_rfl)) (by decide) (fun K hK => ?_); refine goes_ Tryd.func45 (by kernel_rfl) rfl #[.int .i64 a0_0] (by rfl) rfl rfl (by (try simp only [List.map_toArray, List.map_cons, List.map_nil]); first | done | rfl | (simp only [List.length_drop, List.length_take]; rfl)) ?_
 with_reducible refine (names_Domain.calls a0_0 t103 _ A2.out).mono ?_
 rintro e w' ⟨rfl, ⟨nd, rfl⟩⟩; refine ⟨_, rfl, ?_⟩; refine hK.out _ _ ⟨(Qai BK101.out 0).trans rfl, (Qai BK101.out 1).trans rfl, (Qai BK101.out 2).trans rfl, (Qai BK101.out 3).trans rfl, (Qai BK101.out 4).trans rfl, (Qai BK101.out 5).trans rfl, (Qai BK101.out 6).trans rfl, (Qai BK101.out 7).trans rfl, (Qai BK101.out 8).trans rfl⟩ (fun hHeld => ?_); clear hK K; refine norm_ (a' := ?_) ?_ ?_; rotate_left
 ·show Act.put _ (some 6) _ = _
  simp only [Act.put, put_, i64_w, i32_w]; rfl
 refine pure_ (i := 6) (N := some 9) (v := ?_) (a' := ?_) #[tt,tt,tt,tt,tt,tt,tt,ff] rfl rfl (any_of HT_.out (by kernel_rfl)) (fun _ _ _ h => h) (Or.inl ⟨by rfl, ?_⟩) ?_ ?_; rotate_left
 ·intro w'; go_simp; (with_reducible rfl)
 rotate_left
 ·simp only [Act.put, put_, i64_w, i32_w]; rfl
 refine one_ (i := 7) (N := none) #[tt,tt,tt,tt,tt,tt,tt,tt] rfl rfl (one_of HT_.out (by kernel_rfl)) (by decide) (fun K hK => ?_); have hs6 : w5.cell? ⟨gb102, 0, none⟩ = some (.string (⟨#[]⟩ : ByteArray)) := (Qai BK102.out 0).trans rfl; have hfs6 := Qal BK102.out 0; have hns6_0 := NB101_102.out; have hms6_0 := NB102_101.out; have hs7 : w5.cell? ⟨gb102, 1, none⟩ = some (.string (⟨#[]⟩ : ByteArray)) := (Qai BK102.out 1).trans rfl; have hfs7 := Qal BK102.out 1; have hns7_0 := NB101_102.out; have hms7_0 := NB102_101.out; refine skip_ (w1 := ?_) (by rfl) rfl ?_ ?_; rotate_left
 ·go_simp; rfl
 refine hK.out _ _ ⟨((cell_far (p := ⟨gb102, _, none⟩) NB101_102.out _).trans (((cell_far (p := ⟨gb102, _, none⟩) NB101_102.out _).trans (hHeld.1)))), ((cell_far (p := ⟨gb102, _, none⟩) NB101_102.out _).trans (((cell_far (p := ⟨gb102, _, none⟩) NB101_102.out _).trans (hHeld.2.1)))), ((cell_far (p := ⟨gb102, _, none⟩) NB101_102.out _).trans (((cell_far (p := ⟨gb102, _, none⟩) NB101_102.out _).trans (hHeld.2.2.1)))), ((cell_far (p := ⟨gb102, _, none⟩) NB101_102.out _).trans (((cell_far (p := ⟨gb102, _, none⟩) NB101_102.out _).trans (hHeld.2.2.2.1)))), ((cell_far (p := ⟨gb102, _, none⟩) NB101_102.out _).trans (((cell_far (p := ⟨gb102, _, none⟩) NB101_102.out _).trans (hHeld.2.2.2.2.1)))), ((cell_far (p := ⟨gb102, _, none⟩) NB101_102.out _).trans (((cell_far (p := ⟨gb102, _, none⟩) NB101_102.out _).trans (hHeld.2.2.2.2.2.1)))), ((cell_far (p := ⟨gb102, _, none⟩) NB101_102.out _).trans (((cell_far (p := ⟨gb102, _, none⟩) NB101_102.out _).trans (hHeld.2.2.2.2.2.2.1)))), ((cell_far (p := ⟨gb102, _, none⟩) NB101_102.out _).trans (((cell_far (p := ⟨gb102, _, none⟩) NB101_102.out _).trans (hHeld.2.2.2.2.2.2.2.1)))), ((cell_far (p := ⟨gb102, _, none⟩) NB101_102.out _).trans (((cell_far (p := ⟨gb102, _, none⟩) NB101_102.out _).trans (hHeld.2.2.2.2.2.2.2.2))))⟩ (fun hHeld => ?_); clear hK K; refine done_ (done_of HT_.out (by kernel_rfl)) ?_
 try go_wp2
 refine bodyPost_ret (results_cell_row rfl _ _ gb102 24 #[.string t103, .string a0_2] (0, 0) _ rfl (by (with_reducible repeat (first | refine Qah ?_ _ | refine Qak ?_ | refine Qag ?_ _)); refine blk_put (cs := #[.string t103, .string (⟨#[]⟩ : ByteArray)]) ?_ 1 _ rfl; (with_reducible repeat (first | refine Qah ?_ _ | refine Qak ?_ | refine Qag ?_ _)); refine blk_put (cs := #[.string (⟨#[]⟩ : ByteArray), .string (⟨#[]⟩ : ByteArray)]) ?_ 0 _ rfl; (with_reducible repeat (first | refine Qah ?_ _ | refine Qak ?_ | refine Qag ?_ _)); exact BK102.out) Tryd.underlying24 rfl (by kernel_rfl)) rfl ?_; exact ⟨by first | rfl | (simp [Qau, Qat] <;> rfl) | (simp [*, Qau, Qat] <;> rfl), by repeat (first | (with_reducible first | exact HB.out | apply Qab | apply Qaa | apply Qac | refine Qaj ?_ GE101.out | refine Qaj ?_ GE102.out) | exact HB.out)⟩
set_option maxRecDepth 100000 in
set_option maxHeartbeats 1000000 in
theorem or_calls (w : World) (g : Nat) (a b : Int) (h0 : w.cell? ⟨g, 0, none⟩ = some (.int .i64 a)) (h1 : w.cell? ⟨g, 1, none⟩ = some (.int .i64 b)) :
    Calls Tryd.prog 43 #[.slice (some ⟨g, 0, none⟩) 2 2] w fun e w' => e = .returned (.int .i64 (if a = 0 then b else a)) ∧ w' = w := by
  obtain ⟨r, hr⟩ : ∃ r, r = (if a = 0 then b else a) := ⟨_, rfl⟩
  rw [← hr]; have HR := Lib.hid hr; clear hr; go_enter Tryd.func43, Tryd.ntmps43; go_wp2
  go_loopg [5, 8] 3 (fun kq _ v8 w' => ∃ i : Nat, v8 = .int .i64 i ∧ Hid (kq = 3 - i) ∧ Hid (i ≤ 2) ∧ w' = w ∧ Hid (1 ≤ i → a = 0) ∧ Hid (2 ≤ i → b = 0))
  case atStart => exact ⟨0, rfl, Lib.hid rfl, Lib.hid (by omega), rfl, Lib.hid (by omega), Lib.hid (by omega)⟩
  case round =>
    obtain ⟨i, rfl, HK, HI, rfl, HA, HB⟩ := hrel; have hi := HI.out
    by_cases i0 : i = 0
    · subst i0
      clear hi
      by_cases a0 : a = 0
      · have b0 : (a != 0) = false := by rw [a0]; rfl
        have A0 := Lib.hid a0; clear a0; go_wp2
        go_roundg 2
        case measure => have := HK.out; omega
        case rel => exact ⟨1, rfl, Lib.hid rfl, Lib.hid (by omega), rfl, Lib.hid (fun _ => A0.out), Lib.hid (by omega)⟩
      · have b0 : (a != 0) = true := bne_iff_ne.mpr a0
        have A0 := Lib.hid a0; clear a0; go_wp2; go_ret; exact ⟨by rw [HR.out, if_neg A0.out]; rfl, rfl⟩
    · by_cases i1 : i = 1
      · subst i1
        clear hi i0
        by_cases a0 : b = 0
        · have b0 : (b != 0) = false := by rw [a0]; rfl
          have A0 := Lib.hid a0; clear a0; go_wp2
          go_roundg 1
          case measure => have := HK.out; omega
          case rel => exact ⟨2, rfl, Lib.hid rfl, Lib.hid (by omega), rfl, Lib.hid (fun _ => HA.out (by omega)), Lib.hid (fun _ => A0.out)⟩
        · have b0 : (b != 0) = true := bne_iff_ne.mpr a0
          have A0 := Lib.hid a0; clear a0; go_wp2; go_ret; exact ⟨by rw [HR.out, if_pos (HA.out (by omega))]; rfl, rfl⟩
      · have i2 : i = 2 := by omega
        subst i2; clear hi i0 i1; go_wp2; go_ret; exact ⟨by rw [HR.out, if_pos (HA.out (by omega)), HB.out (by omega)]; rfl, rfl⟩
end Go.Proofs.YtbjjgaahdnfflaaDoor.Pr
end
section
namespace Go.Proofs.YtbjjgaahdnfflaaDoor.Pr
open Go.RowKit Go.Proofs.YtbjjgaahdnfflaaDoorW.PrintWords Go.Proofs.YtbjjgaahdnfflaaDoorW.PrintLast Go.Proofs.YtbjjgaahdnfflaaDoorW.PrintMore
open Go.Sort
structure Flat {α : Type} (d : Kd α) (enc : α → List Value) : Prop where
  opens : ∀ {w base ok x cs}, d.M w base ok x cs → cs = enc x
  shuts : ∀ w base ok x, d.M w base ok x (enc x)
  len : ∀ x, (enc x).length = d.sz
section
variable {α : Type} [Inhabited α] {d : Kd α} {enc : α → List Value} {w : World} {e base : Nat} {ok : Nat → Prop} {g off n cap : Nat} {l : List α}
omit [Inhabited α] in
theorem flat_len (enc : α → List Value) (k : Nat) (hk : ∀ x, (enc x).length = k) (l : List α) : (l.flatMap enc).length = l.length * k := by
  induction l with
  | nil => simp
  | cons x l ih => rw [List.flatMap_cons, List.length_append, hk, ih, List.length_cons, Nat.add_mul, Nat.one_mul, Nat.add_comm]
theorem flat_toList (enc : α → List Value) (k : Nat) (hk : ∀ x, (enc x).length = k) (l : List α) : (flatK enc k l.toArray).toList = l.flatMap enc := by
  apply List.ext_getElem?
  intro i; have hlen : (l.flatMap enc).length = l.length * k := flat_len enc k hk l
  by_cases hi : i < l.length * k
  · have hk0 : 0 < k := by rcases Nat.eq_zero_or_pos k with h | h; (subst h; simp at hi); exact h
    have h1 := get_flatK enc k l.toArray i (by simpa using hi); rw [Array.getElem?_toList, getElem?_pos _ i (by simpa using hi)]; rw [getElem!_pos _ i (by simpa using hi)] at h1; rw [h1]; clear h1 hlen
    induction l generalizing i with
    | nil => simp at hi
    | cons x l ih =>
      rw [List.flatMap_cons]
      by_cases hx : i < k
      · rw [List.getElem?_append_left (by rw [hk]; exact hx), Nat.div_eq_of_lt hx, Nat.mod_eq_of_lt hx]
        simp [hk, hx]
      · rw [List.getElem?_append_right (by rw [hk]; omega), hk]
        have hi2 : i - k < l.length * k := by simp [Nat.add_mul] at hi; omega
        have e1 : i / k = (i - k) / k + 1 := by
          have := Nat.add_div_right (i - k) hk0; rw [show i - k + k = i by omega] at this; exact this
        have e2 : i % k = (i - k) % k := by
          have := Nat.add_mod_right (i - k) k; rw [show i - k + k = i by omega] at this; exact this
        rw [← ih (i - k) hi2, e1, e2]; simp
  · rw [Array.getElem?_toList, getElem?_neg _ i (by simpa using hi), List.getElem?_eq_none (by omega)]
omit [Inhabited α] in
theorem reps_flat (hF : Flat d enc) {inner : List Value} (h : Reps (d.M w base ok) d.sz l inner) : inner = l.flatMap enc := by
  induction l generalizing inner with
  | nil =>
    have := h.1; simp at this; simp [this]
  | cons x l ih =>
    have h0 := hF.opens (h.2 0 x rfl); simp only [Nat.zero_mul, List.drop_zero] at h0
    have ht : Reps (d.M w base ok) d.sz l (inner.drop d.sz) := ⟨by rw [List.length_drop, h.1]; simp [Nat.add_mul], fun j p hp => by
      have := h.2 (j + 1) p (by simpa using hp); rw [List.drop_drop, show d.sz + j * d.sz = (j + 1) * d.sz by rw [Nat.add_mul]; omega]
      exact this⟩
    rw [List.flatMap_cons, ← ih ht, ← h0, List.take_append_drop]
omit [Inhabited α] in
theorem flat_reps (hF : Flat d enc) (w : World) (base : Nat) (ok : Nat → Prop) (l : List α) : Reps (d.M w base ok) d.sz l (l.flatMap enc) := by
  induction l with
  | nil => exact Reps.none _ _
  | cons x l ih =>
    refine ⟨?_, fun j p hp => ?_⟩
    · rw [List.flatMap_cons, List.length_append, hF.len, ih.1]
      simp [Nat.add_mul]; omega
    · rw [List.flatMap_cons]
      cases j with
      | zero =>
        simp at hp; subst hp; rw [Nat.zero_mul, List.drop_zero, List.take_append_of_le_length (by rw [hF.len]; exact Nat.le_refl _), List.take_of_length_le (by rw [hF.len]; exact Nat.le_refl _)]; exact hF.shuts _ _ _ _
      | succ j =>
        rw [show (j + 1) * d.sz = (enc x).length + j * d.sz by rw [hF.len, Nat.add_mul]; omega, ← List.drop_drop, List.drop_left' rfl]; exact ih.2 j p (by simpa using hp)
theorem holds_of_R (hF : Flat d enc) (hR : Kd.R d e w base ok (.slice (some ⟨g, off, none⟩) n cap) l) : off = 0 ∧ n = l.length ∧ base ≤ g ∧ HoldsK enc d.sz w g 0 l.toArray ∧ g < w.heap.size ∧ cap ≤ maxLen := by
  obtain ⟨h0, inner, ⟨hl, ho⟩, hr⟩ := hR
  rcases ho with ⟨ho, _⟩ | ⟨g', cap', cur, hv, hg, hb, hle, hmax, hsz, htake⟩
  · cases ho
  · simp only [Value.slice.injEq, Option.some.injEq, Addr.mk.injEq] at hv
    obtain ⟨⟨rfl, rfl, _⟩, rfl, rfl⟩ := hv; refine ⟨rfl, rfl, hg, ?_, blk_lt hb, hmax⟩; have hin := reps_flat hF hr; intro j hj; rw [size_flatK] at hj
    have hj' : j < l.length * d.sz := by simpa using hj
    rw [Nat.zero_add]; refine ⟨?_, Qal hb j⟩; rw [Qai hb]
    have e1 : cur[j]? = inner[j]? := by
      rw [← htake, List.getElem?_take_of_lt hj', Array.getElem?_toList]
    rw [e1, hin, ← flat_toList enc d.sz hF.len, Array.getElem?_toList, getElem?_pos _ j (by rw [size_flatK]; exact hj), getElem!_pos _ j (by rw [size_flatK]; exact hj)]; rfl
theorem sorted_block {w : World} {e : Nat} {cur : Array Value} (hb : w.heap[g]? = some (.cells cur e (0, 0))) (k m : Nat) (dl : List α) (os : Array Obj) :
    (sortWorldK enc k w g 0 m dl.toArray os).heap[g]? = some (.cells (putCells id 0 (flatK enc k dl.toArray) cur) e (0, 0)) := by
  unfold sortWorldK
  have h1 : g < (putRowK enc k (Sort.ahead w m) g 0 dl.toArray).heap.size := by
    show g < (putRow id (Sort.ahead w m) g 0 _).heap.size
    rw [size_putRow]; exact blk_lt hb
  rw [heap_grow_old _ _ h1]
  show ((Sort.ahead w m).heap.modify g _)[g]? = _
  rw [Array.getElem?_modify]
  show (if g = g then (w.heap[g]?).map _ else _) = _
  rw [if_pos rfl, hb]; rfl
theorem sorted_other (enc : α → List Value) (w : World) (g k m : Nat) (dl : List α) (os : Array Obj) (i : Nat) (hi : i < w.heap.size) (hne : i ≠ g) : (sortWorldK enc k w g 0 m dl.toArray os).heap[i]? = w.heap[i]? := by
  unfold sortWorldK
  have h1 : i < (putRowK enc k (Sort.ahead w m) g 0 dl.toArray).heap.size := by
    show i < (putRow id (Sort.ahead w m) g 0 _).heap.size
    rw [size_putRow]; exact hi
  rw [heap_grow_old _ _ h1]
  show ((Sort.ahead w m).heap.modify g _)[i]? = _
  rw [Array.getElem?_modify, if_neg (by omega)]; rfl
theorem sorted_below (enc : α → List Value) (w : World) (g k m : Nat) (dl : List α) (os : Array Obj) {B : Nat} (hB : B ≤ w.heap.size) (hg : B ≤ g) : Below B w (sortWorldK enc k w g 0 m dl.toArray os) := by
  refine ⟨rfl, rfl, rfl, ?_, fun i hi => sorted_other enc w g k m dl os i (by omega) (by omega)⟩; unfold sortWorldK; rw [size_grow]
  show _ ≤ (putRow id (Sort.ahead w m) g 0 _).heap.size + _
  rw [size_putRow]; exact Nat.le_add_right _ _
theorem R_of_sorted (hF : Flat d enc) (hR : Kd.R d e w base ok (.slice (some ⟨g, 0, none⟩) n cap) l) (m : Nat) (dl : List α) (os : Array Obj) (hlen : dl.length = l.length) : Kd.R d e (sortWorldK enc d.sz w g 0 m dl.toArray os) base ok (.slice (some ⟨g, 0, none⟩) n cap) dl := by
  obtain ⟨h0, inner, ⟨hl, ho⟩, hr⟩ := hR
  rcases ho with ⟨ho, _⟩ | ⟨g', cap', cur, hv, hg, hb, hle, hmax, hsz, htake⟩
  · cases ho
  · simp only [Value.slice.injEq, Option.some.injEq, Addr.mk.injEq] at hv
    obtain ⟨⟨rfl, _, _⟩, rfl, rfl⟩ := hv; refine ⟨h0, dl.flatMap enc, ⟨?_, .inr ⟨g, cap, putCells id 0 (flatK enc d.sz dl.toArray) cur, by rw [hlen], hg, sorted_block hb d.sz m dl os, by omega, hmax, ?_, ?_⟩⟩, flat_reps hF _ _ _ _⟩
    · exact (flat_reps hF w base ok dl).1
    · unfold putCells
      simpa using hsz
    · rw [← flat_toList enc d.sz hF.len]
      apply List.ext_getElem?
      intro i; have hle2 : l.length * d.sz ≤ cap * d.sz := Nat.mul_le_mul_right _ hle
      by_cases hi : i < l.length * d.sz
      · rw [List.getElem?_take_of_lt (by rw [hlen]; exact hi), Array.getElem?_toList, Array.getElem?_toList]
        unfold putCells; rw [Array.getElem?_mapIdx, getElem?_pos cur i (by omega), getElem?_pos _ i (by rw [size_flatK]; simpa [hlen] using hi)]; simp only [Option.map_some]; rw [if_pos ⟨Nat.zero_le _, by rw [size_flatK]; simpa [hlen] using hi⟩, Nat.sub_zero, getElem!_pos _ i (by rw [size_flatK]; simpa [hlen] using hi)]; rfl
      · rw [List.getElem?_eq_none (by rw [List.length_take]; rw [hlen]; omega), Array.getElem?_toList, getElem?_neg _ i (by rw [size_flatK]; simpa [hlen] using hi)]
end
end Go.Proofs.YtbjjgaahdnfflaaDoor.Pr
end
section
namespace Go.Proofs
open Go.Shelf
def Tryd.cmpInt_ren : Go.Shelf.Ren := ⟨fun | 5 => 44 | 7 => 58 | n => n, fun | 22 => 3 | 3 => 3 | 4 => 4 | n => n, fun | n => n⟩
theorem Tryd.cmpInt : Go.Proofs.SlLaysC2.n5 Tryd.prog Tryd.cmpInt_ren := {
  mixed := by kernel_rfl
  f5 := ⟨Tryd.f44.name, by decide, Tryd.func44.trans (congrArg some (by kernel_rfl))⟩
  f7 := ⟨Tryd.f58.name, by decide, Tryd.func58.trans (congrArg some (by kernel_rfl))⟩
  t3 := Tryd.underlying3
  a3 := Tryd.isAgg3
  z3 := Tryd.sizeOf3
  v3 := Tryd.zeroValue3
  t4 := Tryd.underlying4
  a4 := Tryd.isAgg4
  z4 := Tryd.sizeOf4
  v4 := Tryd.zeroValue4
  t22 := Tryd.underlying3
  a22 := Tryd.isAgg3
  z22 := Tryd.sizeOf3
  v22 := Tryd.zeroValue3 }
end Go.Proofs
end
section
namespace Go.Proofs.YtbjjgaahdnfflaaDoor.Pr
open Go.RowKit Go.Proofs.YtbjjgaahdnfflaaDoorW.PrintWords Go.Proofs.YtbjjgaahdnfflaaDoorW.PrintLast Go.Proofs.YtbjjgaahdnfflaaDoorW.PrintMore
attribute [local go_sem] max2_int min2_int max_two min_two max_three min_three max_four min_four
set_option linter.unusedVariables false
set_option linter.unusedSimpArgs false
abbrev Role := S24
theorem role_ext {a b : Role} (h0 : a.f0 = b.f0) (h1 : a.f1 = b.f1) : a = b := by cases a; cases b; simp_all
instance roleDec : DecidableEq Role := fun a b => decidable_of_iff (a.f0 = b.f0 ∧ a.f1 = b.f1) ⟨fun h => role_ext h.1 h.2, fun h => by rw [h]; exact ⟨rfl, rfl⟩⟩
abbrev Cred := S42
abbrev kCred := k42
theorem Tryd.cellsRole : Tryd.prog.cellsOf 24 = 2 := by kernel_rfl
theorem Tryd.cellsStr : Tryd.prog.cellsOf 9 = 1 := by kernel_rfl
def encCred (c : Cred) : Value := .agg #[.int .i64 c.f0.f0, .int .i64 c.f0.f1, .string c.f1, .int .i64 c.f2, .string c.f3, .string c.f4.f0, .string c.f4.f1, .string c.f5.f0, .string c.f5.f1]
def credRole (c : Cred) : Role := ⟨domName c.f0.f0, c.f1⟩
theorem credRole_calls (c : Cred) (w : World) : Calls Tryd.prog 35 #[encCred c] w fun e w' => e = .returned (.agg #[.string (credRole c).f0, .string (credRole c).f1]) ∧ Below w.heap.size w w' := cred_Role.calls _ _ _ _ _ _ _ _ _ _ _ _ (by rfl)
theorem eqRole_t {a b : Role} (h : a = b) : (a.f0.toList == b.f0.toList && (a.f1.toList == b.f1.toList)) = true := by subst h; simp
theorem eqRole_f {a b : Role} (h : ¬ a = b) : (a.f0.toList == b.f0.toList && (a.f1.toList == b.f1.toList)) = false := by
  rw [Bool.eq_false_iff]; intro e; simp only [Bool.and_eq_true, beq_iff_eq] at e; exact h (role_ext ((Lib.bytes_beq_iff _ _).mp (by rw [beq_iff_eq]; exact e.1)) ((Lib.bytes_beq_iff _ _).mp (by rw [beq_iff_eq]; exact e.2)))
abbrev credObj (c : Cred) : Obj := .cells #[.int .i64 c.f0.f0, .int .i64 c.f0.f1, .string c.f1, .int .i64 c.f2, .string c.f3, .string c.f4.f0, .string c.f4.f1, .string c.f5.f0, .string c.f5.f1] 42
theorem credCells {W : World} {k : Nat} {c : Cred} (h : W.heap[k]? = some (credObj c)) : W.cell? ⟨k, 0, none⟩ = some (.int .i64 c.f0.f0) ∧ W.cell? ⟨k, 1, none⟩ = some (.int .i64 c.f0.f1) ∧ W.cell? ⟨k, 2, none⟩ = some (.string c.f1) ∧ W.cell? ⟨k, 3, none⟩ = some (.int .i64 c.f2) ∧ W.cell? ⟨k, 4, none⟩ = some (.string c.f3) ∧ W.cell? ⟨k, 5, none⟩ = some (.string c.f4.f0) ∧ W.cell? ⟨k, 6, none⟩ = some (.string c.f4.f1) ∧ W.cell? ⟨k, 7, none⟩ = some (.string c.f5.f0) ∧ W.cell? ⟨k, 8, none⟩ = some (.string c.f5.f1) :=
  ⟨(Qai h 0).trans rfl, (Qai h 1).trans rfl, (Qai h 2).trans rfl, (Qai h 3).trans rfl, (Qai h 4).trans rfl, (Qai h 5).trans rfl, (Qai h 6).trans rfl, (Qai h 7).trans rfl, (Qai h 8).trans rfl⟩
def credCmp (x y : Cred) : Int := if Lib.compareInt x.f0.f0 y.f0.f0 = 0 then Lib.compareInt x.f0.f1 y.f0.f1 else Lib.compareInt x.f0.f0 y.f0.f0
theorem cmp_calls (x y : Int) (w : World) : Calls Tryd.prog 44 #[.int .i64 x, .int .i64 y] w fun e w' => e = .returned (.int .i64 (Lib.compareInt x y)) ∧ w' = w := AnyG.cmp_Compare_int Tryd.cmpInt x y w
theorem boxes_grow (w : World) (a b c : Obj) (n : Nat) : ∃ q os, ((((w.alloc a).alloc b).drewN n).alloc c) = Sort.grow (w.drewN q) os := by
  refine ⟨n, #[a] ++ #[b] ++ #[c], ?_⟩; rw [Sort.alloc_eq_grow, Sort.alloc_eq_grow, Sort.alloc_eq_grow, Sort.grow_grow]; exact Sort.grow_grow (w.drewN n) _ _
set_option maxRecDepth 100000 in
set_option maxHeartbeats 4000000 in
theorem sorted1_calls (x y : Cred) (W : World) : Calls Tryd.prog 42 #[encCred x, encCred y] W fun e w' => e = .returned (.int .i64 (credCmp x y)) ∧ ∃ q os', w' = Sort.grow (W.drewN q) os' := by
  unfold credCmp encCred
  have hc1 := fun W' => cmp_calls x.f0.f0 y.f0.f0 W'
  have hc2 := fun W' => cmp_calls x.f0.f1 y.f0.f1 W'
  generalize Lib.compareInt x.f0.f0 y.f0.f0 = r1 at hc1 ⊢
  generalize Lib.compareInt x.f0.f1 y.f0.f1 = r2 at hc2 ⊢
  obtain ⟨r, hr⟩ : ∃ r, r = (if r1 = 0 then r2 else r1) := ⟨_, rfl⟩
  have hor := fun W g h0 h1 => or_calls W g r1 r2 h0 h1
  simp only [← hr] at hor ⊢; clear hr; go_enter Tryd.func42, Tryd.ntmps42
  go_upto_region 1 with fail
  change Code.wp _ _ _ _ ((W.alloc (credObj x)).alloc (credObj y))
  have HG : ∀ n : Nat, ∃ q os, ((((W.alloc (credObj x)).alloc (credObj y)).drewN n).alloc (.cells #[.int .i64 r1, .int .i64 r2] 3)) = Sort.grow (W.drewN q) os := fun n => boxes_grow W _ _ _ n
  have BX : ((W.alloc (credObj x)).alloc (credObj y)).heap[W.heap.size]? = some (credObj x) := Qag (blk_new W _) _
  have BY : ((W.alloc (credObj x)).alloc (credObj y)).heap[W.heap.size + 1]? = some (credObj y) := by
    have := blk_new (W.alloc (credObj x)) (credObj y)
    simpa using this
  generalize (W.alloc (credObj x)).alloc (credObj y) = V at HG BX BY ⊢
  have x0 := (credCells BX).1; have x1 := (credCells BX).2.1; have y0 := (credCells BY).1; have y1 := (credCells BY).2.1; refine wp_region_still_tail 14 (by kernel_rfl) (by kernel_rfl) ?_; simp only [List.take_succ_cons, List.take_zero, List.drop_succ_cons, List.drop_zero]
  still_step
  still_step
  still_step
  still_step
  still_step
  still_step
  still_call (hc1 _)
  still_step
  still_step
  still_step
  still_step
  still_step
  still_step
  still_call (hc2 _)
  refine wpStill_nil ?_; change wpList _ _ _ _ _ V.drew
  go_wp2_with (go_at_call 43; refine (hor _ V.heap.size ?_ ?_).mono ?_; simp; simp; rintro e w3 ⟨rfl, rfl⟩)
  go_ret; exact ⟨rfl, HG 1⟩
end Go.Proofs.YtbjjgaahdnfflaaDoor.Pr
end
section
namespace Go.Proofs.YtbjjgaahdnfflaaDoor.Pr
open Go.RowKit Go.Proofs.YtbjjgaahdnfflaaDoorW.PrintWords Go.Proofs.YtbjjgaahdnfflaaDoorW.PrintLast Go.Proofs.YtbjjgaahdnfflaaDoorW.PrintMore
abbrev roleObj2 (r : Role) : Obj := .cells #[.string r.f0, .string r.f1] 24
theorem roleCells2 {W : World} {k : Nat} {r : Role} (h : W.heap[k]? = some (roleObj2 r)) : W.cell? ⟨k, 0, none⟩ = some (.string r.f0) ∧ W.cell? ⟨k, 1, none⟩ = some (.string r.f1) :=
  ⟨(Qai h 0).trans rfl, (Qai h 1).trans rfl⟩
theorem boxed1 {w W : World} {o : Obj} (h : w.alloc o = W) : Below w.heap.size w W ∧ W.heap[w.heap.size]? = some o := by
  subst h; exact ⟨Qab (Below.refl w.heap.size w) _, blk_new w _⟩
theorem boxed2 {w W : World} {o1 o2 : Obj} (h : (w.alloc o1).alloc o2 = W) : Below w.heap.size w W ∧ W.heap[w.heap.size]? = some o1 ∧ W.heap[w.heap.size + 1]? = some o2 ∧ W.heap.size = w.heap.size + 1 + 1 := by
  subst h
  have e1 : (w.alloc o1).heap.size = w.heap.size + 1 := by simp
  refine ⟨Qab (Qab (Below.refl w.heap.size w) _) _, Qag (blk_new w _) _, ?_, by simp⟩; have := blk_new (w.alloc o1) o2
  rwa [e1] at this
theorem str_t {a b : ByteArray} (h : a = b) : (a.toList == b.toList) = true := by subst h; simp
theorem str_f {a b : ByteArray} (h : ¬ a = b) : (a.toList == b.toList) = false := by
  rw [Bool.eq_false_iff]; intro e; exact h ((Lib.bytes_beq_iff _ _).mp e)
theorem neRole_f {a b : Role} (h : a = b) : (!(a.f0.toList == b.f0.toList) || (!(a.f1.toList == b.f1.toList))) = false := by subst h; simp
theorem neRole_t {a b : Role} (h : ¬ a = b) : (!(a.f0.toList == b.f0.toList) || (!(a.f1.toList == b.f1.toList))) = true := by
  have := eqRole_f h
  revert this
  cases (a.f0.toList == b.f0.toList) <;> cases (a.f1.toList == b.f1.toList) <;> simp
end Go.Proofs.YtbjjgaahdnfflaaDoor.Pr
end
section
namespace Go.Proofs.YtbjjgaahdnfflaaDoor.Pr
open Go.RowKit Go.Proofs.YtbjjgaahdnfflaaDoorW.PrintWords Go.Proofs.YtbjjgaahdnfflaaDoorW.PrintLast Go.Proofs.YtbjjgaahdnfflaaDoorW.PrintMore
attribute [local go_sem] max2_int min2_int max_two min_two max_three min_three max_four min_four
set_option linter.unusedVariables false
set_option linter.unusedSimpArgs false
def names_Number.l0 : Nat → ByteArray → Int → Option (Int)
 | 0, _, _ => none
 | k + 1, x0, x3 => if x3 ≤ 16 then ((names_Domain.f x3).bind fun t101 => (if t101.toList = x0.toList then (some x3) else (names_Number.l0 k x0 (wrap64 (x3 + 1))))) else (some 0)
def names_Number.f (k : Nat) (a0 : ByteArray) : Option (Int) := names_Number.l0 k a0 1
set_option maxHeartbeats 8000000 in
set_option maxRecDepth 100000 in
theorem names_Number.calls (k : Nat) (a0 : ByteArray) (r : Int) (w : World) (h : names_Number.f k a0 = some r) :
  Calls Tryd.prog 60 #[.string a0] w fun e w' => e = .returned (.int .i64 r) ∧ Drawn0 w w' := by
 have H : (names_Number.l0 k a0 1) = some r := h; clear h; have H' := Qad.mk H; clear H; go_enter Tryd.func60, Tryd.ntmps60; go_wp2
 go_loopg [3] k (fun kq v3 w' => ∃ (x3_1 : Int), v3 = .int .i64 x3_1 ∧ Qad (names_Number.l0 kq a0 x3_1 = some r) ∧ Qad (kq ≤ k) ∧ Drawn0 w w')
 case atStart => exact ⟨(1), (by first | rfl | (simp; done) | (simp [*]; done)), H', ⟨Nat.le_refl _⟩, by repeat (first | exact Drawn0.refl _ | apply Drawn0.step)⟩
 case round =>
  clear H'; obtain ⟨x3_1, rfl, HA, HK1, ⟨m1, rfl⟩⟩ := hrel
  cases gk with
  | zero => exact absurd HA.out (by simp [names_Number.l0])
  | succ k1 =>
   have H := HA.out; clear HA; simp only [names_Number.l0] at H
   by_cases c2 : x3_1 ≤ 16
   ·rw [if_pos c2] at H; have c2b0 : decide (x3_1 ≤ 16) = true := decide_eq_true c2; clear c2; replace H := Option.bind_eq_some_iff.mp H; obtain ⟨t101, A30, H⟩ := H; replace H : (if t101.toList = a0.toList then (some x3_1) else (names_Number.l0 k1 a0 (wrap64 (x3_1 + 1)))) = some r := H; have A3 := Qad.mk A30; clear A30
    by_cases c4 : t101.toList = a0.toList
    ·rw [if_pos c4] at H; have c4b0 : (t101.toList == a0.toList) = true := beq_iff_eq.mpr c4; have c4b1 : (t101.toList != a0.toList) = false := bne_eq_false_iff_eq.mpr c4; clear c4; obtain rfl := Option.some.inj H
     go_wp2_with (first | ((with_reducible refine gate_callee (f := 45) rfl ?_); refine goesL_ (some 9) rfl rfl Tryd.func45 (by kernel_rfl) rfl #[.int .i64 x3_1] rfl (by (try simp only [List.map_toArray, List.map_cons, List.map_nil]); first | done | rfl | (simp only [List.length_drop, List.length_take]; rfl)) ?_; (with_reducible refine (names_Domain.calls x3_1 t101 _ A3.out).mono ?_); rintro e w' ⟨rfl, ⟨nd, rfl⟩⟩; refine ⟨_, rfl, ?_⟩))
     go_ret; exact ⟨by first | rfl | (simp; done) | (simp [*]; done), by repeat (first | exact Drawn0.refl _ | apply Drawn0.step)⟩
    ·rw [if_neg c4] at H; have c4b0 : (t101.toList == a0.toList) = false := beq_eq_false_iff_ne.mpr c4; have c4b1 : (t101.toList != a0.toList) = true := bne_iff_ne.mpr c4; have H' := Qad.mk H; clear H
     go_wp2_with (first | ((with_reducible refine gate_callee (f := 45) rfl ?_); refine goesL_ (some 9) rfl rfl Tryd.func45 (by kernel_rfl) rfl #[.int .i64 x3_1] rfl (by (try simp only [List.map_toArray, List.map_cons, List.map_nil]); first | done | rfl | (simp only [List.length_drop, List.length_take]; rfl)) ?_; (with_reducible refine (names_Domain.calls x3_1 t101 _ A3.out).mono ?_); rintro e w' ⟨rfl, ⟨nd, rfl⟩⟩; refine ⟨_, rfl, ?_⟩))
     go_roundg k1
     case measure => have := HK1.out; omega
     case rel => exact ⟨(wrap64 (x3_1 + 1)), (by first | rfl | (simp; done) | (simp [*]; done)), H', ⟨by have := HK1.out; omega⟩, by repeat (first | exact Drawn0.refl _ | apply Drawn0.step)⟩
   ·rw [if_neg c2] at H; have c2b0 : decide (x3_1 ≤ 16) = false := decide_eq_false c2; clear c2; obtain rfl := Option.some.inj H; go_wp2; go_ret; exact ⟨by first | rfl | (simp; done) | (simp [*]; done), by repeat (first | exact Drawn0.refl _ | apply Drawn0.step)⟩
end Go.Proofs.YtbjjgaahdnfflaaDoor.Pr
end
section
namespace Go.Proofs.YtbjjgaahdnfflaaDoor.Pr
open Go.RowKit Go.Proofs.YtbjjgaahdnfflaaDoorW.PrintWords Go.Proofs.YtbjjgaahdnfflaaDoorW.PrintLast Go.Proofs.YtbjjgaahdnfflaaDoorW.PrintMore
set_option linter.unusedVariables false
set_option linter.unusedSimpArgs false
attribute [local go_sem high] eqA24
abbrev Proof := S29
abbrev kProof := k29
abbrev encProof (p : Proof) (A : Option Addr) (c : Nat) : Value := .agg #[.string p.f0.f0, .string p.f0.f1, .string p.f1, .int .i64 p.f2.f0, .int .i64 p.f2.f1, .slice A p.f3.length c]
abbrev proofObj (p : Proof) (A : Option Addr) (c : Nat) : Obj := .cells #[.string p.f0.f0, .string p.f0.f1, .string p.f1, .int .i64 p.f2.f0, .int .i64 p.f2.f1, .slice A p.f3.length c] 29
theorem proofCells {W : World} {k : Nat} {p : Proof} {A : Option Addr} {c : Nat} (h : W.heap[k]? = some (proofObj p A c)) : W.cell? ⟨k, 0, none⟩ = some (.string p.f0.f0) ∧ W.cell? ⟨k, 1, none⟩ = some (.string p.f0.f1) ∧ W.cell? ⟨k, 2, none⟩ = some (.string p.f1) ∧ W.cell? ⟨k, 3, none⟩ = some (.int .i64 p.f2.f0) ∧ W.cell? ⟨k, 4, none⟩ = some (.int .i64 p.f2.f1) ∧ W.cell? ⟨k, 5, none⟩ = some (.slice A p.f3.length c) :=
  ⟨(Qai h 0).trans rfl, (Qai h 1).trans rfl, (Qai h 2).trans rfl, (Qai h 3).trans rfl, (Qai h 4).trans rfl, (Qai h 5).trans rfl⟩
def pt (p : Proof) (i : Int) : Proof := rd_T29 p.f3 i
theorem part0 {W : World} {A : Option Addr} {p : Proof} (h : Kd.C kProof W A p.f3.length p.f3) (hl : 0 < p.f3.length) : ∃ ad A5 c5, A = some ad ∧ (W.cell? ad = some (.string (pt p 0).f0.f0) ∧ W.cell? ⟨ad.block, ad.off + 1, none⟩ = some (.string (pt p 0).f0.f1) ∧ W.cell? ⟨ad.block, ad.off + 2, none⟩ = some (.string (pt p 0).f1) ∧ W.cell? ⟨ad.block, ad.off + 3, none⟩ = some (.int .i64 (pt p 0).f2.f0) ∧ W.cell? ⟨ad.block, ad.off + 4, none⟩ = some (.int .i64 (pt p 0).f2.f1) ∧ W.cell? ⟨ad.block, ad.off + 5, none⟩ = some (.slice A5 (pt p 0).f3.length c5)) ∧ (pt p 0).f3.length ≤ c5 ∧ Kd.C kProof W A5 (pt p 0).f3.length (pt p 0).f3 := by
  obtain ⟨ad, A5, c5, e, h0, h1, h2, h3, h4, h5, hl5, hi5⟩ := at_T29 h 0 (by omega) (by omega); rw [show ((0 : Int)).toNat * 6 = 0 from rfl, Addr.add_zero'] at h0 h1 h2 h3 h4 h5; exact ⟨ad, A5, c5, e, ⟨h0, h1, h2, h3, h4, h5⟩, hl5, hi5⟩
theorem part1 {W : World} {ad : Addr} {p : Proof} (h : Kd.C kProof W (some ad) p.f3.length p.f3) (hl : 1 < p.f3.length) : ∃ A5 c5, (W.cell? ⟨ad.block, ad.off + 6, none⟩ = some (.string (pt p 1).f0.f0) ∧ W.cell? ⟨ad.block, ad.off + 6 + 1, none⟩ = some (.string (pt p 1).f0.f1) ∧ W.cell? ⟨ad.block, ad.off + 6 + 2, none⟩ = some (.string (pt p 1).f1) ∧ W.cell? ⟨ad.block, ad.off + 6 + 3, none⟩ = some (.int .i64 (pt p 1).f2.f0) ∧ W.cell? ⟨ad.block, ad.off + 6 + 4, none⟩ = some (.int .i64 (pt p 1).f2.f1) ∧ W.cell? ⟨ad.block, ad.off + 6 + 5, none⟩ = some (.slice A5 (pt p 1).f3.length c5)) ∧ (W.cell? ⟨ad.block, ad.off + 7, none⟩ = some (.string (pt p 1).f0.f1) ∧ W.cell? ⟨ad.block, ad.off + 8, none⟩ = some (.string (pt p 1).f1) ∧ W.cell? ⟨ad.block, ad.off + 9, none⟩ = some (.int .i64 (pt p 1).f2.f0) ∧ W.cell? ⟨ad.block, ad.off + 10, none⟩ = some (.int .i64 (pt p 1).f2.f1) ∧ W.cell? ⟨ad.block, ad.off + 11, none⟩ = some (.slice A5 (pt p 1).f3.length c5)) ∧ (pt p 1).f3.length ≤ c5 ∧ Kd.C kProof W A5 (pt p 1).f3.length (pt p 1).f3 := by
  obtain ⟨ad', A5, c5, e, h0, h1, h2, h3, h4, h5, hl5, hi5⟩ := at_T29 h 1 (by omega) (by omega); obtain rfl := Option.some.inj e; exact ⟨A5, c5, ⟨h0, h1, h2, h3, h4, h5⟩, ⟨h1, h2, h3, h4, h5⟩, hl5, hi5⟩
def chkFirst (c : Cred) : Role := ⟨domName c.f0.f0, c.f4.f1⟩
end Go.Proofs.YtbjjgaahdnfflaaDoor.Pr
end
section
namespace Go.Proofs.YtbjjgaahdnfflaaDoor.Pr
open Go.RowKit Go.Proofs.YtbjjgaahdnfflaaDoorW.PrintWords Go.Proofs.YtbjjgaahdnfflaaDoorW.PrintLast Go.Proofs.YtbjjgaahdnfflaaDoorW.PrintMore
set_option linter.unusedVariables false
set_option linter.unusedSimpArgs false
attribute [local go_sem high] eqA24 eqA26
theorem neStr_f {a b : ByteArray} (h : a = b) : (!(a.toList == b.toList)) = false := by subst h; simp
theorem neStr_t {a b : ByteArray} (h : ¬ a = b) : (!(a.toList == b.toList)) = true := by rw [str_f h]; rfl
abbrev OfT := Proof → Role → ByteArray → Option Bool
def ofLink (F : OfT) (c : Cred) (p : Proof) (who : ByteArray) : Option Bool :=
  (Qao.f 20 (pt p 0).f1).bind fun n => if n > 0 then (liveryref06_First.f 20 c.f0.f0 c.f0.f1 c.f1 c.f2 c.f3 c.f4.f0 c.f4.f1 c.f5.f0 c.f5.f1).bind (fun ff => (F (pt p 0) ⟨ff.1, ff.2⟩ (pt p 0).f1).bind fun b => if b = true then F (pt p 1) ⟨(pt p 0).f1, c.f5.f1⟩ who else some false) else some false
def ofBy (F : OfT) (c : Cred) (p : Proof) (who : ByteArray) : Option Bool :=
  if c.f2 = 1 then some (decide (c.f3 = who) && decide (p.f3.length = 0))
  else if c.f2 = 2 then (if p.f3.length = 1 then F (pt p 0) c.f4 who else some false)
  else if p.f3.length = 2 then (if c.f2 = 4 then (F (pt p 0) c.f4 who).bind fun b => if b = true then F (pt p 1) c.f5 who else some false else ofLink F c p who)
  else some false
def ofHit (F : OfT) (c : Cred) (p : Proof) (role : Role) (who : ByteArray) : Option Bool :=
  (liveryref05_Role.f 20 c.f0.f0 c.f0.f1 c.f1 c.f2 c.f3 c.f4.f0 c.f4.f1 c.f5.f0 c.f5.f1).bind fun rr => if (⟨rr.1, rr.2⟩ : Role) = role then ofBy F c p who else some false
def ofAt (F : OfT) (cs : List Cred) (p : Proof) (role : Role) (who : ByteArray) : Option Bool :=
  match cs.find? (fun c => decide (c.f0 = p.f2)) with
  | none => some false
  | some c => ofHit F c p role who
def ofStep (F : OfT) (cs : List Cred) : OfT := fun p role who => if p.f0 = role then (if p.f1 = who then ofAt F cs p role who else some false) else some false
def ofN (cs : List Cred) : Nat → OfT
  | 0 => fun _ _ _ => none
  | k + 1 => ofStep (ofN cs k) cs
def Ofs (F : OfT) (cs : List Cred) : Prop := ∀ (w : World) (A0 : Option Addr) (c0 : Nat) (p : Proof) (A : Option Addr) (c : Nat) (role : Role) (who : ByteArray) (r : Bool), Kd.C kCred w A0 cs.length cs → cs.length ≤ c0 → Kd.C kProof w A p.f3.length p.f3 → p.f3.length ≤ c → F p role who = some r →
  Calls Tryd.prog 11 #[.slice A0 cs.length c0, encProof p A c, .agg #[.string role.f0, .string role.f1], .string who] w fun e w' => e = .returned (.bool r) ∧ Below w.heap.size w w'
theorem Ofs.use {F : OfT} {cs : List Cred} (HC : Ofs F cs) (w : World) (A0 : Option Addr) (c0 : Nat) (p : Proof) (A : Option Addr) (c : Nat) (role : Role) (who : ByteArray) (r : Bool) (h0 : Kd.C kCred w A0 cs.length cs) (h1 : cs.length ≤ c0) (h2 : Kd.C kProof w A p.f3.length p.f3) (h3 : p.f3.length ≤ c) (h4 : F p role who = some r) :
    Calls Tryd.prog 11 #[.slice A0 cs.length c0, encProof p A c, .agg #[.string role.f0, .string role.f1], .string who] w fun e w' => e = .returned (.bool r) ∧ Below w.heap.size w w' := HC w A0 c0 p A c role who r h0 h1 h2 h3 h4
theorem refNumber_below (a : ByteArray) (r : Int) (w : World) (h : Qao.f 20 a = some r) : Calls Tryd.prog 17 #[.string a] w fun e w' => e = .returned (.int .i64 r) ∧ Below w.heap.size w w' :=
  (Qao.calls 20 a r w h).mono fun e w' ⟨he, ⟨nd, hw⟩⟩ => ⟨he, by subst hw; exact Qaa (Below.refl _ _) nd⟩
set_option maxRecDepth 100000 in
set_option maxHeartbeats 8000000 in
theorem of_step {F : OfT} {cs : List Cred} (HC : Ofs F cs) (hlen : cs.length ≤ 1000000) : Ofs (ofStep F cs) cs := by
  intro w A0 c0 p A c role who r hR0 hc0 hR hc h; unfold ofStep at h; go_enter Tryd.func11, Tryd.ntmps11
  go_upto_region 1 with fail
  change Code.wp _ _ _ _ ((w.alloc (proofObj p A c)).alloc (roleObj2 role))
  generalize hW : (w.alloc (proofObj p A c)).alloc (roleObj2 role) = W
  obtain ⟨HB, BP, BR, hsz⟩ := boxed2 hW; obtain ⟨p0, p1, p2, p3, p4, p5⟩ := proofCells BP; obtain ⟨r0, r1⟩ := roleCells2 BR; have HSZ := Lib.hid (show w.heap.size + 1 < W.heap.size by omega); clear hW hsz
  by_cases e1 : p.f0 = role
  · rw [if_pos e1] at h
    have hb1 := neRole_f e1; clear e1
    by_cases e2 : p.f1 = who
    · rw [if_pos e2] at h
      have hb2 := neStr_f e2; clear e2; have HF := Lib.hid h; have HP := Lib.hid BP; have HRo := Lib.hid BR; have HBh := Lib.hid HB; have HRc := Lib.hid hR0; have HRp := Lib.hid hR; have HLn := Lib.hid hlen; have HCc := Lib.hid hc0; have HCp := Lib.hid hc; have HX := Lib.hid (Ofs.use HC); clear h BP BR HB hR0 hR hlen hc0 hc HC; go_wp2; clear hb1 hb2 p0 p1 p2 p3 p4 p5 r0 r1
      go_loopg [9] (cs.length + 1) (fun kq v9 w' => ∃ i : Nat, v9 = .int .i64 i ∧ Hid (kq = cs.length + 1 - i) ∧ Hid (i ≤ cs.length) ∧ Hid (ofAt F (cs.drop i) p role who = some r) ∧ Hid (w'.heap[w.heap.size]? = some (proofObj p A c)) ∧ Hid (w'.heap[w.heap.size + 1]? = some (roleObj2 role)) ∧ Hid (Below w.heap.size w w'))
      case atStart => exact ⟨0, rfl, Lib.hid rfl, Lib.hid (Nat.zero_le _), HF, HP, HRo, HBh⟩
      case round =>
        clear HF HP HRo HBh; obtain ⟨i, rfl, HKq, HI, HF, HP, HRo, HW⟩ := hrel
        by_cases hi : i < cs.length
        · have d1 : decide ((i : Int) < (cs.length : Int)) = true := decide_eq_true (by omega)
          have d2 : decide (i < cs.length) = true := decide_eq_true hi; obtain ⟨ad, e, hx0, hx1, hx2, hx3, hx4, hx5, hx6, hx7, hx8⟩ := at_T42 (Kd.C_below HRc.out HW.out) (i : Int) (by omega) (by omega); obtain rfl := e
          obtain ⟨x, hx⟩ : ∃ x, x = cs[i] := ⟨_, rfl⟩
          have erd : Qam cs (i : Int) = x := by
            unfold Qam; rw [hx, Int.toNat_natCast, List.getD_eq_getElem?_getD, List.getElem?_eq_getElem hi]; rfl
          rw [erd, Int.toNat_natCast] at hx0 hx1 hx2 hx3 hx4 hx5 hx6 hx7 hx8; have p101 : (0 ≤ (i : Int)) = True := eq_true (by omega); have q101 : ((i : Int) < (cs.length : Int)) = True := eq_true (by omega); have hF := HF.out; unfold ofAt at hF; rw [List.drop_eq_getElem_cons hi, ← hx, List.find?_cons] at hF
          have wrapI : wrap64 ((i : Int) + 1) = ((i + 1 : Nat) : Int) := by unfold wrap64; have := HLn.out; omega
          have HIL := Lib.hid hi; clear hx erd hi HF; have HF := Lib.hid hF; clear hF
          go_upto_region 7 with fail
          change Code.wp _ _ _ _ (wr.alloc (credObj x)); have HXa := Qab (Below.refl wr.heap.size wr) (credObj x); have B3 := blk_new wr (credObj x); have BP := Qae HP.out HXa; have BR := Qae HRo.out HXa; have WX := Qaf HW.out HXa
          obtain ⟨kx, hkx⟩ : ∃ kx, kx = wr.heap.size := ⟨_, rfl⟩
          rw [← hkx] at B3 ⊢; clear hx0 hx1 hx2 hx3 hx4 hx5 hx6 hx7 hx8 HXa HP HRo HW hkx
          generalize wr.alloc (credObj x) = X at B3 BP BR WX ⊢
          obtain ⟨kc0, kc1, kc2, kc3, kc4, kc5, kc6, kc7, kc8⟩ := credCells B3; obtain ⟨p0, p1, p2, p3, p4, p5⟩ := proofCells BP; obtain ⟨r0, r1⟩ := roleCells2 BR; have HBX := Lib.hid B3; have HBP := Lib.hid BP; have HBR := Lib.hid BR; have HWX := Lib.hid WX; clear B3 BP BR WX
          by_cases e3 : x.f0 = p.f2
          · have hF := HF.out
            rw [decide_eq_true e3] at hF; simp only [ofHit] at hF; obtain ⟨rr, hrr, hF⟩ := Option.bind_eq_some_iff.mp hF; have hb3 := neID_f e3; have HRR := Lib.hid hrr; have HF := Lib.hid hF; clear e3 hF hrr
            go_upto_region 8 with fail
            clear hb3; have g0 := Qay kc0; have g1 := Qay kc1; have g2 := Qay kc2; have g3 := Qay kc3; have g4 := Qay kc4; have g5 := Qay kc5; have g6 := Qay kc6; have g7 := Qay kc7; have g8 := Qay kc8; have s0 := Qay r0; have s1 := Qay r1; clear kc0 kc1 kc2 kc3 kc4 kc5 kc6 kc7 kc8 p0 p1 p2 p3 p4 p5 r0 r1
            by_cases e4 : (⟨rr.1, rr.2⟩ : Role) = role
            · have hF := HF.out
              rw [if_pos e4] at hF; have hb4 := neRole_f e4; clear e4 HF; refine wp_region_below (by kernel_rfl) (by kernel_rfl) ?_
              repeat (go_big_quiet_step (with_reducible refine bw_call (liveryref05_Role.calls 20 _ _ _ _ _ _ _ _ _ _ _ _ HRR.out)))
              refine wpQuiet_nil ?_; rintro _ ⟨u, rfl⟩; have HW := Qaf HWX.out u.ok; have BX := Qae HBX.out u.ok; have BP := Qae HBP.out u.ok; clear g0 g1 g2 g3 g4 g5 g6 g7 g8 s0 s1 HWX HBX HBP HBR
              generalize u.now = Y at HW BX BP ⊢
              clear u; unfold ofBy at hF; obtain ⟨kc0, kc1, kc2, kc3, kc4, kc5, kc6, kc7, kc8⟩ := credCells BX; obtain ⟨p0, p1, p2, p3, p4, p5⟩ := proofCells BP; have hR2 := Kd.C_below HRp.out HW
              by_cases k1 : x.f2 = 1
              · rw [if_pos k1] at hF
                have hr := Option.some.inj hF; have d3 : (x.f2 == 1) = true := beq_iff_eq.mpr k1; clear HF hF hR2 k1
                by_cases e5 : x.f3 = who
                · have hb5 := str_t e5
                  by_cases e6 : p.f3.length = 0
                  · have hb6 : ((p.f3.length : Int) == 0) = true := beq_iff_eq.mpr (by omega)
                    have hb7 : (p.f3.length == 0) = true := beq_iff_eq.mpr e6
                    obtain rfl : true = r := by rw [← hr, decide_eq_true e5, decide_eq_true e6]; rfl
                    clear e5 hr; go_wp2; go_ret; exact ⟨rfl, HW⟩
                  · have hb6 : ((p.f3.length : Int) == 0) = false := beq_eq_false_iff_ne.mpr (by omega)
                    have hb7 : (p.f3.length == 0) = false := beq_eq_false_iff_ne.mpr e6
                    obtain rfl : false = r := by rw [← hr, decide_eq_true e5, decide_eq_false e6]; rfl
                    clear e5 hr; go_wp2; go_ret; exact ⟨rfl, HW⟩
                · have hb5 := str_f e5
                  obtain rfl : false = r := by rw [← hr, decide_eq_false e5]; rfl
                  clear e5 hr; go_wp2; go_ret; exact ⟨rfl, HW⟩
              · rw [if_neg k1] at hF
                have d3 : (x.f2 == 1) = false := beq_eq_false_iff_ne.mpr k1; clear k1
                by_cases k2 : x.f2 = 2
                · rw [if_pos k2] at hF
                  have d4 : (x.f2 == 2) = true := beq_iff_eq.mpr k2; clear k2
                  go_upto_region 13 with fail
                  clear d3 d4
                  by_cases e5 : p.f3.length = 1
                  · rw [if_pos e5] at hF
                    have n1 : 0 < p.f3.length := by omega
                    have n2 : (0 : Int) < (p.f3.length : Int) := by omega
                    have n3 : (((p.f3.length : Nat) : Int) == 1) = true := beq_iff_eq.mpr (by omega); have n4 : (p.f3.length == 1) = true := beq_iff_eq.mpr (by omega); obtain ⟨ad1, A5, cc5, hA, ⟨q0, q1, q2, q3, q4, q5⟩, ql, qR⟩ := part0 hR2 (by omega); obtain rfl := hA
                    obtain ⟨P0, hP0⟩ : ∃ P0, P0 = pt p 0 := ⟨_, rfl⟩
                    rw [← hP0] at hF q0 q1 q2 q3 q4 q5 ql qR; have HRY := Lib.hid (Kd.C_below HRc.out HW); have HQ := Lib.hid qR; have HL := Lib.hid ql; have HH := Lib.hid hF; have t0 := Qay q0; have t1 := Qay q1; have t2 := Qay q2; have t3 := Qay q3; have t4 := Qay q4; have t5 := Qay q5; have y5 := Qay p5; have z5 := Qay kc5; have z6 := Qay kc6; clear hP0 hF qR ql e5 hR2 q0 q1 q2 q3 q4 q5 p0 p1 p2 p3 p4 p5 kc0 kc1 kc2 kc3 kc4 kc5 kc6 kc7 kc8; refine wp_region_below (by kernel_rfl) (by kernel_rfl) ?_
                    repeat (go_big_quiet_step ((with_reducible refine bw_call (HX.out _ (some ad) c0 P0 A5 cc5 x.f4 who r (Kd.C_below HRY.out (BW.ok _)) HCc.out (Kd.C_below HQ.out (BW.ok _)) HL.out HH.out))))
                    refine wpQuiet_nil ?_; rintro _ ⟨u, rfl⟩; have HBu := Qaf HW u.ok
                    go_wp2_with fail
                    go_ret; exact ⟨rfl, HBu⟩
                  · rw [if_neg e5] at hF
                    obtain rfl := Option.some.inj hF; have n3 : (((p.f3.length : Nat) : Int) == 1) = false := beq_eq_false_iff_ne.mpr (by omega); have n4 : (p.f3.length == 1) = false := beq_eq_false_iff_ne.mpr (by omega); have y5 := Qay p5; clear hF e5 hR2 p0 p1 p2 p3 p4 p5 kc0 kc1 kc2 kc3 kc4 kc5 kc6 kc7 kc8; refine wp_region_below (by kernel_rfl) (by kernel_rfl) ?_
                    repeat (go_big_quiet_step (fail))
                    refine wpQuiet_nil ?_; rintro _ ⟨u, rfl⟩; have HBu := Qaf HW u.ok
                    go_wp2_with fail
                    go_ret; exact ⟨rfl, HBu⟩
                · rw [if_neg k2] at hF
                  have d4 : (x.f2 == 2) = false := beq_eq_false_iff_ne.mpr k2; clear k2
                  by_cases e5 : p.f3.length = 2
                  · rw [if_pos e5] at hF
                    have n1 : 0 < p.f3.length := by omega
                    have n2 : (0 : Int) < (p.f3.length : Int) := by omega
                    have n3 : 1 < p.f3.length := by omega
                    have n4 : (1 : Int) < (p.f3.length : Int) := by omega
                    have n5 : (((p.f3.length : Nat) : Int) == 2) = true := beq_iff_eq.mpr (by omega); have n6 : (p.f3.length == 2) = true := beq_iff_eq.mpr (by omega)
                    have n7 : (((p.f3.length : Nat) : Int) != 2) = false := by simp; omega
                    have n8 : (p.f3.length != 2) = false := by simp; omega
                    obtain ⟨ad1, A5, cc5, hA, ⟨q0, q1, q2, q3, q4, q5⟩, ql, qR⟩ := part0 hR2 (by omega); obtain rfl := hA; obtain ⟨B5, dd5, ⟨s0, s1, s2, s3, s4, s5⟩, ⟨s6, s7, s8, s9, s10⟩, sl, sR⟩ := part1 hR2 (by omega)
                    obtain ⟨P0, hP0⟩ : ∃ P0, P0 = pt p 0 := ⟨_, rfl⟩
                    obtain ⟨P1, hP1⟩ : ∃ P1, P1 = pt p 1 := ⟨_, rfl⟩
                    rw [← hP0] at q0 q1 q2 q3 q4 q5 ql qR; rw [← hP1] at s0 s6 s7 s8 s9 s10 sl sR
                    by_cases k4 : x.f2 = 4
                    · rw [if_pos k4, ← hP0, ← hP1] at hF
                      have d5 : (x.f2 == 4) = true := beq_iff_eq.mpr k4; obtain ⟨b1, h1, hF⟩ := Option.bind_eq_some_iff.mp hF; clear k4 hP0 hP1
                      go_upto_region 17 with fail
                      clear d3 d4 d5; have t0 := Qay q0; have t1 := Qay q1; have t2 := Qay q2; have t3 := Qay q3; have t4 := Qay q4; have t5 := Qay q5; have v0 := Qay s0; have v6 := Qay s6; have v7 := Qay s7; have v8 := Qay s8; have v9 := Qay s9; have v10 := Qay s10; have y5 := Qay p5; have z5 := Qay kc5; have z6 := Qay kc6; have z7 := Qay kc7; have z8 := Qay kc8; have HRY := Lib.hid (Kd.C_below HRc.out HW); have HQ := Lib.hid qR; have HL := Lib.hid ql; have HS := Lib.hid sR; have HM := Lib.hid sl; have H0 := Lib.hid h1; clear h1; clear qR ql sR sl e5 hR2 q0 q1 q2 q3 q4 q5 s0 s1 s2 s3 s4 s5 s6 s7 s8 s9 s10 p0 p1 p2 p3 p4 p5 kc0 kc1 kc2 kc3 kc4 kc5 kc6 kc7 kc8; cases b1
                      · rw [if_neg (by decide)] at hF
                        obtain rfl := Option.some.inj hF; clear hF; refine wp_region_below (by kernel_rfl) (by kernel_rfl) ?_
                        repeat (go_big_quiet_step ((with_reducible refine bw_call (HX.out _ (some ad) c0 P0 A5 cc5 x.f4 who false (Kd.C_below HRY.out (BW.ok _)) HCc.out (Kd.C_below HQ.out (BW.ok _)) HL.out H0.out))))
                        refine wpQuiet_nil ?_; rintro _ ⟨u, rfl⟩; have HBu := Qaf HW u.ok
                        go_wp2_with fail
                        go_ret; exact ⟨rfl, HBu⟩
                      · rw [if_pos rfl] at hF
                        have H1 := Lib.hid hF; clear hF; refine wp_region_below (by kernel_rfl) (by kernel_rfl) ?_
                        repeat (go_big_quiet_step (first | (with_reducible refine bw_call (HX.out _ (some ad) c0 P0 A5 cc5 x.f4 who true (Kd.C_below HRY.out (BW.ok _)) HCc.out (Kd.C_below HQ.out (BW.ok _)) HL.out H0.out)) | (with_reducible refine bw_call (HX.out _ (some ad) c0 P1 B5 dd5 x.f5 who r (Kd.C_below HRY.out (BW.ok _)) HCc.out (Kd.C_below HS.out (BW.ok _)) HM.out H1.out))))
                        refine wpQuiet_nil ?_; rintro _ ⟨u, rfl⟩; have HBu := Qaf HW u.ok
                        go_wp2_with fail
                        go_ret; exact ⟨rfl, HBu⟩
                    · rw [if_neg k4] at hF
                      have d5 : (x.f2 == 4) = false := beq_eq_false_iff_ne.mpr k4; unfold ofLink at hF; rw [← hP0, ← hP1] at hF; obtain ⟨n, hn, hF⟩ := Option.bind_eq_some_iff.mp hF; have HN := Lib.hid hn; have HH := Lib.hid hF; clear k4 hP0 hP1 hn hF
                      go_upto_region 19 with fail
                      clear d3 d4 d5; have t0 := Qay q0; have t1 := Qay q1; have t2 := Qay q2; have t3 := Qay q3; have t4 := Qay q4; have t5 := Qay q5; have v0 := Qay s0; have v6 := Qay s6; have v7 := Qay s7; have v8 := Qay s8; have v9 := Qay s9; have v10 := Qay s10; have y5 := Qay p5; have z0 := Qay kc0; have z1 := Qay kc1; have z2 := Qay kc2; have z3 := Qay kc3; have z4 := Qay kc4; have z5 := Qay kc5; have z6 := Qay kc6; have z7 := Qay kc7; have z8 := Qay kc8; have HRY := Lib.hid (Kd.C_below HRc.out HW); have HQ := Lib.hid qR; have HL := Lib.hid ql; have HS := Lib.hid sR; have HM := Lib.hid sl; clear qR ql sR sl e5 hR2 q0 q1 q2 q3 q4 q5 s0 s1 s2 s3 s4 s5 s6 s7 s8 s9 s10 p0 p1 p2 p3 p4 p5 kc0 kc1 kc2 kc3 kc4 kc5 kc6 kc7 kc8
                      by_cases e6 : n > 0
                      · have hF := HH.out
                        rw [if_pos e6] at hF; have f1 : decide (0 < n) = true := decide_eq_true e6; have f2 : 0 < n := e6; obtain ⟨ff, hff, hF⟩ := Option.bind_eq_some_iff.mp hF; obtain ⟨b1, h1, hF⟩ := Option.bind_eq_some_iff.mp hF; have HFF := Lib.hid hff; have H0 := Lib.hid h1; clear hff h1 HH e6; cases b1
                        · rw [if_neg (by decide)] at hF
                          obtain rfl := Option.some.inj hF; clear hF; refine wp_region_below (by kernel_rfl) (by kernel_rfl) ?_
                          repeat (go_big_quiet_step (first | (with_reducible refine bw_call (refNumber_below _ _ _ HN.out)) | (with_reducible refine bw_call (liveryref06_First.calls 20 _ _ _ _ _ _ _ _ _ _ _ _ HFF.out)) | (with_reducible refine bw_call (HX.out _ (some ad) c0 P0 A5 cc5 ⟨ff.1, ff.2⟩ P0.f1 false (Kd.C_below HRY.out (BW.ok _)) HCc.out (Kd.C_below HQ.out (BW.ok _)) HL.out H0.out))))
                          refine wpQuiet_nil ?_; rintro _ ⟨u, rfl⟩; have HBu := Qaf HW u.ok
                          go_wp2_with fail
                          go_ret; exact ⟨rfl, HBu⟩
                        · rw [if_pos rfl] at hF
                          have H1 := Lib.hid hF; clear hF; refine wp_region_below (by kernel_rfl) (by kernel_rfl) ?_
                          repeat (go_big_quiet_step (first | (with_reducible refine bw_call (refNumber_below _ _ _ HN.out)) | (with_reducible refine bw_call (liveryref06_First.calls 20 _ _ _ _ _ _ _ _ _ _ _ _ HFF.out)) | (with_reducible refine bw_call (HX.out _ (some ad) c0 P0 A5 cc5 ⟨ff.1, ff.2⟩ P0.f1 true (Kd.C_below HRY.out (BW.ok _)) HCc.out (Kd.C_below HQ.out (BW.ok _)) HL.out H0.out)) | (with_reducible refine bw_call (HX.out _ (some ad) c0 P1 B5 dd5 ⟨P0.f1, x.f5.f1⟩ who r (Kd.C_below HRY.out (BW.ok _)) HCc.out (Kd.C_below HS.out (BW.ok _)) HM.out H1.out))))
                          refine wpQuiet_nil ?_; rintro _ ⟨u, rfl⟩; have HBu := Qaf HW u.ok
                          go_wp2_with fail
                          go_ret; exact ⟨rfl, HBu⟩
                      · have hF := HH.out
                        rw [if_neg e6] at hF; obtain rfl := Option.some.inj hF; have f1 : decide (0 < n) = false := decide_eq_false e6; clear hF HH e6; refine wp_region_below (by kernel_rfl) (by kernel_rfl) ?_
                        repeat (go_big_quiet_step (with_reducible refine bw_call (refNumber_below _ _ _ HN.out)))
                        refine wpQuiet_nil ?_; rintro _ ⟨u, rfl⟩; have HBu := Qaf HW u.ok
                        go_wp2_with fail
                        go_ret; exact ⟨rfl, HBu⟩
                  · rw [if_neg e5] at hF
                    obtain rfl := Option.some.inj hF
                    have n7 : (((p.f3.length : Nat) : Int) != 2) = true := by simp; omega
                    have n8 : (p.f3.length != 2) = true := by simp; omega
                    clear hF hR2; go_wp2; go_ret; exact ⟨rfl, HW⟩
            · have hF := HF.out
              rw [if_neg e4] at hF; obtain rfl := Option.some.inj hF; have hb4 := neRole_t e4; clear e4 HF hF; refine wp_region_below (by kernel_rfl) (by kernel_rfl) ?_
              repeat (go_big_quiet_step (with_reducible refine bw_call (liveryref05_Role.calls 20 _ _ _ _ _ _ _ _ _ _ _ _ HRR.out)))
              refine wpQuiet_nil ?_; rintro _ ⟨u, rfl⟩; have HW := Qaf HWX.out u.ok; have BX := Qae HBX.out u.ok; have BP := Qae HBP.out u.ok; clear g0 g1 g2 g3 g4 g5 g6 g7 g8 s0 s1 HWX HBX HBP HBR
              generalize u.now = Y at HW BX BP ⊢
              clear u; go_wp2; go_ret; exact ⟨rfl, HW⟩
          · have hF := HF.out
            rw [decide_eq_false e3] at hF; have hb3 := neID_t e3; have HF := Lib.hid (show ofAt F (cs.drop (i + 1)) p role who = some r from hF); clear e3 hF; go_wp2
            go_roundg (cs.length + 1 - (i + 1))
            case measure => have := HKq.out; have := HIL.out; omega
            case rel => exact ⟨i + 1, by first | rfl | exact congrArg _ wrapI, Lib.hid rfl, Lib.hid HIL.out, HF, HBP, HBR, HWX⟩
        · have d1 : decide ((i : Int) < (cs.length : Int)) = false := decide_eq_false (by omega)
          have d2 : decide (i < cs.length) = false := decide_eq_false hi; have hF := HF.out; unfold ofAt at hF; rw [List.drop_eq_nil_of_le (by omega)] at hF; obtain rfl := Option.some.inj hF; clear hF HF hi; go_wp2; go_ret; exact ⟨rfl, HW.out⟩
    · rw [if_neg e2] at h
      have hb2 := neStr_t e2; obtain rfl := Option.some.inj h; clear e2 h; go_wp2; go_ret; exact ⟨rfl, HB⟩
  · rw [if_neg e1] at h
    have hb1 := neRole_t e1; obtain rfl := Option.some.inj h; clear e1 h; go_wp2; go_ret; exact ⟨rfl, HB⟩
theorem of_calls {cs : List Cred} (hlen : cs.length ≤ 1000000) : ∀ k, Ofs (ofN cs k) cs
  | 0 => fun _ _ _ _ _ _ _ _ _ _ _ _ _ h => by cases h
  | k + 1 => of_step (of_calls hlen k) hlen
end Go.Proofs.YtbjjgaahdnfflaaDoor.Pr
end
section
namespace Go.Proofs.YtbjjgaahdnfflaaDoor.Pr
open Go.RowKit Go.Proofs.YtbjjgaahdnfflaaDoorW.PrintWords Go.Proofs.YtbjjgaahdnfflaaDoorW.PrintLast Go.Proofs.YtbjjgaahdnfflaaDoorW.PrintMore
attribute [local go_sem] max2_int min2_int max_two min_two max_three min_three max_four min_four
set_option linter.unusedVariables false
set_option linter.unusedSimpArgs false
def liveryref07_of.f (l0 : List (S42)) (a1_0 : ByteArray) (a1_1 : ByteArray) (a1_2 : ByteArray) (a1_3 : Int) (a1_4 : Int) (l1_5 : List (S29)) (a2_0 : ByteArray) (a2_1 : ByteArray) (a3 : ByteArray) : Option Bool := if l0.length ≤ 1000000 then ofN l0 200 ⟨⟨a1_0, a1_1⟩, a1_2, ⟨a1_3, a1_4⟩, l1_5⟩ ⟨a2_0, a2_1⟩ a3 else none
theorem liveryref07_of.calls (A0 : Option Addr) (c0 : Nat) (l0 : List (S42)) (a1_0 : ByteArray) (a1_1 : ByteArray) (a1_2 : ByteArray) (a1_3 : Int) (a1_4 : Int) (A1_5 : Option Addr) (c1_5 : Nat) (l1_5 : List (S29)) (a2_0 : ByteArray) (a2_1 : ByteArray) (a3 : ByteArray) (r : Bool) (w : World) (hr0 : Kd.C k42 w A0 l0.length l0) (hc0 : l0.length ≤ c0) (hr1_5 : Kd.C k29 w A1_5 l1_5.length l1_5) (hc1_5 : l1_5.length ≤ c1_5) (h : liveryref07_of.f l0 a1_0 a1_1 a1_2 a1_3 a1_4 l1_5 a2_0 a2_1 a3 = some r) :
    Calls Tryd.prog 11 #[.slice A0 l0.length c0, .agg #[.string a1_0, .string a1_1, .string a1_2, .int .i64 a1_3, .int .i64 a1_4, .slice A1_5 l1_5.length c1_5], .agg #[.string a2_0, .string a2_1], .string a3] w fun e w' => e = .returned (.bool r) ∧ Below w.heap.size w w' := by
  unfold liveryref07_of.f at h
  by_cases hl : l0.length ≤ 1000000
  · rw [if_pos hl] at h
    exact of_calls hl 200 w A0 c0 ⟨⟨a1_0, a1_1⟩, a1_2, ⟨a1_3, a1_4⟩, l1_5⟩ A1_5 c1_5 ⟨a2_0, a2_1⟩ a3 r hr0 hc0 hr1_5 hc1_5 h
  · rw [if_neg hl] at h
    cases h
mutual
def Qas.j0 : Nat → ByteArray → Bool → Option (Bool)
 | 0, _, _ => none
 | k + 1, x0, x23 => if x23 = true then (some false) else (Qas.l0 k x0 1)
def Qas.l0 : Nat → ByteArray → Int → Option (Bool)
 | 0, _, _ => none
 | k + 1, x0, x3 => if x3 < (x0.size : Int) then (if 0 ≤ x3 then (if (bt x0 x3) ≥ 97 then (if (bt x0 x3) ≥ 48 then (if ((bt x0 x3) ≤ 122) then (Qas.l0 k x0 (wrap64 (x3 + 1))) else (if ((bt x0 x3) ≤ 57) then (Qas.l0 k x0 (wrap64 (x3 + 1))) else (some false))) else (if ((bt x0 x3) ≤ 122) then (Qas.l0 k x0 (wrap64 (x3 + 1))) else (some false))) else (if (bt x0 x3) ≥ 48 then (if ((bt x0 x3) ≤ 57) then (Qas.l0 k x0 (wrap64 (x3 + 1))) else (some false)) else (some false))) else (none)) else (some true)
end
def Qas.f (k : Nat) (a0 : ByteArray) : Option (Bool) := if (a0.size : Int) < 1 then (Qas.j0 k a0 true) else (if (a0.size : Int) > 8 then (Qas.j0 k a0 true) else (if 0 < (a0.size : Int) then (if (bt a0 0) < 97 then (Qas.j0 k a0 true) else (Qas.j0 k a0 (decide ((bt a0 0) > 122)))) else (none)))
set_option maxHeartbeats 8000000 in
set_option maxRecDepth 100000 in
theorem Qas.calls (k : Nat) (a0 : ByteArray) (r : Bool) (w : World) (h : Qas.f k a0 = some r) :
  Calls Tryd.prog 27 #[.string a0] w fun e w' => e = .returned (.bool r) ∧ Drawn0 w w' := by
 have H : (if (a0.size : Int) < 1 then (Qas.j0 k a0 true) else (if (a0.size : Int) > 8 then (Qas.j0 k a0 true) else (if 0 < (a0.size : Int) then (if (bt a0 0) < 97 then (Qas.j0 k a0 true) else (Qas.j0 k a0 (decide ((bt a0 0) > 122)))) else (none)))) = some r := h; clear h; have HC2 := Qad.mk H; clear H; go_enter Tryd.func27, Tryd.ntmps27
 go_upto_region 1 with (fail)
 go_cut [23] (fun v23 wc => ∃ (kq : Nat) (x23_1 : Bool), v23 = .bool x23_1 ∧ Qad (Qas.j0 kq a0 x23_1 = some r) ∧ Qad (kq ≤ k) ∧ Drawn0 w wc)
 case first =>
  have H := HC2.out; clear HC2
  by_cases c3 : (a0.size : Int) < 1
  ·rw [if_pos c3] at H; have c3b0 : decide ((a0.size : Int) < 1) = true := decide_eq_true c3; have c3b1 : decide (a0.size < 1) = true := decide_eq_true (by omega); clear c3
   (first | rw [c3b0] | (simp only [i64_w, i32_w]; rw [c3b0]) | skip)
   have H' := Qad.mk H; clear H; go_wp2
   go_meet
   case rel => exact ⟨_, (true), (by first | rfl | (simp; done) | (simp [*]; done)), H', ⟨by first | omega | exact Nat.le_refl _⟩, by repeat (first | exact Drawn0.refl _ | apply Drawn0.step)⟩
  ·rw [if_neg c3] at H; have c3b0 : decide ((a0.size : Int) < 1) = false := decide_eq_false c3; have c3b1 : decide (a0.size < 1) = false := decide_eq_false (by omega); clear c3
   (first | rw [c3b0] | (simp only [i64_w, i32_w]; rw [c3b0]) | skip)
   by_cases c4 : (a0.size : Int) > 8
   ·rw [if_pos c4] at H; have c4b0 : decide (8 < (a0.size : Int)) = true := decide_eq_true c4; have c4b1 : decide (8 < a0.size) = true := decide_eq_true (by omega); clear c4; have H' := Qad.mk H; clear H; go_wp2
    go_meet
    case rel => exact ⟨_, (true), (by first | rfl | (simp; done) | (simp [*]; done)), H', ⟨by first | omega | exact Nat.le_refl _⟩, by repeat (first | exact Drawn0.refl _ | apply Drawn0.step)⟩
   ·rw [if_neg c4] at H; have c4b0 : decide (8 < (a0.size : Int)) = false := decide_eq_false c4; have c4b1 : decide (8 < a0.size) = false := decide_eq_false (by omega); clear c4
    by_cases c5 : 0 < (a0.size : Int)
    ·rw [if_pos c5] at H; have c5b0 : decide (0 < (a0.size : Int)) = true := decide_eq_true c5; have c5b1 : decide (0 < a0.size) = true := decide_eq_true (by omega); clear c5
     by_cases c7 : (bt a0 0) < 97
     ·rw [if_pos c7] at H; have c7b0 : decide ((bt a0 0) < 97) = true := decide_eq_true c7; clear c7; have H' := Qad.mk H; clear H
      have p6 : 0 ≤ (0 : Int) := (by omega)
      have q6 : 0 < a0.size := (by have : (0 : Int) < (a0.size : Int) := of_decide_eq_true (by first | (with_reducible assumption) | assumption); omega)
      have hx6 : ∀ h : 0 < a0.size, ((a0[0]'h).toNat : Int) = bt a0 0 := bt_at a0 0; clear p6; have qi6 : (0 < (a0.size : Int)) = True := eq_true (of_decide_eq_true (by first | (with_reducible assumption) | assumption)); replace q6 := eq_true q6; go_wp2
      go_meet
      case rel => exact ⟨_, (true), (by first | rfl | (simp; done) | (simp [*]; done)), H', ⟨by first | omega | exact Nat.le_refl _⟩, by repeat (first | exact Drawn0.refl _ | apply Drawn0.step)⟩
     ·rw [if_neg c7] at H; have c7b0 : decide ((bt a0 0) < 97) = false := decide_eq_false c7; clear c7; have H' := Qad.mk H; clear H
      have p6 : 0 ≤ (0 : Int) := (by omega)
      have q6 : 0 < a0.size := (by have : (0 : Int) < (a0.size : Int) := of_decide_eq_true (by first | (with_reducible assumption) | assumption); omega)
      have hx6 : ∀ h : 0 < a0.size, ((a0[0]'h).toNat : Int) = bt a0 0 := bt_at a0 0; clear p6; have qi6 : (0 < (a0.size : Int)) = True := eq_true (of_decide_eq_true (by first | (with_reducible assumption) | assumption)); replace q6 := eq_true q6
      have p8 : 0 ≤ (0 : Int) := (by omega)
      have q8 : 0 < a0.size := (by have : (0 : Int) < (a0.size : Int) := of_decide_eq_true (by first | (with_reducible assumption) | assumption); omega)
      have hx8 : ∀ h : 0 < a0.size, ((a0[0]'h).toNat : Int) = bt a0 0 := bt_at a0 0; clear p8; have qi8 : (0 < (a0.size : Int)) = True := eq_true (of_decide_eq_true (by first | (with_reducible assumption) | assumption)); replace q8 := eq_true q8; go_wp2
      go_meet
      case rel => exact ⟨_, (decide ((bt a0 0) > 122)), (by first | rfl | (simp; done) | (simp [*]; done)), H', ⟨by first | omega | exact Nat.le_refl _⟩, by repeat (first | exact Drawn0.refl _ | apply Drawn0.step)⟩
    ·rw [if_neg c5] at H; exact absurd H (by simp)
 case rest =>
  clear HC2; (try clear c2); (try clear p2); (try clear c3); (try clear c3b0); (try clear c3b1); (try clear c4); (try clear c4b0); (try clear c4b1); (try clear c5); (try clear c5b0); (try clear c5b1); (try clear p6); (try clear q6); (try clear hx6); (try clear qi6); (try clear c7); (try clear c7b0); (try clear p8); (try clear q8); (try clear hx8); (try clear qi8); (try clear p6); (try clear p8); (try clear q6); (try clear q8); obtain ⟨kq, x23_1, rfl, HA, HJ1, ⟨mc1, rfl⟩⟩ := hcut
  cases kq with
  | zero => exact absurd HA.out (by simp [Qas.j0])
  | succ kj1 =>
   have H := HA.out; clear HA; simp only [Qas.j0] at H
   by_cases c9 : x23_1 = true
   ·subst c9
    have H1 : (some false) = some r := by rw [if_pos rfl] at H; exact H
    clear H; have H := H1; clear H1; obtain rfl := Option.some.inj H; go_wp2; go_ret; exact ⟨by first | rfl | (simp; done) | (simp [*]; done), by repeat (first | exact Drawn0.refl _ | apply Drawn0.step)⟩
   ·replace c9 := Bool.eq_false_iff.mpr c9; subst c9
    have H1 : (Qas.l0 kj1 a0 1) = some r := by rw [if_neg (show ¬ (false = true) by decide)] at H; exact H
    clear H; have H := H1; clear H1; have H' := Qad.mk H; clear H; go_wp2
    go_loopg [3] kj1 (fun kq v3 w' => ∃ (x3_2 : Int), v3 = .int .i64 x3_2 ∧ Qad (Qas.l0 kq a0 x3_2 = some r) ∧ Qad (kq ≤ kj1) ∧ Drawn0 w w')
    case atStart => exact ⟨(1), (by first | rfl | (simp; done) | (simp [*]; done)), H', ⟨Nat.le_refl _⟩, by repeat (first | exact Drawn0.refl _ | apply Drawn0.step)⟩
    case round =>
     clear H'; (try clear c1); (try clear c2); (try clear p2); (try clear c3); (try clear c3b0); (try clear c3b1); (try clear c4); (try clear c4b0); (try clear c4b1); (try clear c5); (try clear c5b0); (try clear c5b1); (try clear p6); (try clear q6); (try clear hx6); (try clear qi6); (try clear c7); (try clear c7b0); (try clear p8); (try clear q8); (try clear hx8); (try clear qi8); (try clear c9); (try clear p2); (try clear p6); (try clear p8); (try clear q6); (try clear q8); obtain ⟨x3_2, rfl, HA, HK2, ⟨m2, rfl⟩⟩ := hrel
     cases gk with
     | zero => exact absurd HA.out (by simp [Qas.l0])
     | succ k2 =>
      have H := HA.out; clear HA; simp only [Qas.l0] at H
      by_cases c10 : x3_2 < (a0.size : Int)
      ·rw [if_pos c10] at H; have c10b0 : decide (x3_2 < (a0.size : Int)) = true := decide_eq_true c10; clear c10
       by_cases c11 : 0 ≤ x3_2
       ·rw [if_pos c11] at H; have c11b0 : decide (0 ≤ x3_2) = true := decide_eq_true c11; clear c11
        by_cases c13 : (bt a0 x3_2) ≥ 97
        ·rw [if_pos c13] at H; have c13b0 : decide (97 ≤ (bt a0 x3_2)) = true := decide_eq_true c13; clear c13
         by_cases c16 : (bt a0 x3_2) ≥ 48
         ·rw [if_pos c16] at H; have c16b0 : decide (48 ≤ (bt a0 x3_2)) = true := decide_eq_true c16; clear c16
          by_cases c18 : ((bt a0 x3_2) ≤ 122)
          ·rw [if_pos c18] at H; have c18b0 : decide ((bt a0 x3_2) ≤ 122) = true := decide_eq_true c18; clear c18; have H' := Qad.mk H; clear H; have p12 : 0 ≤ (x3_2 : Int) := of_decide_eq_true (by first | (with_reducible assumption) | assumption); have q12 : x3_2 < (a0.size : Int) := of_decide_eq_true (by first | (with_reducible assumption) | assumption); have hx12 := bt_at a0 x3_2; replace p12 := eq_true p12; replace q12 := eq_true q12; have p14 : 0 ≤ (x3_2 : Int) := of_decide_eq_true (by first | (with_reducible assumption) | assumption); have q14 : x3_2 < (a0.size : Int) := of_decide_eq_true (by first | (with_reducible assumption) | assumption); have hx14 := bt_at a0 x3_2; replace p14 := eq_true p14; replace q14 := eq_true q14; have p15 : 0 ≤ (x3_2 : Int) := of_decide_eq_true (by first | (with_reducible assumption) | assumption); have q15 : x3_2 < (a0.size : Int) := of_decide_eq_true (by first | (with_reducible assumption) | assumption); have hx15 := bt_at a0 x3_2; replace p15 := eq_true p15; replace q15 := eq_true q15; have p17 : 0 ≤ (x3_2 : Int) := of_decide_eq_true (by first | (with_reducible assumption) | assumption); have q17 : x3_2 < (a0.size : Int) := of_decide_eq_true (by first | (with_reducible assumption) | assumption); have hx17 := bt_at a0 x3_2; replace p17 := eq_true p17; replace q17 := eq_true q17; go_wp2
           go_roundg k2
           case measure => have := HJ1.out; have := HK2.out; omega
           case rel => exact ⟨(wrap64 (x3_2 + 1)), (by first | rfl | (simp; done) | (simp [*]; done)), H', ⟨by have := HJ1.out; have := HK2.out; omega⟩, by repeat (first | exact Drawn0.refl _ | apply Drawn0.step)⟩
          ·rw [if_neg c18] at H; have c18b0 : decide ((bt a0 x3_2) ≤ 122) = false := decide_eq_false c18; clear c18
           by_cases c19 : ((bt a0 x3_2) ≤ 57)
           ·rw [if_pos c19] at H; have c19b0 : decide ((bt a0 x3_2) ≤ 57) = true := decide_eq_true c19; clear c19; have H' := Qad.mk H; clear H; have p12 : 0 ≤ (x3_2 : Int) := of_decide_eq_true (by first | (with_reducible assumption) | assumption); have q12 : x3_2 < (a0.size : Int) := of_decide_eq_true (by first | (with_reducible assumption) | assumption); have hx12 := bt_at a0 x3_2; replace p12 := eq_true p12; replace q12 := eq_true q12; have p14 : 0 ≤ (x3_2 : Int) := of_decide_eq_true (by first | (with_reducible assumption) | assumption); have q14 : x3_2 < (a0.size : Int) := of_decide_eq_true (by first | (with_reducible assumption) | assumption); have hx14 := bt_at a0 x3_2; replace p14 := eq_true p14; replace q14 := eq_true q14; have p15 : 0 ≤ (x3_2 : Int) := of_decide_eq_true (by first | (with_reducible assumption) | assumption); have q15 : x3_2 < (a0.size : Int) := of_decide_eq_true (by first | (with_reducible assumption) | assumption); have hx15 := bt_at a0 x3_2; replace p15 := eq_true p15; replace q15 := eq_true q15; have p17 : 0 ≤ (x3_2 : Int) := of_decide_eq_true (by first | (with_reducible assumption) | assumption); have q17 : x3_2 < (a0.size : Int) := of_decide_eq_true (by first | (with_reducible assumption) | assumption); have hx17 := bt_at a0 x3_2; replace p17 := eq_true p17; replace q17 := eq_true q17; go_wp2
            go_roundg k2
            case measure => have := HJ1.out; have := HK2.out; omega
            case rel => exact ⟨(wrap64 (x3_2 + 1)), (by first | rfl | (simp; done) | (simp [*]; done)), H', ⟨by have := HJ1.out; have := HK2.out; omega⟩, by repeat (first | exact Drawn0.refl _ | apply Drawn0.step)⟩
           ·rw [if_neg c19] at H; have c19b0 : decide ((bt a0 x3_2) ≤ 57) = false := decide_eq_false c19; clear c19; obtain rfl := Option.some.inj H; have p12 : 0 ≤ (x3_2 : Int) := of_decide_eq_true (by first | (with_reducible assumption) | assumption); have q12 : x3_2 < (a0.size : Int) := of_decide_eq_true (by first | (with_reducible assumption) | assumption); have hx12 := bt_at a0 x3_2; replace p12 := eq_true p12; replace q12 := eq_true q12; have p14 : 0 ≤ (x3_2 : Int) := of_decide_eq_true (by first | (with_reducible assumption) | assumption); have q14 : x3_2 < (a0.size : Int) := of_decide_eq_true (by first | (with_reducible assumption) | assumption); have hx14 := bt_at a0 x3_2; replace p14 := eq_true p14; replace q14 := eq_true q14; have p15 : 0 ≤ (x3_2 : Int) := of_decide_eq_true (by first | (with_reducible assumption) | assumption); have q15 : x3_2 < (a0.size : Int) := of_decide_eq_true (by first | (with_reducible assumption) | assumption); have hx15 := bt_at a0 x3_2; replace p15 := eq_true p15; replace q15 := eq_true q15; have p17 : 0 ≤ (x3_2 : Int) := of_decide_eq_true (by first | (with_reducible assumption) | assumption); have q17 : x3_2 < (a0.size : Int) := of_decide_eq_true (by first | (with_reducible assumption) | assumption); have hx17 := bt_at a0 x3_2; replace p17 := eq_true p17; replace q17 := eq_true q17; go_wp2; go_ret; exact ⟨by first | rfl | (simp; done) | (simp [*]; done), by repeat (first | exact Drawn0.refl _ | apply Drawn0.step)⟩
         ·rw [if_neg c16] at H; have c16b0 : decide (48 ≤ (bt a0 x3_2)) = false := decide_eq_false c16; clear c16
          by_cases c20 : ((bt a0 x3_2) ≤ 122)
          ·rw [if_pos c20] at H; have c20b0 : decide ((bt a0 x3_2) ≤ 122) = true := decide_eq_true c20; clear c20; have H' := Qad.mk H; clear H; have p12 : 0 ≤ (x3_2 : Int) := of_decide_eq_true (by first | (with_reducible assumption) | assumption); have q12 : x3_2 < (a0.size : Int) := of_decide_eq_true (by first | (with_reducible assumption) | assumption); have hx12 := bt_at a0 x3_2; replace p12 := eq_true p12; replace q12 := eq_true q12; have p14 : 0 ≤ (x3_2 : Int) := of_decide_eq_true (by first | (with_reducible assumption) | assumption); have q14 : x3_2 < (a0.size : Int) := of_decide_eq_true (by first | (with_reducible assumption) | assumption); have hx14 := bt_at a0 x3_2; replace p14 := eq_true p14; replace q14 := eq_true q14; have p15 : 0 ≤ (x3_2 : Int) := of_decide_eq_true (by first | (with_reducible assumption) | assumption); have q15 : x3_2 < (a0.size : Int) := of_decide_eq_true (by first | (with_reducible assumption) | assumption); have hx15 := bt_at a0 x3_2; replace p15 := eq_true p15; replace q15 := eq_true q15; go_wp2
           go_roundg k2
           case measure => have := HJ1.out; have := HK2.out; omega
           case rel => exact ⟨(wrap64 (x3_2 + 1)), (by first | rfl | (simp; done) | (simp [*]; done)), H', ⟨by have := HJ1.out; have := HK2.out; omega⟩, by repeat (first | exact Drawn0.refl _ | apply Drawn0.step)⟩
          ·rw [if_neg c20] at H; have c20b0 : decide ((bt a0 x3_2) ≤ 122) = false := decide_eq_false c20; clear c20; obtain rfl := Option.some.inj H; have p12 : 0 ≤ (x3_2 : Int) := of_decide_eq_true (by first | (with_reducible assumption) | assumption); have q12 : x3_2 < (a0.size : Int) := of_decide_eq_true (by first | (with_reducible assumption) | assumption); have hx12 := bt_at a0 x3_2; replace p12 := eq_true p12; replace q12 := eq_true q12; have p14 : 0 ≤ (x3_2 : Int) := of_decide_eq_true (by first | (with_reducible assumption) | assumption); have q14 : x3_2 < (a0.size : Int) := of_decide_eq_true (by first | (with_reducible assumption) | assumption); have hx14 := bt_at a0 x3_2; replace p14 := eq_true p14; replace q14 := eq_true q14; have p15 : 0 ≤ (x3_2 : Int) := of_decide_eq_true (by first | (with_reducible assumption) | assumption); have q15 : x3_2 < (a0.size : Int) := of_decide_eq_true (by first | (with_reducible assumption) | assumption); have hx15 := bt_at a0 x3_2; replace p15 := eq_true p15; replace q15 := eq_true q15; go_wp2; go_ret; exact ⟨by first | rfl | (simp; done) | (simp [*]; done), by repeat (first | exact Drawn0.refl _ | apply Drawn0.step)⟩
        ·rw [if_neg c13] at H; have c13b0 : decide (97 ≤ (bt a0 x3_2)) = false := decide_eq_false c13; clear c13
         by_cases c22 : (bt a0 x3_2) ≥ 48
         ·rw [if_pos c22] at H; have c22b0 : decide (48 ≤ (bt a0 x3_2)) = true := decide_eq_true c22; clear c22
          by_cases c24 : ((bt a0 x3_2) ≤ 57)
          ·rw [if_pos c24] at H; have c24b0 : decide ((bt a0 x3_2) ≤ 57) = true := decide_eq_true c24; clear c24; have H' := Qad.mk H; clear H; have p12 : 0 ≤ (x3_2 : Int) := of_decide_eq_true (by first | (with_reducible assumption) | assumption); have q12 : x3_2 < (a0.size : Int) := of_decide_eq_true (by first | (with_reducible assumption) | assumption); have hx12 := bt_at a0 x3_2; replace p12 := eq_true p12; replace q12 := eq_true q12; have p21 : 0 ≤ (x3_2 : Int) := of_decide_eq_true (by first | (with_reducible assumption) | assumption); have q21 : x3_2 < (a0.size : Int) := of_decide_eq_true (by first | (with_reducible assumption) | assumption); have hx21 := bt_at a0 x3_2; replace p21 := eq_true p21; replace q21 := eq_true q21; have p23 : 0 ≤ (x3_2 : Int) := of_decide_eq_true (by first | (with_reducible assumption) | assumption); have q23 : x3_2 < (a0.size : Int) := of_decide_eq_true (by first | (with_reducible assumption) | assumption); have hx23 := bt_at a0 x3_2; replace p23 := eq_true p23; replace q23 := eq_true q23; go_wp2
           go_roundg k2
           case measure => have := HJ1.out; have := HK2.out; omega
           case rel => exact ⟨(wrap64 (x3_2 + 1)), (by first | rfl | (simp; done) | (simp [*]; done)), H', ⟨by have := HJ1.out; have := HK2.out; omega⟩, by repeat (first | exact Drawn0.refl _ | apply Drawn0.step)⟩
          ·rw [if_neg c24] at H; have c24b0 : decide ((bt a0 x3_2) ≤ 57) = false := decide_eq_false c24; clear c24; obtain rfl := Option.some.inj H; have p12 : 0 ≤ (x3_2 : Int) := of_decide_eq_true (by first | (with_reducible assumption) | assumption); have q12 : x3_2 < (a0.size : Int) := of_decide_eq_true (by first | (with_reducible assumption) | assumption); have hx12 := bt_at a0 x3_2; replace p12 := eq_true p12; replace q12 := eq_true q12; have p21 : 0 ≤ (x3_2 : Int) := of_decide_eq_true (by first | (with_reducible assumption) | assumption); have q21 : x3_2 < (a0.size : Int) := of_decide_eq_true (by first | (with_reducible assumption) | assumption); have hx21 := bt_at a0 x3_2; replace p21 := eq_true p21; replace q21 := eq_true q21; have p23 : 0 ≤ (x3_2 : Int) := of_decide_eq_true (by first | (with_reducible assumption) | assumption); have q23 : x3_2 < (a0.size : Int) := of_decide_eq_true (by first | (with_reducible assumption) | assumption); have hx23 := bt_at a0 x3_2; replace p23 := eq_true p23; replace q23 := eq_true q23; go_wp2; go_ret; exact ⟨by first | rfl | (simp; done) | (simp [*]; done), by repeat (first | exact Drawn0.refl _ | apply Drawn0.step)⟩
         ·rw [if_neg c22] at H; have c22b0 : decide (48 ≤ (bt a0 x3_2)) = false := decide_eq_false c22; clear c22; obtain rfl := Option.some.inj H; have p12 : 0 ≤ (x3_2 : Int) := of_decide_eq_true (by first | (with_reducible assumption) | assumption); have q12 : x3_2 < (a0.size : Int) := of_decide_eq_true (by first | (with_reducible assumption) | assumption); have hx12 := bt_at a0 x3_2; replace p12 := eq_true p12; replace q12 := eq_true q12; have p21 : 0 ≤ (x3_2 : Int) := of_decide_eq_true (by first | (with_reducible assumption) | assumption); have q21 : x3_2 < (a0.size : Int) := of_decide_eq_true (by first | (with_reducible assumption) | assumption); have hx21 := bt_at a0 x3_2; replace p21 := eq_true p21; replace q21 := eq_true q21; go_wp2; go_ret; exact ⟨by first | rfl | (simp; done) | (simp [*]; done), by repeat (first | exact Drawn0.refl _ | apply Drawn0.step)⟩
       ·rw [if_neg c11] at H; exact absurd H (by simp)
      ·rw [if_neg c10] at H; have c10b0 : decide (x3_2 < (a0.size : Int)) = false := decide_eq_false c10; clear c10; obtain rfl := Option.some.inj H; go_wp2; go_ret; exact ⟨by first | rfl | (simp; done) | (simp [*]; done), by repeat (first | exact Drawn0.refl _ | apply Drawn0.step)⟩
def liveryref04_Role.f (k : Nat) (a0_0 : ByteArray) (a0_1 : ByteArray) : Option (Bool) := (Qas.f k a0_1).bind fun t102 => (if t102 = true then ((Qao.f k a0_0).bind fun t103 => (some (t103 != 0))) else (some false))
set_option maxHeartbeats 8000000 in
set_option maxRecDepth 100000 in
theorem liveryref04_Role.calls (k : Nat) (a0_0 : ByteArray) (a0_1 : ByteArray) (r : Bool) (w : World) (h : liveryref04_Role.f k a0_0 a0_1 = some r) :
  Calls Tryd.prog 28 #[.agg #[.string a0_0, .string a0_1]] w fun e w' => e = .returned (.bool r) ∧ Below w.heap.size w w' := by
 have hu24 := Tryd.underlying24; have HB := Qad.mk (Below.refl w.heap.size w); have H : ((Qas.f k a0_1).bind fun t102 => (if t102 = true then ((Qao.f k a0_0).bind fun t103 => (some (t103 != 0))) else (some false))) = some r := h; clear h; replace H := Option.bind_eq_some_iff.mp H; obtain ⟨t102, A20, H⟩ := H; replace H : (if t102 = true then ((Qao.f k a0_0).bind fun t103 => (some (t103 != 0))) else (some false)) = some r := H; have A2 := Qad.mk A20; clear A20
 by_cases c3 : t102 = true
 ·subst c3
  have H1 : ((Qao.f k a0_0).bind fun t103 => (some (t103 != 0))) = some r := by rw [if_pos rfl] at H; exact H
  clear H; have H := H1; clear H1; replace H := Option.bind_eq_some_iff.mp H; obtain ⟨t103, A40, H⟩ := H; replace H : (some (t103 != 0)) = some r := H; have A4 := Qad.mk A40; clear A40; obtain rfl := Option.some.inj H; go_enter Tryd.func28, Tryd.ntmps28
  go_wp2_with (first | ((with_reducible refine gate_dst (N := 1) rfl ?_); refine box_event ?hg (N := 1) ?hd (cs := #[.string a0_0, .string a0_1]) (t := 24) ?hr ?_; (case hd => rfl); (case hg => rfl); (case hr => first | (go_simp; done) | (go_simp; rfl)); intro gb101 hg w5 hbox hb; have n0_ := Qad.mk (Qaf (by repeat (first | (with_reducible first | exact HB.out | apply Qab | apply Qaa | apply Qac) | exact HB.out)) hb); have n1_ := Qad.mk (hbox); have n2_ := Qad.mk ((by rw [hg]; exact (Qav (by repeat (first | (with_reducible first | exact HB.out | apply Qab | apply Qaa | apply Qac) | exact HB.out))) : w.heap.size ≤ gb101)); have n3_ := n2_; clear HB; have HB := n0_; have BK101 := n1_; have GW101 := n2_; have GE101 := n3_; clear n0_ n1_ n2_ n3_; clear hb hbox hg; obtain ⟨hcz6_0, hcz6_1⟩ := cz_ss BK101.out; obtain ⟨hfz6_0, hfz6_1⟩ := fz_2 BK101.out) | ((with_reducible refine gate_callee (f := 27) rfl ?_); refine goesL_ (some 6) rfl rfl Tryd.func27 (by kernel_rfl) rfl #[.string a0_1] rfl (by (try simp only [List.map_toArray, List.map_cons, List.map_nil]); first | done | rfl | (simp only [List.length_drop, List.length_take]; rfl)) ?_; (with_reducible refine (Qas.calls k a0_1 true _ A2.out).mono ?_); rintro e w' ⟨rfl, ⟨nd, rfl⟩⟩; refine ⟨_, rfl, ?_⟩) | (go_at_call 17; (with_reducible refine (Qao.calls k a0_0 t103 _ A4.out).mono ?_); rintro e w' ⟨rfl, ⟨nd, rfl⟩⟩))
  go_ret; exact ⟨by first | rfl | (simp [Qau, Qat] <;> rfl) | (simp [*, Qau, Qat] <;> rfl), by repeat (first | (with_reducible first | exact HB.out | apply Qab | apply Qaa | apply Qac | refine Qaj ?_ GE101.out) | exact HB.out)⟩
 ·replace c3 := Bool.eq_false_iff.mpr c3; subst c3
  have H1 : (some false) = some r := by rw [if_neg (show ¬ (false = true) by decide)] at H; exact H
  clear H; have H := H1; clear H1; obtain rfl := Option.some.inj H; go_enter Tryd.func28, Tryd.ntmps28
  go_wp2_with (first | ((with_reducible refine gate_dst (N := 1) rfl ?_); refine box_event ?hg (N := 1) ?hd (cs := #[.string a0_0, .string a0_1]) (t := 24) ?hr ?_; (case hd => rfl); (case hg => rfl); (case hr => first | (go_simp; done) | (go_simp; rfl)); intro gb101 hg w7 hbox hb; have n0_ := Qad.mk (Qaf (by repeat (first | (with_reducible first | exact HB.out | apply Qab | apply Qaa | apply Qac) | exact HB.out)) hb); have n1_ := Qad.mk (hbox); have n2_ := Qad.mk ((by rw [hg]; exact (Qav (by repeat (first | (with_reducible first | exact HB.out | apply Qab | apply Qaa | apply Qac) | exact HB.out))) : w.heap.size ≤ gb101)); have n3_ := n2_; clear HB; have HB := n0_; have BK101 := n1_; have GW101 := n2_; have GE101 := n3_; clear n0_ n1_ n2_ n3_; clear hb hbox hg; obtain ⟨hcz8_0, hcz8_1⟩ := cz_ss BK101.out; obtain ⟨hfz8_0, hfz8_1⟩ := fz_2 BK101.out) | ((with_reducible refine gate_callee (f := 27) rfl ?_); refine goesL_ (some 6) rfl rfl Tryd.func27 (by kernel_rfl) rfl #[.string a0_1] rfl (by (try simp only [List.map_toArray, List.map_cons, List.map_nil]); first | done | rfl | (simp only [List.length_drop, List.length_take]; rfl)) ?_; (with_reducible refine (Qas.calls k a0_1 false _ A2.out).mono ?_); rintro e w' ⟨rfl, ⟨nd, rfl⟩⟩; refine ⟨_, rfl, ?_⟩))
  go_ret; exact ⟨by first | rfl | (simp [Qau, Qat] <;> rfl) | (simp [*, Qau, Qat] <;> rfl), by repeat (first | (with_reducible first | exact HB.out | apply Qab | apply Qaa | apply Qac | refine Qaj ?_ GE101.out) | exact HB.out)⟩
def liveryref05_bare.f (k : Nat) (a0_0 : ByteArray) (a0_1 : ByteArray) : Option (Bool) := (Qas.f k a0_1).bind fun t102 => (if t102 = true then (some (a0_0.toList == ([] : List UInt8))) else (some false))
set_option maxHeartbeats 8000000 in
set_option maxRecDepth 100000 in
theorem liveryref05_bare.calls (k : Nat) (a0_0 : ByteArray) (a0_1 : ByteArray) (r : Bool) (w : World) (h : liveryref05_bare.f k a0_0 a0_1 = some r) :
  Calls Tryd.prog 29 #[.agg #[.string a0_0, .string a0_1]] w fun e w' => e = .returned (.bool r) ∧ Below w.heap.size w w' := by
 have hu24 := Tryd.underlying24; have HB := Qad.mk (Below.refl w.heap.size w); have H : ((Qas.f k a0_1).bind fun t102 => (if t102 = true then (some (a0_0.toList == ([] : List UInt8))) else (some false))) = some r := h; clear h; replace H := Option.bind_eq_some_iff.mp H; obtain ⟨t102, A20, H⟩ := H; replace H : (if t102 = true then (some (a0_0.toList == ([] : List UInt8))) else (some false)) = some r := H; have A2 := Qad.mk A20; clear A20
 by_cases c3 : t102 = true
 ·subst c3
  have H1 : (some (a0_0.toList == ([] : List UInt8))) = some r := by rw [if_pos rfl] at H; exact H
  clear H; have H := H1; clear H1; obtain rfl := Option.some.inj H; go_enter Tryd.func29, Tryd.ntmps29
  go_wp2_with (first | ((with_reducible refine gate_dst (N := 1) rfl ?_); refine box_event ?hg (N := 1) ?hd (cs := #[.string a0_0, .string a0_1]) (t := 24) ?hr ?_; (case hd => rfl); (case hg => rfl); (case hr => first | (go_simp; done) | (go_simp; rfl)); intro gb101 hg w4 hbox hb; have n0_ := Qad.mk (Qaf (by repeat (first | (with_reducible first | exact HB.out | apply Qab | apply Qaa | apply Qac) | exact HB.out)) hb); have n1_ := Qad.mk (hbox); have n2_ := Qad.mk ((by rw [hg]; exact (Qav (by repeat (first | (with_reducible first | exact HB.out | apply Qab | apply Qaa | apply Qac) | exact HB.out))) : w.heap.size ≤ gb101)); have n3_ := n2_; clear HB; have HB := n0_; have BK101 := n1_; have GW101 := n2_; have GE101 := n3_; clear n0_ n1_ n2_ n3_; clear hb hbox hg; obtain ⟨hcz5_0, hcz5_1⟩ := cz_ss BK101.out; obtain ⟨hfz5_0, hfz5_1⟩ := fz_2 BK101.out) | ((with_reducible refine gate_callee (f := 27) rfl ?_); refine goesL_ (some 6) rfl rfl Tryd.func27 (by kernel_rfl) rfl #[.string a0_1] rfl (by (try simp only [List.map_toArray, List.map_cons, List.map_nil]); first | done | rfl | (simp only [List.length_drop, List.length_take]; rfl)) ?_; (with_reducible refine (Qas.calls k a0_1 true _ A2.out).mono ?_); rintro e w' ⟨rfl, ⟨nd, rfl⟩⟩; refine ⟨_, rfl, ?_⟩))
  go_ret; exact ⟨by first | rfl | (simp [Qau, Qat] <;> rfl) | (simp [*, Qau, Qat] <;> rfl), by repeat (first | (with_reducible first | exact HB.out | apply Qab | apply Qaa | apply Qac | refine Qaj ?_ GE101.out) | exact HB.out)⟩
 ·replace c3 := Bool.eq_false_iff.mpr c3; subst c3
  have H1 : (some false) = some r := by rw [if_neg (show ¬ (false = true) by decide)] at H; exact H
  clear H; have H := H1; clear H1; obtain rfl := Option.some.inj H; go_enter Tryd.func29, Tryd.ntmps29
  go_wp2_with (first | ((with_reducible refine gate_dst (N := 1) rfl ?_); refine box_event ?hg (N := 1) ?hd (cs := #[.string a0_0, .string a0_1]) (t := 24) ?hr ?_; (case hd => rfl); (case hg => rfl); (case hr => first | (go_simp; done) | (go_simp; rfl)); intro gb101 hg w6 hbox hb; have n0_ := Qad.mk (Qaf (by repeat (first | (with_reducible first | exact HB.out | apply Qab | apply Qaa | apply Qac) | exact HB.out)) hb); have n1_ := Qad.mk (hbox); have n2_ := Qad.mk ((by rw [hg]; exact (Qav (by repeat (first | (with_reducible first | exact HB.out | apply Qab | apply Qaa | apply Qac) | exact HB.out))) : w.heap.size ≤ gb101)); have n3_ := n2_; clear HB; have HB := n0_; have BK101 := n1_; have GW101 := n2_; have GE101 := n3_; clear n0_ n1_ n2_ n3_; clear hb hbox hg; obtain ⟨hcz7_0, hcz7_1⟩ := cz_ss BK101.out; obtain ⟨hfz7_0, hfz7_1⟩ := fz_2 BK101.out) | ((with_reducible refine gate_callee (f := 27) rfl ?_); refine goesL_ (some 6) rfl rfl Tryd.func27 (by kernel_rfl) rfl #[.string a0_1] rfl (by (try simp only [List.map_toArray, List.map_cons, List.map_nil]); first | done | rfl | (simp only [List.length_drop, List.length_take]; rfl)) ?_; (with_reducible refine (Qas.calls k a0_1 false _ A2.out).mono ?_); rintro e w' ⟨rfl, ⟨nd, rfl⟩⟩; refine ⟨_, rfl, ?_⟩))
  go_ret; exact ⟨by first | rfl | (simp [Qau, Qat] <;> rfl) | (simp [*, Qau, Qat] <;> rfl), by repeat (first | (with_reducible first | exact HB.out | apply Qab | apply Qaa | apply Qac | refine Qaj ?_ GE101.out) | exact HB.out)⟩
def liveryref05_Before.f (a0_0 : Int) (a0_1 : Int) (a1_0 : Int) (a1_1 : Int) : Option (Bool) := if a0_0 = a1_0 then (some (decide (a0_1 < a1_1))) else (some (decide (a0_0 < a1_0)))
set_option maxHeartbeats 8000000 in
set_option maxRecDepth 100000 in
theorem liveryref05_Before.calls (a0_0 : Int) (a0_1 : Int) (a1_0 : Int) (a1_1 : Int) (r : Bool) (w : World) (h : liveryref05_Before.f a0_0 a0_1 a1_0 a1_1 = some r) :
  Calls Tryd.prog 30 #[.agg #[.int .i64 a0_0, .int .i64 a0_1], .agg #[.int .i64 a1_0, .int .i64 a1_1]] w fun e w' => e = .returned (.bool r) ∧ Below w.heap.size w w' := by
 have hu26 := Tryd.underlying26; have HB := Qad.mk (Below.refl w.heap.size w); have H : (if a0_0 = a1_0 then (some (decide (a0_1 < a1_1))) else (some (decide (a0_0 < a1_0)))) = some r := h; clear h
 by_cases c3 : a0_0 = a1_0
 ·rw [if_pos c3] at H; have c3b0 : (a0_0 == a1_0) = true := beq_iff_eq.mpr c3; have c3b1 : (a0_0 != a1_0) = false := bne_eq_false_iff_eq.mpr c3; clear c3; obtain rfl := Option.some.inj H; go_enter Tryd.func30, Tryd.ntmps30
  go_wp2_with (first | ((with_reducible refine gate_dst (N := 2) rfl ?_); refine box_event ?hg (N := 2) ?hd (cs := #[.int .i64 a0_0, .int .i64 a0_1]) (t := 26) ?hr ?_; (case hd => rfl); (case hg => rfl); (case hr => first | (go_simp; done) | (go_simp; rfl)); intro gb101 hg w4 hbox hb; have n0_ := Qad.mk (Qaf (by repeat (first | (with_reducible first | exact HB.out | apply Qab | apply Qaa | apply Qac) | exact HB.out)) hb); have n1_ := Qad.mk (hbox); have n2_ := Qad.mk ((by rw [hg]; exact (Qav (by repeat (first | (with_reducible first | exact HB.out | apply Qab | apply Qaa | apply Qac) | exact HB.out))) : w.heap.size ≤ gb101)); have n3_ := n2_; clear HB; have HB := n0_; have BK101 := n1_; have GW101 := n2_; have GE101 := n3_; clear n0_ n1_ n2_ n3_; clear hb hbox hg) | ((with_reducible refine gate_dst (N := 3) rfl ?_); refine box_event ?hg (N := 3) ?hd (cs := #[.int .i64 a1_0, .int .i64 a1_1]) (t := 26) ?hr ?_; (case hd => rfl); (case hg => rfl); (case hr => first | (go_simp; done) | (go_simp; rfl)); intro gb102 hg w5 hbox hb; have n0_ := Qad.mk (Qae (g := gb101) (o := ob_ii a0_0 a0_1 26) (by (with_reducible repeat (first | refine Qah ?_ _ | refine Qak ?_ | refine Qag ?_ _)); exact BK101.out) hb); have n1_ := Qad.mk (Qaf (by repeat (first | (with_reducible first | exact HB.out | apply Qab | apply Qaa | apply Qac | refine Qaj ?_ GE101.out) | exact HB.out)) hb); have n2_ := Qad.mk (hbox); have n3_ := Qad.mk ((by rw [hg]; exact (Qav (by repeat (first | (with_reducible first | exact HB.out | apply Qab | apply Qaa | apply Qac | refine Qaj ?_ GE101.out) | exact HB.out))) : w.heap.size ≤ gb102)); have n4_ := n3_; have n5_ := Qad.mk ((by rw [hg]; exact Nat.ne_of_lt (blk_lt (g := gb101) (o := ob_ii a0_0 a0_1 26) (by (with_reducible repeat (first | refine Qah ?_ _ | refine Qak ?_ | refine Qag ?_ _)); exact BK101.out)) : gb101 ≠ gb102)); have n6_ := Qad.mk ((by rw [hg]; exact Nat.ne_of_gt (blk_lt (g := gb101) (o := ob_ii a0_0 a0_1 26) (by (with_reducible repeat (first | refine Qah ?_ _ | refine Qak ?_ | refine Qag ?_ _)); exact BK101.out)) : gb102 ≠ gb101)); clear BK101; clear HB; have BK101 := n0_; have HB := n1_; have BK102 := n2_; have GW102 := n3_; have GE102 := n4_; have NB101_102 := n5_; have NB102_101 := n6_; clear n0_ n1_ n2_ n3_ n4_ n5_ n6_; clear hb hbox hg; have hnb6 := NB101_102.out; have hnc6 := NB102_101.out; obtain ⟨hcz7_0, hcz7_1⟩ := cz_ii BK101.out; obtain ⟨hfz7_0, hfz7_1⟩ := fz_2 BK101.out; obtain ⟨hcz8_0, hcz8_1⟩ := cz_ii BK102.out; obtain ⟨hfz8_0, hfz8_1⟩ := fz_2 BK102.out))
  go_ret; exact ⟨by first | rfl | (simp [Qau, Qat] <;> rfl) | (simp [*, Qau, Qat] <;> rfl), by repeat (first | (with_reducible first | exact HB.out | apply Qab | apply Qaa | apply Qac | refine Qaj ?_ GE101.out | refine Qaj ?_ GE102.out) | exact HB.out)⟩
 ·rw [if_neg c3] at H; have c3b0 : (a0_0 == a1_0) = false := beq_eq_false_iff_ne.mpr c3; have c3b1 : (a0_0 != a1_0) = true := bne_iff_ne.mpr c3; obtain rfl := Option.some.inj H; go_enter Tryd.func30, Tryd.ntmps30
  go_wp2_with (first | ((with_reducible refine gate_dst (N := 2) rfl ?_); refine box_event ?hg (N := 2) ?hd (cs := #[.int .i64 a0_0, .int .i64 a0_1]) (t := 26) ?hr ?_; (case hd => rfl); (case hg => rfl); (case hr => first | (go_simp; done) | (go_simp; rfl)); intro gb101 hg w9 hbox hb; have n0_ := Qad.mk (Qaf (by repeat (first | (with_reducible first | exact HB.out | apply Qab | apply Qaa | apply Qac) | exact HB.out)) hb); have n1_ := Qad.mk (hbox); have n2_ := Qad.mk ((by rw [hg]; exact (Qav (by repeat (first | (with_reducible first | exact HB.out | apply Qab | apply Qaa | apply Qac) | exact HB.out))) : w.heap.size ≤ gb101)); have n3_ := n2_; clear HB; have HB := n0_; have BK101 := n1_; have GW101 := n2_; have GE101 := n3_; clear n0_ n1_ n2_ n3_; clear hb hbox hg) | ((with_reducible refine gate_dst (N := 3) rfl ?_); refine box_event ?hg (N := 3) ?hd (cs := #[.int .i64 a1_0, .int .i64 a1_1]) (t := 26) ?hr ?_; (case hd => rfl); (case hg => rfl); (case hr => first | (go_simp; done) | (go_simp; rfl)); intro gb102 hg w10 hbox hb; have n0_ := Qad.mk (Qae (g := gb101) (o := ob_ii a0_0 a0_1 26) (by (with_reducible repeat (first | refine Qah ?_ _ | refine Qak ?_ | refine Qag ?_ _)); exact BK101.out) hb); have n1_ := Qad.mk (Qaf (by repeat (first | (with_reducible first | exact HB.out | apply Qab | apply Qaa | apply Qac | refine Qaj ?_ GE101.out) | exact HB.out)) hb); have n2_ := Qad.mk (hbox); have n3_ := Qad.mk ((by rw [hg]; exact (Qav (by repeat (first | (with_reducible first | exact HB.out | apply Qab | apply Qaa | apply Qac | refine Qaj ?_ GE101.out) | exact HB.out))) : w.heap.size ≤ gb102)); have n4_ := n3_; have n5_ := Qad.mk ((by rw [hg]; exact Nat.ne_of_lt (blk_lt (g := gb101) (o := ob_ii a0_0 a0_1 26) (by (with_reducible repeat (first | refine Qah ?_ _ | refine Qak ?_ | refine Qag ?_ _)); exact BK101.out)) : gb101 ≠ gb102)); have n6_ := Qad.mk ((by rw [hg]; exact Nat.ne_of_gt (blk_lt (g := gb101) (o := ob_ii a0_0 a0_1 26) (by (with_reducible repeat (first | refine Qah ?_ _ | refine Qak ?_ | refine Qag ?_ _)); exact BK101.out)) : gb102 ≠ gb101)); clear BK101; clear HB; have BK101 := n0_; have HB := n1_; have BK102 := n2_; have GW102 := n3_; have GE102 := n4_; have NB101_102 := n5_; have NB102_101 := n6_; clear n0_ n1_ n2_ n3_ n4_ n5_ n6_; clear hb hbox hg; have hnb11 := NB101_102.out; have hnc11 := NB102_101.out; obtain ⟨hcz12_0, hcz12_1⟩ := cz_ii BK101.out; obtain ⟨hfz12_0, hfz12_1⟩ := fz_2 BK101.out; obtain ⟨hcz13_0, hcz13_1⟩ := cz_ii BK102.out; obtain ⟨hfz13_0, hfz13_1⟩ := fz_2 BK102.out))
  go_ret; exact ⟨by first | rfl | (simp [Qau, Qat] <;> rfl) | (simp [*, Qau, Qat] <;> rfl), by repeat (first | (with_reducible first | exact HB.out | apply Qab | apply Qaa | apply Qac | refine Qaj ?_ GE101.out | refine Qaj ?_ GE102.out) | exact HB.out)⟩
end Go.Proofs.YtbjjgaahdnfflaaDoor.Pr
end
section
namespace Go.Proofs
open Go.Shelf
def Tryd.insCred_ren : Go.Shelf.Ren := ⟨fun | 20 => 63 | n => n, fun | 24 => 42 | 22 => 22 | 3 => 3 | 25 => 82 | 4 => 4 | 0 => 0 | n => n, fun | n => n⟩
theorem Tryd.insCred : Go.Proofs.SlLaysF0.n20 Tryd.prog Tryd.insCred_ren := {
  mixed := by kernel_rfl
  f20 := ⟨Tryd.f63.name, by decide, Tryd.func63.trans (congrArg some (by kernel_rfl))⟩
  t0 := Tryd.underlying0
  a0 := Tryd.isAgg0
  z0 := Tryd.sizeOf0
  v0 := Tryd.zeroValue0
  t3 := Tryd.underlying3
  a3 := Tryd.isAgg3
  z3 := Tryd.sizeOf3
  v3 := Tryd.zeroValue3
  t4 := Tryd.underlying4
  a4 := Tryd.isAgg4
  z4 := Tryd.sizeOf4
  v4 := Tryd.zeroValue4
  t22 := Tryd.underlying22
  a22 := Tryd.isAgg22
  z22 := Tryd.sizeOf22
  v22 := Tryd.zeroValue22
  t25 := Tryd.underlying82
  a25 := Tryd.isAgg82
  z25 := Tryd.sizeOf82
  v25 := Tryd.zeroValue82 }
def Tryd.cloneCred_ren : Go.Shelf.Ren := ⟨fun | 41 => 40 | n => n, fun | 22 => 22 | 23 => 42 | 4 => 4 | n => n, fun | n => n⟩
theorem Tryd.cloneCred : Go.Proofs.SlLaysE0.n41 Tryd.prog Tryd.cloneCred_ren := {
  mixed := by kernel_rfl
  f41 := ⟨Tryd.f40.name, by decide, Tryd.func40.trans (congrArg some (by kernel_rfl))⟩
  t4 := Tryd.underlying4
  a4 := Tryd.isAgg4
  z4 := Tryd.sizeOf4
  v4 := Tryd.zeroValue4
  t22 := Tryd.underlying22
  a22 := Tryd.isAgg22
  z22 := Tryd.sizeOf22
  v22 := Tryd.zeroValue22 }
def Tryd.sortPair_ren : Go.Shelf.Ren := ⟨fun | 6 => 53 | 15 => 62 | 14 => 61 | 28 => 74 | 29 => 75 | 20 => 66 | 21 => 67 | 22 => 68 | 23 => 69 | 24 => 70 | 25 => 71 | 26 => 72 | 27 => 73 | 46 => 78 | 47 => 79 | 48 => 80 | 49 => 81 | 50 => 82 | 57 => 88 | n => n, fun | 22 => 51 | 24 => 50 | 25 => 87 | 3 => 3 | 39 => 94 | 0 => 0 | 53 => 106 | 55 => 108 | 4 => 4 | 46 => 99 | 45 => 98 | 50 => 103 | 5 => 5 | 9 => 9 | 66 => 110 | 70 => 114 | 76 => 120 | 77 => 121 | n => n, fun | n => n⟩
theorem Tryd.sortPair : Go.Proofs.SlLaysF0.n6 Tryd.prog Tryd.sortPair_ren := {
  mixed := by kernel_rfl
  f6 := ⟨Tryd.f53.name, by decide, Tryd.func53.trans (congrArg some (by kernel_rfl))⟩
  f14 := ⟨Tryd.f61.name, by decide, Tryd.func61.trans (congrArg some (by kernel_rfl))⟩
  f15 := Tryd.func62.trans (congrArg some (by kernel_rfl))
  f20 := ⟨Tryd.f66.name, by decide, Tryd.func66.trans (congrArg some (by kernel_rfl))⟩
  f21 := ⟨Tryd.f67.name, by decide, Tryd.func67.trans (congrArg some (by kernel_rfl))⟩
  f22 := ⟨Tryd.f68.name, by decide, Tryd.func68.trans (congrArg some (by kernel_rfl))⟩
  f23 := ⟨Tryd.f69.name, by decide, Tryd.func69.trans (congrArg some (by kernel_rfl))⟩
  f24 := ⟨Tryd.f70.name, by decide, Tryd.func70.trans (congrArg some (by kernel_rfl))⟩
  f25 := ⟨Tryd.f71.name, by decide, Tryd.func71.trans (congrArg some (by kernel_rfl))⟩
  f26 := ⟨Tryd.f72.name, by decide, Tryd.func72.trans (congrArg some (by kernel_rfl))⟩
  f27 := ⟨Tryd.f73.name, by decide, Tryd.func73.trans (congrArg some (by kernel_rfl))⟩
  f28 := Tryd.func74.trans (congrArg some (by kernel_rfl))
  f29 := Tryd.func75.trans (congrArg some (by kernel_rfl))
  f46 := ⟨Tryd.f78.name, by decide, Tryd.func78.trans (congrArg some (by kernel_rfl))⟩
  f47 := Tryd.func79.trans (congrArg some (by kernel_rfl))
  f48 := Tryd.func80.trans (congrArg some (by kernel_rfl))
  f49 := ⟨Tryd.f81.name, by decide, Tryd.func81.trans (congrArg some (by kernel_rfl))⟩
  f50 := ⟨Tryd.f82.name, by decide, Tryd.func82.trans (congrArg some (by kernel_rfl))⟩
  f57 := ⟨Tryd.f88.name, by decide, Tryd.func88.trans (congrArg some (by kernel_rfl))⟩
  t0 := Tryd.underlying0
  a0 := Tryd.isAgg0
  z0 := Tryd.sizeOf0
  v0 := Tryd.zeroValue0
  t3 := Tryd.underlying3
  a3 := Tryd.isAgg3
  z3 := Tryd.sizeOf3
  v3 := Tryd.zeroValue3
  t4 := Tryd.underlying4
  a4 := Tryd.isAgg4
  z4 := Tryd.sizeOf4
  v4 := Tryd.zeroValue4
  t5 := Tryd.underlying5
  a5 := Tryd.isAgg5
  z5 := Tryd.sizeOf5
  v5 := Tryd.zeroValue5
  t9 := Tryd.underlying9
  a9 := Tryd.isAgg9
  z9 := Tryd.sizeOf9
  v9 := Tryd.zeroValue9
  t22 := Tryd.underlying51
  a22 := Tryd.isAgg51
  z22 := Tryd.sizeOf51
  v22 := Tryd.zeroValue51
  t25 := Tryd.underlying87
  a25 := Tryd.isAgg87
  z25 := Tryd.sizeOf87
  v25 := Tryd.zeroValue87
  t39 := Tryd.underlying94
  a39 := Tryd.isAgg94
  z39 := Tryd.sizeOf94
  v39 := Tryd.zeroValue94
  t45 := Tryd.underlying98
  a45 := Tryd.isAgg98
  z45 := Tryd.sizeOf98
  v45 := Tryd.zeroValue98
  t46 := Tryd.underlying99
  a46 := Tryd.isAgg99
  z46 := Tryd.sizeOf99
  v46 := Tryd.zeroValue99
  t50 := Tryd.underlying103
  a50 := Tryd.isAgg103
  z50 := Tryd.sizeOf103
  v50 := Tryd.zeroValue103
  t53 := Tryd.underlying106
  a53 := Tryd.isAgg106
  z53 := Tryd.sizeOf106
  v53 := Tryd.zeroValue106
  t55 := Tryd.underlying108
  a55 := Tryd.isAgg108
  z55 := Tryd.sizeOf108
  v55 := Tryd.zeroValue108
  t66 := Tryd.underlying110
  a66 := Tryd.isAgg110
  z66 := Tryd.sizeOf110
  v66 := Tryd.zeroValue110
  t70 := Tryd.underlying114
  a70 := Tryd.isAgg114
  z70 := Tryd.sizeOf114
  v70 := Tryd.zeroValue114
  t76 := Tryd.underlying120
  a76 := Tryd.isAgg120
  z76 := Tryd.sizeOf120
  v76 := Tryd.zeroValue120
  t77 := Tryd.underlying121
  a77 := Tryd.isAgg121
  z77 := Tryd.sizeOf121
  v77 := Tryd.zeroValue121 }
end Go.Proofs
end
section
namespace Go.Proofs.YtbjjgaahdnfflaaDoor.Pr
open Go.RowKit Go.Proofs.YtbjjgaahdnfflaaDoorW.PrintWords Go.Proofs.YtbjjgaahdnfflaaDoorW.PrintLast Go.Proofs.YtbjjgaahdnfflaaDoorW.PrintMore
attribute [local go_sem] max2_int min2_int max_two min_two max_three min_three max_four min_four
set_option linter.unusedVariables false
set_option linter.unusedSimpArgs false
def encCredL (c : Cred) : List Value := [.int .i64 c.f0.f0, .int .i64 c.f0.f1, .string c.f1, .int .i64 c.f2, .string c.f3, .string c.f4.f0, .string c.f4.f1, .string c.f5.f0, .string c.f5.f1]
instance : Inhabited Cred := ⟨z42⟩
theorem flatCred : Flat kCred encCredL where
  opens h := k42_openM h
  shuts w base ok x := k42_mkM w base ok x
  len _ := rfl
theorem isAggCred (w : World) : (isAgg 42).run Tryd.prog w = .ok true w := by kernel_rfl
theorem sizeOfCred (w : World) : (Go.sizeOf 42).run Tryd.prog w = .ok 9 w := by kernel_rfl
def sortCreds (l : List Cred) : List Cred := (Go.Sort.insertionSort (ltOf credCmp) l.toArray 0 l.length).toList
theorem credCmp_lt (x y : Cred) : ltOf credCmp x y = true ↔ x.f0.f0 < y.f0.f0 ∨ (x.f0.f0 = y.f0.f0 ∧ x.f0.f1 < y.f0.f1) := by
  unfold ltOf credCmp Lib.compareInt; rw [decide_eq_true_eq]
  by_cases h1 : x.f0.f0 < y.f0.f0
  · simp [h1]
  · by_cases h2 : y.f0.f0 < x.f0.f0
    · simp [h1, h2]
      omega
    · have e : x.f0.f0 = y.f0.f0 := by omega
      by_cases h3 : x.f0.f1 < y.f0.f1
      · simp [e, h3]
      · by_cases h4 : y.f0.f1 < x.f0.f1 <;> simp [e, h3, h4]
theorem credSWO : Go.Sort.SWO (ltOf credCmp) where
  irrefl x := by rw [Bool.eq_false_iff, Ne, credCmp_lt]; omega
  trans x y z h1 h2 := by rw [credCmp_lt] at *; omega
  ntrans x y z h1 h2 := by rw [Bool.eq_false_iff, Ne, credCmp_lt] at *; omega
theorem sortCreds_length (l : List Cred) : (sortCreds l).length = l.length := by
  have := (Go.Sort.insertionSort_holds credSWO l.toArray 0 l.length (Nat.zero_le _) (by simp)).1.1
  simpa [sortCreds] using this
theorem insert_calls (w : World) (B : Nat) (g cap n : Nat) (l : List Cred) (hn : n = l.length) (hR : Kd.R kCred 42 w B (fun _ => True) (.slice (some ⟨g, 0, none⟩) n cap) l) (hB : B ≤ w.heap.size) (hl : l.length ≤ 20) : Calls Tryd.prog 63 #[.slice (some ⟨g, 0, none⟩) n cap, .int .i64 0, .int .i64 n, .func (.func 42) #[] #[]] w fun e w' =>
    e = .returned (.tuple #[]) ∧ Kd.R kCred 42 w' B (fun _ => True) (.slice (some ⟨g, 0, none⟩) n cap) (sortCreds l) ∧ Below B w w' := by
  subst hn; obtain ⟨_, _, hg, hH, hlt, hmax⟩ := holds_of_R flatCred hR; have eg : ∀ args w, (callFunc 42 args).run Tryd.prog w = .ok (.enter 42 args) w := enters_of Tryd.func42 (by kernel_rfl) rfl
  have hc : CmpLays Tryd.prog 42 #[] encCredL 9 credCmp g 0 l.toArray.size w := fun _ _ _ _ x y => sorted1_calls x y _
  refine (AnyQ.insertionSortCmpFunc Tryd.insCred 9 isAggCred sizeOfCred encCredL (fun _ => rfl) (fun x v hv => by simp [encCredL] at hv; rcases hv with rfl | rfl | rfl | rfl | rfl | rfl | rfl | rfl | rfl <;> rfl) credCmp 42 #[] g 0 cap 0 l.length l.toArray w eg hc hH hlt (Nat.zero_le _) (by simp) (by simp; omega)).mono ?_; rintro e w' ⟨rfl, n, os, rfl⟩; refine ⟨rfl, R_of_sorted flatCred hR n (sortCreds l) os (sortCreds_length l), sorted_below encCredL w g 9 n (sortCreds l) os hB hg⟩
theorem insertion_20 (d : Array Cred) : Go.Sort.insertionSort (ltOf credCmp) d 20 20 = d := by
  unfold Go.Sort.insertionSort; rw [Go.Sort.insOuter]; simp
theorem insert_20 (w : World) (B : Nat) (g cap : Nat) (l : List Cred) (hn : l.length = 20) (hR : Kd.R kCred 42 w B (fun _ => True) (.slice (some ⟨g, 0, none⟩) 20 cap) l) (hB : B ≤ w.heap.size) : Calls Tryd.prog 63 #[.slice (some ⟨g, 0, none⟩) 20 cap, .int .i64 20, .int .i64 20, .func (.func 42) #[] #[]] w fun e w' =>
    e = .returned (.tuple #[]) ∧ Kd.R kCred 42 w' B (fun _ => True) (.slice (some ⟨g, 0, none⟩) 20 cap) l ∧ Below B w w' := by
  have hR0 : Kd.R kCred 42 w B (fun _ => True) (.slice (some ⟨g, 0, none⟩) l.length cap) l := by rw [hn]; exact hR
  obtain ⟨_, _, hg, hH, hlt, hmax⟩ := holds_of_R flatCred hR0; have eg : ∀ args w, (callFunc 42 args).run Tryd.prog w = .ok (.enter 42 args) w := enters_of Tryd.func42 (by kernel_rfl) rfl
  have hc : CmpLays Tryd.prog 42 #[] encCredL 9 credCmp g 0 l.toArray.size w := fun _ _ _ _ x y => sorted1_calls x y _
  have hlen : (Go.Sort.insertionSort (ltOf credCmp) l.toArray 20 20).toList.length = l.length := by rw [insertion_20]
  have key : Calls Tryd.prog 63 #[.slice (some ⟨g, 0, none⟩) l.length cap, .int .i64 (20 : Nat), .int .i64 (20 : Nat), .func (.func 42) #[] #[]] w fun e w' =>
      e = .returned (.tuple #[]) ∧ Kd.R kCred 42 w' B (fun _ => True) (.slice (some ⟨g, 0, none⟩) l.length cap) (Go.Sort.insertionSort (ltOf credCmp) l.toArray 20 20).toList ∧ Below B w w' := by
    refine (AnyQ.insertionSortCmpFunc Tryd.insCred 9 isAggCred sizeOfCred encCredL (fun _ => rfl) (fun x v hv => by simp [encCredL] at hv; rcases hv with rfl | rfl | rfl | rfl | rfl | rfl | rfl | rfl | rfl <;> rfl) credCmp 42 #[] g 0 cap 20 20 l.toArray w eg hc hH hlt (Nat.le_refl _) (by simp [hn]) (by simp; omega)).mono ?_; rintro e w' ⟨rfl, n, os, rfl⟩; exact ⟨rfl, R_of_sorted flatCred hR0 n _ os hlen, sorted_below encCredL w g 9 n _ os hB hg⟩
  rw [insertion_20, hn] at key; exact key
set_option maxRecDepth 100000 in
set_option maxHeartbeats 4000000 in
theorem stable_lt (w : World) (B : Nat) (g cap n : Nat) (l : List Cred) (hn : n = l.length) (hR : Kd.R kCred 42 w B (fun _ => True) (.slice (some ⟨g, 0, none⟩) n cap) l) (hB : B ≤ w.heap.size) (hl : l.length < 20) : Calls Tryd.prog 57 #[.slice (some ⟨g, 0, none⟩) n cap, .int .i64 n, .func (.func 42) #[] #[]] w fun e w' =>
    e = .returned (.tuple #[]) ∧ Kd.R kCred 42 w' B (fun _ => True) (.slice (some ⟨g, 0, none⟩) n cap) (sortCreds l) ∧ Below B w w' := by
  have hi := insert_calls w B g cap n l hn hR hB (by omega); have d1 : decide ((20 : Int) ≤ (n : Int)) = false := decide_eq_false (by omega); have d2 : decide (20 ≤ n) = false := decide_eq_false (by omega); have d3 : decide ((20 : Int) < (n : Int)) = false := decide_eq_false (by omega); have d4 : decide (20 < n) = false := decide_eq_false (by omega); clear hR hl hn; go_enter Tryd.func57, Tryd.ntmps57; go_wp2
  go_loopg [7, 8] 1 (fun kq v7 v8 w' => v7 = .int .i64 0 ∧ v8 = .int .i64 20 ∧ w' = w)
  case atStart => exact ⟨rfl, rfl, rfl⟩
  case round =>
    obtain ⟨rfl, rfl, rfl⟩ := hrel
    go_wp2_with (go_at_call 63; refine hi.mono ?_; rintro e w3 ⟨rfl, hR3, hB3⟩)
    have HR := Lib.hid hR3; have HBw := Lib.hid hB3; clear hR3 hB3 hi
    go_loopg [6, 7, 8, 9] 1 (fun kq v6 _ _ _ w' => v6 = .int .i64 20 ∧ w' = w3)
    case atStart => exact ⟨rfl, rfl⟩
    case round =>
      obtain ⟨rfl, rfl⟩ := hrel; go_wp2; go_end0; exact ⟨rfl, HR.out, HBw.out⟩
set_option maxRecDepth 100000 in
set_option maxHeartbeats 4000000 in
theorem stable_20 (w : World) (B : Nat) (g cap : Nat) (l : List Cred) (hn : l.length = 20) (hR : Kd.R kCred 42 w B (fun _ => True) (.slice (some ⟨g, 0, none⟩) 20 cap) l) (hB : B ≤ w.heap.size) : Calls Tryd.prog 57 #[.slice (some ⟨g, 0, none⟩) 20 cap, .int .i64 20, .func (.func 42) #[] #[]] w fun e w' =>
    e = .returned (.tuple #[]) ∧ Kd.R kCred 42 w' B (fun _ => True) (.slice (some ⟨g, 0, none⟩) 20 cap) (sortCreds l) ∧ Below B w w' := by
  have hi : Calls Tryd.prog 63 #[.slice (some ⟨g, 0, none⟩) 20 cap, .int .i64 0, .int .i64 20, .func (.func 42) #[] #[]] w fun e w' =>
      e = .returned (.tuple #[]) ∧ Kd.R kCred 42 w' B (fun _ => True) (.slice (some ⟨g, 0, none⟩) 20 cap) (sortCreds l) ∧ Below B w w' := insert_calls w B g cap 20 l hn.symm hR hB (by omega)
  have hL := Lib.hid ((sortCreds_length l).trans hn); have hS := Lib.hid hB; clear hR hn hB; go_enter Tryd.func57, Tryd.ntmps57; go_wp2
  go_loopw [7, 8] (fun v7 v8 w' => (v7 = .int .i64 0 ∧ v8 = .int .i64 20 ∧ w' = w) ∨ (v7 = .int .i64 20 ∧ v8 = .int .i64 40 ∧ Kd.R kCred 42 w' B (fun _ => True) (.slice (some ⟨g, 0, none⟩) 20 cap) (sortCreds l) ∧ Below B w w')) (fun _ v8 _ => (60 - intOf v8).toNat)
  case atStart => exact .inl ⟨rfl, rfl, rfl⟩
  case round =>
    rcases hrel with ⟨rfl, rfl, rfl⟩ | ⟨rfl, rfl, hR3, hB3⟩
    · go_wp2_with (go_at_call 63; refine hi.mono ?_; rintro e w3 ⟨rfl, hR3, hB3⟩)
      go_roundw
      case rel => exact .inr ⟨rfl, rfl, hR3, hB3⟩
      case measure => simp [intOf]
    · have h2 := insert_20 _ B g cap (sortCreds l) hL.out hR3 (Nat.le_trans hS.out hB3.size)
      have HB := Lib.hid hB3; clear hi hR3 hB3
      go_wp2_with (go_at_call 63; refine h2.mono ?_; rintro e w4 ⟨rfl, hR4, hB4⟩)
      have HR := Lib.hid hR4; have HBw := Lib.hid hB4; clear hR4 hB4 h2
      go_loopg [6, 7, 8, 9] 1 (fun kq v6 _ _ _ w' => v6 = .int .i64 20 ∧ w' = w4)
      case atStart => exact ⟨rfl, rfl⟩
      case round =>
        obtain ⟨rfl, rfl⟩ := hrel; go_wp2; go_end0; exact ⟨rfl, HR.out, HB.out.trans HBw.out⟩
theorem stable_calls (w : World) (B : Nat) (g cap n : Nat) (l : List Cred) (hn : n = l.length) (hR : Kd.R kCred 42 w B (fun _ => True) (.slice (some ⟨g, 0, none⟩) n cap) l) (hB : B ≤ w.heap.size) (hl : l.length < 21) : Calls Tryd.prog 57 #[.slice (some ⟨g, 0, none⟩) n cap, .int .i64 n, .func (.func 42) #[] #[]] w fun e w' =>
    e = .returned (.tuple #[]) ∧ Kd.R kCred 42 w' B (fun _ => True) (.slice (some ⟨g, 0, none⟩) n cap) (sortCreds l) ∧ Below B w w' := by
  by_cases h : l.length < 20
  · exact stable_lt w B g cap n l hn hR hB h
  · obtain rfl : n = 20 := by omega
    exact stable_20 w B g cap l hn.symm hR hB
theorem cloned_nil {w : World} {e : Nat} : Kd.R kCred e (w.alloc (.cells #[] e)) w.heap.size (fun _ => True) (.slice (some ⟨w.heap.size, 0, none⟩) 0 0) [] :=
  ⟨fun _ _ => trivial, [], ⟨by simp, .inr ⟨w.heap.size, 0, #[], rfl, Nat.le_refl _, blk_new w _, Nat.le_refl _, Nat.zero_le _, by simp, by simp⟩⟩, Reps.none _ _⟩
theorem infoCred : (Tryd.prog.info? 42).map (fun i => (i.zero, i.size, i.bytes)) = some (some (.agg #[(.int .i64 0), (.int .i64 0), (.string ⟨#[]⟩), (.int .i64 0), (.string ⟨#[]⟩), (.string ⟨#[]⟩), (.string ⟨#[]⟩), (.string ⟨#[]⟩), (.string ⟨#[]⟩)]), 9, 120) := by kernel_rfl
set_option maxRecDepth 100000 in
set_option maxHeartbeats 4000000 in
theorem clone_calls (w : World) (A0 : Option Addr) (c0 n : Nat) (l : List Cred) (hn : n = l.length) (hC : Kd.C kCred w A0 n l) (hl : l.length ≤ 1000000) : Calls Tryd.prog 40 #[.slice A0 n c0] w fun e w' =>
    ∃ v, e = .returned v ∧ Kd.R kCred 42 w' w.heap.size (fun _ => True) v l ∧ Below w.heap.size w w' := by
  have _ := @sortCreds_length
  cases A0 with
  | none =>
    have hl0 : l = [] := by
      rcases Nat.eq_zero_or_pos n with h0 | h0
      · exact List.eq_nil_of_length_eq_zero (by omega)
      · obtain ⟨ad, h, _⟩ := hC.2.2 h0
        cases h
    subst hl0; refine (AnyE.slices_Clone_nil Tryd.cloneCred n c0 w).mono ?_; rintro e w' ⟨rfl, rfl⟩; exact ⟨_, rfl, Kd.R_nil _ _ _ _ _, Below.refl _ _⟩
  | some ad =>
    have q22 : ∀ (W : World) (n c n' c' : Nat), (binOp .eql 22 (.slice (some ad) n c) (.slice none n' c')).run Tryd.prog W = .ok (.bool false) W := fun W n c n' c' => Lib.run_eql_slice_nil W _ _ (some ad) n c n' c' Tryd.underlying22
    have HC := Lib.hid hC; have HL := Lib.hid hl; have HN := Lib.hid hn; clear hC hl hn; go_enter Tryd.func40, Tryd.ntmps40
    go_wp2_with ((with_reducible refine gate_builtin (b := .append) (xs := #[.tmp 5, .tmp 6]) rfl ?_); at_builtin; refine Kd.R_append_rows kCred (Rr := kCred.K w) (w0 := w) w.heap.size rfl (.tmp 5) (.tmp 6) 22 42 (.agg #[(.int .i64 0), (.int .i64 0), (.string ⟨#[]⟩), (.int .i64 0), (.string ⟨#[]⟩), (.string ⟨#[]⟩), (.string ⟨#[]⟩), (.string ⟨#[]⟩), (.string ⟨#[]⟩)]) 120 rfl Tryd.underlying22 infoCred rfl (by decide) (by omega) (.slice (some ⟨w.heap.size, 0, none⟩) 0 0) ([] : List Cred) l (some ad) n c0 (fun _ => True) (fun _ => False) rfl rfl ?aO ?aR (fun x cs h => by rw [k42_open h]; exact k42_mkM _ _ _ x) (fun _ h => h.elim) (fun _ _ => trivial) ?aB ?aS ?aL ?_; (case aO => exact cloned_nil); (case aR => exact Kd.C_alloc HC.out _); (case aB => exact (Qab (Below.refl _ _) _)); (case aS => exact (Qav (Qab (Below.refl _ _) _))); (case aL => (have := HL.out; have := HN.out; simp; omega)); intro v2 w2 ho hb hg hat)
    go_ret; exact ⟨v2, rfl, by simpa using ho, hb⟩
set_option maxRecDepth 100000 in
set_option maxHeartbeats 4000000 in
theorem sortStable_calls (w : World) (B : Nat) (g cap n : Nat) (l : List Cred) (hn : n = l.length) (hR : Kd.R kCred 42 w B (fun _ => True) (.slice (some ⟨g, 0, none⟩) n cap) l) (hB : B ≤ w.heap.size) (hl : l.length < 21) : Calls Tryd.prog 41 #[.slice (some ⟨g, 0, none⟩) n cap, .func (.func 42) #[] #[]] w fun e w' =>
    e = .returned (.tuple #[]) ∧ Kd.R kCred 42 w' B (fun _ => True) (.slice (some ⟨g, 0, none⟩) n cap) (sortCreds l) ∧ Below B w w' := by
  have hi := stable_calls w B g cap n l hn hR hB hl; clear hR hl hn; go_enter Tryd.func41, Tryd.ntmps41
  go_wp2_with (go_at_call 57; refine hi.mono ?_; rintro e w3 ⟨rfl, hR3, hB3⟩)
  go_end0; exact ⟨rfl, hR3, hB3⟩
set_option maxRecDepth 100000 in
set_option maxHeartbeats 4000000 in
theorem stable_none (w : World) (c : Nat) : Calls Tryd.prog 57 #[.slice none 0 c, .int .i64 0, .func (.func 42) #[] #[]] w fun e w' => e = .returned (.tuple #[]) ∧ w' = w := by
  have hi := AnyF.insertionSortCmpFunc_none Tryd.insCred none c (.func (.func 42) #[] #[]) w; change Calls Tryd.prog 63 _ _ _ at hi; go_enter Tryd.func57, Tryd.ntmps57; go_wp2
  go_loopg [7, 8] 1 (fun kq v7 v8 w' => v7 = .int .i64 0 ∧ v8 = .int .i64 20 ∧ w' = w)
  case atStart => exact ⟨rfl, rfl, rfl⟩
  case round =>
    obtain ⟨rfl, rfl, rfl⟩ := hrel
    go_wp2_with (go_at_call 63; refine hi.mono ?_; rintro e w3 ⟨rfl, rfl⟩)
    clear hi
    go_loopg [6, 7, 8, 9] 1 (fun kq v6 _ _ _ w' => v6 = .int .i64 20 ∧ w' = w3)
    case atStart => exact ⟨rfl, rfl⟩
    case round =>
      obtain ⟨rfl, rfl⟩ := hrel; go_wp2; go_end0; exact ⟨rfl, rfl⟩
set_option maxRecDepth 100000 in
set_option maxHeartbeats 4000000 in
theorem sortStable_none (w : World) (c : Nat) : Calls Tryd.prog 41 #[.slice none 0 c, .func (.func 42) #[] #[]] w fun e w' => e = .returned (.tuple #[]) ∧ w' = w := by
  have hi := stable_none w c; go_enter Tryd.func41, Tryd.ntmps41
  go_wp2_with (go_at_call 57; refine hi.mono ?_; rintro e w3 ⟨rfl, rfl⟩)
  go_end0; exact ⟨rfl, rfl⟩
theorem sortStable_any (w : World) (B : Nat) (v : Value) (l : List Cred) (hR : Kd.R kCred 42 w B (fun _ => True) v l) (hB : B ≤ w.heap.size) (hl : l.length < 21) : Calls Tryd.prog 41 #[v, .func (.func 42) #[] #[]] w fun e w' =>
    e = .returned (.tuple #[]) ∧ Kd.R kCred 42 w' B (fun _ => True) v (sortCreds l) ∧ Below B w w' := by
  obtain ⟨A, c, rfl⟩ := Kd.R_slice hR
  cases A with
  | none =>
    have hl0 : l = [] := by
      obtain ⟨_, inner, ⟨_, ho⟩, hr⟩ := hR
      rcases ho with ⟨_, h0⟩ | ⟨g', cap', cur, hv, _⟩
      · exact List.eq_nil_of_length_eq_zero h0
      · cases hv
    subst hl0; refine (sortStable_none w c).mono ?_; rintro e w' ⟨rfl, rfl⟩; have hs : sortCreds [] = [] := List.eq_nil_of_length_eq_zero (by rw [sortCreds_length]; rfl); exact ⟨rfl, by rw [hs]; exact hR, Below.refl _ _⟩
  | some a =>
    obtain ⟨g, off, fr⟩ := a
    have hfr : fr = none ∧ off = 0 := by
      obtain ⟨_, inner, ⟨_, ho⟩, hr⟩ := hR
      rcases ho with ⟨h0, _⟩ | ⟨g', cap', cur, hv, _⟩
      · cases h0
      · simp only [Value.slice.injEq, Option.some.injEq, Addr.mk.injEq] at hv
        exact ⟨hv.1.2.2, hv.1.2.1⟩
    obtain ⟨rfl, rfl⟩ := hfr; exact sortStable_calls w B g c l.length l rfl hR hB hl
def cred_Sorted.f (l0 : List (S42)) : Option (List (S42)) := if l0.length < 21 then some (sortCreds l0) else none
set_option maxRecDepth 100000 in
set_option maxHeartbeats 4000000 in
theorem cred_Sorted.calls (A0 : Option Addr) (c0 : Nat) (l0 : List (S42)) (r : List (S42)) (w : World) (hr0 : Kd.C k42 w A0 l0.length l0) (hc0 : l0.length ≤ c0) (h : cred_Sorted.f l0 = some r) :
    Calls Tryd.prog 31 #[.slice A0 l0.length c0] w fun e w' => ∃ v0_ : Value, e = .returned (v0_) ∧ Kd.R k42 42 w' w.heap.size (fun _ => True) v0_ r ∧ Below w.heap.size w w' := by
  unfold cred_Sorted.f at h
  by_cases hl : l0.length < 21
  · rw [if_pos hl] at h
    obtain rfl := Option.some.inj h; have hcl := clone_calls w A0 c0 l0.length l0 rfl hr0 (by omega); have HL := Lib.hid hl; clear hr0 hc0 h hl; go_enter Tryd.func31, Tryd.ntmps31
    go_wp2_with (first | (go_at_call 40; refine hcl.mono ?_; rintro e w3 ⟨v3, rfl, hR3, hB3⟩) | (go_at_call 41; refine (sortStable_any w3 w.heap.size v3 l0 hR3 hB3.size HL.out).mono ?_; rintro e w4 ⟨rfl, hR4, hB4⟩))
    go_ret; exact ⟨v3, rfl, hR4, hB3.trans hB4⟩
  · rw [if_neg hl] at h
    cases h
end Go.Proofs.YtbjjgaahdnfflaaDoor.Pr
end
section
namespace Go.Proofs.YtbjjgaahdnfflaaDoor
open Go.RowKit
def mayAt (i : Nat) (c : Nat) : Bool := decide (97 ≤ c ∧ c ≤ 122) || (decide (48 ≤ c ∧ c ≤ 57) && decide (i ≠ 0))
def mayUpto (s : ByteArray) : Nat → Bool
  | 0 => true
  | n + 1 => mayUpto s n && mayAt n (s.data.getD n 0).toNat
def mayName (s : ByteArray) : Bool := mayUpto s s.size && decide (0 < s.size) && decide (s.size ≤ 8)
theorem may_stop (s : ByteArray) (i : Nat) (h : mayAt i (s.data.getD i 0).toNat = false) : ∀ n, i < n → mayUpto s n = false
  | n + 1, hn => by
    rw [mayUpto]
    by_cases e : i = n
    · subst e
      rw [h, Bool.and_false]
    · rw [may_stop s i h n (by omega), Bool.false_and]
theorem may_byte (s : ByteArray) (i : Nat) (h : i < s.size) : (s.data.getD i 0).toNat = (s[i]'h).toNat := by
  have : s.data.getD i 0 = s.data[i]'h := by simp [Array.getD, h]
  rw [this]; rfl
theorem may_next (s : ByteArray) (pos : Nat) (h : pos < s.size) : ∃ d wd : Nat, (∀ (P : Program) (w : World) (ty : TypeId), (Instr.next (.pointer (some ⟨w.heap.size, 0, none⟩)) true ty).run P (w.iter s pos) = .ok (.tuple #[.bool true, .int .i64 pos, .int .i32 (d : Int)]) (w.iter s (pos + wd))) ∧
    d ≤ 2147483647 ∧ (d < 128 → wd = 1 ∧ (s.data.getD pos 0).toNat = d) ∧ (128 ≤ d → 128 ≤ (s.data.getD pos 0).toNat) := by
  rw [may_byte s pos h]
  by_cases ha : (s[pos]'h).toNat < 128
  · exact ⟨(s[pos]'h).toNat, 1, fun P w ty => run_next_ascii w s pos ty h ha, by omega, fun _ => ⟨rfl, rfl⟩, fun _ => by omega⟩
  · have hd := (decode_high s pos h (by omega)).1
    exact ⟨(Utf8.decode s pos).1, (Utf8.decode s pos).2, fun P w ty => run_next_any w s pos ty h, decode_le s pos, fun _ => by omega, fun _ => by omega⟩
theorem may_yes {s : ByteArray} {pos d : Nat} (hm : mayUpto s pos = true) (hd : (s.data.getD pos 0).toNat = d) (h : mayAt pos d = true) : mayUpto s (pos + 1) = true := by
  rw [mayUpto, hm, hd, h]; rfl
theorem may_no {s : ByteArray} {pos d : Nat} (hp : pos < s.size) (hd1 : d < 128 → (s.data.getD pos 0).toNat = d) (hd2 : 128 ≤ d → 128 ≤ (s.data.getD pos 0).toNat) (h : d < 128 → mayAt pos d = false) : mayName s = false := by
  have h3 : mayAt pos (s.data.getD pos 0).toNat = false := by
    by_cases hd : d < 128
    · rw [hd1 hd]
      exact h hd
    · have := hd2 (by omega)
      unfold mayAt; rw [decide_eq_false (by omega), decide_eq_false (by omega)]; rfl
  rw [mayName, may_stop s pos h3 s.size hp]; rfl
theorem may_empty (s : ByteArray) : s.toList.isEmpty = decide (s.size = 0) := by
  rw [← decide_eq_emptyBytes s]
  apply decide_eq_decide.2
  constructor
  · rintro rfl
    rfl
  · intro h
    apply ByteArray.ext
    apply Array.eq_empty_of_size_eq_zero
    exact h
theorem may_at_letter {pos d : Nat} (h : 97 ≤ d) (h' : d ≤ 122) : mayAt pos d = true := by unfold mayAt; rw [decide_eq_true ⟨h, h'⟩]; rfl
theorem may_at_digit {pos d : Nat} (h : 48 ≤ d) (h' : d ≤ 57) (hp : pos ≠ 0) : mayAt pos d = true := by unfold mayAt; rw [decide_eq_true (p := 48 ≤ d ∧ d ≤ 57) ⟨h, h'⟩, decide_eq_true hp]; simp
theorem may_at_none {pos d : Nat} (h : d < 97 ∨ 122 < d) (h' : (d < 48 ∨ 57 < d) ∨ pos = 0) : mayAt pos d = false := by
  unfold mayAt; rw [decide_eq_false (by omega)]
  rcases h' with h' | h'
  · rw [decide_eq_false (by omega)]
    rfl
  · rw [h']
    simp
set_option maxRecDepth 100000 in
set_option maxHeartbeats 1000000 in
theorem may_walk (s : ByteArray) (w : World) (hs : s.size ≤ maxLen) : Calls Tryd.prog 46 #[.string s] w fun e w' => e = .returned (.bool (mayName s)) ∧ Below w.heap.size w w' := by
  unfold maxLen at hs; go_enter Tryd.func46, Tryd.ntmps46; go_wp2
  go_loopw [3, 4, 5, 6] (fun _ _ _ _ w' => ∃ pos : Nat, w' = w.iter s pos ∧ pos ≤ s.size ∧ mayUpto s pos = true) (fun _ _ _ _ w' => s.size - w'.iterPos w.heap.size)
  case atStart => exact ⟨0, rfl, Nat.zero_le _, rfl⟩
  case round =>
    obtain ⟨pos, rfl, hle, hm⟩ := hrel; have HM := Lib.hid hm; clear hm
    have hB : ∀ p, Below w.heap.size w (w.iter s p) := fun p => (Below.refl _ _).alloc (Nat.le_refl _) _
    by_cases hp : pos < s.size
    · obtain ⟨d, wd, hnx0, hd1, hd2, hd3⟩ := may_next s pos hp
      have hnx := fun ty => hnx0 Tryd.prog w ty
      have HD2 := Lib.hid hd2; have HD3 := Lib.hid hd3; clear hnx0 hd2 hd3
      by_cases c1 : 97 ≤ d
      · by_cases c2 : d ≤ 122
        · have c7 : 48 ≤ d := by omega
          have a1 : decide ((97 : Int) ≤ (d : Int)) = true := decide_eq_true (by omega); have a2 : decide ((d : Int) ≤ 122) = true := decide_eq_true (by omega); have a3 : decide ((48 : Int) ≤ (d : Int)) = true := decide_eq_true (by omega); have a4 : decide ((d : Int) ≤ 57) = false := decide_eq_false (by omega); go_wp2
          go_roundw
          case rel => exact ⟨pos + wd, rfl, by have := HD2.out (by omega); omega, by rw [(HD2.out (by omega)).1]; exact may_yes HM.out (HD2.out (by omega)).2 (may_at_letter c1 c2)⟩
          case measure =>
            have := (HD2.out (by omega)).1; simp; omega
        · have hno := may_no hp (fun h => (HD2.out h).2) HD3.out (fun _ => may_at_none (by omega) (by omega))
          have HN := Lib.hid hno; clear hno; have a1 : decide ((97 : Int) ≤ (d : Int)) = true := decide_eq_true (by omega); have a2 : decide ((d : Int) ≤ 122) = false := decide_eq_false (by omega); have a3 : decide ((48 : Int) ≤ (d : Int)) = true := decide_eq_true (by omega); have a4 : decide ((d : Int) ≤ 57) = false := decide_eq_false (by omega); go_wp2; go_ret; exact ⟨by rw [HN.out]; rfl, hB _⟩
      · by_cases c3 : 48 ≤ d
        · by_cases c4 : d ≤ 57
          · by_cases c5 : pos = 0
            · have hno := may_no hp (fun h => (HD2.out h).2) HD3.out (fun _ => may_at_none (by omega) (.inr c5))
              have HN := Lib.hid hno; clear hno; have c6 : ((pos : Int) == 0) = true := beq_iff_eq.2 (by omega); have C5 := Lib.hid c5; clear c5; have a1 : decide ((97 : Int) ≤ (d : Int)) = false := decide_eq_false (by omega); have a2 : decide ((d : Int) ≤ 122) = true := decide_eq_true (by omega); have a3 : decide ((48 : Int) ≤ (d : Int)) = true := decide_eq_true (by omega); have a4 : decide ((d : Int) ≤ 57) = true := decide_eq_true (by omega); go_wp2; go_ret; exact ⟨by rw [HN.out]; rfl, hB _⟩
            · have c6 : ((pos : Int) == 0) = false := beq_eq_false_iff_ne.2 (by omega)
              have a1 : decide ((97 : Int) ≤ (d : Int)) = false := decide_eq_false (by omega); have a2 : decide ((d : Int) ≤ 122) = true := decide_eq_true (by omega); have a3 : decide ((48 : Int) ≤ (d : Int)) = true := decide_eq_true (by omega); have a4 : decide ((d : Int) ≤ 57) = true := decide_eq_true (by omega); go_wp2
              go_roundw
              case rel => exact ⟨pos + wd, rfl, by have := HD2.out (by omega); omega, by rw [(HD2.out (by omega)).1]; exact may_yes HM.out (HD2.out (by omega)).2 (may_at_digit c3 c4 c5)⟩
              case measure =>
                have := (HD2.out (by omega)).1; simp; omega
          · have hno := may_no hp (fun h => (HD2.out h).2) HD3.out (fun _ => may_at_none (by omega) (by omega))
            have HN := Lib.hid hno; clear hno; have a1 : decide ((97 : Int) ≤ (d : Int)) = false := decide_eq_false (by omega); have a2 : decide ((d : Int) ≤ 122) = true := decide_eq_true (by omega); have a3 : decide ((48 : Int) ≤ (d : Int)) = true := decide_eq_true (by omega); have a4 : decide ((d : Int) ≤ 57) = false := decide_eq_false (by omega); go_wp2; go_ret; exact ⟨by rw [HN.out]; rfl, hB _⟩
        · have hno := may_no hp (fun h => (HD2.out h).2) HD3.out (fun _ => may_at_none (by omega) (by omega))
          have HN := Lib.hid hno; clear hno; have a1 : decide ((97 : Int) ≤ (d : Int)) = false := decide_eq_false (by omega); have a2 : decide ((d : Int) ≤ 122) = true := decide_eq_true (by omega); have a3 : decide ((48 : Int) ≤ (d : Int)) = false := decide_eq_false (by omega); have a4 : decide ((d : Int) ≤ 57) = true := decide_eq_true (by omega); go_wp2; go_ret; exact ⟨by rw [HN.out]; rfl, hB _⟩
    · obtain rfl : pos = s.size := by omega
      have hnx : ∀ ty, (Instr.next (.pointer (some ⟨w.heap.size, 0, none⟩)) true ty).run Tryd.prog (w.iter s s.size) = _ := fun ty => run_next_end w s s.size ty hp
      have he := may_empty s; have HE := Lib.hid he; clear he
      by_cases h0 : s.size = 0
      · have h1 : s.toList.isEmpty = true := by rw [HE.out]; exact decide_eq_true h0
        have hno : mayName s = false := by rw [mayName, decide_eq_false (p := 0 < s.size) (by omega)]; simp
        have HN := Lib.hid hno; have H0 := Lib.hid h0; clear hno h0; go_wp2; go_ret; exact ⟨by rw [HN.out]; rfl, hB _⟩
      · have h1 : s.toList.isEmpty = false := by rw [HE.out]; exact decide_eq_false h0
        have hyes : mayName s = decide ((s.size : Int) ≤ 8) := by
          rw [mayName, HM.out, decide_eq_true (p := 0 < s.size) (by omega)]; simp only [Bool.true_and]
          apply decide_eq_decide.2
          omega
        have HN := Lib.hid hyes; clear hyes; go_wp2
        all_goals
          go_ret; exact ⟨by rw [HN.out]; rfl, hB _⟩
end Go.Proofs.YtbjjgaahdnfflaaDoor
end
section
namespace Go.Proofs.YtbjjgaahdnfflaaDoor.Pr
open Go.RowKit Go.Proofs.YtbjjgaahdnfflaaDoorW.PrintWords Go.Proofs.YtbjjgaahdnfflaaDoorW.PrintLast Go.Proofs.YtbjjgaahdnfflaaDoorW.PrintMore
attribute [local go_sem] max2_int min2_int max_two min_two max_three min_three max_four min_four
set_option linter.unusedVariables false
set_option linter.unusedSimpArgs false
def names_May.f (a0 : ByteArray) : Option Bool := if a0.size ≤ maxLen then some (mayName a0) else none
theorem names_May.calls (a0 : ByteArray) (r : Bool) (w : World) (h : names_May.f a0 = some r) :
    Calls Tryd.prog 46 #[.string a0] w fun e w' => e = .returned (.bool r) ∧ Below w.heap.size w w' := by
  unfold names_May.f at h
  split at h
  · rename_i hs
    obtain rfl := Option.some.inj h; exact may_walk a0 w hs
  · cases h
def names_Role.f (k : Nat) (a0_0 : ByteArray) (a0_1 : ByteArray) : Option (Bool) := (names_Number.f k a0_0).bind fun t102 => (if t102 > 0 then ((names_May.f a0_1).bind fun t103 => (some t103)) else (some false))
set_option maxHeartbeats 8000000 in
set_option maxRecDepth 100000 in
theorem names_Role.calls (k : Nat) (a0_0 : ByteArray) (a0_1 : ByteArray) (r : Bool) (w : World) (h : names_Role.f k a0_0 a0_1 = some r) :
  Calls Tryd.prog 47 #[.agg #[.string a0_0, .string a0_1]] w fun e w' => e = .returned (.bool r) ∧ Below w.heap.size w w' := by
 have hu24 := Tryd.underlying24; have HB := Qad.mk (Below.refl w.heap.size w); have H : ((names_Number.f k a0_0).bind fun t102 => (if t102 > 0 then ((names_May.f a0_1).bind fun t103 => (some t103)) else (some false))) = some r := h; clear h; replace H := Option.bind_eq_some_iff.mp H; obtain ⟨t102, A20, H⟩ := H; replace H : (if t102 > 0 then ((names_May.f a0_1).bind fun t103 => (some t103)) else (some false)) = some r := H; have A2 := Qad.mk A20; clear A20
 by_cases c3 : t102 > 0
 ·rw [if_pos c3] at H; have c3b0 : decide (0 < t102) = true := decide_eq_true c3; clear c3; replace H := Option.bind_eq_some_iff.mp H; obtain ⟨t103, A40, H⟩ := H; replace H : (some t103) = some r := H; have A4 := Qad.mk A40; clear A40; obtain rfl := Option.some.inj H; go_enter Tryd.func47, Tryd.ntmps47
  go_wp2_with (first | ((with_reducible refine gate_dst (N := 1) rfl ?_); refine box_event ?hg (N := 1) ?hd (cs := #[.string a0_0, .string a0_1]) (t := 24) ?hr ?_; (case hd => rfl); (case hg => rfl); (case hr => first | (go_simp; done) | (go_simp; rfl)); intro gb101 hg w5 hbox hb; have n0_ := Qad.mk (Qaf (by repeat (first | (with_reducible first | exact HB.out | apply Qab | apply Qaa | apply Qac) | exact HB.out)) hb); have n1_ := Qad.mk (hbox); have n2_ := Qad.mk ((by rw [hg]; exact (Qav (by repeat (first | (with_reducible first | exact HB.out | apply Qab | apply Qaa | apply Qac) | exact HB.out))) : w.heap.size ≤ gb101)); have n3_ := n2_; clear HB; have HB := n0_; have BK101 := n1_; have GW101 := n2_; have GE101 := n3_; clear n0_ n1_ n2_ n3_; clear hb hbox hg; obtain ⟨hcz6_0, hcz6_1⟩ := cz_ss BK101.out; obtain ⟨hfz6_0, hfz6_1⟩ := fz_2 BK101.out) | ((with_reducible refine gate_callee (f := 60) rfl ?_); refine goesL_ (some 5) rfl rfl Tryd.func60 (by kernel_rfl) rfl #[.string a0_0] rfl (by (try simp only [List.map_toArray, List.map_cons, List.map_nil]); first | done | rfl | (simp only [List.length_drop, List.length_take]; rfl)) ?_; (with_reducible refine (names_Number.calls k a0_0 t102 _ A2.out).mono ?_); rintro e w' ⟨rfl, ⟨nd, rfl⟩⟩; refine ⟨_, rfl, ?_⟩) | (go_at_call 46; (with_reducible refine (names_May.calls a0_1 t103 _ A4.out).mono ?_); rintro e w7 ⟨rfl, hb⟩; have n0_ := Qad.mk (Qae (g := gb101) (o := ob_ss a0_0 a0_1 24) (by (with_reducible repeat (first | refine Qah ?_ _ | refine Qak ?_ | refine Qag ?_ _)); exact BK101.out) hb); have n1_ := Qad.mk (Qaf (by repeat (first | (with_reducible first | exact HB.out | apply Qab | apply Qaa | apply Qac | refine Qaj ?_ GE101.out) | exact HB.out)) hb); clear BK101; clear HB; have BK101 := n0_; have HB := n1_; clear n0_ n1_; (try clear hb); (try clear hb2); (try clear hk); (try clear hi)))
  go_ret; exact ⟨by first | rfl | (simp [Qau, Qat] <;> rfl) | (simp [*, Qau, Qat] <;> rfl), by repeat (first | (with_reducible first | exact HB.out | apply Qab | apply Qaa | apply Qac | refine Qaj ?_ GE101.out) | exact HB.out)⟩
 ·rw [if_neg c3] at H; have c3b0 : decide (0 < t102) = false := decide_eq_false c3; clear c3; obtain rfl := Option.some.inj H; go_enter Tryd.func47, Tryd.ntmps47
  go_wp2_with (first | ((with_reducible refine gate_dst (N := 1) rfl ?_); refine box_event ?hg (N := 1) ?hd (cs := #[.string a0_0, .string a0_1]) (t := 24) ?hr ?_; (case hd => rfl); (case hg => rfl); (case hr => first | (go_simp; done) | (go_simp; rfl)); intro gb101 hg w8 hbox hb; have n0_ := Qad.mk (Qaf (by repeat (first | (with_reducible first | exact HB.out | apply Qab | apply Qaa | apply Qac) | exact HB.out)) hb); have n1_ := Qad.mk (hbox); have n2_ := Qad.mk ((by rw [hg]; exact (Qav (by repeat (first | (with_reducible first | exact HB.out | apply Qab | apply Qaa | apply Qac) | exact HB.out))) : w.heap.size ≤ gb101)); have n3_ := n2_; clear HB; have HB := n0_; have BK101 := n1_; have GW101 := n2_; have GE101 := n3_; clear n0_ n1_ n2_ n3_; clear hb hbox hg; obtain ⟨hcz9_0, hcz9_1⟩ := cz_ss BK101.out; obtain ⟨hfz9_0, hfz9_1⟩ := fz_2 BK101.out) | ((with_reducible refine gate_callee (f := 60) rfl ?_); refine goesL_ (some 5) rfl rfl Tryd.func60 (by kernel_rfl) rfl #[.string a0_0] rfl (by (try simp only [List.map_toArray, List.map_cons, List.map_nil]); first | done | rfl | (simp only [List.length_drop, List.length_take]; rfl)) ?_; (with_reducible refine (names_Number.calls k a0_0 t102 _ A2.out).mono ?_); rintro e w' ⟨rfl, ⟨nd, rfl⟩⟩; refine ⟨_, rfl, ?_⟩))
  go_ret; exact ⟨by first | rfl | (simp [Qau, Qat] <;> rfl) | (simp [*, Qau, Qat] <;> rfl), by repeat (first | (with_reducible first | exact HB.out | apply Qab | apply Qaa | apply Qac | refine Qaj ?_ GE101.out) | exact HB.out)⟩
def cred_bare.f (a0_0 : ByteArray) (a0_1 : ByteArray) : Option (Bool) := if a0_0.toList = ([] : List UInt8) then ((names_May.f a0_1).bind fun t102 => (some t102)) else (some false)
set_option maxHeartbeats 8000000 in
set_option maxRecDepth 100000 in
theorem cred_bare.calls (a0_0 : ByteArray) (a0_1 : ByteArray) (r : Bool) (w : World) (h : cred_bare.f a0_0 a0_1 = some r) :
  Calls Tryd.prog 48 #[.agg #[.string a0_0, .string a0_1]] w fun e w' => e = .returned (.bool r) ∧ Below w.heap.size w w' := by
 have hu24 := Tryd.underlying24; have HB := Qad.mk (Below.refl w.heap.size w); have H : (if a0_0.toList = ([] : List UInt8) then ((names_May.f a0_1).bind fun t102 => (some t102)) else (some false)) = some r := h; clear h
 by_cases c2 : a0_0.toList = ([] : List UInt8)
 ·rw [if_pos c2] at H; have c2b0 : (a0_0.toList == ([] : List UInt8)) = true := beq_iff_eq.mpr c2; have c2b1 : (a0_0.toList != ([] : List UInt8)) = false := bne_eq_false_iff_eq.mpr c2; clear c2; replace H := Option.bind_eq_some_iff.mp H; obtain ⟨t102, A30, H⟩ := H; replace H : (some t102) = some r := H; have A3 := Qad.mk A30; clear A30; obtain rfl := Option.some.inj H; go_enter Tryd.func48, Tryd.ntmps48
  go_wp2_with (first | ((with_reducible refine gate_dst (N := 1) rfl ?_); refine box_event ?hg (N := 1) ?hd (cs := #[.string a0_0, .string a0_1]) (t := 24) ?hr ?_; (case hd => rfl); (case hg => rfl); (case hr => first | (go_simp; done) | (go_simp; rfl)); intro gb101 hg w4 hbox hb; have n0_ := Qad.mk (Qaf (by repeat (first | (with_reducible first | exact HB.out | apply Qab | apply Qaa | apply Qac) | exact HB.out)) hb); have n1_ := Qad.mk (hbox); have n2_ := Qad.mk ((by rw [hg]; exact (Qav (by repeat (first | (with_reducible first | exact HB.out | apply Qab | apply Qaa | apply Qac) | exact HB.out))) : w.heap.size ≤ gb101)); have n3_ := n2_; clear HB; have HB := n0_; have BK101 := n1_; have GW101 := n2_; have GE101 := n3_; clear n0_ n1_ n2_ n3_; clear hb hbox hg; obtain ⟨hcz5_0, hcz5_1⟩ := cz_ss BK101.out; obtain ⟨hfz5_0, hfz5_1⟩ := fz_2 BK101.out) | (go_at_call 46; (with_reducible refine (names_May.calls a0_1 t102 _ A3.out).mono ?_); rintro e w6 ⟨rfl, hb⟩; have n0_ := Qad.mk (Qae (g := gb101) (o := ob_ss a0_0 a0_1 24) (by (with_reducible repeat (first | refine Qah ?_ _ | refine Qak ?_ | refine Qag ?_ _)); exact BK101.out) hb); have n1_ := Qad.mk (Qaf (by repeat (first | (with_reducible first | exact HB.out | apply Qab | apply Qaa | apply Qac | refine Qaj ?_ GE101.out) | exact HB.out)) hb); clear BK101; clear HB; have BK101 := n0_; have HB := n1_; clear n0_ n1_; (try clear hb); (try clear hb2); (try clear hk); (try clear hi)))
  go_ret; exact ⟨by first | rfl | (simp [Qau, Qat] <;> rfl) | (simp [*, Qau, Qat] <;> rfl), by repeat (first | (with_reducible first | exact HB.out | apply Qab | apply Qaa | apply Qac | refine Qaj ?_ GE101.out) | exact HB.out)⟩
 ·rw [if_neg c2] at H; have c2b0 : (a0_0.toList == ([] : List UInt8)) = false := beq_eq_false_iff_ne.mpr c2; have c2b1 : (a0_0.toList != ([] : List UInt8)) = true := bne_iff_ne.mpr c2; obtain rfl := Option.some.inj H; go_enter Tryd.func48, Tryd.ntmps48
  go_wp2_with (first | ((with_reducible refine gate_dst (N := 1) rfl ?_); refine box_event ?hg (N := 1) ?hd (cs := #[.string a0_0, .string a0_1]) (t := 24) ?hr ?_; (case hd => rfl); (case hg => rfl); (case hr => first | (go_simp; done) | (go_simp; rfl)); intro gb101 hg w7 hbox hb; have n0_ := Qad.mk (Qaf (by repeat (first | (with_reducible first | exact HB.out | apply Qab | apply Qaa | apply Qac) | exact HB.out)) hb); have n1_ := Qad.mk (hbox); have n2_ := Qad.mk ((by rw [hg]; exact (Qav (by repeat (first | (with_reducible first | exact HB.out | apply Qab | apply Qaa | apply Qac) | exact HB.out))) : w.heap.size ≤ gb101)); have n3_ := n2_; clear HB; have HB := n0_; have BK101 := n1_; have GW101 := n2_; have GE101 := n3_; clear n0_ n1_ n2_ n3_; clear hb hbox hg; obtain ⟨hcz8_0, hcz8_1⟩ := cz_ss BK101.out; obtain ⟨hfz8_0, hfz8_1⟩ := fz_2 BK101.out))
  go_ret; exact ⟨by first | rfl | (simp [Qau, Qat] <;> rfl) | (simp [*, Qau, Qat] <;> rfl), by repeat (first | (with_reducible first | exact HB.out | apply Qab | apply Qaa | apply Qac | refine Qaj ?_ GE101.out) | exact HB.out)⟩
end Go.Proofs.YtbjjgaahdnfflaaDoor.Pr
end
section
namespace Go.Proofs.YtbjjgaahdnfflaaDoor.Pr
open Go.RowKit Go.Proofs.YtbjjgaahdnfflaaDoorW.PrintWords Go.Proofs.YtbjjgaahdnfflaaDoorW.PrintLast Go.Proofs.YtbjjgaahdnfflaaDoorW.PrintMore
set_option linter.unusedVariables false
set_option linter.unusedSimpArgs false
attribute [local go_sem high] eqA24
def noText (s : ByteArray) : Bool := s.toList == ([] : List UInt8)
def noRole (r : Role) : Bool := noText r.f0 && noText r.f1
def and3 (x : Option Bool) (y z : Option Bool) : Option Bool := x.bind fun b => if b = true then (y.bind fun d => if d = true then z else some false) else some false
def mayKind (c : Cred) : Option Bool :=
  if c.f2 = 1 then and3 (names_May.f c.f3) (some (noRole c.f4)) (some (noRole c.f5))
  else if c.f2 = 2 then and3 (names_Role.f 20 c.f4.f0 c.f4.f1) (some (noRole c.f5)) (some (noText c.f3))
  else if c.f2 = 3 then and3 (cred_bare.f c.f4.f0 c.f4.f1) (cred_bare.f c.f5.f0 c.f5.f1) (some (noText c.f3))
  else if c.f2 = 4 then and3 (names_Role.f 20 c.f4.f0 c.f4.f1) (names_Role.f 20 c.f5.f0 c.f5.f1) (some (noText c.f3))
  else some false
def mayF (c : Cred) : Option Bool :=
  if noText (domName c.f0.f0) = true then some false else if c.f0.f1 < 1 then some false else if c.f0.f1 > 4000 then some false else (names_May.f c.f1).bind fun m => if m = true then mayKind c else some false
theorem noText_f {s : ByteArray} (h : noText s = false) : (s.toList == ([] : List UInt8)) = false ∧ decide (s.toList = ([] : List UInt8)) = false := by
  unfold noText at h; exact ⟨h, by rw [beq_eq_false_iff_ne] at h; exact decide_eq_false h⟩
theorem noText_t {s : ByteArray} (h : noText s = true) : (s.toList == ([] : List UInt8)) = true ∧ s.toList = ([] : List UInt8) := by
  unfold noText at h; exact ⟨h, beq_iff_eq.mp h⟩
theorem noRole_any (r : Role) : (∃ x y, noRole r = (x && y) ∧ (r.f0.toList == ([] : List UInt8)) = x ∧ (r.f1.toList == ([] : List UInt8)) = y) := ⟨_, _, rfl, rfl, rfl⟩
set_option maxRecDepth 100000 in
set_option maxHeartbeats 8000000 in
theorem mayC_walk (w : World) (c : Cred) (r : Bool) (h : mayF c = some r) : Calls Tryd.prog 32 #[encCred c] w fun e w' => e = .returned (.bool r) ∧ Below w.heap.size w w' := by
  unfold mayF at h; unfold encCred; go_enter Tryd.func32, Tryd.ntmps32
  go_upto_region 1 with fail
  change Code.wp _ _ _ _ (w.alloc (credObj c))
  generalize hW : w.alloc (credObj c) = W
  obtain ⟨HB, BC⟩ := boxed1 hW; obtain ⟨c0, c1, c2, c3, c4, c5, c6, c7, c8⟩ := credCells BC; clear hW; cases e0 : noText (domName c.f0.f0)
  · rw [e0, if_neg (by decide)] at h
    obtain ⟨d0, d1⟩ := noText_f e0; clear e0
    by_cases e1 : c.f0.f1 < 1
    · rw [if_pos e1] at h
      obtain rfl := Option.some.inj h; have d2 : decide (c.f0.f1 < 1) = true := decide_eq_true e1; clear h e1
      go_wp2_with (go_at_call 45; refine (domain_walk _ _).mono ?_; rintro e w' ⟨rfl, rfl⟩)
      go_ret; exact ⟨rfl, HB⟩
    · rw [if_neg e1] at h
      have d2 : decide (c.f0.f1 < 1) = false := decide_eq_false e1; clear e1
      by_cases e1 : c.f0.f1 > 4000
      · rw [if_pos e1] at h
        obtain rfl := Option.some.inj h; have d3 : decide (4000 < c.f0.f1) = true := decide_eq_true e1; clear h e1
        go_wp2_with (go_at_call 45; refine (domain_walk _ _).mono ?_; rintro e w' ⟨rfl, rfl⟩)
        go_ret; exact ⟨rfl, HB⟩
      · rw [if_neg e1] at h
        have d3 : decide (4000 < c.f0.f1) = false := decide_eq_false e1; clear e1; obtain ⟨m, hm, h⟩ := Option.bind_eq_some_iff.mp h; have HM := Lib.hid hm; cases m
        · obtain rfl := Option.some.inj h
          clear h hm
          go_wp2_with (first | (go_at_call 45; refine (domain_walk _ _).mono ?_; rintro e w' ⟨rfl, rfl⟩) | (go_at_call 46; refine (names_May.calls _ _ _ HM.out).mono ?_; rintro e w3 ⟨rfl, hB3⟩))
          go_ret; exact ⟨rfl, Qaf HB hB3⟩
        · rw [if_pos rfl] at h
          have HH := Lib.hid h; clear h hm
          go_upto_region 3 with (first | (go_at_call 45; refine (domain_walk _ _).mono ?_; rintro e w' ⟨rfl, rfl⟩) | (go_at_call 46; refine (names_May.calls _ _ _ HM.out).mono ?_; rintro e w3 ⟨rfl, hB3⟩))
          have HB3 := Qaf HB hB3; have BC3 := Qae BC hB3; clear c0 c1 c2 c3 c4 c5 c6 c7 c8 HB BC hB3 d0 d1 d2 d3
          go_upto_region 4 with fail
          change Code.wp _ _ _ _ (w3.alloc (roleObj2 ⟨⟨#[]⟩, ⟨#[]⟩⟩)); have HB4 := Qab HB3 (roleObj2 ⟨⟨#[]⟩, ⟨#[]⟩⟩); have BC4 := Qag BC3 (roleObj2 ⟨⟨#[]⟩, ⟨#[]⟩⟩); have BN := blk_new w3 (roleObj2 ⟨⟨#[]⟩, ⟨#[]⟩⟩); clear HB3 BC3
          generalize w3.heap.size = k3 at BN ⊢
          generalize w3.alloc (roleObj2 ⟨⟨#[]⟩, ⟨#[]⟩⟩) = X at HB4 BC4 BN ⊢
          obtain ⟨c0, c1, c2, c3, c4, c5, c6, c7, c8⟩ := credCells BC4; obtain ⟨z0, z1⟩ := roleCells2 BN; have h := HH.out; unfold mayKind at h; clear HH
          by_cases k1 : c.f2 = 1
          · rw [if_pos k1] at h
            have d1 : (c.f2 == 1) = true := beq_iff_eq.mpr k1; clear k1; unfold and3 at h; obtain ⟨b, hb, h⟩ := Option.bind_eq_some_iff.mp h; have HA := Lib.hid hb; clear hb; cases b
            · obtain rfl := Option.some.inj h
              clear h
              go_wp2_with (first | (go_at_call 46; (with_reducible refine (names_May.calls _ _ _ HA.out).mono ?_); rintro e w5 ⟨rfl, hB5⟩; have HB5 := Qaf HB4 hB5; have BC5 := Qae BC4 hB5; have BN5 := Qae BN hB5; obtain ⟨c0, c1, c2, c3, c4, c5, c6, c7, c8⟩ := credCells BC5; obtain ⟨z0, z1⟩ := roleCells2 BN5))
              go_ret; exact ⟨rfl, HB5⟩
            rw [if_pos rfl] at h; rw [Option.bind_some] at h; obtain ⟨x4, y4, e4, hx4, hy4⟩ := noRole_any c.f4; rw [e4] at h; clear e4; obtain ⟨x5, y5, e5, hx5, hy5⟩ := noRole_any c.f5; rw [e5] at h; clear e5; cases x4
            · obtain rfl : false = r := Option.some.inj h
              clear h
              go_wp2_with (first | (go_at_call 46; (with_reducible refine (names_May.calls _ _ _ HA.out).mono ?_); rintro e w5 ⟨rfl, hB5⟩; have HB5 := Qaf HB4 hB5; have BC5 := Qae BC4 hB5; have BN5 := Qae BN hB5; obtain ⟨c0, c1, c2, c3, c4, c5, c6, c7, c8⟩ := credCells BC5; obtain ⟨z0, z1⟩ := roleCells2 BN5))
              go_ret; exact ⟨rfl, HB5⟩
            cases y4
            · obtain rfl : false = r := Option.some.inj h
              clear h
              go_wp2_with (first | (go_at_call 46; (with_reducible refine (names_May.calls _ _ _ HA.out).mono ?_); rintro e w5 ⟨rfl, hB5⟩; have HB5 := Qaf HB4 hB5; have BC5 := Qae BC4 hB5; have BN5 := Qae BN hB5; obtain ⟨c0, c1, c2, c3, c4, c5, c6, c7, c8⟩ := credCells BC5; obtain ⟨z0, z1⟩ := roleCells2 BN5))
              go_ret; exact ⟨rfl, HB5⟩
            cases x5
            · obtain rfl : false = r := Option.some.inj h
              clear h
              go_wp2_with (first | (go_at_call 46; (with_reducible refine (names_May.calls _ _ _ HA.out).mono ?_); rintro e w5 ⟨rfl, hB5⟩; have HB5 := Qaf HB4 hB5; have BC5 := Qae BC4 hB5; have BN5 := Qae BN hB5; obtain ⟨c0, c1, c2, c3, c4, c5, c6, c7, c8⟩ := credCells BC5; obtain ⟨z0, z1⟩ := roleCells2 BN5))
              go_ret; exact ⟨rfl, HB5⟩
            cases y5
            · obtain rfl : false = r := Option.some.inj h
              clear h
              go_wp2_with (first | (go_at_call 46; (with_reducible refine (names_May.calls _ _ _ HA.out).mono ?_); rintro e w5 ⟨rfl, hB5⟩; have HB5 := Qaf HB4 hB5; have BC5 := Qae BC4 hB5; have BN5 := Qae BN hB5; obtain ⟨c0, c1, c2, c3, c4, c5, c6, c7, c8⟩ := credCells BC5; obtain ⟨z0, z1⟩ := roleCells2 BN5))
              go_ret; exact ⟨rfl, HB5⟩
            obtain rfl : true = r := Option.some.inj h; clear h
            go_wp2_with (first | (go_at_call 46; (with_reducible refine (names_May.calls _ _ _ HA.out).mono ?_); rintro e w5 ⟨rfl, hB5⟩; have HB5 := Qaf HB4 hB5; have BC5 := Qae BC4 hB5; have BN5 := Qae BN hB5; obtain ⟨c0, c1, c2, c3, c4, c5, c6, c7, c8⟩ := credCells BC5; obtain ⟨z0, z1⟩ := roleCells2 BN5))
            go_ret; exact ⟨rfl, HB5⟩
          · rw [if_neg k1] at h
            have d1 : (c.f2 == 1) = false := beq_eq_false_iff_ne.mpr k1; clear k1
            by_cases k2 : c.f2 = 2
            · rw [if_pos k2] at h
              have d2 : (c.f2 == 2) = true := beq_iff_eq.mpr k2; clear k2; unfold and3 at h; obtain ⟨b, hb, h⟩ := Option.bind_eq_some_iff.mp h; have HA := Lib.hid hb; clear hb; cases b
              · obtain rfl := Option.some.inj h
                clear h
                go_wp2_with (first | (go_at_call 47; (with_reducible refine (names_Role.calls 20 _ _ _ _ HA.out).mono ?_); rintro e w5 ⟨rfl, hB5⟩; have HB5 := Qaf HB4 hB5; have BC5 := Qae BC4 hB5; have BN5 := Qae BN hB5; obtain ⟨c0, c1, c2, c3, c4, c5, c6, c7, c8⟩ := credCells BC5; obtain ⟨z0, z1⟩ := roleCells2 BN5))
                go_ret; exact ⟨rfl, HB5⟩
              rw [if_pos rfl] at h; rw [Option.bind_some] at h; obtain ⟨x5, y5, e5, hx5, hy5⟩ := noRole_any c.f5; rw [e5] at h; clear e5
              obtain ⟨x3, hx3⟩ : ∃ x3, (c.f3.toList == ([] : List UInt8)) = x3 := ⟨_, rfl⟩
              rw [show noText c.f3 = x3 from hx3] at h; cases x5
              · obtain rfl : false = r := Option.some.inj h
                clear h
                go_wp2_with (first | (go_at_call 47; (with_reducible refine (names_Role.calls 20 _ _ _ _ HA.out).mono ?_); rintro e w5 ⟨rfl, hB5⟩; have HB5 := Qaf HB4 hB5; have BC5 := Qae BC4 hB5; have BN5 := Qae BN hB5; obtain ⟨c0, c1, c2, c3, c4, c5, c6, c7, c8⟩ := credCells BC5; obtain ⟨z0, z1⟩ := roleCells2 BN5))
                go_ret; exact ⟨rfl, HB5⟩
              cases y5
              · obtain rfl : false = r := Option.some.inj h
                clear h
                go_wp2_with (first | (go_at_call 47; (with_reducible refine (names_Role.calls 20 _ _ _ _ HA.out).mono ?_); rintro e w5 ⟨rfl, hB5⟩; have HB5 := Qaf HB4 hB5; have BC5 := Qae BC4 hB5; have BN5 := Qae BN hB5; obtain ⟨c0, c1, c2, c3, c4, c5, c6, c7, c8⟩ := credCells BC5; obtain ⟨z0, z1⟩ := roleCells2 BN5))
                go_ret; exact ⟨rfl, HB5⟩
              cases x3
              · obtain rfl : false = r := Option.some.inj h
                clear h
                go_wp2_with (first | (go_at_call 47; (with_reducible refine (names_Role.calls 20 _ _ _ _ HA.out).mono ?_); rintro e w5 ⟨rfl, hB5⟩; have HB5 := Qaf HB4 hB5; have BC5 := Qae BC4 hB5; have BN5 := Qae BN hB5; obtain ⟨c0, c1, c2, c3, c4, c5, c6, c7, c8⟩ := credCells BC5; obtain ⟨z0, z1⟩ := roleCells2 BN5))
                go_ret; exact ⟨rfl, HB5⟩
              obtain rfl : true = r := Option.some.inj h; clear h
              go_wp2_with (first | (go_at_call 47; (with_reducible refine (names_Role.calls 20 _ _ _ _ HA.out).mono ?_); rintro e w5 ⟨rfl, hB5⟩; have HB5 := Qaf HB4 hB5; have BC5 := Qae BC4 hB5; have BN5 := Qae BN hB5; obtain ⟨c0, c1, c2, c3, c4, c5, c6, c7, c8⟩ := credCells BC5; obtain ⟨z0, z1⟩ := roleCells2 BN5))
              go_ret; exact ⟨rfl, HB5⟩
            · rw [if_neg k2] at h
              have d2 : (c.f2 == 2) = false := beq_eq_false_iff_ne.mpr k2; clear k2
              by_cases k3 : c.f2 = 3
              · rw [if_pos k3] at h
                have d3 : (c.f2 == 3) = true := beq_iff_eq.mpr k3; clear k3; unfold and3 at h; obtain ⟨b, hb, h⟩ := Option.bind_eq_some_iff.mp h; have HA := Lib.hid hb; clear hb; cases b
                · obtain rfl := Option.some.inj h
                  clear h
                  go_wp2_with (first | (go_at_call 48; (with_reducible refine (cred_bare.calls _ _ _ _ HA.out).mono ?_); rintro e w5 ⟨rfl, hB5⟩; have HB5 := Qaf HB4 hB5; have BC5 := Qae BC4 hB5; have BN5 := Qae BN hB5; obtain ⟨c0, c1, c2, c3, c4, c5, c6, c7, c8⟩ := credCells BC5; obtain ⟨z0, z1⟩ := roleCells2 BN5))
                  go_ret; exact ⟨rfl, HB5⟩
                rw [if_pos rfl] at h; obtain ⟨d, hd, h⟩ := Option.bind_eq_some_iff.mp h; have HD := Lib.hid hd; clear hd; cases d
                · obtain rfl := Option.some.inj h
                  clear h
                  go_wp2_with (first | (go_at_call 48; (with_reducible refine (cred_bare.calls _ _ _ _ HA.out).mono ?_); rintro e w5 ⟨rfl, hB5⟩; have HB5 := Qaf HB4 hB5; have BC5 := Qae BC4 hB5; have BN5 := Qae BN hB5; obtain ⟨c0, c1, c2, c3, c4, c5, c6, c7, c8⟩ := credCells BC5; obtain ⟨z0, z1⟩ := roleCells2 BN5) | (go_at_call 48; (with_reducible refine (cred_bare.calls _ _ _ _ HD.out).mono ?_); rintro e w6 ⟨rfl, hB6⟩; have HB6 := Qaf HB5 hB6; have BC6 := Qae BC5 hB6; have BN6 := Qae BN5 hB6; obtain ⟨c0, c1, c2, c3, c4, c5, c6, c7, c8⟩ := credCells BC6; obtain ⟨z0, z1⟩ := roleCells2 BN6))
                  go_ret; exact ⟨rfl, HB6⟩
                rw [if_pos rfl] at h
                obtain ⟨x3, hx3⟩ : ∃ x3, (c.f3.toList == ([] : List UInt8)) = x3 := ⟨_, rfl⟩
                rw [show noText c.f3 = x3 from hx3] at h; cases x3
                · obtain rfl : false = r := Option.some.inj h
                  clear h
                  go_wp2_with (first | (go_at_call 48; (with_reducible refine (cred_bare.calls _ _ _ _ HA.out).mono ?_); rintro e w5 ⟨rfl, hB5⟩; have HB5 := Qaf HB4 hB5; have BC5 := Qae BC4 hB5; have BN5 := Qae BN hB5; obtain ⟨c0, c1, c2, c3, c4, c5, c6, c7, c8⟩ := credCells BC5; obtain ⟨z0, z1⟩ := roleCells2 BN5) | (go_at_call 48; (with_reducible refine (cred_bare.calls _ _ _ _ HD.out).mono ?_); rintro e w6 ⟨rfl, hB6⟩; have HB6 := Qaf HB5 hB6; have BC6 := Qae BC5 hB6; have BN6 := Qae BN5 hB6; obtain ⟨c0, c1, c2, c3, c4, c5, c6, c7, c8⟩ := credCells BC6; obtain ⟨z0, z1⟩ := roleCells2 BN6))
                  go_ret; exact ⟨rfl, HB6⟩
                obtain rfl : true = r := Option.some.inj h; clear h
                go_wp2_with (first | (go_at_call 48; (with_reducible refine (cred_bare.calls _ _ _ _ HA.out).mono ?_); rintro e w5 ⟨rfl, hB5⟩; have HB5 := Qaf HB4 hB5; have BC5 := Qae BC4 hB5; have BN5 := Qae BN hB5; obtain ⟨c0, c1, c2, c3, c4, c5, c6, c7, c8⟩ := credCells BC5; obtain ⟨z0, z1⟩ := roleCells2 BN5) | (go_at_call 48; (with_reducible refine (cred_bare.calls _ _ _ _ HD.out).mono ?_); rintro e w6 ⟨rfl, hB6⟩; have HB6 := Qaf HB5 hB6; have BC6 := Qae BC5 hB6; have BN6 := Qae BN5 hB6; obtain ⟨c0, c1, c2, c3, c4, c5, c6, c7, c8⟩ := credCells BC6; obtain ⟨z0, z1⟩ := roleCells2 BN6))
                go_ret; exact ⟨rfl, HB6⟩
              · rw [if_neg k3] at h
                have d3 : (c.f2 == 3) = false := beq_eq_false_iff_ne.mpr k3; clear k3
                by_cases k4 : c.f2 = 4
                · rw [if_pos k4] at h
                  have d4 : (c.f2 == 4) = true := beq_iff_eq.mpr k4; clear k4; unfold and3 at h; obtain ⟨b, hb, h⟩ := Option.bind_eq_some_iff.mp h; have HA := Lib.hid hb; clear hb; cases b
                  · obtain rfl := Option.some.inj h
                    clear h
                    go_wp2_with (first | (go_at_call 47; (with_reducible refine (names_Role.calls 20 _ _ _ _ HA.out).mono ?_); rintro e w5 ⟨rfl, hB5⟩; have HB5 := Qaf HB4 hB5; have BC5 := Qae BC4 hB5; have BN5 := Qae BN hB5; obtain ⟨c0, c1, c2, c3, c4, c5, c6, c7, c8⟩ := credCells BC5; obtain ⟨z0, z1⟩ := roleCells2 BN5))
                    go_ret; exact ⟨rfl, HB5⟩
                  rw [if_pos rfl] at h; obtain ⟨d, hd, h⟩ := Option.bind_eq_some_iff.mp h; have HD := Lib.hid hd; clear hd; cases d
                  · obtain rfl := Option.some.inj h
                    clear h
                    go_wp2_with (first | (go_at_call 47; (with_reducible refine (names_Role.calls 20 _ _ _ _ HA.out).mono ?_); rintro e w5 ⟨rfl, hB5⟩; have HB5 := Qaf HB4 hB5; have BC5 := Qae BC4 hB5; have BN5 := Qae BN hB5; obtain ⟨c0, c1, c2, c3, c4, c5, c6, c7, c8⟩ := credCells BC5; obtain ⟨z0, z1⟩ := roleCells2 BN5) | (go_at_call 47; (with_reducible refine (names_Role.calls 20 _ _ _ _ HD.out).mono ?_); rintro e w6 ⟨rfl, hB6⟩; have HB6 := Qaf HB5 hB6; have BC6 := Qae BC5 hB6; have BN6 := Qae BN5 hB6; obtain ⟨c0, c1, c2, c3, c4, c5, c6, c7, c8⟩ := credCells BC6; obtain ⟨z0, z1⟩ := roleCells2 BN6))
                    go_ret; exact ⟨rfl, HB6⟩
                  rw [if_pos rfl] at h
                  obtain ⟨x3, hx3⟩ : ∃ x3, (c.f3.toList == ([] : List UInt8)) = x3 := ⟨_, rfl⟩
                  rw [show noText c.f3 = x3 from hx3] at h; cases x3
                  · obtain rfl : false = r := Option.some.inj h
                    clear h
                    go_wp2_with (first | (go_at_call 47; (with_reducible refine (names_Role.calls 20 _ _ _ _ HA.out).mono ?_); rintro e w5 ⟨rfl, hB5⟩; have HB5 := Qaf HB4 hB5; have BC5 := Qae BC4 hB5; have BN5 := Qae BN hB5; obtain ⟨c0, c1, c2, c3, c4, c5, c6, c7, c8⟩ := credCells BC5; obtain ⟨z0, z1⟩ := roleCells2 BN5) | (go_at_call 47; (with_reducible refine (names_Role.calls 20 _ _ _ _ HD.out).mono ?_); rintro e w6 ⟨rfl, hB6⟩; have HB6 := Qaf HB5 hB6; have BC6 := Qae BC5 hB6; have BN6 := Qae BN5 hB6; obtain ⟨c0, c1, c2, c3, c4, c5, c6, c7, c8⟩ := credCells BC6; obtain ⟨z0, z1⟩ := roleCells2 BN6))
                    go_ret; exact ⟨rfl, HB6⟩
                  obtain rfl : true = r := Option.some.inj h; clear h
                  go_wp2_with (first | (go_at_call 47; (with_reducible refine (names_Role.calls 20 _ _ _ _ HA.out).mono ?_); rintro e w5 ⟨rfl, hB5⟩; have HB5 := Qaf HB4 hB5; have BC5 := Qae BC4 hB5; have BN5 := Qae BN hB5; obtain ⟨c0, c1, c2, c3, c4, c5, c6, c7, c8⟩ := credCells BC5; obtain ⟨z0, z1⟩ := roleCells2 BN5) | (go_at_call 47; (with_reducible refine (names_Role.calls 20 _ _ _ _ HD.out).mono ?_); rintro e w6 ⟨rfl, hB6⟩; have HB6 := Qaf HB5 hB6; have BC6 := Qae BC5 hB6; have BN6 := Qae BN5 hB6; obtain ⟨c0, c1, c2, c3, c4, c5, c6, c7, c8⟩ := credCells BC6; obtain ⟨z0, z1⟩ := roleCells2 BN6))
                  go_ret; exact ⟨rfl, HB6⟩
                · rw [if_neg k4] at h
                  have d4 : (c.f2 == 4) = false := beq_eq_false_iff_ne.mpr k4; clear k4; obtain rfl := Option.some.inj h; clear h; go_wp2; go_ret; exact ⟨rfl, HB4⟩
  · rw [e0, if_pos rfl] at h
    obtain rfl := Option.some.inj h; obtain ⟨d0, d1⟩ := noText_t e0; clear e0 h
    go_wp2_with (go_at_call 45; refine (domain_walk _ _).mono ?_; rintro e w' ⟨rfl, rfl⟩)
    go_ret; exact ⟨rfl, HB⟩
end Go.Proofs.YtbjjgaahdnfflaaDoor.Pr
end
