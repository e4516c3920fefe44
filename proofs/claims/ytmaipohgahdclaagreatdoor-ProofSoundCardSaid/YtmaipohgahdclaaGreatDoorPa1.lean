/- The proof's own texts, joined: part 1. No conditions. -/
import Derived.Test.YtmaipohgahdclaaGreatDoorProg
import Derived.Below
import Derived.Deep.Draws
import Derived.Deep.AppendLies
import Derived.Maps.AppendAt
import Derived.OwnWalk
import Derived.Laws.BytesArg
import Derived.Laws.MakeOwn
import Derived.Laws.OwnMore
import Derived.Deep.OwnRows
import Derived.Tactics
import Derived.Lib.ConvBytes
import Derived.Laws.Slices
import Derived.WalkKit
import Derived.KernelRfl
import Derived.RowKit3
import Derived.Deep.LoopGhost
import Derived.Deep.QuietTactic
import Derived.BigQuiet
import Derived.WideLaws
import Derived.Deep.DeepCutAuto
import Derived.Deep.CutBlock
import Derived.Deep.RegionHeld3
import Derived.Laws.Rows
import Derived.Lib.AppendStr
import Derived.ArgAppend
import Derived.Laws.IdiomCopy
import Derived.OrdersHeld
import Derived.Laws.BitsLemmas
import Derived.RowKit
import Derived.Laws.StructEq
import Derived.WalkSpells
import Derived.WalkLawsBesides
import Derived.Lib.Hide
import Derived.Outline
import Derived.Maps.OwnSet
import Derived.Maps.RangeRun
import Derived.Maps.Range
import Derived.Carry
import Derived.Shelf.GgSortFunc.InsertionK
import Derived.Shelf.SlicesG.Cmp
import Derived.Ground.SlgcProg
import Derived.StillTailTactics
import Derived.Sort.Grow
import Derived.Lib.SlicesS
import Derived.Shelf.SlSortCmp.WholeK
import Derived.Shelf.SlSortCmp.NoneTotal
import Derived.Shelf.SlicesE.Clone
import Derived.Ground.SlsfProg
import Derived.Ground.SlgnProg
import Derived.Laws.RangeAny
import Derived.Laws.Closers25
import Derived.Deep.RegionWith
import Derived.RegionTactic
import Derived.ChangeAlike
import Derived.Deep.RegionLaw
import Derived.Lib.SmallJoins
import Derived.DeepKeys4
import Derived.Sort.Walk0
import Derived.Laws.Strings
import Derived.Test.YtmaipohgahdclaaGreatDoorPa0
section
namespace Go.Proofs.YtmaipohgahdclaaGreatDoor.Pr
open Go.RowKit Go.Proofs.YtmaipohgahdclaaGreatDoorW.PrintWords Go.Proofs.YtmaipohgahdclaaGreatDoorW.PrintLast Go.Proofs.YtmaipohgahdclaaGreatDoorW.PrintMore
attribute [local go_sem] QaU QaS max_two min_two QaM QaL QaT QaR
set_option linter.unusedVariables false
set_option linter.unusedSimpArgs false
theorem cz_ii {W : World} {k : Nat} {t : TypeId} {a0 : Int} {a1 : Int} (h : W.heap[k]? = some (.cells #[.int .i64 a0, .int .i64 a1] t (0, 0))) : W.cell? ⟨k, 0, none⟩ = some (.int .i64 a0) ∧ W.cell? ⟨k, 1, none⟩ = some (.int .i64 a1) :=
  ⟨(Qaj h 0).trans rfl, (Qaj h 1).trans rfl⟩
theorem cz_iisisssss {W : World} {k : Nat} {t : TypeId} {a0 : Int} {a1 : Int} {a2 : ByteArray} {a3 : Int} {a4 : ByteArray} {a5 : ByteArray} {a6 : ByteArray} {a7 : ByteArray} {a8 : ByteArray} (h : W.heap[k]? = some (.cells #[.int .i64 a0, .int .i64 a1, .string a2, .int .i64 a3, .string a4, .string a5, .string a6, .string a7, .string a8] t (0, 0))) : W.cell? ⟨k, 0, none⟩ = some (.int .i64 a0) ∧ W.cell? ⟨k, 1, none⟩ = some (.int .i64 a1) ∧ W.cell? ⟨k, 2, none⟩ = some (.string a2) ∧ W.cell? ⟨k, 3, none⟩ = some (.int .i64 a3) ∧ W.cell? ⟨k, 4, none⟩ = some (.string a4) ∧ W.cell? ⟨k, 5, none⟩ = some (.string a5) ∧ W.cell? ⟨k, 6, none⟩ = some (.string a6) ∧ W.cell? ⟨k, 7, none⟩ = some (.string a7) ∧ W.cell? ⟨k, 8, none⟩ = some (.string a8) :=
  ⟨(Qaj h 0).trans rfl, (Qaj h 1).trans rfl, (Qaj h 2).trans rfl, (Qaj h 3).trans rfl, (Qaj h 4).trans rfl, (Qaj h 5).trans rfl, (Qaj h 6).trans rfl, (Qaj h 7).trans rfl, (Qaj h 8).trans rfl⟩
theorem cz_ss {W : World} {k : Nat} {t : TypeId} {a0 : ByteArray} {a1 : ByteArray} (h : W.heap[k]? = some (.cells #[.string a0, .string a1] t (0, 0))) : W.cell? ⟨k, 0, none⟩ = some (.string a0) ∧ W.cell? ⟨k, 1, none⟩ = some (.string a1) :=
  ⟨(Qaj h 0).trans rfl, (Qaj h 1).trans rfl⟩
theorem cz_sss {W : World} {k : Nat} {t : TypeId} {a0 : ByteArray} {a1 : ByteArray} {a2 : ByteArray} (h : W.heap[k]? = some (.cells #[.string a0, .string a1, .string a2] t (0, 0))) : W.cell? ⟨k, 0, none⟩ = some (.string a0) ∧ W.cell? ⟨k, 1, none⟩ = some (.string a1) ∧ W.cell? ⟨k, 2, none⟩ = some (.string a2) :=
  ⟨(Qaj h 0).trans rfl, (Qaj h 1).trans rfl, (Qaj h 2).trans rfl⟩
theorem cz_sssiiv {W : World} {k : Nat} {t : TypeId} {a0 : ByteArray} {a1 : ByteArray} {a2 : ByteArray} {a3 : Int} {a4 : Int} {a5 : Value} (h : W.heap[k]? = some (.cells #[.string a0, .string a1, .string a2, .int .i64 a3, .int .i64 a4, a5] t (0, 0))) : W.cell? ⟨k, 0, none⟩ = some (.string a0) ∧ W.cell? ⟨k, 1, none⟩ = some (.string a1) ∧ W.cell? ⟨k, 2, none⟩ = some (.string a2) ∧ W.cell? ⟨k, 3, none⟩ = some (.int .i64 a3) ∧ W.cell? ⟨k, 4, none⟩ = some (.int .i64 a4) ∧ W.cell? ⟨k, 5, none⟩ = some (a5) :=
  ⟨(Qaj h 0).trans rfl, (Qaj h 1).trans rfl, (Qaj h 2).trans rfl, (Qaj h 3).trans rfl, (Qaj h 4).trans rfl, (Qaj h 5).trans rfl⟩
theorem fz_2 {W : World} {k : Nat} {cs : Array Value} {t : TypeId} (h : W.heap[k]? = some (.cells cs t (0, 0))) : W.frozen? ⟨k, 0, none⟩ = false ∧ W.frozen? ⟨k, 1, none⟩ = false :=
  ⟨blk_frozen h 0, blk_frozen h 1⟩
theorem fz_3 {W : World} {k : Nat} {cs : Array Value} {t : TypeId} (h : W.heap[k]? = some (.cells cs t (0, 0))) : W.frozen? ⟨k, 0, none⟩ = false ∧ W.frozen? ⟨k, 1, none⟩ = false ∧ W.frozen? ⟨k, 2, none⟩ = false :=
  ⟨blk_frozen h 0, blk_frozen h 1, blk_frozen h 2⟩
theorem fz_6 {W : World} {k : Nat} {cs : Array Value} {t : TypeId} (h : W.heap[k]? = some (.cells cs t (0, 0))) : W.frozen? ⟨k, 0, none⟩ = false ∧ W.frozen? ⟨k, 1, none⟩ = false ∧ W.frozen? ⟨k, 2, none⟩ = false ∧ W.frozen? ⟨k, 3, none⟩ = false ∧ W.frozen? ⟨k, 4, none⟩ = false ∧ W.frozen? ⟨k, 5, none⟩ = false :=
  ⟨blk_frozen h 0, blk_frozen h 1, blk_frozen h 2, blk_frozen h 3, blk_frozen h 4, blk_frozen h 5⟩
theorem fz_9 {W : World} {k : Nat} {cs : Array Value} {t : TypeId} (h : W.heap[k]? = some (.cells cs t (0, 0))) : W.frozen? ⟨k, 0, none⟩ = false ∧ W.frozen? ⟨k, 1, none⟩ = false ∧ W.frozen? ⟨k, 2, none⟩ = false ∧ W.frozen? ⟨k, 3, none⟩ = false ∧ W.frozen? ⟨k, 4, none⟩ = false ∧ W.frozen? ⟨k, 5, none⟩ = false ∧ W.frozen? ⟨k, 6, none⟩ = false ∧ W.frozen? ⟨k, 7, none⟩ = false ∧ W.frozen? ⟨k, 8, none⟩ = false :=
  ⟨blk_frozen h 0, blk_frozen h 1, blk_frozen h 2, blk_frozen h 3, blk_frozen h 4, blk_frozen h 5, blk_frozen h 6, blk_frozen h 7, blk_frozen h 8⟩
abbrev ob_ii (a0 : Int) (a1 : Int) (t : TypeId) : Obj := .cells #[.int .i64 a0, .int .i64 a1] t (0, 0)
abbrev Qau (a0 : Int) (a1 : Int) (a2 : ByteArray) (a3 : Int) (a4 : ByteArray) (a5 : ByteArray) (a6 : ByteArray) (a7 : ByteArray) (a8 : ByteArray) (t : TypeId) : Obj := .cells #[.int .i64 a0, .int .i64 a1, .string a2, .int .i64 a3, .string a4, .string a5, .string a6, .string a7, .string a8] t (0, 0)
abbrev ob_ss (a0 : ByteArray) (a1 : ByteArray) (t : TypeId) : Obj := .cells #[.string a0, .string a1] t (0, 0)
abbrev ob_sss (a0 : ByteArray) (a1 : ByteArray) (a2 : ByteArray) (t : TypeId) : Obj := .cells #[.string a0, .string a1, .string a2] t (0, 0)
abbrev ob_sssiiv (a0 : ByteArray) (a1 : ByteArray) (a2 : ByteArray) (a3 : Int) (a4 : Int) (a5 : Value) (t : TypeId) : Obj := .cells #[.string a0, .string a1, .string a2, .int .i64 a3, .int .i64 a4, a5] t (0, 0)
theorem put_ {α : Type} : (∀ (xs : List α) (i : Nat) (v : α), xs.toArray.setIfInBounds i v = (xs.set i v).toArray) ∧ (∀ (x v : α) (xs : List α), (x :: xs).set 0 v = v :: xs) ∧ ∀ (x v : α) (xs : List α) (i : Nat), (x :: xs).set (i + 1) v = x :: xs.set i v :=
  ⟨fun xs i v => List.setIfInBounds_toArray .., fun x v xs => List.set_cons_zero .., fun x v xs i => List.set_cons_succ ..⟩
abbrev tt := true
abbrev ff := false
def errW : Option Int → Value
  | none => .nilIface
  | some c => .iface 0 (.int .i64 c)
theorem Qar : errW none = .nilIface := rfl
theorem Qaq (c : Int) : errW (some c) = .iface 0 (.int .i64 c) := rfl
theorem info42 : (Tryz.prog.info? 42).map (fun i => (i.zero, i.size, i.bytes)) = some (some (.agg #[(.int .i64 0), (.int .i64 0), (.string ⟨#[]⟩), (.int .i64 0), (.string ⟨#[]⟩), (.string ⟨#[]⟩), (.string ⟨#[]⟩), (.string ⟨#[]⟩), (.string ⟨#[]⟩)]), 9, 120) := by kernel_rfl
theorem info56 : (Tryz.prog.info? 56).map (fun i => (i.zero, i.size, i.bytes)) = some (some (.agg #[(.string ⟨#[]⟩), (.string ⟨#[]⟩), (.string ⟨#[]⟩)]), 3, 48) := by kernel_rfl
structure S26 where
  f0 : Int
  f1 : Int
def z26 : S26 := ⟨(0 : Int), (0 : Int)⟩
def k26 : Kd S26 := Kd.iso (Kd.pair (Kd.int .i64) (Kd.int .i64)) (fun x : S26 => (x.f0, x.f1))
theorem k26_heap : Kd.Heap k26 := Kd.heap_iso _ (Kd.heap_pair (Kd.heap_int .i64) (Kd.heap_int .i64))
theorem k26_open {w : World} {x : S26} {cs : List Value} (h : k26.K w x cs) : cs = [.int .i64 x.f0, .int .i64 x.f1] := by
  obtain ⟨_, _, rfl, rfl, rfl⟩ := h; exact rfl
theorem k26_openM {w : World} {base : Nat} {ok : Nat → Prop} {x : S26} {cs : List Value} (h : k26.M w base ok x cs) : cs = [.int .i64 x.f0, .int .i64 x.f1] := by
  obtain ⟨_, _, rfl, rfl, rfl⟩ := h; exact rfl
theorem k26_mk (w : World) (x : S26)  : k26.K w x [.int .i64 x.f0, .int .i64 x.f1] := ⟨[.int .i64 x.f0], [.int .i64 x.f1], rfl, rfl, rfl⟩
theorem k26_mkM (w : World) (base : Nat) (ok : Nat → Prop) (x : S26)  : k26.M w base ok x [.int .i64 x.f0, .int .i64 x.f1] := ⟨[.int .i64 x.f0], [.int .i64 x.f1], rfl, rfl, rfl⟩
def rd_T26 (xs : List S26) (i : Int) : S26 := xs.getD i.toNat z26
theorem at_T26 {w : World} {A : Option Addr} {n : Nat} {xs : List S26} (h : Kd.C k26 w A n xs) (i : Int) (h0 : 0 ≤ i) (h1 : i < n) : ∃ ad , A = some ad ∧ w.cell? (ad.add (i.toNat * 2)) = some (.int .i64 (rd_T26 xs i).f0) ∧ w.cell? ⟨(ad.add (i.toNat * 2)).block, (ad.add (i.toNat * 2)).off + 1, none⟩ = some (.int .i64 (rd_T26 xs i).f1) := by
  obtain ⟨ad, c, e, _, hK, hc0⟩ := Kd.C_get h z26 i h0 h1; have hc : ∀ j u, c[j]? = some u → w.cell? (ad.add (i.toNat * 2 + j)) = some u := hc0; obtain rfl := k26_open hK; exact ⟨ad, e, hc 0 _ rfl, by rw [← add_field _ _ 1 (by omega)]; exact hc 1 _ rfl⟩
structure S24 where
  f0 : ByteArray
  f1 : ByteArray
def z24 : S24 := ⟨(⟨#[]⟩ : ByteArray), (⟨#[]⟩ : ByteArray)⟩
def k24 : Kd S24 := Kd.iso (Kd.pair Kd.string Kd.string) (fun x : S24 => (x.f0, x.f1))
theorem k24_heap : Kd.Heap k24 := Kd.heap_iso _ (Kd.heap_pair Kd.heap_string Kd.heap_string)
theorem k24_open {w : World} {x : S24} {cs : List Value} (h : k24.K w x cs) : cs = [.string x.f0, .string x.f1] := by
  obtain ⟨_, _, rfl, rfl, rfl⟩ := h; exact rfl
theorem k24_openM {w : World} {base : Nat} {ok : Nat → Prop} {x : S24} {cs : List Value} (h : k24.M w base ok x cs) : cs = [.string x.f0, .string x.f1] := by
  obtain ⟨_, _, rfl, rfl, rfl⟩ := h; exact rfl
theorem k24_mk (w : World) (x : S24)  : k24.K w x [.string x.f0, .string x.f1] := ⟨[.string x.f0], [.string x.f1], rfl, rfl, rfl⟩
theorem k24_mkM (w : World) (base : Nat) (ok : Nat → Prop) (x : S24)  : k24.M w base ok x [.string x.f0, .string x.f1] := ⟨[.string x.f0], [.string x.f1], rfl, rfl, rfl⟩
structure S42 where
  f0 : S26
  f1 : ByteArray
  f2 : Int
  f3 : ByteArray
  f4 : S24
  f5 : S24
def z42 : S42 := ⟨z26, (⟨#[]⟩ : ByteArray), (0 : Int), (⟨#[]⟩ : ByteArray), z24, z24⟩
def k42 : Kd S42 := Kd.iso (Kd.pair k26 (Kd.pair Kd.string (Kd.pair (Kd.int .i64) (Kd.pair Kd.string (Kd.pair k24 k24))))) (fun x : S42 => (x.f0, x.f1, x.f2, x.f3, x.f4, x.f5))
theorem k42_heap : Kd.Heap k42 := Kd.heap_iso _ (Kd.heap_pair k26_heap (Kd.heap_pair Kd.heap_string (Kd.heap_pair (Kd.heap_int .i64) (Kd.heap_pair Kd.heap_string (Kd.heap_pair k24_heap k24_heap)))))
theorem k42_open {w : World} {x : S42} {cs : List Value} (h : k42.K w x cs) : cs = [.int .i64 x.f0.f0, .int .i64 x.f0.f1, .string x.f1, .int .i64 x.f2, .string x.f3, .string x.f4.f0, .string x.f4.f1, .string x.f5.f0, .string x.f5.f1] := by
  obtain ⟨_, _, rfl, s0, ⟨_, _, rfl, rfl, ⟨_, _, rfl, rfl, ⟨_, _, rfl, rfl, ⟨_, _, rfl, s5, s7⟩⟩⟩⟩⟩ := h; obtain rfl := k26_open s0; obtain rfl := k24_open s5; obtain rfl := k24_open s7; exact rfl
theorem k42_openM {w : World} {base : Nat} {ok : Nat → Prop} {x : S42} {cs : List Value} (h : k42.M w base ok x cs) : cs = [.int .i64 x.f0.f0, .int .i64 x.f0.f1, .string x.f1, .int .i64 x.f2, .string x.f3, .string x.f4.f0, .string x.f4.f1, .string x.f5.f0, .string x.f5.f1] := by
  obtain ⟨_, _, rfl, s0, ⟨_, _, rfl, rfl, ⟨_, _, rfl, rfl, ⟨_, _, rfl, rfl, ⟨_, _, rfl, s5, s7⟩⟩⟩⟩⟩ := h; obtain rfl := k26_openM s0; obtain rfl := k24_openM s5; obtain rfl := k24_openM s7; exact rfl
theorem k42_mk (w : World) (x : S42)  : k42.K w x [.int .i64 x.f0.f0, .int .i64 x.f0.f1, .string x.f1, .int .i64 x.f2, .string x.f3, .string x.f4.f0, .string x.f4.f1, .string x.f5.f0, .string x.f5.f1] := ⟨[.int .i64 x.f0.f0, .int .i64 x.f0.f1], [.string x.f1, .int .i64 x.f2, .string x.f3, .string x.f4.f0, .string x.f4.f1, .string x.f5.f0, .string x.f5.f1], rfl, (k26_mk w x.f0 ), ⟨[.string x.f1], [.int .i64 x.f2, .string x.f3, .string x.f4.f0, .string x.f4.f1, .string x.f5.f0, .string x.f5.f1], rfl, rfl, ⟨[.int .i64 x.f2], [.string x.f3, .string x.f4.f0, .string x.f4.f1, .string x.f5.f0, .string x.f5.f1], rfl, rfl, ⟨[.string x.f3], [.string x.f4.f0, .string x.f4.f1, .string x.f5.f0, .string x.f5.f1], rfl, rfl, ⟨[.string x.f4.f0, .string x.f4.f1], [.string x.f5.f0, .string x.f5.f1], rfl, (k24_mk w x.f4 ), (k24_mk w x.f5 )⟩⟩⟩⟩⟩
theorem k42_mkM (w : World) (base : Nat) (ok : Nat → Prop) (x : S42)  : k42.M w base ok x [.int .i64 x.f0.f0, .int .i64 x.f0.f1, .string x.f1, .int .i64 x.f2, .string x.f3, .string x.f4.f0, .string x.f4.f1, .string x.f5.f0, .string x.f5.f1] := ⟨[.int .i64 x.f0.f0, .int .i64 x.f0.f1], [.string x.f1, .int .i64 x.f2, .string x.f3, .string x.f4.f0, .string x.f4.f1, .string x.f5.f0, .string x.f5.f1], rfl, (k26_mkM w base ok x.f0 ), ⟨[.string x.f1], [.int .i64 x.f2, .string x.f3, .string x.f4.f0, .string x.f4.f1, .string x.f5.f0, .string x.f5.f1], rfl, rfl, ⟨[.int .i64 x.f2], [.string x.f3, .string x.f4.f0, .string x.f4.f1, .string x.f5.f0, .string x.f5.f1], rfl, rfl, ⟨[.string x.f3], [.string x.f4.f0, .string x.f4.f1, .string x.f5.f0, .string x.f5.f1], rfl, rfl, ⟨[.string x.f4.f0, .string x.f4.f1], [.string x.f5.f0, .string x.f5.f1], rfl, (k24_mkM w base ok x.f4 ), (k24_mkM w base ok x.f5 )⟩⟩⟩⟩⟩
def Qam (xs : List S42) (i : Int) : S42 := xs.getD i.toNat z42
theorem at_T42 {w : World} {A : Option Addr} {n : Nat} {xs : List S42} (h : Kd.C k42 w A n xs) (i : Int) (h0 : 0 ≤ i) (h1 : i < n) : ∃ ad , A = some ad ∧ w.cell? (ad.add (i.toNat * 9)) = some (.int .i64 (Qam xs i).f0.f0) ∧ w.cell? ⟨(ad.add (i.toNat * 9)).block, (ad.add (i.toNat * 9)).off + 1, none⟩ = some (.int .i64 (Qam xs i).f0.f1) ∧ w.cell? ⟨(ad.add (i.toNat * 9)).block, (ad.add (i.toNat * 9)).off + 2, none⟩ = some (.string (Qam xs i).f1) ∧ w.cell? ⟨(ad.add (i.toNat * 9)).block, (ad.add (i.toNat * 9)).off + 3, none⟩ = some (.int .i64 (Qam xs i).f2) ∧ w.cell? ⟨(ad.add (i.toNat * 9)).block, (ad.add (i.toNat * 9)).off + 4, none⟩ = some (.string (Qam xs i).f3) ∧ w.cell? ⟨(ad.add (i.toNat * 9)).block, (ad.add (i.toNat * 9)).off + 5, none⟩ = some (.string (Qam xs i).f4.f0) ∧ w.cell? ⟨(ad.add (i.toNat * 9)).block, (ad.add (i.toNat * 9)).off + 6, none⟩ = some (.string (Qam xs i).f4.f1) ∧ w.cell? ⟨(ad.add (i.toNat * 9)).block, (ad.add (i.toNat * 9)).off + 7, none⟩ = some (.string (Qam xs i).f5.f0) ∧ w.cell? ⟨(ad.add (i.toNat * 9)).block, (ad.add (i.toNat * 9)).off + 8, none⟩ = some (.string (Qam xs i).f5.f1) := by
  obtain ⟨ad, c, e, _, hK, hc0⟩ := Kd.C_get h z42 i h0 h1; have hc : ∀ j u, c[j]? = some u → w.cell? (ad.add (i.toNat * 9 + j)) = some u := hc0; obtain rfl := k42_open hK; exact ⟨ad, e, hc 0 _ rfl, by rw [← add_field _ _ 1 (by omega)]; exact hc 1 _ rfl, by rw [← add_field _ _ 2 (by omega)]; exact hc 2 _ rfl, by rw [← add_field _ _ 3 (by omega)]; exact hc 3 _ rfl, by rw [← add_field _ _ 4 (by omega)]; exact hc 4 _ rfl, by rw [← add_field _ _ 5 (by omega)]; exact hc 5 _ rfl, by rw [← add_field _ _ 6 (by omega)]; exact hc 6 _ rfl, by rw [← add_field _ _ 7 (by omega)]; exact hc 7 _ rfl, by rw [← add_field _ _ 8 (by omega)]; exact hc 8 _ rfl⟩
structure S29 where
  f0 : S24
  f1 : ByteArray
  f2 : S26
  f3 : (List S29)
def z29 : S29 := ⟨z24, (⟨#[]⟩ : ByteArray), z26, ([] : List S29)⟩
def F29 (d : Kd S29) : Kd S29 := Kd.iso (Kd.pair k24 (Kd.pair Kd.string (Kd.pair k26 (Kd.slice 29 d)))) (fun x : S29 => (x.f0, x.f1, x.f2, x.f3))
theorem mono29 : Kd.Mono F29 := Kd.mono_iso _ (Kd.mono_pair (Kd.mono_const _) (Kd.mono_pair (Kd.mono_const _) (Kd.mono_pair (Kd.mono_const _) (Kd.mono_slice 29 Kd.mono_id))))
theorem sub29 : Kd.Sub F29 [29] := Kd.sub_iso _ (Kd.sub_pair (Kd.sub_const _ (by decide)) (Kd.sub_pair (Kd.sub_const _ (by decide)) (Kd.sub_pair (Kd.sub_const _ (by decide)) (Kd.sub_slice 29 (by decide) Kd.sub_id))))
theorem sz29 : ∀ n, (Kd.upto F29 6 [29] n).sz = 6 := Kd.upto_sz (fun _ => rfl)
def k29 : Kd S29 := Kd.fix F29 6 [29] sz29 (Kd.upto_E sub29)
theorem k29_open {w : World} {x : S29} {cs : List Value} (h : k29.K w x cs) : ∃ A5 c5, cs = [.string x.f0.f0, .string x.f0.f1, .string x.f1, .int .i64 x.f2.f0, .int .i64 x.f2.f1, .slice A5 x.f3.length c5] ∧ x.f3.length ≤ c5 ∧ k29.C w A5 x.f3.length x.f3 := by
  obtain ⟨n, h⟩ := h
  cases n with
  | zero => exact h.elim
  | succ n =>
    obtain ⟨_, _, rfl, s0, ⟨_, _, rfl, rfl, ⟨_, _, rfl, s3, ⟨A5, c5, rfl, l5, g5⟩⟩⟩⟩ := h; obtain rfl := k24_open s0; obtain rfl := k26_open s3; exact ⟨A5, c5, rfl, l5, Kd.fix_C g5⟩
theorem k29_mk (w : World) (x : S29) {A5 : Option Addr} {c5 : Nat} (l5 : x.f3.length ≤ c5) (g5 : k29.C w A5 x.f3.length x.f3) : k29.K w x [.string x.f0.f0, .string x.f0.f1, .string x.f1, .int .i64 x.f2.f0, .int .i64 x.f2.f1, .slice A5 x.f3.length c5] := by
  obtain ⟨n5, q5⟩ := Kd.fix_C_back mono29 g5; have r5 := Kd.upto_C_le mono29 sz29 (show n5 ≤ n5 by omega) q5; exact ⟨n5 + 1, ⟨[.string x.f0.f0, .string x.f0.f1], [.string x.f1, .int .i64 x.f2.f0, .int .i64 x.f2.f1, .slice A5 x.f3.length c5], rfl, (k24_mk w x.f0 ), ⟨[.string x.f1], [.int .i64 x.f2.f0, .int .i64 x.f2.f1, .slice A5 x.f3.length c5], rfl, rfl, ⟨[.int .i64 x.f2.f0, .int .i64 x.f2.f1], [.slice A5 x.f3.length c5], rfl, (k26_mk w x.f2 ), ⟨A5, c5, rfl, l5, r5⟩⟩⟩⟩⟩
theorem k29_mkM (w : World) (base : Nat) (ok : Nat → Prop) (x : S29) {v5 : Value} (g5 : k29.R 29 w base ok v5 x.f3) : k29.M w base ok x [.string x.f0.f0, .string x.f0.f1, .string x.f1, .int .i64 x.f2.f0, .int .i64 x.f2.f1, v5] := by
  obtain ⟨n5, q5⟩ := Kd.fix_R_back mono29 g5; have r5 := Kd.upto_R_le mono29 sz29 (show n5 ≤ n5 by omega) q5; exact ⟨n5 + 1, ⟨[.string x.f0.f0, .string x.f0.f1], [.string x.f1, .int .i64 x.f2.f0, .int .i64 x.f2.f1, v5], rfl, (k24_mkM w base ok x.f0 ), ⟨[.string x.f1], [.int .i64 x.f2.f0, .int .i64 x.f2.f1, v5], rfl, rfl, ⟨[.int .i64 x.f2.f0, .int .i64 x.f2.f1], [v5], rfl, (k26_mkM w base ok x.f2 ), ⟨v5, rfl, r5⟩⟩⟩⟩⟩
def QaF (xs : List S29) (i : Int) : S29 := xs.getD i.toNat z29
theorem at_T29 {w : World} {A : Option Addr} {n : Nat} {xs : List S29} (h : Kd.C k29 w A n xs) (i : Int) (h0 : 0 ≤ i) (h1 : i < n) : ∃ ad A5 c5, A = some ad ∧ w.cell? (ad.add (i.toNat * 6)) = some (.string (QaF xs i).f0.f0) ∧ w.cell? ⟨(ad.add (i.toNat * 6)).block, (ad.add (i.toNat * 6)).off + 1, none⟩ = some (.string (QaF xs i).f0.f1) ∧ w.cell? ⟨(ad.add (i.toNat * 6)).block, (ad.add (i.toNat * 6)).off + 2, none⟩ = some (.string (QaF xs i).f1) ∧ w.cell? ⟨(ad.add (i.toNat * 6)).block, (ad.add (i.toNat * 6)).off + 3, none⟩ = some (.int .i64 (QaF xs i).f2.f0) ∧ w.cell? ⟨(ad.add (i.toNat * 6)).block, (ad.add (i.toNat * 6)).off + 4, none⟩ = some (.int .i64 (QaF xs i).f2.f1) ∧ w.cell? ⟨(ad.add (i.toNat * 6)).block, (ad.add (i.toNat * 6)).off + 5, none⟩ = some (.slice A5 (QaF xs i).f3.length c5) ∧ (QaF xs i).f3.length ≤ c5 ∧ k29.C w A5 (QaF xs i).f3.length (QaF xs i).f3 := by
  obtain ⟨ad, c, e, _, hK, hc0⟩ := Kd.C_get h z29 i h0 h1; have hc : ∀ j u, c[j]? = some u → w.cell? (ad.add (i.toNat * 6 + j)) = some u := hc0; obtain ⟨A5, c5, rfl, l5, g5⟩ := k29_open hK; exact ⟨ad, A5, c5, e, hc 0 _ rfl, by rw [← add_field _ _ 1 (by omega)]; exact hc 1 _ rfl, by rw [← add_field _ _ 2 (by omega)]; exact hc 2 _ rfl, by rw [← add_field _ _ 3 (by omega)]; exact hc 3 _ rfl, by rw [← add_field _ _ 4 (by omega)]; exact hc 4 _ rfl, by rw [← add_field _ _ 5 (by omega)]; exact hc 5 _ rfl, l5, g5⟩
structure S51 where
  f0 : S24
  f1 : ByteArray
def z51 : S51 := ⟨z24, (⟨#[]⟩ : ByteArray)⟩
def k51 : Kd S51 := Kd.iso (Kd.pair k24 Kd.string) (fun x : S51 => (x.f0, x.f1))
theorem k51_open {w : World} {x : S51} {cs : List Value} (h : k51.K w x cs) : cs = [.string x.f0.f0, .string x.f0.f1, .string x.f1] := by
  obtain ⟨_, _, rfl, s0, rfl⟩ := h; obtain rfl := k24_open s0; exact rfl
theorem k51_openM {w : World} {base : Nat} {ok : Nat → Prop} {x : S51} {cs : List Value} (h : k51.M w base ok x cs) : cs = [.string x.f0.f0, .string x.f0.f1, .string x.f1] := by
  obtain ⟨_, _, rfl, s0, rfl⟩ := h; obtain rfl := k24_openM s0; exact rfl
theorem k51_mkM (w : World) (base : Nat) (ok : Nat → Prop) (x : S51)  : k51.M w base ok x [.string x.f0.f0, .string x.f0.f1, .string x.f1] := ⟨[.string x.f0.f0, .string x.f0.f1], [.string x.f1], rfl, (k24_mkM w base ok x.f0 ), rfl⟩
def rd_T51 (xs : List S51) (i : Int) : S51 := xs.getD i.toNat z51
theorem at_T51 {w : World} {A : Option Addr} {n : Nat} {xs : List S51} (h : Kd.C k51 w A n xs) (i : Int) (h0 : 0 ≤ i) (h1 : i < n) : ∃ ad , A = some ad ∧ w.cell? (ad.add (i.toNat * 3)) = some (.string (rd_T51 xs i).f0.f0) ∧ w.cell? ⟨(ad.add (i.toNat * 3)).block, (ad.add (i.toNat * 3)).off + 1, none⟩ = some (.string (rd_T51 xs i).f0.f1) ∧ w.cell? ⟨(ad.add (i.toNat * 3)).block, (ad.add (i.toNat * 3)).off + 2, none⟩ = some (.string (rd_T51 xs i).f1) := by
  obtain ⟨ad, c, e, _, hK, hc0⟩ := Kd.C_get h z51 i h0 h1; have hc : ∀ j u, c[j]? = some u → w.cell? (ad.add (i.toNat * 3 + j)) = some u := hc0; obtain rfl := k51_open hK; exact ⟨ad, e, hc 0 _ rfl, by rw [← add_field _ _ 1 (by omega)]; exact hc 1 _ rfl, by rw [← add_field _ _ 2 (by omega)]; exact hc 2 _ rfl⟩
structure S56 where
  f0 : S24
  f1 : ByteArray
def z56 : S56 := ⟨z24, (⟨#[]⟩ : ByteArray)⟩
def k56 : Kd S56 := Kd.iso (Kd.pair k24 Kd.string) (fun x : S56 => (x.f0, x.f1))
theorem k56_open {w : World} {x : S56} {cs : List Value} (h : k56.K w x cs) : cs = [.string x.f0.f0, .string x.f0.f1, .string x.f1] := by
  obtain ⟨_, _, rfl, s0, rfl⟩ := h; obtain rfl := k24_open s0; exact rfl
theorem k56_mkM (w : World) (base : Nat) (ok : Nat → Prop) (x : S56)  : k56.M w base ok x [.string x.f0.f0, .string x.f0.f1, .string x.f1] := ⟨[.string x.f0.f0, .string x.f0.f1], [.string x.f1], rfl, (k24_mkM w base ok x.f0 ), rfl⟩
def Qap (xs : List S56) (i : Int) : S56 := xs.getD i.toNat z56
theorem at_T56 {w : World} {A : Option Addr} {n : Nat} {xs : List S56} (h : Kd.C k56 w A n xs) (i : Int) (h0 : 0 ≤ i) (h1 : i < n) : ∃ ad , A = some ad ∧ w.cell? (ad.add (i.toNat * 3)) = some (.string (Qap xs i).f0.f0) ∧ w.cell? ⟨(ad.add (i.toNat * 3)).block, (ad.add (i.toNat * 3)).off + 1, none⟩ = some (.string (Qap xs i).f0.f1) ∧ w.cell? ⟨(ad.add (i.toNat * 3)).block, (ad.add (i.toNat * 3)).off + 2, none⟩ = some (.string (Qap xs i).f1) := by
  obtain ⟨ad, c, e, _, hK, hc0⟩ := Kd.C_get h z56 i h0 h1; have hc : ∀ j u, c[j]? = some u → w.cell? (ad.add (i.toNat * 3 + j)) = some u := hc0; obtain rfl := k56_open hK; exact ⟨ad, e, hc 0 _ rfl, by rw [← add_field _ _ 1 (by omega)]; exact hc 1 _ rfl, by rw [← add_field _ _ 2 (by omega)]; exact hc 2 _ rfl⟩
theorem eqA24 (d : Nat) (w : World) (x0 y0 : ByteArray) (x1 y1 : ByteArray) :
    (Op.equalIn (d + 2) 24 (.agg #[.string x0, .string x1]) (.agg #[.string y0, .string y1])).run Tryz.prog w = .ok (x0.toList == y0.toList && (x1.toList == y1.toList)) w := by
  refine eqA_of Tryz.underlying24 (by kernel_rfl) ?_; refine eqf_cons (by rfl) (by go_simp; rfl) (by go_simp; rfl) (by go_simp) ?_; exact eqf_last (by rfl) (by go_simp; rfl) (by go_simp; rfl) (by go_simp)
theorem eqA26 (d : Nat) (w : World) (x0 y0 : Int) (x1 y1 : Int) :
    (Op.equalIn (d + 2) 26 (.agg #[.int .i64 x0, .int .i64 x1]) (.agg #[.int .i64 y0, .int .i64 y1])).run Tryz.prog w = .ok (x0 == y0 && (x1 == y1)) w := by
  refine eqA_of Tryz.underlying26 (by kernel_rfl) ?_; refine eqf_cons (by rfl) (by go_simp; rfl) (by go_simp; rfl) (by go_simp) ?_; exact eqf_last (by rfl) (by go_simp; rfl) (by go_simp; rfl) (by go_simp)
theorem eqA51 (d : Nat) (w : World) (x0 y0 : ByteArray) (x1 y1 : ByteArray) (x2 y2 : ByteArray) :
    (Op.equalIn (d + 3) 51 (.agg #[.string x0, .string x1, .string x2]) (.agg #[.string y0, .string y1, .string y2])).run Tryz.prog w = .ok ((x0.toList == y0.toList && (x1.toList == y1.toList)) && (x2.toList == y2.toList)) w := by
  refine eqA_of Tryz.underlying51 (by kernel_rfl) ?_; refine eqf_cons (by rfl) (by go_simp) (by go_simp) (eqA24 (d + 0) w _ _ _ _) ?_; exact eqf_last (by rfl) (by go_simp; rfl) (by go_simp; rfl) (by go_simp)
theorem eqA56 (d : Nat) (w : World) (x0 y0 : ByteArray) (x1 y1 : ByteArray) (x2 y2 : ByteArray) :
    (Op.equalIn (d + 3) 56 (.agg #[.string x0, .string x1, .string x2]) (.agg #[.string y0, .string y1, .string y2])).run Tryz.prog w = .ok ((x0.toList == y0.toList && (x1.toList == y1.toList)) && (x2.toList == y2.toList)) w := by
  refine eqA_of Tryz.underlying56 (by kernel_rfl) ?_; refine eqf_cons (by rfl) (by go_simp) (by go_simp) (eqA24 (d + 0) w _ _ _ _) ?_; exact eqf_last (by rfl) (by go_simp; rfl) (by go_simp; rfl) (by go_simp)
def liverylaw07_few.f (l0 : List (S42)) : Option ((List (S42))) := if (l0.length : Int) > 14 then (if 14 ≤ (l0.length : Int) then (some (l0.take 14)) else (none)) else (some l0)
set_option maxHeartbeats 8000000 in
set_option maxRecDepth 100000 in
theorem liverylaw07_few.calls (P0_ : Nat → Prop) (A0 : Option Addr) (c0 : Nat) (l0 : List (S42)) (r : List (S42)) (w : World) (hs0 : Kd.V k42 42 w w.heap.size (fun k_ => P0_ k_) (.slice A0 l0.length c0) l0) (h : liverylaw07_few.f l0 = some r) :
  Calls Tryz.prog 4 #[.slice A0 l0.length c0] w fun e w' => ∃ v0_ : Value, e = .returned (v0_) ∧ Kd.V k42 42 w' w.heap.size (fun k_ => (P0_ k_ ∨ w.heap.size ≤ k_)) v0_ r ∧ Below w.heap.size w w' := by
 have HO0 := Qad.mk (show Kd.V k42 42 w w.heap.size (fun k_ => (P0_ k_ ∨ w.heap.size ≤ k_)) (.slice A0 l0.length c0) l0 from Kd.V_mono hs0 (fun k_ hk => .inl hk)); have HB := Qad.mk (Below.refl w.heap.size w); have H : (if (l0.length : Int) > 14 then (if 14 ≤ (l0.length : Int) then (some (l0.take 14)) else (none)) else (some l0)) = some r := h; clear h
 by_cases c2 : (l0.length : Int) > 14
 ·rw [if_pos c2] at H; have c2b0 : decide (14 < (l0.length : Int)) = true := decide_eq_true c2; have c2b1 : decide (14 < l0.length) = true := decide_eq_true (by omega); clear c2
  by_cases c3 : 14 ≤ (l0.length : Int)
  ·rw [if_pos c3] at H; have c3b0 := eq_true c3; have c3b1 : decide (14 ≤ (l0.length : Int)) = true := decide_eq_true c3; clear c3
   obtain ⟨y101, hy101⟩ : ∃ y_ : List (S42), y_ = (l0.take 14) := ⟨_, rfl⟩
   replace H : (some y101) = some r := by first | (rw [hy101]; with_reducible exact H) | (have H2_ := (Option.bind_some _ _).symm.trans H; rw [hy101]; with_reducible exact H2_) | (have H2_ := (Option.bind_some _ _).symm.trans H; with_reducible exact H2_) | with_reducible exact H | (rw [hy101]; exact H) | exact H
   have Ny101 := Qad.mk hy101; clear hy101; obtain rfl := Option.some.inj H; have q4 : (14 : Int) ≤ ((l0.length : Int) : Int) := of_decide_eq_true (by first | (with_reducible assumption) | assumption); obtain ⟨i04, hi04, _, hsz4, _⟩ := info_parts info42; have hroom4 : l0.length ≤ c0 := (Kd.V_reads' HO0.out).2.1; have hC4 : Kd.F k42 _ _ A0 l0.length l0 := (Kd.V_at (base := w.heap.size) HO0.out).2.2; have hcut4 := cut_to (P := Tryz.prog) 22 42 .i64 Tryz.underlying22 hi04 A0 l0.length c0 14 (by omega) q4 hroom4; have hr4 := Kd.F_take (m := 14) hC4 (by omega)
   have hy4 : y101.length = (14 : Int).toNat := (by rw [Ny101.out, List.length_take]; omega)
   rw [← Ny101.out] at hr4; rw [← hy4] at hcut4; have HO105 := Qad.mk (show Kd.V k42 42 _ w.heap.size _ (.slice A0 y101.length c0) y101 from Kd.V_mk (by omega) hr4); have HC105 := Qad.mk (show y101.length ≤ c0 from by omega); clear hr4 hC4 hroom4 hi04 hsz4; have KY4 := Qad.mk hy4; clear hy4; replace q4 := eq_true q4; go_enter Tryz.func4, Tryz.ntmps4; go_wp2; go_ret; exact ⟨_, by first | rfl | (simp [Qar, Qaq] <;> rfl) | (simp [*, Qar, Qaq] <;> rfl), by (with_reducible repeat (first | apply Kd.V_alloc | apply Kd.V_drewN | apply Kd.V_drew)); exact HO105.out, by repeat (first | (with_reducible first | exact HB.out | apply Qab | apply Qaa | apply Qac) | exact HB.out)⟩
  ·rw [if_neg c3] at H; exact absurd H (by simp)
 ·rw [if_neg c2] at H; have c2b0 : decide (14 < (l0.length : Int)) = false := decide_eq_false c2; have c2b1 : decide (14 < l0.length) = false := decide_eq_false (by omega); clear c2; obtain rfl := Option.some.inj H; go_enter Tryz.func4, Tryz.ntmps4; go_wp2; go_ret; exact ⟨_, by first | rfl | (simp [Qar, Qaq] <;> rfl) | (simp [*, Qar, Qaq] <;> rfl), by (with_reducible repeat (first | apply Kd.V_alloc | apply Kd.V_drewN | apply Kd.V_drew)); exact HO0.out, by repeat (first | (with_reducible first | exact HB.out | apply Qab | apply Qaa | apply Qac) | exact HB.out)⟩
mutual
def QaV.l0 : Nat → Int → Int → Int → ByteArray → ByteArray → ByteArray → Int → Int → List (S29) → Option (Int)
 | 0, _, _, _, _, _, _, _, _, _ => none
 | k + 1, x1, x5, x6, x102000, x102001, x102002, x102003, x102004, x102005 => if x6 < (x102005.length : Int) then (if x5 ≥ x1 then (some (-1)) else (if 0 ≤ x6 then ((QaV.f k ((QaF x102005 x6).f0.f0) ((QaF x102005 x6).f0.f1) ((QaF x102005 x6).f1) ((QaF x102005 x6).f2.f0) ((QaF x102005 x6).f2.f1) ((QaF x102005 x6).f3) (wrap64 (x1 - x5))).bind fun t103 => (if t103 < 0 then (some (-1)) else (QaV.l0 k x1 (wrap64 (x5 + t103)) (wrap64 (x6 + 1)) x102000 x102001 x102002 x102003 x102004 x102005))) else (none))) else (if x5 > x1 then (some (-1)) else (some x5))
def QaV.f : Nat → ByteArray → ByteArray → ByteArray → Int → Int → List (S29) → Int → Option (Int)
 | 0, _, _, _, _, _, _, _ => none
 | k + 1, a0_0, a0_1, a0_2, a0_3, a0_4, l0_5, a1 => QaV.l0 k a1 1 0 a0_0 a0_1 a0_2 a0_3 a0_4 l0_5
end
set_option maxHeartbeats 8000000 in
set_option maxRecDepth 100000 in
theorem QaV.calls (k : Nat) : ∀ (a0_0 : ByteArray) (a0_1 : ByteArray) (a0_2 : ByteArray) (a0_3 : Int) (a0_4 : Int) (A0_5 : Option Addr) (c0_5 : Nat) (l0_5 : List (S29)) (a1 : Int) (r : Int) (w : World) (hr0_5 : Kd.C k29 w A0_5 l0_5.length l0_5) (hc0_5 : l0_5.length ≤ c0_5) (h : QaV.f k a0_0 a0_1 a0_2 a0_3 a0_4 l0_5 a1 = some r),
  Calls Tryz.prog 10 #[.agg #[.string a0_0, .string a0_1, .string a0_2, .int .i64 a0_3, .int .i64 a0_4, .slice A0_5 l0_5.length c0_5], .int .i64 a1] w fun e w' => e = .returned (.int .i64 r) ∧ Below w.heap.size w w' := by
 induction k using Nat.strongRecOn with
 | _ k ih =>
 intro a0_0 a0_1 a0_2 a0_3 a0_4 A0_5 c0_5 l0_5 a1 r w hr0_5 hc0_5 h
 cases k with
 | zero => exact absurd h (by simp [QaV.f])
 | succ k =>
 simp only [QaV.f] at h; have hu29 := Tryz.underlying29; have HR0_5 := Qad.mk hr0_5; have HC0_5 := Qad.mk hc0_5; clear hr0_5 hc0_5; have HB := Qad.mk (Below.refl w.heap.size w); have H : (QaV.l0 k a1 1 0 a0_0 a0_1 a0_2 a0_3 a0_4 l0_5) = some r := h; clear h; have H' := Qad.mk H; clear H; go_enter Tryz.func10, Tryz.ntmps10
 go_wp2_with (first | ((with_reducible refine QaN (N := 2) rfl ?_); refine QaK ?hg (N := 2) ?hd (cs := #[.string a0_0, .string a0_1, .string a0_2, .int .i64 a0_3, .int .i64 a0_4, .slice A0_5 l0_5.length c0_5]) (t := 29) ?hr ?_; (case hd => rfl); (case hg => rfl); (case hr => first | (go_simp; done) | (go_simp; rfl)); intro gb101 hg w3 hbox hb; have n0_ := Qad.mk (Qak (by repeat (first | (with_reducible first | exact HB.out | apply Qab | apply Qaa | apply Qac) | exact HB.out)) hb); have n1_ := Qad.mk (hbox); have n2_ := Qad.mk ((by rw [hg]; exact (Qas (by repeat (first | (with_reducible first | exact HB.out | apply Qab | apply Qaa | apply Qac) | exact HB.out))) : w.heap.size ≤ gb101)); have n3_ := n2_; clear HB; have HB := n0_; have BK101 := n1_; have GW101 := n2_; have GE101 := n3_; clear n0_ n1_ n2_ n3_; clear hb hbox hg))
 go_loopg [5, 6] k (fun kq v5 v6 w' => ∃ (x5_1 : Int) (x6_1 : Int), v5 = .int .i64 x5_1 ∧ v6 = .int .i64 x6_1 ∧ Qad (QaV.l0 kq a1 x5_1 x6_1 a0_0 a0_1 a0_2 a0_3 a0_4 l0_5 = some r) ∧ Qad (kq ≤ k) ∧ Qad (w'.heap[gb101]? = some (.cells #[.string a0_0, .string a0_1, .string a0_2, .int .i64 a0_3, .int .i64 a0_4, (.slice A0_5 l0_5.length c0_5)] 29 (0, 0))) ∧ Qad (Below w.heap.size w w'))
 case atStart => exact ⟨(1), (0), (by first | rfl | (simp; done) | (simp [*]; done)), (by first | rfl | (simp; done) | (simp [*]; done)), H', ⟨Nat.le_refl _⟩, ⟨by (with_reducible repeat (first | refine Qag ?_ _ | refine Qah ?_ | refine Qaf ?_ _)); exact BK101.out⟩, ⟨by repeat (first | (with_reducible first | exact HB.out | apply Qab | apply Qaa | apply Qac | refine Qai ?_ GE101.out) | exact HB.out)⟩⟩
 case round =>
  clear H'; (try clear c1); (try clear p2); obtain ⟨x5_1, x6_1, rfl, rfl, HA, HK1, BK101, HB⟩ := hrel
  cases gk with
  | zero => exact absurd HA.out (by simp [QaV.l0])
  | succ k1 =>
   have H := HA.out; clear HA; simp only [QaV.l0] at H
   by_cases c4 : x6_1 < (l0_5.length : Int)
   ·rw [if_pos c4] at H; have c4b0 : decide (x6_1 < (l0_5.length : Int)) = true := decide_eq_true c4; clear c4
    by_cases c5 : x5_1 ≥ a1
    ·rw [if_pos c5] at H; have c5b0 : decide (a1 ≤ x5_1) = true := decide_eq_true c5; clear c5; obtain rfl := Option.some.inj H; have hcz6_0 : wr.cell? ⟨gb101, 0, none⟩ = some (.string a0_0) := (Qaj BK101.out 0).trans rfl; have hcz6_1 : wr.cell? ⟨gb101, 1, none⟩ = some (.string a0_1) := (Qaj BK101.out 1).trans rfl; have hcz6_2 : wr.cell? ⟨gb101, 2, none⟩ = some (.string a0_2) := (Qaj BK101.out 2).trans rfl; have hcz6_3 : wr.cell? ⟨gb101, 3, none⟩ = some (.int .i64 a0_3) := (Qaj BK101.out 3).trans rfl; have hcz6_4 : wr.cell? ⟨gb101, 4, none⟩ = some (.int .i64 a0_4) := (Qaj BK101.out 4).trans rfl; have hcz6_5 : wr.cell? ⟨gb101, 5, none⟩ = some (.slice A0_5 l0_5.length c0_5) := (Qaj BK101.out 5).trans rfl; obtain ⟨hfz6_0, hfz6_1, hfz6_2, hfz6_3, hfz6_4, hfz6_5⟩ := fz_6 BK101.out; go_wp2; go_ret; exact ⟨by first | rfl | (simp [Qar, Qaq] <;> rfl) | (simp [*, Qar, Qaq] <;> rfl), by repeat (first | (with_reducible first | exact HB.out | apply Qab | apply Qaa | apply Qac | refine Qai ?_ GE101.out) | exact HB.out)⟩
    ·rw [if_neg c5] at H; have c5b0 : decide (a1 ≤ x5_1) = false := decide_eq_false c5; clear c5
     by_cases c7 : 0 ≤ x6_1
     ·rw [if_pos c7] at H; have c7b0 : decide (0 ≤ x6_1) = true := decide_eq_true c7; clear c7; replace H := Option.bind_eq_some_iff.mp H; obtain ⟨t103, A80, H⟩ := H; replace H : (if t103 < 0 then (some (-1)) else (QaV.l0 k1 a1 (wrap64 (x5_1 + t103)) (wrap64 (x6_1 + 1)) a0_0 a0_1 a0_2 a0_3 a0_4 l0_5)) = some r := H; have A8 := Qad.mk A80; clear A80
      by_cases c9 : t103 < 0
      ·rw [if_pos c9] at H; have c9b0 : decide (t103 < 0) = true := decide_eq_true c9; clear c9; obtain rfl := Option.some.inj H; have hcz10_0 : wr.cell? ⟨gb101, 0, none⟩ = some (.string a0_0) := (Qaj BK101.out 0).trans rfl; have hcz10_1 : wr.cell? ⟨gb101, 1, none⟩ = some (.string a0_1) := (Qaj BK101.out 1).trans rfl; have hcz10_2 : wr.cell? ⟨gb101, 2, none⟩ = some (.string a0_2) := (Qaj BK101.out 2).trans rfl; have hcz10_3 : wr.cell? ⟨gb101, 3, none⟩ = some (.int .i64 a0_3) := (Qaj BK101.out 3).trans rfl; have hcz10_4 : wr.cell? ⟨gb101, 4, none⟩ = some (.int .i64 a0_4) := (Qaj BK101.out 4).trans rfl; have hcz10_5 : wr.cell? ⟨gb101, 5, none⟩ = some (.slice A0_5 l0_5.length c0_5) := (Qaj BK101.out 5).trans rfl; obtain ⟨hfz10_0, hfz10_1, hfz10_2, hfz10_3, hfz10_4, hfz10_5⟩ := fz_6 BK101.out; have p102 : 0 ≤ (x6_1 : Int) := of_decide_eq_true (by first | (with_reducible assumption) | assumption); have q102 : x6_1 < (l0_5.length : Int) := of_decide_eq_true (by first | (with_reducible assumption) | assumption); obtain ⟨ad102, A102_5, c102_5, e102, hx102_0, hx102_1, hx102_2, hx102_3, hx102_4, hx102_5, hl102_5, hi102_5⟩ := at_T29 HR0_5.out x6_1 p102 q102; cases e102; replace hx102_0 := (HB.out.cell (World.block_lt_of_cell? w _ hx102_0)).trans hx102_0; replace hx102_1 := (HB.out.cell (World.block_lt_of_cell? w _ hx102_1)).trans hx102_1
       replace hx102_2 := (HB.out.cell (World.block_lt_of_cell? w _ hx102_2)).trans hx102_2; replace hx102_3 := (HB.out.cell (World.block_lt_of_cell? w _ hx102_3)).trans hx102_3; replace hx102_4 := (HB.out.cell (World.block_lt_of_cell? w _ hx102_4)).trans hx102_4; replace hx102_5 := (HB.out.cell (World.block_lt_of_cell? w _ hx102_5)).trans hx102_5; have HR102_5 := Qad.mk hi102_5; have HC102_5 := Qad.mk hl102_5; clear hi102_5 hl102_5; replace p102 := eq_true p102; replace q102 := eq_true q102
       go_wp2_with (first | ((with_reducible refine QaO (f := 10) rfl ?_); refine goesL_ (some 26) rfl rfl Tryz.func10 (by kernel_rfl) rfl #[.agg #[.string ((QaF l0_5 x6_1).f0.f0), .string ((QaF l0_5 x6_1).f0.f1), .string ((QaF l0_5 x6_1).f1), .int .i64 ((QaF l0_5 x6_1).f2.f0), .int .i64 ((QaF l0_5 x6_1).f2.f1), .slice A102_5 ((QaF l0_5 x6_1).f3).length c102_5], .int .i64 (wrap64 (a1 - x5_1))] rfl (by (try simp only [List.map_toArray, List.map_cons, List.map_nil]); first | done | rfl | (simp only [List.length_drop, List.length_take]; rfl)) ?_; (with_reducible refine (ih k1 (by have := HK1.out; omega) ((QaF l0_5 x6_1).f0.f0) ((QaF l0_5 x6_1).f0.f1) ((QaF l0_5 x6_1).f1) ((QaF l0_5 x6_1).f2.f0) ((QaF l0_5 x6_1).f2.f1) _ _ ((QaF l0_5 x6_1).f3) (wrap64 (a1 - x5_1)) t103 _ ?side1 ?side2 A8.out).mono ?_); (case side1 => repeat (first | exact (Kd.C_below HR102_5.out HB.out) | (with_reducible refine Kd.C_alloc ?_ _) | (with_reducible refine Kd.C_drewN ?_ _) | (with_reducible refine Kd.C_drew ?_))); (case side2 => exact HC102_5.out); rintro e w11 ⟨rfl, hb⟩; refine ⟨_, rfl, ?_⟩; have n0_ := Qad.mk (Qal (g := gb101) (o := ob_sssiiv a0_0 a0_1 a0_2 a0_3 a0_4 (.slice (some ad102) l0_5.length c0_5) 29) (by (with_reducible repeat (first | refine Qag ?_ _ | refine Qah ?_ | refine Qaf ?_ _)); exact BK101.out) hb); have n1_ := Qad.mk (Qak (by repeat (first | (with_reducible first | exact HB.out | apply Qab | apply Qaa | apply Qac | refine Qai ?_ GE101.out) | exact HB.out)) hb); clear BK101; clear HB; have BK101 := n0_; have HB := n1_; clear n0_ n1_; (try clear hb); (try clear hb2); (try clear hk); (try clear hi)))
       go_ret; exact ⟨by first | rfl | (simp [Qar, Qaq] <;> rfl) | (simp [*, Qar, Qaq] <;> rfl), by repeat (first | (with_reducible first | exact HB.out | apply Qab | apply Qaa | apply Qac | refine Qai ?_ GE101.out) | exact HB.out)⟩
      ·rw [if_neg c9] at H; have c9b0 : decide (t103 < 0) = false := decide_eq_false c9; clear c9; have H' := Qad.mk H; clear H; have hcz12_0 : wr.cell? ⟨gb101, 0, none⟩ = some (.string a0_0) := (Qaj BK101.out 0).trans rfl; have hcz12_1 : wr.cell? ⟨gb101, 1, none⟩ = some (.string a0_1) := (Qaj BK101.out 1).trans rfl; have hcz12_2 : wr.cell? ⟨gb101, 2, none⟩ = some (.string a0_2) := (Qaj BK101.out 2).trans rfl; have hcz12_3 : wr.cell? ⟨gb101, 3, none⟩ = some (.int .i64 a0_3) := (Qaj BK101.out 3).trans rfl; have hcz12_4 : wr.cell? ⟨gb101, 4, none⟩ = some (.int .i64 a0_4) := (Qaj BK101.out 4).trans rfl; have hcz12_5 : wr.cell? ⟨gb101, 5, none⟩ = some (.slice A0_5 l0_5.length c0_5) := (Qaj BK101.out 5).trans rfl; obtain ⟨hfz12_0, hfz12_1, hfz12_2, hfz12_3, hfz12_4, hfz12_5⟩ := fz_6 BK101.out; have p102 : 0 ≤ (x6_1 : Int) := of_decide_eq_true (by first | (with_reducible assumption) | assumption); have q102 : x6_1 < (l0_5.length : Int) := of_decide_eq_true (by first | (with_reducible assumption) | assumption); obtain ⟨ad102, A102_5, c102_5, e102, hx102_0, hx102_1, hx102_2, hx102_3, hx102_4, hx102_5, hl102_5, hi102_5⟩ := at_T29 HR0_5.out x6_1 p102 q102; cases e102; replace hx102_0 := (HB.out.cell (World.block_lt_of_cell? w _ hx102_0)).trans hx102_0; replace hx102_1 := (HB.out.cell (World.block_lt_of_cell? w _ hx102_1)).trans hx102_1
       replace hx102_2 := (HB.out.cell (World.block_lt_of_cell? w _ hx102_2)).trans hx102_2; replace hx102_3 := (HB.out.cell (World.block_lt_of_cell? w _ hx102_3)).trans hx102_3; replace hx102_4 := (HB.out.cell (World.block_lt_of_cell? w _ hx102_4)).trans hx102_4; replace hx102_5 := (HB.out.cell (World.block_lt_of_cell? w _ hx102_5)).trans hx102_5; have HR102_5 := Qad.mk hi102_5; have HC102_5 := Qad.mk hl102_5; clear hi102_5 hl102_5; replace p102 := eq_true p102; replace q102 := eq_true q102
       go_wp2_with (first | ((with_reducible refine QaO (f := 10) rfl ?_); refine goesL_ (some 26) rfl rfl Tryz.func10 (by kernel_rfl) rfl #[.agg #[.string ((QaF l0_5 x6_1).f0.f0), .string ((QaF l0_5 x6_1).f0.f1), .string ((QaF l0_5 x6_1).f1), .int .i64 ((QaF l0_5 x6_1).f2.f0), .int .i64 ((QaF l0_5 x6_1).f2.f1), .slice A102_5 ((QaF l0_5 x6_1).f3).length c102_5], .int .i64 (wrap64 (a1 - x5_1))] rfl (by (try simp only [List.map_toArray, List.map_cons, List.map_nil]); first | done | rfl | (simp only [List.length_drop, List.length_take]; rfl)) ?_; (with_reducible refine (ih k1 (by have := HK1.out; omega) ((QaF l0_5 x6_1).f0.f0) ((QaF l0_5 x6_1).f0.f1) ((QaF l0_5 x6_1).f1) ((QaF l0_5 x6_1).f2.f0) ((QaF l0_5 x6_1).f2.f1) _ _ ((QaF l0_5 x6_1).f3) (wrap64 (a1 - x5_1)) t103 _ ?side1 ?side2 A8.out).mono ?_); (case side1 => repeat (first | exact (Kd.C_below HR102_5.out HB.out) | (with_reducible refine Kd.C_alloc ?_ _) | (with_reducible refine Kd.C_drewN ?_ _) | (with_reducible refine Kd.C_drew ?_))); (case side2 => exact HC102_5.out); rintro e w13 ⟨rfl, hb⟩; refine ⟨_, rfl, ?_⟩; have n0_ := Qad.mk (Qal (g := gb101) (o := ob_sssiiv a0_0 a0_1 a0_2 a0_3 a0_4 (.slice (some ad102) l0_5.length c0_5) 29) (by (with_reducible repeat (first | refine Qag ?_ _ | refine Qah ?_ | refine Qaf ?_ _)); exact BK101.out) hb); have n1_ := Qad.mk (Qak (by repeat (first | (with_reducible first | exact HB.out | apply Qab | apply Qaa | apply Qac | refine Qai ?_ GE101.out) | exact HB.out)) hb); clear BK101; clear HB; have BK101 := n0_; have HB := n1_; clear n0_ n1_; (try clear hb); (try clear hb2); (try clear hk); (try clear hi)))
       go_roundg k1
       case measure => have := HK1.out; omega
       case rel => exact ⟨(wrap64 (x5_1 + t103)), (wrap64 (x6_1 + 1)), (by first | rfl | (simp; done) | (simp [*]; done)), (by first | rfl | (simp; done) | (simp [*]; done)), H', ⟨by have := HK1.out; omega⟩, ⟨by (with_reducible repeat (first | refine Qag ?_ _ | refine Qah ?_ | refine Qaf ?_ _)); exact BK101.out⟩, ⟨by repeat (first | (with_reducible first | exact HB.out | apply Qab | apply Qaa | apply Qac | refine Qai ?_ GE101.out) | exact HB.out)⟩⟩
     ·rw [if_neg c7] at H; exact absurd H (by simp)
   ·rw [if_neg c4] at H; have c4b0 : decide (x6_1 < (l0_5.length : Int)) = false := decide_eq_false c4; clear c4
    by_cases c14 : x5_1 > a1
    ·rw [if_pos c14] at H; have c14b0 : decide (a1 < x5_1) = true := decide_eq_true c14; clear c14; obtain rfl := Option.some.inj H; have hcz15_0 : wr.cell? ⟨gb101, 0, none⟩ = some (.string a0_0) := (Qaj BK101.out 0).trans rfl; have hcz15_1 : wr.cell? ⟨gb101, 1, none⟩ = some (.string a0_1) := (Qaj BK101.out 1).trans rfl; have hcz15_2 : wr.cell? ⟨gb101, 2, none⟩ = some (.string a0_2) := (Qaj BK101.out 2).trans rfl; have hcz15_3 : wr.cell? ⟨gb101, 3, none⟩ = some (.int .i64 a0_3) := (Qaj BK101.out 3).trans rfl; have hcz15_4 : wr.cell? ⟨gb101, 4, none⟩ = some (.int .i64 a0_4) := (Qaj BK101.out 4).trans rfl; have hcz15_5 : wr.cell? ⟨gb101, 5, none⟩ = some (.slice A0_5 l0_5.length c0_5) := (Qaj BK101.out 5).trans rfl; obtain ⟨hfz15_0, hfz15_1, hfz15_2, hfz15_3, hfz15_4, hfz15_5⟩ := fz_6 BK101.out; go_wp2; go_ret; exact ⟨by first | rfl | (simp [Qar, Qaq] <;> rfl) | (simp [*, Qar, Qaq] <;> rfl), by repeat (first | (with_reducible first | exact HB.out | apply Qab | apply Qaa | apply Qac | refine Qai ?_ GE101.out) | exact HB.out)⟩
    ·rw [if_neg c14] at H; have c14b0 : decide (a1 < x5_1) = false := decide_eq_false c14; clear c14; obtain rfl := Option.some.inj H; have hcz16_0 : wr.cell? ⟨gb101, 0, none⟩ = some (.string a0_0) := (Qaj BK101.out 0).trans rfl; have hcz16_1 : wr.cell? ⟨gb101, 1, none⟩ = some (.string a0_1) := (Qaj BK101.out 1).trans rfl; have hcz16_2 : wr.cell? ⟨gb101, 2, none⟩ = some (.string a0_2) := (Qaj BK101.out 2).trans rfl; have hcz16_3 : wr.cell? ⟨gb101, 3, none⟩ = some (.int .i64 a0_3) := (Qaj BK101.out 3).trans rfl; have hcz16_4 : wr.cell? ⟨gb101, 4, none⟩ = some (.int .i64 a0_4) := (Qaj BK101.out 4).trans rfl; have hcz16_5 : wr.cell? ⟨gb101, 5, none⟩ = some (.slice A0_5 l0_5.length c0_5) := (Qaj BK101.out 5).trans rfl; obtain ⟨hfz16_0, hfz16_1, hfz16_2, hfz16_3, hfz16_4, hfz16_5⟩ := fz_6 BK101.out; go_wp2; go_ret; exact ⟨by first | rfl | (simp [Qar, Qaq] <;> rfl) | (simp [*, Qar, Qaq] <;> rfl), by repeat (first | (with_reducible first | exact HB.out | apply Qab | apply Qaa | apply Qac | refine Qai ?_ GE101.out) | exact HB.out)⟩
def liverylaw07_small.f (k : Nat) (a0_0 : ByteArray) (a0_1 : ByteArray) (a0_2 : ByteArray) (a0_3 : Int) (a0_4 : Int) (l0_5 : List (S29)) : Option (Bool) := (QaV.f k a0_0 a0_1 a0_2 a0_3 a0_4 l0_5 60).bind fun t102 => (some (decide (t102 > 0)))
set_option maxHeartbeats 8000000 in
set_option maxRecDepth 100000 in
theorem liverylaw07_small.calls (k : Nat) (a0_0 : ByteArray) (a0_1 : ByteArray) (a0_2 : ByteArray) (a0_3 : Int) (a0_4 : Int) (A0_5 : Option Addr) (c0_5 : Nat) (l0_5 : List (S29)) (r : Bool) (w : World) (hr0_5 : Kd.C k29 w A0_5 l0_5.length l0_5) (hc0_5 : l0_5.length ≤ c0_5) (h : liverylaw07_small.f k a0_0 a0_1 a0_2 a0_3 a0_4 l0_5 = some r) :
  Calls Tryz.prog 5 #[.agg #[.string a0_0, .string a0_1, .string a0_2, .int .i64 a0_3, .int .i64 a0_4, .slice A0_5 l0_5.length c0_5]] w fun e w' => e = .returned (.bool r) ∧ Below w.heap.size w w' := by
 have hu29 := Tryz.underlying29; have HR0_5 := Qad.mk hr0_5; have HC0_5 := Qad.mk hc0_5; clear hr0_5 hc0_5; have HB := Qad.mk (Below.refl w.heap.size w); have H : ((QaV.f k a0_0 a0_1 a0_2 a0_3 a0_4 l0_5 60).bind fun t102 => (some (decide (t102 > 0)))) = some r := h; clear h; replace H := Option.bind_eq_some_iff.mp H; obtain ⟨t102, A20, H⟩ := H; replace H : (some (decide (t102 > 0))) = some r := H; have A2 := Qad.mk A20; clear A20; obtain rfl := Option.some.inj H; go_enter Tryz.func5, Tryz.ntmps5
 go_wp2_with (first | ((with_reducible refine QaN (N := 1) rfl ?_); refine QaK ?hg (N := 1) ?hd (cs := #[.string a0_0, .string a0_1, .string a0_2, .int .i64 a0_3, .int .i64 a0_4, .slice A0_5 l0_5.length c0_5]) (t := 29) ?hr ?_; (case hd => rfl); (case hg => rfl); (case hr => first | (go_simp; done) | (go_simp; rfl)); intro gb101 hg w3 hbox hb; have n0_ := Qad.mk (Qak (by repeat (first | (with_reducible first | exact HB.out | apply Qab | apply Qaa | apply Qac) | exact HB.out)) hb); have n1_ := Qad.mk (hbox); have n2_ := Qad.mk ((by rw [hg]; exact (Qas (by repeat (first | (with_reducible first | exact HB.out | apply Qab | apply Qaa | apply Qac) | exact HB.out))) : w.heap.size ≤ gb101)); have n3_ := n2_; clear HB; have HB := n0_; have BK101 := n1_; have GW101 := n2_; have GE101 := n3_; clear n0_ n1_ n2_ n3_; clear hb hbox hg; obtain ⟨hcz4_0, hcz4_1, hcz4_2, hcz4_3, hcz4_4, hcz4_5⟩ := cz_sssiiv BK101.out; obtain ⟨hfz4_0, hfz4_1, hfz4_2, hfz4_3, hfz4_4, hfz4_5⟩ := fz_6 BK101.out) | ((with_reducible refine QaO (f := 10) rfl ?_); refine goesL_ (some 4) rfl rfl Tryz.func10 (by kernel_rfl) rfl #[.agg #[.string a0_0, .string a0_1, .string a0_2, .int .i64 a0_3, .int .i64 a0_4, .slice A0_5 l0_5.length c0_5], .int .i64 60] rfl (by (try simp only [List.map_toArray, List.map_cons, List.map_nil]); first | done | rfl | (simp only [List.length_drop, List.length_take]; rfl)) ?_; (with_reducible refine (QaV.calls k a0_0 a0_1 a0_2 a0_3 a0_4 _ _ l0_5 60 t102 _ ?side1 ?side2 A2.out).mono ?_); (case side1 => repeat (first | exact (Kd.C_below HR0_5.out HB.out) | (with_reducible refine Kd.C_alloc ?_ _) | (with_reducible refine Kd.C_drewN ?_ _) | (with_reducible refine Kd.C_drew ?_))); (case side2 => exact HC0_5.out); rintro e w5 ⟨rfl, hb⟩; refine ⟨_, rfl, ?_⟩; have n0_ := Qad.mk (Qal (g := gb101) (o := ob_sssiiv a0_0 a0_1 a0_2 a0_3 a0_4 (.slice A0_5 l0_5.length c0_5) 29) (by (with_reducible repeat (first | refine Qag ?_ _ | refine Qah ?_ | refine Qaf ?_ _)); exact BK101.out) hb); have n1_ := Qad.mk (Qak (by repeat (first | (with_reducible first | exact HB.out | apply Qab | apply Qaa | apply Qac | refine Qai ?_ GE101.out) | exact HB.out)) hb); clear BK101; clear HB; have BK101 := n0_; have HB := n1_; clear n0_ n1_; (try clear hb); (try clear hb2); (try clear hk); (try clear hi)))
 go_ret; exact ⟨by first | rfl | (simp [Qar, Qaq] <;> rfl) | (simp [*, Qar, Qaq] <;> rfl), by repeat (first | (with_reducible first | exact HB.out | apply Qab | apply Qaa | apply Qac | refine Qai ?_ GE101.out) | exact HB.out)⟩
end Go.Proofs.YtmaipohgahdclaaGreatDoor.Pr
end
section
namespace Go.Proofs.YtmaipohgahdclaaGreatDoor
open Go.RowKit
def domName (n : Int) : ByteArray :=
  if n = 1 then ⟨#[100, 49]⟩ else if n = 2 then ⟨#[100, 50]⟩ else if n = 3 then ⟨#[100, 51]⟩ else if n = 4 then ⟨#[100, 52]⟩
  else if n = 5 then ⟨#[100, 53]⟩ else if n = 6 then ⟨#[100, 54]⟩ else if n = 7 then ⟨#[100, 55]⟩ else if n = 8 then ⟨#[100, 56]⟩
  else if n = 9 then ⟨#[100, 57]⟩ else if n = 10 then ⟨#[100, 49, 48]⟩ else if n = 11 then ⟨#[100, 49, 49]⟩ else if n = 12 then ⟨#[100, 49, 50]⟩
  else if n = 13 then ⟨#[100, 49, 51]⟩ else if n = 14 then ⟨#[100, 49, 52]⟩ else if n = 15 then ⟨#[100, 49, 53]⟩ else if n = 16 then ⟨#[100, 49, 54]⟩
  else ⟨#[]⟩
theorem domName_out (n : Int) (h : n < 1 ∨ 16 < n) : domName n = ⟨#[]⟩ := by
  unfold domName
  repeat rw [if_neg (by omega)]
set_option maxRecDepth 100000 in
theorem domain_walk (n : Int) (w : World) : Calls Tryz.prog 43 #[.int .i64 n] w fun e w' => e = .returned (.string (domName n)) ∧ w = w' := by
  by_cases h : n < 1 ∨ 16 < n
  · have H := Lib.hid (domName_out n h)
    rcases h with h | h
    · have h1 : decide (n < 1) = true := decide_eq_true h
      go_enter Tryz.func43, Tryz.ntmps43; go_wp2; go_ret; exact ⟨by rw [H.out]; rfl, rfl⟩
    · have h1 : decide (n < 1) = false := decide_eq_false (by omega)
      have h2 : decide (16 < n) = true := decide_eq_true h; go_enter Tryz.func43, Tryz.ntmps43; go_wp2; go_ret; exact ⟨by rw [H.out]; rfl, rfl⟩
  · have h' : n = 1 ∨ n = 2 ∨ n = 3 ∨ n = 4 ∨ n = 5 ∨ n = 6 ∨ n = 7 ∨ n = 8 ∨ n = 9 ∨ n = 10 ∨ n = 11 ∨ n = 12 ∨ n = 13 ∨ n = 14 ∨ n = 15 ∨ n = 16 := by omega
    clear h
    rcases h' with rfl | rfl | rfl | rfl | rfl | rfl | rfl | rfl | rfl | rfl | rfl | rfl | rfl | rfl | rfl | rfl
    all_goals
      go_enter Tryz.func43, Tryz.ntmps43; go_wp2; go_ret; exact ⟨by first | rfl | decide, rfl⟩
end Go.Proofs.YtmaipohgahdclaaGreatDoor
end
section
namespace Go.Proofs.YtmaipohgahdclaaGreatDoor.Pr
open Go.RowKit Go.Proofs.YtmaipohgahdclaaGreatDoorW.PrintWords Go.Proofs.YtmaipohgahdclaaGreatDoorW.PrintLast Go.Proofs.YtmaipohgahdclaaGreatDoorW.PrintMore
attribute [local go_sem] QaU QaS max_two min_two QaM QaL QaT QaR
set_option linter.unusedVariables false
set_option linter.unusedSimpArgs false
def names_Domain.f (a0 : Int) : Option ByteArray := some (domName a0)
theorem names_Domain.calls (a0 : Int) (r : ByteArray) (w : World) (h : names_Domain.f a0 = some r) :
    Calls Tryz.prog 43 #[.int .i64 a0] w fun e w' => e = .returned (.string r) ∧ Drawn0 w w' := by
  obtain rfl := Option.some.inj h
  exact (domain_walk a0 w).mono fun e w' ⟨he, hw⟩ => ⟨he, by rw [hw]; exact Drawn0.refl _⟩
def cred_Role.f (a0_0 : Int) (a0_1 : Int) (a0_2 : ByteArray) (a0_3 : Int) (a0_4 : ByteArray) (a0_5 : ByteArray) (a0_6 : ByteArray) (a0_7 : ByteArray) (a0_8 : ByteArray) : Option (ByteArray × ByteArray) := (names_Domain.f a0_0).bind fun t103 => (some (t103, a0_2))
def cred_Role.T1 : Bool × List (List Nat × List Nat) := (true, [([], []), ([0], [0]), ([1], [1]), ([2], [2]), ([], []), ([4], [4]), ([3, 5], [3, 5]), ([6, 3, 0, 1, 2, 3, 4, 5, 6], [6])])
def cred_Role.B1 : List Nat := [0, 1, 3, 7, 0, 16, 63, 127]
theorem cred_Role.tab1 : rtab .any (opsOf Tryz.f23 1) = cred_Role.T1 := by kernel_rfl
theorem cred_Role.bits1 : waitsOk cred_Role.T1.2 cred_Role.B1 = true := by kernel_rfl
set_option maxHeartbeats 8000000 in
set_option maxRecDepth 100000 in
theorem cred_Role.calls (a0_0 : Int) (a0_1 : Int) (a0_2 : ByteArray) (a0_3 : Int) (a0_4 : ByteArray) (a0_5 : ByteArray) (a0_6 : ByteArray) (a0_7 : ByteArray) (a0_8 : ByteArray) (r1 : ByteArray) (r2 : ByteArray) (w : World) (h : cred_Role.f a0_0 a0_1 a0_2 a0_3 a0_4 a0_5 a0_6 a0_7 a0_8 = some (r1, r2)) :
  Calls Tryz.prog 23 #[.agg #[.int .i64 a0_0, .int .i64 a0_1, .string a0_2, .int .i64 a0_3, .string a0_4, .string a0_5, .string a0_6, .string a0_7, .string a0_8]] w fun e w' => e = .returned (.agg #[.string r1, .string r2]) ∧ Below w.heap.size w w' := by
 have hu42 := Tryz.underlying42; have hu24 := Tryz.underlying24; have HB := Qad.mk (Below.refl w.heap.size w); have H : ((names_Domain.f a0_0).bind fun t103 => (some (t103, a0_2))) = some (r1, r2) := h; clear h; replace H := Option.bind_eq_some_iff.mp H; obtain ⟨t103, A20, H⟩ := H; replace H : (some (t103, a0_2)) = some (r1, r2) := H; have A2 := Qad.mk A20; clear A20; simp only [Option.some.injEq, Prod.mk.injEq] at H; obtain ⟨rfl, rfl⟩ := H; go_enter Tryz.func23, Tryz.ntmps23
 try go_wp2_with (first | ((with_reducible refine QaN (N := 1) rfl ?_); refine QaK ?hg (N := 1) ?hd (cs := #[.int .i64 a0_0, .int .i64 a0_1, .string a0_2, .int .i64 a0_3, .string a0_4, .string a0_5, .string a0_6, .string a0_7, .string a0_8]) (t := 42) ?hr ?_; (case hd => rfl); (case hg => rfl); (case hr => first | (go_simp; done) | (go_simp; rfl)); intro gb101 hg w3 hbox hb; have n0_ := Qad.mk (Qak (by repeat (first | (with_reducible first | exact HB.out | apply Qab | apply Qaa | apply Qac) | exact HB.out)) hb); have n1_ := Qad.mk (hbox); have n2_ := Qad.mk ((by rw [hg]; exact (Qas (by repeat (first | (with_reducible first | exact HB.out | apply Qab | apply Qaa | apply Qac) | exact HB.out))) : w.heap.size ≤ gb101)); have n3_ := n2_; clear HB; have HB := n0_; have BK101 := n1_; have GW101 := n2_; have GE101 := n3_; clear n0_ n1_ n2_ n3_; clear hb hbox hg) | ((with_reducible refine QaN (N := 2) rfl ?_); refine QaK ?hg (N := 2) ?hd (cs := #[.string (⟨#[]⟩ : ByteArray), .string (⟨#[]⟩ : ByteArray)]) (t := 24) ?hr ?_; (case hd => rfl); (case hg => rfl); (case hr => first | (go_simp; done) | (go_simp; rfl)); intro gb102 hg w4 hbox hb; have n0_ := Qad.mk (Qal (g := gb101) (o := Qau a0_0 a0_1 a0_2 a0_3 a0_4 a0_5 a0_6 a0_7 a0_8 42) (by (with_reducible repeat (first | refine Qag ?_ _ | refine Qah ?_ | refine Qaf ?_ _)); exact BK101.out) hb); have n1_ := Qad.mk (Qak (by repeat (first | (with_reducible first | exact HB.out | apply Qab | apply Qaa | apply Qac | refine Qai ?_ GE101.out) | exact HB.out)) hb); have n2_ := Qad.mk (hbox); have n3_ := Qad.mk ((by rw [hg]; exact (Qas (by repeat (first | (with_reducible first | exact HB.out | apply Qab | apply Qaa | apply Qac | refine Qai ?_ GE101.out) | exact HB.out))) : w.heap.size ≤ gb102)); have n4_ := n3_; have n5_ := Qad.mk ((by rw [hg]; exact Nat.ne_of_lt (blk_lt (g := gb101) (o := Qau a0_0 a0_1 a0_2 a0_3 a0_4 a0_5 a0_6 a0_7 a0_8 42) (by (with_reducible repeat (first | refine Qag ?_ _ | refine Qah ?_ | refine Qaf ?_ _)); exact BK101.out)) : gb101 ≠ gb102)); have n6_ := Qad.mk ((by rw [hg]; exact Nat.ne_of_gt (blk_lt (g := gb101) (o := Qau a0_0 a0_1 a0_2 a0_3 a0_4 a0_5 a0_6 a0_7 a0_8 42) (by (with_reducible repeat (first | refine Qag ?_ _ | refine Qah ?_ | refine Qaf ?_ _)); exact BK101.out)) : gb102 ≠ gb101)); clear BK101; clear HB; have BK101 := n0_; have HB := n1_; have BK102 := n2_; have GW102 := n3_; have GE102 := n4_; have NB101_102 := n5_; have NB102_101 := n6_; clear n0_ n1_ n2_ n3_ n4_ n5_ n6_; clear hb hbox hg))
 have n0_ := Qad.mk (Qah BK101.out); have n1_ := Qad.mk (Qah BK102.out); have n2_ := Qad.mk (Qac HB.out); clear BK101; clear BK102; clear HB; have BK101 := n0_; have BK102 := n1_; have HB := n2_; clear n0_ n1_ n2_; refine start_ (n := 8) (S := fun w' => w'.cell? ⟨gb101, 0, none⟩ = some (.int .i64 a0_0) ∧ w'.cell? ⟨gb101, 1, none⟩ = some (.int .i64 a0_1) ∧ w'.cell? ⟨gb101, 2, none⟩ = some (.string a0_2) ∧ w'.cell? ⟨gb101, 3, none⟩ = some (.int .i64 a0_3) ∧ w'.cell? ⟨gb101, 4, none⟩ = some (.string a0_4) ∧ w'.cell? ⟨gb101, 5, none⟩ = some (.string a0_5) ∧ w'.cell? ⟨gb101, 6, none⟩ = some (.string a0_6) ∧ w'.cell? ⟨gb101, 7, none⟩ = some (.string a0_7) ∧ w'.cell? ⟨gb101, 8, none⟩ = some (.string a0_8)) (ds := []) #[ff,ff,ff,ff,ff,ff,ff,ff] (by kernel_rfl) rfl rfl ⟨(Qaj BK101.out 0).trans rfl, (Qaj BK101.out 1).trans rfl, (Qaj BK101.out 2).trans rfl, (Qaj BK101.out 3).trans rfl, (Qaj BK101.out 4).trans rfl, (Qaj BK101.out 5).trans rfl, (Qaj BK101.out 6).trans rfl, (Qaj BK101.out 7).trans rfl, (Qaj BK101.out 8).trans rfl⟩ (fun hHeld => ?_); refine with_tabW cred_Role.tab1 cred_Role.bits1 (fun HT_ HW_ => ?_)
 generalize w4.drew = w5 at BK101 BK102 HB hHeld ⊢
 refine QaI (i := 0) (N := some 3) (v := ?_) (a' := ?_) #[tt,ff,ff,ff,ff,ff,ff,ff] rfl rfl (QaA HT_.out (by kernel_rfl)) (fun _ _ _ h => h) (Or.inl ⟨by rfl, ?_⟩) ?_ ?_; rotate_left
 ·intro w'; go_simp; (with_reducible rfl)
 rotate_left
 ·simp only [Act.put, put_, Qax, Qaz]; rfl
 refine QaI (i := 1) (N := some 4) (v := ?_) (a' := ?_) #[tt,tt,ff,ff,ff,ff,ff,ff] rfl rfl (QaA HT_.out (by kernel_rfl)) (fun _ _ _ h => h) (Or.inl ⟨by rfl, ?_⟩) ?_ ?_; rotate_left
 ·intro w'; go_simp; (with_reducible rfl)
 rotate_left
 ·simp only [Act.put, put_, Qax, Qaz]; rfl
 refine QaI (i := 4) (N := some 7) (v := ?_) (a' := ?_) #[tt,tt,ff,ff,tt,ff,ff,ff] rfl rfl (QaA HT_.out (by kernel_rfl)) (fun _ _ _ h => h) (Or.inl ⟨by rfl, ?_⟩) ?_ ?_; rotate_left
 ·intro w'; go_simp; (with_reducible rfl)
 rotate_left
 ·simp only [Act.put, put_, Qax, Qaz]; rfl
 refine take_ (i := 2) (N := some 5) (v := ?_) (a' := ?_) #[tt,tt,tt,ff,tt,ff,ff,ff] rfl rfl (take_ofW HT_.out HW_.out (by kernel_rfl)) (fun _ _ _ h => h) (Or.inl ⟨by rfl, ?_⟩) hHeld ?_ ?_; rotate_left
 ·rintro w' ⟨s0, s1, s2, s3, s4, s5, s6, s7, s8⟩; go_simp; (with_reducible rfl)
 rotate_left
 ·simp only [Act.put, put_, Qax, Qaz]; rfl
 refine take_ (i := 5) (N := some 8) (v := ?_) (a' := ?_) #[tt,tt,tt,ff,tt,tt,ff,ff] rfl rfl (take_ofW HT_.out HW_.out (by kernel_rfl)) (fun _ _ _ h => h) (Or.inl ⟨by rfl, ?_⟩) hHeld ?_ ?_; rotate_left
 ·rintro w' ⟨s0, s1, s2, s3, s4, s5, s6, s7, s8⟩; go_simp; (with_reducible rfl)
 rotate_left
 ·simp only [Act.put, put_, Qax, Qaz]; rfl
 refine one_ (i := 3) (N := some 6) #[tt,tt,tt,tt,tt,tt,ff,ff] rfl rfl (one_of HT_.out (by kernel_rfl)) (by decide) (fun K hK => ?_); refine goes_ Tryz.func43 (by kernel_rfl) rfl #[.int .i64 a0_0] (by rfl) rfl rfl (by (try simp only [List.map_toArray, List.map_cons, List.map_nil]); first | done | rfl | (simp only [List.length_drop, List.length_take]; rfl)) ?_
 with_reducible refine (names_Domain.calls a0_0 t103 _ A2.out).mono ?_
 rintro e w' ⟨rfl, ⟨nd, rfl⟩⟩; refine ⟨_, rfl, ?_⟩; refine hK.out _ _ ⟨(Qaj BK101.out 0).trans rfl, (Qaj BK101.out 1).trans rfl, (Qaj BK101.out 2).trans rfl, (Qaj BK101.out 3).trans rfl, (Qaj BK101.out 4).trans rfl, (Qaj BK101.out 5).trans rfl, (Qaj BK101.out 6).trans rfl, (Qaj BK101.out 7).trans rfl, (Qaj BK101.out 8).trans rfl⟩ (fun hHeld => ?_); clear hK K; refine norm_ (a' := ?_) ?_ ?_; rotate_left
 ·show Act.put _ (some 6) _ = _
  simp only [Act.put, put_, Qax, Qaz]; rfl
 refine QaI (i := 6) (N := some 9) (v := ?_) (a' := ?_) #[tt,tt,tt,tt,tt,tt,tt,ff] rfl rfl (QaA HT_.out (by kernel_rfl)) (fun _ _ _ h => h) (Or.inl ⟨by rfl, ?_⟩) ?_ ?_; rotate_left
 ·intro w'; go_simp; (with_reducible rfl)
 rotate_left
 ·simp only [Act.put, put_, Qax, Qaz]; rfl
 refine one_ (i := 7) (N := none) #[tt,tt,tt,tt,tt,tt,tt,tt] rfl rfl (one_of HT_.out (by kernel_rfl)) (by decide) (fun K hK => ?_); have hs6 : w5.cell? ⟨gb102, 0, none⟩ = some (.string (⟨#[]⟩ : ByteArray)) := (Qaj BK102.out 0).trans rfl; have hfs6 := blk_frozen BK102.out 0; have hns6_0 := NB101_102.out; have hms6_0 := NB102_101.out; have hs7 : w5.cell? ⟨gb102, 1, none⟩ = some (.string (⟨#[]⟩ : ByteArray)) := (Qaj BK102.out 1).trans rfl; have hfs7 := blk_frozen BK102.out 1; have hns7_0 := NB101_102.out; have hms7_0 := NB102_101.out; refine skip_ (w1 := ?_) (by rfl) rfl ?_ ?_; rotate_left
 ·go_simp; rfl
 refine hK.out _ _ ⟨((cell_far (p := ⟨gb102, _, none⟩) NB101_102.out _).trans (((cell_far (p := ⟨gb102, _, none⟩) NB101_102.out _).trans (hHeld.1)))), ((cell_far (p := ⟨gb102, _, none⟩) NB101_102.out _).trans (((cell_far (p := ⟨gb102, _, none⟩) NB101_102.out _).trans (hHeld.2.1)))), ((cell_far (p := ⟨gb102, _, none⟩) NB101_102.out _).trans (((cell_far (p := ⟨gb102, _, none⟩) NB101_102.out _).trans (hHeld.2.2.1)))), ((cell_far (p := ⟨gb102, _, none⟩) NB101_102.out _).trans (((cell_far (p := ⟨gb102, _, none⟩) NB101_102.out _).trans (hHeld.2.2.2.1)))), ((cell_far (p := ⟨gb102, _, none⟩) NB101_102.out _).trans (((cell_far (p := ⟨gb102, _, none⟩) NB101_102.out _).trans (hHeld.2.2.2.2.1)))), ((cell_far (p := ⟨gb102, _, none⟩) NB101_102.out _).trans (((cell_far (p := ⟨gb102, _, none⟩) NB101_102.out _).trans (hHeld.2.2.2.2.2.1)))), ((cell_far (p := ⟨gb102, _, none⟩) NB101_102.out _).trans (((cell_far (p := ⟨gb102, _, none⟩) NB101_102.out _).trans (hHeld.2.2.2.2.2.2.1)))), ((cell_far (p := ⟨gb102, _, none⟩) NB101_102.out _).trans (((cell_far (p := ⟨gb102, _, none⟩) NB101_102.out _).trans (hHeld.2.2.2.2.2.2.2.1)))), ((cell_far (p := ⟨gb102, _, none⟩) NB101_102.out _).trans (((cell_far (p := ⟨gb102, _, none⟩) NB101_102.out _).trans (hHeld.2.2.2.2.2.2.2.2))))⟩ (fun hHeld => ?_); clear hK K; refine done_ (done_of HT_.out (by kernel_rfl)) ?_
 try go_wp2
 refine bodyPost_ret (results_cell_row rfl _ _ gb102 24 #[.string t103, .string a0_2] (0, 0) _ rfl (by (with_reducible repeat (first | refine Qag ?_ _ | refine Qah ?_ | refine Qaf ?_ _)); refine blk_put (cs := #[.string t103, .string (⟨#[]⟩ : ByteArray)]) ?_ 1 _ rfl; (with_reducible repeat (first | refine Qag ?_ _ | refine Qah ?_ | refine Qaf ?_ _)); refine blk_put (cs := #[.string (⟨#[]⟩ : ByteArray), .string (⟨#[]⟩ : ByteArray)]) ?_ 0 _ rfl; (with_reducible repeat (first | refine Qag ?_ _ | refine Qah ?_ | refine Qaf ?_ _)); exact BK102.out) Tryz.underlying24 rfl (by kernel_rfl)) rfl ?_; exact ⟨by first | rfl | (simp [Qar, Qaq] <;> rfl) | (simp [*, Qar, Qaq] <;> rfl), by repeat (first | (with_reducible first | exact HB.out | apply Qab | apply Qaa | apply Qac | refine Qai ?_ GE101.out | refine Qai ?_ GE102.out) | exact HB.out)⟩
set_option maxRecDepth 100000 in
set_option maxHeartbeats 1000000 in
theorem or_calls (w : World) (g : Nat) (a b : Int) (h0 : w.cell? ⟨g, 0, none⟩ = some (.int .i64 a)) (h1 : w.cell? ⟨g, 1, none⟩ = some (.int .i64 b)) :
    Calls Tryz.prog 41 #[.slice (some ⟨g, 0, none⟩) 2 2] w fun e w' => e = .returned (.int .i64 (if a = 0 then b else a)) ∧ w' = w := by
  obtain ⟨r, hr⟩ : ∃ r, r = (if a = 0 then b else a) := ⟨_, rfl⟩
  rw [← hr]; have HR := Lib.hid hr; clear hr; go_enter Tryz.func41, Tryz.ntmps41; go_wp2
  go_loopg [5, 8] 3 (fun kq _ v8 w' => ∃ i : Nat, v8 = .int .i64 i ∧ Hid (kq = 3 - i) ∧ Hid (i ≤ 2) ∧ w' = w ∧ Hid (1 ≤ i → a = 0) ∧ Hid (2 ≤ i → b = 0))
  case atStart => exact ⟨0, rfl, Lib.hid rfl, Lib.hid (by omega), rfl, Lib.hid (by omega), Lib.hid (by omega)⟩
  case round =>
    obtain ⟨i, rfl, HK, HI, rfl, HA, HB⟩ := hrel; have hi := HI.out
    by_cases i0 : i = 0
    · subst i0
      clear hi
      by_cases a0 : a = 0
      · have b0 : (a != 0) = false := by rw [a0]; rfl
        have A0 := Lib.hid a0; clear a0; go_wp2
        go_roundg 2
        case measure => have := HK.out; omega
        case rel => exact ⟨1, rfl, Lib.hid rfl, Lib.hid (by omega), rfl, Lib.hid (fun _ => A0.out), Lib.hid (by omega)⟩
      · have b0 : (a != 0) = true := bne_iff_ne.mpr a0
        have A0 := Lib.hid a0; clear a0; go_wp2; go_ret; exact ⟨by rw [HR.out, if_neg A0.out]; rfl, rfl⟩
    · by_cases i1 : i = 1
      · subst i1
        clear hi i0
        by_cases a0 : b = 0
        · have b0 : (b != 0) = false := by rw [a0]; rfl
          have A0 := Lib.hid a0; clear a0; go_wp2
          go_roundg 1
          case measure => have := HK.out; omega
          case rel => exact ⟨2, rfl, Lib.hid rfl, Lib.hid (by omega), rfl, Lib.hid (fun _ => HA.out (by omega)), Lib.hid (fun _ => A0.out)⟩
        · have b0 : (b != 0) = true := bne_iff_ne.mpr a0
          have A0 := Lib.hid a0; clear a0; go_wp2; go_ret; exact ⟨by rw [HR.out, if_pos (HA.out (by omega))]; rfl, rfl⟩
      · have i2 : i = 2 := by omega
        subst i2; clear hi i0 i1; go_wp2; go_ret; exact ⟨by rw [HR.out, if_pos (HA.out (by omega)), HB.out (by omega)]; rfl, rfl⟩
end Go.Proofs.YtmaipohgahdclaaGreatDoor.Pr
end
section
namespace Go.Proofs.YtmaipohgahdclaaGreatDoor
open Go.ChangeMaps (setBlock) 
open Go.MapKept
open Go.Maps (Keyed)
open Go.RowKit
structure KeyK (P : Program) (k : TypeId) {κ : Type} (enc : κ → Value) (ok : κ → Prop) : Prop where
  keyed : Keyed P k
  lit : ∀ x, ok x → ∃ l, keyOf P k (enc x) = some l
  inj : ∀ x y, ok x → ok y → enc x = enc y → x = y
def Tbl {κ : Type} (enc : κ → Value) (ok : κ → Prop) (w : World) (b : Nat) (l : List (κ × Value)) : Prop :=
  ∃ es clock, w.heap[b]? = some (.map es clock) ∧ es.toList.map (fun e => (e.key, e.val)) = l.map (fun x => (enc x.1, x.2)) ∧ (∀ x ∈ l, ok x.1) ∧ Stamped es clock ∧ es.size ≤ maxLen
def tput {κ : Type} [DecidableEq κ] (l : List (κ × Value)) (x : κ) (v : Value) : List (κ × Value) :=
  if l.any (fun y => decide (y.1 = x)) then l.map (fun y => if y.1 = x then (x, v) else y) else l ++ [(x, v)]
def tget {κ : Type} [DecidableEq κ] (l : List (κ × Value)) (x : κ) : Option Value := (l.find? fun y => decide (y.1 = x)).map (·.2)
section
variable {κ : Type} {P : Program} {k : TypeId} {enc : κ → Value} {ok : κ → Prop} {w : World} {b : Nat} {l : List (κ × Value)}
theorem Tbl.lt (h : Tbl enc ok w b l) : b < w.heap.size := by
  obtain ⟨es, clock, hb, _⟩ := h; exact (Array.getElem?_eq_some_iff.1 hb).1
theorem Tbl.same (h : Tbl enc ok w b l) {w' : World} (hs : w'.heap[b]? = w.heap[b]?) : Tbl enc ok w' b l := by
  obtain ⟨es, clock, hb, r⟩ := h; exact ⟨es, clock, hs.trans hb, r⟩
theorem Tbl.below (h : Tbl enc ok w b l) {w' : World} (hb : Below w.heap.size w w') : Tbl enc ok w' b l := h.same (hb.block b h.lt)
theorem Tbl.grown (h : Tbl enc ok w b l) {w' : World} {row : Option Nat} (hg : w.grownBy w' row) (hne : some b ≠ row) : Tbl enc ok w' b l := h.same (hg.block b h.lt hne)
theorem Tbl.set (h : Tbl enc ok w b l) {a : Addr} (hne : b ≠ a.block) (u : Value) : Tbl enc ok (w.setCell a u) b l := h.same (Below.heap_setCell w a u b hne)
theorem Tbl.made (enc : κ → Value) (ok : κ → Prop) (w : World) : Tbl enc ok (w.alloc (.map #[] 0)) w.heap.size [] :=
  ⟨#[], 0, (MapKept.heap_alloc w _).1, rfl, by simp, stamped_empty 0, by simp [maxLen]⟩
theorem Tbl.nodup (h : Tbl enc ok w b l) : (l.map (·.1)).Nodup := by
  obtain ⟨es, clock, _, hl, _, hs, _⟩ := h; have h3 : (es.toList.map (·.key)).Nodup := hs.2.2
  have e1 : es.toList.map (·.key) = (es.toList.map (fun e => (e.key, e.val))).map (·.1) := by rw [List.map_map]; rfl
  rw [e1, hl, List.map_map] at h3
  have e2 : l.map ((fun x => x.1) ∘ fun x => (enc x.1, x.2)) = (l.map (·.1)).map enc := by rw [List.map_map]; rfl
  rw [e2] at h3; exact List.Pairwise.of_map enc (fun a b hne e => hne (congrArg enc e)) h3
theorem Tbl.oks (h : Tbl enc ok w b l) : ∀ x ∈ l, ok x.1 := by
  obtain ⟨es, clock, _, _, ho, _⟩ := h; exact ho
theorem Tbl.small (h : Tbl enc ok w b l) : l.length ≤ maxLen := by
  obtain ⟨es, clock, _, hl, _, _, hm⟩ := h; have := congrArg List.length hl; simp at this; omega
theorem tbl_keys (K : KeyK P k enc ok) {es : Array MapEntry} {l : List (κ × Value)} (hl : es.toList.map (fun e => (e.key, e.val)) = l.map (fun x => (enc x.1, x.2))) (ho : ∀ x ∈ l, ok x.1) : ∀ e ∈ es.toList, ∃ x ∈ l, e.key = enc x.1 ∧ e.val = x.2 ∧ ∃ lit, keyOf P k e.key = some lit := by
  intro e he
  have hm : (e.key, e.val) ∈ l.map (fun x => (enc x.1, x.2)) := by rw [← hl]; exact List.mem_map.2 ⟨e, he, rfl⟩
  obtain ⟨x, hx, hxe⟩ := List.mem_map.1 hm; simp only [Prod.mk.injEq] at hxe; obtain ⟨lit, hlit⟩ := K.lit x.1 (ho x hx); exact ⟨x, hx, hxe.1.symm, hxe.2.symm, lit, by rw [← hxe.1]; exact hlit⟩
variable [DecidableEq κ]
theorem tget_some {l : List (κ × Value)} {x : κ} {v : Value} (hn : (l.map (·.1)).Nodup) (h : (x, v) ∈ l) : tget l x = some v := by
  induction l with
  | nil => simp at h
  | cons y l ih =>
    rw [List.map_cons, List.nodup_cons] at hn; unfold tget; rw [List.find?_cons]
    rcases List.mem_cons.1 h with h | h
    · subst h
      simp
    · by_cases e : y.1 = x
      · exact absurd (List.mem_map.2 ⟨(x, v), h, e.symm⟩) hn.1
      · rw [decide_eq_false e]
        exact ih hn.2 h
theorem tget_none {l : List (κ × Value)} {x : κ} (h : ∀ y ∈ l, y.1 ≠ x) : tget l x = none := by
  unfold tget; rw [List.find?_eq_none.2 (fun y hy => by simpa using h y hy)]; rfl
theorem Tbl.look (K : KeyK P k enc ok) (h : Tbl enc ok w b l) {t e : TypeId} (ht : P.underlying t = some (.map k e)) {z : Value} (hz : ∀ W, (zeroValue e).run P W = .ok z W) {x : κ} (hx : ok x) (c : Bool) :
    ∀ W : World, W.heap[b]? = w.heap[b]? → (Instr.lookup t (.map (some b)) (enc x) c).run P W = .ok (if c then .tuple #[(tget l x).getD z, .bool (tget l x).isSome] else (tget l x).getD z) W := by
  obtain ⟨es, clock, hb, hl, ho, hs, hm⟩ := h; obtain ⟨lit, hlit⟩ := K.lit x hx; have keys := tbl_keys K hl ho; have hn : (l.map (·.1)).Nodup := Tbl.nodup (w := w) (b := b) ⟨es, clock, hb, hl, ho, hs, hm⟩; intro W hW; have hb' := hW.trans hb
  rcases K.keyed.find W hlit es.toList (fun e he => (keys e he).choose_spec.2.2.2) with ⟨h1, h2⟩ | ⟨j, e0, h1, h2, h3⟩
  · have hno : tget l x = none := by
      apply tget_none
      intro y hy hyx
      have hm : (enc y.1, y.2) ∈ es.toList.map (fun e => (e.key, e.val)) := by rw [hl]; exact List.mem_map.2 ⟨y, hy, rfl⟩
      obtain ⟨e, he, hey⟩ := List.mem_map.1 hm; simp only [Prod.mk.injEq] at hey; exact h2 e he (by rw [hey.1, hyx])
    rw [hno]; simp [Instr.lookup, run_underlying ht, MapKept.run_getObj_map hb', K.keyed.check W _ hlit, h1, hz, Result.andThen]
  · have hm0 : e0 ∈ es.toList := List.mem_of_getElem? h2
    obtain ⟨y, hy, hk1, hv1, _⟩ := keys e0 hm0; have hyx : y.1 = x := K.inj _ _ (ho y hy) hx (by rw [← hk1, h3])
    have hsome : tget l x = some e0.val := by
      rw [hv1, ← hyx]; exact tget_some hn hy
    rw [hsome]; simp [Instr.lookup, run_underlying ht, MapKept.run_getObj_map hb', K.keyed.check W _ hlit, h1, Result.andThen]
theorem Tbl.store (K : KeyK P k enc ok) (h : Tbl enc ok w b l) {t e : TypeId} (ht : P.underlying t = some (.map k e)) {x : κ} (hx : ok x) (v : Value) (hroom : l.length < maxLen) :
    ∃ O, (∀ W : World, W.heap[b]? = w.heap[b]? → (Instr.mapUpdate t (.map (some b)) (enc x) v).run P W = .ok () (setBlock W b O)) ∧ ∀ W : World, b < W.heap.size → Tbl enc ok (setBlock W b O) b (tput l x v) := by
  obtain ⟨es, clock, hb, hl, ho, hs, hm⟩ := h; obtain ⟨lit, hlit⟩ := K.lit x hx; have keys := tbl_keys K hl ho; have hn : (l.map (·.1)).Nodup := Tbl.nodup (w := w) (b := b) ⟨es, clock, hb, hl, ho, hs, hm⟩
  have hlen : es.size = l.length := by simpa using congrArg List.length hl
  have hbo : ∀ (W : World) (O : Obj), b < W.heap.size → (setBlock W b O).heap[b]? = some O := fun W O hW => by simp [setBlock, hW]
  rcases K.keyed.find w hlit es.toList (fun e he => (keys e he).choose_spec.2.2.2) with ⟨h1, h2⟩ | ⟨j, e0, h1, h2, h3⟩
  · refine ⟨.map (es.push ⟨enc x, v, clock⟩) (clock + 1), fun W hW => ?_, fun W hW => ⟨_, _, hbo W _ hW, ?_, ?_, stamped_push hs h2, by rw [Array.size_push]; omega⟩⟩
    · have hb' := hW.trans hb
      rcases K.keyed.find W hlit es.toList (fun e he => (keys e he).choose_spec.2.2.2) with ⟨h1', _⟩ | ⟨j, e0, _, h2', h3'⟩
      · simp [Instr.mapUpdate, run_underlying ht, MapKept.run_getObj_map hb', K.keyed.check W false hlit, h1', MapKept.run_setObj_map _ hb', Result.andThen, setBlock]
      · exact absurd h3' (h2 e0 (List.mem_of_getElem? h2'))
    · have hno : l.any (fun y => decide (y.1 = x)) = false := by
        rw [List.any_eq_false]; intro y hy; simp only [decide_eq_true_eq]; intro hyx
        have hm : (enc y.1, y.2) ∈ es.toList.map (fun e => (e.key, e.val)) := by rw [hl]; exact List.mem_map.2 ⟨y, hy, rfl⟩
        obtain ⟨e, he, hey⟩ := List.mem_map.1 hm; simp only [Prod.mk.injEq] at hey; exact h2 e he (by rw [hey.1, hyx])
      unfold tput; rw [hno]; simp [hl]
    · intro y hy
      unfold tput at hy
      split at hy
      · obtain ⟨z, hz, rfl⟩ := List.mem_map.1 hy
        split
        · exact hx
        · exact ho z hz
      · rcases List.mem_append.1 hy with hy | hy
        · exact ho y hy
        · rw [List.mem_singleton.1 hy]
          exact hx
  · have hm0 : e0 ∈ es.toList := List.mem_of_getElem? h2
    obtain ⟨y, hy, hk1, hv1, _⟩ := keys e0 hm0; have hyx : y.1 = x := K.inj _ _ (ho y hy) hx (by rw [← hk1, h3])
    have hj : es[j]? = some e0 := by simpa using h2
    refine ⟨.map (es.modify j fun e => { e with key := enc x, val := v }) clock, fun W hW => ?_, fun W hW => ⟨_, _, hbo W _ hW, ?_, ?_, ?_, by rw [Array.size_modify]; omega⟩⟩
    · have hb' := hW.trans hb
      rcases K.keyed.find W hlit es.toList (fun e he => (keys e he).choose_spec.2.2.2) with ⟨_, h2'⟩ | ⟨j', e1, h1', h2', h3'⟩
      · exact absurd h3 (h2' e0 hm0)
      · have hjj : j' = j := by
          have hnd : (es.toList.map (·.key)).Nodup := hs.2.2
          have a1 : (es.toList.map (·.key))[j']? = some (enc x) := by rw [List.getElem?_map, h2', Option.map_some, h3']
          have a2 : (es.toList.map (·.key))[j]? = some (enc x) := by rw [List.getElem?_map, h2, Option.map_some, h3]
          have b1 := (List.getElem?_eq_some_iff.1 a1).1; exact (List.getElem?_inj b1 hnd).1 (a1.trans a2.symm)
        subst hjj; have he1 : e1 = e0 := Option.some.inj (h2'.symm.trans h2)
        have hkk : ((es[j']?).map (·.key)).getD (enc x) = enc x := by rw [hj]; simp [h3]
        simp [Instr.mapUpdate, run_underlying ht, MapKept.run_getObj_map hb', K.keyed.check W false hlit, h1', hj, h3, K.keyed.stays W hlit, MapKept.run_setObj_map _ hb', Result.andThen, setBlock]
    · have hyes : l.any (fun y => decide (y.1 = x)) = true := List.any_eq_true.2 ⟨y, hy, by simpa using hyx⟩
      unfold tput; rw [hyes]; simp only [if_true]
      apply List.ext_getElem?
      intro i; have hi := congrArg (fun z => z[i]?) hl; simp only [List.getElem?_map] at hi ⊢; rw [Array.getElem?_toList, Array.getElem?_modify]; rw [Array.getElem?_toList] at hi
      by_cases hij : j = i
      · subst hij
        rw [if_pos rfl]; rw [hj] at hi ⊢
        cases hli : l[j]? with
        | none => rw [hli] at hi; simp at hi
        | some q =>
          rw [hli] at hi; simp only [Option.map_some, Option.some.injEq, Prod.mk.injEq] at hi ⊢; have hq : q.1 = x := K.inj _ _ (ho q (List.mem_of_getElem? hli)) hx (by rw [← hi.1, h3]); rw [if_pos hq]; exact ⟨rfl, rfl⟩
      · rw [if_neg hij, hi]
        cases hli : l[i]? with
        | none => rfl
        | some q =>
          simp only [Option.map_some, Option.some.injEq]
          have hq : q.1 ≠ x := by
            intro hqx
            have a1 : (l.map (·.1))[i]? = some x := by rw [List.getElem?_map, hli, Option.map_some, hqx]
            have hlj : l[j]?.map (·.1) = some x := by
              have hjj := congrArg (fun z => z[j]?) hl; simp only [List.getElem?_map] at hjj; rw [Array.getElem?_toList, hj] at hjj
              cases hlj : l[j]? with
              | none => rw [hlj] at hjj; simp at hjj
              | some q' =>
                rw [hlj] at hjj; simp only [Option.map_some, Option.some.injEq, Prod.mk.injEq] at hjj ⊢; exact K.inj _ _ (ho q' (List.mem_of_getElem? hlj)) hx (by rw [← hjj.1, h3])
            have a2 : (l.map (·.1))[j]? = some x := by rw [List.getElem?_map]; exact hlj
            have b1 := (List.getElem?_eq_some_iff.1 a1).1; exact hij ((List.getElem?_inj b1 hn).1 (a1.trans a2.symm)).symm
          rw [if_neg hq]
    · intro z hz
      unfold tput at hz
      split at hz
      · obtain ⟨q, hq, rfl⟩ := List.mem_map.1 hz
        split
        · exact hx
        · exact ho q hq
      · rcases List.mem_append.1 hz with hz | hz
        · exact ho z hz
        · rw [List.mem_singleton.1 hz]
          exact hx
    · exact stamped_modify hs j _ (fun _ _ => rfl) (fun e1 _ he1 => by rw [hj] at he1; cases he1; exact h3.symm)
omit [DecidableEq κ] in
def Rng (enc : κ → Value) (ok : κ → Prop) (w : World) (b r : Nat) (l left : List (κ × Value)) : Prop :=
  ∃ es clock since seen c0, w.heap[b]? = some (.map es clock) ∧ es.toList.map (fun e => (e.key, e.val)) = l.map (fun x => (enc x.1, x.2)) ∧ (∀ x ∈ l, ok x.1) ∧ Stamped es clock ∧ es.size ≤ maxLen ∧
    w.heap[r]? = some (.mapIter (some b) since seen c0) ∧ (∀ x ∈ es.toList, x.born < since) ∧ since ≤ c0 ∧ since ≤ clock ∧ (∀ x ∈ left, ok x.1) ∧
    (leftOf es seen).toList.map (fun e => (e.key, e.val)) = left.map (fun x => (enc x.1, x.2))
omit [DecidableEq κ] in
theorem Rng.tbl {r : Nat} {left : List (κ × Value)} (h : Rng enc ok w b r l left) : Tbl enc ok w b l := by
  obtain ⟨es, clock, since, seen, c0, h1, h2, h3, h4, h5, _⟩ := h; exact ⟨es, clock, h1, h2, h3, h4, h5⟩
omit [DecidableEq κ] in
theorem Rng.lt {r : Nat} {left : List (κ × Value)} (h : Rng enc ok w b r l left) : r < w.heap.size := by
  obtain ⟨es, clock, since, seen, c0, h1, h2, h3, h4, h5, h6, _⟩ := h; exact (Array.getElem?_eq_some_iff.1 h6).1
omit [DecidableEq κ] in
theorem Rng.same {r : Nat} {left : List (κ × Value)} (h : Rng enc ok w b r l left) {w' : World} (hb : w'.heap[b]? = w.heap[b]?) (hr : w'.heap[r]? = w.heap[r]?) : Rng enc ok w' b r l left := by
  obtain ⟨es, clock, since, seen, c0, h1, h2, h3, h4, h5, h6, q⟩ := h; exact ⟨es, clock, since, seen, c0, hb.trans h1, h2, h3, h4, h5, hr.trans h6, q⟩
omit [DecidableEq κ] in
theorem Rng.grown {r : Nat} {left : List (κ × Value)} (h : Rng enc ok w b r l left) {w' : World} {row : Option Nat} (hg : w.grownBy w' row) (hb : some b ≠ row) (hr : some r ≠ row) : Rng enc ok w' b r l left := h.same (hg.block b h.tbl.lt hb) (hg.block r h.lt hr)
omit [DecidableEq κ] in
theorem Rng.below {r : Nat} {left : List (κ × Value)} (h : Rng enc ok w b r l left) {w' : World} (hb : Below w.heap.size w w') : Rng enc ok w' b r l left := h.same (hb.block b h.tbl.lt) (hb.block r h.lt)
omit [DecidableEq κ] in
theorem Rng.ne {r : Nat} {left : List (κ × Value)} (h : Rng enc ok w b r l left) : b ≠ r := by
  obtain ⟨es, clock, since, seen, c0, h1, h2, h3, h4, h5, h6, q⟩ := h; rintro rfl; rw [h1] at h6; cases h6
omit [DecidableEq κ] in
theorem Tbl.range (h : Tbl enc ok w b l) {t e : TypeId} (ht : P.underlying t = some (.map k e)) :
    ∃ O, (∀ W : World, W.heap[b]? = w.heap[b]? → (Instr.range t (.map (some b))).run P W = .ok (.pointer (some ⟨W.heap.size, 0, none⟩)) (W.alloc O)) ∧ ∀ W : World, W.heap[b]? = w.heap[b]? → Rng enc ok (W.alloc O) b W.heap.size l l := by
  have hlt := h.lt; obtain ⟨es, clock, hb, hl, ho, hs, hm⟩ := h; refine ⟨.mapIter (some b) clock #[] clock, fun W hW => run_range_map W t k e b es clock ht (hW.trans hb), fun W hW => ?_⟩; have hltW : b < W.heap.size := (Array.getElem?_eq_some_iff.1 (hW.trans hb)).1; exact ⟨es, clock, clock, #[], clock, ((MapKept.heap_alloc W _).2 b hltW).trans (hW.trans hb), hl, ho, hs, hm, (MapKept.heap_alloc W _).1, hs.1, Nat.le_refl _, Nat.le_refl _, ho, by rw [show (leftOf es #[]).toList = es.toList from by unfold leftOf; rw [Array.toList_filter, List.filter_eq_self.2 (fun _ _ => by simp)]]; exact hl⟩
theorem map_drop_one {α : Type} (l : List α) (e : α) (he : e ∈ l) (p : α → Bool) (hp : ∀ x ∈ l, p x = false ↔ x = e) (hn : l.Nodup) : ∃ a c, l = a ++ e :: c ∧ l.filter p = a ++ c := by
  obtain ⟨a, c, rfl⟩ := List.append_of_mem he; refine ⟨a, c, rfl, ?_⟩; rw [List.nodup_append] at hn; have hc := List.nodup_cons.1 hn.2.1; rw [List.filter_append, List.filter_cons]; have he' : p e = false := (hp e (by simp)).2 rfl; rw [he']; simp only [Bool.false_eq_true, if_false]; rw [List.filter_eq_self.2 (fun x hx => ?_), List.filter_eq_self.2 (fun x hx => ?_)]
  · cases h : p x
    · have := (hp x (by simp [hx])).1 h
      subst this; exact absurd hx hc.1
    · rfl
  · cases h : p x
    · have := (hp x (by simp [hx])).1 h
      subst this; exact absurd rfl (hn.2.2 x hx x (by simp))
    · rfl
omit [DecidableEq κ] in
theorem Rng.next {r : Nat} {left : List (κ × Value)} (h : Rng enc ok w b r l left) (ty : TypeId) :
    (left = [] ∧ (Instr.next (.pointer (some ⟨r, 0, none⟩)) false ty).run P w = .ok (.tuple #[.bool false]) w) ∨
    ∃ a x c w', left = a ++ x :: c ∧ ok x.1 ∧ (Instr.next (.pointer (some ⟨r, 0, none⟩)) false ty).run P w = .ok (.tuple #[.bool true, enc x.1, x.2]) w' ∧ Rng enc ok w' b r l (a ++ c) ∧ w.grownBy w' (some r) ∧ w'.heap.size = w.heap.size ∧
      (∀ W : World, W.heap[b]? = w'.heap[b]? → W.heap[r]? = w'.heap[r]? → (Instr.entry (.pointer (some ⟨r, 0, none⟩))).run P W = .ok (.tuple #[enc x.1, x.2]) W) := by
  have hne := h.ne; obtain ⟨es, clock, since, seen, c0, hb, hl, ho, hs, hm, hr, hold, hsc, hsk, hol, hle⟩ := h
  rcases run_next_at (P := P) w ty r b since c0 seen es clock hr hb hold hsc with ⟨h0, hrun⟩ | ⟨e, he, w1, hal, hrun⟩
  · left
    refine ⟨?_, hrun⟩; have := congrArg List.length hle; simp at this; exact List.eq_nil_of_length_eq_zero (by omega)
  · right
    obtain ⟨hem, hes⟩ := mem_left he
    have hr1 : w1.heap[r]? = some (.mapIter (some b) since seen c0) := by rcases hal with rfl | rfl <;> exact hr
    have hb1 : w1.heap[b]? = some (.map es clock) := by rcases hal with rfl | rfl <;> exact hb
    have hset := heap_set (o' := .mapIter (some b) since (seen.push e.born) clock) hr1; have hb' : (setBlock w1 r (.mapIter (some b) since (seen.push e.born) clock)).heap[b]? = some (.map es clock) := (hset.2 b hne).trans hb1
    have hnd : (leftOf es seen).toList.Nodup := by
      unfold leftOf; rw [Array.toList_filter]; exact (List.Pairwise.of_map (fun e : MapEntry => e.born) (fun a b hne e => hne (congrArg MapEntry.born e)) hs.2.1).filter _
    have hborn : ∀ x ∈ (leftOf es seen).toList, (!(seen.push e.born).contains x.born) = false ↔ x = e := by
      intro x hx; obtain ⟨hxm, hxs⟩ := mem_left hx; rw [contains_push, hxs]; constructor
      · intro h
        simp at h; exact born_inj hs.2.1 hxm hem h
      · rintro rfl
        simp
    obtain ⟨a', c', h1, h2⟩ := map_drop_one (leftOf es seen).toList e he (fun x => !(seen.push e.born).contains x.born) hborn hnd
    have h3 : (leftOf es (seen.push e.born)).toList = a' ++ c' := by
      rw [← h2]; unfold leftOf; rw [Array.toList_filter, Array.toList_filter, List.filter_filter]
      apply List.filter_congr
      intro x hx; rw [contains_push]
      cases seen.contains x.born <;> simp
    rw [h1, List.map_append, List.map_cons] at hle; obtain ⟨a, xc, hle1, hle2, hle3⟩ := List.append_eq_map_iff.1 hle; obtain ⟨x, c, hxc, hle4, hle5⟩ := List.map_eq_cons_iff.1 hle3; simp only [Prod.mk.injEq] at hle4; refine ⟨a, x, c, _, by rw [hle1, hxc], hol x (by rw [hle1, hxc]; simp), by rw [hle4.1, hle4.2]; exact hrun, ⟨es, clock, since, seen.push e.born, clock, hb', hl, ho, hs, hm, hset.1, hold, hsk, hsk, fun y hy => hol y (by rw [hle1, hxc]; rcases List.mem_append.1 hy with hy | hy <;> simp [hy]), by rw [h3, List.map_append, List.map_append, hle2, hle5]⟩, ?_, ?_, fun W hWb hWr => ?_⟩
    · rcases hal with rfl | rfl <;> exact ⟨rfl, rfl, rfl, by simp [setBlock], fun i _ hi => hset.2 i (fun e1 => hi (by rw [e1]))⟩
    · rcases hal with rfl | rfl <;> simp [setBlock]
    · rw [hle4.1, hle4.2]
      exact run_entry_at W r b since seen es clock e (hWr.trans hset.1) (hWb.trans hb') hem hs.2.1
end
end Go.Proofs.YtmaipohgahdclaaGreatDoor
end
section
namespace Go.Proofs.YtmaipohgahdclaaGreatDoor.Pr
open Go.RowKit Go.Proofs.YtmaipohgahdclaaGreatDoorW.PrintWords Go.Proofs.YtmaipohgahdclaaGreatDoorW.PrintLast Go.Proofs.YtmaipohgahdclaaGreatDoorW.PrintMore
open Go.Sort
structure Flat {α : Type} (d : Kd α) (enc : α → List Value) : Prop where
  opens : ∀ {w base ok x cs}, d.M w base ok x cs → cs = enc x
  shuts : ∀ w base ok x, d.M w base ok x (enc x)
  len : ∀ x, (enc x).length = d.sz
section
variable {α : Type} [Inhabited α] {d : Kd α} {enc : α → List Value} {w : World} {e base : Nat} {ok : Nat → Prop} {g off n cap : Nat} {l : List α}
omit [Inhabited α] in
theorem flat_len (enc : α → List Value) (k : Nat) (hk : ∀ x, (enc x).length = k) (l : List α) : (l.flatMap enc).length = l.length * k := by
  induction l with
  | nil => simp
  | cons x l ih => rw [List.flatMap_cons, List.length_append, hk, ih, List.length_cons, Nat.add_mul, Nat.one_mul, Nat.add_comm]
theorem flat_toList (enc : α → List Value) (k : Nat) (hk : ∀ x, (enc x).length = k) (l : List α) : (flatK enc k l.toArray).toList = l.flatMap enc := by
  apply List.ext_getElem?
  intro i; have hlen : (l.flatMap enc).length = l.length * k := flat_len enc k hk l
  by_cases hi : i < l.length * k
  · have hk0 : 0 < k := by rcases Nat.eq_zero_or_pos k with h | h; (subst h; simp at hi); exact h
    have h1 := get_flatK enc k l.toArray i (by simpa using hi); rw [Array.getElem?_toList, getElem?_pos _ i (by simpa using hi)]; rw [getElem!_pos _ i (by simpa using hi)] at h1; rw [h1]; clear h1 hlen
    induction l generalizing i with
    | nil => simp at hi
    | cons x l ih =>
      rw [List.flatMap_cons]
      by_cases hx : i < k
      · rw [List.getElem?_append_left (by rw [hk]; exact hx), Nat.div_eq_of_lt hx, Nat.mod_eq_of_lt hx]
        simp [hk, hx]
      · rw [List.getElem?_append_right (by rw [hk]; omega), hk]
        have hi2 : i - k < l.length * k := by simp [Nat.add_mul] at hi; omega
        have e1 : i / k = (i - k) / k + 1 := by
          have := Nat.add_div_right (i - k) hk0; rw [show i - k + k = i by omega] at this; exact this
        have e2 : i % k = (i - k) % k := by
          have := Nat.add_mod_right (i - k) k; rw [show i - k + k = i by omega] at this; exact this
        rw [← ih (i - k) hi2, e1, e2]; simp
  · rw [Array.getElem?_toList, getElem?_neg _ i (by simpa using hi), List.getElem?_eq_none (by omega)]
omit [Inhabited α] in
theorem reps_flat (hF : Flat d enc) {inner : List Value} (h : Reps (d.M w base ok) d.sz l inner) : inner = l.flatMap enc := by
  induction l generalizing inner with
  | nil =>
    have := h.1; simp at this; simp [this]
  | cons x l ih =>
    have h0 := hF.opens (h.2 0 x rfl); simp only [Nat.zero_mul, List.drop_zero] at h0
    have ht : Reps (d.M w base ok) d.sz l (inner.drop d.sz) := ⟨by rw [List.length_drop, h.1]; simp [Nat.add_mul], fun j p hp => by
      have := h.2 (j + 1) p (by simpa using hp); rw [List.drop_drop, show d.sz + j * d.sz = (j + 1) * d.sz by rw [Nat.add_mul]; omega]
      exact this⟩
    rw [List.flatMap_cons, ← ih ht, ← h0, List.take_append_drop]
omit [Inhabited α] in
theorem flat_reps (hF : Flat d enc) (w : World) (base : Nat) (ok : Nat → Prop) (l : List α) : Reps (d.M w base ok) d.sz l (l.flatMap enc) := by
  induction l with
  | nil => exact Reps.none _ _
  | cons x l ih =>
    refine ⟨?_, fun j p hp => ?_⟩
    · rw [List.flatMap_cons, List.length_append, hF.len, ih.1]
      simp [Nat.add_mul]; omega
    · rw [List.flatMap_cons]
      cases j with
      | zero =>
        simp at hp; subst hp; rw [Nat.zero_mul, List.drop_zero, List.take_append_of_le_length (by rw [hF.len]; exact Nat.le_refl _), List.take_of_length_le (by rw [hF.len]; exact Nat.le_refl _)]; exact hF.shuts _ _ _ _
      | succ j =>
        rw [show (j + 1) * d.sz = (enc x).length + j * d.sz by rw [hF.len, Nat.add_mul]; omega, ← List.drop_drop, List.drop_left' rfl]; exact ih.2 j p (by simpa using hp)
theorem holds_of_R (hF : Flat d enc) (hR : Kd.R d e w base ok (.slice (some ⟨g, off, none⟩) n cap) l) : off = 0 ∧ n = l.length ∧ base ≤ g ∧ HoldsK enc d.sz w g 0 l.toArray ∧ g < w.heap.size ∧ cap ≤ maxLen := by
  obtain ⟨h0, inner, ⟨hl, ho⟩, hr⟩ := hR
  rcases ho with ⟨ho, _⟩ | ⟨g', cap', cur, hv, hg, hb, hle, hmax, hsz, htake⟩
  · cases ho
  · simp only [Value.slice.injEq, Option.some.injEq, Addr.mk.injEq] at hv
    obtain ⟨⟨rfl, rfl, _⟩, rfl, rfl⟩ := hv; refine ⟨rfl, rfl, hg, ?_, blk_lt hb, hmax⟩; have hin := reps_flat hF hr; intro j hj; rw [size_flatK] at hj
    have hj' : j < l.length * d.sz := by simpa using hj
    rw [Nat.zero_add]; refine ⟨?_, blk_frozen hb j⟩; rw [Qaj hb]
    have e1 : cur[j]? = inner[j]? := by
      rw [← htake, List.getElem?_take_of_lt hj', Array.getElem?_toList]
    rw [e1, hin, ← flat_toList enc d.sz hF.len, Array.getElem?_toList, getElem?_pos _ j (by rw [size_flatK]; exact hj), getElem!_pos _ j (by rw [size_flatK]; exact hj)]; rfl
theorem sorted_block {w : World} {e : Nat} {cur : Array Value} (hb : w.heap[g]? = some (.cells cur e (0, 0))) (k m : Nat) (dl : List α) (os : Array Obj) :
    (sortWorldK enc k w g 0 m dl.toArray os).heap[g]? = some (.cells (putCells id 0 (flatK enc k dl.toArray) cur) e (0, 0)) := by
  unfold sortWorldK
  have h1 : g < (putRowK enc k (Sort.ahead w m) g 0 dl.toArray).heap.size := by
    show g < (putRow id (Sort.ahead w m) g 0 _).heap.size
    rw [size_putRow]; exact blk_lt hb
  rw [heap_grow_old _ _ h1]
  show ((Sort.ahead w m).heap.modify g _)[g]? = _
  rw [Array.getElem?_modify]
  show (if g = g then (w.heap[g]?).map _ else _) = _
  rw [if_pos rfl, hb]; rfl
theorem sorted_other (enc : α → List Value) (w : World) (g k m : Nat) (dl : List α) (os : Array Obj) (i : Nat) (hi : i < w.heap.size) (hne : i ≠ g) : (sortWorldK enc k w g 0 m dl.toArray os).heap[i]? = w.heap[i]? := by
  unfold sortWorldK
  have h1 : i < (putRowK enc k (Sort.ahead w m) g 0 dl.toArray).heap.size := by
    show i < (putRow id (Sort.ahead w m) g 0 _).heap.size
    rw [size_putRow]; exact hi
  rw [heap_grow_old _ _ h1]
  show ((Sort.ahead w m).heap.modify g _)[i]? = _
  rw [Array.getElem?_modify, if_neg (by omega)]; rfl
theorem sorted_below (enc : α → List Value) (w : World) (g k m : Nat) (dl : List α) (os : Array Obj) {B : Nat} (hB : B ≤ w.heap.size) (hg : B ≤ g) : Below B w (sortWorldK enc k w g 0 m dl.toArray os) := by
  refine ⟨rfl, rfl, rfl, ?_, fun i hi => sorted_other enc w g k m dl os i (by omega) (by omega)⟩; unfold sortWorldK; rw [size_grow]
  show _ ≤ (putRow id (Sort.ahead w m) g 0 _).heap.size + _
  rw [size_putRow]; exact Nat.le_add_right _ _
theorem R_of_sorted (hF : Flat d enc) (hR : Kd.R d e w base ok (.slice (some ⟨g, 0, none⟩) n cap) l) (m : Nat) (dl : List α) (os : Array Obj) (hlen : dl.length = l.length) : Kd.R d e (sortWorldK enc d.sz w g 0 m dl.toArray os) base ok (.slice (some ⟨g, 0, none⟩) n cap) dl := by
  obtain ⟨h0, inner, ⟨hl, ho⟩, hr⟩ := hR
  rcases ho with ⟨ho, _⟩ | ⟨g', cap', cur, hv, hg, hb, hle, hmax, hsz, htake⟩
  · cases ho
  · simp only [Value.slice.injEq, Option.some.injEq, Addr.mk.injEq] at hv
    obtain ⟨⟨rfl, _, _⟩, rfl, rfl⟩ := hv; refine ⟨h0, dl.flatMap enc, ⟨?_, .inr ⟨g, cap, putCells id 0 (flatK enc d.sz dl.toArray) cur, by rw [hlen], hg, sorted_block hb d.sz m dl os, by omega, hmax, ?_, ?_⟩⟩, flat_reps hF _ _ _ _⟩
    · exact (flat_reps hF w base ok dl).1
    · unfold putCells
      simpa using hsz
    · rw [← flat_toList enc d.sz hF.len]
      apply List.ext_getElem?
      intro i; have hle2 : l.length * d.sz ≤ cap * d.sz := Nat.mul_le_mul_right _ hle
      by_cases hi : i < l.length * d.sz
      · rw [List.getElem?_take_of_lt (by rw [hlen]; exact hi), Array.getElem?_toList, Array.getElem?_toList]
        unfold putCells; rw [Array.getElem?_mapIdx, getElem?_pos cur i (by omega), getElem?_pos _ i (by rw [size_flatK]; simpa [hlen] using hi)]; simp only [Option.map_some]; rw [if_pos ⟨Nat.zero_le _, by rw [size_flatK]; simpa [hlen] using hi⟩, Nat.sub_zero, getElem!_pos _ i (by rw [size_flatK]; simpa [hlen] using hi)]; rfl
      · rw [List.getElem?_eq_none (by rw [List.length_take]; rw [hlen]; omega), Array.getElem?_toList, getElem?_neg _ i (by rw [size_flatK]; simpa [hlen] using hi)]
end
end Go.Proofs.YtmaipohgahdclaaGreatDoor.Pr
end
section
namespace Go.Proofs
open Go.Shelf
def Tryz.cmpInt_ren : Go.Shelf.Ren := ⟨fun | 5 => 42 | 7 => 63 | n => n, fun | 22 => 3 | 3 => 3 | 4 => 4 | n => n, fun | n => n⟩
theorem Tryz.cmpInt : Go.Proofs.SlLaysC2.n5 Tryz.prog Tryz.cmpInt_ren := {
  mixed := by kernel_rfl
  f5 := ⟨Tryz.f42.name, by decide, Tryz.func42.trans (congrArg some (by kernel_rfl))⟩
  f7 := ⟨Tryz.f63.name, by decide, Tryz.func63.trans (congrArg some (by kernel_rfl))⟩
  t3 := Tryz.underlying3
  a3 := Tryz.isAgg3
  z3 := Tryz.sizeOf3
  v3 := Tryz.zeroValue3
  t4 := Tryz.underlying4
  a4 := Tryz.isAgg4
  z4 := Tryz.sizeOf4
  v4 := Tryz.zeroValue4
  t22 := Tryz.underlying3
  a22 := Tryz.isAgg3
  z22 := Tryz.sizeOf3
  v22 := Tryz.zeroValue3 }
end Go.Proofs
end
section
namespace Go.Proofs.YtmaipohgahdclaaGreatDoor.Pr
open Go.RowKit Go.Proofs.YtmaipohgahdclaaGreatDoorW.PrintWords Go.Proofs.YtmaipohgahdclaaGreatDoorW.PrintLast Go.Proofs.YtmaipohgahdclaaGreatDoorW.PrintMore
attribute [local go_sem] QaU QaS max_two min_two QaM QaL QaT QaR
set_option linter.unusedVariables false
set_option linter.unusedSimpArgs false
abbrev Role := S24
theorem role_ext {a b : Role} (h0 : a.f0 = b.f0) (h1 : a.f1 = b.f1) : a = b := by cases a; cases b; simp_all
instance roleDec : DecidableEq Role := fun a b => decidable_of_iff (a.f0 = b.f0 ∧ a.f1 = b.f1) ⟨fun h => role_ext h.1 h.2, fun h => by rw [h]; exact ⟨rfl, rfl⟩⟩
abbrev Cred := S42
abbrev kCred := k42
theorem Tryz.cellsRole : Tryz.prog.cellsOf 24 = 2 := by kernel_rfl
theorem Tryz.cellsStr : Tryz.prog.cellsOf 9 = 1 := by kernel_rfl
def encCred (c : Cred) : Value := .agg #[.int .i64 c.f0.f0, .int .i64 c.f0.f1, .string c.f1, .int .i64 c.f2, .string c.f3, .string c.f4.f0, .string c.f4.f1, .string c.f5.f0, .string c.f5.f1]
def credRole (c : Cred) : Role := ⟨domName c.f0.f0, c.f1⟩
theorem credRole_calls (c : Cred) (w : World) : Calls Tryz.prog 23 #[encCred c] w fun e w' => e = .returned (.agg #[.string (credRole c).f0, .string (credRole c).f1]) ∧ Below w.heap.size w w' := cred_Role.calls _ _ _ _ _ _ _ _ _ _ _ _ (by rfl)
theorem eqRole_t {a b : Role} (h : a = b) : (a.f0.toList == b.f0.toList && (a.f1.toList == b.f1.toList)) = true := by subst h; simp
theorem eqRole_f {a b : Role} (h : ¬ a = b) : (a.f0.toList == b.f0.toList && (a.f1.toList == b.f1.toList)) = false := by
  rw [Bool.eq_false_iff]; intro e; simp only [Bool.and_eq_true, beq_iff_eq] at e; exact h (role_ext ((Lib.bytes_beq_iff _ _).mp (by rw [beq_iff_eq]; exact e.1)) ((Lib.bytes_beq_iff _ _).mp (by rw [beq_iff_eq]; exact e.2)))
abbrev credObj (c : Cred) : Obj := .cells #[.int .i64 c.f0.f0, .int .i64 c.f0.f1, .string c.f1, .int .i64 c.f2, .string c.f3, .string c.f4.f0, .string c.f4.f1, .string c.f5.f0, .string c.f5.f1] 42
theorem credCells {W : World} {k : Nat} {c : Cred} (h : W.heap[k]? = some (credObj c)) : W.cell? ⟨k, 0, none⟩ = some (.int .i64 c.f0.f0) ∧ W.cell? ⟨k, 1, none⟩ = some (.int .i64 c.f0.f1) ∧ W.cell? ⟨k, 2, none⟩ = some (.string c.f1) ∧ W.cell? ⟨k, 3, none⟩ = some (.int .i64 c.f2) ∧ W.cell? ⟨k, 4, none⟩ = some (.string c.f3) ∧ W.cell? ⟨k, 5, none⟩ = some (.string c.f4.f0) ∧ W.cell? ⟨k, 6, none⟩ = some (.string c.f4.f1) ∧ W.cell? ⟨k, 7, none⟩ = some (.string c.f5.f0) ∧ W.cell? ⟨k, 8, none⟩ = some (.string c.f5.f1) :=
  ⟨(Qaj h 0).trans rfl, (Qaj h 1).trans rfl, (Qaj h 2).trans rfl, (Qaj h 3).trans rfl, (Qaj h 4).trans rfl, (Qaj h 5).trans rfl, (Qaj h 6).trans rfl, (Qaj h 7).trans rfl, (Qaj h 8).trans rfl⟩
def credCmp (x y : Cred) : Int := if Lib.compareInt x.f0.f0 y.f0.f0 = 0 then Lib.compareInt x.f0.f1 y.f0.f1 else Lib.compareInt x.f0.f0 y.f0.f0
theorem cmp_calls (x y : Int) (w : World) : Calls Tryz.prog 42 #[.int .i64 x, .int .i64 y] w fun e w' => e = .returned (.int .i64 (Lib.compareInt x y)) ∧ w' = w := AnyG.cmp_Compare_int Tryz.cmpInt x y w
theorem boxes_grow (w : World) (a b c : Obj) (n : Nat) : ∃ q os, ((((w.alloc a).alloc b).drewN n).alloc c) = Sort.grow (w.drewN q) os := by
  refine ⟨n, #[a] ++ #[b] ++ #[c], ?_⟩; rw [Sort.alloc_eq_grow, Sort.alloc_eq_grow, Sort.alloc_eq_grow, Sort.grow_grow]; exact Sort.grow_grow (w.drewN n) _ _
set_option maxRecDepth 100000 in
set_option maxHeartbeats 4000000 in
theorem sorted1_calls (x y : Cred) (W : World) : Calls Tryz.prog 40 #[encCred x, encCred y] W fun e w' => e = .returned (.int .i64 (credCmp x y)) ∧ ∃ q os', w' = Sort.grow (W.drewN q) os' := by
  unfold credCmp encCred
  have hc1 := fun W' => cmp_calls x.f0.f0 y.f0.f0 W'
  have hc2 := fun W' => cmp_calls x.f0.f1 y.f0.f1 W'
  generalize Lib.compareInt x.f0.f0 y.f0.f0 = r1 at hc1 ⊢
  generalize Lib.compareInt x.f0.f1 y.f0.f1 = r2 at hc2 ⊢
  obtain ⟨r, hr⟩ : ∃ r, r = (if r1 = 0 then r2 else r1) := ⟨_, rfl⟩
  have hor := fun W g h0 h1 => or_calls W g r1 r2 h0 h1
  simp only [← hr] at hor ⊢; clear hr; go_enter Tryz.func40, Tryz.ntmps40
  go_upto_region 1 with fail
  change Code.wp _ _ _ _ ((W.alloc (credObj x)).alloc (credObj y))
  have HG : ∀ n : Nat, ∃ q os, ((((W.alloc (credObj x)).alloc (credObj y)).drewN n).alloc (.cells #[.int .i64 r1, .int .i64 r2] 3)) = Sort.grow (W.drewN q) os := fun n => boxes_grow W _ _ _ n
  have BX : ((W.alloc (credObj x)).alloc (credObj y)).heap[W.heap.size]? = some (credObj x) := Qaf (blk_new W _) _
  have BY : ((W.alloc (credObj x)).alloc (credObj y)).heap[W.heap.size + 1]? = some (credObj y) := by
    have := blk_new (W.alloc (credObj x)) (credObj y)
    simpa using this
  generalize (W.alloc (credObj x)).alloc (credObj y) = V at HG BX BY ⊢
  have x0 := (credCells BX).1; have x1 := (credCells BX).2.1; have y0 := (credCells BY).1; have y1 := (credCells BY).2.1; refine wp_region_still_tail 14 (by kernel_rfl) (by kernel_rfl) ?_; simp only [List.take_succ_cons, List.take_zero, List.drop_succ_cons, List.drop_zero]
  still_step
  still_step
  still_step
  still_step
  still_step
  still_step
  still_call (hc1 _)
  still_step
  still_step
  still_step
  still_step
  still_step
  still_step
  still_call (hc2 _)
  refine wpStill_nil ?_; change wpList _ _ _ _ _ V.drew
  go_wp2_with (go_at_call 41; refine (hor _ V.heap.size ?_ ?_).mono ?_; simp; simp; rintro e w3 ⟨rfl, rfl⟩)
  go_ret; exact ⟨rfl, HG 1⟩
end Go.Proofs.YtmaipohgahdclaaGreatDoor.Pr
end
section
namespace Go.Proofs
open Go.Shelf
def Tryz.sortID_ren : Go.Shelf.Ren := ⟨fun | 6 => 28 | 15 => 50 | 14 => 49 | 28 => 73 | 29 => 74 | 20 => 65 | 21 => 66 | 22 => 67 | 23 => 68 | 24 => 69 | 25 => 70 | 26 => 71 | 27 => 72 | 46 => 86 | 47 => 87 | 48 => 88 | 49 => 89 | 50 => 90 | 57 => 102 | n => n, fun | 22 => 43 | 24 => 26 | 25 => 65 | 3 => 3 | 39 => 86 | 0 => 0 | 53 => 105 | 55 => 107 | 4 => 4 | 46 => 98 | 45 => 97 | 50 => 102 | 5 => 5 | 9 => 9 | 66 => 111 | 70 => 115 | 76 => 123 | 77 => 124 | n => n, fun | n => n⟩
theorem Tryz.sortID : Go.Proofs.SlLaysF0.n6 Tryz.prog Tryz.sortID_ren := {
  mixed := by kernel_rfl
  f6 := ⟨Tryz.f28.name, by decide, Tryz.func28.trans (congrArg some (by kernel_rfl))⟩
  f14 := ⟨Tryz.f49.name, by decide, Tryz.func49.trans (congrArg some (by kernel_rfl))⟩
  f15 := Tryz.func50.trans (congrArg some (by kernel_rfl))
  f20 := ⟨Tryz.f65.name, by decide, Tryz.func65.trans (congrArg some (by kernel_rfl))⟩
  f21 := ⟨Tryz.f66.name, by decide, Tryz.func66.trans (congrArg some (by kernel_rfl))⟩
  f22 := ⟨Tryz.f67.name, by decide, Tryz.func67.trans (congrArg some (by kernel_rfl))⟩
  f23 := ⟨Tryz.f68.name, by decide, Tryz.func68.trans (congrArg some (by kernel_rfl))⟩
  f24 := ⟨Tryz.f69.name, by decide, Tryz.func69.trans (congrArg some (by kernel_rfl))⟩
  f25 := ⟨Tryz.f70.name, by decide, Tryz.func70.trans (congrArg some (by kernel_rfl))⟩
  f26 := ⟨Tryz.f71.name, by decide, Tryz.func71.trans (congrArg some (by kernel_rfl))⟩
  f27 := ⟨Tryz.f72.name, by decide, Tryz.func72.trans (congrArg some (by kernel_rfl))⟩
  f28 := Tryz.func73.trans (congrArg some (by kernel_rfl))
  f29 := Tryz.func74.trans (congrArg some (by kernel_rfl))
  f46 := ⟨Tryz.f86.name, by decide, Tryz.func86.trans (congrArg some (by kernel_rfl))⟩
  f47 := Tryz.func87.trans (congrArg some (by kernel_rfl))
  f48 := Tryz.func88.trans (congrArg some (by kernel_rfl))
  f49 := ⟨Tryz.f89.name, by decide, Tryz.func89.trans (congrArg some (by kernel_rfl))⟩
  f50 := ⟨Tryz.f90.name, by decide, Tryz.func90.trans (congrArg some (by kernel_rfl))⟩
  f57 := ⟨Tryz.f102.name, by decide, Tryz.func102.trans (congrArg some (by kernel_rfl))⟩
  t0 := Tryz.underlying0
  a0 := Tryz.isAgg0
  z0 := Tryz.sizeOf0
  v0 := Tryz.zeroValue0
  t3 := Tryz.underlying3
  a3 := Tryz.isAgg3
  z3 := Tryz.sizeOf3
  v3 := Tryz.zeroValue3
  t4 := Tryz.underlying4
  a4 := Tryz.isAgg4
  z4 := Tryz.sizeOf4
  v4 := Tryz.zeroValue4
  t5 := Tryz.underlying5
  a5 := Tryz.isAgg5
  z5 := Tryz.sizeOf5
  v5 := Tryz.zeroValue5
  t9 := Tryz.underlying9
  a9 := Tryz.isAgg9
  z9 := Tryz.sizeOf9
  v9 := Tryz.zeroValue9
  t22 := Tryz.underlying43
  a22 := Tryz.isAgg43
  z22 := Tryz.sizeOf43
  v22 := Tryz.zeroValue43
  t25 := Tryz.underlying65
  a25 := Tryz.isAgg65
  z25 := Tryz.sizeOf65
  v25 := Tryz.zeroValue65
  t39 := Tryz.underlying86
  a39 := Tryz.isAgg86
  z39 := Tryz.sizeOf86
  v39 := Tryz.zeroValue86
  t45 := Tryz.underlying97
  a45 := Tryz.isAgg97
  z45 := Tryz.sizeOf97
  v45 := Tryz.zeroValue97
  t46 := Tryz.underlying98
  a46 := Tryz.isAgg98
  z46 := Tryz.sizeOf98
  v46 := Tryz.zeroValue98
  t50 := Tryz.underlying102
  a50 := Tryz.isAgg102
  z50 := Tryz.sizeOf102
  v50 := Tryz.zeroValue102
  t53 := Tryz.underlying105
  a53 := Tryz.isAgg105
  z53 := Tryz.sizeOf105
  v53 := Tryz.zeroValue105
  t55 := Tryz.underlying107
  a55 := Tryz.isAgg107
  z55 := Tryz.sizeOf107
  v55 := Tryz.zeroValue107
  t66 := Tryz.underlying111
  a66 := Tryz.isAgg111
  z66 := Tryz.sizeOf111
  v66 := Tryz.zeroValue111
  t70 := Tryz.underlying115
  a70 := Tryz.isAgg115
  z70 := Tryz.sizeOf115
  v70 := Tryz.zeroValue115
  t76 := Tryz.underlying123
  a76 := Tryz.isAgg123
  z76 := Tryz.sizeOf123
  v76 := Tryz.zeroValue123
  t77 := Tryz.underlying124
  a77 := Tryz.isAgg124
  z77 := Tryz.sizeOf124
  v77 := Tryz.zeroValue124 }
def Tryz.insCred_ren : Go.Shelf.Ren := ⟨fun | 20 => 83 | n => n, fun | 24 => 42 | 22 => 22 | 3 => 3 | 25 => 78 | 4 => 4 | 0 => 0 | n => n, fun | n => n⟩
theorem Tryz.insCred : Go.Proofs.SlLaysF0.n20 Tryz.prog Tryz.insCred_ren := {
  mixed := by kernel_rfl
  f20 := ⟨Tryz.f83.name, by decide, Tryz.func83.trans (congrArg some (by kernel_rfl))⟩
  t0 := Tryz.underlying0
  a0 := Tryz.isAgg0
  z0 := Tryz.sizeOf0
  v0 := Tryz.zeroValue0
  t3 := Tryz.underlying3
  a3 := Tryz.isAgg3
  z3 := Tryz.sizeOf3
  v3 := Tryz.zeroValue3
  t4 := Tryz.underlying4
  a4 := Tryz.isAgg4
  z4 := Tryz.sizeOf4
  v4 := Tryz.zeroValue4
  t22 := Tryz.underlying22
  a22 := Tryz.isAgg22
  z22 := Tryz.sizeOf22
  v22 := Tryz.zeroValue22
  t25 := Tryz.underlying78
  a25 := Tryz.isAgg78
  z25 := Tryz.sizeOf78
  v25 := Tryz.zeroValue78 }
def Tryz.cloneCred_ren : Go.Shelf.Ren := ⟨fun | 41 => 38 | n => n, fun | 22 => 22 | 23 => 42 | 4 => 4 | n => n, fun | n => n⟩
theorem Tryz.cloneCred : Go.Proofs.SlLaysE0.n41 Tryz.prog Tryz.cloneCred_ren := {
  mixed := by kernel_rfl
  f41 := ⟨Tryz.f38.name, by decide, Tryz.func38.trans (congrArg some (by kernel_rfl))⟩
  t4 := Tryz.underlying4
  a4 := Tryz.isAgg4
  z4 := Tryz.sizeOf4
  v4 := Tryz.zeroValue4
  t22 := Tryz.underlying22
  a22 := Tryz.isAgg22
  z22 := Tryz.sizeOf22
  v22 := Tryz.zeroValue22 }
def Tryz.sortPair_ren : Go.Shelf.Ren := ⟨fun | 6 => 55 | 15 => 50 | 14 => 75 | 28 => 73 | 29 => 74 | 20 => 91 | 21 => 92 | 22 => 93 | 23 => 94 | 24 => 95 | 25 => 96 | 26 => 97 | 27 => 98 | 46 => 103 | 47 => 87 | 48 => 88 | 49 => 104 | 50 => 105 | 57 => 111 | n => n, fun | 22 => 49 | 24 => 51 | 25 => 91 | 3 => 3 | 39 => 86 | 0 => 0 | 53 => 105 | 55 => 107 | 4 => 4 | 46 => 98 | 45 => 97 | 50 => 102 | 5 => 5 | 9 => 9 | 66 => 111 | 70 => 115 | 76 => 123 | 77 => 124 | n => n, fun | n => n⟩
theorem Tryz.sortPair : Go.Proofs.SlLaysF0.n6 Tryz.prog Tryz.sortPair_ren := {
  mixed := by kernel_rfl
  f6 := ⟨Tryz.f55.name, by decide, Tryz.func55.trans (congrArg some (by kernel_rfl))⟩
  f14 := ⟨Tryz.f75.name, by decide, Tryz.func75.trans (congrArg some (by kernel_rfl))⟩
  f15 := Tryz.func50.trans (congrArg some (by kernel_rfl))
  f20 := ⟨Tryz.f91.name, by decide, Tryz.func91.trans (congrArg some (by kernel_rfl))⟩
  f21 := ⟨Tryz.f92.name, by decide, Tryz.func92.trans (congrArg some (by kernel_rfl))⟩
  f22 := ⟨Tryz.f93.name, by decide, Tryz.func93.trans (congrArg some (by kernel_rfl))⟩
  f23 := ⟨Tryz.f94.name, by decide, Tryz.func94.trans (congrArg some (by kernel_rfl))⟩
  f24 := ⟨Tryz.f95.name, by decide, Tryz.func95.trans (congrArg some (by kernel_rfl))⟩
  f25 := ⟨Tryz.f96.name, by decide, Tryz.func96.trans (congrArg some (by kernel_rfl))⟩
  f26 := ⟨Tryz.f97.name, by decide, Tryz.func97.trans (congrArg some (by kernel_rfl))⟩
  f27 := ⟨Tryz.f98.name, by decide, Tryz.func98.trans (congrArg some (by kernel_rfl))⟩
  f28 := Tryz.func73.trans (congrArg some (by kernel_rfl))
  f29 := Tryz.func74.trans (congrArg some (by kernel_rfl))
  f46 := ⟨Tryz.f103.name, by decide, Tryz.func103.trans (congrArg some (by kernel_rfl))⟩
  f47 := Tryz.func87.trans (congrArg some (by kernel_rfl))
  f48 := Tryz.func88.trans (congrArg some (by kernel_rfl))
  f49 := ⟨Tryz.f104.name, by decide, Tryz.func104.trans (congrArg some (by kernel_rfl))⟩
  f50 := ⟨Tryz.f105.name, by decide, Tryz.func105.trans (congrArg some (by kernel_rfl))⟩
  f57 := ⟨Tryz.f111.name, by decide, Tryz.func111.trans (congrArg some (by kernel_rfl))⟩
  t0 := Tryz.underlying0
  a0 := Tryz.isAgg0
  z0 := Tryz.sizeOf0
  v0 := Tryz.zeroValue0
  t3 := Tryz.underlying3
  a3 := Tryz.isAgg3
  z3 := Tryz.sizeOf3
  v3 := Tryz.zeroValue3
  t4 := Tryz.underlying4
  a4 := Tryz.isAgg4
  z4 := Tryz.sizeOf4
  v4 := Tryz.zeroValue4
  t5 := Tryz.underlying5
  a5 := Tryz.isAgg5
  z5 := Tryz.sizeOf5
  v5 := Tryz.zeroValue5
  t9 := Tryz.underlying9
  a9 := Tryz.isAgg9
  z9 := Tryz.sizeOf9
  v9 := Tryz.zeroValue9
  t22 := Tryz.underlying49
  a22 := Tryz.isAgg49
  z22 := Tryz.sizeOf49
  v22 := Tryz.zeroValue49
  t25 := Tryz.underlying91
  a25 := Tryz.isAgg91
  z25 := Tryz.sizeOf91
  v25 := Tryz.zeroValue91
  t39 := Tryz.underlying86
  a39 := Tryz.isAgg86
  z39 := Tryz.sizeOf86
  v39 := Tryz.zeroValue86
  t45 := Tryz.underlying97
  a45 := Tryz.isAgg97
  z45 := Tryz.sizeOf97
  v45 := Tryz.zeroValue97
  t46 := Tryz.underlying98
  a46 := Tryz.isAgg98
  z46 := Tryz.sizeOf98
  v46 := Tryz.zeroValue98
  t50 := Tryz.underlying102
  a50 := Tryz.isAgg102
  z50 := Tryz.sizeOf102
  v50 := Tryz.zeroValue102
  t53 := Tryz.underlying105
  a53 := Tryz.isAgg105
  z53 := Tryz.sizeOf105
  v53 := Tryz.zeroValue105
  t55 := Tryz.underlying107
  a55 := Tryz.isAgg107
  z55 := Tryz.sizeOf107
  v55 := Tryz.zeroValue107
  t66 := Tryz.underlying111
  a66 := Tryz.isAgg111
  z66 := Tryz.sizeOf111
  v66 := Tryz.zeroValue111
  t70 := Tryz.underlying115
  a70 := Tryz.isAgg115
  z70 := Tryz.sizeOf115
  v70 := Tryz.zeroValue115
  t76 := Tryz.underlying123
  a76 := Tryz.isAgg123
  z76 := Tryz.sizeOf123
  v76 := Tryz.zeroValue123
  t77 := Tryz.underlying124
  a77 := Tryz.isAgg124
  z77 := Tryz.sizeOf124
  v77 := Tryz.zeroValue124 }
end Go.Proofs
end
section
namespace Go.Proofs.YtmaipohgahdclaaGreatDoor.Pr
open Go.RowKit Go.Proofs.YtmaipohgahdclaaGreatDoorW.PrintWords Go.Proofs.YtmaipohgahdclaaGreatDoorW.PrintLast Go.Proofs.YtmaipohgahdclaaGreatDoorW.PrintMore
attribute [local go_sem] QaU QaS max_two min_two QaM QaL QaT QaR
set_option linter.unusedVariables false
set_option linter.unusedSimpArgs false
def encCredL (c : Cred) : List Value := [.int .i64 c.f0.f0, .int .i64 c.f0.f1, .string c.f1, .int .i64 c.f2, .string c.f3, .string c.f4.f0, .string c.f4.f1, .string c.f5.f0, .string c.f5.f1]
instance : Inhabited Cred := ⟨z42⟩
theorem flatCred : Flat kCred encCredL where
  opens h := k42_openM h
  shuts w base ok x := k42_mkM w base ok x
  len _ := rfl
theorem isAggCred (w : World) : (isAgg 42).run Tryz.prog w = .ok true w := by kernel_rfl
theorem sizeOfCred (w : World) : (Go.sizeOf 42).run Tryz.prog w = .ok 9 w := by kernel_rfl
def sortCreds (l : List Cred) : List Cred := (Go.Sort.insertionSort (ltOf credCmp) l.toArray 0 l.length).toList
theorem credCmp_lt (x y : Cred) : ltOf credCmp x y = true ↔ x.f0.f0 < y.f0.f0 ∨ (x.f0.f0 = y.f0.f0 ∧ x.f0.f1 < y.f0.f1) := by
  unfold ltOf credCmp Lib.compareInt; rw [decide_eq_true_eq]
  by_cases h1 : x.f0.f0 < y.f0.f0
  · simp [h1]
  · by_cases h2 : y.f0.f0 < x.f0.f0
    · simp [h1, h2]
      omega
    · have e : x.f0.f0 = y.f0.f0 := by omega
      by_cases h3 : x.f0.f1 < y.f0.f1
      · simp [e, h3]
      · by_cases h4 : y.f0.f1 < x.f0.f1 <;> simp [e, h3, h4]
theorem credSWO : Go.Sort.SWO (ltOf credCmp) where
  irrefl x := by rw [Bool.eq_false_iff, Ne, credCmp_lt]; omega
  trans x y z h1 h2 := by rw [credCmp_lt] at *; omega
  ntrans x y z h1 h2 := by rw [Bool.eq_false_iff, Ne, credCmp_lt] at *; omega
theorem sortCreds_length (l : List Cred) : (sortCreds l).length = l.length := by
  have := (Go.Sort.insertionSort_holds credSWO l.toArray 0 l.length (Nat.zero_le _) (by simp)).1.1
  simpa [sortCreds] using this
theorem insert_calls (w : World) (B : Nat) (g cap n : Nat) (l : List Cred) (hn : n = l.length) (hR : Kd.R kCred 42 w B (fun _ => True) (.slice (some ⟨g, 0, none⟩) n cap) l) (hB : B ≤ w.heap.size) (hl : l.length ≤ 20) : Calls Tryz.prog 83 #[.slice (some ⟨g, 0, none⟩) n cap, .int .i64 0, .int .i64 n, .func (.func 40) #[] #[]] w fun e w' =>
    e = .returned (.tuple #[]) ∧ Kd.R kCred 42 w' B (fun _ => True) (.slice (some ⟨g, 0, none⟩) n cap) (sortCreds l) ∧ Below B w w' := by
  subst hn; obtain ⟨_, _, hg, hH, hlt, hmax⟩ := holds_of_R flatCred hR; have eg : ∀ args w, (callFunc 40 args).run Tryz.prog w = .ok (.enter 40 args) w := enters_of Tryz.func40 (by kernel_rfl) rfl
  have hc : CmpLays Tryz.prog 40 #[] encCredL 9 credCmp g 0 l.toArray.size w := fun _ _ _ _ x y => sorted1_calls x y _
  refine (AnyQ.insertionSortCmpFunc Tryz.insCred 9 isAggCred sizeOfCred encCredL (fun _ => rfl) (fun x v hv => by simp [encCredL] at hv; rcases hv with rfl | rfl | rfl | rfl | rfl | rfl | rfl | rfl | rfl <;> rfl) credCmp 40 #[] g 0 cap 0 l.length l.toArray w eg hc hH hlt (Nat.zero_le _) (by simp) (by simp; omega)).mono ?_; rintro e w' ⟨rfl, n, os, rfl⟩; refine ⟨rfl, R_of_sorted flatCred hR n (sortCreds l) os (sortCreds_length l), sorted_below encCredL w g 9 n (sortCreds l) os hB hg⟩
theorem insertion_20 (d : Array Cred) : Go.Sort.insertionSort (ltOf credCmp) d 20 20 = d := by
  unfold Go.Sort.insertionSort; rw [Go.Sort.insOuter]; simp
theorem insert_20 (w : World) (B : Nat) (g cap : Nat) (l : List Cred) (hn : l.length = 20) (hR : Kd.R kCred 42 w B (fun _ => True) (.slice (some ⟨g, 0, none⟩) 20 cap) l) (hB : B ≤ w.heap.size) : Calls Tryz.prog 83 #[.slice (some ⟨g, 0, none⟩) 20 cap, .int .i64 20, .int .i64 20, .func (.func 40) #[] #[]] w fun e w' =>
    e = .returned (.tuple #[]) ∧ Kd.R kCred 42 w' B (fun _ => True) (.slice (some ⟨g, 0, none⟩) 20 cap) l ∧ Below B w w' := by
  have hR0 : Kd.R kCred 42 w B (fun _ => True) (.slice (some ⟨g, 0, none⟩) l.length cap) l := by rw [hn]; exact hR
  obtain ⟨_, _, hg, hH, hlt, hmax⟩ := holds_of_R flatCred hR0; have eg : ∀ args w, (callFunc 40 args).run Tryz.prog w = .ok (.enter 40 args) w := enters_of Tryz.func40 (by kernel_rfl) rfl
  have hc : CmpLays Tryz.prog 40 #[] encCredL 9 credCmp g 0 l.toArray.size w := fun _ _ _ _ x y => sorted1_calls x y _
  have hlen : (Go.Sort.insertionSort (ltOf credCmp) l.toArray 20 20).toList.length = l.length := by rw [insertion_20]
  have key : Calls Tryz.prog 83 #[.slice (some ⟨g, 0, none⟩) l.length cap, .int .i64 (20 : Nat), .int .i64 (20 : Nat), .func (.func 40) #[] #[]] w fun e w' =>
      e = .returned (.tuple #[]) ∧ Kd.R kCred 42 w' B (fun _ => True) (.slice (some ⟨g, 0, none⟩) l.length cap) (Go.Sort.insertionSort (ltOf credCmp) l.toArray 20 20).toList ∧ Below B w w' := by
    refine (AnyQ.insertionSortCmpFunc Tryz.insCred 9 isAggCred sizeOfCred encCredL (fun _ => rfl) (fun x v hv => by simp [encCredL] at hv; rcases hv with rfl | rfl | rfl | rfl | rfl | rfl | rfl | rfl | rfl <;> rfl) credCmp 40 #[] g 0 cap 20 20 l.toArray w eg hc hH hlt (Nat.le_refl _) (by simp [hn]) (by simp; omega)).mono ?_; rintro e w' ⟨rfl, n, os, rfl⟩; exact ⟨rfl, R_of_sorted flatCred hR0 n _ os hlen, sorted_below encCredL w g 9 n _ os hB hg⟩
  rw [insertion_20, hn] at key; exact key
set_option maxRecDepth 100000 in
set_option maxHeartbeats 4000000 in
theorem stable_lt (w : World) (B : Nat) (g cap n : Nat) (l : List Cred) (hn : n = l.length) (hR : Kd.R kCred 42 w B (fun _ => True) (.slice (some ⟨g, 0, none⟩) n cap) l) (hB : B ≤ w.heap.size) (hl : l.length < 20) : Calls Tryz.prog 62 #[.slice (some ⟨g, 0, none⟩) n cap, .int .i64 n, .func (.func 40) #[] #[]] w fun e w' =>
    e = .returned (.tuple #[]) ∧ Kd.R kCred 42 w' B (fun _ => True) (.slice (some ⟨g, 0, none⟩) n cap) (sortCreds l) ∧ Below B w w' := by
  have hi := insert_calls w B g cap n l hn hR hB (by omega); have d1 : decide ((20 : Int) ≤ (n : Int)) = false := decide_eq_false (by omega); have d2 : decide (20 ≤ n) = false := decide_eq_false (by omega); have d3 : decide ((20 : Int) < (n : Int)) = false := decide_eq_false (by omega); have d4 : decide (20 < n) = false := decide_eq_false (by omega); clear hR hl hn; go_enter Tryz.func62, Tryz.ntmps62; go_wp2
  go_loopg [7, 8] 1 (fun kq v7 v8 w' => v7 = .int .i64 0 ∧ v8 = .int .i64 20 ∧ w' = w)
  case atStart => exact ⟨rfl, rfl, rfl⟩
  case round =>
    obtain ⟨rfl, rfl, rfl⟩ := hrel
    go_wp2_with (go_at_call 83; refine hi.mono ?_; rintro e w3 ⟨rfl, hR3, hB3⟩)
    have HR := Lib.hid hR3; have HBw := Lib.hid hB3; clear hR3 hB3 hi
    go_loopg [6, 7, 8, 9] 1 (fun kq v6 _ _ _ w' => v6 = .int .i64 20 ∧ w' = w3)
    case atStart => exact ⟨rfl, rfl⟩
    case round =>
      obtain ⟨rfl, rfl⟩ := hrel; go_wp2; go_end0; exact ⟨rfl, HR.out, HBw.out⟩
set_option maxRecDepth 100000 in
set_option maxHeartbeats 4000000 in
theorem stable_20 (w : World) (B : Nat) (g cap : Nat) (l : List Cred) (hn : l.length = 20) (hR : Kd.R kCred 42 w B (fun _ => True) (.slice (some ⟨g, 0, none⟩) 20 cap) l) (hB : B ≤ w.heap.size) : Calls Tryz.prog 62 #[.slice (some ⟨g, 0, none⟩) 20 cap, .int .i64 20, .func (.func 40) #[] #[]] w fun e w' =>
    e = .returned (.tuple #[]) ∧ Kd.R kCred 42 w' B (fun _ => True) (.slice (some ⟨g, 0, none⟩) 20 cap) (sortCreds l) ∧ Below B w w' := by
  have hi : Calls Tryz.prog 83 #[.slice (some ⟨g, 0, none⟩) 20 cap, .int .i64 0, .int .i64 20, .func (.func 40) #[] #[]] w fun e w' =>
      e = .returned (.tuple #[]) ∧ Kd.R kCred 42 w' B (fun _ => True) (.slice (some ⟨g, 0, none⟩) 20 cap) (sortCreds l) ∧ Below B w w' := insert_calls w B g cap 20 l hn.symm hR hB (by omega)
  have hL := Lib.hid ((sortCreds_length l).trans hn); have hS := Lib.hid hB; clear hR hn hB; go_enter Tryz.func62, Tryz.ntmps62; go_wp2
  go_loopw [7, 8] (fun v7 v8 w' => (v7 = .int .i64 0 ∧ v8 = .int .i64 20 ∧ w' = w) ∨ (v7 = .int .i64 20 ∧ v8 = .int .i64 40 ∧ Kd.R kCred 42 w' B (fun _ => True) (.slice (some ⟨g, 0, none⟩) 20 cap) (sortCreds l) ∧ Below B w w')) (fun _ v8 _ => (60 - intOf v8).toNat)
  case atStart => exact .inl ⟨rfl, rfl, rfl⟩
  case round =>
    rcases hrel with ⟨rfl, rfl, rfl⟩ | ⟨rfl, rfl, hR3, hB3⟩
    · go_wp2_with (go_at_call 83; refine hi.mono ?_; rintro e w3 ⟨rfl, hR3, hB3⟩)
      go_roundw
      case rel => exact .inr ⟨rfl, rfl, hR3, hB3⟩
      case measure => simp [intOf]
    · have h2 := insert_20 _ B g cap (sortCreds l) hL.out hR3 (Nat.le_trans hS.out hB3.size)
      have HB := Lib.hid hB3; clear hi hR3 hB3
      go_wp2_with (go_at_call 83; refine h2.mono ?_; rintro e w4 ⟨rfl, hR4, hB4⟩)
      have HR := Lib.hid hR4; have HBw := Lib.hid hB4; clear hR4 hB4 h2
      go_loopg [6, 7, 8, 9] 1 (fun kq v6 _ _ _ w' => v6 = .int .i64 20 ∧ w' = w4)
      case atStart => exact ⟨rfl, rfl⟩
      case round =>
        obtain ⟨rfl, rfl⟩ := hrel; go_wp2; go_end0; exact ⟨rfl, HR.out, HB.out.trans HBw.out⟩
theorem stable_calls (w : World) (B : Nat) (g cap n : Nat) (l : List Cred) (hn : n = l.length) (hR : Kd.R kCred 42 w B (fun _ => True) (.slice (some ⟨g, 0, none⟩) n cap) l) (hB : B ≤ w.heap.size) (hl : l.length < 21) : Calls Tryz.prog 62 #[.slice (some ⟨g, 0, none⟩) n cap, .int .i64 n, .func (.func 40) #[] #[]] w fun e w' =>
    e = .returned (.tuple #[]) ∧ Kd.R kCred 42 w' B (fun _ => True) (.slice (some ⟨g, 0, none⟩) n cap) (sortCreds l) ∧ Below B w w' := by
  by_cases h : l.length < 20
  · exact stable_lt w B g cap n l hn hR hB h
  · obtain rfl : n = 20 := by omega
    exact stable_20 w B g cap l hn.symm hR hB
theorem cloned_nil {w : World} {e : Nat} : Kd.R kCred e (w.alloc (.cells #[] e)) w.heap.size (fun _ => True) (.slice (some ⟨w.heap.size, 0, none⟩) 0 0) [] :=
  ⟨fun _ _ => trivial, [], ⟨by simp, .inr ⟨w.heap.size, 0, #[], rfl, Nat.le_refl _, blk_new w _, Nat.le_refl _, Nat.zero_le _, by simp, by simp⟩⟩, Reps.none _ _⟩
theorem infoCred : (Tryz.prog.info? 42).map (fun i => (i.zero, i.size, i.bytes)) = some (some (.agg #[(.int .i64 0), (.int .i64 0), (.string ⟨#[]⟩), (.int .i64 0), (.string ⟨#[]⟩), (.string ⟨#[]⟩), (.string ⟨#[]⟩), (.string ⟨#[]⟩), (.string ⟨#[]⟩)]), 9, 120) := by kernel_rfl
set_option maxRecDepth 100000 in
set_option maxHeartbeats 4000000 in
theorem clone_calls (w : World) (A0 : Option Addr) (c0 n : Nat) (l : List Cred) (hn : n = l.length) (hC : Kd.C kCred w A0 n l) (hl : l.length ≤ 1000000) : Calls Tryz.prog 38 #[.slice A0 n c0] w fun e w' =>
    ∃ v, e = .returned v ∧ Kd.R kCred 42 w' w.heap.size (fun _ => True) v l ∧ Below w.heap.size w w' := by
  have _ := @sortCreds_length
  cases A0 with
  | none =>
    have hl0 : l = [] := by
      rcases Nat.eq_zero_or_pos n with h0 | h0
      · exact List.eq_nil_of_length_eq_zero (by omega)
      · obtain ⟨ad, h, _⟩ := hC.2.2 h0
        cases h
    subst hl0; refine (AnyE.slices_Clone_nil Tryz.cloneCred n c0 w).mono ?_; rintro e w' ⟨rfl, rfl⟩; exact ⟨_, rfl, Kd.R_nil _ _ _ _ _, Below.refl _ _⟩
  | some ad =>
    have q22 : ∀ (W : World) (n c n' c' : Nat), (binOp .eql 22 (.slice (some ad) n c) (.slice none n' c')).run Tryz.prog W = .ok (.bool false) W := fun W n c n' c' => Lib.run_eql_slice_nil W _ _ (some ad) n c n' c' Tryz.underlying22
    have HC := Lib.hid hC; have HL := Lib.hid hl; have HN := Lib.hid hn; clear hC hl hn; go_enter Tryz.func38, Tryz.ntmps38
    go_wp2_with ((with_reducible refine gate_builtin (b := .append) (xs := #[.tmp 5, .tmp 6]) rfl ?_); at_builtin; refine Kd.R_append_rows kCred (Rr := kCred.K w) (w0 := w) w.heap.size rfl (.tmp 5) (.tmp 6) 22 42 (.agg #[(.int .i64 0), (.int .i64 0), (.string ⟨#[]⟩), (.int .i64 0), (.string ⟨#[]⟩), (.string ⟨#[]⟩), (.string ⟨#[]⟩), (.string ⟨#[]⟩), (.string ⟨#[]⟩)]) 120 rfl Tryz.underlying22 infoCred rfl (by decide) (by omega) (.slice (some ⟨w.heap.size, 0, none⟩) 0 0) ([] : List Cred) l (some ad) n c0 (fun _ => True) (fun _ => False) rfl rfl ?aO ?aR (fun x cs h => by rw [k42_open h]; exact k42_mkM _ _ _ x) (fun _ h => h.elim) (fun _ _ => trivial) ?aB ?aS ?aL ?_; (case aO => exact cloned_nil); (case aR => exact Kd.C_alloc HC.out _); (case aB => exact (Qab (Below.refl _ _) _)); (case aS => exact (Qas (Qab (Below.refl _ _) _))); (case aL => (have := HL.out; have := HN.out; simp; omega)); intro v2 w2 ho hb hg hat)
    go_ret; exact ⟨v2, rfl, by simpa using ho, hb⟩
set_option maxRecDepth 100000 in
set_option maxHeartbeats 4000000 in
theorem sortStable_calls (w : World) (B : Nat) (g cap n : Nat) (l : List Cred) (hn : n = l.length) (hR : Kd.R kCred 42 w B (fun _ => True) (.slice (some ⟨g, 0, none⟩) n cap) l) (hB : B ≤ w.heap.size) (hl : l.length < 21) : Calls Tryz.prog 39 #[.slice (some ⟨g, 0, none⟩) n cap, .func (.func 40) #[] #[]] w fun e w' =>
    e = .returned (.tuple #[]) ∧ Kd.R kCred 42 w' B (fun _ => True) (.slice (some ⟨g, 0, none⟩) n cap) (sortCreds l) ∧ Below B w w' := by
  have hi := stable_calls w B g cap n l hn hR hB hl; clear hR hl hn; go_enter Tryz.func39, Tryz.ntmps39
  go_wp2_with (go_at_call 62; refine hi.mono ?_; rintro e w3 ⟨rfl, hR3, hB3⟩)
  go_end0; exact ⟨rfl, hR3, hB3⟩
set_option maxRecDepth 100000 in
set_option maxHeartbeats 4000000 in
theorem stable_none (w : World) (c : Nat) : Calls Tryz.prog 62 #[.slice none 0 c, .int .i64 0, .func (.func 40) #[] #[]] w fun e w' => e = .returned (.tuple #[]) ∧ w' = w := by
  have hi := AnyF.insertionSortCmpFunc_none Tryz.insCred none c (.func (.func 40) #[] #[]) w; change Calls Tryz.prog 83 _ _ _ at hi; go_enter Tryz.func62, Tryz.ntmps62; go_wp2
  go_loopg [7, 8] 1 (fun kq v7 v8 w' => v7 = .int .i64 0 ∧ v8 = .int .i64 20 ∧ w' = w)
  case atStart => exact ⟨rfl, rfl, rfl⟩
  case round =>
    obtain ⟨rfl, rfl, rfl⟩ := hrel
    go_wp2_with (go_at_call 83; refine hi.mono ?_; rintro e w3 ⟨rfl, rfl⟩)
    clear hi
    go_loopg [6, 7, 8, 9] 1 (fun kq v6 _ _ _ w' => v6 = .int .i64 20 ∧ w' = w3)
    case atStart => exact ⟨rfl, rfl⟩
    case round =>
      obtain ⟨rfl, rfl⟩ := hrel; go_wp2; go_end0; exact ⟨rfl, rfl⟩
set_option maxRecDepth 100000 in
set_option maxHeartbeats 4000000 in
theorem sortStable_none (w : World) (c : Nat) : Calls Tryz.prog 39 #[.slice none 0 c, .func (.func 40) #[] #[]] w fun e w' => e = .returned (.tuple #[]) ∧ w' = w := by
  have hi := stable_none w c; go_enter Tryz.func39, Tryz.ntmps39
  go_wp2_with (go_at_call 62; refine hi.mono ?_; rintro e w3 ⟨rfl, rfl⟩)
  go_end0; exact ⟨rfl, rfl⟩
theorem sortStable_any (w : World) (B : Nat) (v : Value) (l : List Cred) (hR : Kd.R kCred 42 w B (fun _ => True) v l) (hB : B ≤ w.heap.size) (hl : l.length < 21) : Calls Tryz.prog 39 #[v, .func (.func 40) #[] #[]] w fun e w' =>
    e = .returned (.tuple #[]) ∧ Kd.R kCred 42 w' B (fun _ => True) v (sortCreds l) ∧ Below B w w' := by
  obtain ⟨A, c, rfl⟩ := Kd.R_slice hR
  cases A with
  | none =>
    have hl0 : l = [] := by
      obtain ⟨_, inner, ⟨_, ho⟩, hr⟩ := hR
      rcases ho with ⟨_, h0⟩ | ⟨g', cap', cur, hv, _⟩
      · exact List.eq_nil_of_length_eq_zero h0
      · cases hv
    subst hl0; refine (sortStable_none w c).mono ?_; rintro e w' ⟨rfl, rfl⟩; have hs : sortCreds [] = [] := List.eq_nil_of_length_eq_zero (by rw [sortCreds_length]; rfl); exact ⟨rfl, by rw [hs]; exact hR, Below.refl _ _⟩
  | some a =>
    obtain ⟨g, off, fr⟩ := a
    have hfr : fr = none ∧ off = 0 := by
      obtain ⟨_, inner, ⟨_, ho⟩, hr⟩ := hR
      rcases ho with ⟨h0, _⟩ | ⟨g', cap', cur, hv, _⟩
      · cases h0
      · simp only [Value.slice.injEq, Option.some.injEq, Addr.mk.injEq] at hv
        exact ⟨hv.1.2.2, hv.1.2.1⟩
    obtain ⟨rfl, rfl⟩ := hfr; exact sortStable_calls w B g c l.length l rfl hR hB hl
def cred_Sorted.f (l0 : List (S42)) : Option (List (S42)) := if l0.length < 21 then some (sortCreds l0) else none
set_option maxRecDepth 100000 in
set_option maxHeartbeats 4000000 in
theorem cred_Sorted.calls (A0 : Option Addr) (c0 : Nat) (l0 : List (S42)) (r : List (S42)) (w : World) (hr0 : Kd.C k42 w A0 l0.length l0) (hc0 : l0.length ≤ c0) (h : cred_Sorted.f l0 = some r) :
    Calls Tryz.prog 21 #[.slice A0 l0.length c0] w fun e w' => ∃ v0_ : Value, e = .returned (v0_) ∧ Kd.R k42 42 w' w.heap.size (fun _ => True) v0_ r ∧ Below w.heap.size w w' := by
  unfold cred_Sorted.f at h
  by_cases hl : l0.length < 21
  · rw [if_pos hl] at h
    obtain rfl := Option.some.inj h; have hcl := clone_calls w A0 c0 l0.length l0 rfl hr0 (by omega); have HL := Lib.hid hl; clear hr0 hc0 h hl; go_enter Tryz.func21, Tryz.ntmps21
    go_wp2_with (first | (go_at_call 38; refine hcl.mono ?_; rintro e w3 ⟨v3, rfl, hR3, hB3⟩) | (go_at_call 39; refine (sortStable_any w3 w.heap.size v3 l0 hR3 hB3.size HL.out).mono ?_; rintro e w4 ⟨rfl, hR4, hB4⟩))
    go_ret; exact ⟨v3, rfl, hR4, hB3.trans hB4⟩
  · rw [if_neg hl] at h
    cases h
end Go.Proofs.YtmaipohgahdclaaGreatDoor.Pr
end
section
namespace Go.Proofs.YtmaipohgahdclaaGreatDoor
open Go.RowKit
def mayAt (i : Nat) (c : Nat) : Bool := decide (97 ≤ c ∧ c ≤ 122) || (decide (48 ≤ c ∧ c ≤ 57) && decide (i ≠ 0))
def mayUpto (s : ByteArray) : Nat → Bool
  | 0 => true
  | n + 1 => mayUpto s n && mayAt n (s.data.getD n 0).toNat
def mayName (s : ByteArray) : Bool := mayUpto s s.size && decide (0 < s.size) && decide (s.size ≤ 8)
theorem may_stop (s : ByteArray) (i : Nat) (h : mayAt i (s.data.getD i 0).toNat = false) : ∀ n, i < n → mayUpto s n = false
  | n + 1, hn => by
    rw [mayUpto]
    by_cases e : i = n
    · subst e
      rw [h, Bool.and_false]
    · rw [may_stop s i h n (by omega), Bool.false_and]
theorem may_byte (s : ByteArray) (i : Nat) (h : i < s.size) : (s.data.getD i 0).toNat = (s[i]'h).toNat := by
  have : s.data.getD i 0 = s.data[i]'h := by simp [Array.getD, h]
  rw [this]; rfl
theorem may_next (s : ByteArray) (pos : Nat) (h : pos < s.size) : ∃ d wd : Nat, (∀ (P : Program) (w : World) (ty : TypeId), (Instr.next (.pointer (some ⟨w.heap.size, 0, none⟩)) true ty).run P (w.iter s pos) = .ok (.tuple #[.bool true, .int .i64 pos, .int .i32 (d : Int)]) (w.iter s (pos + wd))) ∧
    d ≤ 2147483647 ∧ (d < 128 → wd = 1 ∧ (s.data.getD pos 0).toNat = d) ∧ (128 ≤ d → 128 ≤ (s.data.getD pos 0).toNat) := by
  rw [may_byte s pos h]
  by_cases ha : (s[pos]'h).toNat < 128
  · exact ⟨(s[pos]'h).toNat, 1, fun P w ty => run_next_ascii w s pos ty h ha, by omega, fun _ => ⟨rfl, rfl⟩, fun _ => by omega⟩
  · have hd := (decode_high s pos h (by omega)).1
    exact ⟨(Utf8.decode s pos).1, (Utf8.decode s pos).2, fun P w ty => run_next_any w s pos ty h, decode_le s pos, fun _ => by omega, fun _ => by omega⟩
theorem may_yes {s : ByteArray} {pos d : Nat} (hm : mayUpto s pos = true) (hd : (s.data.getD pos 0).toNat = d) (h : mayAt pos d = true) : mayUpto s (pos + 1) = true := by
  rw [mayUpto, hm, hd, h]; rfl
theorem may_no {s : ByteArray} {pos d : Nat} (hp : pos < s.size) (hd1 : d < 128 → (s.data.getD pos 0).toNat = d) (hd2 : 128 ≤ d → 128 ≤ (s.data.getD pos 0).toNat) (h : d < 128 → mayAt pos d = false) : mayName s = false := by
  have h3 : mayAt pos (s.data.getD pos 0).toNat = false := by
    by_cases hd : d < 128
    · rw [hd1 hd]
      exact h hd
    · have := hd2 (by omega)
      unfold mayAt; rw [decide_eq_false (by omega), decide_eq_false (by omega)]; rfl
  rw [mayName, may_stop s pos h3 s.size hp]; rfl
theorem may_empty (s : ByteArray) : s.toList.isEmpty = decide (s.size = 0) := by
  rw [← decide_eq_emptyBytes s]
  apply decide_eq_decide.2
  constructor
  · rintro rfl
    rfl
  · intro h
    apply ByteArray.ext
    apply Array.eq_empty_of_size_eq_zero
    exact h
theorem may_at_letter {pos d : Nat} (h : 97 ≤ d) (h' : d ≤ 122) : mayAt pos d = true := by unfold mayAt; rw [decide_eq_true ⟨h, h'⟩]; rfl
theorem may_at_digit {pos d : Nat} (h : 48 ≤ d) (h' : d ≤ 57) (hp : pos ≠ 0) : mayAt pos d = true := by unfold mayAt; rw [decide_eq_true (p := 48 ≤ d ∧ d ≤ 57) ⟨h, h'⟩, decide_eq_true hp]; simp
theorem may_at_none {pos d : Nat} (h : d < 97 ∨ 122 < d) (h' : (d < 48 ∨ 57 < d) ∨ pos = 0) : mayAt pos d = false := by
  unfold mayAt; rw [decide_eq_false (by omega)]
  rcases h' with h' | h'
  · rw [decide_eq_false (by omega)]
    rfl
  · rw [h']
    simp
set_option maxRecDepth 100000 in
set_option maxHeartbeats 1000000 in
theorem may_walk (s : ByteArray) (w : World) (hs : s.size ≤ maxLen) : Calls Tryz.prog 44 #[.string s] w fun e w' => e = .returned (.bool (mayName s)) ∧ Below w.heap.size w w' := by
  unfold maxLen at hs; go_enter Tryz.func44, Tryz.ntmps44; go_wp2
  go_loopw [3, 4, 5, 6] (fun _ _ _ _ w' => ∃ pos : Nat, w' = w.iter s pos ∧ pos ≤ s.size ∧ mayUpto s pos = true) (fun _ _ _ _ w' => s.size - w'.iterPos w.heap.size)
  case atStart => exact ⟨0, rfl, Nat.zero_le _, rfl⟩
  case round =>
    obtain ⟨pos, rfl, hle, hm⟩ := hrel; have HM := Lib.hid hm; clear hm
    have hB : ∀ p, Below w.heap.size w (w.iter s p) := fun p => (Below.refl _ _).alloc (Nat.le_refl _) _
    by_cases hp : pos < s.size
    · obtain ⟨d, wd, hnx0, hd1, hd2, hd3⟩ := may_next s pos hp
      have hnx := fun ty => hnx0 Tryz.prog w ty
      have HD2 := Lib.hid hd2; have HD3 := Lib.hid hd3; clear hnx0 hd2 hd3
      by_cases c1 : 97 ≤ d
      · by_cases c2 : d ≤ 122
        · have c7 : 48 ≤ d := by omega
          have a1 : decide ((97 : Int) ≤ (d : Int)) = true := decide_eq_true (by omega); have a2 : decide ((d : Int) ≤ 122) = true := decide_eq_true (by omega); have a3 : decide ((48 : Int) ≤ (d : Int)) = true := decide_eq_true (by omega); have a4 : decide ((d : Int) ≤ 57) = false := decide_eq_false (by omega); go_wp2
          go_roundw
          case rel => exact ⟨pos + wd, rfl, by have := HD2.out (by omega); omega, by rw [(HD2.out (by omega)).1]; exact may_yes HM.out (HD2.out (by omega)).2 (may_at_letter c1 c2)⟩
          case measure =>
            have := (HD2.out (by omega)).1; simp; omega
        · have hno := may_no hp (fun h => (HD2.out h).2) HD3.out (fun _ => may_at_none (by omega) (by omega))
          have HN := Lib.hid hno; clear hno; have a1 : decide ((97 : Int) ≤ (d : Int)) = true := decide_eq_true (by omega); have a2 : decide ((d : Int) ≤ 122) = false := decide_eq_false (by omega); have a3 : decide ((48 : Int) ≤ (d : Int)) = true := decide_eq_true (by omega); have a4 : decide ((d : Int) ≤ 57) = false := decide_eq_false (by omega); go_wp2; go_ret; exact ⟨by rw [HN.out]; rfl, hB _⟩
      · by_cases c3 : 48 ≤ d
        · by_cases c4 : d ≤ 57
          · by_cases c5 : pos = 0
            · have hno := may_no hp (fun h => (HD2.out h).2) HD3.out (fun _ => may_at_none (by omega) (.inr c5))
              have HN := Lib.hid hno; clear hno; have c6 : ((pos : Int) == 0) = true := beq_iff_eq.2 (by omega); have C5 := Lib.hid c5; clear c5; have a1 : decide ((97 : Int) ≤ (d : Int)) = false := decide_eq_false (by omega); have a2 : decide ((d : Int) ≤ 122) = true := decide_eq_true (by omega); have a3 : decide ((48 : Int) ≤ (d : Int)) = true := decide_eq_true (by omega); have a4 : decide ((d : Int) ≤ 57) = true := decide_eq_true (by omega); go_wp2; go_ret; exact ⟨by rw [HN.out]; rfl, hB _⟩
            · have c6 : ((pos : Int) == 0) = false := beq_eq_false_iff_ne.2 (by omega)
              have a1 : decide ((97 : Int) ≤ (d : Int)) = false := decide_eq_false (by omega); have a2 : decide ((d : Int) ≤ 122) = true := decide_eq_true (by omega); have a3 : decide ((48 : Int) ≤ (d : Int)) = true := decide_eq_true (by omega); have a4 : decide ((d : Int) ≤ 57) = true := decide_eq_true (by omega); go_wp2
              go_roundw
              case rel => exact ⟨pos + wd, rfl, by have := HD2.out (by omega); omega, by rw [(HD2.out (by omega)).1]; exact may_yes HM.out (HD2.out (by omega)).2 (may_at_digit c3 c4 c5)⟩
              case measure =>
                have := (HD2.out (by omega)).1; simp; omega
          · have hno := may_no hp (fun h => (HD2.out h).2) HD3.out (fun _ => may_at_none (by omega) (by omega))
            have HN := Lib.hid hno; clear hno; have a1 : decide ((97 : Int) ≤ (d : Int)) = false := decide_eq_false (by omega); have a2 : decide ((d : Int) ≤ 122) = true := decide_eq_true (by omega); have a3 : decide ((48 : Int) ≤ (d : Int)) = true := decide_eq_true (by omega); have a4 : decide ((d : Int) ≤ 57) = false := decide_eq_false (by omega); go_wp2; go_ret; exact ⟨by rw [HN.out]; rfl, hB _⟩
        · have hno := may_no hp (fun h => (HD2.out h).2) HD3.out (fun _ => may_at_none (by omega) (by omega))
          have HN := Lib.hid hno; clear hno; have a1 : decide ((97 : Int) ≤ (d : Int)) = false := decide_eq_false (by omega); have a2 : decide ((d : Int) ≤ 122) = true := decide_eq_true (by omega); have a3 : decide ((48 : Int) ≤ (d : Int)) = false := decide_eq_false (by omega); have a4 : decide ((d : Int) ≤ 57) = true := decide_eq_true (by omega); go_wp2; go_ret; exact ⟨by rw [HN.out]; rfl, hB _⟩
    · obtain rfl : pos = s.size := by omega
      have hnx : ∀ ty, (Instr.next (.pointer (some ⟨w.heap.size, 0, none⟩)) true ty).run Tryz.prog (w.iter s s.size) = _ := fun ty => run_next_end w s s.size ty hp
      have he := may_empty s; have HE := Lib.hid he; clear he
      by_cases h0 : s.size = 0
      · have h1 : s.toList.isEmpty = true := by rw [HE.out]; exact decide_eq_true h0
        have hno : mayName s = false := by rw [mayName, decide_eq_false (p := 0 < s.size) (by omega)]; simp
        have HN := Lib.hid hno; have H0 := Lib.hid h0; clear hno h0; go_wp2; go_ret; exact ⟨by rw [HN.out]; rfl, hB _⟩
      · have h1 : s.toList.isEmpty = false := by rw [HE.out]; exact decide_eq_false h0
        have hyes : mayName s = decide ((s.size : Int) ≤ 8) := by
          rw [mayName, HM.out, decide_eq_true (p := 0 < s.size) (by omega)]; simp only [Bool.true_and]
          apply decide_eq_decide.2
          omega
        have HN := Lib.hid hyes; clear hyes; go_wp2
        all_goals
          go_ret; exact ⟨by rw [HN.out]; rfl, hB _⟩
end Go.Proofs.YtmaipohgahdclaaGreatDoor
end
section
namespace Go.Proofs.YtmaipohgahdclaaGreatDoor.Pr
open Go.RowKit Go.Proofs.YtmaipohgahdclaaGreatDoorW.PrintWords Go.Proofs.YtmaipohgahdclaaGreatDoorW.PrintLast Go.Proofs.YtmaipohgahdclaaGreatDoorW.PrintMore
attribute [local go_sem] QaU QaS max_two min_two QaM QaL QaT QaR
set_option linter.unusedVariables false
set_option linter.unusedSimpArgs false
def names_May.f (a0 : ByteArray) : Option Bool := if a0.size ≤ maxLen then some (mayName a0) else none
theorem names_May.calls (a0 : ByteArray) (r : Bool) (w : World) (h : names_May.f a0 = some r) :
    Calls Tryz.prog 44 #[.string a0] w fun e w' => e = .returned (.bool r) ∧ Below w.heap.size w w' := by
  unfold names_May.f at h
  split at h
  · rename_i hs
    obtain rfl := Option.some.inj h; exact may_walk a0 w hs
  · cases h
def names_Number.l0 : Nat → ByteArray → Int → Option (Int)
 | 0, _, _ => none
 | k + 1, x0, x3 => if x3 ≤ 16 then ((names_Domain.f x3).bind fun t101 => (if t101.toList = x0.toList then (some x3) else (names_Number.l0 k x0 (wrap64 (x3 + 1))))) else (some 0)
def names_Number.f (k : Nat) (a0 : ByteArray) : Option (Int) := names_Number.l0 k a0 1
set_option maxHeartbeats 8000000 in
set_option maxRecDepth 100000 in
theorem names_Number.calls (k : Nat) (a0 : ByteArray) (r : Int) (w : World) (h : names_Number.f k a0 = some r) :
  Calls Tryz.prog 48 #[.string a0] w fun e w' => e = .returned (.int .i64 r) ∧ Drawn0 w w' := by
 have H : (names_Number.l0 k a0 1) = some r := h; clear h; have H' := Qad.mk H; clear H; go_enter Tryz.func48, Tryz.ntmps48; go_wp2
 go_loopg [3] k (fun kq v3 w' => ∃ (x3_1 : Int), v3 = .int .i64 x3_1 ∧ Qad (names_Number.l0 kq a0 x3_1 = some r) ∧ Qad (kq ≤ k) ∧ Drawn0 w w')
 case atStart => exact ⟨(1), (by first | rfl | (simp; done) | (simp [*]; done)), H', ⟨Nat.le_refl _⟩, by repeat (first | exact Drawn0.refl _ | apply Drawn0.step)⟩
 case round =>
  clear H'; obtain ⟨x3_1, rfl, HA, HK1, ⟨m1, rfl⟩⟩ := hrel
  cases gk with
  | zero => exact absurd HA.out (by simp [names_Number.l0])
  | succ k1 =>
   have H := HA.out; clear HA; simp only [names_Number.l0] at H
   by_cases c2 : x3_1 ≤ 16
   ·rw [if_pos c2] at H; have c2b0 : decide (x3_1 ≤ 16) = true := decide_eq_true c2; clear c2; replace H := Option.bind_eq_some_iff.mp H; obtain ⟨t101, A30, H⟩ := H; replace H : (if t101.toList = a0.toList then (some x3_1) else (names_Number.l0 k1 a0 (wrap64 (x3_1 + 1)))) = some r := H; have A3 := Qad.mk A30; clear A30
    by_cases c4 : t101.toList = a0.toList
    ·rw [if_pos c4] at H; have c4b0 : (t101.toList == a0.toList) = true := beq_iff_eq.mpr c4; have c4b1 : (t101.toList != a0.toList) = false := bne_eq_false_iff_eq.mpr c4; clear c4; obtain rfl := Option.some.inj H
     go_wp2_with (first | ((with_reducible refine QaO (f := 43) rfl ?_); refine goesL_ (some 9) rfl rfl Tryz.func43 (by kernel_rfl) rfl #[.int .i64 x3_1] rfl (by (try simp only [List.map_toArray, List.map_cons, List.map_nil]); first | done | rfl | (simp only [List.length_drop, List.length_take]; rfl)) ?_; (with_reducible refine (names_Domain.calls x3_1 t101 _ A3.out).mono ?_); rintro e w' ⟨rfl, ⟨nd, rfl⟩⟩; refine ⟨_, rfl, ?_⟩))
     go_ret; exact ⟨by first | rfl | (simp; done) | (simp [*]; done), by repeat (first | exact Drawn0.refl _ | apply Drawn0.step)⟩
    ·rw [if_neg c4] at H; have c4b0 : (t101.toList == a0.toList) = false := beq_eq_false_iff_ne.mpr c4; have c4b1 : (t101.toList != a0.toList) = true := bne_iff_ne.mpr c4; have H' := Qad.mk H; clear H
     go_wp2_with (first | ((with_reducible refine QaO (f := 43) rfl ?_); refine goesL_ (some 9) rfl rfl Tryz.func43 (by kernel_rfl) rfl #[.int .i64 x3_1] rfl (by (try simp only [List.map_toArray, List.map_cons, List.map_nil]); first | done | rfl | (simp only [List.length_drop, List.length_take]; rfl)) ?_; (with_reducible refine (names_Domain.calls x3_1 t101 _ A3.out).mono ?_); rintro e w' ⟨rfl, ⟨nd, rfl⟩⟩; refine ⟨_, rfl, ?_⟩))
     go_roundg k1
     case measure => have := HK1.out; omega
     case rel => exact ⟨(wrap64 (x3_1 + 1)), (by first | rfl | (simp; done) | (simp [*]; done)), H', ⟨by have := HK1.out; omega⟩, by repeat (first | exact Drawn0.refl _ | apply Drawn0.step)⟩
   ·rw [if_neg c2] at H; have c2b0 : decide (x3_1 ≤ 16) = false := decide_eq_false c2; clear c2; obtain rfl := Option.some.inj H; go_wp2; go_ret; exact ⟨by first | rfl | (simp; done) | (simp [*]; done), by repeat (first | exact Drawn0.refl _ | apply Drawn0.step)⟩
def names_Role.f (k : Nat) (a0_0 : ByteArray) (a0_1 : ByteArray) : Option (Bool) := (names_Number.f k a0_0).bind fun t102 => (if t102 > 0 then ((names_May.f a0_1).bind fun t103 => (some t103)) else (some false))
set_option maxHeartbeats 8000000 in
set_option maxRecDepth 100000 in
theorem names_Role.calls (k : Nat) (a0_0 : ByteArray) (a0_1 : ByteArray) (r : Bool) (w : World) (h : names_Role.f k a0_0 a0_1 = some r) :
  Calls Tryz.prog 45 #[.agg #[.string a0_0, .string a0_1]] w fun e w' => e = .returned (.bool r) ∧ Below w.heap.size w w' := by
 have hu24 := Tryz.underlying24; have HB := Qad.mk (Below.refl w.heap.size w); have H : ((names_Number.f k a0_0).bind fun t102 => (if t102 > 0 then ((names_May.f a0_1).bind fun t103 => (some t103)) else (some false))) = some r := h; clear h; replace H := Option.bind_eq_some_iff.mp H; obtain ⟨t102, A20, H⟩ := H; replace H : (if t102 > 0 then ((names_May.f a0_1).bind fun t103 => (some t103)) else (some false)) = some r := H; have A2 := Qad.mk A20; clear A20
 by_cases c3 : t102 > 0
 ·rw [if_pos c3] at H; have c3b0 : decide (0 < t102) = true := decide_eq_true c3; clear c3; replace H := Option.bind_eq_some_iff.mp H; obtain ⟨t103, A40, H⟩ := H; replace H : (some t103) = some r := H; have A4 := Qad.mk A40; clear A40; obtain rfl := Option.some.inj H; go_enter Tryz.func45, Tryz.ntmps45
  go_wp2_with (first | ((with_reducible refine QaN (N := 1) rfl ?_); refine QaK ?hg (N := 1) ?hd (cs := #[.string a0_0, .string a0_1]) (t := 24) ?hr ?_; (case hd => rfl); (case hg => rfl); (case hr => first | (go_simp; done) | (go_simp; rfl)); intro gb101 hg w5 hbox hb; have n0_ := Qad.mk (Qak (by repeat (first | (with_reducible first | exact HB.out | apply Qab | apply Qaa | apply Qac) | exact HB.out)) hb); have n1_ := Qad.mk (hbox); have n2_ := Qad.mk ((by rw [hg]; exact (Qas (by repeat (first | (with_reducible first | exact HB.out | apply Qab | apply Qaa | apply Qac) | exact HB.out))) : w.heap.size ≤ gb101)); have n3_ := n2_; clear HB; have HB := n0_; have BK101 := n1_; have GW101 := n2_; have GE101 := n3_; clear n0_ n1_ n2_ n3_; clear hb hbox hg; obtain ⟨hcz6_0, hcz6_1⟩ := cz_ss BK101.out; obtain ⟨hfz6_0, hfz6_1⟩ := fz_2 BK101.out) | ((with_reducible refine QaO (f := 48) rfl ?_); refine goesL_ (some 5) rfl rfl Tryz.func48 (by kernel_rfl) rfl #[.string a0_0] rfl (by (try simp only [List.map_toArray, List.map_cons, List.map_nil]); first | done | rfl | (simp only [List.length_drop, List.length_take]; rfl)) ?_; (with_reducible refine (names_Number.calls k a0_0 t102 _ A2.out).mono ?_); rintro e w' ⟨rfl, ⟨nd, rfl⟩⟩; refine ⟨_, rfl, ?_⟩) | (go_at_call 44; (with_reducible refine (names_May.calls a0_1 t103 _ A4.out).mono ?_); rintro e w7 ⟨rfl, hb⟩; have n0_ := Qad.mk (Qal (g := gb101) (o := ob_ss a0_0 a0_1 24) (by (with_reducible repeat (first | refine Qag ?_ _ | refine Qah ?_ | refine Qaf ?_ _)); exact BK101.out) hb); have n1_ := Qad.mk (Qak (by repeat (first | (with_reducible first | exact HB.out | apply Qab | apply Qaa | apply Qac | refine Qai ?_ GE101.out) | exact HB.out)) hb); clear BK101; clear HB; have BK101 := n0_; have HB := n1_; clear n0_ n1_; (try clear hb); (try clear hb2); (try clear hk); (try clear hi)))
  go_ret; exact ⟨by first | rfl | (simp [Qar, Qaq] <;> rfl) | (simp [*, Qar, Qaq] <;> rfl), by repeat (first | (with_reducible first | exact HB.out | apply Qab | apply Qaa | apply Qac | refine Qai ?_ GE101.out) | exact HB.out)⟩
 ·rw [if_neg c3] at H; have c3b0 : decide (0 < t102) = false := decide_eq_false c3; clear c3; obtain rfl := Option.some.inj H; go_enter Tryz.func45, Tryz.ntmps45
  go_wp2_with (first | ((with_reducible refine QaN (N := 1) rfl ?_); refine QaK ?hg (N := 1) ?hd (cs := #[.string a0_0, .string a0_1]) (t := 24) ?hr ?_; (case hd => rfl); (case hg => rfl); (case hr => first | (go_simp; done) | (go_simp; rfl)); intro gb101 hg w8 hbox hb; have n0_ := Qad.mk (Qak (by repeat (first | (with_reducible first | exact HB.out | apply Qab | apply Qaa | apply Qac) | exact HB.out)) hb); have n1_ := Qad.mk (hbox); have n2_ := Qad.mk ((by rw [hg]; exact (Qas (by repeat (first | (with_reducible first | exact HB.out | apply Qab | apply Qaa | apply Qac) | exact HB.out))) : w.heap.size ≤ gb101)); have n3_ := n2_; clear HB; have HB := n0_; have BK101 := n1_; have GW101 := n2_; have GE101 := n3_; clear n0_ n1_ n2_ n3_; clear hb hbox hg; obtain ⟨hcz9_0, hcz9_1⟩ := cz_ss BK101.out; obtain ⟨hfz9_0, hfz9_1⟩ := fz_2 BK101.out) | ((with_reducible refine QaO (f := 48) rfl ?_); refine goesL_ (some 5) rfl rfl Tryz.func48 (by kernel_rfl) rfl #[.string a0_0] rfl (by (try simp only [List.map_toArray, List.map_cons, List.map_nil]); first | done | rfl | (simp only [List.length_drop, List.length_take]; rfl)) ?_; (with_reducible refine (names_Number.calls k a0_0 t102 _ A2.out).mono ?_); rintro e w' ⟨rfl, ⟨nd, rfl⟩⟩; refine ⟨_, rfl, ?_⟩))
  go_ret; exact ⟨by first | rfl | (simp [Qar, Qaq] <;> rfl) | (simp [*, Qar, Qaq] <;> rfl), by repeat (first | (with_reducible first | exact HB.out | apply Qab | apply Qaa | apply Qac | refine Qai ?_ GE101.out) | exact HB.out)⟩
def cred_bare.f (a0_0 : ByteArray) (a0_1 : ByteArray) : Option (Bool) := if a0_0.toList = ([] : List UInt8) then ((names_May.f a0_1).bind fun t102 => (some t102)) else (some false)
set_option maxHeartbeats 8000000 in
set_option maxRecDepth 100000 in
theorem cred_bare.calls (a0_0 : ByteArray) (a0_1 : ByteArray) (r : Bool) (w : World) (h : cred_bare.f a0_0 a0_1 = some r) :
  Calls Tryz.prog 46 #[.agg #[.string a0_0, .string a0_1]] w fun e w' => e = .returned (.bool r) ∧ Below w.heap.size w w' := by
 have hu24 := Tryz.underlying24; have HB := Qad.mk (Below.refl w.heap.size w); have H : (if a0_0.toList = ([] : List UInt8) then ((names_May.f a0_1).bind fun t102 => (some t102)) else (some false)) = some r := h; clear h
 by_cases c2 : a0_0.toList = ([] : List UInt8)
 ·rw [if_pos c2] at H; have c2b0 : (a0_0.toList == ([] : List UInt8)) = true := beq_iff_eq.mpr c2; have c2b1 : (a0_0.toList != ([] : List UInt8)) = false := bne_eq_false_iff_eq.mpr c2; clear c2; replace H := Option.bind_eq_some_iff.mp H; obtain ⟨t102, A30, H⟩ := H; replace H : (some t102) = some r := H; have A3 := Qad.mk A30; clear A30; obtain rfl := Option.some.inj H; go_enter Tryz.func46, Tryz.ntmps46
  go_wp2_with (first | ((with_reducible refine QaN (N := 1) rfl ?_); refine QaK ?hg (N := 1) ?hd (cs := #[.string a0_0, .string a0_1]) (t := 24) ?hr ?_; (case hd => rfl); (case hg => rfl); (case hr => first | (go_simp; done) | (go_simp; rfl)); intro gb101 hg w4 hbox hb; have n0_ := Qad.mk (Qak (by repeat (first | (with_reducible first | exact HB.out | apply Qab | apply Qaa | apply Qac) | exact HB.out)) hb); have n1_ := Qad.mk (hbox); have n2_ := Qad.mk ((by rw [hg]; exact (Qas (by repeat (first | (with_reducible first | exact HB.out | apply Qab | apply Qaa | apply Qac) | exact HB.out))) : w.heap.size ≤ gb101)); have n3_ := n2_; clear HB; have HB := n0_; have BK101 := n1_; have GW101 := n2_; have GE101 := n3_; clear n0_ n1_ n2_ n3_; clear hb hbox hg; obtain ⟨hcz5_0, hcz5_1⟩ := cz_ss BK101.out; obtain ⟨hfz5_0, hfz5_1⟩ := fz_2 BK101.out) | (go_at_call 44; (with_reducible refine (names_May.calls a0_1 t102 _ A3.out).mono ?_); rintro e w6 ⟨rfl, hb⟩; have n0_ := Qad.mk (Qal (g := gb101) (o := ob_ss a0_0 a0_1 24) (by (with_reducible repeat (first | refine Qag ?_ _ | refine Qah ?_ | refine Qaf ?_ _)); exact BK101.out) hb); have n1_ := Qad.mk (Qak (by repeat (first | (with_reducible first | exact HB.out | apply Qab | apply Qaa | apply Qac | refine Qai ?_ GE101.out) | exact HB.out)) hb); clear BK101; clear HB; have BK101 := n0_; have HB := n1_; clear n0_ n1_; (try clear hb); (try clear hb2); (try clear hk); (try clear hi)))
  go_ret; exact ⟨by first | rfl | (simp [Qar, Qaq] <;> rfl) | (simp [*, Qar, Qaq] <;> rfl), by repeat (first | (with_reducible first | exact HB.out | apply Qab | apply Qaa | apply Qac | refine Qai ?_ GE101.out) | exact HB.out)⟩
 ·rw [if_neg c2] at H; have c2b0 : (a0_0.toList == ([] : List UInt8)) = false := beq_eq_false_iff_ne.mpr c2; have c2b1 : (a0_0.toList != ([] : List UInt8)) = true := bne_iff_ne.mpr c2; obtain rfl := Option.some.inj H; go_enter Tryz.func46, Tryz.ntmps46
  go_wp2_with (first | ((with_reducible refine QaN (N := 1) rfl ?_); refine QaK ?hg (N := 1) ?hd (cs := #[.string a0_0, .string a0_1]) (t := 24) ?hr ?_; (case hd => rfl); (case hg => rfl); (case hr => first | (go_simp; done) | (go_simp; rfl)); intro gb101 hg w7 hbox hb; have n0_ := Qad.mk (Qak (by repeat (first | (with_reducible first | exact HB.out | apply Qab | apply Qaa | apply Qac) | exact HB.out)) hb); have n1_ := Qad.mk (hbox); have n2_ := Qad.mk ((by rw [hg]; exact (Qas (by repeat (first | (with_reducible first | exact HB.out | apply Qab | apply Qaa | apply Qac) | exact HB.out))) : w.heap.size ≤ gb101)); have n3_ := n2_; clear HB; have HB := n0_; have BK101 := n1_; have GW101 := n2_; have GE101 := n3_; clear n0_ n1_ n2_ n3_; clear hb hbox hg; obtain ⟨hcz8_0, hcz8_1⟩ := cz_ss BK101.out; obtain ⟨hfz8_0, hfz8_1⟩ := fz_2 BK101.out))
  go_ret; exact ⟨by first | rfl | (simp [Qar, Qaq] <;> rfl) | (simp [*, Qar, Qaq] <;> rfl), by repeat (first | (with_reducible first | exact HB.out | apply Qab | apply Qaa | apply Qac | refine Qai ?_ GE101.out) | exact HB.out)⟩
end Go.Proofs.YtmaipohgahdclaaGreatDoor.Pr
end
section
namespace Go.Proofs.YtmaipohgahdclaaGreatDoor.Pr
open Go.RowKit Go.Proofs.YtmaipohgahdclaaGreatDoorW.PrintWords Go.Proofs.YtmaipohgahdclaaGreatDoorW.PrintLast Go.Proofs.YtmaipohgahdclaaGreatDoorW.PrintMore
structure BW (W : World) where
  now : World
  ok : Below W.heap.size W now
instance bwNonempty (W : World) : Nonempty (BW W) := ⟨⟨W, Below.refl _ _⟩⟩
theorem wp_region_below {P : Program} {id : Nat} {Q : Exit → Act → World → Prop} {a : Act} {W : World} {l : List Oper} (hm : P.follows .mixedOrders = true) (hB : Region.lexB .any l.toArray = true)
    (h : wpQuiet P l.toArray (fun w' => ∃ u : BW W, w' = u.now) (fun a' => ∀ w', (∃ u : BW W, w' = u.now) → Q .normal a' w') l a) : (Code.region id l.toArray true).wp P Q a W :=
  wp_region_quiet (C := fun w' => ∃ u : BW W, w' = u.now) hm hB ⟨⟨_, Qac (Below.refl W.heap.size W)⟩, rfl⟩ (by simpa using h)
theorem bw_cell {W : World} {a : Addr} {v : Value} (h : W.cell? a = some v) (u : BW W) : u.now.cell? a = some v := QaJ u.ok h
theorem bw_call {P : Program} {f : FuncId} {args : Array Value} {W : World} {v : Value} {u : BW W} (h : Calls P f args u.now fun e w' => e = .returned v ∧ Below u.now.heap.size u.now w') : Calls P f args u.now fun e w'' => e = .returned v ∧ ∃ u' : BW W, w'' = u'.now :=
  h.mono fun _ w' ⟨he, hb⟩ => ⟨he, ⟨w', Qak u.ok hb⟩, rfl⟩
theorem bw_alloc {w : World} {a : Addr} {v : Value} (h : w.cell? a = some v) (o : Obj) : (w.alloc o).cell? a = some v := QaJ (Qab (Below.refl _ _) o) h
abbrev roleObj2 (r : Role) : Obj := .cells #[.string r.f0, .string r.f1] 24
theorem roleCells2 {W : World} {k : Nat} {r : Role} (h : W.heap[k]? = some (roleObj2 r)) : W.cell? ⟨k, 0, none⟩ = some (.string r.f0) ∧ W.cell? ⟨k, 1, none⟩ = some (.string r.f1) :=
  ⟨(Qaj h 0).trans rfl, (Qaj h 1).trans rfl⟩
theorem boxed1 {w W : World} {o : Obj} (h : w.alloc o = W) : Below w.heap.size w W ∧ W.heap[w.heap.size]? = some o := by
  subst h; exact ⟨Qab (Below.refl w.heap.size w) _, blk_new w _⟩
theorem boxed2 {w W : World} {o1 o2 : Obj} (h : (w.alloc o1).alloc o2 = W) : Below w.heap.size w W ∧ W.heap[w.heap.size]? = some o1 ∧ W.heap[w.heap.size + 1]? = some o2 ∧ W.heap.size = w.heap.size + 1 + 1 := by
  subst h
  have e1 : (w.alloc o1).heap.size = w.heap.size + 1 := by simp
  refine ⟨Qab (Qab (Below.refl w.heap.size w) _) _, Qaf (blk_new w _) _, ?_, by simp⟩; have := blk_new (w.alloc o1) o2
  rwa [e1] at this
theorem boxed3 {w W : World} {o1 o2 o3 : Obj} (h : ((w.alloc o1).alloc o2).alloc o3 = W) : Below w.heap.size w W ∧ W.heap[w.heap.size]? = some o1 ∧ W.heap[w.heap.size + 1]? = some o2 ∧ W.heap[w.heap.size + 1 + 1]? = some o3 := by
  subst h
  have e1 : (w.alloc o1).heap.size = w.heap.size + 1 := by simp
  have e2 : ((w.alloc o1).alloc o2).heap.size = w.heap.size + 1 + 1 := by simp
  refine ⟨Qab (Qab (Qab (Below.refl w.heap.size w) _) _) _, Qaf (Qaf (blk_new w _) _) _, Qaf ?_ _, ?_⟩
  · have := blk_new (w.alloc o1) o2
    rwa [e1] at this
  · have := blk_new ((w.alloc o1).alloc o2) o3
    rwa [e2] at this
theorem str_t {a b : ByteArray} (h : a = b) : (a.toList == b.toList) = true := by subst h; simp
theorem str_f {a b : ByteArray} (h : ¬ a = b) : (a.toList == b.toList) = false := by
  rw [Bool.eq_false_iff]; intro e; exact h ((Lib.bytes_beq_iff _ _).mp e)
end Go.Proofs.YtmaipohgahdclaaGreatDoor.Pr
end
section
namespace Go.Proofs.YtmaipohgahdclaaGreatDoor.Pr
open Go.RowKit Go.Proofs.YtmaipohgahdclaaGreatDoorW.PrintWords Go.Proofs.YtmaipohgahdclaaGreatDoorW.PrintLast Go.Proofs.YtmaipohgahdclaaGreatDoorW.PrintMore
set_option linter.unusedVariables false
set_option linter.unusedSimpArgs false
attribute [local go_sem high] eqA24
def noText (s : ByteArray) : Bool := s.toList == ([] : List UInt8)
def noRole (r : Role) : Bool := noText r.f0 && noText r.f1
def and3 (x : Option Bool) (y z : Option Bool) : Option Bool := x.bind fun b => if b = true then (y.bind fun d => if d = true then z else some false) else some false
def mayKind (c : Cred) : Option Bool :=
  if c.f2 = 1 then and3 (names_May.f c.f3) (some (noRole c.f4)) (some (noRole c.f5))
  else if c.f2 = 2 then and3 (names_Role.f 20 c.f4.f0 c.f4.f1) (some (noRole c.f5)) (some (noText c.f3))
  else if c.f2 = 3 then and3 (cred_bare.f c.f4.f0 c.f4.f1) (cred_bare.f c.f5.f0 c.f5.f1) (some (noText c.f3))
  else if c.f2 = 4 then and3 (names_Role.f 20 c.f4.f0 c.f4.f1) (names_Role.f 20 c.f5.f0 c.f5.f1) (some (noText c.f3))
  else some false
def mayF (c : Cred) : Option Bool :=
  if noText (domName c.f0.f0) = true then some false else if c.f0.f1 < 1 then some false else if c.f0.f1 > 4000 then some false else (names_May.f c.f1).bind fun m => if m = true then mayKind c else some false
theorem noText_f {s : ByteArray} (h : noText s = false) : (s.toList == ([] : List UInt8)) = false ∧ decide (s.toList = ([] : List UInt8)) = false := by
  unfold noText at h; exact ⟨h, by rw [beq_eq_false_iff_ne] at h; exact decide_eq_false h⟩
theorem noText_t {s : ByteArray} (h : noText s = true) : (s.toList == ([] : List UInt8)) = true ∧ s.toList = ([] : List UInt8) := by
  unfold noText at h; exact ⟨h, beq_iff_eq.mp h⟩
theorem noRole_any (r : Role) : (∃ x y, noRole r = (x && y) ∧ (r.f0.toList == ([] : List UInt8)) = x ∧ (r.f1.toList == ([] : List UInt8)) = y) := ⟨_, _, rfl, rfl, rfl⟩
set_option maxRecDepth 100000 in
set_option maxHeartbeats 8000000 in
theorem mayC_walk (w : World) (c : Cred) (r : Bool) (h : mayF c = some r) : Calls Tryz.prog 22 #[encCred c] w fun e w' => e = .returned (.bool r) ∧ Below w.heap.size w w' := by
  unfold mayF at h; unfold encCred; go_enter Tryz.func22, Tryz.ntmps22
  go_upto_region 1 with fail
  change Code.wp _ _ _ _ (w.alloc (credObj c))
  generalize hW : w.alloc (credObj c) = W
  obtain ⟨HB, BC⟩ := boxed1 hW; obtain ⟨c0, c1, c2, c3, c4, c5, c6, c7, c8⟩ := credCells BC; clear hW; cases e0 : noText (domName c.f0.f0)
  · rw [e0, if_neg (by decide)] at h
    obtain ⟨d0, d1⟩ := noText_f e0; clear e0
    by_cases e1 : c.f0.f1 < 1
    · rw [if_pos e1] at h
      obtain rfl := Option.some.inj h; have d2 : decide (c.f0.f1 < 1) = true := decide_eq_true e1; clear h e1
      go_wp2_with (go_at_call 43; refine (domain_walk _ _).mono ?_; rintro e w' ⟨rfl, rfl⟩)
      go_ret; exact ⟨rfl, HB⟩
    · rw [if_neg e1] at h
      have d2 : decide (c.f0.f1 < 1) = false := decide_eq_false e1; clear e1
      by_cases e1 : c.f0.f1 > 4000
      · rw [if_pos e1] at h
        obtain rfl := Option.some.inj h; have d3 : decide (4000 < c.f0.f1) = true := decide_eq_true e1; clear h e1
        go_wp2_with (go_at_call 43; refine (domain_walk _ _).mono ?_; rintro e w' ⟨rfl, rfl⟩)
        go_ret; exact ⟨rfl, HB⟩
      · rw [if_neg e1] at h
        have d3 : decide (4000 < c.f0.f1) = false := decide_eq_false e1; clear e1; obtain ⟨m, hm, h⟩ := Option.bind_eq_some_iff.mp h; have HM := Lib.hid hm; cases m
        · obtain rfl := Option.some.inj h
          clear h hm
          go_wp2_with (first | (go_at_call 43; refine (domain_walk _ _).mono ?_; rintro e w' ⟨rfl, rfl⟩) | (go_at_call 44; refine (names_May.calls _ _ _ HM.out).mono ?_; rintro e w3 ⟨rfl, hB3⟩))
          go_ret; exact ⟨rfl, Qak HB hB3⟩
        · rw [if_pos rfl] at h
          have HH := Lib.hid h; clear h hm
          go_upto_region 3 with (first | (go_at_call 43; refine (domain_walk _ _).mono ?_; rintro e w' ⟨rfl, rfl⟩) | (go_at_call 44; refine (names_May.calls _ _ _ HM.out).mono ?_; rintro e w3 ⟨rfl, hB3⟩))
          have HB3 := Qak HB hB3; have BC3 := Qal BC hB3; clear c0 c1 c2 c3 c4 c5 c6 c7 c8 HB BC hB3 d0 d1 d2 d3
          go_upto_region 4 with fail
          change Code.wp _ _ _ _ (w3.alloc (roleObj2 ⟨⟨#[]⟩, ⟨#[]⟩⟩)); have HB4 := Qab HB3 (roleObj2 ⟨⟨#[]⟩, ⟨#[]⟩⟩); have BC4 := Qaf BC3 (roleObj2 ⟨⟨#[]⟩, ⟨#[]⟩⟩); have BN := blk_new w3 (roleObj2 ⟨⟨#[]⟩, ⟨#[]⟩⟩); clear HB3 BC3
          generalize w3.heap.size = k3 at BN ⊢
          generalize w3.alloc (roleObj2 ⟨⟨#[]⟩, ⟨#[]⟩⟩) = X at HB4 BC4 BN ⊢
          obtain ⟨c0, c1, c2, c3, c4, c5, c6, c7, c8⟩ := credCells BC4; obtain ⟨z0, z1⟩ := roleCells2 BN; have h := HH.out; unfold mayKind at h; clear HH
          by_cases k1 : c.f2 = 1
          · rw [if_pos k1] at h
            have d1 : (c.f2 == 1) = true := beq_iff_eq.mpr k1; clear k1; unfold and3 at h; obtain ⟨b, hb, h⟩ := Option.bind_eq_some_iff.mp h; have HA := Lib.hid hb; clear hb; cases b
            · obtain rfl := Option.some.inj h
              clear h
              go_wp2_with (first | (go_at_call 44; (with_reducible refine (names_May.calls _ _ _ HA.out).mono ?_); rintro e w5 ⟨rfl, hB5⟩; have HB5 := Qak HB4 hB5; have BC5 := Qal BC4 hB5; have BN5 := Qal BN hB5; obtain ⟨c0, c1, c2, c3, c4, c5, c6, c7, c8⟩ := credCells BC5; obtain ⟨z0, z1⟩ := roleCells2 BN5))
              go_ret; exact ⟨rfl, HB5⟩
            rw [if_pos rfl] at h; rw [Option.bind_some] at h; obtain ⟨x4, y4, e4, hx4, hy4⟩ := noRole_any c.f4; rw [e4] at h; clear e4; obtain ⟨x5, y5, e5, hx5, hy5⟩ := noRole_any c.f5; rw [e5] at h; clear e5; cases x4
            · obtain rfl : false = r := Option.some.inj h
              clear h
              go_wp2_with (first | (go_at_call 44; (with_reducible refine (names_May.calls _ _ _ HA.out).mono ?_); rintro e w5 ⟨rfl, hB5⟩; have HB5 := Qak HB4 hB5; have BC5 := Qal BC4 hB5; have BN5 := Qal BN hB5; obtain ⟨c0, c1, c2, c3, c4, c5, c6, c7, c8⟩ := credCells BC5; obtain ⟨z0, z1⟩ := roleCells2 BN5))
              go_ret; exact ⟨rfl, HB5⟩
            cases y4
            · obtain rfl : false = r := Option.some.inj h
              clear h
              go_wp2_with (first | (go_at_call 44; (with_reducible refine (names_May.calls _ _ _ HA.out).mono ?_); rintro e w5 ⟨rfl, hB5⟩; have HB5 := Qak HB4 hB5; have BC5 := Qal BC4 hB5; have BN5 := Qal BN hB5; obtain ⟨c0, c1, c2, c3, c4, c5, c6, c7, c8⟩ := credCells BC5; obtain ⟨z0, z1⟩ := roleCells2 BN5))
              go_ret; exact ⟨rfl, HB5⟩
            cases x5
            · obtain rfl : false = r := Option.some.inj h
              clear h
              go_wp2_with (first | (go_at_call 44; (with_reducible refine (names_May.calls _ _ _ HA.out).mono ?_); rintro e w5 ⟨rfl, hB5⟩; have HB5 := Qak HB4 hB5; have BC5 := Qal BC4 hB5; have BN5 := Qal BN hB5; obtain ⟨c0, c1, c2, c3, c4, c5, c6, c7, c8⟩ := credCells BC5; obtain ⟨z0, z1⟩ := roleCells2 BN5))
              go_ret; exact ⟨rfl, HB5⟩
            cases y5
            · obtain rfl : false = r := Option.some.inj h
              clear h
              go_wp2_with (first | (go_at_call 44; (with_reducible refine (names_May.calls _ _ _ HA.out).mono ?_); rintro e w5 ⟨rfl, hB5⟩; have HB5 := Qak HB4 hB5; have BC5 := Qal BC4 hB5; have BN5 := Qal BN hB5; obtain ⟨c0, c1, c2, c3, c4, c5, c6, c7, c8⟩ := credCells BC5; obtain ⟨z0, z1⟩ := roleCells2 BN5))
              go_ret; exact ⟨rfl, HB5⟩
            obtain rfl : true = r := Option.some.inj h; clear h
            go_wp2_with (first | (go_at_call 44; (with_reducible refine (names_May.calls _ _ _ HA.out).mono ?_); rintro e w5 ⟨rfl, hB5⟩; have HB5 := Qak HB4 hB5; have BC5 := Qal BC4 hB5; have BN5 := Qal BN hB5; obtain ⟨c0, c1, c2, c3, c4, c5, c6, c7, c8⟩ := credCells BC5; obtain ⟨z0, z1⟩ := roleCells2 BN5))
            go_ret; exact ⟨rfl, HB5⟩
          · rw [if_neg k1] at h
            have d1 : (c.f2 == 1) = false := beq_eq_false_iff_ne.mpr k1; clear k1
            by_cases k2 : c.f2 = 2
            · rw [if_pos k2] at h
              have d2 : (c.f2 == 2) = true := beq_iff_eq.mpr k2; clear k2; unfold and3 at h; obtain ⟨b, hb, h⟩ := Option.bind_eq_some_iff.mp h; have HA := Lib.hid hb; clear hb; cases b
              · obtain rfl := Option.some.inj h
                clear h
                go_wp2_with (first | (go_at_call 45; (with_reducible refine (names_Role.calls 20 _ _ _ _ HA.out).mono ?_); rintro e w5 ⟨rfl, hB5⟩; have HB5 := Qak HB4 hB5; have BC5 := Qal BC4 hB5; have BN5 := Qal BN hB5; obtain ⟨c0, c1, c2, c3, c4, c5, c6, c7, c8⟩ := credCells BC5; obtain ⟨z0, z1⟩ := roleCells2 BN5))
                go_ret; exact ⟨rfl, HB5⟩
              rw [if_pos rfl] at h; rw [Option.bind_some] at h; obtain ⟨x5, y5, e5, hx5, hy5⟩ := noRole_any c.f5; rw [e5] at h; clear e5
              obtain ⟨x3, hx3⟩ : ∃ x3, (c.f3.toList == ([] : List UInt8)) = x3 := ⟨_, rfl⟩
              rw [show noText c.f3 = x3 from hx3] at h; cases x5
              · obtain rfl : false = r := Option.some.inj h
                clear h
                go_wp2_with (first | (go_at_call 45; (with_reducible refine (names_Role.calls 20 _ _ _ _ HA.out).mono ?_); rintro e w5 ⟨rfl, hB5⟩; have HB5 := Qak HB4 hB5; have BC5 := Qal BC4 hB5; have BN5 := Qal BN hB5; obtain ⟨c0, c1, c2, c3, c4, c5, c6, c7, c8⟩ := credCells BC5; obtain ⟨z0, z1⟩ := roleCells2 BN5))
                go_ret; exact ⟨rfl, HB5⟩
              cases y5
              · obtain rfl : false = r := Option.some.inj h
                clear h
                go_wp2_with (first | (go_at_call 45; (with_reducible refine (names_Role.calls 20 _ _ _ _ HA.out).mono ?_); rintro e w5 ⟨rfl, hB5⟩; have HB5 := Qak HB4 hB5; have BC5 := Qal BC4 hB5; have BN5 := Qal BN hB5; obtain ⟨c0, c1, c2, c3, c4, c5, c6, c7, c8⟩ := credCells BC5; obtain ⟨z0, z1⟩ := roleCells2 BN5))
                go_ret; exact ⟨rfl, HB5⟩
              cases x3
              · obtain rfl : false = r := Option.some.inj h
                clear h
                go_wp2_with (first | (go_at_call 45; (with_reducible refine (names_Role.calls 20 _ _ _ _ HA.out).mono ?_); rintro e w5 ⟨rfl, hB5⟩; have HB5 := Qak HB4 hB5; have BC5 := Qal BC4 hB5; have BN5 := Qal BN hB5; obtain ⟨c0, c1, c2, c3, c4, c5, c6, c7, c8⟩ := credCells BC5; obtain ⟨z0, z1⟩ := roleCells2 BN5))
                go_ret; exact ⟨rfl, HB5⟩
              obtain rfl : true = r := Option.some.inj h; clear h
              go_wp2_with (first | (go_at_call 45; (with_reducible refine (names_Role.calls 20 _ _ _ _ HA.out).mono ?_); rintro e w5 ⟨rfl, hB5⟩; have HB5 := Qak HB4 hB5; have BC5 := Qal BC4 hB5; have BN5 := Qal BN hB5; obtain ⟨c0, c1, c2, c3, c4, c5, c6, c7, c8⟩ := credCells BC5; obtain ⟨z0, z1⟩ := roleCells2 BN5))
              go_ret; exact ⟨rfl, HB5⟩
            · rw [if_neg k2] at h
              have d2 : (c.f2 == 2) = false := beq_eq_false_iff_ne.mpr k2; clear k2
              by_cases k3 : c.f2 = 3
              · rw [if_pos k3] at h
                have d3 : (c.f2 == 3) = true := beq_iff_eq.mpr k3; clear k3; unfold and3 at h; obtain ⟨b, hb, h⟩ := Option.bind_eq_some_iff.mp h; have HA := Lib.hid hb; clear hb; cases b
                · obtain rfl := Option.some.inj h
                  clear h
                  go_wp2_with (first | (go_at_call 46; (with_reducible refine (cred_bare.calls _ _ _ _ HA.out).mono ?_); rintro e w5 ⟨rfl, hB5⟩; have HB5 := Qak HB4 hB5; have BC5 := Qal BC4 hB5; have BN5 := Qal BN hB5; obtain ⟨c0, c1, c2, c3, c4, c5, c6, c7, c8⟩ := credCells BC5; obtain ⟨z0, z1⟩ := roleCells2 BN5))
                  go_ret; exact ⟨rfl, HB5⟩
                rw [if_pos rfl] at h; obtain ⟨d, hd, h⟩ := Option.bind_eq_some_iff.mp h; have HD := Lib.hid hd; clear hd; cases d
                · obtain rfl := Option.some.inj h
                  clear h
                  go_wp2_with (first | (go_at_call 46; (with_reducible refine (cred_bare.calls _ _ _ _ HA.out).mono ?_); rintro e w5 ⟨rfl, hB5⟩; have HB5 := Qak HB4 hB5; have BC5 := Qal BC4 hB5; have BN5 := Qal BN hB5; obtain ⟨c0, c1, c2, c3, c4, c5, c6, c7, c8⟩ := credCells BC5; obtain ⟨z0, z1⟩ := roleCells2 BN5) | (go_at_call 46; (with_reducible refine (cred_bare.calls _ _ _ _ HD.out).mono ?_); rintro e w6 ⟨rfl, hB6⟩; have HB6 := Qak HB5 hB6; have BC6 := Qal BC5 hB6; have BN6 := Qal BN5 hB6; obtain ⟨c0, c1, c2, c3, c4, c5, c6, c7, c8⟩ := credCells BC6; obtain ⟨z0, z1⟩ := roleCells2 BN6))
                  go_ret; exact ⟨rfl, HB6⟩
                rw [if_pos rfl] at h
                obtain ⟨x3, hx3⟩ : ∃ x3, (c.f3.toList == ([] : List UInt8)) = x3 := ⟨_, rfl⟩
                rw [show noText c.f3 = x3 from hx3] at h; cases x3
                · obtain rfl : false = r := Option.some.inj h
                  clear h
                  go_wp2_with (first | (go_at_call 46; (with_reducible refine (cred_bare.calls _ _ _ _ HA.out).mono ?_); rintro e w5 ⟨rfl, hB5⟩; have HB5 := Qak HB4 hB5; have BC5 := Qal BC4 hB5; have BN5 := Qal BN hB5; obtain ⟨c0, c1, c2, c3, c4, c5, c6, c7, c8⟩ := credCells BC5; obtain ⟨z0, z1⟩ := roleCells2 BN5) | (go_at_call 46; (with_reducible refine (cred_bare.calls _ _ _ _ HD.out).mono ?_); rintro e w6 ⟨rfl, hB6⟩; have HB6 := Qak HB5 hB6; have BC6 := Qal BC5 hB6; have BN6 := Qal BN5 hB6; obtain ⟨c0, c1, c2, c3, c4, c5, c6, c7, c8⟩ := credCells BC6; obtain ⟨z0, z1⟩ := roleCells2 BN6))
                  go_ret; exact ⟨rfl, HB6⟩
                obtain rfl : true = r := Option.some.inj h; clear h
                go_wp2_with (first | (go_at_call 46; (with_reducible refine (cred_bare.calls _ _ _ _ HA.out).mono ?_); rintro e w5 ⟨rfl, hB5⟩; have HB5 := Qak HB4 hB5; have BC5 := Qal BC4 hB5; have BN5 := Qal BN hB5; obtain ⟨c0, c1, c2, c3, c4, c5, c6, c7, c8⟩ := credCells BC5; obtain ⟨z0, z1⟩ := roleCells2 BN5) | (go_at_call 46; (with_reducible refine (cred_bare.calls _ _ _ _ HD.out).mono ?_); rintro e w6 ⟨rfl, hB6⟩; have HB6 := Qak HB5 hB6; have BC6 := Qal BC5 hB6; have BN6 := Qal BN5 hB6; obtain ⟨c0, c1, c2, c3, c4, c5, c6, c7, c8⟩ := credCells BC6; obtain ⟨z0, z1⟩ := roleCells2 BN6))
                go_ret; exact ⟨rfl, HB6⟩
              · rw [if_neg k3] at h
                have d3 : (c.f2 == 3) = false := beq_eq_false_iff_ne.mpr k3; clear k3
                by_cases k4 : c.f2 = 4
                · rw [if_pos k4] at h
                  have d4 : (c.f2 == 4) = true := beq_iff_eq.mpr k4; clear k4; unfold and3 at h; obtain ⟨b, hb, h⟩ := Option.bind_eq_some_iff.mp h; have HA := Lib.hid hb; clear hb; cases b
                  · obtain rfl := Option.some.inj h
                    clear h
                    go_wp2_with (first | (go_at_call 45; (with_reducible refine (names_Role.calls 20 _ _ _ _ HA.out).mono ?_); rintro e w5 ⟨rfl, hB5⟩; have HB5 := Qak HB4 hB5; have BC5 := Qal BC4 hB5; have BN5 := Qal BN hB5; obtain ⟨c0, c1, c2, c3, c4, c5, c6, c7, c8⟩ := credCells BC5; obtain ⟨z0, z1⟩ := roleCells2 BN5))
                    go_ret; exact ⟨rfl, HB5⟩
                  rw [if_pos rfl] at h; obtain ⟨d, hd, h⟩ := Option.bind_eq_some_iff.mp h; have HD := Lib.hid hd; clear hd; cases d
                  · obtain rfl := Option.some.inj h
                    clear h
                    go_wp2_with (first | (go_at_call 45; (with_reducible refine (names_Role.calls 20 _ _ _ _ HA.out).mono ?_); rintro e w5 ⟨rfl, hB5⟩; have HB5 := Qak HB4 hB5; have BC5 := Qal BC4 hB5; have BN5 := Qal BN hB5; obtain ⟨c0, c1, c2, c3, c4, c5, c6, c7, c8⟩ := credCells BC5; obtain ⟨z0, z1⟩ := roleCells2 BN5) | (go_at_call 45; (with_reducible refine (names_Role.calls 20 _ _ _ _ HD.out).mono ?_); rintro e w6 ⟨rfl, hB6⟩; have HB6 := Qak HB5 hB6; have BC6 := Qal BC5 hB6; have BN6 := Qal BN5 hB6; obtain ⟨c0, c1, c2, c3, c4, c5, c6, c7, c8⟩ := credCells BC6; obtain ⟨z0, z1⟩ := roleCells2 BN6))
                    go_ret; exact ⟨rfl, HB6⟩
                  rw [if_pos rfl] at h
                  obtain ⟨x3, hx3⟩ : ∃ x3, (c.f3.toList == ([] : List UInt8)) = x3 := ⟨_, rfl⟩
                  rw [show noText c.f3 = x3 from hx3] at h; cases x3
                  · obtain rfl : false = r := Option.some.inj h
                    clear h
                    go_wp2_with (first | (go_at_call 45; (with_reducible refine (names_Role.calls 20 _ _ _ _ HA.out).mono ?_); rintro e w5 ⟨rfl, hB5⟩; have HB5 := Qak HB4 hB5; have BC5 := Qal BC4 hB5; have BN5 := Qal BN hB5; obtain ⟨c0, c1, c2, c3, c4, c5, c6, c7, c8⟩ := credCells BC5; obtain ⟨z0, z1⟩ := roleCells2 BN5) | (go_at_call 45; (with_reducible refine (names_Role.calls 20 _ _ _ _ HD.out).mono ?_); rintro e w6 ⟨rfl, hB6⟩; have HB6 := Qak HB5 hB6; have BC6 := Qal BC5 hB6; have BN6 := Qal BN5 hB6; obtain ⟨c0, c1, c2, c3, c4, c5, c6, c7, c8⟩ := credCells BC6; obtain ⟨z0, z1⟩ := roleCells2 BN6))
                    go_ret; exact ⟨rfl, HB6⟩
                  obtain rfl : true = r := Option.some.inj h; clear h
                  go_wp2_with (first | (go_at_call 45; (with_reducible refine (names_Role.calls 20 _ _ _ _ HA.out).mono ?_); rintro e w5 ⟨rfl, hB5⟩; have HB5 := Qak HB4 hB5; have BC5 := Qal BC4 hB5; have BN5 := Qal BN hB5; obtain ⟨c0, c1, c2, c3, c4, c5, c6, c7, c8⟩ := credCells BC5; obtain ⟨z0, z1⟩ := roleCells2 BN5) | (go_at_call 45; (with_reducible refine (names_Role.calls 20 _ _ _ _ HD.out).mono ?_); rintro e w6 ⟨rfl, hB6⟩; have HB6 := Qak HB5 hB6; have BC6 := Qal BC5 hB6; have BN6 := Qal BN5 hB6; obtain ⟨c0, c1, c2, c3, c4, c5, c6, c7, c8⟩ := credCells BC6; obtain ⟨z0, z1⟩ := roleCells2 BN6))
                  go_ret; exact ⟨rfl, HB6⟩
                · rw [if_neg k4] at h
                  have d4 : (c.f2 == 4) = false := beq_eq_false_iff_ne.mpr k4; clear k4; obtain rfl := Option.some.inj h; clear h; go_wp2; go_ret; exact ⟨rfl, HB4⟩
  · rw [e0, if_pos rfl] at h
    obtain rfl := Option.some.inj h; obtain ⟨d0, d1⟩ := noText_t e0; clear e0 h
    go_wp2_with (go_at_call 43; refine (domain_walk _ _).mono ?_; rintro e w' ⟨rfl, rfl⟩)
    go_ret; exact ⟨rfl, HB⟩
end Go.Proofs.YtmaipohgahdclaaGreatDoor.Pr
end
section
namespace Go.Proofs.YtmaipohgahdclaaGreatDoor.Pr
open Go.RowKit Go.Proofs.YtmaipohgahdclaaGreatDoorW.PrintWords Go.Proofs.YtmaipohgahdclaaGreatDoorW.PrintLast Go.Proofs.YtmaipohgahdclaaGreatDoorW.PrintMore
attribute [local go_sem] QaU QaS max_two min_two QaM QaL QaT QaR
set_option linter.unusedVariables false
set_option linter.unusedSimpArgs false
def cred_May.f (a0_0 : Int) (a0_1 : Int) (a0_2 : ByteArray) (a0_3 : Int) (a0_4 : ByteArray) (a0_5 : ByteArray) (a0_6 : ByteArray) (a0_7 : ByteArray) (a0_8 : ByteArray) : Option Bool := mayF ⟨⟨a0_0, a0_1⟩, a0_2, a0_3, a0_4, ⟨a0_5, a0_6⟩, ⟨a0_7, a0_8⟩⟩
theorem cred_May.calls (a0_0 : Int) (a0_1 : Int) (a0_2 : ByteArray) (a0_3 : Int) (a0_4 : ByteArray) (a0_5 : ByteArray) (a0_6 : ByteArray) (a0_7 : ByteArray) (a0_8 : ByteArray) (r : Bool) (w : World) (h : cred_May.f a0_0 a0_1 a0_2 a0_3 a0_4 a0_5 a0_6 a0_7 a0_8 = some r) :
    Calls Tryz.prog 22 #[.agg #[.int .i64 a0_0, .int .i64 a0_1, .string a0_2, .int .i64 a0_3, .string a0_4, .string a0_5, .string a0_6, .string a0_7, .string a0_8]] w fun e w' => e = .returned (.bool r) ∧ Below w.heap.size w w' := by
  exact mayC_walk w ⟨⟨a0_0, a0_1⟩, a0_2, a0_3, a0_4, ⟨a0_5, a0_6⟩, ⟨a0_7, a0_8⟩⟩ r h
end Go.Proofs.YtmaipohgahdclaaGreatDoor.Pr
end
section
namespace Go.Proofs.YtmaipohgahdclaaGreatDoor.Pr
open Go.RowKit Go.Proofs.YtmaipohgahdclaaGreatDoorW.PrintWords Go.Proofs.YtmaipohgahdclaaGreatDoorW.PrintLast Go.Proofs.YtmaipohgahdclaaGreatDoorW.PrintMore
open Go.Maps
abbrev ID := S26
theorem id_ext {a b : ID} (h0 : a.f0 = b.f0) (h1 : a.f1 = b.f1) : a = b := by cases a; cases b; simp_all
instance idDec : DecidableEq ID := fun a b => decidable_of_iff (a.f0 = b.f0 ∧ a.f1 = b.f1) ⟨fun h => id_ext h.1 h.2, fun h => by rw [h]; exact ⟨rfl, rfl⟩⟩
def encID (x : ID) : Value := .agg #[.int .i64 x.f0, .int .i64 x.f1]
def okID (x : ID) : Prop := (Lit.int .i64 x.f0).wf = true ∧ (Lit.int .i64 x.f1).wf = true
instance okIDDec (x : ID) : Decidable (okID x) := by unfold okID; infer_instance
theorem idk_laid : laidOutB Tryz.prog = true := by kernel_rfl
theorem idk_row : 26 < Tryz.prog.types.size := of_decide_eq_true (by kernel_rfl)
theorem idk_key : Tryz.prog.keyType 26 = true := by kernel_rfl
theorem idk_tsize : Tryz.prog.types.size = 2 + (Tryz.prog.types.size - 2) := by have := of_decide_eq_true (p := 2 ≤ Tryz.prog.types.size) (by kernel_rfl); omega
theorem idLaw : WideMaps.KeyLaw Tryz.prog 26 := deep_law_laid idk_laid (m := 2) (by omega) idk_row (by kernel_rfl) (by rw [Tryz.underlying26])
theorem idk_cells : Tryz.prog.cellsOf 26 = 2 := by kernel_rfl
theorem idk_int : Tryz.prog.cellsOf 3 = 1 := by kernel_rfl
theorem lits_int (d : Nat) (n : Int) (hn : (Lit.int .i64 n).wf = true) : Tryz.prog.keyLits (d + 1) 3 [.int .i64 n] = some [.int .i64 n] := by
  unfold Program.keyLits; rw [Tryz.underlying3]; simp [hn]
theorem lits_id (d : Nat) (x : ID) (hx : okID x) : Tryz.prog.keyLits (d + 2) 26 [.int .i64 x.f0, .int .i64 x.f1] = some [.int .i64 x.f0, .int .i64 x.f1] := by
  unfold Program.keyLits; rw [Tryz.underlying26]; simp [idk_cells, idk_int, lits_int d _ hx.1, lits_int d _ hx.2]
theorem idKey : KeyK Tryz.prog 26 encID okID where
  keyed := Keyed.of_law idLaw
  lit x hx := by
    refine ⟨.string (keyBytes [.int .i64 x.f0, .int .i64 x.f1]), ?_⟩
    have hf : (encID x).formed Tryz.prog 26 = true := by
      simp [encID, Value.formed, Tryz.underlying26, idk_cells]
    unfold keyOf; rw [Tryz.underlying26]; simp only [idk_key, hf, Bool.and_self, if_true]
    have hc : (encID x).cells.toList = [.int .i64 x.f0, .int .i64 x.f1] := by simp [encID, Value.cells]
    rw [hc, idk_tsize, show 2 + (Tryz.prog.types.size - 2) + 1 = (Tryz.prog.types.size - 1) + 2 from by have := idk_tsize; omega, lits_id _ x hx]; rfl
  inj p q _ _ h := by
    simp only [encID, Value.agg.injEq, Array.mk.injEq, List.cons.injEq, Value.int.injEq, and_true, true_and] at h; exact id_ext h.1 h.2
theorem neID_f {a b : ID} (h : a = b) : (!(a.f0 == b.f0) || (!(a.f1 == b.f1))) = false := by subst h; simp
theorem neID_t {a b : ID} (h : ¬ a = b) : (!(a.f0 == b.f0) || (!(a.f1 == b.f1))) = true := by
  by_cases e0 : a.f0 = b.f0
  · by_cases e1 : a.f1 = b.f1
    · exact absurd (by cases a; cases b; simp_all) h
    · simp [e1]
  · simp [e0]
end Go.Proofs.YtmaipohgahdclaaGreatDoor.Pr
end
section
namespace Go.Proofs.YtmaipohgahdclaaGreatDoor.Pr
open Go.RowKit Go.Proofs.YtmaipohgahdclaaGreatDoorW.PrintWords Go.Proofs.YtmaipohgahdclaaGreatDoorW.PrintLast Go.Proofs.YtmaipohgahdclaaGreatDoorW.PrintMore
set_option linter.unusedVariables false
set_option linter.unusedSimpArgs false
attribute [local go_sem high] eqA26
abbrev mayOf (c : Cred) : Option Bool := cred_May.f c.f0.f0 c.f0.f1 c.f1 c.f2 c.f3 c.f4.f0 c.f4.f1 c.f5.f0 c.f5.f1
def countsF : List Cred → List Cred → Option (List Cred)
  | [], out => some out
  | c :: S, out => (mayOf c).bind fun m => if m = true then (if (out.getLast?).map (·.f0) = some c.f0 then countsF S out else countsF S (out ++ [c])) else countsF S out
set_option maxRecDepth 100000 in
set_option maxHeartbeats 8000000 in
theorem countsW (w : World) (A0 : Option Addr) (c0 : Nat) (l S out : List Cred) (hr0 : Kd.C kCred w A0 l.length l) (hc0 : l.length ≤ c0) (hS : cred_Sorted.f l = some S) (hlen : S.length ≤ 1000000) (h : countsF S [] = some out) :
    Calls Tryz.prog 11 #[.slice A0 l.length c0] w fun e w' => ∃ v, e = .returned v ∧ Kd.R kCred 42 w' w.heap.size (fun _ => True) v out ∧ Below w.heap.size w w' := by
  have HS := Lib.hid hS; have HF := Lib.hid h; have HL := Lib.hid hlen; have HR0 := Lib.hid hr0; have HC0 := Lib.hid hc0; clear hS h hlen hr0 hc0; go_enter Tryz.func11, Tryz.ntmps11
  go_wp2_with (go_at_call 21; refine (cred_Sorted.calls A0 c0 l S w HR0.out HC0.out HS.out).mono ?_; rintro e w3 ⟨v3, rfl, hR3, hB3⟩; obtain ⟨A3, cc3, rfl⟩ := Kd.R_slice hR3)
  have HC3 := Lib.hid (Kd.QaQ hR3).2.2; have HB3 := Lib.hid hB3; clear hR3 hB3
  go_loopg [3, 9] (S.length + 1) (fun kq v3 v9 w' => ∃ (i : Nat) (acc : List Cred), v9 = .int .i64 i ∧ Hid (kq = S.length + 1 - i) ∧ Hid (i ≤ S.length) ∧ Hid (acc.length ≤ i) ∧ Hid (countsF (S.drop i) acc = some out) ∧ Hid (Kd.R kCred 42 w' w3.heap.size (fun _ => True) v3 acc) ∧ Hid (Below w3.heap.size w3 w'))
  case atStart => exact ⟨0, [], rfl, Lib.hid rfl, Lib.hid (Nat.zero_le _), Lib.hid (Nat.le_refl _), HF, Lib.hid (Kd.R_nil _ _ _ _ _), Lib.hid (Below.refl _ _)⟩
  case round =>
    clear HF; obtain ⟨i, acc, rfl, HKq, HI, HA, HF, HR, HW⟩ := hrel; obtain ⟨A4, c4, hv⟩ := Kd.R_slice HR.out; subst hv
    by_cases hi : i < S.length
    · have d1 : decide ((i : Int) < (S.length : Int)) = true := decide_eq_true (by omega)
      have d2 : decide (i < S.length) = true := decide_eq_true hi; obtain ⟨ad, e, hx0, hx1, hx2, hx3, hx4, hx5, hx6, hx7, hx8⟩ := at_T42 (Kd.C_below HC3.out HW.out) (i : Int) (by omega) (by omega); obtain rfl := e
      obtain ⟨x, hx⟩ : ∃ x, x = S[i] := ⟨_, rfl⟩
      have erd : Qam S (i : Int) = x := by
        unfold Qam; rw [hx, Int.toNat_natCast, List.getD_eq_getElem?_getD, List.getElem?_eq_getElem hi]; rfl
      rw [erd, Int.toNat_natCast] at hx0 hx1 hx2 hx3 hx4 hx5 hx6 hx7 hx8; have p101 : (0 ≤ (i : Int)) = True := eq_true (by omega); have q101 : ((i : Int) < (S.length : Int)) = True := eq_true (by omega); have hF := HF.out; rw [List.drop_eq_getElem_cons hi, ← hx, countsF] at hF; obtain ⟨m, hm, hF⟩ := Option.bind_eq_some_iff.mp hF
      have wrapI : wrap64 ((i : Int) + 1) = ((i + 1 : Nat) : Int) := by unfold wrap64; have := HL.out; omega
      have HIL := Lib.hid hi; have HMy := Lib.hid hm; clear hx erd hi hm; replace HF := Lib.hid hF; clear hF
      go_upto_region 5 with fail
      change Code.wp _ _ _ _ (wr.alloc (credObj x)); have HXa := Qab (Below.refl wr.heap.size wr) (credObj x); have B3 := blk_new wr (credObj x); have WX := Qak HW.out HXa; have RX := Kd.R_below HR.out HXa
      obtain ⟨kx, hkx⟩ : ∃ kx, kx = wr.heap.size := ⟨_, rfl⟩
      rw [← hkx] at B3 ⊢; clear hx0 hx1 hx2 hx3 hx4 hx5 hx6 hx7 hx8 HXa HW HR hkx
      generalize wr.alloc (credObj x) = X at B3 WX RX ⊢
      obtain ⟨kc0, kc1, kc2, kc3, kc4, kc5, kc6, kc7, kc8⟩ := credCells B3; have HBX := Lib.hid B3; have HWX := Lib.hid WX; have HRX := Lib.hid RX; clear B3 WX RX; have g0 := bw_cell kc0; have g1 := bw_cell kc1; have g2 := bw_cell kc2; have g3 := bw_cell kc3; have g4 := bw_cell kc4; have g5 := bw_cell kc5; have g6 := bw_cell kc6; have g7 := bw_cell kc7; have g8 := bw_cell kc8; clear kc0 kc1 kc2 kc3 kc4 kc5 kc6 kc7 kc8; have HMC := Lib.hid (fun W => cred_May.calls _ _ _ _ _ _ _ _ _ _ W HMy.out); cases m
      · have hF := HF.out
        rw [if_neg (by decide)] at hF; replace HF := Lib.hid hF; clear hF; refine wp_region_below (by kernel_rfl) (by kernel_rfl) ?_
        repeat (go_big_quiet_step (with_reducible refine bw_call (HMC.out _)))
        refine wpQuiet_nil ?_; rintro _ ⟨u, rfl⟩; have HWY := Lib.hid (Qak HWX.out u.ok); have HRY := Lib.hid (Kd.R_below HRX.out u.ok); have BY := Qal HBX.out u.ok; clear g0 g1 g2 g3 g4 g5 g6 g7 g8 HWX HRX HBX
        generalize u.now = Y at HWY HRY BY ⊢
        clear u; go_wp2
        go_roundg (S.length + 1 - (i + 1))
        case measure => have := HKq.out; have := HIL.out; omega
        case rel => exact ⟨i + 1, acc, by first | rfl | exact congrArg _ wrapI, Lib.hid rfl, Lib.hid HIL.out, Lib.hid (Nat.le_succ_of_le HA.out), HF, HRY, HWY⟩
      · have hF := HF.out
        rw [if_pos rfl] at hF
        by_cases ha : acc.length = 0
        · have e0 : acc = [] := List.eq_nil_of_length_eq_zero ha
          rw [if_neg (by rw [e0]; simp)] at hF; replace HF := Lib.hid hF; have b1 : ((acc.length : Int) == 0) = true := beq_iff_eq.mpr (by omega); have b2 : (acc.length == 0) = true := beq_iff_eq.mpr ha; clear hF e0 ha; refine wp_region_below (by kernel_rfl) (by kernel_rfl) ?_
          repeat (go_big_quiet_step (with_reducible refine bw_call (HMC.out _)))
          refine wpQuiet_nil ?_; rintro _ ⟨u, rfl⟩; have HWY := Lib.hid (Qak HWX.out u.ok); have HRY := Lib.hid (Kd.R_below HRX.out u.ok); have BY := Qal HBX.out u.ok; clear g0 g1 g2 g3 g4 g5 g6 g7 g8 HWX HRX HBX
          generalize u.now = Y at HWY HRY BY ⊢
          clear u; obtain ⟨kc0, kc1, kc2, kc3, kc4, kc5, kc6, kc7, kc8⟩ := credCells BY; clear BY
          go_wp2_with ((with_reducible refine gate_builtin (b := .append) (xs := #[.tmp 32, .tmp 34]) rfl ?_); at_builtin; refine Kd.R_append kCred (w0 := w3) w3.heap.size rfl (.tmp 32) (.tmp 34) 22 42 (.agg #[.int .i64 0, .int .i64 0, .string ⟨#[]⟩, .int .i64 0, .string ⟨#[]⟩, .string ⟨#[]⟩, .string ⟨#[]⟩, .string ⟨#[]⟩, .string ⟨#[]⟩]) 120 rfl Tryz.underlying22 infoCred rfl (by decide) (by omega) _ acc x [.int .i64 x.f0.f0, .int .i64 x.f0.f1, .string x.f1, .int .i64 x.f2, .string x.f3, .string x.f4.f0, .string x.f4.f1, .string x.f5.f0, .string x.f5.f1] (fun _ => True) (fun _ => False) rfl rfl ?aP (fun _ hk => hk.elim) (fun _ _ => trivial) ?aO ?aB ?aS ?aL ?_; (case aP => exact k42_mkM _ _ _ x); (case aB => exact HWY.out); (case aO => exact HRY.out); (case aS => exact Qas HWY.out); (case aL => have := HA.out; have := HIL.out; have := HL.out; omega); intro v2 w2 ho hb hg hat)
          have HO := Lib.hid ho; have HBo := Lib.hid hb
          clear ho hb hg hat
          go_roundg (S.length + 1 - (i + 1))
          case measure => have := HKq.out; have := HIL.out; omega
          case rel => exact ⟨i + 1, acc ++ [x], by first | rfl | exact congrArg _ wrapI, Lib.hid rfl, Lib.hid HIL.out, Lib.hid (by have := HA.out; simp; omega), HF, HO, HBo⟩
        · obtain ⟨j, hj⟩ : ∃ j, acc.length = j + 1 := ⟨acc.length - 1, by omega⟩
          have b1 : ((acc.length : Int) == 0) = false := beq_eq_false_iff_ne.mpr (by omega); have b2 : (acc.length == 0) = false := beq_eq_false_iff_ne.mpr ha
          have b3 : (acc.length : Int) - 1 = (j : Int) := by omega
          have b4 : wrap64 (j : Int) = (j : Int) := by unfold wrap64; have := HA.out; have := HIL.out; have := HL.out; omega
          have b5 : (0 ≤ (j : Int)) = True := eq_true (by omega); have b6 : ((j : Int) < (acc.length : Int)) = True := eq_true (by omega); have b7 : (j < acc.length) = True := eq_true (by omega); obtain ⟨al, e, hy0, hy1, _, _, _, _, _, _, _⟩ := at_T42 (Kd.QaQ HRX.out).2.2 (j : Int) (by omega) (by omega); obtain rfl := e
          obtain ⟨y, hy⟩ : ∃ y, y = Qam acc (j : Int) := ⟨_, rfl⟩
          have hl : acc.getLast?.map (·.f0) = some y.f0 := by
            rw [List.getLast?_eq_getElem?, hj, Nat.add_sub_cancel, List.getElem?_eq_getElem (by omega), hy]; unfold Qam; rw [Int.toNat_natCast, List.getD_eq_getElem?_getD, List.getElem?_eq_getElem (by omega)]; rfl
          rw [← hy, Int.toNat_natCast] at hy0 hy1; rw [hl] at hF; have g9 := bw_cell hy0; have g10 := bw_cell hy1; clear hy hl hy0 hy1 ha; have HJ := Lib.hid hj; clear hj
          by_cases e1 : y.f0 = x.f0
          · rw [if_pos (by rw [e1])] at hF
            replace HF := Lib.hid hF; have b8 := neID_f e1; clear hF e1; refine wp_region_below (by kernel_rfl) (by kernel_rfl) ?_
            repeat (go_big_quiet_step (with_reducible refine bw_call (HMC.out _)))
            refine wpQuiet_nil ?_; rintro _ ⟨u, rfl⟩; have HWY := Lib.hid (Qak HWX.out u.ok); have HRY := Lib.hid (Kd.R_below HRX.out u.ok); have BY := Qal HBX.out u.ok; clear g0 g1 g2 g3 g4 g5 g6 g7 g8 HWX HRX HBX
            generalize u.now = Y at HWY HRY BY ⊢
            clear u; go_wp2
            go_roundg (S.length + 1 - (i + 1))
            case measure => have := HKq.out; have := HIL.out; omega
            case rel => exact ⟨i + 1, acc, by first | rfl | exact congrArg _ wrapI, Lib.hid rfl, Lib.hid HIL.out, Lib.hid (Nat.le_succ_of_le HA.out), HF, HRY, HWY⟩
          · rw [if_neg (by simpa using e1)] at hF
            replace HF := Lib.hid hF; have b8 := neID_t e1; clear hF e1; refine wp_region_below (by kernel_rfl) (by kernel_rfl) ?_
            repeat (go_big_quiet_step (with_reducible refine bw_call (HMC.out _)))
            refine wpQuiet_nil ?_; rintro _ ⟨u, rfl⟩; have HWY := Lib.hid (Qak HWX.out u.ok); have HRY := Lib.hid (Kd.R_below HRX.out u.ok); have BY := Qal HBX.out u.ok; clear g0 g1 g2 g3 g4 g5 g6 g7 g8 HWX HRX HBX
            generalize u.now = Y at HWY HRY BY ⊢
            clear u; clear g9 g10 b1 b2 b3 b4 b5 b6 b7 b8; obtain ⟨kc0, kc1, kc2, kc3, kc4, kc5, kc6, kc7, kc8⟩ := credCells BY; clear BY
            go_wp2_with ((with_reducible refine gate_builtin (b := .append) (xs := #[.tmp 32, .tmp 34]) rfl ?_); at_builtin; refine Kd.R_append kCred (w0 := w3) w3.heap.size rfl (.tmp 32) (.tmp 34) 22 42 (.agg #[.int .i64 0, .int .i64 0, .string ⟨#[]⟩, .int .i64 0, .string ⟨#[]⟩, .string ⟨#[]⟩, .string ⟨#[]⟩, .string ⟨#[]⟩, .string ⟨#[]⟩]) 120 rfl Tryz.underlying22 infoCred rfl (by decide) (by omega) _ acc x [.int .i64 x.f0.f0, .int .i64 x.f0.f1, .string x.f1, .int .i64 x.f2, .string x.f3, .string x.f4.f0, .string x.f4.f1, .string x.f5.f0, .string x.f5.f1] (fun _ => True) (fun _ => False) rfl rfl ?aP (fun _ hk => hk.elim) (fun _ _ => trivial) ?aO ?aB ?aS ?aL ?_; (case aP => exact k42_mkM _ _ _ x); (case aB => exact HWY.out); (case aO => exact HRY.out); (case aS => exact Qas HWY.out); (case aL => have := HA.out; have := HIL.out; have := HL.out; omega); intro v2 w2 ho hb hg hat)
            have HO := Lib.hid ho; have HBo := Lib.hid hb
            clear ho hb hg hat
            go_roundg (S.length + 1 - (i + 1))
            case measure => have := HKq.out; have := HIL.out; omega
            case rel => exact ⟨i + 1, acc ++ [x], by first | rfl | exact congrArg _ wrapI, Lib.hid rfl, Lib.hid HIL.out, Lib.hid (by have := HA.out; simp; omega), HF, HO, HBo⟩
    · have d1 : decide ((i : Int) < (S.length : Int)) = false := decide_eq_false (by omega)
      have d2 : decide (i < S.length) = false := decide_eq_false hi; have hF := HF.out; rw [List.drop_eq_nil_of_le (by omega), countsF] at hF; obtain rfl := Option.some.inj hF; clear hF HF hi; go_wp2; go_ret; exact ⟨_, rfl, Kd.R_lower HR.out HB3.out.size, Qak HB3.out HW.out⟩
end Go.Proofs.YtmaipohgahdclaaGreatDoor.Pr
end
section
namespace Go.Proofs.YtmaipohgahdclaaGreatDoor.Pr
open Go.RowKit Go.Proofs.YtmaipohgahdclaaGreatDoorW.PrintWords Go.Proofs.YtmaipohgahdclaaGreatDoorW.PrintLast Go.Proofs.YtmaipohgahdclaaGreatDoorW.PrintMore
attribute [local go_sem] QaU QaS max_two min_two QaM QaL QaT QaR
set_option linter.unusedVariables false
set_option linter.unusedSimpArgs false
def cred_Counts.f (l0 : List (S42)) : Option (List (S42)) := (cred_Sorted.f l0).bind fun S => if S.length ≤ 1000000 then countsF S [] else none
theorem cred_Counts.calls (A0 : Option Addr) (c0 : Nat) (l0 : List (S42)) (r : List (S42)) (w : World) (hr0 : Kd.C k42 w A0 l0.length l0) (hc0 : l0.length ≤ c0) (h : cred_Counts.f l0 = some r) :
    Calls Tryz.prog 11 #[.slice A0 l0.length c0] w fun e w' => ∃ v0_ : Value, e = .returned (v0_) ∧ Kd.R k42 42 w' w.heap.size (fun _ => True) v0_ r ∧ Below w.heap.size w w' := by
  unfold cred_Counts.f at h; obtain ⟨S, hS, h⟩ := Option.bind_eq_some_iff.mp h
  by_cases hl : S.length ≤ 1000000
  · rw [if_pos hl] at h
    exact countsW w A0 c0 l0 S r hr0 hc0 hS hl h
  · rw [if_neg hl] at h
    cases h
end Go.Proofs.YtmaipohgahdclaaGreatDoor.Pr
end
section
namespace Go.Proofs.YtmaipohgahdclaaGreatDoor.Pr
open Go.RowKit Go.Proofs.YtmaipohgahdclaaGreatDoorW.PrintWords Go.Proofs.YtmaipohgahdclaaGreatDoorW.PrintLast Go.Proofs.YtmaipohgahdclaaGreatDoorW.PrintMore
set_option linter.unusedVariables false
set_option linter.unusedSimpArgs false
attribute [local go_sem high] eqA24
abbrev Proof := S29
abbrev kProof := k29
def credT (T : List (ID × Cred)) : List (ID × Value) := T.map fun x => (x.1, encCred x.2)
def tfind (T : List (ID × Cred)) (x : ID) : Option Cred := (T.find? fun y => decide (y.1 = x)).map (·.2)
theorem tfind_get (T : List (ID × Cred)) (x : ID) : tget (credT T) x = (tfind T x).map encCred := by
  unfold tget tfind credT
  induction T with
  | nil => rfl
  | cons y T ih =>
    rw [List.map_cons, List.find?_cons, List.find?_cons]; cases decide (y.1 = x)
    · exact ih
    · rfl
abbrev encProof (p : Proof) (A : Option Addr) (c : Nat) : Value := .agg #[.string p.f0.f0, .string p.f0.f1, .string p.f1, .int .i64 p.f2.f0, .int .i64 p.f2.f1, .slice A p.f3.length c]
abbrev proofObj (p : Proof) (A : Option Addr) (c : Nat) : Obj := .cells #[.string p.f0.f0, .string p.f0.f1, .string p.f1, .int .i64 p.f2.f0, .int .i64 p.f2.f1, .slice A p.f3.length c] 29
abbrev chkObj (b : Nat) : Obj := .cells #[.map (some b)] 40
theorem proofCells {W : World} {k : Nat} {p : Proof} {A : Option Addr} {c : Nat} (h : W.heap[k]? = some (proofObj p A c)) : W.cell? ⟨k, 0, none⟩ = some (.string p.f0.f0) ∧ W.cell? ⟨k, 1, none⟩ = some (.string p.f0.f1) ∧ W.cell? ⟨k, 2, none⟩ = some (.string p.f1) ∧ W.cell? ⟨k, 3, none⟩ = some (.int .i64 p.f2.f0) ∧ W.cell? ⟨k, 4, none⟩ = some (.int .i64 p.f2.f1) ∧ W.cell? ⟨k, 5, none⟩ = some (.slice A p.f3.length c) :=
  ⟨(Qaj h 0).trans rfl, (Qaj h 1).trans rfl, (Qaj h 2).trans rfl, (Qaj h 3).trans rfl, (Qaj h 4).trans rfl, (Qaj h 5).trans rfl⟩
theorem chkCells {W : World} {k b : Nat} (h : W.heap[k]? = some (chkObj b)) : W.cell? ⟨k, 0, none⟩ = some (.map (some b)) := (Qaj h 0).trans rfl
def partF (F : Proof → Option Bool) (p : Proof) (role : Role) (who : ByteArray) : Option Bool := if p.f0 = role then (if p.f1 = who then F p else some false) else some false
def Checks (F : Proof → Option Bool) (T : List (ID × Cred)) : Prop := ∀ (w : World) (b : Nat) (p : Proof) (A : Option Addr) (c : Nat) (r : Bool), Tbl encID okID w b (credT T) → Kd.C kProof w A p.f3.length p.f3 → p.f3.length ≤ c → F p = some r →
  Calls Tryz.prog 12 #[.agg #[.map (some b)], encProof p A c] w fun e w' => e = .returned (.bool r) ∧ Below w.heap.size w w'
set_option maxRecDepth 100000 in
set_option maxHeartbeats 4000000 in
theorem part_calls {F : Proof → Option Bool} {T : List (ID × Cred)} (HC : Checks F T) (w : World) (b : Nat) (p : Proof) (A : Option Addr) (c : Nat) (role : Role) (who : ByteArray) (r : Bool) (hT : Tbl encID okID w b (credT T)) (hR : Kd.C kProof w A p.f3.length p.f3) (hc : p.f3.length ≤ c) (h : partF F p role who = some r) :
    Calls Tryz.prog 47 #[.agg #[.map (some b)], encProof p A c, .agg #[.string role.f0, .string role.f1], .string who] w fun e w' => e = .returned (.bool r) ∧ Below w.heap.size w w' := by
  unfold partF at h; go_enter Tryz.func47, Tryz.ntmps47
  go_upto_region 1 with fail
  change Code.wp _ _ _ _ (((w.alloc (chkObj b)).alloc (proofObj p A c)).alloc (roleObj2 role))
  generalize hW : ((w.alloc (chkObj b)).alloc (proofObj p A c)).alloc (roleObj2 role) = W
  obtain ⟨HB, BC, BP, BR⟩ := boxed3 hW; have k0 := chkCells BC; obtain ⟨p0, p1, p2, p3, p4, p5⟩ := proofCells BP; obtain ⟨r0, r1⟩ := roleCells2 BR; clear hW
  by_cases e1 : p.f0 = role
  · rw [if_pos e1] at h
    have hb1 := eqRole_t e1; clear e1
    by_cases e2 : p.f1 = who
    · rw [if_pos e2] at h
      have hb2 := str_t e2; clear e2
      go_wp2_with (go_at_call 12; refine (HC _ b p A c r (hT.below (by repeat (first | exact HB | apply Qaa | apply Qac))) (Kd.C_below hR (by repeat (first | exact HB | apply Qaa | apply Qac))) hc h).mono ?_; rintro e w3 ⟨rfl, hB3⟩; have HB3 := Qak HB hB3)
      go_ret; exact ⟨rfl, HB3⟩
    · rw [if_neg e2] at h
      have hb2 := str_f e2; obtain rfl := Option.some.inj h; clear e2; go_wp2; go_ret; exact ⟨rfl, HB⟩
  · rw [if_neg e1] at h
    have hb1 := eqRole_f e1; obtain rfl := Option.some.inj h; clear e1; go_wp2; go_ret; exact ⟨rfl, HB⟩
def pt (p : Proof) (i : Int) : Proof := QaF p.f3 i
theorem part0 {W : World} {A : Option Addr} {p : Proof} (h : Kd.C kProof W A p.f3.length p.f3) (hl : 0 < p.f3.length) : ∃ ad A5 c5, A = some ad ∧ (W.cell? ad = some (.string (pt p 0).f0.f0) ∧ W.cell? ⟨ad.block, ad.off + 1, none⟩ = some (.string (pt p 0).f0.f1) ∧ W.cell? ⟨ad.block, ad.off + 2, none⟩ = some (.string (pt p 0).f1) ∧ W.cell? ⟨ad.block, ad.off + 3, none⟩ = some (.int .i64 (pt p 0).f2.f0) ∧ W.cell? ⟨ad.block, ad.off + 4, none⟩ = some (.int .i64 (pt p 0).f2.f1) ∧ W.cell? ⟨ad.block, ad.off + 5, none⟩ = some (.slice A5 (pt p 0).f3.length c5)) ∧ (pt p 0).f3.length ≤ c5 ∧ Kd.C kProof W A5 (pt p 0).f3.length (pt p 0).f3 := by
  obtain ⟨ad, A5, c5, e, h0, h1, h2, h3, h4, h5, hl5, hi5⟩ := at_T29 h 0 (by omega) (by omega); rw [show ((0 : Int)).toNat * 6 = 0 from rfl, Addr.add_zero'] at h0 h1 h2 h3 h4 h5; exact ⟨ad, A5, c5, e, ⟨h0, h1, h2, h3, h4, h5⟩, hl5, hi5⟩
theorem part1 {W : World} {ad : Addr} {p : Proof} (h : Kd.C kProof W (some ad) p.f3.length p.f3) (hl : 1 < p.f3.length) : ∃ A5 c5, (W.cell? ⟨ad.block, ad.off + 6, none⟩ = some (.string (pt p 1).f0.f0) ∧ W.cell? ⟨ad.block, ad.off + 6 + 1, none⟩ = some (.string (pt p 1).f0.f1) ∧ W.cell? ⟨ad.block, ad.off + 6 + 2, none⟩ = some (.string (pt p 1).f1) ∧ W.cell? ⟨ad.block, ad.off + 6 + 3, none⟩ = some (.int .i64 (pt p 1).f2.f0) ∧ W.cell? ⟨ad.block, ad.off + 6 + 4, none⟩ = some (.int .i64 (pt p 1).f2.f1) ∧ W.cell? ⟨ad.block, ad.off + 6 + 5, none⟩ = some (.slice A5 (pt p 1).f3.length c5)) ∧ (W.cell? ⟨ad.block, ad.off + 7, none⟩ = some (.string (pt p 1).f0.f1) ∧ W.cell? ⟨ad.block, ad.off + 8, none⟩ = some (.string (pt p 1).f1) ∧ W.cell? ⟨ad.block, ad.off + 9, none⟩ = some (.int .i64 (pt p 1).f2.f0) ∧ W.cell? ⟨ad.block, ad.off + 10, none⟩ = some (.int .i64 (pt p 1).f2.f1) ∧ W.cell? ⟨ad.block, ad.off + 11, none⟩ = some (.slice A5 (pt p 1).f3.length c5)) ∧ (pt p 1).f3.length ≤ c5 ∧ Kd.C kProof W A5 (pt p 1).f3.length (pt p 1).f3 := by
  obtain ⟨ad', A5, c5, e, h0, h1, h2, h3, h4, h5, hl5, hi5⟩ := at_T29 h 1 (by omega) (by omega); obtain rfl := Option.some.inj e; exact ⟨A5, c5, ⟨h0, h1, h2, h3, h4, h5⟩, ⟨h1, h2, h3, h4, h5⟩, hl5, hi5⟩
def includeP (F : Proof → Option Bool) (c : Cred) (p : Proof) : Option Bool := if p.f3.length = 1 then partF F (pt p 0) c.f4 p.f1 else some false
set_option maxRecDepth 100000 in
set_option maxHeartbeats 4000000 in
theorem includeP_calls {F : Proof → Option Bool} {T : List (ID × Cred)} (HC : Checks F T) (w : World) (b : Nat) (x : Cred) (p : Proof) (A : Option Addr) (c : Nat) (r : Bool) (hT : Tbl encID okID w b (credT T)) (hR : Kd.C kProof w A p.f3.length p.f3) (hc : p.f3.length ≤ c) (h : includeP F x p = some r) :
    Calls Tryz.prog 24 #[.agg #[.map (some b)], encCred x, encProof p A c] w fun e w' => e = .returned (.bool r) ∧ Below w.heap.size w w' := by
  unfold includeP at h; unfold encCred; go_enter Tryz.func24, Tryz.ntmps24
  go_upto_region 1 with fail
  change Code.wp _ _ _ _ (((w.alloc (chkObj b)).alloc (credObj x)).alloc (proofObj p A c))
  generalize hW : ((w.alloc (chkObj b)).alloc (credObj x)).alloc (proofObj p A c) = W
  obtain ⟨HB, BC, BX, BP⟩ := boxed3 hW; have k0 := chkCells BC; obtain ⟨c0, c1, c2, c3, c4, c5, c6, c7, c8⟩ := credCells BX; obtain ⟨p0, p1, p2, p3, p4, p5⟩ := proofCells BP; clear hW
  by_cases e1 : p.f3.length = 1
  · rw [if_pos e1] at h
    have d1 : decide ((p.f3.length : Int) = 1) = true := decide_eq_true (by omega); have d2 : decide ((0 : Int) < (p.f3.length : Int)) = true := decide_eq_true (by omega); have d3 : decide (0 < p.f3.length) = true := decide_eq_true (by omega)
    have n1 : 0 < p.f3.length := by omega
    have n2 : (0 : Int) < (p.f3.length : Int) := by omega
    have d4 : (((p.f3.length : Nat) : Int) == 1) = true := beq_iff_eq.mpr (by omega); have d5 : (p.f3.length == 1) = true := beq_iff_eq.mpr (by omega); have hR2 := Kd.C_below hR HB; obtain ⟨ad, A5, cc5, rfl, ⟨q0, q1, q2, q3, q4, q5⟩, ql, qR⟩ := part0 hR2 (by omega); have HX := Lib.hid (part_calls HC); have HQ := Lib.hid qR; have HL := Lib.hid ql; have HH := Lib.hid h; have HTT := Lib.hid (hT.below HB); have g0 := bw_cell k0; have g1 := bw_cell p5; have g2 := bw_cell p2; have g3 := bw_cell c5; have g4 := bw_cell c6; have g5 := bw_cell q0; have g6 := bw_cell q1; have g7 := bw_cell q2; have g8 := bw_cell q3; have g9 := bw_cell q4; have g10 := bw_cell q5; clear hR hR2 qR ql h e1 k0 p0 p1 p2 p3 p4 p5 c0 c1 c2 c3 c4 c5 c6 c7 c8 q0 q1 q2 q3 q4 q5; refine wp_region_below (by kernel_rfl) (by kernel_rfl) ?_
    repeat (go_big_quiet_step (first | (with_reducible refine bw_call (HX.out _ b (pt p 0) A5 cc5 x.f4 p.f1 r (HTT.out.below (BW.ok _)) (Kd.C_below HQ.out (BW.ok _)) HL.out HH.out))))
    refine wpQuiet_nil ?_; rintro _ ⟨u, rfl⟩; have HBu := Qak HB u.ok
    go_wp2_with fail
    go_ret; exact ⟨rfl, HBu⟩
  · rw [if_neg e1] at h
    obtain rfl := Option.some.inj h; have d1 : decide ((p.f3.length : Int) = 1) = false := decide_eq_false (by omega); have d4 : (((p.f3.length : Nat) : Int) == 1) = false := beq_eq_false_iff_ne.mpr (by omega); have d5 : (p.f3.length == 1) = false := beq_eq_false_iff_ne.mpr (by omega); have g0 := bw_cell k0; have g1 := bw_cell p5; clear k0 p0 p1 p2 p3 p4 p5 c0 c1 c2 c3 c4 c5 c6 c7 c8 hT hR; refine wp_region_below (by kernel_rfl) (by kernel_rfl) ?_
    repeat (go_big_quiet_step (fail))
    refine wpQuiet_nil ?_; rintro _ ⟨u, rfl⟩; have HBu := Qak HB u.ok
    go_wp2_with fail
    go_ret; exact ⟨rfl, HBu⟩
def bothP (F : Proof → Option Bool) (c : Cred) (p : Proof) : Option Bool := if p.f3.length = 2 then (partF F (pt p 0) c.f4 p.f1).bind fun b => if b = true then partF F (pt p 1) c.f5 p.f1 else some false else some false
set_option maxRecDepth 100000 in
set_option maxHeartbeats 4000000 in
theorem bothP_calls {F : Proof → Option Bool} {T : List (ID × Cred)} (HC : Checks F T) (w : World) (b : Nat) (x : Cred) (p : Proof) (A : Option Addr) (c : Nat) (r : Bool) (hT : Tbl encID okID w b (credT T)) (hR : Kd.C kProof w A p.f3.length p.f3) (hc : p.f3.length ≤ c) (h : bothP F x p = some r) :
    Calls Tryz.prog 26 #[.agg #[.map (some b)], encCred x, encProof p A c] w fun e w' => e = .returned (.bool r) ∧ Below w.heap.size w w' := by
  unfold bothP at h; unfold encCred; go_enter Tryz.func26, Tryz.ntmps26
  go_upto_region 1 with fail
  change Code.wp _ _ _ _ (((w.alloc (chkObj b)).alloc (credObj x)).alloc (proofObj p A c))
  generalize hW : ((w.alloc (chkObj b)).alloc (credObj x)).alloc (proofObj p A c) = W
  obtain ⟨HB, BC, BX, BP⟩ := boxed3 hW; have g0 := bw_cell (chkCells BC); obtain ⟨p0, p1, p2, p3, p4, p5⟩ := proofCells BP; have g2 := bw_cell p2; clear hW p0 p1 p2 p3 p4
  by_cases e1 : p.f3.length = 2
  · rw [if_pos e1] at h
    have n1 : 0 < p.f3.length := by omega
    have n2 : (0 : Int) < (p.f3.length : Int) := by omega
    have n3 : 1 < p.f3.length := by omega
    have n4 : (1 : Int) < (p.f3.length : Int) := by omega
    have d4 : (((p.f3.length : Nat) : Int) == 2) = true := beq_iff_eq.mpr (by omega); have d5 : (p.f3.length == 2) = true := beq_iff_eq.mpr (by omega); obtain ⟨b1, h1, h⟩ := Option.bind_eq_some_iff.mp h; have hR2 := Kd.C_below hR HB; obtain ⟨ad, A5, cc5, rfl, ⟨q0, q1, q2, q3, q4, q5⟩, ql, qR⟩ := part0 hR2 (by omega); obtain ⟨B5, dd5, ⟨s0, s1, s2, s3, s4, s5⟩, ⟨s6, s7, s8, s9, s10⟩, sl, sR⟩ := part1 hR2 (by omega)
    obtain ⟨P0, hP0⟩ : ∃ P0, P0 = pt p 0 := ⟨_, rfl⟩
    obtain ⟨P1, hP1⟩ : ∃ P1, P1 = pt p 1 := ⟨_, rfl⟩
    rw [← hP0] at h1 q0 q1 q2 q3 q4 q5 ql qR; rw [← hP1] at h s0 s6 s7 s8 s9 s10 sl sR; clear hP0 hP1; have g1 := bw_cell p5; obtain ⟨c0, c1, c2, c3, c4, c5, c6, c7, c8⟩ := credCells BX; have g3 := bw_cell c5; have g4 := bw_cell c6; have g5 := bw_cell c7; have g6 := bw_cell c8; have t0 := bw_cell q0; have t1 := bw_cell q1; have t2 := bw_cell q2; have t3 := bw_cell q3; have t4 := bw_cell q4; have t5 := bw_cell q5; have v0 := bw_cell s0; have v6 := bw_cell s6; have v7 := bw_cell s7; have v8 := bw_cell s8; have v9 := bw_cell s9; have v10 := bw_cell s10; have HX := Lib.hid (part_calls HC); have HQ := Lib.hid qR; have HL := Lib.hid ql; have HS := Lib.hid sR; have HM := Lib.hid sl; have H0 := Lib.hid h1; have HTT := Lib.hid (hT.below HB); clear hR hR2 qR ql sR sl h1 e1 p5 c0 c1 c2 c3 c4 c5 c6 c7 c8 q0 q1 q2 q3 q4 q5 s0 s1 s2 s3 s4 s5 s6 s7 s8 s9 s10 hT; cases b1
    · rw [if_neg (by decide)] at h
      obtain rfl := Option.some.inj h; clear h; refine wp_region_below (by kernel_rfl) (by kernel_rfl) ?_
      repeat (go_big_quiet_step (first | (with_reducible refine bw_call (HX.out _ b P0 A5 cc5 x.f4 p.f1 false (HTT.out.below (BW.ok _)) (Kd.C_below HQ.out (BW.ok _)) HL.out H0.out))))
      refine wpQuiet_nil ?_; rintro _ ⟨u, rfl⟩; have HBu := Qak HB u.ok
      go_wp2_with fail
      go_ret; exact ⟨rfl, HBu⟩
    · rw [if_pos rfl] at h
      have H1 := Lib.hid h; clear h; refine wp_region_below (by kernel_rfl) (by kernel_rfl) ?_
      repeat (go_big_quiet_step (first | (with_reducible refine bw_call (HX.out _ b P0 A5 cc5 x.f4 p.f1 true (HTT.out.below (BW.ok _)) (Kd.C_below HQ.out (BW.ok _)) HL.out H0.out)) | (with_reducible refine bw_call (HX.out _ b P1 B5 dd5 x.f5 p.f1 r (HTT.out.below (BW.ok _)) (Kd.C_below HS.out (BW.ok _)) HM.out H1.out))))
      refine wpQuiet_nil ?_; rintro _ ⟨u, rfl⟩; have HBu := Qak HB u.ok
      go_wp2_with fail
      go_ret; exact ⟨rfl, HBu⟩
  · rw [if_neg e1] at h
    obtain rfl := Option.some.inj h; have d4 : (((p.f3.length : Nat) : Int) == 2) = false := beq_eq_false_iff_ne.mpr (by omega); have d5 : (p.f3.length == 2) = false := beq_eq_false_iff_ne.mpr (by omega); have g1 := bw_cell p5; clear p5 hT hR; refine wp_region_below (by kernel_rfl) (by kernel_rfl) ?_
    repeat (go_big_quiet_step (fail))
    refine wpQuiet_nil ?_; rintro _ ⟨u, rfl⟩; have HBu := Qak HB u.ok
    go_wp2_with fail
    go_ret; exact ⟨rfl, HBu⟩
def chkFirst (c : Cred) : Role := ⟨domName c.f0.f0, c.f4.f1⟩
def linkP (F : Proof → Option Bool) (c : Cred) (p : Proof) : Option Bool := if p.f3.length = 2 then (names_Number.f 20 (pt p 0).f1).bind fun n => if n = 0 then some false else (partF F (pt p 0) (chkFirst c) (pt p 0).f1).bind fun b => if b = true then partF F (pt p 1) ⟨(pt p 0).f1, c.f5.f1⟩ p.f1 else some false else some false
set_option maxRecDepth 100000 in
set_option maxHeartbeats 4000000 in
theorem linkP_calls {F : Proof → Option Bool} {T : List (ID × Cred)} (HC : Checks F T) (w : World) (b : Nat) (x : Cred) (p : Proof) (A : Option Addr) (c : Nat) (r : Bool) (hT : Tbl encID okID w b (credT T)) (hR : Kd.C kProof w A p.f3.length p.f3) (hc : p.f3.length ≤ c) (h : linkP F x p = some r) :
    Calls Tryz.prog 25 #[.agg #[.map (some b)], encCred x, encProof p A c] w fun e w' => e = .returned (.bool r) ∧ Below w.heap.size w w' := by
  unfold linkP at h; unfold encCred; go_enter Tryz.func25, Tryz.ntmps25
  go_upto_region 1 with fail
  change Code.wp _ _ _ _ (((w.alloc (chkObj b)).alloc (credObj x)).alloc (proofObj p A c))
  generalize hW : ((w.alloc (chkObj b)).alloc (credObj x)).alloc (proofObj p A c) = W
  obtain ⟨HB, BC, BX, BP⟩ := boxed3 hW; obtain ⟨p0, p1, p2, p3, p4, p5⟩ := proofCells BP; clear hW
  by_cases e1 : p.f3.length = 2
  · rw [if_pos e1] at h
    have n1 : 0 < p.f3.length := by omega
    have n2 : (0 : Int) < (p.f3.length : Int) := by omega
    have n3 : 1 < p.f3.length := by omega
    have n4 : (1 : Int) < (p.f3.length : Int) := by omega
    have d4 : (((p.f3.length : Nat) : Int) != 2) = false := by simp; omega
    have d5 : (p.f3.length != 2) = false := by simp; omega
    obtain ⟨n, hn, h⟩ := Option.bind_eq_some_iff.mp h; have hR2 := Kd.C_below hR HB; obtain ⟨ad, A5, cc5, rfl, ⟨q0, q1, q2, q3, q4, q5⟩, ql, qR⟩ := part0 hR2 (by omega); obtain ⟨B5, dd5, ⟨s0, s1, s2, s3, s4, s5⟩, ⟨s6, s7, s8, s9, s10⟩, sl, sR⟩ := part1 hR2 (by omega)
    obtain ⟨P0, hP0⟩ : ∃ P0, P0 = pt p 0 := ⟨_, rfl⟩
    obtain ⟨P1, hP1⟩ : ∃ P1, P1 = pt p 1 := ⟨_, rfl⟩
    rw [← hP0] at h hn q0 q1 q2 q3 q4 q5 ql qR; rw [← hP1] at h s0 s6 s7 s8 s9 s10 sl sR; clear hP0 hP1 s1 s2 s3 s4 s5 e1 hR hR2; have HQ := Lib.hid qR; have HL := Lib.hid ql; have HS := Lib.hid sR; have HM := Lib.hid sl; have HTT := Lib.hid (hT.below HB); have HN := Lib.hid hn; have HH := Lib.hid h; clear qR ql sR sl hT hn h
    by_cases e2 : n = 0
    · have h := HH.out
      rw [if_pos e2] at h; obtain rfl := Option.some.inj h; have f1 : (n == 0) = true := beq_iff_eq.mpr e2; clear h HH e2
      go_wp2_with (go_at_call 48; refine (names_Number.calls 20 _ _ _ HN.out).mono ?_; rintro e w' ⟨rfl, ⟨nd, rfl⟩⟩)
      go_ret; exact ⟨rfl, by repeat (first | exact HB | apply Qaa | apply Qac)⟩
    · have h := HH.out
      rw [if_neg e2] at h; have f1 : (n == 0) = false := beq_eq_false_iff_ne.mpr e2; clear HH e2; obtain ⟨b1, h1, h⟩ := Option.bind_eq_some_iff.mp h; have H0 := Lib.hid h1; have HH := Lib.hid h; clear h h1
      go_upto_region 4 with (go_at_call 48; refine (names_Number.calls 20 _ _ _ HN.out).mono ?_; rintro e w' ⟨rfl, ⟨nd, rfl⟩⟩)
      have HBd := Qaa HB nd; have BCd := Qag BC nd; have BXd := Qag BX nd; have BPd := Qag BP nd; have HBn := Qaa (Below.refl W.heap.size W) nd; have t0 := QaJ HBn q0; have t1 := QaJ HBn q1; have t2 := QaJ HBn q2; have t3 := QaJ HBn q3; have t4 := QaJ HBn q4; have t5 := QaJ HBn q5; have v0 := QaJ HBn s0; have v6 := QaJ HBn s6; have v7 := QaJ HBn s7; have v8 := QaJ HBn s8; have v9 := QaJ HBn s9; have v10 := QaJ HBn s10; have HQ := Lib.hid (Kd.C_below HQ.out HBn); have HS := Lib.hid (Kd.C_below HS.out HBn); have HTT := Lib.hid (HTT.out.below HBn); clear HB BC BX BP HBn q0 q1 q2 q3 q4 q5 s0 s6 s7 s8 s9 s10 p0 p1 p2 p3 p4 p5
      generalize W.drewN nd = V at HBd BCd BXd BPd t0 t1 t2 t3 t4 t5 v0 v6 v7 v8 v9 v10 HQ HS HTT ⊢
      go_cut [8] from 8 to 58 (fun v wc => ∃ k1, v = .pointer (some ⟨k1, 0, none⟩) ∧ wc.heap[k1]? = some (roleObj2 (chkFirst x)) ∧ Below V.heap.size V wc)
      case first =>
        obtain ⟨c0, c1, c2, c3, c4, c5, c6, c7, c8⟩ := credCells BXd; have c0a := bw_alloc c0 (.cells #[.string ⟨#[]⟩, .string ⟨#[]⟩] 24); have c6a := bw_alloc c6 (.cells #[.string ⟨#[]⟩, .string ⟨#[]⟩] 24)
        go_region_with (go_at_call 43; refine (domain_walk _ _).mono ?_; rintro e w' ⟨rfl, rfl⟩)
        all_goals
          go_wp2_with fail
          go_meet
          case rel => exact ⟨V.heap.size, rfl, Qah (blk_new V _), Qac (Qab (Below.refl _ _) _)⟩
      case rest =>
        obtain ⟨k1, rfl, BF, HBF⟩ := hcut
        go_upto_region 5 with fail
        have HBw := Qak HBd HBF; have g0 := bw_cell (chkCells (Qal BCd HBF)); obtain ⟨c0, c1, c2, c3, c4, c5, c6, c7, c8⟩ := credCells (Qal BXd HBF); obtain ⟨p0, p1, p2, p3, p4, p5⟩ := proofCells (Qal BPd HBF); obtain ⟨r0, r1⟩ := roleCells2 BF; have g1 := bw_cell p5; have g2 := bw_cell p2; have g3 := bw_cell c8; have g4 := bw_cell r0; have g5 := bw_cell r1; have t0 := bw_cell (QaJ HBF t0); have t1 := bw_cell (QaJ HBF t1); have t2 := bw_cell (QaJ HBF t2); have t3 := bw_cell (QaJ HBF t3); have t4 := bw_cell (QaJ HBF t4); have t5 := bw_cell (QaJ HBF t5); have v0 := bw_cell (QaJ HBF v0); have v6 := bw_cell (QaJ HBF v6); have v7 := bw_cell (QaJ HBF v7); have v8 := bw_cell (QaJ HBF v8); have v9 := bw_cell (QaJ HBF v9); have v10 := bw_cell (QaJ HBF v10); have HX := Lib.hid (part_calls HC); have HQ := Lib.hid (Kd.C_below HQ.out HBF); have HS := Lib.hid (Kd.C_below HS.out HBF); have HTT := Lib.hid (HTT.out.below HBF); clear HBd BCd BXd BPd HBF BF c0 c1 c2 c3 c4 c5 c6 c7 c8 p0 p1 p2 p3 p4 p5 r0 r1 HN; cases b1
        · have h := HH.out
          rw [if_neg (by decide)] at h; obtain rfl := Option.some.inj h; clear h HH; refine wp_region_below (by kernel_rfl) (by kernel_rfl) ?_
          repeat (go_big_quiet_step (first | (with_reducible refine bw_call (HX.out _ b P0 A5 cc5 (chkFirst x) P0.f1 false (HTT.out.below (BW.ok _)) (Kd.C_below HQ.out (BW.ok _)) HL.out H0.out))))
          refine wpQuiet_nil ?_; rintro _ ⟨u, rfl⟩; have HBu := Qak HBw u.ok
          go_wp2_with fail
          go_ret; exact ⟨rfl, HBu⟩
        · have h := HH.out
          rw [if_pos rfl] at h; have H1 := Lib.hid h; clear h HH; refine wp_region_below (by kernel_rfl) (by kernel_rfl) ?_
          repeat (go_big_quiet_step (first | (with_reducible refine bw_call (HX.out _ b P0 A5 cc5 (chkFirst x) P0.f1 true (HTT.out.below (BW.ok _)) (Kd.C_below HQ.out (BW.ok _)) HL.out H0.out)) | (with_reducible refine bw_call (HX.out _ b P1 B5 dd5 ⟨P0.f1, x.f5.f1⟩ p.f1 r (HTT.out.below (BW.ok _)) (Kd.C_below HS.out (BW.ok _)) HM.out H1.out))))
          refine wpQuiet_nil ?_; rintro _ ⟨u, rfl⟩; have HBu := Qak HBw u.ok
          go_wp2_with fail
          go_ret; exact ⟨rfl, HBu⟩
  · rw [if_neg e1] at h
    obtain rfl := Option.some.inj h
    have d4 : (((p.f3.length : Nat) : Int) != 2) = true := by simp; omega
    have d5 : (p.f3.length != 2) = true := by simp; omega
    clear h e1; go_wp2; go_ret; exact ⟨rfl, HB⟩
def checkF (T : List (ID × Cred)) : Nat → Proof → Option Bool
  | 0, _ => none
  | k + 1, p => if okID p.f2 then (match tfind T p.f2 with
    | none => some false
    | some c => if credRole c = p.f0 then (if c.f2 = 1 then some (decide (c.f3 = p.f1) && decide (p.f3.length = 0)) else if c.f2 = 3 then linkP (checkF T k) c p else if c.f2 = 4 then bothP (checkF T k) c p else includeP (checkF T k) c p) else some false) else none
def zeroCred : Cred := ⟨⟨0, 0⟩, ⟨#[]⟩, 0, ⟨#[]⟩, ⟨⟨#[]⟩, ⟨#[]⟩⟩, ⟨⟨#[]⟩, ⟨#[]⟩⟩⟩
theorem zeroCred_run (w : World) : (zeroValue 42).run Tryz.prog w = .ok (encCred zeroCred) w := by kernel_rfl
set_option maxRecDepth 100000 in
set_option maxHeartbeats 4000000 in
theorem check_none {T : List (ID × Cred)} (w : World) (b : Nat) (p : Proof) (A : Option Addr) (c : Nat) (hT : Tbl encID okID w b (credT T)) (hok : okID p.f2) (hf : tfind T p.f2 = none) :
    Calls Tryz.prog 12 #[.agg #[.map (some b)], encProof p A c] w fun e w' => e = .returned (.bool false) ∧ Below w.heap.size w w' := by
  have hl := fun W hW => hT.look idKey Tryz.underlying38 zeroCred_run hok true W hW
  rw [tfind_get, hf] at hl; go_enter Tryz.func12, Tryz.ntmps12
  go_upto_region 1 with fail
  change Code.wp _ _ _ _ ((w.alloc (chkObj b)).alloc (proofObj p A c))
  generalize hW : (w.alloc (chkObj b)).alloc (proofObj p A c) = W
  obtain ⟨HB, BC, BP, hsz⟩ := boxed2 hW; have k0 := chkCells BC; obtain ⟨p0, p1, p2, p3, p4, p5⟩ := proofCells BP; have l1 := hl W (HB.block b hT.lt); simp only [Option.map_none, Option.getD_none, Option.isSome_none, if_true, encCred, encID, zeroCred] at l1; clear hW hl
  go_upto_region 2 with fail
  have HV := Qab HB (credObj zeroCred); change Code.wp _ _ _ _ (W.alloc (credObj zeroCred)); clear k0 p0 p1 p2 p3 p4 p5 l1 BC BP hT
  generalize W.alloc (credObj zeroCred) = V at HV ⊢
  refine wp_region_below (by kernel_rfl) (by kernel_rfl) ?_
  repeat (go_big_quiet_step (fail))
  refine wpQuiet_nil ?_; rintro _ ⟨u, rfl⟩; have HBu := Qak HV u.ok
  go_wp2_with fail
  go_ret; exact ⟨rfl, HBu⟩
set_option maxRecDepth 100000 in
set_option maxHeartbeats 4000000 in
theorem check_some {T : List (ID × Cred)} {F : Proof → Option Bool} (HC : Checks F T) (w : World) (b : Nat) (p : Proof) (A : Option Addr) (c : Nat) (x : Cred) (r : Bool) (hT : Tbl encID okID w b (credT T)) (hR : Kd.C kProof w A p.f3.length p.f3) (hc : p.f3.length ≤ c) (hok : okID p.f2) (hf : tfind T p.f2 = some x)
    (h : (if credRole x = p.f0 then (if x.f2 = 1 then some (decide (x.f3 = p.f1) && decide (p.f3.length = 0)) else if x.f2 = 3 then linkP F x p else if x.f2 = 4 then bothP F x p else includeP F x p) else some false) = some r) :
    Calls Tryz.prog 12 #[.agg #[.map (some b)], encProof p A c] w fun e w' => e = .returned (.bool r) ∧ Below w.heap.size w w' := by
  have hl := fun W hW => hT.look idKey Tryz.underlying38 zeroCred_run hok true W hW
  rw [tfind_get, hf] at hl; go_enter Tryz.func12, Tryz.ntmps12
  go_upto_region 1 with fail
  change Code.wp _ _ _ _ ((w.alloc (chkObj b)).alloc (proofObj p A c))
  generalize hW : (w.alloc (chkObj b)).alloc (proofObj p A c) = W
  obtain ⟨HB, BC, BP, hsz⟩ := boxed2 hW; have k0 := chkCells BC; obtain ⟨p0, p1, p2, p3, p4, p5⟩ := proofCells BP; have l1 := hl W (HB.block b hT.lt); simp only [Option.map_some, Option.getD_some, Option.isSome_some, if_true, encCred, encID] at l1; clear hW hl
  go_upto_region 2 with fail
  have HV := Qab HB (credObj x); have BCv := Qaf BC (credObj x); have BPv := Qaf BP (credObj x); have BXv := blk_new W (credObj x); rw [hsz] at BXv; change Code.wp _ _ _ _ (W.alloc (credObj x)); have HTT := Lib.hid (hT.below HV); have HR := Lib.hid (Kd.C_below hR HV); clear k0 p0 p1 p2 p3 p4 p5 l1 BC BP hT hR
  generalize hV : W.alloc (credObj x) = V at HV BCv BPv BXv HTT HR ⊢
  clear hV; obtain ⟨p0, p1, p2, p3, p4, p5⟩ := proofCells BPv; obtain ⟨c0, c1, c2, c3, c4, c5, c6, c7, c8⟩ := credCells BXv; have g0 := bw_cell p0; have g1 := bw_cell p1; have x0 := bw_cell c0; have x1 := bw_cell c1; have x2 := bw_cell c2; have x3 := bw_cell c3; have x4 := bw_cell c4; have x5 := bw_cell c5; have x6 := bw_cell c6; have x7 := bw_cell c7; have x8 := bw_cell c8; clear p0 p1 p2 p3 p4 p5 c0 c1 c2 c3 c4 c5 c6 c7 c8
  have HCR := fun W' => credRole_calls x W'
  unfold encCred at HCR; have HCR := Lib.hid HCR
  by_cases e1 : credRole x = p.f0
  · rw [if_pos e1] at h
    have hb1 := eqRole_t e1; clear e1; refine wp_region_below (by kernel_rfl) (by kernel_rfl) ?_
    repeat (go_big_quiet_step (with_reducible refine bw_call (HCR.out _)))
    refine wpQuiet_nil ?_; rintro _ ⟨u, rfl⟩; have HU := Qak HV u.ok; have BCu := Qal BCv u.ok; have BPu := Qal BPv u.ok; have BXu := Qal BXv u.ok; have HTu := Lib.hid (HTT.out.below u.ok); have HRu := Lib.hid (Kd.C_below HR.out u.ok); clear HTT HR HV BCv BPv BXv g0 g1 x0 x1 x2 x3 x4 x5 x6 x7 x8
    generalize u.now = U at HU BCu BPu BXu HTu HRu ⊢
    have k0 := chkCells BCu; obtain ⟨p0, p1, p2, p3, p4, p5⟩ := proofCells BPu; obtain ⟨c0, c1, c2, c3, c4, c5, c6, c7, c8⟩ := credCells BXu
    by_cases k1 : x.f2 = 1
    · rw [if_pos k1] at h
      have f1 : (x.f2 == 1) = true := beq_iff_eq.mpr k1; obtain hr := Option.some.inj h; clear h k1
      by_cases e2 : x.f3 = p.f1
      · have f2 := str_t e2
        rw [decide_eq_true e2, Bool.true_and] at hr; clear e2
        by_cases e3 : p.f3.length = 0
        · rw [decide_eq_true e3] at hr
          subst hr; have d4 : (((p.f3.length : Nat) : Int) == 0) = true := beq_iff_eq.mpr (by omega); have d5 : (p.f3.length == 0) = true := beq_iff_eq.mpr (by omega); have d6 : decide ((p.f3.length : Int) = 0) = true := decide_eq_true (by omega); clear e3; go_wp2; go_ret; exact ⟨rfl, HU⟩
        · rw [decide_eq_false e3] at hr
          subst hr; have d4 : (((p.f3.length : Nat) : Int) == 0) = false := beq_eq_false_iff_ne.mpr (by omega); have d5 : (p.f3.length == 0) = false := beq_eq_false_iff_ne.mpr (by omega); have d6 : decide ((p.f3.length : Int) = 0) = false := decide_eq_false (by omega); clear e3; go_wp2; go_ret; exact ⟨rfl, HU⟩
      · have f2 := str_f e2
        rw [decide_eq_false e2, Bool.false_and] at hr; subst hr; clear e2; go_wp2; go_ret; exact ⟨rfl, HU⟩
    · rw [if_neg k1] at h
      have f1 : (x.f2 == 1) = false := beq_eq_false_iff_ne.mpr k1; clear k1
      by_cases k3 : x.f2 = 3
      · rw [if_pos k3] at h
        have f3 : (x.f2 == 3) = true := beq_iff_eq.mpr k3; have HH := Lib.hid h; clear h k3
        go_wp2_with (go_at_call 25; refine (linkP_calls HC _ b x p A c r (HTu.out.below (by repeat (first | exact Below.refl _ _ | apply Qaa | apply Qac))) (Kd.C_below HRu.out (by repeat (first | exact Below.refl _ _ | apply Qaa | apply Qac))) hc HH.out).mono ?_; rintro e w3 ⟨rfl, hB3⟩; have HB3 := Qak HU hB3)
        go_ret; exact ⟨rfl, HB3⟩
      · rw [if_neg k3] at h
        have f3 : (x.f2 == 3) = false := beq_eq_false_iff_ne.mpr k3; clear k3
        by_cases k4 : x.f2 = 4
        · rw [if_pos k4] at h
          have f4 : (x.f2 == 4) = true := beq_iff_eq.mpr k4; have HH := Lib.hid h; clear h k4
          go_wp2_with (go_at_call 26; refine (bothP_calls HC _ b x p A c r (HTu.out.below (by repeat (first | exact Below.refl _ _ | apply Qaa | apply Qac))) (Kd.C_below HRu.out (by repeat (first | exact Below.refl _ _ | apply Qaa | apply Qac))) hc HH.out).mono ?_; rintro e w3 ⟨rfl, hB3⟩; have HB3 := Qak HU hB3)
          go_ret; exact ⟨rfl, HB3⟩
        · rw [if_neg k4] at h
          have f4 : (x.f2 == 4) = false := beq_eq_false_iff_ne.mpr k4; have HH := Lib.hid h; clear h k4
          go_wp2_with (go_at_call 24; refine (includeP_calls HC _ b x p A c r (HTu.out.below (by repeat (first | exact Below.refl _ _ | apply Qaa | apply Qac))) (Kd.C_below HRu.out (by repeat (first | exact Below.refl _ _ | apply Qaa | apply Qac))) hc HH.out).mono ?_; rintro e w3 ⟨rfl, hB3⟩; have HB3 := Qak HU hB3)
          go_ret; exact ⟨rfl, HB3⟩
  · rw [if_neg e1] at h
    obtain rfl := Option.some.inj h; have hb1 := eqRole_f e1; clear e1; refine wp_region_below (by kernel_rfl) (by kernel_rfl) ?_
    repeat (go_big_quiet_step (with_reducible refine bw_call (HCR.out _)))
    refine wpQuiet_nil ?_; rintro _ ⟨u, rfl⟩; have HBu := Qak HV u.ok
    go_wp2_with fail
    go_ret; exact ⟨rfl, HBu⟩
theorem check_calls (T : List (ID × Cred)) : ∀ k, Checks (checkF T k) T
  | 0 => fun w b p A c r hT hR hc h => by cases h
  | k + 1 => fun w b p A c r hT hR hc h => by
    rw [checkF] at h
    by_cases hok : okID p.f2
    · rw [if_pos hok] at h
      cases hf : tfind T p.f2 with
      | none =>
        rw [hf] at h; obtain rfl := Option.some.inj h; exact check_none w b p A c hT hok hf
      | some x =>
        rw [hf] at h; exact check_some (check_calls T k) w b p A c x r hT hR hc hok hf h
    · rw [if_neg hok] at h
      cases h
end Go.Proofs.YtmaipohgahdclaaGreatDoor.Pr
end
section
namespace Go.Proofs.YtmaipohgahdclaaGreatDoor.Pr
open Go.RowKit Go.Proofs.YtmaipohgahdclaaGreatDoorW.PrintWords Go.Proofs.YtmaipohgahdclaaGreatDoorW.PrintLast Go.Proofs.YtmaipohgahdclaaGreatDoorW.PrintMore
open Go.ChangeMaps (setBlock)
set_option linter.unusedVariables false
set_option linter.unusedSimpArgs false
def tputC (T : List (ID × Cred)) (c : Cred) : List (ID × Cred) := if T.any (fun y => decide (y.1 = c.f0)) then T.map (fun y => if y.1 = c.f0 then (c.f0, c) else y) else T ++ [(c.f0, c)]
theorem credT_put (T : List (ID × Cred)) (c : Cred) : tput (credT T) c.f0 (encCred c) = credT (tputC T c) := by
  unfold tput tputC credT; rw [List.any_map]
  by_cases h : (T.any fun y => decide (y.1 = c.f0)) = true
  · have h' : (T.any ((fun y : ID × Value => decide (y.1 = c.f0)) ∘ fun x : ID × Cred => (x.1, encCred x.2))) = true := h
    rw [if_pos h, if_pos h', List.map_map, List.map_map]
    apply List.map_congr_left
    intro y _
    by_cases e : y.1 = c.f0
    · simp [e]
    · simp [e]
  · have h' : ¬ (T.any ((fun y : ID × Value => decide (y.1 = c.f0)) ∘ fun x : ID × Cred => (x.1, encCred x.2))) = true := h
    rw [if_neg h, if_neg h']; simp
def tableOf (cs : List Cred) : List (ID × Cred) := cs.foldl tputC []
theorem tputC_length (T : List (ID × Cred)) (c : Cred) : (tputC T c).length ≤ T.length + 1 := by
  unfold tputC
  split <;> simp
theorem tableOf_snoc (cs : List Cred) (c : Cred) : tableOf (cs ++ [c]) = tputC (tableOf cs) c := by
  unfold tableOf; rw [List.foldl_append]; rfl
theorem foldT_length : ∀ (cs : List Cred) (T : List (ID × Cred)), (cs.foldl tputC T).length ≤ T.length + cs.length
  | [], T => Nat.le_refl _
  | c :: cs, T => by
    rw [List.foldl_cons]; have := foldT_length cs (tputC T c); have := tputC_length T c; simp only [List.length_cons]; omega
theorem tableOf_length (cs : List Cred) : (tableOf cs).length ≤ cs.length := by
  have := foldT_length cs []
  simpa [tableOf] using this
theorem take_snoc {cs : List Cred} {i : Nat} (h : i < cs.length) : tableOf (cs.take (i + 1)) = tputC (tableOf (cs.take i)) cs[i] := by
  rw [List.take_add_one, List.getElem?_eq_getElem h]; exact tableOf_snoc _ _
abbrev goodIDs (cs : List Cred) : Prop := ∀ c ∈ cs, okID c.f0
theorem map_turned {W Y : World} {b B : Nat} {O : Obj} (hb : b < W.heap.size) (hY : Y = setBlock W b O) (hB : B ≤ b) : Y.heap.size = W.heap.size ∧ (∀ i, i ≠ b → Y.heap[i]? = W.heap[i]?) ∧ Below B W Y := by
  have hother : ∀ i, i ≠ b → Y.heap[i]? = W.heap[i]? := fun i hi => by rw [hY]; simp [setBlock, Ne.symm hi]
  have hsz : Y.heap.size = W.heap.size := by rw [hY]; show (W.heap.setIfInBounds b O).size = _; simp
  exact ⟨hsz, hother, by rw [hY]; exact ⟨rfl, rfl, rfl, by show W.heap.size ≤ (W.heap.setIfInBounds b O).size; simp, fun i hi => by have := hother i (by omega); rw [hY] at this; exact this⟩⟩
theorem R_turned {α : Type} {d : Kd α} {e : Nat} {W Y : World} {b B : Nat} {v : Value} {xs : List α} {κ : Type} {enc : κ → Value} {ok : κ → Prop} {l : List (κ × Value)} (hR : Kd.R d e W B (fun _ => True) v xs) (hT : Tbl enc ok W b l) (hY : ∀ i, i ≠ b → Y.heap[i]? = W.heap[i]?) : Kd.R d e Y B (fun _ => True) v xs :=
  Kd.R_mono (Kd.R_move (Kd.R_bound hR) (fun k hk => hY k (fun e => by
    obtain ⟨_, _, _, q, _, cells, hc⟩ := hk; obtain ⟨es, clock, hb, _⟩ := hT; rw [e, hb] at hc
    cases hc))) (fun _ hk => hk.1)
set_option maxRecDepth 100000 in
set_option maxHeartbeats 4000000 in
theorem check_walk (w : World) (p : Proof) (A : Option Addr) (c : Nat) (A0 : Option Addr) (c0 : Nat) (l : List Cred) (cs : List Cred) (k : Nat) (r : Bool) (hr0 : Kd.C kCred w A0 l.length l) (hc0 : l.length ≤ c0) (hR : Kd.C kProof w A p.f3.length p.f3) (hc : p.f3.length ≤ c)
    (hcs : cred_Counts.f l = some cs) (hlen : cs.length ≤ 1000000) (hid : goodIDs cs) (h : checkF (tableOf cs) k p = some r) :
    Calls Tryz.prog 6 #[.slice A0 l.length c0, encProof p A c] w fun e w' => e = .returned (.int .i64 (if r = true then 0 else 15)) ∧ Below w.heap.size w w' := by
  have hmk := fun W => run_makeMap (P := Tryz.prog) 38 W
  have hb1 := Qab (Below.refl w.heap.size w) (proofObj p A c); have hb2 := Qab hb1 (.map #[] 0); have hb3 := Qab hb2 (chkObj (w.heap.size + 1))
  have hct := fun W hW => cred_Counts.calls A0 c0 l cs W (Kd.C_below hr0 hW) hc0 hcs
  go_enter Tryz.func6, Tryz.ntmps6
  go_upto_region 2 with fail
  change Code.wp _ _ _ _ (((w.alloc (proofObj p A c)).alloc (.map #[] 0)).alloc (chkObj (w.heap.size + 1)))
  obtain ⟨V, hV⟩ : ∃ V, V = ((w.alloc (proofObj p A c)).alloc (.map #[] 0)).alloc (chkObj (w.heap.size + 1)) := ⟨_, rfl⟩
  obtain ⟨HB, BP, BM, BK⟩ := boxed3 hV.symm
  have HT0 : Tbl encID okID V (w.heap.size + 1) (credT (tableOf [])) := by
    have h1 := Tbl.made encID okID (w.alloc (proofObj p A c))
    have e1 : (w.alloc (proofObj p A c)).heap.size = w.heap.size + 1 := by simp
    rw [e1] at h1; rw [hV]; exact h1.below (Qab (Below.refl _ _) _)
  have hsz : w.heap.size + 1 + 1 < V.heap.size := blk_lt BK; rw [← hV]; have hct1 := hct V HB; clear hmk hb1 hb2 hb3 hct hV BM hr0
  generalize hb : w.heap.size + 1 = b at *
  obtain ⟨g, hg⟩ : ∃ g, g = b + 1 := ⟨_, rfl⟩
  rw [← hg] at BK hsz ⊢; have HIDS := Lib.hid hid; have HF := Lib.hid h; have HL := Lib.hid hlen; have HRp := Lib.hid (Kd.C_below hR HB); have HBW := Lib.hid (show w.heap.size < b ∧ b < g ∧ g < V.heap.size ∧ w.heap.size < V.heap.size by omega); have HZ := Lib.hid hc; have HR0 := Lib.hid hR; clear hid h hlen hR hg hsz hb hc
  go_wp2_with (go_at_call 11; refine hct1.mono ?_; rintro e w3 ⟨v3, rfl, hR3, hB3⟩; obtain ⟨A3, cc3, rfl⟩ := Kd.R_slice hR3)
  have HP3 := Qal BP hB3; have HK3 := Qal BK hB3; have HT3 := HT0.below hB3; have HW3 := Qak HB hB3; have HRq := Lib.hid (Kd.C_below HRp.out hB3); have HB3s := Lib.hid (hB3.size); clear BP BK HT0 HB HRp hct1 hB3
  go_loopg [7, 13] (cs.length + 1) (fun kq _ v13 w' => ∃ i : Nat, v13 = .int .i64 i ∧ Hid (kq = cs.length + 1 - i) ∧ Hid (i ≤ cs.length) ∧ Hid (Tbl encID okID w' b (credT (tableOf (cs.take i)))) ∧ Hid (w'.heap[w.heap.size]? = some (proofObj p A c)) ∧ Hid (w'.heap[g]? = some (chkObj b)) ∧ Hid (Kd.R kCred 42 w' V.heap.size (fun _ => True) (.slice A3 cs.length cc3) cs) ∧ Hid (Below w.heap.size w w') ∧ Hid (w3.heap.size ≤ w'.heap.size))
  case atStart => exact ⟨0, rfl, Lib.hid rfl, Lib.hid (Nat.zero_le _), Lib.hid HT3, Lib.hid HP3, Lib.hid HK3, Lib.hid hR3, Lib.hid HW3, Lib.hid (Nat.le_refl _)⟩
  case round =>
    clear HP3 HK3 HT3 HW3 hR3; obtain ⟨i, rfl, HKq, HI, HT, HP, HK, HR, HW, HS⟩ := hrel
    by_cases hi : i < cs.length
    · have d1 : decide ((i : Int) < (cs.length : Int)) = true := decide_eq_true (by omega)
      have d2 : decide (i < cs.length) = true := decide_eq_true hi; obtain ⟨ad, e, hx0, hx1, hx2, hx3, hx4, hx5, hx6, hx7, hx8⟩ := at_T42 (Kd.QaQ HR.out).2.2 (i : Int) (by omega) (by omega); cases e
      obtain ⟨x, hx⟩ : ∃ x, x = cs[i] := ⟨_, rfl⟩
      have erd : Qam cs (i : Int) = x := by
        unfold Qam; rw [hx, Int.toNat_natCast, List.getD_eq_getElem?_getD, List.getElem?_eq_getElem hi]; rfl
      rw [erd, Int.toNat_natCast] at hx0 hx1 hx2 hx3 hx4 hx5 hx6 hx7 hx8; have p101 : (0 ≤ (i : Int)) = True := eq_true (by omega); have q101 : ((i : Int) < (cs.length : Int)) = True := eq_true (by omega); have hokx : okID x.f0 := HIDS.out x (by rw [hx]; exact List.getElem_mem hi); have hnext := take_snoc hi; rw [← hx] at hnext; have HN := Lib.hid hnext; have HIL := Lib.hid hi; have HOK := Lib.hid hokx; clear hx erd hnext hokx
      have wrapI : wrap64 ((i : Int) + 1) = ((i + 1 : Nat) : Int) := by unfold wrap64; have := HL.out; have := HIL.out; omega
      clear hi
      go_upto_region 5 with fail
      change Code.wp _ _ _ _ (wr.alloc (credObj x)); have HX := Qab (Below.refl wr.heap.size wr) (credObj x); have B3 := blk_new wr (credObj x); have BK := Qal HK.out HX; have BP := Qal HP.out HX; have RX := Kd.R_below HR.out HX; have TX := HT.out.below HX; have WX := Qak HW.out HX; have hbX := HT.out.lt
      obtain ⟨O, hu, hT'⟩ := TX.store idKey Tryz.underlying38 HOK.out (encCred x) (by
        unfold credT; rw [List.length_map]; have h1 := tableOf_length (cs.take i); have h2 := List.length_take_le i cs; have h3 := HI.out; have h4 := HL.out
        have : maxLen = 9223372036854775807 := by decide
        omega)
      clear hx0 hx1 hx2 hx3 hx4 hx5 hx6 hx7 hx8; have SZX := Lib.hid (show (wr.alloc (credObj x)).heap.size = wr.heap.size + 1 by simp)
      generalize wr.alloc (credObj x) = X at HX B3 BK BP RX TX WX hu hT' SZX ⊢
      have hu1 := hu X rfl; unfold encID encCred at hu1; have k0 := chkCells BK; obtain ⟨c0, c1, c2, c3, c4, c5, c6, c7, c8⟩ := credCells B3; have HTX := Lib.hid TX; have HRX := Lib.hid RX; have HPX := Lib.hid BP; have HKX := Lib.hid BK; have HWX := Lib.hid WX; have HO := Lib.hid hT'; have HBX := Lib.hid hbX; clear hu BK BP B3 RX TX WX hT' hbX HX; go_wp2
      go_roundg (cs.length + 1 - (i + 1))
      case measure => have := HKq.out; have := HIL.out; omega
      case rel =>
        have hlt : b < X.heap.size := by have := HBX.out; have := SZX.out; omega
        obtain ⟨hs, ho, hbw⟩ := map_turned (Y := setBlock X b O) (B := w.heap.size) hlt rfl (by have := HBW.out; omega)
        have hne1 : w.heap.size ≠ b := by have := HBW.out; omega
        refine ⟨i + 1, by first | rfl | exact congrArg _ wrapI, Lib.hid rfl, Lib.hid HIL.out, Lib.hid ?_, Lib.hid ((ho _ hne1).trans HPX.out), Lib.hid ((ho _ (by have := HBW.out; omega)).trans HKX.out), Lib.hid (R_turned HRX.out HTX.out ho), Lib.hid (HWX.out.trans hbw), Lib.hid ?_⟩
        · rw [HN.out, ← credT_put]
          exact HO.out X hlt
        · rw [hs]
          have := HS.out; have := SZX.out; omega
    · have d1 : decide ((i : Int) < (cs.length : Int)) = false := decide_eq_false (by omega)
      have d2 : decide (i < cs.length) = false := decide_eq_false hi
      have hend : tableOf (cs.take i) = tableOf cs := by rw [List.take_of_length_le (by omega)]
      have hTe := HT.out; rw [hend] at hTe; have HTe := Lib.hid hTe; have k0 := chkCells HK.out; obtain ⟨p0, p1, p2, p3, p4, p5⟩ := proofCells HP.out; have HRe := Lib.hid (Kd.C_below HR0.out HW.out); have HWe := Lib.hid HW.out; clear hi hend hTe HT HP HK HR HW; cases r
      · go_wp2_with (go_at_call 12; refine (check_calls (tableOf cs) k _ b p A c false (HTe.out.below (by repeat (first | exact Below.refl _ _ | apply Qaa | apply Qac))) (Kd.C_below HRe.out (by repeat (first | exact Below.refl _ _ | apply Qaa | apply Qac))) HZ.out HF.out).mono ?_; rintro e w5 ⟨rfl, hB5⟩; have HB5 := Qak HWe.out hB5)
        go_ret; exact ⟨rfl, HB5⟩
      · go_wp2_with (go_at_call 12; refine (check_calls (tableOf cs) k _ b p A c true (HTe.out.below (by repeat (first | exact Below.refl _ _ | apply Qaa | apply Qac))) (Kd.C_below HRe.out (by repeat (first | exact Below.refl _ _ | apply Qaa | apply Qac))) HZ.out HF.out).mono ?_; rintro e w5 ⟨rfl, hB5⟩; have HB5 := Qak HWe.out hB5)
        go_ret; exact ⟨rfl, HB5⟩
end Go.Proofs.YtmaipohgahdclaaGreatDoor.Pr
end
section
namespace Go.Proofs.YtmaipohgahdclaaGreatDoor.Pr
open Go.RowKit Go.Proofs.YtmaipohgahdclaaGreatDoorW.PrintWords Go.Proofs.YtmaipohgahdclaaGreatDoorW.PrintLast Go.Proofs.YtmaipohgahdclaaGreatDoorW.PrintMore
attribute [local go_sem] QaU QaS max_two min_two QaM QaL QaT QaR
set_option linter.unusedVariables false
set_option linter.unusedSimpArgs false
def proof_Check.f (l0 : List (S42)) (a1_0 : ByteArray) (a1_1 : ByteArray) (a1_2 : ByteArray) (a1_3 : Int) (a1_4 : Int) (l1_5 : List (S29)) : Option Int := (cred_Counts.f l0).bind fun cs => if cs.length ≤ 1000000 ∧ goodIDs cs then (checkF (tableOf cs) 200 ⟨⟨a1_0, a1_1⟩, a1_2, ⟨a1_3, a1_4⟩, l1_5⟩).map (fun r => if r = true then 0 else 15) else none
set_option maxRecDepth 100000 in
theorem proof_Check.calls (A0 : Option Addr) (c0 : Nat) (l0 : List (S42)) (a1_0 : ByteArray) (a1_1 : ByteArray) (a1_2 : ByteArray) (a1_3 : Int) (a1_4 : Int) (A1_5 : Option Addr) (c1_5 : Nat) (l1_5 : List (S29)) (r : Int) (w : World) (hr0 : Kd.C k42 w A0 l0.length l0) (hc0 : l0.length ≤ c0) (hr1_5 : Kd.C k29 w A1_5 l1_5.length l1_5) (hc1_5 : l1_5.length ≤ c1_5) (h : proof_Check.f l0 a1_0 a1_1 a1_2 a1_3 a1_4 l1_5 = some r) :
    Calls Tryz.prog 6 #[.slice A0 l0.length c0, .agg #[.string a1_0, .string a1_1, .string a1_2, .int .i64 a1_3, .int .i64 a1_4, .slice A1_5 l1_5.length c1_5]] w fun e w' => e = .returned (.int .i64 r) ∧ Below w.heap.size w w' := by
  unfold proof_Check.f at h; obtain ⟨cs, hcs, h⟩ := Option.bind_eq_some_iff.mp h
  by_cases hl : cs.length ≤ 1000000 ∧ goodIDs cs
  · rw [if_pos hl] at h
    obtain ⟨b, hb, rfl⟩ := Option.map_eq_some_iff.mp h; exact check_walk w ⟨⟨a1_0, a1_1⟩, a1_2, ⟨a1_3, a1_4⟩, l1_5⟩ A1_5 c1_5 A0 c0 l0 cs 200 b hr0 hc0 hr1_5 hc1_5 hcs hl.1 hl.2 hb
  · rw [if_neg hl] at h
    cases h
end Go.Proofs.YtmaipohgahdclaaGreatDoor.Pr
end
section
namespace Go.Proofs.YtmaipohgahdclaaGreatDoor.Pr
open Go.RowKit Go.Proofs.YtmaipohgahdclaaGreatDoorW.PrintWords Go.Proofs.YtmaipohgahdclaaGreatDoorW.PrintLast Go.Proofs.YtmaipohgahdclaaGreatDoorW.PrintMore
open Go.ChangeMaps (setBlock)
set_option linter.unusedVariables false
set_option linter.unusedSimpArgs false
def idT (l : List ID) : List (ID × Value) := l.map fun x => (x, .bool true)
def putID (l : List ID) (x : ID) : List ID := if x ∈ l then l else l ++ [x]
theorem idT_put (l : List ID) (x : ID) : tput (idT l) x (.bool true) = idT (putID l x) := by
  unfold tput putID idT
  by_cases h : x ∈ l
  · have h' : ((l.map fun x => (x, Value.bool true)).any fun y => decide (y.1 = x)) = true := by
      rw [List.any_map, List.any_eq_true]; exact ⟨x, h, by simp⟩
    rw [if_pos h, if_pos h', List.map_map]
    apply List.map_congr_left
    intro y _
    by_cases e : y = x
    · simp [e]
    · simp [e]
  · have h' : ¬ ((l.map fun x => (x, Value.bool true)).any fun y => decide (y.1 = x)) = true := by
      rw [List.any_map, List.any_eq_true]; rintro ⟨y, hy, e⟩
      have : y = x := by simpa using e
      exact h (this ▸ hy)
    rw [if_neg h, if_neg h']; simp
def gatherL (F : Proof → List ID → Option (List ID)) : List Proof → List ID → Option (List ID)
  | [], l => some l
  | p :: ps, l => (F p l).bind (gatherL F ps)
def gatherF : Nat → Proof → List ID → Option (List ID)
  | 0, _, _ => none
  | k + 1, p, l => if okID p.f2 ∧ l.length < 1000000 ∧ p.f3.length ≤ 1000000 then gatherL (gatherF k) p.f3 (putID l p.f2) else none
def Gathers (F : Proof → List ID → Option (List ID)) : Prop := ∀ (w0 w : World) (b : Nat) (p : Proof) (A : Option Addr) (c : Nat) (l l' : List ID), Kd.C kProof w0 A p.f3.length p.f3 → p.f3.length ≤ c → Below w0.heap.size w0 w → w0.heap.size ≤ b → Tbl encID okID w b (idT l) → F p l = some l' →
  Calls Tryz.prog 27 #[encProof p A c, .map (some b)] w fun e w' => e = .returned (.tuple #[]) ∧ Tbl encID okID w' b (idT l') ∧ Below w0.heap.size w0 w'
set_option maxRecDepth 100000 in
set_option maxHeartbeats 4000000 in
theorem gather_step {F : Proof → List ID → Option (List ID)} (HC : Gathers F) (w0 w : World) (b : Nat) (p : Proof) (A : Option Addr) (c : Nat) (l l' : List ID) (hp : Kd.C kProof w0 A p.f3.length p.f3) (hc : p.f3.length ≤ c) (hW : Below w0.heap.size w0 w) (hb : w0.heap.size ≤ b) (hT : Tbl encID okID w b (idT l)) (hok : okID p.f2) (hl : l.length < 1000000) (hn : p.f3.length ≤ 1000000)
    (h : gatherL F p.f3 (putID l p.f2) = some l') :
    Calls Tryz.prog 27 #[encProof p A c, .map (some b)] w fun e w' => e = .returned (.tuple #[]) ∧ Tbl encID okID w' b (idT l') ∧ Below w0.heap.size w0 w' := by
  have HX := Qab (Below.refl w.heap.size w) (proofObj p A c); have BP := blk_new w (proofObj p A c); have TX := hT.below HX; have WX := Qak hW HX; have hbX := hT.lt
  obtain ⟨O, hu, hT'⟩ := TX.store idKey Tryz.underlying61 hok (.bool true) (by
    unfold idT; rw [List.length_map]
    have : maxLen = 9223372036854775807 := by decide
    omega)
  rw [idT_put] at hT'; have HN := Lib.hid hn; have HF := Lib.hid h; have HP := Lib.hid hp; have HB := Lib.hid hb; have HZ := Lib.hid hc
  have SZX := (show (w.alloc (proofObj p A c)).heap.size = w.heap.size + 1 by simp)
  clear hn h hp hc hl hok hW hT TX; go_enter Tryz.func27, Tryz.ntmps27
  go_upto_region 1 with fail
  change Code.wp _ _ _ _ (w.alloc (proofObj p A c))
  generalize w.alloc (proofObj p A c) = X at HX BP WX hu hT' SZX ⊢
  have hu1 := hu X rfl; unfold encID at hu1; obtain ⟨p0, p1, p2, p3, p4, p5⟩ := proofCells BP
  have hlt : b < X.heap.size := by omega
  obtain ⟨hs, ho, hbw⟩ := map_turned (Y := setBlock X b O) (B := w0.heap.size) hlt rfl HB.out; have T1 := Lib.hid (hT' X hlt); have W1 := Lib.hid (WX.trans hbw)
  have hbn : w.heap.size ≠ b := by omega
  obtain ⟨q0, q1, q2, q3, q4, q5⟩ := proofCells ((ho _ hbn).trans BP); clear hu BP HX WX hT' hbX SZX hs ho hbw hlt hbn hb; go_wp2
  go_loopg [5, 12] (p.f3.length + 1) (fun kq _ v12 w' => ∃ (i : Nat) (li : List ID), v12 = .int .i64 i ∧ Hid (kq = p.f3.length + 1 - i) ∧ Hid (i ≤ p.f3.length) ∧ Hid (Tbl encID okID w' b (idT li)) ∧ Hid (gatherL F (p.f3.drop i) li = some l') ∧ Hid (Below w0.heap.size w0 w'))
  case atStart => exact ⟨0, _, rfl, Lib.hid rfl, Lib.hid (Nat.zero_le _), Lib.hid T1.out, Lib.hid HF.out, Lib.hid W1.out⟩
  case round =>
    clear T1 W1 HF hu1 p0 p1 p2 p3 p4 p5 q0 q1 q2 q3 q4 q5; obtain ⟨i, li, rfl, HK, HI, HT, HR, HW⟩ := hrel
    by_cases hi : i < p.f3.length
    · have f1 : decide ((i : Int) < (p.f3.length : Int)) = true := decide_eq_true (by omega)
      have f2 : decide (i < p.f3.length) = true := decide_eq_true hi; obtain ⟨ad, A5, c5, e, hx0, hx1, hx2, hx3, hx4, hx5, hxl, hxC⟩ := at_T29 HP.out (i : Int) (by omega) (by omega); cases e; have hr := HR.out; rw [List.drop_eq_getElem_cons hi, gatherL] at hr
      have ex : QaF p.f3 (i : Int) = p.f3[i] := by
        unfold QaF; rw [Int.toNat_natCast, List.getD_eq_getElem?_getD, List.getElem?_eq_getElem hi]; rfl
      rw [ex, Int.toNat_natCast] at hx0 hx1 hx2 hx3 hx4 hx5; rw [ex] at hxl hxC
      generalize p.f3[i] = P at hx0 hx1 hx2 hx3 hx4 hx5 hxl hxC hr
      clear ex; obtain ⟨t, ht, hr⟩ := Option.bind_eq_some_iff.mp hr; have z0 := QaJ HW.out hx0; have z1 := QaJ HW.out hx1; have z2 := QaJ HW.out hx2; have z3 := QaJ HW.out hx3; have z4 := QaJ HW.out hx4; have z5 := QaJ HW.out hx5; clear hx0 hx1 hx2 hx3 hx4 hx5; have p101 : (0 ≤ (i : Int)) = True := eq_true (by omega); have q101 : ((i : Int) < (p.f3.length : Int)) = True := eq_true (by omega); have HIL := Lib.hid hi; have HXC := Lib.hid hxC; have HXL := Lib.hid hxl; have HFt := Lib.hid ht; have HRr := Lib.hid hr
      have wrapI : wrap64 ((i : Int) + 1) = ((i + 1 : Nat) : Int) := by unfold wrap64; have := HN.out; omega
      clear hi hxC hxl ht hr HR
      go_upto_region 5 with fail
      change Code.wp _ _ _ _ (wr.alloc (proofObj P A5 c5)); have HV := Qab (Below.refl wr.heap.size wr) (proofObj P A5 c5); have B1 := blk_new wr (proofObj P A5 c5); have TV := HT.out.below HV; have WV := Qak HW.out HV; clear z0 z1 z2 z3 z4 z5
      generalize wr.alloc (proofObj P A5 c5) = V at HV B1 TV WV ⊢
      have HTV := Lib.hid TV; have HWV := Lib.hid WV; obtain ⟨p0, p1, p2, p3, p4, p5⟩ := proofCells B1; clear HV B1 TV WV HT HW
      go_wp2_with (go_at_call 27; refine (HC w0 _ b P A5 c5 li t HXC.out HXL.out (Qak HWV.out (by repeat (first | exact Below.refl _ _ | apply Qaa | apply Qac))) HB.out (HTV.out.below (by repeat (first | exact Below.refl _ _ | apply Qaa | apply Qac))) HFt.out).mono ?_; rintro e w5 ⟨rfl, hT5, hB5⟩; have HT5 := Lib.hid hT5; have HB5 := Lib.hid hB5; clear hT5 hB5)
      go_roundg (p.f3.length + 1 - (i + 1))
      case measure => have := HK.out; have := HIL.out; omega
      case rel => exact ⟨i + 1, t, by first | rfl | exact congrArg _ wrapI, Lib.hid rfl, Lib.hid HIL.out, Lib.hid HT5.out, Lib.hid HRr.out, Lib.hid HB5.out⟩
    · have f1 : decide ((i : Int) < (p.f3.length : Int)) = false := decide_eq_false (by omega)
      have f2 : decide (i < p.f3.length) = false := decide_eq_false hi; have hr := HR.out; rw [List.drop_eq_nil_of_le (by omega)] at hr; obtain rfl := Option.some.inj hr; clear hr HR hi; go_wp2; go_end0; exact ⟨rfl, HT.out, HW.out⟩
theorem gather_calls : ∀ k, Gathers (gatherF k)
  | 0 => fun w0 w b p A c l l' hp hc hW hb hT h => by cases h
  | k + 1 => fun w0 w b p A c l l' hp hc hW hb hT h => by
    rw [gatherF] at h
    split at h
    · rename_i hh
      exact gather_step (gather_calls k) w0 w b p A c l l' hp hc hW hb hT hh.1 hh.2.1 hh.2.2 h
    · cases h
end Go.Proofs.YtmaipohgahdclaaGreatDoor.Pr
end
section
namespace Go.Proofs.YtmaipohgahdclaaGreatDoor
theorem bl_irrefl : ∀ x : List UInt8, Op.bytesLess x x = false
  | [] => rfl
  | a :: x => by
    unfold Op.bytesLess; simp [bl_irrefl x]
theorem bl_trans : ∀ x y z : List UInt8, Op.bytesLess x y = true → Op.bytesLess y z = true → Op.bytesLess x z = true
  | [], [], z => fun h _ => by simp [Op.bytesLess] at h
  | [], b :: y, [] => fun _ h => by simp [Op.bytesLess] at h
  | [], b :: y, c :: z => fun _ _ => by simp [Op.bytesLess]
  | a :: x, [], z => fun h _ => by simp [Op.bytesLess] at h
  | a :: x, b :: y, [] => fun _ h => by simp [Op.bytesLess] at h
  | a :: x, b :: y, c :: z => fun h1 h2 => by
    have ih := bl_trans x y z; simp only [Op.bytesLess] at *; simp only [UInt8.lt_iff_toNat_lt, Bool.or_eq_true, decide_eq_true_eq, Bool.and_eq_true, beq_iff_eq] at *
    rcases h1 with h1 | ⟨rfl, h1⟩
    · rcases h2 with h2 | ⟨rfl, h2⟩
      · exact .inl (Nat.lt_trans h1 h2)
      · exact .inl h1
    · rcases h2 with h2 | ⟨rfl, h2⟩
      · exact .inl h2
      · exact .inr ⟨rfl, ih h1 h2⟩
theorem bl_total : ∀ x y : List UInt8, Op.bytesLess x y = false → Op.bytesLess y x = false → x = y
  | [], [] => fun _ _ => rfl
  | [], b :: y => fun h _ => by simp [Op.bytesLess] at h
  | a :: x, [] => fun _ h => by simp [Op.bytesLess] at h
  | a :: x, b :: y => fun h1 h2 => by
    have ih := bl_total x y; simp only [Op.bytesLess] at *; simp only [UInt8.lt_iff_toNat_lt, Bool.or_eq_false_iff, decide_eq_false_iff_not, Bool.and_eq_false_iff, beq_eq_false_iff_ne] at *; have e : a = b := UInt8.toNat_inj.mp (by omega); subst e; rw [ih (h1.2.resolve_left (fun h => h rfl)) (h2.2.resolve_left (fun h => h rfl))]
def sLess (a b : ByteArray) : Bool := Op.bytesLess a.toList b.toList
theorem sLess_irrefl (a : ByteArray) : sLess a a = false := bl_irrefl _
theorem sLess_trans {a b c : ByteArray} (h : sLess a b = true) (h' : sLess b c = true) : sLess a c = true := bl_trans _ _ _ h h'
theorem sLess_total {a b : ByteArray} (h : sLess a b = false) (h' : sLess b a = false) : a = b := by
  have := bl_total _ _ h h'; exact (Lib.bytes_beq_iff a b).mp (by rw [beq_iff_eq]; exact this)
end Go.Proofs.YtmaipohgahdclaaGreatDoor
end
section
namespace Go.Proofs.YtmaipohgahdclaaGreatDoor.Pr
open Go.RowKit Go.Proofs.YtmaipohgahdclaaGreatDoorW.PrintWords Go.Proofs.YtmaipohgahdclaaGreatDoorW.PrintLast Go.Proofs.YtmaipohgahdclaaGreatDoorW.PrintMore
open Go.ChangeMaps (setBlock)
set_option linter.unusedVariables false
set_option linter.unusedSimpArgs false
attribute [local go_sem high] eqA26
abbrev kID := k26
def idLess (a b : ID) : Bool := decide (a.f0 < b.f0) || (decide (a.f0 = b.f0) && decide (a.f1 < b.f1))
def idCmp (x y : ID) : Int := if idLess x y = true then -1 else if x = y then 0 else 1
theorem idLess_iff (a b : ID) : idLess a b = true ↔ a.f0 < b.f0 ∨ (a.f0 = b.f0 ∧ a.f1 < b.f1) := by
  unfold idLess; rw [Bool.or_eq_true, Bool.and_eq_true, decide_eq_true_eq, decide_eq_true_eq, decide_eq_true_eq]
theorem idLess_irrefl (a : ID) : ¬ idLess a a = true := by rw [idLess_iff]; omega
theorem idLess_trans {a b c : ID} (h1 : idLess a b = true) (h2 : idLess b c = true) : idLess a c = true := by
  rw [idLess_iff] at *; omega
theorem idLess_total {a b : ID} (h1 : ¬ idLess a b = true) (h2 : ¬ idLess b a = true) : a = b := by
  rw [idLess_iff] at *; exact id_ext (by omega) (by omega)
theorem idCmp_lt (x y : ID) : Go.Proofs.ltOf idCmp x y = idLess x y := by
  unfold Go.Proofs.ltOf idCmp
  by_cases h2 : idLess x y = true
  · rw [if_pos h2, h2]
    rfl
  · rw [if_neg h2]
    by_cases h : x = y
    · rw [if_pos h]
      simp_all
    · rw [if_neg h]
      simp_all
theorem idSWO : Go.Sort.SWO (Go.Proofs.ltOf idCmp) where
  irrefl x := by rw [idCmp_lt]; have := idLess_irrefl x; simp_all
  trans x y z h1 h2 := by rw [idCmp_lt] at *; exact idLess_trans h1 h2
  ntrans x y z h1 h2 := by
    rw [idCmp_lt] at *; rw [Bool.eq_false_iff] at *; intro h3
    by_cases h4 : idLess y x = true
    · exact h2 (idLess_trans h4 h3)
    · rw [idLess_total h1 h4] at h3
      exact h2 h3
def sortIDs (l : List ID) : List ID := l.mergeSort fun x y => !(Go.Proofs.ltOf idCmp) y x
def encIDL (p : ID) : List Value := [.int .i64 p.f0, .int .i64 p.f1]
instance : Inhabited ID := ⟨⟨0, 0⟩⟩
theorem flatID : Flat kID encIDL where
  opens h := k26_openM h
  shuts w base ok x := k26_mkM w base ok x
  len _ := rfl
theorem isAggID (w : World) : (isAgg 26).run Tryz.prog w = .ok true w := by kernel_rfl
theorem sizeOfID (w : World) : (Go.sizeOf 26).run Tryz.prog w = .ok 2 w := by kernel_rfl
theorem infoID : (Tryz.prog.info? 26).map (fun i => (i.zero, i.size, i.bytes)) = some (some (.agg #[.int .i64 0, .int .i64 0]), 2, 16) := by kernel_rfl
abbrev idObj (p : ID) : Obj := .cells #[.int .i64 p.f0, .int .i64 p.f1] 26
theorem idCells {W : World} {k : Nat} {p : ID} (h : W.heap[k]? = some (idObj p)) : W.cell? ⟨k, 0, none⟩ = some (.int .i64 p.f0) ∧ W.cell? ⟨k, 1, none⟩ = some (.int .i64 p.f1) :=
  ⟨(Qaj h 0).trans rfl, (Qaj h 1).trans rfl⟩
set_option maxHeartbeats 1000000 in
theorem before_calls (a b : ID) (W : World) : Calls Tryz.prog 30 #[encID a, encID b] W fun e w' => e = .returned (.bool (idLess a b)) ∧ ∃ q os', w' = Sort.grow (W.drewN q) os' := by
  unfold idLess encID
  generalize h1 : decide (a.f0 < b.f0) = b1
  generalize h2 : decide (a.f0 = b.f0) = b2
  have h2' : (a.f0 == b.f0) = b2 := by rw [← h2]; rfl
  generalize h3 : decide (a.f1 < b.f1) = b3
  clear h2
  cases b1 <;> cases b2 <;> cases b3 <;> (
    go_enter Tryz.func30, Tryz.ntmps30; go_wp2; go_ret
    exact ⟨rfl, 0, _, by rw [Sort.alloc_eq_grow, Sort.alloc_eq_grow, Sort.grow_grow]; rfl⟩)
theorem boxedID_grow {W w3 : World} {x y : ID} {q : Nat} {os : Array Obj} (h : w3 = Sort.grow (((W.alloc (idObj x)).alloc (idObj y)).drewN q) os) : w3.heap[W.heap.size]? = some (idObj x) ∧ w3.heap[W.heap.size + 1]? = some (idObj y) ∧ ∃ q os', w3 = Sort.grow (W.drewN q) os' := by
  have hs : ((W.alloc (idObj x)).alloc (idObj y)).heap.size = W.heap.size + 2 := by simp
  have hb : ∀ k, k < W.heap.size + 2 → w3.heap[k]? = ((W.alloc (idObj x)).alloc (idObj y)).heap[k]? := fun k hk => by
    rw [h]
    show (((W.alloc (idObj x)).alloc (idObj y)).heap ++ os)[k]? = _
    rw [Array.getElem?_append_left (by rw [hs]; exact hk)]
  refine ⟨(hb _ (by omega)).trans (Qaf (blk_new W _) _), (hb _ (by omega)).trans ?_, q, #[idObj x] ++ #[idObj y] ++ os, ?_⟩
  · have := blk_new (W.alloc (idObj x)) (idObj y)
    simpa using this
  · rw [h, Sort.alloc_eq_grow, Sort.alloc_eq_grow, Sort.grow_grow]
    exact Sort.grow_grow (W.drewN q) _ os
theorem eqID_tt {a b : ID} (h : a = b) : ((a.f0 == b.f0) && (a.f1 == b.f1)) = true := by subst h; simp
theorem eqID_ff {a b : ID} (h : ¬ a = b) : ((a.f0 == b.f0) && (a.f1 == b.f1)) = false := by
  rw [Bool.eq_false_iff]; intro e; rw [Bool.and_eq_true, beq_iff_eq, beq_iff_eq] at e; exact h (id_ext e.1 e.2)
set_option maxHeartbeats 2000000 in
theorem support1_calls (x y : ID) (W : World) : Calls Tryz.prog 29 #[encID x, encID y] W fun e w' => e = .returned (.int .i64 (idCmp x y)) ∧ ∃ q os', w' = Sort.grow (W.drewN q) os' := by
  have HL := fun W' => before_calls x y W'
  unfold idCmp
  obtain ⟨b2, hr, hr'⟩ : ∃ b2 : Bool, ((x.f0 == y.f0) && (x.f1 == y.f1)) = b2 ∧ (x = y ↔ b2 = true) := by
    by_cases hr : x = y
    · exact ⟨true, eqID_tt hr, by simp [hr]⟩
    · exact ⟨false, eqID_ff hr, by simp [hr]⟩
  simp only [hr']; clear hr'; unfold encID at HL ⊢
  generalize idLess x y = b1 at HL ⊢
  cases b1 <;> cases b2 <;> (
    go_enter Tryz.func29, Tryz.ntmps29
    go_upto_region 1 with fail
    change Code.wp _ _ _ _ ((W.alloc (idObj x)).alloc (idObj y))
    go_wp2_with (go_at_call 30; refine (HL _).mono ?_; rintro e w3 ⟨rfl, q, os, hw3⟩; obtain ⟨BX, BY, hos⟩ := boxedID_grow hw3; clear hw3; obtain ⟨x0, x1⟩ := idCells BX; obtain ⟨y0, y1⟩ := idCells BY; clear BX BY)
    go_ret
    exact ⟨rfl, hos⟩)
theorem sortID_calls (w : World) (B : Nat) (v : Value) (l : List ID) (hR : Kd.R kID 26 w B (fun _ => True) v l) (hB : B ≤ w.heap.size) (hl : l.length < 4611686018427387904) : Calls Tryz.prog 28 #[v, .func (.func 29) #[] #[]] w fun e w' =>
    e = .returned (.tuple #[]) ∧ Kd.R kID 26 w' B (fun _ => True) v (sortIDs l) ∧ Below B w w' := by
  obtain ⟨A, c, rfl⟩ := Kd.R_slice hR
  cases A with
  | none =>
    have hl : l = [] := by
      obtain ⟨_, inner, ⟨_, ho⟩, hr⟩ := hR
      rcases ho with ⟨_, h0⟩ | ⟨g', cap', cur, hv, _⟩
      · exact List.eq_nil_of_length_eq_zero h0
      · cases hv
    subst hl; refine (AnyF.slices_SortFunc_none Tryz.sortID none c (.func (.func 29) #[] #[]) w).mono ?_; rintro e w' ⟨rfl, rfl⟩; exact ⟨rfl, by simpa [sortIDs] using hR, Below.refl _ _⟩
  | some a =>
    obtain ⟨g, off, fr⟩ := a
    have hfr : fr = none := by
      obtain ⟨_, inner, ⟨_, ho⟩, hr⟩ := hR
      rcases ho with ⟨h0, _⟩ | ⟨g', cap', cur, hv, _⟩
      · cases h0
      · simp only [Value.slice.injEq, Option.some.injEq, Addr.mk.injEq] at hv
        exact hv.1.2.2
    subst hfr; obtain ⟨rfl, _, hg, hH, hlt, hmax⟩ := holds_of_R flatID hR; have eg : ∀ args w, (callFunc 29 args).run Tryz.prog w = .ok (.enter 29 args) w := enters_of Tryz.func29 (by kernel_rfl) rfl
    have hc : CmpLays Tryz.prog 29 #[] encIDL 2 idCmp g 0 l.toArray.size w := fun _ _ _ _ x y => support1_calls x y _
    have hT : ∀ x y, (ltOf idCmp) x y = false → (ltOf idCmp) y x = false → x = y := fun x y h1 h2 => by
      rw [idCmp_lt] at *; exact idLess_total (by simp_all) (by simp_all)
    have hsz : l.toArray.size < 4611686018427387904 := by simpa using hl
    refine (AnyQ.slices_SortFunc_total Tryz.sortID 2 isAggID sizeOfID encIDL (fun _ => rfl) (fun x v hv => by simp [encIDL] at hv; rcases hv with rfl | rfl <;> rfl) idCmp idSWO 29 #[] g 0 c l.toArray w eg hc hH hlt hsz hT).mono ?_; rintro e w' ⟨rfl, n, os, rfl⟩; exact ⟨rfl, R_of_sorted flatID hR n (sortIDs l) os (List.length_mergeSort _), sorted_below encIDL w g 2 n (sortIDs l) os hB hg⟩
theorem rngI_cells {w : World} {b r : Nat} {l left : List (ID × Value)} (h : Rng encID okID w b r l left) : (∀ c t, w.heap[r]? ≠ some (.cells c t (0, 0))) ∧ (∀ c t, w.heap[b]? ≠ some (.cells c t (0, 0))) := by
  obtain ⟨es, clock, since, seen, c0, hb, hl, ho, hs, hm, hr, _⟩ := h; exact ⟨fun c t e => by (rw [hr] at e; cases e), fun c t e => by (rw [hb] at e; cases e)⟩
theorem R_keepI {α : Type} {d : Kd α} {e : Nat} {w w1 : World} {base : Nat} {ok : Nat → Prop} {v : Value} {xs : List α} (h : Kd.R d e w base ok v xs) {row : Nat} (hg : w.grownBy w1 (some row)) (hrow : ∀ c t, w.heap[row]? ≠ some (.cells c t (0, 0))) : Kd.R d e w1 base ok v xs := by
  refine Kd.R_mono (Kd.R_move (Kd.R_bound h) (fun k hk => ?_)) (fun _ hk => hk.1); obtain ⟨_, _, hlt, q, _, cells, hc⟩ := hk; refine hg.block k hlt (fun e => ?_)
  injection e with e
  subst e; exact hrow _ _ hc
theorem idT_split {left : List ID} {a c : List (ID × Value)} {x : ID × Value} (h : idT left = a ++ x :: c) : ∃ l1 p l2, left = l1 ++ p :: l2 ∧ a = idT l1 ∧ c = idT l2 ∧ x = (p, .bool true) := by
  unfold idT at *; obtain ⟨l1, l2', rfl, h1, h2⟩ := List.map_eq_append_iff.mp h; obtain ⟨p, l2, rfl, h3, h4⟩ := List.map_eq_cons_iff.mp h2; exact ⟨l1, p, l2, rfl, h1.symm, h4.symm, h3.symm⟩
theorem sortIDs_sorted (x : List ID) : (sortIDs x).Pairwise (fun a b => (!(ltOf idCmp) b a) = true) := by
  unfold sortIDs; refine List.pairwise_mergeSort (le := fun x y => !(ltOf idCmp) y x) ?_ ?_ x
  · intro a b c h1 h2
    simp only [Bool.not_eq_true'] at *; exact idSWO.ntrans _ _ _ h2 h1
  · intro a b
    rw [idCmp_lt, idCmp_lt]
    by_cases h1 : idLess b a = true
    · have : ¬ idLess a b = true := fun h2 => idLess_irrefl _ (idLess_trans h1 h2)
      simp_all
    · simp_all
theorem sortIDs_perm {l l' : List ID} (h : l.Perm l') : sortIDs l = sortIDs l' := by
  refine List.Perm.eq_of_pairwise (le := fun a b => (!(ltOf idCmp) b a) = true) ?_ (sortIDs_sorted l) (sortIDs_sorted l') (((List.mergeSort_perm l _).trans h).trans (List.mergeSort_perm l' _).symm); intro a b _ _ h1 h2; simp only [idCmp_lt] at h1 h2; exact idLess_total (by simp_all) (by simp_all)
set_option maxRecDepth 100000 in
set_option maxHeartbeats 4000000 in
theorem support_walk (w : World) (p : Proof) (A : Option Addr) (c : Nat) (k : Nat) (ids : List ID) (hR : Kd.C kProof w A p.f3.length p.f3) (hc : p.f3.length ≤ c) (h : gatherF k p [] = some ids) (hroom : ids.length ≤ 1000000) :
    Calls Tryz.prog 13 #[encProof p A c] w fun e w' => ∃ v, e = .returned v ∧ Kd.R kID 26 w' w.heap.size (fun _ => True) v (sortIDs ids) ∧ Below w.heap.size w w' := by
  have hmk := fun W => run_makeMap (P := Tryz.prog) 61 W
  go_enter Tryz.func13, Tryz.ntmps13
  go_upto_region 2 with fail
  change Code.wp _ _ _ _ ((w.alloc (proofObj p A c)).alloc (.map #[] 0)); have BP := Qaf (blk_new w (proofObj p A c)) (.map #[] 0); have HW := Qab (Qab (Below.refl w.heap.size w) (proofObj p A c)) (.map #[] 0)
  have HT : Tbl encID okID ((w.alloc (proofObj p A c)).alloc (.map #[] 0)) (w.heap.size + 1) (idT []) := by
    have h1 := Tbl.made encID okID (w.alloc (proofObj p A c))
    have e1 : (w.alloc (proofObj p A c)).heap.size = w.heap.size + 1 := by simp
    rw [e1] at h1; exact h1
  clear hmk; have HB := Lib.hid (show w.heap.size ≤ w.heap.size + 1 by omega)
  generalize hb : w.heap.size + 1 = b at HT HB ⊢
  clear hb
  generalize (w.alloc (proofObj p A c)).alloc (.map #[] 0) = V at BP HW HT ⊢
  obtain ⟨p0, p1, p2, p3, p4, p5⟩ := proofCells BP; have HP := Lib.hid hR; have HZ := Lib.hid hc; have HF := Lib.hid h; have HM := Lib.hid hroom; have HV := Lib.hid HW; have HTV := Lib.hid HT; clear hR hc h hroom HW HT BP
  go_upto_region 3 with (go_at_call 27; refine (gather_calls k w _ b p A c [] ids HP.out HZ.out (Qak HV.out (by repeat (first | exact Below.refl _ _ | apply Qaa | apply Qac))) HB.out (HTV.out.below (by repeat (first | exact Below.refl _ _ | apply Qaa | apply Qac))) HF.out).mono ?_; rintro e w3 ⟨rfl, hT3, hB3⟩)
  obtain ⟨O, hrun, hrng⟩ := hT3.range (P := Tryz.prog) Tryz.underlying61; have hrun1 := hrun w3 rfl; have HR0 := Lib.hid (hrng w3 rfl); have HB3 := Lib.hid (Qak hB3 (Qab (Below.refl _ _) O)); have HWL := Lib.hid (show w.heap.size ≤ w3.heap.size from hB3.size); clear hrun hrng hT3 hB3 HTV HV p0 p1 p2 p3 p4 p5; go_wp2
  go_loopg [4, 5] (ids.length + 1) (fun kq v4 _ w' => ∃ dn left : List ID, Hid (kq = left.length + 1) ∧ Hid (Kd.R kID 26 w' w.heap.size (fun _ => True) v4 dn) ∧ Hid (Rng encID okID w' b w3.heap.size (idT ids) (idT left)) ∧ Hid ((dn ++ left).Perm ids) ∧ Hid (Below w.heap.size w w'))
  case atStart => exact ⟨[], ids, Lib.hid rfl, Lib.hid (Kd.R_nil _ _ _ _ _), Lib.hid HR0.out, Lib.hid (List.Perm.refl _), Lib.hid HB3.out⟩
  case round =>
    clear hrun1 HR0 HB3; obtain ⟨dn, left, HK, HO, HRng, HPm, HB3⟩ := hrel
    rcases HRng.out.next (P := Tryz.prog) 0 with ⟨hl, hnx⟩ | ⟨a, x, c', w1, hsp, hok, hnx, hrng1, hgr, hsz, hent⟩
    · have hl' : left = [] := by simpa [idT] using hl
      have HE := Lib.hid hl'; clear hl hl'
      go_wp2_with (go_at_call 28; refine (sortID_calls _ w.heap.size _ dn HO.out HB3.out.size (by have := HPm.out.length_eq; have := HM.out; simp at *; omega)).mono ?_; rintro e w5 ⟨rfl, hR5, hB5⟩)
      go_ret; have hp := HPm.out; rw [HE.out, List.append_nil] at hp; rw [sortIDs_perm hp] at hR5; exact ⟨_, rfl, hR5, HB3.out.trans hB5⟩
    · obtain ⟨l1, q, l2, e0, rfl, rfl, rfl⟩ := idT_split hsp
      have HE := Lib.hid e0; have HC := rngI_cells HRng.out; have R1 := Lib.hid (R_keepI HO.out hgr HC.1); have hwl := HWL.out; have B1 := Lib.hid (HB3.out.grown hgr HB3.out.size (fun k hk => by injection hk with hk; omega)); have N1 := Lib.hid hrng1; have hent1 := hent w1 rfl rfl; have LM := Lib.hid (show dn.length < 1000001 by have := HPm.out.length_eq; have := HM.out; simp at *; omega); unfold encID at hnx hent1; clear hsp e0 hok hrng1 hgr hsz hent HC HO HRng HB3 hwl
      go_wp2_with ((with_reducible refine gate_builtin (b := .append) (xs := #[.tmp 16, .tmp 18]) rfl ?_); at_builtin; refine Kd.R_append kID (w0 := w) w.heap.size rfl (.tmp 16) (.tmp 18) 43 26 (.agg #[.int .i64 0, .int .i64 0]) 16 rfl Tryz.underlying43 infoID rfl (by decide) (by omega) _ dn q [.int .i64 q.f0, .int .i64 q.f1] (fun _ => True) (fun _ => False) rfl ?aX ?aP (fun _ hk => hk.elim) (fun _ _ => trivial) ?aO ?aB ?aS ?aL ?_; (case aX => (show Value.slice (some ⟨w1.heap.size + 1, 0, none⟩) 1 1 = _; simp)); (case aP => exact k26_mkM _ _ _ q); (case aB => exact (Qab B1.out _)); (case aO => exact (Kd.Qaw R1.out _)); (case aS => exact (Qas (Qab B1.out _))); (case aL => have := LM.out; omega); intro v2 w2 ho hb hg hat)
      have hne := rngI_cells N1.out
      have hrow : ∀ i, (∀ c t, w1.heap[i]? ≠ some (.cells c t (0, 0))) → some i ≠ u4.ownBlock := fun i hi e => by
        obtain ⟨cells, hc⟩ := Kd.R_typed R1.out i e.symm; exact hi _ _ hc
      have hnew := (N1.out.below (Qab (Below.refl w1.heap.size w1) _)).grown hg (hrow b hne.2) (hrow _ hne.1); have HG := Lib.hid hnew; clear hnew hnx hent1
      go_roundg ((l1 ++ l2).length + 1)
      case measure =>
        have e1 := HK.out; rw [HE.out] at e1; simp at e1 ⊢; omega
      case rel =>
        refine ⟨dn ++ [q], l1 ++ l2, Lib.hid rfl, Lib.hid ho, Lib.hid ?_, Lib.hid ?_, Lib.hid hb⟩
        · have := HG.out
          rw [show idT (l1 ++ l2) = idT l1 ++ idT l2 from List.map_append]; exact this
        · have hp := HPm.out
          rw [HE.out] at hp; refine List.Perm.trans ?_ hp; rw [List.append_assoc]; exact List.Perm.append_left dn (show (q :: (l1 ++ l2)).Perm (l1 ++ q :: l2) from List.perm_middle.symm)
end Go.Proofs.YtmaipohgahdclaaGreatDoor.Pr
end
section
namespace Go.Proofs.YtmaipohgahdclaaGreatDoor.Pr
open Go.RowKit Go.Proofs.YtmaipohgahdclaaGreatDoorW.PrintWords Go.Proofs.YtmaipohgahdclaaGreatDoorW.PrintLast Go.Proofs.YtmaipohgahdclaaGreatDoorW.PrintMore
attribute [local go_sem] QaU QaS max_two min_two QaM QaL QaT QaR
set_option linter.unusedVariables false
set_option linter.unusedSimpArgs false
def proof_Support.f (a0_0 : ByteArray) (a0_1 : ByteArray) (a0_2 : ByteArray) (a0_3 : Int) (a0_4 : Int) (l0_5 : List (S29)) : Option (List (S26)) := (gatherF 200 ⟨⟨a0_0, a0_1⟩, a0_2, ⟨a0_3, a0_4⟩, l0_5⟩ []).bind fun ids => if ids.length ≤ 1000000 then some (sortIDs ids) else none
theorem proof_Support.calls (a0_0 : ByteArray) (a0_1 : ByteArray) (a0_2 : ByteArray) (a0_3 : Int) (a0_4 : Int) (A0_5 : Option Addr) (c0_5 : Nat) (l0_5 : List (S29)) (r : List (S26)) (w : World) (hr0_5 : Kd.C k29 w A0_5 l0_5.length l0_5) (hc0_5 : l0_5.length ≤ c0_5) (h : proof_Support.f a0_0 a0_1 a0_2 a0_3 a0_4 l0_5 = some r) :
    Calls Tryz.prog 13 #[.agg #[.string a0_0, .string a0_1, .string a0_2, .int .i64 a0_3, .int .i64 a0_4, .slice A0_5 l0_5.length c0_5]] w fun e w' => ∃ v0_ : Value, e = .returned (v0_) ∧ Kd.R k26 26 w' w.heap.size (fun _ => True) v0_ r ∧ Below w.heap.size w w' := by
  unfold proof_Support.f at h; obtain ⟨ids, hi, h⟩ := Option.bind_eq_some_iff.mp h
  by_cases hl : ids.length ≤ 1000000
  · rw [if_pos hl] at h
    obtain rfl := Option.some.inj h; exact support_walk w ⟨⟨a0_0, a0_1⟩, a0_2, ⟨a0_3, a0_4⟩, l0_5⟩ A0_5 c0_5 200 ids hr0_5 hc0_5 hi hl
  · rw [if_neg hl] at h
    cases h
mutual
def proof_Size.l0 : Nat → Int → List (S29) → Int → Int → Option (Int)
 | 0, _, _, _, _ => none
 | k + 1, x3, x7, x8, x9 => if x9 < x8 then (if 0 ≤ x9 then (if x9 < (x7.length : Int) then ((proof_Size.f k ((QaF x7 x9).f0.f0) ((QaF x7 x9).f0.f1) ((QaF x7 x9).f1) ((QaF x7 x9).f2.f0) ((QaF x7 x9).f2.f1) ((QaF x7 x9).f3)).bind fun t104 => (proof_Size.l0 k (wrap64 (x3 + t104)) x7 x8 (wrap64 (x9 + 1)))) else (none)) else (none)) else (some x3)
def proof_Size.f : Nat → ByteArray → ByteArray → ByteArray → Int → Int → List (S29) → Option (Int)
 | 0, _, _, _, _, _, _ => none
 | k + 1, a0_0, a0_1, a0_2, a0_3, a0_4, l0_5 => proof_Size.l0 k 1 l0_5 (l0_5.length : Int) 0
end
set_option maxHeartbeats 8000000 in
set_option maxRecDepth 100000 in
theorem proof_Size.calls (k : Nat) : ∀ (a0_0 : ByteArray) (a0_1 : ByteArray) (a0_2 : ByteArray) (a0_3 : Int) (a0_4 : Int) (A0_5 : Option Addr) (c0_5 : Nat) (l0_5 : List (S29)) (r : Int) (w : World) (hr0_5 : Kd.C k29 w A0_5 l0_5.length l0_5) (hc0_5 : l0_5.length ≤ c0_5) (h : proof_Size.f k a0_0 a0_1 a0_2 a0_3 a0_4 l0_5 = some r),
  Calls Tryz.prog 14 #[.agg #[.string a0_0, .string a0_1, .string a0_2, .int .i64 a0_3, .int .i64 a0_4, .slice A0_5 l0_5.length c0_5]] w fun e w' => e = .returned (.int .i64 r) ∧ Below w.heap.size w w' := by
 induction k using Nat.strongRecOn with
 | _ k ih =>
 intro a0_0 a0_1 a0_2 a0_3 a0_4 A0_5 c0_5 l0_5 r w hr0_5 hc0_5 h
 cases k with
 | zero => exact absurd h (by simp [proof_Size.f])
 | succ k =>
 simp only [proof_Size.f] at h; have hu29 := Tryz.underlying29; have HR0_5 := Qad.mk hr0_5; have HC0_5 := Qad.mk hc0_5; clear hr0_5 hc0_5; have HB := Qad.mk (Below.refl w.heap.size w); have H : (proof_Size.l0 k 1 l0_5 (l0_5.length : Int) 0) = some r := h; clear h; have H' := Qad.mk H; clear H; go_enter Tryz.func14, Tryz.ntmps14
 go_wp2_with (first | ((with_reducible refine QaN (N := 1) rfl ?_); refine QaK ?hg (N := 1) ?hd (cs := #[.string a0_0, .string a0_1, .string a0_2, .int .i64 a0_3, .int .i64 a0_4, .slice A0_5 l0_5.length c0_5]) (t := 29) ?hr ?_; (case hd => rfl); (case hg => rfl); (case hr => first | (go_simp; done) | (go_simp; rfl)); intro gb101 hg w2 hbox hb; have n0_ := Qad.mk (Qak (by repeat (first | (with_reducible first | exact HB.out | apply Qab | apply Qaa | apply Qac) | exact HB.out)) hb); have n1_ := Qad.mk (hbox); have n2_ := Qad.mk ((by rw [hg]; exact (Qas (by repeat (first | (with_reducible first | exact HB.out | apply Qab | apply Qaa | apply Qac) | exact HB.out))) : w.heap.size ≤ gb101)); have n3_ := n2_; clear HB; have HB := n0_; have BK101 := n1_; have GW101 := n2_; have GE101 := n3_; clear n0_ n1_ n2_ n3_; clear hb hbox hg; obtain ⟨hcz3_0, hcz3_1, hcz3_2, hcz3_3, hcz3_4, hcz3_5⟩ := cz_sssiiv BK101.out; obtain ⟨hfz3_0, hfz3_1, hfz3_2, hfz3_3, hfz3_4, hfz3_5⟩ := fz_6 BK101.out))
 go_loopg [3, 9] k (fun kq v3 v9 w' => ∃ (x3_1 : Int) (x9_1 : Int), v3 = .int .i64 x3_1 ∧ v9 = .int .i64 x9_1 ∧ Qad (proof_Size.l0 kq x3_1 l0_5 (l0_5.length : Int) x9_1 = some r) ∧ Qad (kq ≤ k) ∧ Qad (w'.heap[gb101]? = some (.cells #[.string a0_0, .string a0_1, .string a0_2, .int .i64 a0_3, .int .i64 a0_4, (.slice A0_5 l0_5.length c0_5)] 29 (0, 0))) ∧ Qad (Below w.heap.size w w'))
 case atStart => exact ⟨(1), (0), (by first | rfl | (simp; done) | (simp [*]; done)), (by first | rfl | (simp; done) | (simp [*]; done)), H', ⟨Nat.le_refl _⟩, ⟨by (with_reducible repeat (first | refine Qag ?_ _ | refine Qah ?_ | refine Qaf ?_ _)); exact BK101.out⟩, ⟨by repeat (first | (with_reducible first | exact HB.out | apply Qab | apply Qaa | apply Qac | refine Qai ?_ GE101.out) | exact HB.out)⟩⟩
 case round =>
  clear H'; (try clear c1); (try clear p2); (try clear hcz3_0); (try clear hcz3_1); (try clear hcz3_2); (try clear hcz3_3); (try clear hcz3_4); (try clear hcz3_5); (try clear hfz3_0); (try clear hfz3_1); (try clear hfz3_2); (try clear hfz3_3); (try clear hfz3_4); (try clear hfz3_5); obtain ⟨x3_1, x9_1, rfl, rfl, HA, HK1, BK101, HB⟩ := hrel
  cases gk with
  | zero => exact absurd HA.out (by simp [proof_Size.l0])
  | succ k1 =>
   have H := HA.out; clear HA; simp only [proof_Size.l0] at H
   by_cases c4 : x9_1 < (l0_5.length : Int)
   ·rw [if_pos c4] at H; have c4b0 : decide (x9_1 < (l0_5.length : Int)) = true := decide_eq_true c4; clear c4
    by_cases c5 : 0 ≤ x9_1
    ·rw [if_pos c5] at H; have c5b0 : decide (0 ≤ x9_1) = true := decide_eq_true c5; clear c5
     by_cases c6 : x9_1 < (l0_5.length : Int)
     ·rw [if_pos c6] at H; have c6b0 : decide (x9_1 < (l0_5.length : Int)) = true := decide_eq_true c6; clear c6; replace H := Option.bind_eq_some_iff.mp H; obtain ⟨t104, A70, H⟩ := H; replace H : (proof_Size.l0 k1 (wrap64 (x3_1 + t104)) l0_5 (l0_5.length : Int) (wrap64 (x9_1 + 1))) = some r := H; have A7 := Qad.mk A70; clear A70; have H' := Qad.mk H; clear H; have p102 : 0 ≤ (x9_1 : Int) := of_decide_eq_true (by first | (with_reducible assumption) | assumption); have q102 : x9_1 < (l0_5.length : Int) := of_decide_eq_true (by first | (with_reducible assumption) | assumption); obtain ⟨ad102, A102_5, c102_5, e102, hx102_0, hx102_1, hx102_2, hx102_3, hx102_4, hx102_5, hl102_5, hi102_5⟩ := at_T29 HR0_5.out x9_1 p102 q102; cases e102; replace hx102_0 := (HB.out.cell (World.block_lt_of_cell? w _ hx102_0)).trans hx102_0; replace hx102_1 := (HB.out.cell (World.block_lt_of_cell? w _ hx102_1)).trans hx102_1; replace hx102_2 := (HB.out.cell (World.block_lt_of_cell? w _ hx102_2)).trans hx102_2; replace hx102_3 := (HB.out.cell (World.block_lt_of_cell? w _ hx102_3)).trans hx102_3; replace hx102_4 := (HB.out.cell (World.block_lt_of_cell? w _ hx102_4)).trans hx102_4; replace hx102_5 := (HB.out.cell (World.block_lt_of_cell? w _ hx102_5)).trans hx102_5; have HR102_5 := Qad.mk hi102_5; have HC102_5 := Qad.mk hl102_5; clear hi102_5 hl102_5; replace p102 := eq_true p102; replace q102 := eq_true q102
      go_wp2_with (first | ((with_reducible refine QaN (N := 5) rfl ?_); refine QaK ?hg (N := 5) ?hd (cs := #[.string (⟨#[]⟩ : ByteArray), .string (⟨#[]⟩ : ByteArray), .string (⟨#[]⟩ : ByteArray), .int .i64 0, .int .i64 0, .slice none 0 0]) (t := 29) ?hr ?_; (case hd => rfl); (case hg => rfl); (case hr => first | (go_simp; done) | (go_simp; rfl)); intro gb103 hg w8 hbox hb; have n0_ := Qad.mk (Qal (g := gb101) (o := ob_sssiiv a0_0 a0_1 a0_2 a0_3 a0_4 (.slice (some ad102) l0_5.length c0_5) 29) (by (with_reducible repeat (first | refine Qag ?_ _ | refine Qah ?_ | refine Qaf ?_ _)); exact BK101.out) hb); have n1_ := Qad.mk (Qak (by repeat (first | (with_reducible first | exact HB.out | apply Qab | apply Qaa | apply Qac | refine Qai ?_ GE101.out) | exact HB.out)) hb); have n2_ := Qad.mk (hbox); have n3_ := Qad.mk ((by rw [hg]; exact (Qas (by repeat (first | (with_reducible first | exact HB.out | apply Qab | apply Qaa | apply Qac | refine Qai ?_ GE101.out) | exact HB.out))) : w.heap.size ≤ gb103)); have n4_ := n3_; have n5_ := Qad.mk ((by rw [hg]; exact Nat.ne_of_lt (blk_lt (g := gb101) (o := ob_sssiiv a0_0 a0_1 a0_2 a0_3 a0_4 (.slice (some ad102) l0_5.length c0_5) 29) (by (with_reducible repeat (first | refine Qag ?_ _ | refine Qah ?_ | refine Qaf ?_ _)); exact BK101.out)) : gb101 ≠ gb103)); have n6_ := Qad.mk ((by rw [hg]; exact Nat.ne_of_gt (blk_lt (g := gb101) (o := ob_sssiiv a0_0 a0_1 a0_2 a0_3 a0_4 (.slice (some ad102) l0_5.length c0_5) 29) (by (with_reducible repeat (first | refine Qag ?_ _ | refine Qah ?_ | refine Qaf ?_ _)); exact BK101.out)) : gb103 ≠ gb101)); clear BK101; clear HB; have BK101 := n0_; have HB := n1_; have BK103 := n2_; have GW103 := n3_; have GE103 := n4_; have NB101_103 := n5_; have NB103_101 := n6_; clear n0_ n1_ n2_ n3_ n4_ n5_ n6_; clear hb hbox hg; have hnb9 := NB103_101.out; have hnc9 := NB101_103.out; obtain ⟨hcz10_0, hcz10_1, hcz10_2, hcz10_3, hcz10_4, hcz10_5⟩ := cz_sssiiv BK103.out; obtain ⟨hfz10_0, hfz10_1, hfz10_2, hfz10_3, hfz10_4, hfz10_5⟩ := fz_6 BK103.out) | ((with_reducible refine QaO (f := 14) rfl ?_); refine goesL_ (some 15) rfl rfl Tryz.func14 (by kernel_rfl) rfl #[.agg #[.string ((QaF l0_5 x9_1).f0.f0), .string ((QaF l0_5 x9_1).f0.f1), .string ((QaF l0_5 x9_1).f1), .int .i64 ((QaF l0_5 x9_1).f2.f0), .int .i64 ((QaF l0_5 x9_1).f2.f1), .slice A102_5 ((QaF l0_5 x9_1).f3).length c102_5]] rfl (by (try simp only [List.map_toArray, List.map_cons, List.map_nil]); first | done | rfl | (simp only [List.length_drop, List.length_take]; rfl)) ?_; (with_reducible refine (ih k1 (by have := HK1.out; omega) ((QaF l0_5 x9_1).f0.f0) ((QaF l0_5 x9_1).f0.f1) ((QaF l0_5 x9_1).f1) ((QaF l0_5 x9_1).f2.f0) ((QaF l0_5 x9_1).f2.f1) _ _ ((QaF l0_5 x9_1).f3) t104 _ ?side1 ?side2 A7.out).mono ?_); (case side1 => exact Kd.C_below HR102_5.out (by repeat (first | (with_reducible first | exact HB.out | apply Qab | apply Qaa | apply Qac | refine Qai ?_ GE101.out | refine Qai ?_ GE103.out) | exact HB.out))); (case side2 => exact HC102_5.out); rintro e w11 ⟨rfl, hb⟩; refine ⟨_, rfl, ?_⟩; have n0_ := Qad.mk (Qal (g := gb101) (o := ob_sssiiv a0_0 a0_1 a0_2 a0_3 a0_4 (.slice (some ad102) l0_5.length c0_5) 29) (by (with_reducible repeat (first | refine Qag ?_ _ | refine Qah ?_ | refine Qaf ?_ _)); refine blk_far ?_ NB101_103.out _; (with_reducible repeat (first | refine Qag ?_ _ | refine Qah ?_ | refine Qaf ?_ _)); refine blk_far ?_ NB101_103.out _; (with_reducible repeat (first | refine Qag ?_ _ | refine Qah ?_ | refine Qaf ?_ _)); refine blk_far ?_ NB101_103.out _; (with_reducible repeat (first | refine Qag ?_ _ | refine Qah ?_ | refine Qaf ?_ _)); refine blk_far ?_ NB101_103.out _; (with_reducible repeat (first | refine Qag ?_ _ | refine Qah ?_ | refine Qaf ?_ _)); refine blk_far ?_ NB101_103.out _; (with_reducible repeat (first | refine Qag ?_ _ | refine Qah ?_ | refine Qaf ?_ _)); refine blk_far ?_ NB101_103.out _; (with_reducible repeat (first | refine Qag ?_ _ | refine Qah ?_ | refine Qaf ?_ _)); exact BK101.out) hb); have n1_ := Qad.mk (Qal (g := gb103) (o := ob_sssiiv ((QaF l0_5 x9_1).f0.f0) ((QaF l0_5 x9_1).f0.f1) ((QaF l0_5 x9_1).f1) ((QaF l0_5 x9_1).f2.f0) ((QaF l0_5 x9_1).f2.f1) (.slice A102_5 ((QaF l0_5 x9_1).f3).length c102_5) 29) (by (with_reducible repeat (first | refine Qag ?_ _ | refine Qah ?_ | refine Qaf ?_ _)); refine blk_put (cs := #[.string ((QaF l0_5 x9_1).f0.f0), .string ((QaF l0_5 x9_1).f0.f1), .string ((QaF l0_5 x9_1).f1), .int .i64 ((QaF l0_5 x9_1).f2.f0), .int .i64 ((QaF l0_5 x9_1).f2.f1), .slice none 0 0]) ?_ 5 _ rfl; (with_reducible repeat (first | refine Qag ?_ _ | refine Qah ?_ | refine Qaf ?_ _)); refine blk_put (cs := #[.string ((QaF l0_5 x9_1).f0.f0), .string ((QaF l0_5 x9_1).f0.f1), .string ((QaF l0_5 x9_1).f1), .int .i64 ((QaF l0_5 x9_1).f2.f0), .int .i64 0, .slice none 0 0]) ?_ 4 _ rfl; (with_reducible repeat (first | refine Qag ?_ _ | refine Qah ?_ | refine Qaf ?_ _)); refine blk_put (cs := #[.string ((QaF l0_5 x9_1).f0.f0), .string ((QaF l0_5 x9_1).f0.f1), .string ((QaF l0_5 x9_1).f1), .int .i64 0, .int .i64 0, .slice none 0 0]) ?_ 3 _ rfl; (with_reducible repeat (first | refine Qag ?_ _ | refine Qah ?_ | refine Qaf ?_ _)); refine blk_put (cs := #[.string ((QaF l0_5 x9_1).f0.f0), .string ((QaF l0_5 x9_1).f0.f1), .string (⟨#[]⟩ : ByteArray), .int .i64 0, .int .i64 0, .slice none 0 0]) ?_ 2 _ rfl; (with_reducible repeat (first | refine Qag ?_ _ | refine Qah ?_ | refine Qaf ?_ _)); refine blk_put (cs := #[.string ((QaF l0_5 x9_1).f0.f0), .string (⟨#[]⟩ : ByteArray), .string (⟨#[]⟩ : ByteArray), .int .i64 0, .int .i64 0, .slice none 0 0]) ?_ 1 _ rfl; (with_reducible repeat (first | refine Qag ?_ _ | refine Qah ?_ | refine Qaf ?_ _)); refine blk_put (cs := #[.string (⟨#[]⟩ : ByteArray), .string (⟨#[]⟩ : ByteArray), .string (⟨#[]⟩ : ByteArray), .int .i64 0, .int .i64 0, .slice none 0 0]) ?_ 0 _ rfl; (with_reducible repeat (first | refine Qag ?_ _ | refine Qah ?_ | refine Qaf ?_ _)); exact BK103.out) hb); have n2_ := Qad.mk (Qak (by repeat (first | (with_reducible first | exact HB.out | apply Qab | apply Qaa | apply Qac | refine Qai ?_ GE101.out | refine Qai ?_ GE103.out) | exact HB.out)) hb); clear BK101; clear BK103; clear HB; have BK101 := n0_; have BK103 := n1_; have HB := n2_; clear n0_ n1_ n2_; (try clear hb); (try clear hb2); (try clear hk); (try clear hi)))
      go_roundg k1
      case measure => have := HK1.out; omega
      case rel => exact ⟨(wrap64 (x3_1 + t104)), (wrap64 (x9_1 + 1)), (by first | rfl | (simp; done) | (simp [*]; done)), (by first | rfl | (simp; done) | (simp [*]; done)), H', ⟨by have := HK1.out; omega⟩, ⟨by (with_reducible repeat (first | refine Qag ?_ _ | refine Qah ?_ | refine Qaf ?_ _)); exact BK101.out⟩, ⟨by repeat (first | (with_reducible first | exact HB.out | apply Qab | apply Qaa | apply Qac | refine Qai ?_ GE101.out | refine Qai ?_ GE103.out) | exact HB.out)⟩⟩
     ·rw [if_neg c6] at H; exact absurd H (by simp)
    ·rw [if_neg c5] at H; exact absurd H (by simp)
   ·rw [if_neg c4] at H; have c4b0 : decide (x9_1 < (l0_5.length : Int)) = false := decide_eq_false c4; clear c4; obtain rfl := Option.some.inj H; go_wp2; go_ret; exact ⟨by first | rfl | (simp [Qar, Qaq] <;> rfl) | (simp [*, Qar, Qaq] <;> rfl), by repeat (first | (with_reducible first | exact HB.out | apply Qab | apply Qaa | apply Qac | refine Qai ?_ GE101.out) | exact HB.out)⟩
end Go.Proofs.YtmaipohgahdclaaGreatDoor.Pr
end
