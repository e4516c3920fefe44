/- The proof's own texts, joined: part 1. No conditions. -/
import Derived.Below
import Derived.Deep.Draws
import Derived.Deep.AppendLies
import Derived.Maps.AppendAt
import Derived.OwnWalk
import Derived.Laws.BytesArg
import Derived.Laws.MakeOwn
import Derived.Laws.OwnMore
import Derived.Deep.OwnRows
import Derived.Tactics
import Derived.Lib.ConvBytes
import Derived.Laws.Slices
import Derived.WalkKit
import Derived.KernelRfl
import Derived.RowKit3
import Derived.Deep.LoopGhost
import Derived.Deep.QuietTactic
import Derived.BigQuiet
import Derived.WideLaws
import Derived.Deep.DeepCutAuto
import Derived.Deep.CutBlock
import Derived.Deep.RegionHeld3
import Derived.Laws.Rows
import Derived.Lib.AppendStr
import Derived.ArgAppend
import Derived.Laws.IdiomCopy
import Derived.RowKit
import Derived.Test.YtpjddgmdgfjlfaaDoorProg
import Derived.OrdersHeld
import Derived.Laws.BitsLemmas
import Derived.Laws.StructEq
import Derived.Maps.OwnSet
import Derived.Maps.RangeRun
import Derived.Maps.Range
import Derived.Carry
import Derived.DeepKeys4
import Derived.WalkSpells
import Derived.WalkLawsBesides
import Derived.Lib.Hide
import Derived.RegionTactic
import Derived.ChangeAlike
import Derived.Deep.RegionLaw
import Derived.Lib.SmallJoins
import Derived.Outline
import Derived.Deep.RegionWith
import Derived.Lib.SlicesS
import Derived.Shelf.GgSortFunc.InsertionK
import Derived.Shelf.SlicesG.Cmp
import Derived.Ground.SlgcProg
import Derived.StillTailTactics
import Derived.Sort.Grow
import Derived.Shelf.SlSortCmp.WholeK
import Derived.Shelf.SlSortCmp.NoneTotal
import Derived.Shelf.SlicesE.Clone
import Derived.Ground.SlsfProg
import Derived.Ground.SlgnProg
import Derived.Laws.RangeAny
import Derived.Laws.Closers25
import Derived.Test.YtpjddgmdgfjlfaaDoorPm0
section
namespace Go.Proofs.YtpjddgmdgfjlfaaDoor.Pr
open Go.RowKit Go.Proofs.YtpjddgmdgfjlfaaDoorW.PrintWords Go.Proofs.YtpjddgmdgfjlfaaDoorW.PrintLast Go.Proofs.YtpjddgmdgfjlfaaDoorW.PrintMore
attribute [local go_sem] QaF QaD max_two min_two QaB QaA QaE QaC
set_option linter.unusedVariables false
set_option linter.unusedSimpArgs false
theorem QaG {W : World} {k : Nat} {t : TypeId} {a0 : Int} {a1 : Int} {a2 : ByteArray} {a3 : Int} {a4 : ByteArray} {a5 : ByteArray} {a6 : ByteArray} {a7 : ByteArray} {a8 : ByteArray} (h : W.heap[k]? = some (.cells #[.int .i64 a0, .int .i64 a1, .string a2, .int .i64 a3, .string a4, .string a5, .string a6, .string a7, .string a8] t (0, 0))) : W.cell? ⟨k, 0, none⟩ = some (.int .i64 a0) ∧ W.cell? ⟨k, 1, none⟩ = some (.int .i64 a1) ∧ W.cell? ⟨k, 2, none⟩ = some (.string a2) ∧ W.cell? ⟨k, 3, none⟩ = some (.int .i64 a3) ∧ W.cell? ⟨k, 4, none⟩ = some (.string a4) ∧ W.cell? ⟨k, 5, none⟩ = some (.string a5) ∧ W.cell? ⟨k, 6, none⟩ = some (.string a6) ∧ W.cell? ⟨k, 7, none⟩ = some (.string a7) ∧ W.cell? ⟨k, 8, none⟩ = some (.string a8) :=
  ⟨(Qam h 0).trans rfl, (Qam h 1).trans rfl, (Qam h 2).trans rfl, (Qam h 3).trans rfl, (Qam h 4).trans rfl, (Qam h 5).trans rfl, (Qam h 6).trans rfl, (Qam h 7).trans rfl, (Qam h 8).trans rfl⟩
theorem cz_ss {W : World} {k : Nat} {t : TypeId} {a0 : ByteArray} {a1 : ByteArray} (h : W.heap[k]? = some (.cells #[.string a0, .string a1] t (0, 0))) : W.cell? ⟨k, 0, none⟩ = some (.string a0) ∧ W.cell? ⟨k, 1, none⟩ = some (.string a1) :=
  ⟨(Qam h 0).trans rfl, (Qam h 1).trans rfl⟩
theorem cz_sss {W : World} {k : Nat} {t : TypeId} {a0 : ByteArray} {a1 : ByteArray} {a2 : ByteArray} (h : W.heap[k]? = some (.cells #[.string a0, .string a1, .string a2] t (0, 0))) : W.cell? ⟨k, 0, none⟩ = some (.string a0) ∧ W.cell? ⟨k, 1, none⟩ = some (.string a1) ∧ W.cell? ⟨k, 2, none⟩ = some (.string a2) :=
  ⟨(Qam h 0).trans rfl, (Qam h 1).trans rfl, (Qam h 2).trans rfl⟩
theorem fz_2 {W : World} {k : Nat} {cs : Array Value} {t : TypeId} (h : W.heap[k]? = some (.cells cs t (0, 0))) : W.frozen? ⟨k, 0, none⟩ = false ∧ W.frozen? ⟨k, 1, none⟩ = false :=
  ⟨blk_frozen h 0, blk_frozen h 1⟩
theorem fz_3 {W : World} {k : Nat} {cs : Array Value} {t : TypeId} (h : W.heap[k]? = some (.cells cs t (0, 0))) : W.frozen? ⟨k, 0, none⟩ = false ∧ W.frozen? ⟨k, 1, none⟩ = false ∧ W.frozen? ⟨k, 2, none⟩ = false :=
  ⟨blk_frozen h 0, blk_frozen h 1, blk_frozen h 2⟩
theorem fz_9 {W : World} {k : Nat} {cs : Array Value} {t : TypeId} (h : W.heap[k]? = some (.cells cs t (0, 0))) : W.frozen? ⟨k, 0, none⟩ = false ∧ W.frozen? ⟨k, 1, none⟩ = false ∧ W.frozen? ⟨k, 2, none⟩ = false ∧ W.frozen? ⟨k, 3, none⟩ = false ∧ W.frozen? ⟨k, 4, none⟩ = false ∧ W.frozen? ⟨k, 5, none⟩ = false ∧ W.frozen? ⟨k, 6, none⟩ = false ∧ W.frozen? ⟨k, 7, none⟩ = false ∧ W.frozen? ⟨k, 8, none⟩ = false :=
  ⟨blk_frozen h 0, blk_frozen h 1, blk_frozen h 2, blk_frozen h 3, blk_frozen h 4, blk_frozen h 5, blk_frozen h 6, blk_frozen h 7, blk_frozen h 8⟩
abbrev Qap (a0 : Int) (a1 : Int) (a2 : ByteArray) (a3 : Int) (a4 : ByteArray) (a5 : ByteArray) (a6 : ByteArray) (a7 : ByteArray) (a8 : ByteArray) (t : TypeId) : Obj := .cells #[.int .i64 a0, .int .i64 a1, .string a2, .int .i64 a3, .string a4, .string a5, .string a6, .string a7, .string a8] t (0, 0)
abbrev ob_ss (a0 : ByteArray) (a1 : ByteArray) (t : TypeId) : Obj := .cells #[.string a0, .string a1] t (0, 0)
abbrev ob_sss (a0 : ByteArray) (a1 : ByteArray) (a2 : ByteArray) (t : TypeId) : Obj := .cells #[.string a0, .string a1, .string a2] t (0, 0)
theorem put_ {α : Type} : (∀ (xs : List α) (i : Nat) (v : α), xs.toArray.setIfInBounds i v = (xs.set i v).toArray) ∧ (∀ (x v : α) (xs : List α), (x :: xs).set 0 v = v :: xs) ∧ ∀ (x v : α) (xs : List α) (i : Nat), (x :: xs).set (i + 1) v = x :: xs.set i v :=
  ⟨fun xs i v => List.setIfInBounds_toArray .., fun x v xs => List.set_cons_zero .., fun x v xs i => List.set_cons_succ ..⟩
abbrev tt := true
abbrev ff := false
def errW : Option Int → Value
  | none => .nilIface
  | some c => .iface 0 (.int .i64 c)
theorem Qau : errW none = .nilIface := rfl
theorem Qat (c : Int) : errW (some c) = .iface 0 (.int .i64 c) := rfl
theorem info9 : (Tryd.prog.info? 9).map (fun i => (i.zero, i.size, i.bytes)) = some (some (.string ⟨#[]⟩), 1, 16) := by kernel_rfl
theorem info36 : (Tryd.prog.info? 36).map (fun i => (i.zero, i.size, i.bytes)) = some (some (.agg #[(.string ⟨#[]⟩), (.string ⟨#[]⟩), (.string ⟨#[]⟩)]), 3, 48) := by kernel_rfl
theorem info46 : (Tryd.prog.info? 46).map (fun i => (i.zero, i.size, i.bytes)) = some (some (.agg #[(.int .i64 0), (.int .i64 0), (.string ⟨#[]⟩), (.int .i64 0), (.string ⟨#[]⟩), (.string ⟨#[]⟩), (.string ⟨#[]⟩), (.string ⟨#[]⟩), (.string ⟨#[]⟩)]), 9, 120) := by kernel_rfl
structure S44 where
  f0 : Int
  f1 : Int
def z44 : S44 := ⟨(0 : Int), (0 : Int)⟩
def k44 : Kd S44 := Kd.iso (Kd.pair (Kd.int .i64) (Kd.int .i64)) (fun x : S44 => (x.f0, x.f1))
theorem k44_open {w : World} {x : S44} {cs : List Value} (h : k44.K w x cs) : cs = [.int .i64 x.f0, .int .i64 x.f1] := by
  obtain ⟨_, _, rfl, rfl, rfl⟩ := h; exact rfl
theorem k44_openM {w : World} {base : Nat} {ok : Nat → Prop} {x : S44} {cs : List Value} (h : k44.M w base ok x cs) : cs = [.int .i64 x.f0, .int .i64 x.f1] := by
  obtain ⟨_, _, rfl, rfl, rfl⟩ := h; exact rfl
theorem k44_mk (w : World) (x : S44)  : k44.K w x [.int .i64 x.f0, .int .i64 x.f1] := ⟨[.int .i64 x.f0], [.int .i64 x.f1], rfl, rfl, rfl⟩
theorem k44_mkM (w : World) (base : Nat) (ok : Nat → Prop) (x : S44)  : k44.M w base ok x [.int .i64 x.f0, .int .i64 x.f1] := ⟨[.int .i64 x.f0], [.int .i64 x.f1], rfl, rfl, rfl⟩
structure S33 where
  f0 : ByteArray
  f1 : ByteArray
def z33 : S33 := ⟨(⟨#[]⟩ : ByteArray), (⟨#[]⟩ : ByteArray)⟩
def k33 : Kd S33 := Kd.iso (Kd.pair Kd.string Kd.string) (fun x : S33 => (x.f0, x.f1))
theorem k33_open {w : World} {x : S33} {cs : List Value} (h : k33.K w x cs) : cs = [.string x.f0, .string x.f1] := by
  obtain ⟨_, _, rfl, rfl, rfl⟩ := h; exact rfl
theorem k33_openM {w : World} {base : Nat} {ok : Nat → Prop} {x : S33} {cs : List Value} (h : k33.M w base ok x cs) : cs = [.string x.f0, .string x.f1] := by
  obtain ⟨_, _, rfl, rfl, rfl⟩ := h; exact rfl
theorem k33_mk (w : World) (x : S33)  : k33.K w x [.string x.f0, .string x.f1] := ⟨[.string x.f0], [.string x.f1], rfl, rfl, rfl⟩
theorem k33_mkM (w : World) (base : Nat) (ok : Nat → Prop) (x : S33)  : k33.M w base ok x [.string x.f0, .string x.f1] := ⟨[.string x.f0], [.string x.f1], rfl, rfl, rfl⟩
structure S46 where
  f0 : S44
  f1 : ByteArray
  f2 : Int
  f3 : ByteArray
  f4 : S33
  f5 : S33
def z46 : S46 := ⟨z44, (⟨#[]⟩ : ByteArray), (0 : Int), (⟨#[]⟩ : ByteArray), z33, z33⟩
def k46 : Kd S46 := Kd.iso (Kd.pair k44 (Kd.pair Kd.string (Kd.pair (Kd.int .i64) (Kd.pair Kd.string (Kd.pair k33 k33))))) (fun x : S46 => (x.f0, x.f1, x.f2, x.f3, x.f4, x.f5))
theorem k46_open {w : World} {x : S46} {cs : List Value} (h : k46.K w x cs) : cs = [.int .i64 x.f0.f0, .int .i64 x.f0.f1, .string x.f1, .int .i64 x.f2, .string x.f3, .string x.f4.f0, .string x.f4.f1, .string x.f5.f0, .string x.f5.f1] := by
  obtain ⟨_, _, rfl, s0, ⟨_, _, rfl, rfl, ⟨_, _, rfl, rfl, ⟨_, _, rfl, rfl, ⟨_, _, rfl, s5, s7⟩⟩⟩⟩⟩ := h; obtain rfl := k44_open s0; obtain rfl := k33_open s5; obtain rfl := k33_open s7; exact rfl
theorem k46_openM {w : World} {base : Nat} {ok : Nat → Prop} {x : S46} {cs : List Value} (h : k46.M w base ok x cs) : cs = [.int .i64 x.f0.f0, .int .i64 x.f0.f1, .string x.f1, .int .i64 x.f2, .string x.f3, .string x.f4.f0, .string x.f4.f1, .string x.f5.f0, .string x.f5.f1] := by
  obtain ⟨_, _, rfl, s0, ⟨_, _, rfl, rfl, ⟨_, _, rfl, rfl, ⟨_, _, rfl, rfl, ⟨_, _, rfl, s5, s7⟩⟩⟩⟩⟩ := h; obtain rfl := k44_openM s0; obtain rfl := k33_openM s5; obtain rfl := k33_openM s7; exact rfl
theorem k46_mk (w : World) (x : S46)  : k46.K w x [.int .i64 x.f0.f0, .int .i64 x.f0.f1, .string x.f1, .int .i64 x.f2, .string x.f3, .string x.f4.f0, .string x.f4.f1, .string x.f5.f0, .string x.f5.f1] := ⟨[.int .i64 x.f0.f0, .int .i64 x.f0.f1], [.string x.f1, .int .i64 x.f2, .string x.f3, .string x.f4.f0, .string x.f4.f1, .string x.f5.f0, .string x.f5.f1], rfl, (k44_mk w x.f0 ), ⟨[.string x.f1], [.int .i64 x.f2, .string x.f3, .string x.f4.f0, .string x.f4.f1, .string x.f5.f0, .string x.f5.f1], rfl, rfl, ⟨[.int .i64 x.f2], [.string x.f3, .string x.f4.f0, .string x.f4.f1, .string x.f5.f0, .string x.f5.f1], rfl, rfl, ⟨[.string x.f3], [.string x.f4.f0, .string x.f4.f1, .string x.f5.f0, .string x.f5.f1], rfl, rfl, ⟨[.string x.f4.f0, .string x.f4.f1], [.string x.f5.f0, .string x.f5.f1], rfl, (k33_mk w x.f4 ), (k33_mk w x.f5 )⟩⟩⟩⟩⟩
theorem k46_mkM (w : World) (base : Nat) (ok : Nat → Prop) (x : S46)  : k46.M w base ok x [.int .i64 x.f0.f0, .int .i64 x.f0.f1, .string x.f1, .int .i64 x.f2, .string x.f3, .string x.f4.f0, .string x.f4.f1, .string x.f5.f0, .string x.f5.f1] := ⟨[.int .i64 x.f0.f0, .int .i64 x.f0.f1], [.string x.f1, .int .i64 x.f2, .string x.f3, .string x.f4.f0, .string x.f4.f1, .string x.f5.f0, .string x.f5.f1], rfl, (k44_mkM w base ok x.f0 ), ⟨[.string x.f1], [.int .i64 x.f2, .string x.f3, .string x.f4.f0, .string x.f4.f1, .string x.f5.f0, .string x.f5.f1], rfl, rfl, ⟨[.int .i64 x.f2], [.string x.f3, .string x.f4.f0, .string x.f4.f1, .string x.f5.f0, .string x.f5.f1], rfl, rfl, ⟨[.string x.f3], [.string x.f4.f0, .string x.f4.f1, .string x.f5.f0, .string x.f5.f1], rfl, rfl, ⟨[.string x.f4.f0, .string x.f4.f1], [.string x.f5.f0, .string x.f5.f1], rfl, (k33_mkM w base ok x.f4 ), (k33_mkM w base ok x.f5 )⟩⟩⟩⟩⟩
def Qab (xs : List S46) (i : Int) : S46 := xs.getD i.toNat z46
theorem at_T46 {w : World} {A : Option Addr} {n : Nat} {xs : List S46} (h : Kd.C k46 w A n xs) (i : Int) (h0 : 0 ≤ i) (h1 : i < n) : ∃ ad , A = some ad ∧ w.cell? (ad.add (i.toNat * 9)) = some (.int .i64 (Qab xs i).f0.f0) ∧ w.cell? ⟨(ad.add (i.toNat * 9)).block, (ad.add (i.toNat * 9)).off + 1, none⟩ = some (.int .i64 (Qab xs i).f0.f1) ∧ w.cell? ⟨(ad.add (i.toNat * 9)).block, (ad.add (i.toNat * 9)).off + 2, none⟩ = some (.string (Qab xs i).f1) ∧ w.cell? ⟨(ad.add (i.toNat * 9)).block, (ad.add (i.toNat * 9)).off + 3, none⟩ = some (.int .i64 (Qab xs i).f2) ∧ w.cell? ⟨(ad.add (i.toNat * 9)).block, (ad.add (i.toNat * 9)).off + 4, none⟩ = some (.string (Qab xs i).f3) ∧ w.cell? ⟨(ad.add (i.toNat * 9)).block, (ad.add (i.toNat * 9)).off + 5, none⟩ = some (.string (Qab xs i).f4.f0) ∧ w.cell? ⟨(ad.add (i.toNat * 9)).block, (ad.add (i.toNat * 9)).off + 6, none⟩ = some (.string (Qab xs i).f4.f1) ∧ w.cell? ⟨(ad.add (i.toNat * 9)).block, (ad.add (i.toNat * 9)).off + 7, none⟩ = some (.string (Qab xs i).f5.f0) ∧ w.cell? ⟨(ad.add (i.toNat * 9)).block, (ad.add (i.toNat * 9)).off + 8, none⟩ = some (.string (Qab xs i).f5.f1) := by
  obtain ⟨ad, c, e, _, hK, hc0⟩ := Kd.C_get h z46 i h0 h1; have hc : ∀ j u, c[j]? = some u → w.cell? (ad.add (i.toNat * 9 + j)) = some u := hc0; obtain rfl := k46_open hK; exact ⟨ad, e, hc 0 _ rfl, by rw [← add_field _ _ 1 (by omega)]; exact hc 1 _ rfl, by rw [← add_field _ _ 2 (by omega)]; exact hc 2 _ rfl, by rw [← add_field _ _ 3 (by omega)]; exact hc 3 _ rfl, by rw [← add_field _ _ 4 (by omega)]; exact hc 4 _ rfl, by rw [← add_field _ _ 5 (by omega)]; exact hc 5 _ rfl, by rw [← add_field _ _ 6 (by omega)]; exact hc 6 _ rfl, by rw [← add_field _ _ 7 (by omega)]; exact hc 7 _ rfl, by rw [← add_field _ _ 8 (by omega)]; exact hc 8 _ rfl⟩
structure S36 where
  f0 : S33
  f1 : ByteArray
def z36 : S36 := ⟨z33, (⟨#[]⟩ : ByteArray)⟩
def k36 : Kd S36 := Kd.iso (Kd.pair k33 Kd.string) (fun x : S36 => (x.f0, x.f1))
theorem k36_open {w : World} {x : S36} {cs : List Value} (h : k36.K w x cs) : cs = [.string x.f0.f0, .string x.f0.f1, .string x.f1] := by
  obtain ⟨_, _, rfl, s0, rfl⟩ := h; obtain rfl := k33_open s0; exact rfl
theorem k36_mkM (w : World) (base : Nat) (ok : Nat → Prop) (x : S36)  : k36.M w base ok x [.string x.f0.f0, .string x.f0.f1, .string x.f1] := ⟨[.string x.f0.f0, .string x.f0.f1], [.string x.f1], rfl, (k33_mkM w base ok x.f0 ), rfl⟩
def rd_T36 (xs : List S36) (i : Int) : S36 := xs.getD i.toNat z36
theorem at_T36 {w : World} {A : Option Addr} {n : Nat} {xs : List S36} (h : Kd.C k36 w A n xs) (i : Int) (h0 : 0 ≤ i) (h1 : i < n) : ∃ ad , A = some ad ∧ w.cell? (ad.add (i.toNat * 3)) = some (.string (rd_T36 xs i).f0.f0) ∧ w.cell? ⟨(ad.add (i.toNat * 3)).block, (ad.add (i.toNat * 3)).off + 1, none⟩ = some (.string (rd_T36 xs i).f0.f1) ∧ w.cell? ⟨(ad.add (i.toNat * 3)).block, (ad.add (i.toNat * 3)).off + 2, none⟩ = some (.string (rd_T36 xs i).f1) := by
  obtain ⟨ad, c, e, _, hK, hc0⟩ := Kd.C_get h z36 i h0 h1; have hc : ∀ j u, c[j]? = some u → w.cell? (ad.add (i.toNat * 3 + j)) = some u := hc0; obtain rfl := k36_open hK; exact ⟨ad, e, hc 0 _ rfl, by rw [← add_field _ _ 1 (by omega)]; exact hc 1 _ rfl, by rw [← add_field _ _ 2 (by omega)]; exact hc 2 _ rfl⟩
structure S47 where
  f0 : S33
  f1 : ByteArray
def z47 : S47 := ⟨z33, (⟨#[]⟩ : ByteArray)⟩
def k47 : Kd S47 := Kd.iso (Kd.pair k33 Kd.string) (fun x : S47 => (x.f0, x.f1))
theorem k47_open {w : World} {x : S47} {cs : List Value} (h : k47.K w x cs) : cs = [.string x.f0.f0, .string x.f0.f1, .string x.f1] := by
  obtain ⟨_, _, rfl, s0, rfl⟩ := h; obtain rfl := k33_open s0; exact rfl
theorem k47_openM {w : World} {base : Nat} {ok : Nat → Prop} {x : S47} {cs : List Value} (h : k47.M w base ok x cs) : cs = [.string x.f0.f0, .string x.f0.f1, .string x.f1] := by
  obtain ⟨_, _, rfl, s0, rfl⟩ := h; obtain rfl := k33_openM s0; exact rfl
theorem k47_mkM (w : World) (base : Nat) (ok : Nat → Prop) (x : S47)  : k47.M w base ok x [.string x.f0.f0, .string x.f0.f1, .string x.f1] := ⟨[.string x.f0.f0, .string x.f0.f1], [.string x.f1], rfl, (k33_mkM w base ok x.f0 ), rfl⟩
def rd_T47 (xs : List S47) (i : Int) : S47 := xs.getD i.toNat z47
theorem at_T47 {w : World} {A : Option Addr} {n : Nat} {xs : List S47} (h : Kd.C k47 w A n xs) (i : Int) (h0 : 0 ≤ i) (h1 : i < n) : ∃ ad , A = some ad ∧ w.cell? (ad.add (i.toNat * 3)) = some (.string (rd_T47 xs i).f0.f0) ∧ w.cell? ⟨(ad.add (i.toNat * 3)).block, (ad.add (i.toNat * 3)).off + 1, none⟩ = some (.string (rd_T47 xs i).f0.f1) ∧ w.cell? ⟨(ad.add (i.toNat * 3)).block, (ad.add (i.toNat * 3)).off + 2, none⟩ = some (.string (rd_T47 xs i).f1) := by
  obtain ⟨ad, c, e, _, hK, hc0⟩ := Kd.C_get h z47 i h0 h1; have hc : ∀ j u, c[j]? = some u → w.cell? (ad.add (i.toNat * 3 + j)) = some u := hc0; obtain rfl := k47_open hK; exact ⟨ad, e, hc 0 _ rfl, by rw [← add_field _ _ 1 (by omega)]; exact hc 1 _ rfl, by rw [← add_field _ _ 2 (by omega)]; exact hc 2 _ rfl⟩
theorem eqA33 (d : Nat) (w : World) (x0 y0 : ByteArray) (x1 y1 : ByteArray) :
    (Op.equalIn (d + 2) 33 (.agg #[.string x0, .string x1]) (.agg #[.string y0, .string y1])).run Tryd.prog w = .ok (x0.toList == y0.toList && (x1.toList == y1.toList)) w := by
  refine eqA_of Tryd.underlying33 (by kernel_rfl) ?_; refine eqf_cons (by rfl) (by go_simp; rfl) (by go_simp; rfl) (by go_simp) ?_; exact eqf_last (by rfl) (by go_simp; rfl) (by go_simp; rfl) (by go_simp)
theorem eqA36 (d : Nat) (w : World) (x0 y0 : ByteArray) (x1 y1 : ByteArray) (x2 y2 : ByteArray) :
    (Op.equalIn (d + 3) 36 (.agg #[.string x0, .string x1, .string x2]) (.agg #[.string y0, .string y1, .string y2])).run Tryd.prog w = .ok ((x0.toList == y0.toList && (x1.toList == y1.toList)) && (x2.toList == y2.toList)) w := by
  refine eqA_of Tryd.underlying36 (by kernel_rfl) ?_; refine eqf_cons (by rfl) (by go_simp) (by go_simp) (eqA33 (d + 0) w _ _ _ _) ?_; exact eqf_last (by rfl) (by go_simp; rfl) (by go_simp; rfl) (by go_simp)
theorem eqA44 (d : Nat) (w : World) (x0 y0 : Int) (x1 y1 : Int) :
    (Op.equalIn (d + 2) 44 (.agg #[.int .i64 x0, .int .i64 x1]) (.agg #[.int .i64 y0, .int .i64 y1])).run Tryd.prog w = .ok (x0 == y0 && (x1 == y1)) w := by
  refine eqA_of Tryd.underlying44 (by kernel_rfl) ?_; refine eqf_cons (by rfl) (by go_simp; rfl) (by go_simp; rfl) (by go_simp) ?_; exact eqf_last (by rfl) (by go_simp; rfl) (by go_simp; rfl) (by go_simp)
theorem eqA46 (d : Nat) (w : World) (x0 y0 : Int) (x1 y1 : Int) (x2 y2 : ByteArray) (x3 y3 : Int) (x4 y4 : ByteArray) (x5 y5 : ByteArray) (x6 y6 : ByteArray) (x7 y7 : ByteArray) (x8 y8 : ByteArray) :
    (Op.equalIn (d + 3) 46 (.agg #[.int .i64 x0, .int .i64 x1, .string x2, .int .i64 x3, .string x4, .string x5, .string x6, .string x7, .string x8]) (.agg #[.int .i64 y0, .int .i64 y1, .string y2, .int .i64 y3, .string y4, .string y5, .string y6, .string y7, .string y8])).run Tryd.prog w = .ok ((x0 == y0 && (x1 == y1)) && (x2.toList == y2.toList && (x3 == y3 && (x4.toList == y4.toList && ((x5.toList == y5.toList && (x6.toList == y6.toList)) && ((x7.toList == y7.toList && (x8.toList == y8.toList)))))))) w := by
  refine eqA_of Tryd.underlying46 (by kernel_rfl) ?_; refine eqf_cons (by rfl) (by go_simp) (by go_simp) (eqA44 (d + 0) w _ _ _ _) ?_; refine eqf_cons (by rfl) (by go_simp; rfl) (by go_simp; rfl) (by go_simp) ?_; refine eqf_cons (by rfl) (by go_simp; rfl) (by go_simp; rfl) (by go_simp) ?_; refine eqf_cons (by rfl) (by go_simp; rfl) (by go_simp; rfl) (by go_simp) ?_; refine eqf_cons (by rfl) (by go_simp) (by go_simp) (eqA33 (d + 0) w _ _ _ _) ?_; exact eqf_last (by rfl) (by go_simp) (by go_simp) (eqA33 (d + 0) w _ _ _ _)
theorem eqA47 (d : Nat) (w : World) (x0 y0 : ByteArray) (x1 y1 : ByteArray) (x2 y2 : ByteArray) :
    (Op.equalIn (d + 3) 47 (.agg #[.string x0, .string x1, .string x2]) (.agg #[.string y0, .string y1, .string y2])).run Tryd.prog w = .ok ((x0.toList == y0.toList && (x1.toList == y1.toList)) && (x2.toList == y2.toList)) w := by
  refine eqA_of Tryd.underlying47 (by kernel_rfl) ?_; refine eqf_cons (by rfl) (by go_simp) (by go_simp) (eqA33 (d + 0) w _ _ _ _) ?_; exact eqf_last (by rfl) (by go_simp; rfl) (by go_simp; rfl) (by go_simp)

end Go.Proofs.YtpjddgmdgfjlfaaDoor.Pr
end
section
namespace Go.Proofs.YtpjddgmdgfjlfaaDoor.Pr
open Go.RowKit Go.Proofs.YtpjddgmdgfjlfaaDoorW.PrintWords Go.Proofs.YtpjddgmdgfjlfaaDoorW.PrintLast Go.Proofs.YtpjddgmdgfjlfaaDoorW.PrintMore
attribute [local go_sem] QaF QaD max_two min_two QaB QaA QaE QaC
set_option linter.unusedVariables false
set_option linter.unusedSimpArgs false
attribute [local go_sem high] eqA36

end Go.Proofs.YtpjddgmdgfjlfaaDoor.Pr
end
section
namespace Go.Proofs.YtpjddgmdgfjlfaaDoor.Pr
open Go.RowKit Go.Proofs.YtpjddgmdgfjlfaaDoorW.PrintWords Go.Proofs.YtpjddgmdgfjlfaaDoorW.PrintLast Go.Proofs.YtpjddgmdgfjlfaaDoorW.PrintMore
attribute [local go_sem] QaF QaD max_two min_two QaB QaA QaE QaC
set_option linter.unusedVariables false
set_option linter.unusedSimpArgs false
def Qai.l0 : Nat → List (S47) → List (S36) → Int → Option ((List (S36)))
 | 0, _, _, _ => none
 | k + 1, x0, x3, x4 => if x4 < (x0.length : Int) then (if 0 ≤ x4 then (if x3.length < 2932031007402 then (Qai.l0 k x0 (x3 ++ [(⟨(⟨(rd_T47 x0 x4).f0.f0, (rd_T47 x0 x4).f0.f1⟩ : S33), (rd_T47 x0 x4).f1⟩ : S36)]) (wrap64 (x4 + 1))) else (none)) else (none)) else (some x3)
def Qai.f (k : Nat) (l0 : List (S47)) : Option ((List (S36))) := Qai.l0 k l0 ([] : List (S36)) 0
def Qai.T5 : Bool × List (List Nat × List Nat) := (true, [([], []), ([], []), ([], []), ([1, 2], [1, 2]), ([3], [3]), ([4], [4]), ([], []), ([], []), ([6, 7], [6, 7]), ([8], [8]), ([9], [9]), ([5, 10], [5, 10]), ([11], [11]), ([0, 12], [0, 12]), ([13, 13, 0, 1, 2, 3, 4, 5, 6, 7, 8, 9, 10, 11, 12, 13], [0, 13])])
def Qai.B5 : List Nat := [0, 0, 0, 6, 14, 30, 0, 0, 192, 448, 960, 2046, 4094, 8191, 16383]
theorem Qai.tab5 : rtab .any (opsOf Tryd.f11 5) = Qai.T5 := by kernel_rfl
theorem Qai.bits5 : waitsOk Qai.T5.2 Qai.B5 = true := by kernel_rfl
set_option maxHeartbeats 8000000 in
set_option maxRecDepth 100000 in
theorem Qai.calls (k : Nat) (A0 : Option Addr) (c0 : Nat) (l0 : List (S47)) (r : List (S36)) (w : World) (hr0 : Kd.C k47 w A0 l0.length l0) (hc0 : l0.length ≤ c0) (h : Qai.f k l0 = some r) :
  Calls Tryd.prog 11 #[.slice A0 l0.length c0] w fun e w' => ∃ v0_ : Value, e = .returned (v0_) ∧ Kd.R k36 36 w' w.heap.size (fun _ => True) v0_ r ∧ Below w.heap.size w w' := by
 have hu33 := Tryd.underlying33; have hu36 := Tryd.underlying36; have HR0 := Qae.mk hr0; have HC0 := Qae.mk hc0; clear hr0 hc0; have HB := Qae.mk (Below.refl w.heap.size w); have H : (Qai.l0 k l0 ([] : List (S36)) 0) = some r := h; clear h; have H' := Qae.mk H; clear H; go_enter Tryd.func11, Tryd.ntmps11; go_wp2
 go_loopg [3, 4] k (fun kq v3 v4 w' => ∃ (x3_1 : List (S36)) (x4_1 : Int), v4 = .int .i64 x4_1 ∧ Qae (Qai.l0 kq l0 x3_1 x4_1 = some r) ∧ Qae (kq ≤ k) ∧ Qae (Kd.R k36 36 w' w.heap.size (fun _ => True) v3 x3_1) ∧ Qae (Below w.heap.size w w'))
 case atStart => exact ⟨(([] : List (S36))), (0), (by first | rfl | (simp; done) | (simp [*]; done)), H', ⟨Nat.le_refl _⟩, ⟨by first | exact Kd.R_nil _ _ _ _ _ | exact Kd.N_nil _ _ _ _ _ | exact Kd.V_nil _ _ _ _ _ | exact Kd.Q_nil _ _ _ _ _ | exact Kd.S_nil _ _ _ _ _⟩, ⟨by repeat (first | (with_reducible first | exact HB.out | apply Qac | apply Qaa | apply Qad) | exact HB.out)⟩⟩
 case round =>
  clear H'; (try clear c1); obtain ⟨x3_1, x4_1, rfl, HA, HK1, HO_3, HB⟩ := hrel
  cases gk with
  | zero => exact absurd HA.out (by simp [Qai.l0])
  | succ k1 =>
   have H := HA.out; clear HA; simp only [Qai.l0] at H
   by_cases c2 : x4_1 < (l0.length : Int)
   ·rw [if_pos c2] at H; have c2b0 : decide (x4_1 < (l0.length : Int)) = true := decide_eq_true c2; clear c2
    by_cases c3 : 0 ≤ x4_1
    ·rw [if_pos c3] at H; have c3b0 : decide (0 ≤ x4_1) = true := decide_eq_true c3; clear c3
     by_cases c4 : x3_1.length < 2932031007402
     ·rw [if_pos c4] at H; have LMc4 := Qae.mk c4; clear c4
      obtain ⟨y103, hy103⟩ : ∃ y_ : List (S36), y_ = (x3_1 ++ [(⟨(⟨(rd_T47 l0 x4_1).f0.f0, (rd_T47 l0 x4_1).f0.f1⟩ : S33), (rd_T47 l0 x4_1).f1⟩ : S36)]) := ⟨_, rfl⟩
      replace H : (Qai.l0 k1 l0 y103 (wrap64 (x4_1 + 1))) = some r := by first | (rw [hy103]; with_reducible exact H) | (have H2_ := (Option.bind_some _ _).symm.trans H; rw [hy103]; with_reducible exact H2_) | (have H2_ := (Option.bind_some _ _).symm.trans H; with_reducible exact H2_) | with_reducible exact H | (rw [hy103]; exact H) | exact H
      have Ny103 := Qae.mk hy103; clear hy103; have H' := Qae.mk H; clear H
      try go_wp2
      have n0_ := Qae.mk (Kd.Qar HO_3.out); have n1_ := Qae.mk (Qad HB.out); clear HO_3; clear HB; have HO_3 := n0_; have HB := n1_; clear n0_ n1_; have p101 : 0 ≤ (x4_1 : Int) := of_decide_eq_true (by first | (with_reducible assumption) | assumption); have q101 : x4_1 < (l0.length : Int) := of_decide_eq_true (by first | (with_reducible assumption) | assumption); obtain ⟨ad101, e101, hx101_0, hx101_1, hx101_2⟩ := at_T47 HR0.out x4_1 p101 q101; have hw101_2 := hx101_2; have hw101_1 := hx101_1; have hw101_0 := hx101_0; cases e101; replace hx101_0 := (HB.out.cell (World.block_lt_of_cell? w _ hx101_0)).trans hx101_0; replace hx101_1 := (HB.out.cell (World.block_lt_of_cell? w _ hx101_1)).trans hx101_1; replace hx101_2 := (HB.out.cell (World.block_lt_of_cell? w _ hx101_2)).trans hx101_2; replace p101 := eq_true p101; replace q101 := eq_true q101; have p102 : 0 ≤ (x4_1 : Int) := of_decide_eq_true (by first | (with_reducible assumption) | assumption); have q102 : x4_1 < (l0.length : Int) := of_decide_eq_true (by first | (with_reducible assumption) | assumption); obtain ⟨ad102, e102, hx102_0, hx102_1, hx102_2⟩ := at_T47 HR0.out x4_1 p102 q102; have hw102_2 := hx102_2; have hw102_1 := hx102_1; have hw102_0 := hx102_0
      obtain rfl : ad101 = ad102 := (by injection e102)
      replace hx102_0 := (HB.out.cell (World.block_lt_of_cell? w _ hx102_0)).trans hx102_0; replace hx102_1 := (HB.out.cell (World.block_lt_of_cell? w _ hx102_1)).trans hx102_1; replace hx102_2 := (HB.out.cell (World.block_lt_of_cell? w _ hx102_2)).trans hx102_2; replace p102 := eq_true p102; replace q102 := eq_true q102; refine start_ (n := 15) (S := fun w' => w'.cell? (ad101.add ((x4_1).toNat * 3)) = some (.string ((rd_T47 l0 x4_1).f0.f0)) ∧ w'.cell? ⟨(ad101.add ((x4_1).toNat * 3)).block, (ad101.add ((x4_1).toNat * 3)).off + 1, none⟩ = some (.string ((rd_T47 l0 x4_1).f0.f1)) ∧ w'.cell? ⟨(ad101.add ((x4_1).toNat * 3)).block, (ad101.add ((x4_1).toNat * 3)).off + 2, none⟩ = some (.string ((rd_T47 l0 x4_1).f1)) ∧ w'.cell? (ad101.add ((x4_1).toNat * 3)) = some (.string ((rd_T47 l0 x4_1).f0.f0)) ∧ w'.cell? ⟨(ad101.add ((x4_1).toNat * 3)).block, (ad101.add ((x4_1).toNat * 3)).off + 1, none⟩ = some (.string ((rd_T47 l0 x4_1).f0.f1)) ∧ w'.cell? ⟨(ad101.add ((x4_1).toNat * 3)).block, (ad101.add ((x4_1).toNat * 3)).off + 2, none⟩ = some (.string ((rd_T47 l0 x4_1).f1))) (ds := []) #[ff,ff,ff,ff,ff,ff,ff,ff,ff,ff,ff,ff,ff,ff,ff] (by kernel_rfl) rfl rfl ⟨((HB.out.cell (World.block_lt_of_cell? w _ hw101_0)).trans hw101_0), ((HB.out.cell (World.block_lt_of_cell? w _ hw101_1)).trans hw101_1), ((HB.out.cell (World.block_lt_of_cell? w _ hw101_2)).trans hw101_2), ((HB.out.cell (World.block_lt_of_cell? w _ hw102_0)).trans hw102_0), ((HB.out.cell (World.block_lt_of_cell? w _ hw102_1)).trans hw102_1), ((HB.out.cell (World.block_lt_of_cell? w _ hw102_2)).trans hw102_2)⟩ (fun hHeld => ?_); refine with_tabW Qai.tab5 Qai.bits5 (fun HT_ HW_ => ?_)
      generalize wr.drew = w5 at HO_3 HB hx101_0 hx101_1 hx101_2 hx102_0 hx102_1 hx102_2 hHeld ⊢
      refine pure_ (i := 0) (N := some 11) (v := ?_) (a' := ?_) #[tt,ff,ff,ff,ff,ff,ff,ff,ff,ff,ff,ff,ff,ff,ff] rfl rfl (any_of HT_.out (by kernel_rfl)) (fun _ _ _ h => h) (Or.inl ⟨by rfl, ?_⟩) ?_ ?_; rotate_left
      ·intro w'; go_simp; (with_reducible rfl)
      rotate_left
      ·simp only [Act.put, put_, i64_w, i32_w]; rfl
      refine pure_ (i := 1) (N := some 12) (v := ?_) (a' := ?_) #[tt,tt,ff,ff,ff,ff,ff,ff,ff,ff,ff,ff,ff,ff,ff] rfl rfl (any_of HT_.out (by kernel_rfl)) (fun _ _ _ h => h) (Or.inl ⟨by rfl, ?_⟩) ?_ ?_; rotate_left
      ·intro w'; go_simp; (with_reducible rfl)
      rotate_left
      ·simp only [Act.put, put_, i64_w, i32_w]; rfl
      refine pure_ (i := 2) (N := some 13) (v := ?_) (a' := ?_) #[tt,tt,tt,ff,ff,ff,ff,ff,ff,ff,ff,ff,ff,ff,ff] rfl rfl (any_of HT_.out (by kernel_rfl)) (fun _ _ _ h => h) (Or.inl ⟨by rfl, ?_⟩) ?_ ?_; rotate_left
      ·intro w'; go_simp; (with_reducible rfl)
      rotate_left
      ·simp only [Act.put, put_, i64_w, i32_w]; rfl
      refine pure_ (i := 3) (N := some 14) (v := ?_) (a' := ?_) #[tt,tt,tt,tt,ff,ff,ff,ff,ff,ff,ff,ff,ff,ff,ff] rfl rfl (any_of HT_.out (by kernel_rfl)) (fun _ _ _ h => h) (Or.inl ⟨by rfl, ?_⟩) ?_ ?_; rotate_left
      ·intro w'; go_simp; (with_reducible rfl)
      rotate_left
      ·simp only [Act.put, put_, i64_w, i32_w]; rfl
      refine pure_ (i := 4) (N := some 15) (v := ?_) (a' := ?_) #[tt,tt,tt,tt,tt,ff,ff,ff,ff,ff,ff,ff,ff,ff,ff] rfl rfl (any_of HT_.out (by kernel_rfl)) (fun _ _ _ h => h) (Or.inl ⟨by rfl, ?_⟩) ?_ ?_; rotate_left
      ·intro w'; go_simp; (with_reducible rfl)
      rotate_left
      ·simp only [Act.put, put_, i64_w, i32_w]; rfl
      refine pure_ (i := 6) (N := some 17) (v := ?_) (a' := ?_) #[tt,tt,tt,tt,tt,ff,tt,ff,ff,ff,ff,ff,ff,ff,ff] rfl rfl (any_of HT_.out (by kernel_rfl)) (fun _ _ _ h => h) (Or.inl ⟨by rfl, ?_⟩) ?_ ?_; rotate_left
      ·intro w'; go_simp; (with_reducible rfl)
      rotate_left
      ·simp only [Act.put, put_, i64_w, i32_w]; rfl
      refine pure_ (i := 7) (N := some 18) (v := ?_) (a' := ?_) #[tt,tt,tt,tt,tt,ff,tt,tt,ff,ff,ff,ff,ff,ff,ff] rfl rfl (any_of HT_.out (by kernel_rfl)) (fun _ _ _ h => h) (Or.inl ⟨by rfl, ?_⟩) ?_ ?_; rotate_left
      ·intro w'; go_simp; (with_reducible rfl)
      rotate_left
      ·simp only [Act.put, put_, i64_w, i32_w]; rfl
      refine pure_ (i := 8) (N := some 19) (v := ?_) (a' := ?_) #[tt,tt,tt,tt,tt,ff,tt,tt,tt,ff,ff,ff,ff,ff,ff] rfl rfl (any_of HT_.out (by kernel_rfl)) (fun _ _ _ h => h) (Or.inl ⟨by rfl, ?_⟩) ?_ ?_; rotate_left
      ·intro w'; go_simp; (with_reducible rfl)
      rotate_left
      ·simp only [Act.put, put_, i64_w, i32_w]; rfl
      refine pure_ (i := 9) (N := some 20) (v := ?_) (a' := ?_) #[tt,tt,tt,tt,tt,ff,tt,tt,tt,tt,ff,ff,ff,ff,ff] rfl rfl (any_of HT_.out (by kernel_rfl)) (fun _ _ _ h => h) (Or.inl ⟨by rfl, ?_⟩) ?_ ?_; rotate_left
      ·intro w'; go_simp; (with_reducible rfl)
      rotate_left
      ·simp only [Act.put, put_, i64_w, i32_w]; rfl
      refine take_ (i := 5) (N := some 16) (v := ?_) (a' := ?_) #[tt,tt,tt,tt,tt,tt,tt,tt,tt,tt,ff,ff,ff,ff,ff] rfl rfl (take_ofW HT_.out HW_.out (by kernel_rfl)) (fun _ _ _ h => h) (Or.inl ⟨by rfl, ?_⟩) hHeld ?_ ?_; rotate_left
      ·rintro w' ⟨s0, s1, s2, s3, s4, s5⟩; go_simp; (with_reducible rfl)
      rotate_left
      ·simp only [Act.put, put_, i64_w, i32_w]; rfl
      refine take_ (i := 10) (N := some 21) (v := ?_) (a' := ?_) #[tt,tt,tt,tt,tt,tt,tt,tt,tt,tt,tt,ff,ff,ff,ff] rfl rfl (take_ofW HT_.out HW_.out (by kernel_rfl)) (fun _ _ _ h => h) (Or.inl ⟨by rfl, ?_⟩) hHeld ?_ ?_; rotate_left
      ·rintro w' ⟨s0, s1, s2, s3, s4, s5⟩; go_simp; (with_reducible rfl)
      rotate_left
      ·simp only [Act.put, put_, i64_w, i32_w]; rfl
      refine pure_ (i := 11) (N := some 22) (v := ?_) (a' := ?_) #[tt,tt,tt,tt,tt,tt,tt,tt,tt,tt,tt,tt,ff,ff,ff] rfl rfl (any_of HT_.out (by kernel_rfl)) (fun _ _ _ h => h) (Or.inl ⟨by rfl, ?_⟩) ?_ ?_; rotate_left
      ·intro w'; go_simp; (with_reducible rfl)
      rotate_left
      ·simp only [Act.put, put_, i64_w, i32_w]; rfl
      refine one_ (i := 12) (N := some 23) #[tt,tt,tt,tt,tt,tt,tt,tt,tt,tt,tt,tt,tt,ff,ff] rfl rfl (one_of HT_.out (by kernel_rfl)) (by decide) (fun K hK => ?_); refine value_ (w1 := ?_) (v := ?_) (by rfl) rfl ?_ ?_; rotate_left 2
      ·go_simp; constructor
       ·rfl
       ·rfl
      refine hK.out _ _ ⟨(World.cell?_alloc_lt _ _ _ (World.block_lt_of_cell? _ _ (((HB.out.cell (World.block_lt_of_cell? w _ hw101_0)).trans hw101_0)))).trans (((HB.out.cell (World.block_lt_of_cell? w _ hw101_0)).trans hw101_0)), (World.cell?_alloc_lt _ _ _ (World.block_lt_of_cell? _ _ (((HB.out.cell (World.block_lt_of_cell? w _ hw101_1)).trans hw101_1)))).trans (((HB.out.cell (World.block_lt_of_cell? w _ hw101_1)).trans hw101_1)), (World.cell?_alloc_lt _ _ _ (World.block_lt_of_cell? _ _ (((HB.out.cell (World.block_lt_of_cell? w _ hw101_2)).trans hw101_2)))).trans (((HB.out.cell (World.block_lt_of_cell? w _ hw101_2)).trans hw101_2)), (World.cell?_alloc_lt _ _ _ (World.block_lt_of_cell? _ _ (((HB.out.cell (World.block_lt_of_cell? w _ hw102_0)).trans hw102_0)))).trans (((HB.out.cell (World.block_lt_of_cell? w _ hw102_0)).trans hw102_0)), (World.cell?_alloc_lt _ _ _ (World.block_lt_of_cell? _ _ (((HB.out.cell (World.block_lt_of_cell? w _ hw102_1)).trans hw102_1)))).trans (((HB.out.cell (World.block_lt_of_cell? w _ hw102_1)).trans hw102_1)), (World.cell?_alloc_lt _ _ _ (World.block_lt_of_cell? _ _ (((HB.out.cell (World.block_lt_of_cell? w _ hw102_2)).trans hw102_2)))).trans (((HB.out.cell (World.block_lt_of_cell? w _ hw102_2)).trans hw102_2))⟩ (fun hHeld => ?_); clear hK K; refine norm_ (a' := ?_) ?_ ?_; rotate_left
      ·show Act.put _ (some 23) _ = _
       simp only [Act.put, put_, i64_w, i32_w]; rfl
      refine one_ (i := 13) (N := some 24) #[tt,tt,tt,tt,tt,tt,tt,tt,tt,tt,tt,tt,tt,tt,ff] rfl rfl (one_of HT_.out (by kernel_rfl)) (by decide) (fun K hK => ?_); refine Kd.R_append_step k36 (w0 := w) w.heap.size (by rfl) (.tmp 11) (.tmp 23) 25 36 (.agg #[(.string ⟨#[]⟩), (.string ⟨#[]⟩), (.string ⟨#[]⟩)]) 48 rfl Tryd.underlying25 info36 rfl (by decide) (by omega) u3 x3_1 (⟨(⟨(rd_T47 l0 x4_1).f0.f0, (rd_T47 l0 x4_1).f0.f1⟩ : S33), (rd_T47 l0 x4_1).f1⟩ : S36) [.string ((rd_T47 l0 x4_1).f0.f0), .string ((rd_T47 l0 x4_1).f0.f1), .string ((rd_T47 l0 x4_1).f1)] (fun _ => True) (fun _ => False) rfl rfl ?aP (fun _ hk => hk.elim) ?aF ?aO ?aB ?aS ?aL ?_
      (case aP => exact k36_mkM _ _ _ (⟨(⟨(rd_T47 l0 x4_1).f0.f0, (rd_T47 l0 x4_1).f0.f1⟩ : S33), (rd_T47 l0 x4_1).f1⟩ : S36))
      (case aB => exact (by repeat (first | (with_reducible first | exact HB.out | apply Qac | apply Qaa | apply Qad) | exact HB.out)))
      (case aF => exact (fun _ _ => trivial))
      (case aO => exact (by (with_reducible repeat (first | apply Kd.Qan | apply Kd.Qao | apply Kd.Qar)); exact HO_3.out))
      (case aS => exact (Qaq (by repeat (first | (with_reducible first | exact HB.out | apply Qac | apply Qaa | apply Qad) | exact HB.out))))
      (case aL => have := LMc4.out; omega)
      intro v104 w6 ho hb hg hat
      rw [← Ny103.out] at ho; have n0_ := Qae.mk (hb); have n1_ := Qae.mk (ho); clear HB; clear HO_3; have HB := n0_; have HO105 := n1_; clear n0_ n1_
      clear ho hb hg hat
      refine hK.out _ _ ⟨((HB.out.cell (World.block_lt_of_cell? w _ hw101_0)).trans hw101_0), ((HB.out.cell (World.block_lt_of_cell? w _ hw101_1)).trans hw101_1), ((HB.out.cell (World.block_lt_of_cell? w _ hw101_2)).trans hw101_2), ((HB.out.cell (World.block_lt_of_cell? w _ hw102_0)).trans hw102_0), ((HB.out.cell (World.block_lt_of_cell? w _ hw102_1)).trans hw102_1), ((HB.out.cell (World.block_lt_of_cell? w _ hw102_2)).trans hw102_2)⟩ (fun hHeld => ?_); clear hK K; refine norm_ (a' := ?_) ?_ ?_; rotate_left
      ·show Act.put _ (some 24) _ = _
       simp only [Act.put, put_, i64_w, i32_w]; rfl
      refine pure_ (i := 14) (N := some 3) (v := ?_) (a' := ?_) #[tt,tt,tt,tt,tt,tt,tt,tt,tt,tt,tt,tt,tt,tt,tt] rfl rfl (any_of HT_.out (by kernel_rfl)) (fun _ _ _ h => h) (Or.inl ⟨by rfl, ?_⟩) ?_ ?_; rotate_left
      ·intro w'; go_simp; (with_reducible rfl)
      rotate_left
      ·simp only [Act.put, put_, i64_w, i32_w]; rfl
      refine done_ (done_of HT_.out (by kernel_rfl)) ?_
      try go_wp2
      go_roundg k1
      case measure => have := HK1.out; omega
      case rel => exact ⟨(y103), (wrap64 (x4_1 + 1)), (by first | rfl | (simp; done) | (simp [*]; done)), H', ⟨by have := HK1.out; omega⟩, ⟨by (with_reducible repeat (first | apply Kd.Qan | apply Kd.Qao | apply Kd.Qar)); exact HO105.out⟩, ⟨by repeat (first | (with_reducible first | exact HB.out | apply Qac | apply Qaa | apply Qad) | exact HB.out)⟩⟩
     ·rw [if_neg c4] at H; exact absurd H (by simp)
    ·rw [if_neg c3] at H; exact absurd H (by simp)
   ·rw [if_neg c2] at H; have c2b0 : decide (x4_1 < (l0.length : Int)) = false := decide_eq_false c2; clear c2; obtain rfl := Option.some.inj H; go_wp2; go_ret; exact ⟨_, by first | rfl | (simp [Qau, Qat] <;> rfl) | (simp [*, Qau, Qat] <;> rfl), by (with_reducible repeat (first | apply Kd.Qan | apply Kd.Qao | apply Kd.Qar)); exact HO_3.out, by repeat (first | (with_reducible first | exact HB.out | apply Qac | apply Qaa | apply Qad) | exact HB.out)⟩
end Go.Proofs.YtpjddgmdgfjlfaaDoor.Pr
end
section
namespace Go.Proofs.YtpjddgmdgfjlfaaDoor
open Go.ChangeMaps (setBlock) 
open Go.MapKept
open Go.Maps (Keyed)
open Go.RowKit
structure KeyK (P : Program) (k : TypeId) {κ : Type} (enc : κ → Value) (ok : κ → Prop) : Prop where
  keyed : Keyed P k
  lit : ∀ x, ok x → ∃ l, keyOf P k (enc x) = some l
  inj : ∀ x y, ok x → ok y → enc x = enc y → x = y
def Tbl {κ : Type} (enc : κ → Value) (ok : κ → Prop) (w : World) (b : Nat) (l : List (κ × Value)) : Prop :=
  ∃ es clock, w.heap[b]? = some (.map es clock) ∧ es.toList.map (fun e => (e.key, e.val)) = l.map (fun x => (enc x.1, x.2)) ∧ (∀ x ∈ l, ok x.1) ∧ Stamped es clock ∧ es.size ≤ maxLen
def tput {κ : Type} [DecidableEq κ] (l : List (κ × Value)) (x : κ) (v : Value) : List (κ × Value) :=
  if l.any (fun y => decide (y.1 = x)) then l.map (fun y => if y.1 = x then (x, v) else y) else l ++ [(x, v)]
def tget {κ : Type} [DecidableEq κ] (l : List (κ × Value)) (x : κ) : Option Value := (l.find? fun y => decide (y.1 = x)).map (·.2)
section
variable {κ : Type} {P : Program} {k : TypeId} {enc : κ → Value} {ok : κ → Prop} {w : World} {b : Nat} {l : List (κ × Value)}
theorem Tbl.lt (h : Tbl enc ok w b l) : b < w.heap.size := by
  obtain ⟨es, clock, hb, _⟩ := h; exact (Array.getElem?_eq_some_iff.1 hb).1
theorem Tbl.same (h : Tbl enc ok w b l) {w' : World} (hs : w'.heap[b]? = w.heap[b]?) : Tbl enc ok w' b l := by
  obtain ⟨es, clock, hb, r⟩ := h; exact ⟨es, clock, hs.trans hb, r⟩
theorem Tbl.below (h : Tbl enc ok w b l) {w' : World} (hb : Below w.heap.size w w') : Tbl enc ok w' b l := h.same (hb.block b h.lt)
theorem Tbl.grown (h : Tbl enc ok w b l) {w' : World} {row : Option Nat} (hg : w.grownBy w' row) (hne : some b ≠ row) : Tbl enc ok w' b l := h.same (hg.block b h.lt hne)
theorem Tbl.set (h : Tbl enc ok w b l) {a : Addr} (hne : b ≠ a.block) (u : Value) : Tbl enc ok (w.setCell a u) b l := h.same (Below.heap_setCell w a u b hne)
theorem Tbl.made (enc : κ → Value) (ok : κ → Prop) (w : World) : Tbl enc ok (w.alloc (.map #[] 0)) w.heap.size [] :=
  ⟨#[], 0, (MapKept.heap_alloc w _).1, rfl, by simp, stamped_empty 0, by simp [maxLen]⟩
theorem Tbl.nodup (h : Tbl enc ok w b l) : (l.map (·.1)).Nodup := by
  obtain ⟨es, clock, _, hl, _, hs, _⟩ := h; have h3 : (es.toList.map (·.key)).Nodup := hs.2.2
  have e1 : es.toList.map (·.key) = (es.toList.map (fun e => (e.key, e.val))).map (·.1) := by rw [List.map_map]; rfl
  rw [e1, hl, List.map_map] at h3
  have e2 : l.map ((fun x => x.1) ∘ fun x => (enc x.1, x.2)) = (l.map (·.1)).map enc := by rw [List.map_map]; rfl
  rw [e2] at h3; exact List.Pairwise.of_map enc (fun a b hne e => hne (congrArg enc e)) h3
theorem Tbl.oks (h : Tbl enc ok w b l) : ∀ x ∈ l, ok x.1 := by
  obtain ⟨es, clock, _, _, ho, _⟩ := h; exact ho
theorem Tbl.small (h : Tbl enc ok w b l) : l.length ≤ maxLen := by
  obtain ⟨es, clock, _, hl, _, _, hm⟩ := h; have := congrArg List.length hl; simp at this; omega
theorem tbl_keys (K : KeyK P k enc ok) {es : Array MapEntry} {l : List (κ × Value)} (hl : es.toList.map (fun e => (e.key, e.val)) = l.map (fun x => (enc x.1, x.2))) (ho : ∀ x ∈ l, ok x.1) : ∀ e ∈ es.toList, ∃ x ∈ l, e.key = enc x.1 ∧ e.val = x.2 ∧ ∃ lit, keyOf P k e.key = some lit := by
  intro e he
  have hm : (e.key, e.val) ∈ l.map (fun x => (enc x.1, x.2)) := by rw [← hl]; exact List.mem_map.2 ⟨e, he, rfl⟩
  obtain ⟨x, hx, hxe⟩ := List.mem_map.1 hm; simp only [Prod.mk.injEq] at hxe; obtain ⟨lit, hlit⟩ := K.lit x.1 (ho x hx); exact ⟨x, hx, hxe.1.symm, hxe.2.symm, lit, by rw [← hxe.1]; exact hlit⟩
variable [DecidableEq κ]
theorem tget_some {l : List (κ × Value)} {x : κ} {v : Value} (hn : (l.map (·.1)).Nodup) (h : (x, v) ∈ l) : tget l x = some v := by
  induction l with
  | nil => simp at h
  | cons y l ih =>
    rw [List.map_cons, List.nodup_cons] at hn; unfold tget; rw [List.find?_cons]
    rcases List.mem_cons.1 h with h | h
    · subst h
      simp
    · by_cases e : y.1 = x
      · exact absurd (List.mem_map.2 ⟨(x, v), h, e.symm⟩) hn.1
      · rw [decide_eq_false e]
        exact ih hn.2 h
theorem tget_none {l : List (κ × Value)} {x : κ} (h : ∀ y ∈ l, y.1 ≠ x) : tget l x = none := by
  unfold tget; rw [List.find?_eq_none.2 (fun y hy => by simpa using h y hy)]; rfl
theorem Tbl.look (K : KeyK P k enc ok) (h : Tbl enc ok w b l) {t e : TypeId} (ht : P.underlying t = some (.map k e)) {z : Value} (hz : ∀ W, (zeroValue e).run P W = .ok z W) {x : κ} (hx : ok x) (c : Bool) :
    ∀ W : World, W.heap[b]? = w.heap[b]? → (Instr.lookup t (.map (some b)) (enc x) c).run P W = .ok (if c then .tuple #[(tget l x).getD z, .bool (tget l x).isSome] else (tget l x).getD z) W := by
  obtain ⟨es, clock, hb, hl, ho, hs, hm⟩ := h; obtain ⟨lit, hlit⟩ := K.lit x hx; have keys := tbl_keys K hl ho; have hn : (l.map (·.1)).Nodup := Tbl.nodup (w := w) (b := b) ⟨es, clock, hb, hl, ho, hs, hm⟩; intro W hW; have hb' := hW.trans hb
  rcases K.keyed.find W hlit es.toList (fun e he => (keys e he).choose_spec.2.2.2) with ⟨h1, h2⟩ | ⟨j, e0, h1, h2, h3⟩
  · have hno : tget l x = none := by
      apply tget_none
      intro y hy hyx
      have hm : (enc y.1, y.2) ∈ es.toList.map (fun e => (e.key, e.val)) := by rw [hl]; exact List.mem_map.2 ⟨y, hy, rfl⟩
      obtain ⟨e, he, hey⟩ := List.mem_map.1 hm; simp only [Prod.mk.injEq] at hey; exact h2 e he (by rw [hey.1, hyx])
    rw [hno]; simp [Instr.lookup, run_underlying ht, MapKept.run_getObj_map hb', K.keyed.check W _ hlit, h1, hz, Result.andThen]
  · have hm0 : e0 ∈ es.toList := List.mem_of_getElem? h2
    obtain ⟨y, hy, hk1, hv1, _⟩ := keys e0 hm0; have hyx : y.1 = x := K.inj _ _ (ho y hy) hx (by rw [← hk1, h3])
    have hsome : tget l x = some e0.val := by
      rw [hv1, ← hyx]; exact tget_some hn hy
    rw [hsome]; simp [Instr.lookup, run_underlying ht, MapKept.run_getObj_map hb', K.keyed.check W _ hlit, h1, Result.andThen]
theorem Tbl.store (K : KeyK P k enc ok) (h : Tbl enc ok w b l) {t e : TypeId} (ht : P.underlying t = some (.map k e)) {x : κ} (hx : ok x) (v : Value) (hroom : l.length < maxLen) :
    ∃ O, (∀ W : World, W.heap[b]? = w.heap[b]? → (Instr.mapUpdate t (.map (some b)) (enc x) v).run P W = .ok () (setBlock W b O)) ∧ ∀ W : World, b < W.heap.size → Tbl enc ok (setBlock W b O) b (tput l x v) := by
  obtain ⟨es, clock, hb, hl, ho, hs, hm⟩ := h; obtain ⟨lit, hlit⟩ := K.lit x hx; have keys := tbl_keys K hl ho; have hn : (l.map (·.1)).Nodup := Tbl.nodup (w := w) (b := b) ⟨es, clock, hb, hl, ho, hs, hm⟩
  have hlen : es.size = l.length := by simpa using congrArg List.length hl
  have hbo : ∀ (W : World) (O : Obj), b < W.heap.size → (setBlock W b O).heap[b]? = some O := fun W O hW => by simp [setBlock, hW]
  rcases K.keyed.find w hlit es.toList (fun e he => (keys e he).choose_spec.2.2.2) with ⟨h1, h2⟩ | ⟨j, e0, h1, h2, h3⟩
  · refine ⟨.map (es.push ⟨enc x, v, clock⟩) (clock + 1), fun W hW => ?_, fun W hW => ⟨_, _, hbo W _ hW, ?_, ?_, stamped_push hs h2, by rw [Array.size_push]; omega⟩⟩
    · have hb' := hW.trans hb
      rcases K.keyed.find W hlit es.toList (fun e he => (keys e he).choose_spec.2.2.2) with ⟨h1', _⟩ | ⟨j, e0, _, h2', h3'⟩
      · simp [Instr.mapUpdate, run_underlying ht, MapKept.run_getObj_map hb', K.keyed.check W false hlit, h1', MapKept.run_setObj_map _ hb', Result.andThen, setBlock]
      · exact absurd h3' (h2 e0 (List.mem_of_getElem? h2'))
    · have hno : l.any (fun y => decide (y.1 = x)) = false := by
        rw [List.any_eq_false]; intro y hy; simp only [decide_eq_true_eq]; intro hyx
        have hm : (enc y.1, y.2) ∈ es.toList.map (fun e => (e.key, e.val)) := by rw [hl]; exact List.mem_map.2 ⟨y, hy, rfl⟩
        obtain ⟨e, he, hey⟩ := List.mem_map.1 hm; simp only [Prod.mk.injEq] at hey; exact h2 e he (by rw [hey.1, hyx])
      unfold tput; rw [hno]; simp [hl]
    · intro y hy
      unfold tput at hy
      split at hy
      · obtain ⟨z, hz, rfl⟩ := List.mem_map.1 hy
        split
        · exact hx
        · exact ho z hz
      · rcases List.mem_append.1 hy with hy | hy
        · exact ho y hy
        · rw [List.mem_singleton.1 hy]
          exact hx
  · have hm0 : e0 ∈ es.toList := List.mem_of_getElem? h2
    obtain ⟨y, hy, hk1, hv1, _⟩ := keys e0 hm0; have hyx : y.1 = x := K.inj _ _ (ho y hy) hx (by rw [← hk1, h3])
    have hj : es[j]? = some e0 := by simpa using h2
    refine ⟨.map (es.modify j fun e => { e with key := enc x, val := v }) clock, fun W hW => ?_, fun W hW => ⟨_, _, hbo W _ hW, ?_, ?_, ?_, by rw [Array.size_modify]; omega⟩⟩
    · have hb' := hW.trans hb
      rcases K.keyed.find W hlit es.toList (fun e he => (keys e he).choose_spec.2.2.2) with ⟨_, h2'⟩ | ⟨j', e1, h1', h2', h3'⟩
      · exact absurd h3 (h2' e0 hm0)
      · have hjj : j' = j := by
          have hnd : (es.toList.map (·.key)).Nodup := hs.2.2
          have a1 : (es.toList.map (·.key))[j']? = some (enc x) := by rw [List.getElem?_map, h2', Option.map_some, h3']
          have a2 : (es.toList.map (·.key))[j]? = some (enc x) := by rw [List.getElem?_map, h2, Option.map_some, h3]
          have b1 := (List.getElem?_eq_some_iff.1 a1).1; exact (List.getElem?_inj b1 hnd).1 (a1.trans a2.symm)
        subst hjj; have he1 : e1 = e0 := Option.some.inj (h2'.symm.trans h2)
        have hkk : ((es[j']?).map (·.key)).getD (enc x) = enc x := by rw [hj]; simp [h3]
        simp [Instr.mapUpdate, run_underlying ht, MapKept.run_getObj_map hb', K.keyed.check W false hlit, h1', hj, h3, K.keyed.stays W hlit, MapKept.run_setObj_map _ hb', Result.andThen, setBlock]
    · have hyes : l.any (fun y => decide (y.1 = x)) = true := List.any_eq_true.2 ⟨y, hy, by simpa using hyx⟩
      unfold tput; rw [hyes]; simp only [if_true]
      apply List.ext_getElem?
      intro i; have hi := congrArg (fun z => z[i]?) hl; simp only [List.getElem?_map] at hi ⊢; rw [Array.getElem?_toList, Array.getElem?_modify]; rw [Array.getElem?_toList] at hi
      by_cases hij : j = i
      · subst hij
        rw [if_pos rfl]; rw [hj] at hi ⊢
        cases hli : l[j]? with
        | none => rw [hli] at hi; simp at hi
        | some q =>
          rw [hli] at hi; simp only [Option.map_some, Option.some.injEq, Prod.mk.injEq] at hi ⊢; have hq : q.1 = x := K.inj _ _ (ho q (List.mem_of_getElem? hli)) hx (by rw [← hi.1, h3]); rw [if_pos hq]; exact ⟨rfl, rfl⟩
      · rw [if_neg hij, hi]
        cases hli : l[i]? with
        | none => rfl
        | some q =>
          simp only [Option.map_some, Option.some.injEq]
          have hq : q.1 ≠ x := by
            intro hqx
            have a1 : (l.map (·.1))[i]? = some x := by rw [List.getElem?_map, hli, Option.map_some, hqx]
            have hlj : l[j]?.map (·.1) = some x := by
              have hjj := congrArg (fun z => z[j]?) hl; simp only [List.getElem?_map] at hjj; rw [Array.getElem?_toList, hj] at hjj
              cases hlj : l[j]? with
              | none => rw [hlj] at hjj; simp at hjj
              | some q' =>
                rw [hlj] at hjj; simp only [Option.map_some, Option.some.injEq, Prod.mk.injEq] at hjj ⊢; exact K.inj _ _ (ho q' (List.mem_of_getElem? hlj)) hx (by rw [← hjj.1, h3])
            have a2 : (l.map (·.1))[j]? = some x := by rw [List.getElem?_map]; exact hlj
            have b1 := (List.getElem?_eq_some_iff.1 a1).1; exact hij ((List.getElem?_inj b1 hn).1 (a1.trans a2.symm)).symm
          rw [if_neg hq]
    · intro z hz
      unfold tput at hz
      split at hz
      · obtain ⟨q, hq, rfl⟩ := List.mem_map.1 hz
        split
        · exact hx
        · exact ho q hq
      · rcases List.mem_append.1 hz with hz | hz
        · exact ho z hz
        · rw [List.mem_singleton.1 hz]
          exact hx
    · exact stamped_modify hs j _ (fun _ _ => rfl) (fun e1 _ he1 => by rw [hj] at he1; cases he1; exact h3.symm)
omit [DecidableEq κ] in
def Rng (enc : κ → Value) (ok : κ → Prop) (w : World) (b r : Nat) (l left : List (κ × Value)) : Prop :=
  ∃ es clock since seen c0, w.heap[b]? = some (.map es clock) ∧ es.toList.map (fun e => (e.key, e.val)) = l.map (fun x => (enc x.1, x.2)) ∧ (∀ x ∈ l, ok x.1) ∧ Stamped es clock ∧ es.size ≤ maxLen ∧
    w.heap[r]? = some (.mapIter (some b) since seen c0) ∧ (∀ x ∈ es.toList, x.born < since) ∧ since ≤ c0 ∧ since ≤ clock ∧ (∀ x ∈ left, ok x.1) ∧
    (leftOf es seen).toList.map (fun e => (e.key, e.val)) = left.map (fun x => (enc x.1, x.2))
omit [DecidableEq κ] in
theorem Rng.tbl {r : Nat} {left : List (κ × Value)} (h : Rng enc ok w b r l left) : Tbl enc ok w b l := by
  obtain ⟨es, clock, since, seen, c0, h1, h2, h3, h4, h5, _⟩ := h; exact ⟨es, clock, h1, h2, h3, h4, h5⟩
omit [DecidableEq κ] in
theorem Rng.lt {r : Nat} {left : List (κ × Value)} (h : Rng enc ok w b r l left) : r < w.heap.size := by
  obtain ⟨es, clock, since, seen, c0, h1, h2, h3, h4, h5, h6, _⟩ := h; exact (Array.getElem?_eq_some_iff.1 h6).1
omit [DecidableEq κ] in
theorem Rng.same {r : Nat} {left : List (κ × Value)} (h : Rng enc ok w b r l left) {w' : World} (hb : w'.heap[b]? = w.heap[b]?) (hr : w'.heap[r]? = w.heap[r]?) : Rng enc ok w' b r l left := by
  obtain ⟨es, clock, since, seen, c0, h1, h2, h3, h4, h5, h6, q⟩ := h; exact ⟨es, clock, since, seen, c0, hb.trans h1, h2, h3, h4, h5, hr.trans h6, q⟩
omit [DecidableEq κ] in
theorem Rng.grown {r : Nat} {left : List (κ × Value)} (h : Rng enc ok w b r l left) {w' : World} {row : Option Nat} (hg : w.grownBy w' row) (hb : some b ≠ row) (hr : some r ≠ row) : Rng enc ok w' b r l left := h.same (hg.block b h.tbl.lt hb) (hg.block r h.lt hr)
omit [DecidableEq κ] in
theorem Rng.below {r : Nat} {left : List (κ × Value)} (h : Rng enc ok w b r l left) {w' : World} (hb : Below w.heap.size w w') : Rng enc ok w' b r l left := h.same (hb.block b h.tbl.lt) (hb.block r h.lt)
omit [DecidableEq κ] in
theorem Rng.ne {r : Nat} {left : List (κ × Value)} (h : Rng enc ok w b r l left) : b ≠ r := by
  obtain ⟨es, clock, since, seen, c0, h1, h2, h3, h4, h5, h6, q⟩ := h; rintro rfl; rw [h1] at h6; cases h6
omit [DecidableEq κ] in
theorem Tbl.range (h : Tbl enc ok w b l) {t e : TypeId} (ht : P.underlying t = some (.map k e)) :
    ∃ O, (∀ W : World, W.heap[b]? = w.heap[b]? → (Instr.range t (.map (some b))).run P W = .ok (.pointer (some ⟨W.heap.size, 0, none⟩)) (W.alloc O)) ∧ ∀ W : World, W.heap[b]? = w.heap[b]? → Rng enc ok (W.alloc O) b W.heap.size l l := by
  have hlt := h.lt; obtain ⟨es, clock, hb, hl, ho, hs, hm⟩ := h; refine ⟨.mapIter (some b) clock #[] clock, fun W hW => run_range_map W t k e b es clock ht (hW.trans hb), fun W hW => ?_⟩; have hltW : b < W.heap.size := (Array.getElem?_eq_some_iff.1 (hW.trans hb)).1; exact ⟨es, clock, clock, #[], clock, ((MapKept.heap_alloc W _).2 b hltW).trans (hW.trans hb), hl, ho, hs, hm, (MapKept.heap_alloc W _).1, hs.1, Nat.le_refl _, Nat.le_refl _, ho, by rw [show (leftOf es #[]).toList = es.toList from by unfold leftOf; rw [Array.toList_filter, List.filter_eq_self.2 (fun _ _ => by simp)]]; exact hl⟩
theorem map_drop_one {α : Type} (l : List α) (e : α) (he : e ∈ l) (p : α → Bool) (hp : ∀ x ∈ l, p x = false ↔ x = e) (hn : l.Nodup) : ∃ a c, l = a ++ e :: c ∧ l.filter p = a ++ c := by
  obtain ⟨a, c, rfl⟩ := List.append_of_mem he; refine ⟨a, c, rfl, ?_⟩; rw [List.nodup_append] at hn; have hc := List.nodup_cons.1 hn.2.1; rw [List.filter_append, List.filter_cons]; have he' : p e = false := (hp e (by simp)).2 rfl; rw [he']; simp only [Bool.false_eq_true, if_false]; rw [List.filter_eq_self.2 (fun x hx => ?_), List.filter_eq_self.2 (fun x hx => ?_)]
  · cases h : p x
    · have := (hp x (by simp [hx])).1 h
      subst this; exact absurd hx hc.1
    · rfl
  · cases h : p x
    · have := (hp x (by simp [hx])).1 h
      subst this; exact absurd rfl (hn.2.2 x hx x (by simp))
    · rfl
omit [DecidableEq κ] in
theorem Rng.next {r : Nat} {left : List (κ × Value)} (h : Rng enc ok w b r l left) (ty : TypeId) :
    (left = [] ∧ (Instr.next (.pointer (some ⟨r, 0, none⟩)) false ty).run P w = .ok (.tuple #[.bool false]) w) ∨
    ∃ a x c w', left = a ++ x :: c ∧ ok x.1 ∧ (Instr.next (.pointer (some ⟨r, 0, none⟩)) false ty).run P w = .ok (.tuple #[.bool true, enc x.1, x.2]) w' ∧ Rng enc ok w' b r l (a ++ c) ∧ w.grownBy w' (some r) ∧ w'.heap.size = w.heap.size ∧
      (∀ W : World, W.heap[b]? = w'.heap[b]? → W.heap[r]? = w'.heap[r]? → (Instr.entry (.pointer (some ⟨r, 0, none⟩))).run P W = .ok (.tuple #[enc x.1, x.2]) W) := by
  have hne := h.ne; obtain ⟨es, clock, since, seen, c0, hb, hl, ho, hs, hm, hr, hold, hsc, hsk, hol, hle⟩ := h
  rcases run_next_at (P := P) w ty r b since c0 seen es clock hr hb hold hsc with ⟨h0, hrun⟩ | ⟨e, he, w1, hal, hrun⟩
  · left
    refine ⟨?_, hrun⟩; have := congrArg List.length hle; simp at this; exact List.eq_nil_of_length_eq_zero (by omega)
  · right
    obtain ⟨hem, hes⟩ := mem_left he
    have hr1 : w1.heap[r]? = some (.mapIter (some b) since seen c0) := by rcases hal with rfl | rfl <;> exact hr
    have hb1 : w1.heap[b]? = some (.map es clock) := by rcases hal with rfl | rfl <;> exact hb
    have hset := heap_set (o' := .mapIter (some b) since (seen.push e.born) clock) hr1; have hb' : (setBlock w1 r (.mapIter (some b) since (seen.push e.born) clock)).heap[b]? = some (.map es clock) := (hset.2 b hne).trans hb1
    have hnd : (leftOf es seen).toList.Nodup := by
      unfold leftOf; rw [Array.toList_filter]; exact (List.Pairwise.of_map (fun e : MapEntry => e.born) (fun a b hne e => hne (congrArg MapEntry.born e)) hs.2.1).filter _
    have hborn : ∀ x ∈ (leftOf es seen).toList, (!(seen.push e.born).contains x.born) = false ↔ x = e := by
      intro x hx; obtain ⟨hxm, hxs⟩ := mem_left hx; rw [contains_push, hxs]; constructor
      · intro h
        simp at h; exact born_inj hs.2.1 hxm hem h
      · rintro rfl
        simp
    obtain ⟨a', c', h1, h2⟩ := map_drop_one (leftOf es seen).toList e he (fun x => !(seen.push e.born).contains x.born) hborn hnd
    have h3 : (leftOf es (seen.push e.born)).toList = a' ++ c' := by
      rw [← h2]; unfold leftOf; rw [Array.toList_filter, Array.toList_filter, List.filter_filter]
      apply List.filter_congr
      intro x hx; rw [contains_push]
      cases seen.contains x.born <;> simp
    rw [h1, List.map_append, List.map_cons] at hle; obtain ⟨a, xc, hle1, hle2, hle3⟩ := List.append_eq_map_iff.1 hle; obtain ⟨x, c, hxc, hle4, hle5⟩ := List.map_eq_cons_iff.1 hle3; simp only [Prod.mk.injEq] at hle4; refine ⟨a, x, c, _, by rw [hle1, hxc], hol x (by rw [hle1, hxc]; simp), by rw [hle4.1, hle4.2]; exact hrun, ⟨es, clock, since, seen.push e.born, clock, hb', hl, ho, hs, hm, hset.1, hold, hsk, hsk, fun y hy => hol y (by rw [hle1, hxc]; rcases List.mem_append.1 hy with hy | hy <;> simp [hy]), by rw [h3, List.map_append, List.map_append, hle2, hle5]⟩, ?_, ?_, fun W hWb hWr => ?_⟩
    · rcases hal with rfl | rfl <;> exact ⟨rfl, rfl, rfl, by simp [setBlock], fun i _ hi => hset.2 i (fun e1 => hi (by rw [e1]))⟩
    · rcases hal with rfl | rfl <;> simp [setBlock]
    · rw [hle4.1, hle4.2]
      exact run_entry_at W r b since seen es clock e (hWr.trans hset.1) (hWb.trans hb') hem hs.2.1
end
end Go.Proofs.YtpjddgmdgfjlfaaDoor
end
section
namespace Go.Proofs.YtpjddgmdgfjlfaaDoor.Pr
open Go.RowKit Go.Proofs.YtpjddgmdgfjlfaaDoorW.PrintWords Go.Proofs.YtpjddgmdgfjlfaaDoorW.PrintLast Go.Proofs.YtpjddgmdgfjlfaaDoorW.PrintMore
attribute [local go_sem] QaF QaD max_two min_two QaB QaA QaE QaC
set_option linter.unusedVariables false
set_option linter.unusedSimpArgs false
open Go.Maps
open Go.ChangeMaps (setBlock)
abbrev Role := S33
abbrev Pair := S47
theorem role_ext {a b : Role} (h0 : a.f0 = b.f0) (h1 : a.f1 = b.f1) : a = b := by cases a; cases b; simp_all
theorem pair_ext {a b : Pair} (h0 : a.f0 = b.f0) (h1 : a.f1 = b.f1) : a = b := by cases a; cases b; simp_all
instance roleDec : DecidableEq Role := fun a b => decidable_of_iff (a.f0 = b.f0 ∧ a.f1 = b.f1) ⟨fun h => role_ext h.1 h.2, fun h => by rw [h]; exact ⟨rfl, rfl⟩⟩
instance pairDec : DecidableEq Pair := fun a b => decidable_of_iff (a.f0 = b.f0 ∧ a.f1 = b.f1) ⟨fun h => pair_ext h.1 h.2, fun h => by rw [h]; exact ⟨rfl, rfl⟩⟩
def encPair (p : Pair) : Value := .agg #[.string p.f0.f0, .string p.f0.f1, .string p.f1]
def okPair (p : Pair) : Prop := p.f0.f0.size ≤ maxLen ∧ p.f0.f1.size ≤ maxLen ∧ p.f1.size ≤ maxLen
theorem Tryd.laidOut : laidOutB Tryd.prog = true := by kernel_rfl
theorem Tryd.rowPair : 47 < Tryd.prog.types.size := of_decide_eq_true (by kernel_rfl)
theorem Tryd.keyPair : Tryd.prog.keyType 47 = true := by kernel_rfl
theorem Tryd.tsize : Tryd.prog.types.size = 2 + (Tryd.prog.types.size - 2) := by have := of_decide_eq_true (p := 2 ≤ Tryd.prog.types.size) (by kernel_rfl); omega
theorem pairLaw : WideMaps.KeyLaw Tryd.prog 47 := deep_law_laid Tryd.laidOut (m := 3) (by omega) Tryd.rowPair (by kernel_rfl) (by rw [Tryd.underlying47])
theorem Tryd.cellsPair : Tryd.prog.cellsOf 47 = 3 := by kernel_rfl
theorem Tryd.cellsRole : Tryd.prog.cellsOf 33 = 2 := by kernel_rfl
theorem Tryd.cellsStr : Tryd.prog.cellsOf 9 = 1 := by kernel_rfl
theorem lits_str (d : Nat) (s : ByteArray) (hs : s.size ≤ maxLen) : Tryd.prog.keyLits (d + 1) 9 [.string s] = some [.string s.data.toList] := by
  unfold Program.keyLits; rw [Tryd.underlying9]; simp [hs]
theorem lits_role (d : Nat) (a b : ByteArray) (ha : a.size ≤ maxLen) (hb : b.size ≤ maxLen) : Tryd.prog.keyLits (d + 2) 33 [.string a, .string b] = some [.string a.data.toList, .string b.data.toList] := by
  unfold Program.keyLits; rw [Tryd.underlying33]; simp [Tryd.cellsRole, Tryd.cellsStr, lits_str d a ha, lits_str d b hb]
theorem lits_pair (d : Nat) (p : Pair) (hp : okPair p) : Tryd.prog.keyLits (d + 3) 47 [.string p.f0.f0, .string p.f0.f1, .string p.f1] = some [.string p.f0.f0.data.toList, .string p.f0.f1.data.toList, .string p.f1.data.toList] := by
  unfold Program.keyLits; rw [Tryd.underlying47]; simp [Tryd.cellsPair, Tryd.cellsRole, Tryd.cellsStr, lits_role d _ _ hp.1 hp.2.1, lits_str (d + 1) _ hp.2.2]
theorem pairKey : KeyK Tryd.prog 47 encPair okPair where
  keyed := Keyed.of_law pairLaw
  lit p hp := by
    refine ⟨.string (keyBytes [.string p.f0.f0.data.toList, .string p.f0.f1.data.toList, .string p.f1.data.toList]), ?_⟩
    have hf : (encPair p).formed Tryd.prog 47 = true := by
      simp [encPair, Value.formed, Tryd.underlying47, Tryd.cellsPair]
    unfold keyOf; rw [Tryd.underlying47]; simp only [Tryd.keyPair, hf, Bool.and_self, if_true]
    have hc : (encPair p).cells.toList = [.string p.f0.f0, .string p.f0.f1, .string p.f1] := by simp [encPair, Value.cells]
    rw [hc, Tryd.tsize, show 2 + (Tryd.prog.types.size - 2) + 1 = (Tryd.prog.types.size - 2) + 3 from by omega, lits_pair _ p hp]; rfl
  inj p q _ _ h := by
    simp only [encPair, Value.agg.injEq, Array.mk.injEq, List.cons.injEq, Value.string.injEq, and_true] at h; exact pair_ext (role_ext h.1 h.2.1) h.2.2
abbrev Cred := S46
abbrev kCred := k46
abbrev kPair := k47
def knownT (known : List Pair) : List (Pair × Value) := known.map fun p => (p, .bool true)
def SolverAt (w : World) (B : Nat) (ok : Nat → Prop) (g b : Nat) (vc : Value) (creds : List Cred) (known waits : List Pair) : Prop :=
  ∃ vw, w.heap[g]? = some (.cells #[vc, .map (some b), vw] 51 (0, 0)) ∧ (B ≤ g ∧ ok g) ∧ (B ≤ b ∧ ok b) ∧ Kd.R kCred 46 w B (fun _ => True) vc creds ∧ Tbl encPair okPair w b (knownT known) ∧ Kd.Q kPair 47 w B ok vw waits
theorem SolverAt.below {w w' : World} {B g b : Nat} {ok : Nat → Prop} {vc : Value} {creds : List Cred} {known waits : List Pair} (h : SolverAt w B ok g b vc creds known waits) (hb : Below w.heap.size w w') : SolverAt w' B ok g b vc creds known waits := by
  obtain ⟨vw, hg, hBg, hBb, hvc, hT, hQ⟩ := h; exact ⟨vw, (hb.block g (blk_lt hg)).trans hg, hBg, hBb, Kd.Qay hvc hb, hT.below hb, Kd.Q_below hQ hb⟩
def Kept (w w' : World) (ok : Nat → Prop) : Prop := ∀ k, k < w.heap.size → ¬ ok k → w'.heap[k]? = w.heap[k]?
theorem Kept.of_below {w w' : World} (h : Below w.heap.size w w') (ok : Nat → Prop) : Kept w w' ok := fun k hk _ => h.block k hk
theorem Kept.trans {w w1 w2 : World} {ok ok' : Nat → Prop} (h : Kept w w1 ok) (h' : Kept w1 w2 ok') (hs : w.heap.size ≤ w1.heap.size) (hok : ∀ k, k < w.heap.size → ok' k → ok k) : Kept w w2 ok :=
  fun k hk hn => (h' k (by omega) (fun e => hn (hok k hk e))).trans (h k hk hn)
theorem SolverAt.mono {w : World} {B g b : Nat} {ok ok' : Nat → Prop} {vc : Value} {creds : List Cred} {known waits : List Pair} (h : SolverAt w B ok g b vc creds known waits) (hk : ∀ k, ok k → ok' k) : SolverAt w B ok' g b vc creds known waits := by
  obtain ⟨vw, hg, hBg, hBb, hvc, hT, hQ⟩ := h; exact ⟨vw, hg, ⟨hBg.1, hk _ hBg.2⟩, ⟨hBb.1, hk _ hBb.2⟩, hvc, hT, Kd.Q_mono hQ hk⟩
theorem knownT_get (known : List Pair) (p : Pair) : tget (knownT known) p = if p ∈ known then some (.bool true) else none := by
  unfold tget knownT
  induction known with
  | nil => rfl
  | cons q known ih =>
    rw [List.map_cons, List.find?_cons]
    by_cases h : q = p
    · subst h
      simp
    · rw [decide_eq_false h]
      simp only [List.mem_cons]; rw [ih]
      have : (p = q ∨ p ∈ known) ↔ p ∈ known := ⟨fun h' => h'.resolve_left (fun e => h e.symm), .inr⟩
      simp only [this]
theorem blk_thaw {w : World} {g : Nat} {cs : Array Value} {t : TypeId} (h : w.heap[g]? = some (.cells cs t (0, 0))) (i : Nat) : w.frozen? ⟨g, i, none⟩ = false := by simp [World.frozen?, h]
theorem cell_alloc {w : World} {a : Addr} {v : Value} (h : w.cell? a = some v) (o : Obj) : (w.alloc o).cell? a = some v := pw_cell_below (Qac (Below.refl _ _) o) h
theorem heap_alloc_old {w : World} {i : Nat} (h : i < w.heap.size) (o : Obj) : (w.alloc o).heap[i]? = w.heap[i]? := (MapKept.heap_alloc w o).2 i h
theorem infoPair : (Tryd.prog.info? 47).map (fun i => (i.zero, i.size, i.bytes)) = some (some (.agg #[.string ⟨#[]⟩, .string ⟨#[]⟩, .string ⟨#[]⟩]), 3, 48) := by kernel_rfl
theorem zeroBool (w : World) : (zeroValue 4).run Tryd.prog w = .ok (.bool false) w := by kernel_rfl
set_option maxRecDepth 100000 in
set_option maxHeartbeats 2000000 in
theorem learn_old (w : World) (B g b : Nat) (ok : Nat → Prop) (vc : Value) (creds : List Cred) (known waits : List Pair) (p : Pair) (hp : okPair p) (hS : SolverAt w B ok g b vc creds known waits) (hin : p ∈ known) :
    Calls Tryd.prog 31 #[.pointer (some ⟨g, 0, none⟩), encPair p] w fun e w' => e = .returned (.tuple #[]) ∧ SolverAt w' B ok g b vc creds known waits ∧ Below w.heap.size w w' := by
  obtain ⟨vw, hg, hBg, hBb, hvc, hT, hQ⟩ := hS
  have hl := fun n => hT.look pairKey Tryd.underlying49 zeroBool hp false ((w.alloc (.cells #[.string p.f0.f0, .string p.f0.f1, .string p.f1] 47)).drewN n) (heap_alloc_old hT.lt _)
  rw [knownT_get, if_pos hin] at hl; simp only [Option.getD_some, Bool.false_eq_true, if_false, encPair] at hl; have hc1 := cell_alloc (show w.cell? ⟨g, 1, none⟩ = some (.map (some b)) from (Qam hg 1).trans rfl) (.cells #[.string p.f0.f0, .string p.f0.f1, .string p.f1] 47); unfold encPair; go_enter Tryd.func31, Tryd.ntmps31; go_wp2
  go_quiet (fail)
  go_wp2; go_end0; have hb := Qaa (Qac (Below.refl w.heap.size w) (.cells #[.string p.f0.f0, .string p.f0.f1, .string p.f1] 47)) nq; exact ⟨rfl, SolverAt.below ⟨vw, hg, hBg, hBb, hvc, hT, hQ⟩ hb, hb⟩
theorem learn_mid (w : World) (B g b : Nat) (O : Obj) (vc vw : Value) (known : List Pair) (p : Pair) (nq : Nat) (Y : World) (hBb : B ≤ b) (hg : w.heap[g]? = some (.cells #[vc, .map (some b), vw] 51 (0, 0))) (hT : Tbl encPair okPair w b (knownT known))
    (hT' : ∀ W : World, b < W.heap.size → Tbl encPair okPair (setBlock W b O) b (tput (knownT known) p (.bool true))) (hY : Y = setBlock ((w.alloc (.cells #[.string p.f0.f0, .string p.f0.f1, .string p.f1] 47)).drewN (nq + 1)) b O) :
    (Y.heap[g]? = some (.cells #[vc, .map (some b), vw] 51 (0, 0)) ∧ Y.heap[w.heap.size]? = some (.cells #[.string p.f0.f0, .string p.f0.f1, .string p.f1] 47 (0, 0)) ∧ Tbl encPair okPair Y b (tput (knownT known) p (.bool true))) ∧ Y.heap.size = w.heap.size + 1 ∧ (∀ i, i < w.heap.size → i ≠ b → Y.heap[i]? = w.heap[i]?) ∧ Below B w Y := by
  have hlt := hT.lt; have hgl := blk_lt hg
  have hgb : g ≠ b := by
    rintro rfl; obtain ⟨es, clock, hb, _⟩ := hT; rw [hg] at hb; cases hb
  have hother : ∀ (W : World) (i : Nat), i ≠ b → (setBlock W b O).heap[i]? = W.heap[i]? := fun W i hi => by simp [setBlock, Ne.symm hi]
  have hsz : ((w.alloc (.cells #[.string p.f0.f0, .string p.f0.f1, .string p.f1] 47)).drewN (nq + 1)).heap.size = w.heap.size + 1 := by simp
  have hold : ∀ i, i < w.heap.size → i ≠ b → Y.heap[i]? = w.heap[i]? := fun i hi hne => by
    rw [hY, hother _ _ hne]; exact heap_alloc_old hi _
  refine ⟨⟨(hold g hgl hgb).trans hg, ?_, ?_⟩, ?_, hold, ?_⟩
  · rw [hY, hother _ _ (by omega)]
    exact heap_alloc_new w _
  · rw [hY]
    exact hT' _ (by rw [hsz]; omega)
  · rw [hY]
    show ((w.alloc _).heap.setIfInBounds b O).size = _
    simp
  · rw [hY]
    exact ⟨rfl, rfl, rfl, by show w.heap.size ≤ ((w.alloc _).heap.setIfInBounds b O).size; simp, fun i hi => by rw [hother _ _ (by omega)]; exact heap_alloc_old (by omega) _⟩
theorem knownT_put (known : List Pair) (p : Pair) (h : ¬ p ∈ known) : tput (knownT known) p (.bool true) = knownT (known ++ [p]) := by
  unfold tput; rw [if_neg]
  · unfold knownT
    simp
  · unfold knownT
    simp only [List.any_map, List.any_eq_true, not_exists, not_and]; intro q hq hqp; simp at hqp; exact h (hqp ▸ hq)
theorem learn_end (Y w1 : World) (B g b : Nat) (ok : Nat → Prop) (vc vw v1 : Value) (creds : List Cred) (known waits : List Pair) (p : Pair) (hin : ¬ p ∈ known) (hgY : Y.heap[g]? = some (.cells #[vc, .map (some b), vw] 51 (0, 0))) (TY : Tbl encPair okPair Y b (tput (knownT known) p (.bool true)))
    (RY : Kd.R kCred 46 Y B (fun _ => True) vc creds) (QY : Kd.Q kPair 47 Y B ok vw waits) (hBg : B ≤ g ∧ ok g) (hBb : B ≤ b ∧ ok b) (hq1 : Kd.Q kPair 47 w1 B ok v1 (waits ++ [p])) (hg1 : (Y.drew).grownBy w1 vw.ownBlock) :
    SolverAt (w1.setCell ⟨g, 2, none⟩ v1) B ok g b vc creds (known ++ [p]) (waits ++ [p]) := by
  have hg1' : Y.grownBy w1 vw.ownBlock := ⟨hg1.os, hg1.tape, hg1.output, hg1.size, hg1.block⟩
  have hgg := (hg1'.block g (blk_lt hgY) (Kd.Q_ne QY hgY (by decide))).trans hgY
  have hbg : b ≠ g := by
    rintro rfl; obtain ⟨es, clock, hb, _⟩ := TY; rw [hgY] at hb; cases hb
  have hbv : some b ≠ vw.ownBlock := by
    intro e; obtain ⟨cells, hc⟩ := Kd.Q_typed QY b e.symm; obtain ⟨es, clock, hb, _⟩ := TY; rw [hc] at hb; cases hb
  refine ⟨v1, by simpa using blk_set hgg 2 v1, hBg, hBb, ?_, ?_, Kd.Q_set hq1 hgg (by decide) 2 v1⟩
  · refine Kd.R_set (Kd.R_over' RY (fun k hk => Kd.Q_typed QY k hk) (by decide) hg1') hgg (by decide) 2 v1
  · rw [knownT_put known p hin] at TY
    exact (TY.grown hg1' hbv).set hbg v1
set_option maxRecDepth 100000 in
set_option maxHeartbeats 2000000 in
theorem learn_new (w : World) (B g b : Nat) (ok : Nat → Prop) (vc : Value) (creds : List Cred) (known waits : List Pair) (p : Pair) (hp : okPair p) (hS : SolverAt w B ok g b vc creds known waits) (hin : ¬ p ∈ known) (hroom : known.length < 1000000) (hroom2 : waits.length < 1000000) :
    Calls Tryd.prog 31 #[.pointer (some ⟨g, 0, none⟩), encPair p] w fun e w' => e = .returned (.tuple #[]) ∧ SolverAt w' B (fun k => ok k ∨ w.heap.size ≤ k) g b vc creds (known ++ [p]) (waits ++ [p]) ∧ Below B w w' ∧ Kept w w' ok := by
  obtain ⟨vw, hg, hBg, hBb, hvc, hT, hQ⟩ := hS
  have hl := fun n => hT.look pairKey Tryd.underlying49 zeroBool hp false ((w.alloc (.cells #[.string p.f0.f0, .string p.f0.f1, .string p.f1] 47)).drewN n) (heap_alloc_old hT.lt _)
  rw [knownT_get, if_neg hin] at hl; simp only [Option.getD_none, Bool.false_eq_true, if_false, encPair] at hl
  have hT0 : B ≤ w.heap.size := by have := hT.lt; omega
  obtain ⟨O, hu, hT'⟩ := hT.store pairKey Tryd.underlying49 hp (.bool true) (by unfold knownT maxLen; rw [List.length_map]; omega)
  have hu1 := fun n => hu ((w.alloc (.cells #[.string p.f0.f0, .string p.f0.f1, .string p.f1] 47)).drewN n) (heap_alloc_old hT.lt _)
  simp only [encPair] at hu1; have hc1 := cell_alloc (show w.cell? ⟨g, 1, none⟩ = some (.map (some b)) from (Qam hg 1).trans rfl) (.cells #[.string p.f0.f0, .string p.f0.f1, .string p.f1] 47); unfold encPair; clear hu; go_enter Tryd.func31, Tryd.ntmps31; go_wp2
  go_quiet (fail)
  go_wp2
  go_region
  all_goals
    obtain ⟨Y, hY⟩ : ∃ Y, Y = setBlock ((w.alloc (.cells #[.string p.f0.f0, .string p.f0.f1, .string p.f1] 47)).drewN (nq + 1)) b O := ⟨_, rfl⟩
    rw [← hY]; have HY := Lib.hid hY; clear hY hu1 hl hc1; obtain ⟨⟨hgY, boxY, TY⟩, sizeY, oldY, belowY⟩ := learn_mid w B g b O vc vw known p nq Y hBb.1 hg hT hT' HY.out
    have QYo : Kd.Q kPair 47 Y B ok vw waits := Kd.Q_mono (Kd.Q_move (Kd.Q_bound hQ) (fun k hk => oldY k hk.2.2.1 (fun e => by
      obtain ⟨_, _, _, q, _, cells, hc⟩ := hk; obtain ⟨es, clock, hb, _⟩ := hT; rw [e, hb] at hc
      cases hc))) (fun _ hk => hk.1)
    have QY : Kd.Q kPair 47 Y B (fun k => ok k ∨ w.heap.size ≤ k) vw waits := Kd.Q_mono QYo (fun _ h => .inl h)
    have RY : Kd.R kCred 46 Y B (fun _ => True) vc creds := Kd.R_mono (Kd.R_move (Kd.R_bound hvc) (fun k hk => oldY k hk.2.2.1 (fun e => by
      obtain ⟨_, _, _, q, _, cells, hc⟩ := hk; obtain ⟨es, clock, hb, _⟩ := hT; rw [e, hb] at hc
      cases hc))) (fun _ hk => hk.1)
    have c2 : Y.cell? ⟨g, 2, none⟩ = some vw := (Qam hgY 2).trans rfl; have c2a := cell_alloc c2 (.cells #[.string p.f0.f0, .string p.f0.f1, .string p.f1] 47); have b0 : Y.cell? ⟨w.heap.size, 0, none⟩ = some (.string p.f0.f0) := (Qam boxY 0).trans rfl; have b1 : Y.cell? ⟨w.heap.size, 1, none⟩ = some (.string p.f0.f1) := (Qam boxY 1).trans rfl; have b2 : Y.cell? ⟨w.heap.size, 2, none⟩ = some (.string p.f1) := (Qam boxY 2).trans rfl; have SZ := Lib.hid sizeY; clear sizeY hT hT' HY; go_wp2
    go_region_law ((refine Kd.Q_append_step kPair (w0 := w) (W := Y.drew) B (by rfl) (.tmp 20) (.tmp 22) 27 47 _ 48 (by rfl) Tryd.underlying27 infoPair rfl (by decide) (by decide) vw waits p [.string p.f0.f0, .string p.f0.f1, .string p.f1] (fun k => ok k ∨ w.heap.size ≤ k) (fun _ => False) (by rfl) (by rfl) (k47_mkM _ _ _ p) (fun _ h => h.elim) (fun k hk => .inr (by have := SZ.out; have hk' : Y.heap.size ≤ k := hk; omega)) (Kd.Q_drew QY) (below_drew belowY) (by have := SZ.out; have := hT0; simp; omega) (by omega) ?_; intro v1 w1 hq1 hb1 hg1 hat; obtain ⟨A1, c1, rfl, hl1⟩ := Kd.Q_slice hq1; have hg2 := (hg1.block g (blk_lt hgY) (Kd.Q_ne QY hgY (by decide))).trans hgY; have c2' : w1.cell? ⟨g, 2, none⟩ = some vw := (Qam hg2 2).trans rfl; have f2' : w1.frozen? ⟨g, 2, none⟩ = false := blk_thaw hg2 2))
    all_goals
      go_wp2; go_end0; refine ⟨rfl, learn_end Y w1 B g b (fun k => ok k ∨ w.heap.size ≤ k) vc vw _ creds known waits p hin hgY TY RY QY ⟨hBg.1, .inl hBg.2⟩ ⟨hBb.1, .inl hBb.2⟩ (by simpa using hq1) hg1, hb1.setCell hBg.1 _, fun k hk hn => ?_⟩; have e1 : (w1.setCell ⟨g, 2, none⟩ (.slice A1 (waits.length + 1) c1)).heap[k]? = w1.heap[k]? := Below.heap_setCell w1 ⟨g, 2, none⟩ _ k (fun e => hn (e ▸ hBg.2)); have e2 : w1.heap[k]? = Y.heap[k]? := hg1.block k (by have := SZ.out; show k < Y.heap.size; omega) (fun e => hn (QYo.1 k e.symm)); have e3 := oldY k hk (fun e => hn (e ▸ hBb.2)); have e4 := (e1.trans e2).trans e3
      simpa using e4
structure St where
  known : List Pair
  waits : List Pair
instance okPairDec (p : Pair) : Decidable (okPair p) := by unfold okPair; infer_instance
def St.learn (s : St) (p : Pair) : Option St := if p ∈ s.known then some s else if s.known.length < 1000000 ∧ s.waits.length < 1000000 ∧ okPair p then some ⟨s.known ++ [p], s.waits ++ [p]⟩ else none
theorem SolverAt.oks {w : World} {B g b : Nat} {ok : Nat → Prop} {vc : Value} {creds : List Cred} {known waits : List Pair} (h : SolverAt w B ok g b vc creds known waits) : ∀ p ∈ known, okPair p := by
  obtain ⟨vw, hg, hBg, hBb, hvc, hT, hQ⟩ := h; intro p hp; exact hT.oks (p, .bool true) (List.mem_map.mpr ⟨p, hp, rfl⟩)
theorem SolverAt.base {w : World} {B g b : Nat} {ok : Nat → Prop} {vc : Value} {creds : List Cred} {known waits : List Pair} (h : SolverAt w B ok g b vc creds known waits) : B ≤ w.heap.size := by
  obtain ⟨vw, hg, hBg, hBb, hvc, hT, hQ⟩ := h; have := blk_lt hg; omega
theorem learn_calls (w : World) (B g b : Nat) (ok : Nat → Prop) (vc : Value) (creds : List Cred) (s s' : St) (p : Pair) (hS : SolverAt w B ok g b vc creds s.known s.waits) (h : s.learn p = some s') :
    Calls Tryd.prog 31 #[.pointer (some ⟨g, 0, none⟩), encPair p] w fun e w' => e = .returned (.tuple #[]) ∧ SolverAt w' B (fun k => ok k ∨ w.heap.size ≤ k) g b vc creds s'.known s'.waits ∧ Below B w w' ∧ Kept w w' ok := by
  unfold St.learn at h
  by_cases hin : p ∈ s.known
  · rw [if_pos hin] at h
    obtain rfl := Option.some.inj h; refine (learn_old w B g b ok vc creds s.known s.waits p (hS.oks p hin) hS hin).mono ?_; rintro e w' ⟨h1, h2, h3⟩; exact ⟨h1, h2.mono (fun _ h => .inl h), h3.mono hS.base, Kept.of_below h3 ok⟩
  · rw [if_neg hin] at h
    by_cases hr : s.known.length < 1000000 ∧ s.waits.length < 1000000 ∧ okPair p
    · rw [if_pos hr] at h
      obtain rfl := Option.some.inj h; exact learn_new w B g b ok vc creds s.known s.waits p hr.2.2 hS hin hr.1 hr.2.1
    · rw [if_neg hr] at h
      cases h
end Go.Proofs.YtpjddgmdgfjlfaaDoor.Pr
end
section
namespace Go.Proofs.YtpjddgmdgfjlfaaDoor
open Go.RowKit
def domName (n : Int) : ByteArray :=
  if n = 1 then ⟨#[100, 49]⟩ else if n = 2 then ⟨#[100, 50]⟩ else if n = 3 then ⟨#[100, 51]⟩ else if n = 4 then ⟨#[100, 52]⟩
  else if n = 5 then ⟨#[100, 53]⟩ else if n = 6 then ⟨#[100, 54]⟩ else if n = 7 then ⟨#[100, 55]⟩ else if n = 8 then ⟨#[100, 56]⟩
  else if n = 9 then ⟨#[100, 57]⟩ else if n = 10 then ⟨#[100, 49, 48]⟩ else if n = 11 then ⟨#[100, 49, 49]⟩ else if n = 12 then ⟨#[100, 49, 50]⟩
  else if n = 13 then ⟨#[100, 49, 51]⟩ else if n = 14 then ⟨#[100, 49, 52]⟩ else if n = 15 then ⟨#[100, 49, 53]⟩ else if n = 16 then ⟨#[100, 49, 54]⟩
  else ⟨#[]⟩
theorem domName_out (n : Int) (h : n < 1 ∨ 16 < n) : domName n = ⟨#[]⟩ := by
  unfold domName
  repeat rw [if_neg (by omega)]
set_option maxRecDepth 100000 in
theorem domain_walk (n : Int) (w : World) : Calls Tryd.prog 53 #[.int .i64 n] w fun e w' => e = .returned (.string (domName n)) ∧ w = w' := by
  by_cases h : n < 1 ∨ 16 < n
  · have H := Lib.hid (domName_out n h)
    rcases h with h | h
    · have h1 : decide (n < 1) = true := decide_eq_true h
      go_enter Tryd.func53, Tryd.ntmps53; go_wp2; go_ret; exact ⟨by rw [H.out]; rfl, rfl⟩
    · have h1 : decide (n < 1) = false := decide_eq_false (by omega)
      have h2 : decide (16 < n) = true := decide_eq_true h; go_enter Tryd.func53, Tryd.ntmps53; go_wp2; go_ret; exact ⟨by rw [H.out]; rfl, rfl⟩
  · have h' : n = 1 ∨ n = 2 ∨ n = 3 ∨ n = 4 ∨ n = 5 ∨ n = 6 ∨ n = 7 ∨ n = 8 ∨ n = 9 ∨ n = 10 ∨ n = 11 ∨ n = 12 ∨ n = 13 ∨ n = 14 ∨ n = 15 ∨ n = 16 := by omega
    clear h
    rcases h' with rfl | rfl | rfl | rfl | rfl | rfl | rfl | rfl | rfl | rfl | rfl | rfl | rfl | rfl | rfl | rfl
    all_goals
      go_enter Tryd.func53, Tryd.ntmps53; go_wp2; go_ret; exact ⟨by first | rfl | decide, rfl⟩
end Go.Proofs.YtpjddgmdgfjlfaaDoor
end
section
namespace Go.Proofs.YtpjddgmdgfjlfaaDoor.Pr
open Go.RowKit Go.Proofs.YtpjddgmdgfjlfaaDoorW.PrintWords Go.Proofs.YtpjddgmdgfjlfaaDoorW.PrintLast Go.Proofs.YtpjddgmdgfjlfaaDoorW.PrintMore
attribute [local go_sem] QaF QaD max_two min_two QaB QaA QaE QaC
set_option linter.unusedVariables false
set_option linter.unusedSimpArgs false
def names_Domain.f (a0 : Int) : Option ByteArray := some (domName a0)
theorem names_Domain.calls (a0 : Int) (r : ByteArray) (w : World) (h : names_Domain.f a0 = some r) :
    Calls Tryd.prog 53 #[.int .i64 a0] w fun e w' => e = .returned (.string r) ∧ Drawn0 w w' := by
  obtain rfl := Option.some.inj h
  exact (domain_walk a0 w).mono fun e w' ⟨he, hw⟩ => ⟨he, by rw [hw]; exact Drawn0.refl _⟩
def cred_Role.f (a0_0 : Int) (a0_1 : Int) (a0_2 : ByteArray) (a0_3 : Int) (a0_4 : ByteArray) (a0_5 : ByteArray) (a0_6 : ByteArray) (a0_7 : ByteArray) (a0_8 : ByteArray) : Option (ByteArray × ByteArray) := (names_Domain.f a0_0).bind fun t103 => (some (t103, a0_2))
def cred_Role.T1 : Bool × List (List Nat × List Nat) := (true, [([], []), ([0], [0]), ([1], [1]), ([2], [2]), ([], []), ([4], [4]), ([3, 5], [3, 5]), ([6, 3, 0, 1, 2, 3, 4, 5, 6], [6])])
def cred_Role.B1 : List Nat := [0, 1, 3, 7, 0, 16, 63, 127]
theorem cred_Role.tab1 : rtab .any (opsOf Tryd.f32 1) = cred_Role.T1 := by kernel_rfl
theorem cred_Role.bits1 : waitsOk cred_Role.T1.2 cred_Role.B1 = true := by kernel_rfl
set_option maxHeartbeats 8000000 in
set_option maxRecDepth 100000 in
theorem cred_Role.calls (a0_0 : Int) (a0_1 : Int) (a0_2 : ByteArray) (a0_3 : Int) (a0_4 : ByteArray) (a0_5 : ByteArray) (a0_6 : ByteArray) (a0_7 : ByteArray) (a0_8 : ByteArray) (r1 : ByteArray) (r2 : ByteArray) (w : World) (h : cred_Role.f a0_0 a0_1 a0_2 a0_3 a0_4 a0_5 a0_6 a0_7 a0_8 = some (r1, r2)) :
  Calls Tryd.prog 32 #[.agg #[.int .i64 a0_0, .int .i64 a0_1, .string a0_2, .int .i64 a0_3, .string a0_4, .string a0_5, .string a0_6, .string a0_7, .string a0_8]] w fun e w' => e = .returned (.agg #[.string r1, .string r2]) ∧ Below w.heap.size w w' := by
 have hu46 := Tryd.underlying46; have hu33 := Tryd.underlying33; have HB := Qae.mk (Below.refl w.heap.size w); have H : ((names_Domain.f a0_0).bind fun t103 => (some (t103, a0_2))) = some (r1, r2) := h; clear h; replace H := Option.bind_eq_some_iff.mp H; obtain ⟨t103, A20, H⟩ := H; replace H : (some (t103, a0_2)) = some (r1, r2) := H; have A2 := Qae.mk A20; clear A20; simp only [Option.some.injEq, Prod.mk.injEq] at H; obtain ⟨rfl, rfl⟩ := H; go_enter Tryd.func32, Tryd.ntmps32
 try go_wp2_with (first | ((with_reducible refine gate_dst (N := 1) rfl ?_); refine box_event ?hg (N := 1) ?hd (cs := #[.int .i64 a0_0, .int .i64 a0_1, .string a0_2, .int .i64 a0_3, .string a0_4, .string a0_5, .string a0_6, .string a0_7, .string a0_8]) (t := 46) ?hr ?_; (case hd => rfl); (case hg => rfl); (case hr => first | (go_simp; done) | (go_simp; rfl)); intro gb101 hg w3 hbox hb; have n0_ := Qae.mk (Qal (by repeat (first | (with_reducible first | exact HB.out | apply Qac | apply Qaa | apply Qad) | exact HB.out)) hb); have n1_ := Qae.mk (hbox); have n2_ := Qae.mk ((by rw [hg]; exact (Qaq (by repeat (first | (with_reducible first | exact HB.out | apply Qac | apply Qaa | apply Qad) | exact HB.out))) : w.heap.size ≤ gb101)); have n3_ := n2_; clear HB; have HB := n0_; have BK101 := n1_; have GW101 := n2_; have GE101 := n3_; clear n0_ n1_ n2_ n3_; clear hb hbox hg) | ((with_reducible refine gate_dst (N := 2) rfl ?_); refine box_event ?hg (N := 2) ?hd (cs := #[.string (⟨#[]⟩ : ByteArray), .string (⟨#[]⟩ : ByteArray)]) (t := 33) ?hr ?_; (case hd => rfl); (case hg => rfl); (case hr => first | (go_simp; done) | (go_simp; rfl)); intro gb102 hg w4 hbox hb; have n0_ := Qae.mk (Qax (g := gb101) (o := Qap a0_0 a0_1 a0_2 a0_3 a0_4 a0_5 a0_6 a0_7 a0_8 46) (by (with_reducible repeat (first | refine Qaf ?_ _ | refine Qaj ?_ | refine Qag ?_ _)); exact BK101.out) hb); have n1_ := Qae.mk (Qal (by repeat (first | (with_reducible first | exact HB.out | apply Qac | apply Qaa | apply Qad | refine Qak ?_ GE101.out) | exact HB.out)) hb); have n2_ := Qae.mk (hbox); have n3_ := Qae.mk ((by rw [hg]; exact (Qaq (by repeat (first | (with_reducible first | exact HB.out | apply Qac | apply Qaa | apply Qad | refine Qak ?_ GE101.out) | exact HB.out))) : w.heap.size ≤ gb102)); have n4_ := n3_; have n5_ := Qae.mk ((by rw [hg]; exact Nat.ne_of_lt (blk_lt (g := gb101) (o := Qap a0_0 a0_1 a0_2 a0_3 a0_4 a0_5 a0_6 a0_7 a0_8 46) (by (with_reducible repeat (first | refine Qaf ?_ _ | refine Qaj ?_ | refine Qag ?_ _)); exact BK101.out)) : gb101 ≠ gb102)); have n6_ := Qae.mk ((by rw [hg]; exact Nat.ne_of_gt (blk_lt (g := gb101) (o := Qap a0_0 a0_1 a0_2 a0_3 a0_4 a0_5 a0_6 a0_7 a0_8 46) (by (with_reducible repeat (first | refine Qaf ?_ _ | refine Qaj ?_ | refine Qag ?_ _)); exact BK101.out)) : gb102 ≠ gb101)); clear BK101; clear HB; have BK101 := n0_; have HB := n1_; have BK102 := n2_; have GW102 := n3_; have GE102 := n4_; have NB101_102 := n5_; have NB102_101 := n6_; clear n0_ n1_ n2_ n3_ n4_ n5_ n6_; clear hb hbox hg))
 have n0_ := Qae.mk (Qaj BK101.out); have n1_ := Qae.mk (Qaj BK102.out); have n2_ := Qae.mk (Qad HB.out); clear BK101; clear BK102; clear HB; have BK101 := n0_; have BK102 := n1_; have HB := n2_; clear n0_ n1_ n2_; refine start_ (n := 8) (S := fun w' => w'.cell? ⟨gb101, 0, none⟩ = some (.int .i64 a0_0) ∧ w'.cell? ⟨gb101, 1, none⟩ = some (.int .i64 a0_1) ∧ w'.cell? ⟨gb101, 2, none⟩ = some (.string a0_2) ∧ w'.cell? ⟨gb101, 3, none⟩ = some (.int .i64 a0_3) ∧ w'.cell? ⟨gb101, 4, none⟩ = some (.string a0_4) ∧ w'.cell? ⟨gb101, 5, none⟩ = some (.string a0_5) ∧ w'.cell? ⟨gb101, 6, none⟩ = some (.string a0_6) ∧ w'.cell? ⟨gb101, 7, none⟩ = some (.string a0_7) ∧ w'.cell? ⟨gb101, 8, none⟩ = some (.string a0_8)) (ds := []) #[ff,ff,ff,ff,ff,ff,ff,ff] (by kernel_rfl) rfl rfl ⟨(Qam BK101.out 0).trans rfl, (Qam BK101.out 1).trans rfl, (Qam BK101.out 2).trans rfl, (Qam BK101.out 3).trans rfl, (Qam BK101.out 4).trans rfl, (Qam BK101.out 5).trans rfl, (Qam BK101.out 6).trans rfl, (Qam BK101.out 7).trans rfl, (Qam BK101.out 8).trans rfl⟩ (fun hHeld => ?_); refine with_tabW cred_Role.tab1 cred_Role.bits1 (fun HT_ HW_ => ?_)
 generalize w4.drew = w5 at BK101 BK102 HB hHeld ⊢
 refine pure_ (i := 0) (N := some 3) (v := ?_) (a' := ?_) #[tt,ff,ff,ff,ff,ff,ff,ff] rfl rfl (any_of HT_.out (by kernel_rfl)) (fun _ _ _ h => h) (Or.inl ⟨by rfl, ?_⟩) ?_ ?_; rotate_left
 ·intro w'; go_simp; (with_reducible rfl)
 rotate_left
 ·simp only [Act.put, put_, i64_w, i32_w]; rfl
 refine pure_ (i := 1) (N := some 4) (v := ?_) (a' := ?_) #[tt,tt,ff,ff,ff,ff,ff,ff] rfl rfl (any_of HT_.out (by kernel_rfl)) (fun _ _ _ h => h) (Or.inl ⟨by rfl, ?_⟩) ?_ ?_; rotate_left
 ·intro w'; go_simp; (with_reducible rfl)
 rotate_left
 ·simp only [Act.put, put_, i64_w, i32_w]; rfl
 refine pure_ (i := 4) (N := some 7) (v := ?_) (a' := ?_) #[tt,tt,ff,ff,tt,ff,ff,ff] rfl rfl (any_of HT_.out (by kernel_rfl)) (fun _ _ _ h => h) (Or.inl ⟨by rfl, ?_⟩) ?_ ?_; rotate_left
 ·intro w'; go_simp; (with_reducible rfl)
 rotate_left
 ·simp only [Act.put, put_, i64_w, i32_w]; rfl
 refine take_ (i := 2) (N := some 5) (v := ?_) (a' := ?_) #[tt,tt,tt,ff,tt,ff,ff,ff] rfl rfl (take_ofW HT_.out HW_.out (by kernel_rfl)) (fun _ _ _ h => h) (Or.inl ⟨by rfl, ?_⟩) hHeld ?_ ?_; rotate_left
 ·rintro w' ⟨s0, s1, s2, s3, s4, s5, s6, s7, s8⟩; go_simp; (with_reducible rfl)
 rotate_left
 ·simp only [Act.put, put_, i64_w, i32_w]; rfl
 refine take_ (i := 5) (N := some 8) (v := ?_) (a' := ?_) #[tt,tt,tt,ff,tt,tt,ff,ff] rfl rfl (take_ofW HT_.out HW_.out (by kernel_rfl)) (fun _ _ _ h => h) (Or.inl ⟨by rfl, ?_⟩) hHeld ?_ ?_; rotate_left
 ·rintro w' ⟨s0, s1, s2, s3, s4, s5, s6, s7, s8⟩; go_simp; (with_reducible rfl)
 rotate_left
 ·simp only [Act.put, put_, i64_w, i32_w]; rfl
 refine one_ (i := 3) (N := some 6) #[tt,tt,tt,tt,tt,tt,ff,ff] rfl rfl (one_of HT_.out (by kernel_rfl)) (by decide) (fun K hK => ?_); refine goes_ Tryd.func53 (by kernel_rfl) rfl #[.int .i64 a0_0] (by rfl) rfl rfl (by (try simp only [List.map_toArray, List.map_cons, List.map_nil]); first | done | rfl | (simp only [List.length_drop, List.length_take]; rfl)) ?_
 with_reducible refine (names_Domain.calls a0_0 t103 _ A2.out).mono ?_
 rintro e w' ⟨rfl, ⟨nd, rfl⟩⟩; refine ⟨_, rfl, ?_⟩; refine hK.out _ _ ⟨(Qam BK101.out 0).trans rfl, (Qam BK101.out 1).trans rfl, (Qam BK101.out 2).trans rfl, (Qam BK101.out 3).trans rfl, (Qam BK101.out 4).trans rfl, (Qam BK101.out 5).trans rfl, (Qam BK101.out 6).trans rfl, (Qam BK101.out 7).trans rfl, (Qam BK101.out 8).trans rfl⟩ (fun hHeld => ?_); clear hK K; refine norm_ (a' := ?_) ?_ ?_; rotate_left
 ·show Act.put _ (some 6) _ = _
  simp only [Act.put, put_, i64_w, i32_w]; rfl
 refine pure_ (i := 6) (N := some 9) (v := ?_) (a' := ?_) #[tt,tt,tt,tt,tt,tt,tt,ff] rfl rfl (any_of HT_.out (by kernel_rfl)) (fun _ _ _ h => h) (Or.inl ⟨by rfl, ?_⟩) ?_ ?_; rotate_left
 ·intro w'; go_simp; (with_reducible rfl)
 rotate_left
 ·simp only [Act.put, put_, i64_w, i32_w]; rfl
 refine one_ (i := 7) (N := none) #[tt,tt,tt,tt,tt,tt,tt,tt] rfl rfl (one_of HT_.out (by kernel_rfl)) (by decide) (fun K hK => ?_); have hs6 : w5.cell? ⟨gb102, 0, none⟩ = some (.string (⟨#[]⟩ : ByteArray)) := (Qam BK102.out 0).trans rfl; have hfs6 := blk_frozen BK102.out 0; have hns6_0 := NB101_102.out; have hms6_0 := NB102_101.out; have hs7 : w5.cell? ⟨gb102, 1, none⟩ = some (.string (⟨#[]⟩ : ByteArray)) := (Qam BK102.out 1).trans rfl; have hfs7 := blk_frozen BK102.out 1; have hns7_0 := NB101_102.out; have hms7_0 := NB102_101.out; refine skip_ (w1 := ?_) (by rfl) rfl ?_ ?_; rotate_left
 ·go_simp; rfl
 refine hK.out _ _ ⟨((cell_far (p := ⟨gb102, _, none⟩) NB101_102.out _).trans (((cell_far (p := ⟨gb102, _, none⟩) NB101_102.out _).trans (hHeld.1)))), ((cell_far (p := ⟨gb102, _, none⟩) NB101_102.out _).trans (((cell_far (p := ⟨gb102, _, none⟩) NB101_102.out _).trans (hHeld.2.1)))), ((cell_far (p := ⟨gb102, _, none⟩) NB101_102.out _).trans (((cell_far (p := ⟨gb102, _, none⟩) NB101_102.out _).trans (hHeld.2.2.1)))), ((cell_far (p := ⟨gb102, _, none⟩) NB101_102.out _).trans (((cell_far (p := ⟨gb102, _, none⟩) NB101_102.out _).trans (hHeld.2.2.2.1)))), ((cell_far (p := ⟨gb102, _, none⟩) NB101_102.out _).trans (((cell_far (p := ⟨gb102, _, none⟩) NB101_102.out _).trans (hHeld.2.2.2.2.1)))), ((cell_far (p := ⟨gb102, _, none⟩) NB101_102.out _).trans (((cell_far (p := ⟨gb102, _, none⟩) NB101_102.out _).trans (hHeld.2.2.2.2.2.1)))), ((cell_far (p := ⟨gb102, _, none⟩) NB101_102.out _).trans (((cell_far (p := ⟨gb102, _, none⟩) NB101_102.out _).trans (hHeld.2.2.2.2.2.2.1)))), ((cell_far (p := ⟨gb102, _, none⟩) NB101_102.out _).trans (((cell_far (p := ⟨gb102, _, none⟩) NB101_102.out _).trans (hHeld.2.2.2.2.2.2.2.1)))), ((cell_far (p := ⟨gb102, _, none⟩) NB101_102.out _).trans (((cell_far (p := ⟨gb102, _, none⟩) NB101_102.out _).trans (hHeld.2.2.2.2.2.2.2.2))))⟩ (fun hHeld => ?_); clear hK K; refine done_ (done_of HT_.out (by kernel_rfl)) ?_
 try go_wp2
 refine bodyPost_ret (results_cell_row rfl _ _ gb102 33 #[.string t103, .string a0_2] (0, 0) _ rfl (by (with_reducible repeat (first | refine Qaf ?_ _ | refine Qaj ?_ | refine Qag ?_ _)); refine blk_put (cs := #[.string t103, .string (⟨#[]⟩ : ByteArray)]) ?_ 1 _ rfl; (with_reducible repeat (first | refine Qaf ?_ _ | refine Qaj ?_ | refine Qag ?_ _)); refine blk_put (cs := #[.string (⟨#[]⟩ : ByteArray), .string (⟨#[]⟩ : ByteArray)]) ?_ 0 _ rfl; (with_reducible repeat (first | refine Qaf ?_ _ | refine Qaj ?_ | refine Qag ?_ _)); exact BK102.out) Tryd.underlying33 rfl (by kernel_rfl)) rfl ?_; exact ⟨by first | rfl | (simp [Qau, Qat] <;> rfl) | (simp [*, Qau, Qat] <;> rfl), by repeat (first | (with_reducible first | exact HB.out | apply Qac | apply Qaa | apply Qad | refine Qak ?_ GE101.out | refine Qak ?_ GE102.out) | exact HB.out)⟩
end Go.Proofs.YtpjddgmdgfjlfaaDoor.Pr
end
section
namespace Go.Proofs.YtpjddgmdgfjlfaaDoor.Pr
open Go.RowKit Go.Proofs.YtpjddgmdgfjlfaaDoorW.PrintWords Go.Proofs.YtpjddgmdgfjlfaaDoorW.PrintLast Go.Proofs.YtpjddgmdgfjlfaaDoorW.PrintMore
attribute [local go_sem] QaF QaD max_two min_two QaB QaA QaE QaC
set_option linter.unusedVariables false
set_option linter.unusedSimpArgs false
attribute [local go_sem high] eqA33
def encCred (c : Cred) : Value := .agg #[.int .i64 c.f0.f0, .int .i64 c.f0.f1, .string c.f1, .int .i64 c.f2, .string c.f3, .string c.f4.f0, .string c.f4.f1, .string c.f5.f0, .string c.f5.f1]
def credRole (c : Cred) : Role := ⟨domName c.f0.f0, c.f1⟩
theorem credRole_calls (c : Cred) (w : World) : Calls Tryd.prog 32 #[encCred c] w fun e w' => e = .returned (.agg #[.string (credRole c).f0, .string (credRole c).f1]) ∧ Below w.heap.size w w' := cred_Role.calls _ _ _ _ _ _ _ _ _ _ _ _ (by rfl)
theorem eqRole_t {a b : Role} (h : a = b) : (a.f0.toList == b.f0.toList && (a.f1.toList == b.f1.toList)) = true := by subst h; simp
theorem eqRole_f {a b : Role} (h : ¬ a = b) : (a.f0.toList == b.f0.toList && (a.f1.toList == b.f1.toList)) = false := by
  rw [Bool.eq_false_iff]; intro e; simp only [Bool.and_eq_true, beq_iff_eq] at e; exact h (role_ext ((Lib.bytes_beq_iff _ _).mp (by rw [beq_iff_eq]; exact e.1)) ((Lib.bytes_beq_iff _ _).mp (by rw [beq_iff_eq]; exact e.2)))
abbrev credObj (c : Cred) : Obj := .cells #[.int .i64 c.f0.f0, .int .i64 c.f0.f1, .string c.f1, .int .i64 c.f2, .string c.f3, .string c.f4.f0, .string c.f4.f1, .string c.f5.f0, .string c.f5.f1] 46
abbrev pairObj (p : Pair) : Obj := .cells #[.string p.f0.f0, .string p.f0.f1, .string p.f1] 47
theorem boxed {w W : World} {c : Cred} {p : Pair} (h : (w.alloc (credObj c)).alloc (pairObj p) = W) : Below w.heap.size w W ∧ W.heap[w.heap.size]? = some (credObj c) ∧ W.heap[w.heap.size + 1]? = some (pairObj p) := by
  subst h; refine ⟨Qac (Qac (Below.refl w.heap.size w) _) _, Qag (blk_new w _) _, ?_⟩; have := blk_new (w.alloc (credObj c)) (pairObj p)
  simpa using this
theorem credCells {W : World} {k : Nat} {c : Cred} (h : W.heap[k]? = some (credObj c)) : W.cell? ⟨k, 0, none⟩ = some (.int .i64 c.f0.f0) ∧ W.cell? ⟨k, 1, none⟩ = some (.int .i64 c.f0.f1) ∧ W.cell? ⟨k, 2, none⟩ = some (.string c.f1) ∧ W.cell? ⟨k, 3, none⟩ = some (.int .i64 c.f2) ∧ W.cell? ⟨k, 4, none⟩ = some (.string c.f3) ∧ W.cell? ⟨k, 5, none⟩ = some (.string c.f4.f0) ∧ W.cell? ⟨k, 6, none⟩ = some (.string c.f4.f1) ∧ W.cell? ⟨k, 7, none⟩ = some (.string c.f5.f0) ∧ W.cell? ⟨k, 8, none⟩ = some (.string c.f5.f1) :=
  ⟨(Qam h 0).trans rfl, (Qam h 1).trans rfl, (Qam h 2).trans rfl, (Qam h 3).trans rfl, (Qam h 4).trans rfl, (Qam h 5).trans rfl, (Qam h 6).trans rfl, (Qam h 7).trans rfl, (Qam h 8).trans rfl⟩
theorem pairCells {W : World} {k : Nat} {p : Pair} (h : W.heap[k]? = some (pairObj p)) : W.cell? ⟨k, 0, none⟩ = some (.string p.f0.f0) ∧ W.cell? ⟨k, 1, none⟩ = some (.string p.f0.f1) ∧ W.cell? ⟨k, 2, none⟩ = some (.string p.f1) :=
  ⟨(Qam h 0).trans rfl, (Qam h 1).trans rfl, (Qam h 2).trans rfl⟩
def includeF (c : Cred) (p : Pair) (s : St) : Option St := if p.f0 = c.f4 then s.learn ⟨credRole c, p.f1⟩ else some s
set_option maxRecDepth 100000 in
set_option maxHeartbeats 2000000 in
theorem include_calls (w : World) (B g b : Nat) (ok : Nat → Prop) (vc : Value) (creds : List Cred) (s s' : St) (c : Cred) (p : Pair) (hS : SolverAt w B ok g b vc creds s.known s.waits) (h : includeF c p s = some s') :
    Calls Tryd.prog 33 #[.pointer (some ⟨g, 0, none⟩), encCred c, encPair p] w fun e w' => e = .returned (.tuple #[]) ∧ SolverAt w' B (fun k => ok k ∨ w.heap.size ≤ k) g b vc creds s'.known s'.waits ∧ Below B w w' ∧ Kept w w' ok := by
  unfold includeF at h
  by_cases he : p.f0 = c.f4
  · rw [if_pos he] at h
    have hb := eqRole_t he; clear he; unfold encPair encCred; go_enter Tryd.func33, Tryd.ntmps33; go_wp2; change Code.wp _ _ _ _ ((w.alloc (credObj c)).alloc (pairObj p))
    generalize hW : (w.alloc (credObj c)).alloc (pairObj p) = W
    obtain ⟨HB, BC, BP⟩ := boxed hW; obtain ⟨c0, c1, c2, c3, c4, c5, c6, c7, c8⟩ := credCells BC; obtain ⟨p0, p1, p2⟩ := pairCells BP; clear hW
    go_region_with (first | (go_at_call 32; refine (credRole_calls c _).mono ?_; rintro e w3 ⟨rfl, hB3⟩; have HB3 : Below w.heap.size w w3 := Qal (by repeat (first | exact HB | apply Qaa | apply Qad)) hB3; have p23 := pw_cell_below hB3 p2) | (go_at_call 31; refine (learn_calls _ B g b ok vc creds s s' ⟨credRole c, p.f1⟩ ?_ h).mono ?_; exact hS.below HB3; rintro e w5 ⟨rfl, hS5, hB5, hK5⟩))
    all_goals
      go_wp2; go_end0; exact ⟨rfl, hS5.mono (fun k h => h.imp_right (fun h => Nat.le_trans HB3.size h)), (HB3.mono hS.base).trans hB5, (Kept.of_below HB3 ok).trans hK5 HB3.size (fun _ _ h => h)⟩
  · rw [if_neg he] at h
    obtain rfl := Option.some.inj h; have hb := eqRole_f he; clear he; unfold encPair encCred; go_enter Tryd.func33, Tryd.ntmps33; go_wp2; go_end0; have hb := Qac (Qac (Below.refl w.heap.size w) (credObj c)) (pairObj p); exact ⟨rfl, (hS.below hb).mono (fun _ h => .inl h), hb.mono hS.base, Kept.of_below hb ok⟩
end Go.Proofs.YtpjddgmdgfjlfaaDoor.Pr
end
section
namespace Go.Proofs.YtpjddgmdgfjlfaaDoor.Pr
open Go.RowKit Go.Proofs.YtpjddgmdgfjlfaaDoorW.PrintWords Go.Proofs.YtpjddgmdgfjlfaaDoorW.PrintLast Go.Proofs.YtpjddgmdgfjlfaaDoorW.PrintMore
attribute [local go_sem] QaF QaD max_two min_two QaB QaA QaE QaC
set_option linter.unusedVariables false
set_option linter.unusedSimpArgs false
set_option maxRecDepth 100000 in
set_option maxHeartbeats 1000000 in
theorem or_calls (w : World) (g : Nat) (a b : Int) (h0 : w.cell? ⟨g, 0, none⟩ = some (.int .i64 a)) (h1 : w.cell? ⟨g, 1, none⟩ = some (.int .i64 b)) :
    Calls Tryd.prog 51 #[.slice (some ⟨g, 0, none⟩) 2 2] w fun e w' => e = .returned (.int .i64 (if a = 0 then b else a)) ∧ w' = w := by
  obtain ⟨r, hr⟩ : ∃ r, r = (if a = 0 then b else a) := ⟨_, rfl⟩
  rw [← hr]; have HR := Lib.hid hr; clear hr; go_enter Tryd.func51, Tryd.ntmps51; go_wp2
  go_loopg [5, 8] 3 (fun kq _ v8 w' => ∃ i : Nat, v8 = .int .i64 i ∧ Hid (kq = 3 - i) ∧ Hid (i ≤ 2) ∧ w' = w ∧ Hid (1 ≤ i → a = 0) ∧ Hid (2 ≤ i → b = 0))
  case atStart => exact ⟨0, rfl, Lib.hid rfl, Lib.hid (by omega), rfl, Lib.hid (by omega), Lib.hid (by omega)⟩
  case round =>
    obtain ⟨i, rfl, HK, HI, rfl, HA, HB⟩ := hrel; have hi := HI.out
    by_cases i0 : i = 0
    · subst i0
      clear hi
      by_cases a0 : a = 0
      · have b0 : (a != 0) = false := by rw [a0]; rfl
        have A0 := Lib.hid a0; clear a0; go_wp2
        go_roundg 2
        case measure => have := HK.out; omega
        case rel => exact ⟨1, rfl, Lib.hid rfl, Lib.hid (by omega), rfl, Lib.hid (fun _ => A0.out), Lib.hid (by omega)⟩
      · have b0 : (a != 0) = true := bne_iff_ne.mpr a0
        have A0 := Lib.hid a0; clear a0; go_wp2; go_ret; exact ⟨by rw [HR.out, if_neg A0.out]; rfl, rfl⟩
    · by_cases i1 : i = 1
      · subst i1
        clear hi i0
        by_cases a0 : b = 0
        · have b0 : (b != 0) = false := by rw [a0]; rfl
          have A0 := Lib.hid a0; clear a0; go_wp2
          go_roundg 1
          case measure => have := HK.out; omega
          case rel => exact ⟨2, rfl, Lib.hid rfl, Lib.hid (by omega), rfl, Lib.hid (fun _ => HA.out (by omega)), Lib.hid (fun _ => A0.out)⟩
        · have b0 : (b != 0) = true := bne_iff_ne.mpr a0
          have A0 := Lib.hid a0; clear a0; go_wp2; go_ret; exact ⟨by rw [HR.out, if_pos (HA.out (by omega))]; rfl, rfl⟩
      · have i2 : i = 2 := by omega
        subst i2; clear hi i0 i1; go_wp2; go_ret; exact ⟨by rw [HR.out, if_pos (HA.out (by omega)), HB.out (by omega)]; rfl, rfl⟩
end Go.Proofs.YtpjddgmdgfjlfaaDoor.Pr
end
section
namespace Go.Proofs.YtpjddgmdgfjlfaaDoor.Pr
open Go.RowKit Go.Proofs.YtpjddgmdgfjlfaaDoorW.PrintWords Go.Proofs.YtpjddgmdgfjlfaaDoorW.PrintLast Go.Proofs.YtpjddgmdgfjlfaaDoorW.PrintMore
open Go.Sort
structure Flat {α : Type} (d : Kd α) (enc : α → List Value) : Prop where
  opens : ∀ {w base ok x cs}, d.M w base ok x cs → cs = enc x
  shuts : ∀ w base ok x, d.M w base ok x (enc x)
  len : ∀ x, (enc x).length = d.sz
section
variable {α : Type} [Inhabited α] {d : Kd α} {enc : α → List Value} {w : World} {e base : Nat} {ok : Nat → Prop} {g off n cap : Nat} {l : List α}
omit [Inhabited α] in
theorem flat_len (enc : α → List Value) (k : Nat) (hk : ∀ x, (enc x).length = k) (l : List α) : (l.flatMap enc).length = l.length * k := by
  induction l with
  | nil => simp
  | cons x l ih => rw [List.flatMap_cons, List.length_append, hk, ih, List.length_cons, Nat.add_mul, Nat.one_mul, Nat.add_comm]
theorem flat_toList (enc : α → List Value) (k : Nat) (hk : ∀ x, (enc x).length = k) (l : List α) : (flatK enc k l.toArray).toList = l.flatMap enc := by
  apply List.ext_getElem?
  intro i; have hlen : (l.flatMap enc).length = l.length * k := flat_len enc k hk l
  by_cases hi : i < l.length * k
  · have hk0 : 0 < k := by rcases Nat.eq_zero_or_pos k with h | h; (subst h; simp at hi); exact h
    have h1 := get_flatK enc k l.toArray i (by simpa using hi); rw [Array.getElem?_toList, getElem?_pos _ i (by simpa using hi)]; rw [getElem!_pos _ i (by simpa using hi)] at h1; rw [h1]; clear h1 hlen
    induction l generalizing i with
    | nil => simp at hi
    | cons x l ih =>
      rw [List.flatMap_cons]
      by_cases hx : i < k
      · rw [List.getElem?_append_left (by rw [hk]; exact hx), Nat.div_eq_of_lt hx, Nat.mod_eq_of_lt hx]
        simp [hk, hx]
      · rw [List.getElem?_append_right (by rw [hk]; omega), hk]
        have hi2 : i - k < l.length * k := by simp [Nat.add_mul] at hi; omega
        have e1 : i / k = (i - k) / k + 1 := by
          have := Nat.add_div_right (i - k) hk0; rw [show i - k + k = i by omega] at this; exact this
        have e2 : i % k = (i - k) % k := by
          have := Nat.add_mod_right (i - k) k; rw [show i - k + k = i by omega] at this; exact this
        rw [← ih (i - k) hi2, e1, e2]; simp
  · rw [Array.getElem?_toList, getElem?_neg _ i (by simpa using hi), List.getElem?_eq_none (by omega)]
omit [Inhabited α] in
theorem reps_flat (hF : Flat d enc) {inner : List Value} (h : Reps (d.M w base ok) d.sz l inner) : inner = l.flatMap enc := by
  induction l generalizing inner with
  | nil =>
    have := h.1; simp at this; simp [this]
  | cons x l ih =>
    have h0 := hF.opens (h.2 0 x rfl); simp only [Nat.zero_mul, List.drop_zero] at h0
    have ht : Reps (d.M w base ok) d.sz l (inner.drop d.sz) := ⟨by rw [List.length_drop, h.1]; simp [Nat.add_mul], fun j p hp => by
      have := h.2 (j + 1) p (by simpa using hp); rw [List.drop_drop, show d.sz + j * d.sz = (j + 1) * d.sz by rw [Nat.add_mul]; omega]
      exact this⟩
    rw [List.flatMap_cons, ← ih ht, ← h0, List.take_append_drop]
omit [Inhabited α] in
theorem flat_reps (hF : Flat d enc) (w : World) (base : Nat) (ok : Nat → Prop) (l : List α) : Reps (d.M w base ok) d.sz l (l.flatMap enc) := by
  induction l with
  | nil => exact Reps.none _ _
  | cons x l ih =>
    refine ⟨?_, fun j p hp => ?_⟩
    · rw [List.flatMap_cons, List.length_append, hF.len, ih.1]
      simp [Nat.add_mul]; omega
    · rw [List.flatMap_cons]
      cases j with
      | zero =>
        simp at hp; subst hp; rw [Nat.zero_mul, List.drop_zero, List.take_append_of_le_length (by rw [hF.len]; exact Nat.le_refl _), List.take_of_length_le (by rw [hF.len]; exact Nat.le_refl _)]; exact hF.shuts _ _ _ _
      | succ j =>
        rw [show (j + 1) * d.sz = (enc x).length + j * d.sz by rw [hF.len, Nat.add_mul]; omega, ← List.drop_drop, List.drop_left' rfl]; exact ih.2 j p (by simpa using hp)
theorem holds_of_R (hF : Flat d enc) (hR : Kd.R d e w base ok (.slice (some ⟨g, off, none⟩) n cap) l) : off = 0 ∧ n = l.length ∧ base ≤ g ∧ HoldsK enc d.sz w g 0 l.toArray ∧ g < w.heap.size ∧ cap ≤ maxLen := by
  obtain ⟨h0, inner, ⟨hl, ho⟩, hr⟩ := hR
  rcases ho with ⟨ho, _⟩ | ⟨g', cap', cur, hv, hg, hb, hle, hmax, hsz, htake⟩
  · cases ho
  · simp only [Value.slice.injEq, Option.some.injEq, Addr.mk.injEq] at hv
    obtain ⟨⟨rfl, rfl, _⟩, rfl, rfl⟩ := hv; refine ⟨rfl, rfl, hg, ?_, blk_lt hb, hmax⟩; have hin := reps_flat hF hr; intro j hj; rw [size_flatK] at hj
    have hj' : j < l.length * d.sz := by simpa using hj
    rw [Nat.zero_add]; refine ⟨?_, blk_frozen hb j⟩; rw [Qam hb]
    have e1 : cur[j]? = inner[j]? := by
      rw [← htake, List.getElem?_take_of_lt hj', Array.getElem?_toList]
    rw [e1, hin, ← flat_toList enc d.sz hF.len, Array.getElem?_toList, getElem?_pos _ j (by rw [size_flatK]; exact hj), getElem!_pos _ j (by rw [size_flatK]; exact hj)]; rfl
theorem sorted_block {w : World} {e : Nat} {cur : Array Value} (hb : w.heap[g]? = some (.cells cur e (0, 0))) (k m : Nat) (dl : List α) (os : Array Obj) :
    (sortWorldK enc k w g 0 m dl.toArray os).heap[g]? = some (.cells (putCells id 0 (flatK enc k dl.toArray) cur) e (0, 0)) := by
  unfold sortWorldK
  have h1 : g < (putRowK enc k (Sort.ahead w m) g 0 dl.toArray).heap.size := by
    show g < (putRow id (Sort.ahead w m) g 0 _).heap.size
    rw [size_putRow]; exact blk_lt hb
  rw [heap_grow_old _ _ h1]
  show ((Sort.ahead w m).heap.modify g _)[g]? = _
  rw [Array.getElem?_modify]
  show (if g = g then (w.heap[g]?).map _ else _) = _
  rw [if_pos rfl, hb]; rfl
theorem sorted_other (enc : α → List Value) (w : World) (g k m : Nat) (dl : List α) (os : Array Obj) (i : Nat) (hi : i < w.heap.size) (hne : i ≠ g) : (sortWorldK enc k w g 0 m dl.toArray os).heap[i]? = w.heap[i]? := by
  unfold sortWorldK
  have h1 : i < (putRowK enc k (Sort.ahead w m) g 0 dl.toArray).heap.size := by
    show i < (putRow id (Sort.ahead w m) g 0 _).heap.size
    rw [size_putRow]; exact hi
  rw [heap_grow_old _ _ h1]
  show ((Sort.ahead w m).heap.modify g _)[i]? = _
  rw [Array.getElem?_modify, if_neg (by omega)]; rfl
theorem sorted_below (enc : α → List Value) (w : World) (g k m : Nat) (dl : List α) (os : Array Obj) {B : Nat} (hB : B ≤ w.heap.size) (hg : B ≤ g) : Below B w (sortWorldK enc k w g 0 m dl.toArray os) := by
  refine ⟨rfl, rfl, rfl, ?_, fun i hi => sorted_other enc w g k m dl os i (by omega) (by omega)⟩; unfold sortWorldK; rw [size_grow]
  show _ ≤ (putRow id (Sort.ahead w m) g 0 _).heap.size + _
  rw [size_putRow]; exact Nat.le_add_right _ _
theorem R_of_sorted (hF : Flat d enc) (hR : Kd.R d e w base ok (.slice (some ⟨g, 0, none⟩) n cap) l) (m : Nat) (dl : List α) (os : Array Obj) (hlen : dl.length = l.length) : Kd.R d e (sortWorldK enc d.sz w g 0 m dl.toArray os) base ok (.slice (some ⟨g, 0, none⟩) n cap) dl := by
  obtain ⟨h0, inner, ⟨hl, ho⟩, hr⟩ := hR
  rcases ho with ⟨ho, _⟩ | ⟨g', cap', cur, hv, hg, hb, hle, hmax, hsz, htake⟩
  · cases ho
  · simp only [Value.slice.injEq, Option.some.injEq, Addr.mk.injEq] at hv
    obtain ⟨⟨rfl, _, _⟩, rfl, rfl⟩ := hv; refine ⟨h0, dl.flatMap enc, ⟨?_, .inr ⟨g, cap, putCells id 0 (flatK enc d.sz dl.toArray) cur, by rw [hlen], hg, sorted_block hb d.sz m dl os, by omega, hmax, ?_, ?_⟩⟩, flat_reps hF _ _ _ _⟩
    · exact (flat_reps hF w base ok dl).1
    · unfold putCells
      simpa using hsz
    · rw [← flat_toList enc d.sz hF.len]
      apply List.ext_getElem?
      intro i; have hle2 : l.length * d.sz ≤ cap * d.sz := Nat.mul_le_mul_right _ hle
      by_cases hi : i < l.length * d.sz
      · rw [List.getElem?_take_of_lt (by rw [hlen]; exact hi), Array.getElem?_toList, Array.getElem?_toList]
        unfold putCells; rw [Array.getElem?_mapIdx, getElem?_pos cur i (by omega), getElem?_pos _ i (by rw [size_flatK]; simpa [hlen] using hi)]; simp only [Option.map_some]; rw [if_pos ⟨Nat.zero_le _, by rw [size_flatK]; simpa [hlen] using hi⟩, Nat.sub_zero, getElem!_pos _ i (by rw [size_flatK]; simpa [hlen] using hi)]; rfl
      · rw [List.getElem?_eq_none (by rw [List.length_take]; rw [hlen]; omega), Array.getElem?_toList, getElem?_neg _ i (by rw [size_flatK]; simpa [hlen] using hi)]
end
end Go.Proofs.YtpjddgmdgfjlfaaDoor.Pr
end
section
namespace Go.Proofs
open Go.Shelf
def Tryd.cmpInt_ren : Go.Shelf.Ren := ⟨fun | 5 => 52 | 7 => 62 | n => n, fun | 22 => 3 | 3 => 3 | 4 => 4 | n => n, fun | n => n⟩
theorem Tryd.cmpInt : Go.Proofs.SlLaysC2.n5 Tryd.prog Tryd.cmpInt_ren := {
  mixed := by kernel_rfl
  f5 := ⟨Tryd.f52.name, by decide, Tryd.func52.trans (congrArg some (by kernel_rfl))⟩
  f7 := ⟨Tryd.f62.name, by decide, Tryd.func62.trans (congrArg some (by kernel_rfl))⟩
  t3 := Tryd.underlying3
  a3 := Tryd.isAgg3
  z3 := Tryd.sizeOf3
  v3 := Tryd.zeroValue3
  t4 := Tryd.underlying4
  a4 := Tryd.isAgg4
  z4 := Tryd.sizeOf4
  v4 := Tryd.zeroValue4
  t22 := Tryd.underlying3
  a22 := Tryd.isAgg3
  z22 := Tryd.sizeOf3
  v22 := Tryd.zeroValue3 }
end Go.Proofs
end
section
namespace Go.Proofs.YtpjddgmdgfjlfaaDoor.Pr
open Go.RowKit Go.Proofs.YtpjddgmdgfjlfaaDoorW.PrintWords Go.Proofs.YtpjddgmdgfjlfaaDoorW.PrintLast Go.Proofs.YtpjddgmdgfjlfaaDoorW.PrintMore
attribute [local go_sem] QaF QaD max_two min_two QaB QaA QaE QaC
set_option linter.unusedVariables false
set_option linter.unusedSimpArgs false
def credCmp (x y : Cred) : Int := if Lib.compareInt x.f0.f0 y.f0.f0 = 0 then Lib.compareInt x.f0.f1 y.f0.f1 else Lib.compareInt x.f0.f0 y.f0.f0
theorem cmp_calls (x y : Int) (w : World) : Calls Tryd.prog 52 #[.int .i64 x, .int .i64 y] w fun e w' => e = .returned (.int .i64 (Lib.compareInt x y)) ∧ w' = w := AnyG.cmp_Compare_int Tryd.cmpInt x y w
theorem boxes_grow (w : World) (a b c : Obj) (n : Nat) : ∃ q os, ((((w.alloc a).alloc b).drewN n).alloc c) = Sort.grow (w.drewN q) os := by
  refine ⟨n, #[a] ++ #[b] ++ #[c], ?_⟩; rw [Sort.alloc_eq_grow, Sort.alloc_eq_grow, Sort.alloc_eq_grow, Sort.grow_grow]; exact Sort.grow_grow (w.drewN n) _ _
set_option maxRecDepth 100000 in
set_option maxHeartbeats 4000000 in
theorem sorted1_calls (x y : Cred) (W : World) : Calls Tryd.prog 50 #[encCred x, encCred y] W fun e w' => e = .returned (.int .i64 (credCmp x y)) ∧ ∃ q os', w' = Sort.grow (W.drewN q) os' := by
  unfold credCmp encCred
  have hc1 := fun W' => cmp_calls x.f0.f0 y.f0.f0 W'
  have hc2 := fun W' => cmp_calls x.f0.f1 y.f0.f1 W'
  generalize Lib.compareInt x.f0.f0 y.f0.f0 = r1 at hc1 ⊢
  generalize Lib.compareInt x.f0.f1 y.f0.f1 = r2 at hc2 ⊢
  obtain ⟨r, hr⟩ : ∃ r, r = (if r1 = 0 then r2 else r1) := ⟨_, rfl⟩
  have hor := fun W g h0 h1 => or_calls W g r1 r2 h0 h1
  simp only [← hr] at hor ⊢; clear hr; go_enter Tryd.func50, Tryd.ntmps50
  go_upto_region 1 with fail
  change Code.wp _ _ _ _ ((W.alloc (credObj x)).alloc (credObj y))
  have HG : ∀ n : Nat, ∃ q os, ((((W.alloc (credObj x)).alloc (credObj y)).drewN n).alloc (.cells #[.int .i64 r1, .int .i64 r2] 3)) = Sort.grow (W.drewN q) os := fun n => boxes_grow W _ _ _ n
  have BX : ((W.alloc (credObj x)).alloc (credObj y)).heap[W.heap.size]? = some (credObj x) := Qag (blk_new W _) _
  have BY : ((W.alloc (credObj x)).alloc (credObj y)).heap[W.heap.size + 1]? = some (credObj y) := by
    have := blk_new (W.alloc (credObj x)) (credObj y)
    simpa using this
  generalize (W.alloc (credObj x)).alloc (credObj y) = V at HG BX BY ⊢
  have x0 := (credCells BX).1; have x1 := (credCells BX).2.1; have y0 := (credCells BY).1; have y1 := (credCells BY).2.1; refine wp_region_still_tail 14 (by kernel_rfl) (by kernel_rfl) ?_; simp only [List.take_succ_cons, List.take_zero, List.drop_succ_cons, List.drop_zero]
  still_step
  still_step
  still_step
  still_step
  still_step
  still_step
  still_call (hc1 _)
  still_step
  still_step
  still_step
  still_step
  still_step
  still_step
  still_call (hc2 _)
  refine wpStill_nil ?_; change wpList _ _ _ _ _ V.drew
  go_wp2_with (go_at_call 51; refine (hor _ V.heap.size ?_ ?_).mono ?_; simp; simp; rintro e w3 ⟨rfl, rfl⟩)
  go_ret; exact ⟨rfl, HG 1⟩
end Go.Proofs.YtpjddgmdgfjlfaaDoor.Pr
end
section
namespace Go.Proofs
open Go.Shelf
def Tryd.sortPair_ren : Go.Shelf.Ren := ⟨fun | 6 => 36 | 15 => 59 | 14 => 58 | 28 => 72 | 29 => 73 | 20 => 64 | 21 => 65 | 22 => 66 | 23 => 67 | 24 => 68 | 25 => 69 | 26 => 70 | 27 => 71 | 46 => 77 | 47 => 78 | 48 => 79 | 49 => 80 | 50 => 81 | 57 => 84 | n => n, fun | 22 => 27 | 24 => 47 | 25 => 62 | 3 => 3 | 39 => 75 | 0 => 0 | 53 => 88 | 55 => 90 | 4 => 4 | 46 => 81 | 45 => 80 | 50 => 85 | 5 => 5 | 9 => 9 | 66 => 94 | 70 => 98 | 76 => 101 | 77 => 102 | n => n, fun | n => n⟩
theorem Tryd.sortPair : Go.Proofs.SlLaysF0.n6 Tryd.prog Tryd.sortPair_ren := {
  mixed := by kernel_rfl
  f6 := ⟨Tryd.f36.name, by decide, Tryd.func36.trans (congrArg some (by kernel_rfl))⟩
  f14 := ⟨Tryd.f58.name, by decide, Tryd.func58.trans (congrArg some (by kernel_rfl))⟩
  f15 := Tryd.func59.trans (congrArg some (by kernel_rfl))
  f20 := ⟨Tryd.f64.name, by decide, Tryd.func64.trans (congrArg some (by kernel_rfl))⟩
  f21 := ⟨Tryd.f65.name, by decide, Tryd.func65.trans (congrArg some (by kernel_rfl))⟩
  f22 := ⟨Tryd.f66.name, by decide, Tryd.func66.trans (congrArg some (by kernel_rfl))⟩
  f23 := ⟨Tryd.f67.name, by decide, Tryd.func67.trans (congrArg some (by kernel_rfl))⟩
  f24 := ⟨Tryd.f68.name, by decide, Tryd.func68.trans (congrArg some (by kernel_rfl))⟩
  f25 := ⟨Tryd.f69.name, by decide, Tryd.func69.trans (congrArg some (by kernel_rfl))⟩
  f26 := ⟨Tryd.f70.name, by decide, Tryd.func70.trans (congrArg some (by kernel_rfl))⟩
  f27 := ⟨Tryd.f71.name, by decide, Tryd.func71.trans (congrArg some (by kernel_rfl))⟩
  f28 := Tryd.func72.trans (congrArg some (by kernel_rfl))
  f29 := Tryd.func73.trans (congrArg some (by kernel_rfl))
  f46 := ⟨Tryd.f77.name, by decide, Tryd.func77.trans (congrArg some (by kernel_rfl))⟩
  f47 := Tryd.func78.trans (congrArg some (by kernel_rfl))
  f48 := Tryd.func79.trans (congrArg some (by kernel_rfl))
  f49 := ⟨Tryd.f80.name, by decide, Tryd.func80.trans (congrArg some (by kernel_rfl))⟩
  f50 := ⟨Tryd.f81.name, by decide, Tryd.func81.trans (congrArg some (by kernel_rfl))⟩
  f57 := ⟨Tryd.f84.name, by decide, Tryd.func84.trans (congrArg some (by kernel_rfl))⟩
  t0 := Tryd.underlying0
  a0 := Tryd.isAgg0
  z0 := Tryd.sizeOf0
  v0 := Tryd.zeroValue0
  t3 := Tryd.underlying3
  a3 := Tryd.isAgg3
  z3 := Tryd.sizeOf3
  v3 := Tryd.zeroValue3
  t4 := Tryd.underlying4
  a4 := Tryd.isAgg4
  z4 := Tryd.sizeOf4
  v4 := Tryd.zeroValue4
  t5 := Tryd.underlying5
  a5 := Tryd.isAgg5
  z5 := Tryd.sizeOf5
  v5 := Tryd.zeroValue5
  t9 := Tryd.underlying9
  a9 := Tryd.isAgg9
  z9 := Tryd.sizeOf9
  v9 := Tryd.zeroValue9
  t22 := Tryd.underlying27
  a22 := Tryd.isAgg27
  z22 := Tryd.sizeOf27
  v22 := Tryd.zeroValue27
  t25 := Tryd.underlying62
  a25 := Tryd.isAgg62
  z25 := Tryd.sizeOf62
  v25 := Tryd.zeroValue62
  t39 := Tryd.underlying75
  a39 := Tryd.isAgg75
  z39 := Tryd.sizeOf75
  v39 := Tryd.zeroValue75
  t45 := Tryd.underlying80
  a45 := Tryd.isAgg80
  z45 := Tryd.sizeOf80
  v45 := Tryd.zeroValue80
  t46 := Tryd.underlying81
  a46 := Tryd.isAgg81
  z46 := Tryd.sizeOf81
  v46 := Tryd.zeroValue81
  t50 := Tryd.underlying85
  a50 := Tryd.isAgg85
  z50 := Tryd.sizeOf85
  v50 := Tryd.zeroValue85
  t53 := Tryd.underlying88
  a53 := Tryd.isAgg88
  z53 := Tryd.sizeOf88
  v53 := Tryd.zeroValue88
  t55 := Tryd.underlying90
  a55 := Tryd.isAgg90
  z55 := Tryd.sizeOf90
  v55 := Tryd.zeroValue90
  t66 := Tryd.underlying94
  a66 := Tryd.isAgg94
  z66 := Tryd.sizeOf94
  v66 := Tryd.zeroValue94
  t70 := Tryd.underlying98
  a70 := Tryd.isAgg98
  z70 := Tryd.sizeOf98
  v70 := Tryd.zeroValue98
  t76 := Tryd.underlying101
  a76 := Tryd.isAgg101
  z76 := Tryd.sizeOf101
  v76 := Tryd.zeroValue101
  t77 := Tryd.underlying102
  a77 := Tryd.isAgg102
  z77 := Tryd.sizeOf102
  v77 := Tryd.zeroValue102 }
def Tryd.insCred_ren : Go.Shelf.Ren := ⟨fun | 20 => 74 | n => n, fun | 24 => 46 | 22 => 22 | 3 => 3 | 25 => 71 | 4 => 4 | 0 => 0 | n => n, fun | n => n⟩
theorem Tryd.insCred : Go.Proofs.SlLaysF0.n20 Tryd.prog Tryd.insCred_ren := {
  mixed := by kernel_rfl
  f20 := ⟨Tryd.f74.name, by decide, Tryd.func74.trans (congrArg some (by kernel_rfl))⟩
  t0 := Tryd.underlying0
  a0 := Tryd.isAgg0
  z0 := Tryd.sizeOf0
  v0 := Tryd.zeroValue0
  t3 := Tryd.underlying3
  a3 := Tryd.isAgg3
  z3 := Tryd.sizeOf3
  v3 := Tryd.zeroValue3
  t4 := Tryd.underlying4
  a4 := Tryd.isAgg4
  z4 := Tryd.sizeOf4
  v4 := Tryd.zeroValue4
  t22 := Tryd.underlying22
  a22 := Tryd.isAgg22
  z22 := Tryd.sizeOf22
  v22 := Tryd.zeroValue22
  t25 := Tryd.underlying71
  a25 := Tryd.isAgg71
  z25 := Tryd.sizeOf71
  v25 := Tryd.zeroValue71 }
def Tryd.cloneCred_ren : Go.Shelf.Ren := ⟨fun | 41 => 48 | n => n, fun | 22 => 22 | 23 => 46 | 4 => 4 | n => n, fun | n => n⟩
theorem Tryd.cloneCred : Go.Proofs.SlLaysE0.n41 Tryd.prog Tryd.cloneCred_ren := {
  mixed := by kernel_rfl
  f41 := ⟨Tryd.f48.name, by decide, Tryd.func48.trans (congrArg some (by kernel_rfl))⟩
  t4 := Tryd.underlying4
  a4 := Tryd.isAgg4
  z4 := Tryd.sizeOf4
  v4 := Tryd.zeroValue4
  t22 := Tryd.underlying22
  a22 := Tryd.isAgg22
  z22 := Tryd.sizeOf22
  v22 := Tryd.zeroValue22 }
end Go.Proofs
end
section
namespace Go.Proofs.YtpjddgmdgfjlfaaDoor.Pr
open Go.RowKit Go.Proofs.YtpjddgmdgfjlfaaDoorW.PrintWords Go.Proofs.YtpjddgmdgfjlfaaDoorW.PrintLast Go.Proofs.YtpjddgmdgfjlfaaDoorW.PrintMore
attribute [local go_sem] QaF QaD max_two min_two QaB QaA QaE QaC
set_option linter.unusedVariables false
set_option linter.unusedSimpArgs false
def encCredL (c : Cred) : List Value := [.int .i64 c.f0.f0, .int .i64 c.f0.f1, .string c.f1, .int .i64 c.f2, .string c.f3, .string c.f4.f0, .string c.f4.f1, .string c.f5.f0, .string c.f5.f1]
instance : Inhabited Cred := ⟨z46⟩
theorem flatCred : Flat kCred encCredL where
  opens h := k46_openM h
  shuts w base ok x := k46_mkM w base ok x
  len _ := rfl
theorem isAggCred (w : World) : (isAgg 46).run Tryd.prog w = .ok true w := by kernel_rfl
theorem sizeOfCred (w : World) : (Go.sizeOf 46).run Tryd.prog w = .ok 9 w := by kernel_rfl
def sortCreds (l : List Cred) : List Cred := (Go.Sort.insertionSort (ltOf credCmp) l.toArray 0 l.length).toList
theorem credCmp_lt (x y : Cred) : ltOf credCmp x y = true ↔ x.f0.f0 < y.f0.f0 ∨ (x.f0.f0 = y.f0.f0 ∧ x.f0.f1 < y.f0.f1) := by
  unfold ltOf credCmp Lib.compareInt; rw [decide_eq_true_eq]
  by_cases h1 : x.f0.f0 < y.f0.f0
  · simp [h1]
  · by_cases h2 : y.f0.f0 < x.f0.f0
    · simp [h1, h2]
      omega
    · have e : x.f0.f0 = y.f0.f0 := by omega
      by_cases h3 : x.f0.f1 < y.f0.f1
      · simp [e, h3]
      · by_cases h4 : y.f0.f1 < x.f0.f1 <;> simp [e, h3, h4]
theorem credSWO : Go.Sort.SWO (ltOf credCmp) where
  irrefl x := by rw [Bool.eq_false_iff, Ne, credCmp_lt]; omega
  trans x y z h1 h2 := by rw [credCmp_lt] at *; omega
  ntrans x y z h1 h2 := by rw [Bool.eq_false_iff, Ne, credCmp_lt] at *; omega
theorem sortCreds_length (l : List Cred) : (sortCreds l).length = l.length := by
  have := (Go.Sort.insertionSort_holds credSWO l.toArray 0 l.length (Nat.zero_le _) (by simp)).1.1
  simpa [sortCreds] using this
theorem insert_calls (w : World) (B : Nat) (g cap n : Nat) (l : List Cred) (hn : n = l.length) (hR : Kd.R kCred 46 w B (fun _ => True) (.slice (some ⟨g, 0, none⟩) n cap) l) (hB : B ≤ w.heap.size) (hl : l.length ≤ 20) : Calls Tryd.prog 74 #[.slice (some ⟨g, 0, none⟩) n cap, .int .i64 0, .int .i64 n, .func (.func 50) #[] #[]] w fun e w' =>
    e = .returned (.tuple #[]) ∧ Kd.R kCred 46 w' B (fun _ => True) (.slice (some ⟨g, 0, none⟩) n cap) (sortCreds l) ∧ Below B w w' := by
  subst hn; obtain ⟨_, _, hg, hH, hlt, hmax⟩ := holds_of_R flatCred hR; have eg : ∀ args w, (callFunc 50 args).run Tryd.prog w = .ok (.enter 50 args) w := enters_of Tryd.func50 (by kernel_rfl) rfl
  have hc : CmpLays Tryd.prog 50 #[] encCredL 9 credCmp g 0 l.toArray.size w := fun _ _ _ _ x y => sorted1_calls x y _
  refine (AnyQ.insertionSortCmpFunc Tryd.insCred 9 isAggCred sizeOfCred encCredL (fun _ => rfl) (fun x v hv => by simp [encCredL] at hv; rcases hv with rfl | rfl | rfl | rfl | rfl | rfl | rfl | rfl | rfl <;> rfl) credCmp 50 #[] g 0 cap 0 l.length l.toArray w eg hc hH hlt (Nat.zero_le _) (by simp) (by simp; omega)).mono ?_; rintro e w' ⟨rfl, n, os, rfl⟩; refine ⟨rfl, R_of_sorted flatCred hR n (sortCreds l) os (sortCreds_length l), sorted_below encCredL w g 9 n (sortCreds l) os hB hg⟩
set_option maxRecDepth 100000 in
set_option maxHeartbeats 4000000 in
theorem stable_calls (w : World) (B : Nat) (g cap n : Nat) (l : List Cred) (hn : n = l.length) (hR : Kd.R kCred 46 w B (fun _ => True) (.slice (some ⟨g, 0, none⟩) n cap) l) (hB : B ≤ w.heap.size) (hl : l.length < 20) : Calls Tryd.prog 61 #[.slice (some ⟨g, 0, none⟩) n cap, .int .i64 n, .func (.func 50) #[] #[]] w fun e w' =>
    e = .returned (.tuple #[]) ∧ Kd.R kCred 46 w' B (fun _ => True) (.slice (some ⟨g, 0, none⟩) n cap) (sortCreds l) ∧ Below B w w' := by
  have hi := insert_calls w B g cap n l hn hR hB (by omega); have d1 : decide ((20 : Int) ≤ (n : Int)) = false := decide_eq_false (by omega); have d2 : decide (20 ≤ n) = false := decide_eq_false (by omega); have d3 : decide ((20 : Int) < (n : Int)) = false := decide_eq_false (by omega); have d4 : decide (20 < n) = false := decide_eq_false (by omega); clear hR hl hn; go_enter Tryd.func61, Tryd.ntmps61; go_wp2
  go_loopg [7, 8] 1 (fun kq v7 v8 w' => v7 = .int .i64 0 ∧ v8 = .int .i64 20 ∧ w' = w)
  case atStart => exact ⟨rfl, rfl, rfl⟩
  case round =>
    obtain ⟨rfl, rfl, rfl⟩ := hrel
    go_wp2_with (go_at_call 74; refine hi.mono ?_; rintro e w3 ⟨rfl, hR3, hB3⟩)
    have HR := Lib.hid hR3; have HBw := Lib.hid hB3; clear hR3 hB3 hi
    go_loopg [6, 7, 8, 9] 1 (fun kq v6 _ _ _ w' => v6 = .int .i64 20 ∧ w' = w3)
    case atStart => exact ⟨rfl, rfl⟩
    case round =>
      obtain ⟨rfl, rfl⟩ := hrel; go_wp2; go_end0; exact ⟨rfl, HR.out, HBw.out⟩
theorem cloned_nil {w : World} {e : Nat} : Kd.R kCred e (w.alloc (.cells #[] e)) w.heap.size (fun _ => True) (.slice (some ⟨w.heap.size, 0, none⟩) 0 0) [] :=
  ⟨fun _ _ => trivial, [], ⟨by simp, .inr ⟨w.heap.size, 0, #[], rfl, Nat.le_refl _, blk_new w _, Nat.le_refl _, Nat.zero_le _, by simp, by simp⟩⟩, Reps.none _ _⟩
theorem infoCred : (Tryd.prog.info? 46).map (fun i => (i.zero, i.size, i.bytes)) = some (some (.agg #[(.int .i64 0), (.int .i64 0), (.string ⟨#[]⟩), (.int .i64 0), (.string ⟨#[]⟩), (.string ⟨#[]⟩), (.string ⟨#[]⟩), (.string ⟨#[]⟩), (.string ⟨#[]⟩)]), 9, 120) := by kernel_rfl
set_option maxRecDepth 100000 in
set_option maxHeartbeats 4000000 in
theorem clone_calls (w : World) (A0 : Option Addr) (c0 n : Nat) (l : List Cred) (hn : n = l.length) (hC : Kd.C kCred w A0 n l) (hl : l.length ≤ 1000000) : Calls Tryd.prog 48 #[.slice A0 n c0] w fun e w' =>
    ∃ v, e = .returned v ∧ Kd.R kCred 46 w' w.heap.size (fun _ => True) v l ∧ Below w.heap.size w w' := by
  have _ := @sortCreds_length
  cases A0 with
  | none =>
    have hl0 : l = [] := by
      rcases Nat.eq_zero_or_pos n with h0 | h0
      · exact List.eq_nil_of_length_eq_zero (by omega)
      · obtain ⟨ad, h, _⟩ := hC.2.2 h0
        cases h
    subst hl0; refine (AnyE.slices_Clone_nil Tryd.cloneCred n c0 w).mono ?_; rintro e w' ⟨rfl, rfl⟩; exact ⟨_, rfl, Kd.R_nil _ _ _ _ _, Below.refl _ _⟩
  | some ad =>
    have q22 : ∀ (W : World) (n c n' c' : Nat), (binOp .eql 22 (.slice (some ad) n c) (.slice none n' c')).run Tryd.prog W = .ok (.bool false) W := fun W n c n' c' => Lib.run_eql_slice_nil W _ _ (some ad) n c n' c' Tryd.underlying22
    have HC := Lib.hid hC; have HL := Lib.hid hl; have HN := Lib.hid hn; clear hC hl hn; go_enter Tryd.func48, Tryd.ntmps48
    go_wp2_with ((with_reducible refine gate_builtin (b := .append) (xs := #[.tmp 5, .tmp 6]) rfl ?_); at_builtin; refine Kd.R_append_rows kCred (Rr := kCred.K w) (w0 := w) w.heap.size rfl (.tmp 5) (.tmp 6) 22 46 (.agg #[(.int .i64 0), (.int .i64 0), (.string ⟨#[]⟩), (.int .i64 0), (.string ⟨#[]⟩), (.string ⟨#[]⟩), (.string ⟨#[]⟩), (.string ⟨#[]⟩), (.string ⟨#[]⟩)]) 120 rfl Tryd.underlying22 infoCred rfl (by decide) (by omega) (.slice (some ⟨w.heap.size, 0, none⟩) 0 0) ([] : List Cred) l (some ad) n c0 (fun _ => True) (fun _ => False) rfl rfl ?aO ?aR (fun x cs h => by rw [k46_open h]; exact k46_mkM _ _ _ x) (fun _ h => h.elim) (fun _ _ => trivial) ?aB ?aS ?aL ?_; (case aO => exact cloned_nil); (case aR => exact Kd.C_alloc HC.out _); (case aB => exact (Qac (Below.refl _ _) _)); (case aS => exact (Qaq (Qac (Below.refl _ _) _))); (case aL => (have := HL.out; have := HN.out; simp; omega)); intro v2 w2 ho hb hg hat)
    go_ret; exact ⟨v2, rfl, by simpa using ho, hb⟩
set_option maxRecDepth 100000 in
set_option maxHeartbeats 4000000 in
theorem sortStable_calls (w : World) (B : Nat) (g cap n : Nat) (l : List Cred) (hn : n = l.length) (hR : Kd.R kCred 46 w B (fun _ => True) (.slice (some ⟨g, 0, none⟩) n cap) l) (hB : B ≤ w.heap.size) (hl : l.length < 20) : Calls Tryd.prog 49 #[.slice (some ⟨g, 0, none⟩) n cap, .func (.func 50) #[] #[]] w fun e w' =>
    e = .returned (.tuple #[]) ∧ Kd.R kCred 46 w' B (fun _ => True) (.slice (some ⟨g, 0, none⟩) n cap) (sortCreds l) ∧ Below B w w' := by
  have hi := stable_calls w B g cap n l hn hR hB hl; clear hR hl hn; go_enter Tryd.func49, Tryd.ntmps49
  go_wp2_with (go_at_call 61; refine hi.mono ?_; rintro e w3 ⟨rfl, hR3, hB3⟩)
  go_end0; exact ⟨rfl, hR3, hB3⟩
set_option maxRecDepth 100000 in
set_option maxHeartbeats 4000000 in
theorem stable_none (w : World) (c : Nat) : Calls Tryd.prog 61 #[.slice none 0 c, .int .i64 0, .func (.func 50) #[] #[]] w fun e w' => e = .returned (.tuple #[]) ∧ w' = w := by
  have hi := AnyF.insertionSortCmpFunc_none Tryd.insCred none c (.func (.func 50) #[] #[]) w; change Calls Tryd.prog 74 _ _ _ at hi; go_enter Tryd.func61, Tryd.ntmps61; go_wp2
  go_loopg [7, 8] 1 (fun kq v7 v8 w' => v7 = .int .i64 0 ∧ v8 = .int .i64 20 ∧ w' = w)
  case atStart => exact ⟨rfl, rfl, rfl⟩
  case round =>
    obtain ⟨rfl, rfl, rfl⟩ := hrel
    go_wp2_with (go_at_call 74; refine hi.mono ?_; rintro e w3 ⟨rfl, rfl⟩)
    clear hi
    go_loopg [6, 7, 8, 9] 1 (fun kq v6 _ _ _ w' => v6 = .int .i64 20 ∧ w' = w3)
    case atStart => exact ⟨rfl, rfl⟩
    case round =>
      obtain ⟨rfl, rfl⟩ := hrel; go_wp2; go_end0; exact ⟨rfl, rfl⟩
set_option maxRecDepth 100000 in
set_option maxHeartbeats 4000000 in
theorem sortStable_none (w : World) (c : Nat) : Calls Tryd.prog 49 #[.slice none 0 c, .func (.func 50) #[] #[]] w fun e w' => e = .returned (.tuple #[]) ∧ w' = w := by
  have hi := stable_none w c; go_enter Tryd.func49, Tryd.ntmps49
  go_wp2_with (go_at_call 61; refine hi.mono ?_; rintro e w3 ⟨rfl, rfl⟩)
  go_end0; exact ⟨rfl, rfl⟩
theorem sortStable_any (w : World) (B : Nat) (v : Value) (l : List Cred) (hR : Kd.R kCred 46 w B (fun _ => True) v l) (hB : B ≤ w.heap.size) (hl : l.length < 20) : Calls Tryd.prog 49 #[v, .func (.func 50) #[] #[]] w fun e w' =>
    e = .returned (.tuple #[]) ∧ Kd.R kCred 46 w' B (fun _ => True) v (sortCreds l) ∧ Below B w w' := by
  obtain ⟨A, c, rfl⟩ := Kd.R_slice hR
  cases A with
  | none =>
    have hl0 : l = [] := by
      obtain ⟨_, inner, ⟨_, ho⟩, hr⟩ := hR
      rcases ho with ⟨_, h0⟩ | ⟨g', cap', cur, hv, _⟩
      · exact List.eq_nil_of_length_eq_zero h0
      · cases hv
    subst hl0; refine (sortStable_none w c).mono ?_; rintro e w' ⟨rfl, rfl⟩; have hs : sortCreds [] = [] := List.eq_nil_of_length_eq_zero (by rw [sortCreds_length]; rfl); exact ⟨rfl, by rw [hs]; exact hR, Below.refl _ _⟩
  | some a =>
    obtain ⟨g, off, fr⟩ := a
    have hfr : fr = none ∧ off = 0 := by
      obtain ⟨_, inner, ⟨_, ho⟩, hr⟩ := hR
      rcases ho with ⟨h0, _⟩ | ⟨g', cap', cur, hv, _⟩
      · cases h0
      · simp only [Value.slice.injEq, Option.some.injEq, Addr.mk.injEq] at hv
        exact ⟨hv.1.2.2, hv.1.2.1⟩
    obtain ⟨rfl, rfl⟩ := hfr; exact sortStable_calls w B g c l.length l rfl hR hB hl
def cred_Sorted.f (l0 : List (S46)) : Option (List (S46)) := if l0.length < 20 then some (sortCreds l0) else none
set_option maxRecDepth 100000 in
set_option maxHeartbeats 4000000 in
theorem cred_Sorted.calls (A0 : Option Addr) (c0 : Nat) (l0 : List (S46)) (r : List (S46)) (w : World) (hr0 : Kd.C k46 w A0 l0.length l0) (hc0 : l0.length ≤ c0) (h : cred_Sorted.f l0 = some r) :
    Calls Tryd.prog 29 #[.slice A0 l0.length c0] w fun e w' => ∃ v0_ : Value, e = .returned (v0_) ∧ Kd.R k46 46 w' w.heap.size (fun _ => True) v0_ r ∧ Below w.heap.size w w' := by
  unfold cred_Sorted.f at h
  by_cases hl : l0.length < 20
  · rw [if_pos hl] at h
    obtain rfl := Option.some.inj h; have hcl := clone_calls w A0 c0 l0.length l0 rfl hr0 (by omega); have HL := Lib.hid hl; clear hr0 hc0 h hl; go_enter Tryd.func29, Tryd.ntmps29
    go_wp2_with (first | (go_at_call 48; refine hcl.mono ?_; rintro e w3 ⟨v3, rfl, hR3, hB3⟩) | (go_at_call 49; refine (sortStable_any w3 w.heap.size v3 l0 hR3 hB3.size HL.out).mono ?_; rintro e w4 ⟨rfl, hR4, hB4⟩))
    go_ret; exact ⟨v3, rfl, hR4, hB3.trans hB4⟩
  · rw [if_neg hl] at h
    cases h
end Go.Proofs.YtpjddgmdgfjlfaaDoor.Pr
end
section
namespace Go.Proofs.YtpjddgmdgfjlfaaDoor
open Go.RowKit
def mayAt (i : Nat) (c : Nat) : Bool := decide (97 ≤ c ∧ c ≤ 122) || (decide (48 ≤ c ∧ c ≤ 57) && decide (i ≠ 0))
def mayUpto (s : ByteArray) : Nat → Bool
  | 0 => true
  | n + 1 => mayUpto s n && mayAt n (s.data.getD n 0).toNat
def mayName (s : ByteArray) : Bool := mayUpto s s.size && decide (0 < s.size) && decide (s.size ≤ 8)
theorem may_stop (s : ByteArray) (i : Nat) (h : mayAt i (s.data.getD i 0).toNat = false) : ∀ n, i < n → mayUpto s n = false
  | n + 1, hn => by
    rw [mayUpto]
    by_cases e : i = n
    · subst e
      rw [h, Bool.and_false]
    · rw [may_stop s i h n (by omega), Bool.false_and]
theorem may_byte (s : ByteArray) (i : Nat) (h : i < s.size) : (s.data.getD i 0).toNat = (s[i]'h).toNat := by
  have : s.data.getD i 0 = s.data[i]'h := by simp [Array.getD, h]
  rw [this]; rfl
theorem may_next (s : ByteArray) (pos : Nat) (h : pos < s.size) : ∃ d wd : Nat, (∀ (P : Program) (w : World) (ty : TypeId), (Instr.next (.pointer (some ⟨w.heap.size, 0, none⟩)) true ty).run P (w.iter s pos) = .ok (.tuple #[.bool true, .int .i64 pos, .int .i32 (d : Int)]) (w.iter s (pos + wd))) ∧
    d ≤ 2147483647 ∧ (d < 128 → wd = 1 ∧ (s.data.getD pos 0).toNat = d) ∧ (128 ≤ d → 128 ≤ (s.data.getD pos 0).toNat) := by
  rw [may_byte s pos h]
  by_cases ha : (s[pos]'h).toNat < 128
  · exact ⟨(s[pos]'h).toNat, 1, fun P w ty => run_next_ascii w s pos ty h ha, by omega, fun _ => ⟨rfl, rfl⟩, fun _ => by omega⟩
  · have hd := (decode_high s pos h (by omega)).1
    exact ⟨(Utf8.decode s pos).1, (Utf8.decode s pos).2, fun P w ty => run_next_any w s pos ty h, decode_le s pos, fun _ => by omega, fun _ => by omega⟩
theorem may_yes {s : ByteArray} {pos d : Nat} (hm : mayUpto s pos = true) (hd : (s.data.getD pos 0).toNat = d) (h : mayAt pos d = true) : mayUpto s (pos + 1) = true := by
  rw [mayUpto, hm, hd, h]; rfl
theorem may_no {s : ByteArray} {pos d : Nat} (hp : pos < s.size) (hd1 : d < 128 → (s.data.getD pos 0).toNat = d) (hd2 : 128 ≤ d → 128 ≤ (s.data.getD pos 0).toNat) (h : d < 128 → mayAt pos d = false) : mayName s = false := by
  have h3 : mayAt pos (s.data.getD pos 0).toNat = false := by
    by_cases hd : d < 128
    · rw [hd1 hd]
      exact h hd
    · have := hd2 (by omega)
      unfold mayAt; rw [decide_eq_false (by omega), decide_eq_false (by omega)]; rfl
  rw [mayName, may_stop s pos h3 s.size hp]; rfl
theorem may_empty (s : ByteArray) : s.toList.isEmpty = decide (s.size = 0) := by
  rw [← decide_eq_emptyBytes s]
  apply decide_eq_decide.2
  constructor
  · rintro rfl
    rfl
  · intro h
    apply ByteArray.ext
    apply Array.eq_empty_of_size_eq_zero
    exact h
theorem may_at_letter {pos d : Nat} (h : 97 ≤ d) (h' : d ≤ 122) : mayAt pos d = true := by unfold mayAt; rw [decide_eq_true ⟨h, h'⟩]; rfl
theorem may_at_digit {pos d : Nat} (h : 48 ≤ d) (h' : d ≤ 57) (hp : pos ≠ 0) : mayAt pos d = true := by unfold mayAt; rw [decide_eq_true (p := 48 ≤ d ∧ d ≤ 57) ⟨h, h'⟩, decide_eq_true hp]; simp
theorem may_at_none {pos d : Nat} (h : d < 97 ∨ 122 < d) (h' : (d < 48 ∨ 57 < d) ∨ pos = 0) : mayAt pos d = false := by
  unfold mayAt; rw [decide_eq_false (by omega)]
  rcases h' with h' | h'
  · rw [decide_eq_false (by omega)]
    rfl
  · rw [h']
    simp
set_option maxRecDepth 100000 in
set_option maxHeartbeats 1000000 in
theorem may_walk (s : ByteArray) (w : World) (hs : s.size ≤ maxLen) : Calls Tryd.prog 54 #[.string s] w fun e w' => e = .returned (.bool (mayName s)) ∧ Below w.heap.size w w' := by
  unfold maxLen at hs; go_enter Tryd.func54, Tryd.ntmps54; go_wp2
  go_loopw [3, 4, 5, 6] (fun _ _ _ _ w' => ∃ pos : Nat, w' = w.iter s pos ∧ pos ≤ s.size ∧ mayUpto s pos = true) (fun _ _ _ _ w' => s.size - w'.iterPos w.heap.size)
  case atStart => exact ⟨0, rfl, Nat.zero_le _, rfl⟩
  case round =>
    obtain ⟨pos, rfl, hle, hm⟩ := hrel; have HM := Lib.hid hm; clear hm
    have hB : ∀ p, Below w.heap.size w (w.iter s p) := fun p => (Below.refl _ _).alloc (Nat.le_refl _) _
    by_cases hp : pos < s.size
    · obtain ⟨d, wd, hnx0, hd1, hd2, hd3⟩ := may_next s pos hp
      have hnx := fun ty => hnx0 Tryd.prog w ty
      have HD2 := Lib.hid hd2; have HD3 := Lib.hid hd3; clear hnx0 hd2 hd3
      by_cases c1 : 97 ≤ d
      · by_cases c2 : d ≤ 122
        · have c7 : 48 ≤ d := by omega
          have a1 : decide ((97 : Int) ≤ (d : Int)) = true := decide_eq_true (by omega); have a2 : decide ((d : Int) ≤ 122) = true := decide_eq_true (by omega); have a3 : decide ((48 : Int) ≤ (d : Int)) = true := decide_eq_true (by omega); have a4 : decide ((d : Int) ≤ 57) = false := decide_eq_false (by omega); go_wp2
          go_roundw
          case rel => exact ⟨pos + wd, rfl, by have := HD2.out (by omega); omega, by rw [(HD2.out (by omega)).1]; exact may_yes HM.out (HD2.out (by omega)).2 (may_at_letter c1 c2)⟩
          case measure =>
            have := (HD2.out (by omega)).1; simp; omega
        · have hno := may_no hp (fun h => (HD2.out h).2) HD3.out (fun _ => may_at_none (by omega) (by omega))
          have HN := Lib.hid hno; clear hno; have a1 : decide ((97 : Int) ≤ (d : Int)) = true := decide_eq_true (by omega); have a2 : decide ((d : Int) ≤ 122) = false := decide_eq_false (by omega); have a3 : decide ((48 : Int) ≤ (d : Int)) = true := decide_eq_true (by omega); have a4 : decide ((d : Int) ≤ 57) = false := decide_eq_false (by omega); go_wp2; go_ret; exact ⟨by rw [HN.out]; rfl, hB _⟩
      · by_cases c3 : 48 ≤ d
        · by_cases c4 : d ≤ 57
          · by_cases c5 : pos = 0
            · have hno := may_no hp (fun h => (HD2.out h).2) HD3.out (fun _ => may_at_none (by omega) (.inr c5))
              have HN := Lib.hid hno; clear hno; have c6 : ((pos : Int) == 0) = true := beq_iff_eq.2 (by omega); have C5 := Lib.hid c5; clear c5; have a1 : decide ((97 : Int) ≤ (d : Int)) = false := decide_eq_false (by omega); have a2 : decide ((d : Int) ≤ 122) = true := decide_eq_true (by omega); have a3 : decide ((48 : Int) ≤ (d : Int)) = true := decide_eq_true (by omega); have a4 : decide ((d : Int) ≤ 57) = true := decide_eq_true (by omega); go_wp2; go_ret; exact ⟨by rw [HN.out]; rfl, hB _⟩
            · have c6 : ((pos : Int) == 0) = false := beq_eq_false_iff_ne.2 (by omega)
              have a1 : decide ((97 : Int) ≤ (d : Int)) = false := decide_eq_false (by omega); have a2 : decide ((d : Int) ≤ 122) = true := decide_eq_true (by omega); have a3 : decide ((48 : Int) ≤ (d : Int)) = true := decide_eq_true (by omega); have a4 : decide ((d : Int) ≤ 57) = true := decide_eq_true (by omega); go_wp2
              go_roundw
              case rel => exact ⟨pos + wd, rfl, by have := HD2.out (by omega); omega, by rw [(HD2.out (by omega)).1]; exact may_yes HM.out (HD2.out (by omega)).2 (may_at_digit c3 c4 c5)⟩
              case measure =>
                have := (HD2.out (by omega)).1; simp; omega
          · have hno := may_no hp (fun h => (HD2.out h).2) HD3.out (fun _ => may_at_none (by omega) (by omega))
            have HN := Lib.hid hno; clear hno; have a1 : decide ((97 : Int) ≤ (d : Int)) = false := decide_eq_false (by omega); have a2 : decide ((d : Int) ≤ 122) = true := decide_eq_true (by omega); have a3 : decide ((48 : Int) ≤ (d : Int)) = true := decide_eq_true (by omega); have a4 : decide ((d : Int) ≤ 57) = false := decide_eq_false (by omega); go_wp2; go_ret; exact ⟨by rw [HN.out]; rfl, hB _⟩
        · have hno := may_no hp (fun h => (HD2.out h).2) HD3.out (fun _ => may_at_none (by omega) (by omega))
          have HN := Lib.hid hno; clear hno; have a1 : decide ((97 : Int) ≤ (d : Int)) = false := decide_eq_false (by omega); have a2 : decide ((d : Int) ≤ 122) = true := decide_eq_true (by omega); have a3 : decide ((48 : Int) ≤ (d : Int)) = false := decide_eq_false (by omega); have a4 : decide ((d : Int) ≤ 57) = true := decide_eq_true (by omega); go_wp2; go_ret; exact ⟨by rw [HN.out]; rfl, hB _⟩
    · obtain rfl : pos = s.size := by omega
      have hnx : ∀ ty, (Instr.next (.pointer (some ⟨w.heap.size, 0, none⟩)) true ty).run Tryd.prog (w.iter s s.size) = _ := fun ty => run_next_end w s s.size ty hp
      have he := may_empty s; have HE := Lib.hid he; clear he
      by_cases h0 : s.size = 0
      · have h1 : s.toList.isEmpty = true := by rw [HE.out]; exact decide_eq_true h0
        have hno : mayName s = false := by rw [mayName, decide_eq_false (p := 0 < s.size) (by omega)]; simp
        have HN := Lib.hid hno; have H0 := Lib.hid h0; clear hno h0; go_wp2; go_ret; exact ⟨by rw [HN.out]; rfl, hB _⟩
      · have h1 : s.toList.isEmpty = false := by rw [HE.out]; exact decide_eq_false h0
        have hyes : mayName s = decide ((s.size : Int) ≤ 8) := by
          rw [mayName, HM.out, decide_eq_true (p := 0 < s.size) (by omega)]; simp only [Bool.true_and]
          apply decide_eq_decide.2
          omega
        have HN := Lib.hid hyes; clear hyes; go_wp2
        all_goals
          go_ret; exact ⟨by rw [HN.out]; rfl, hB _⟩
end Go.Proofs.YtpjddgmdgfjlfaaDoor
end
section
namespace Go.Proofs.YtpjddgmdgfjlfaaDoor.Pr
open Go.RowKit Go.Proofs.YtpjddgmdgfjlfaaDoorW.PrintWords Go.Proofs.YtpjddgmdgfjlfaaDoorW.PrintLast Go.Proofs.YtpjddgmdgfjlfaaDoorW.PrintMore
attribute [local go_sem] QaF QaD max_two min_two QaB QaA QaE QaC
set_option linter.unusedVariables false
set_option linter.unusedSimpArgs false
def names_May.f (a0 : ByteArray) : Option Bool := if a0.size ≤ maxLen then some (mayName a0) else none
theorem names_May.calls (a0 : ByteArray) (r : Bool) (w : World) (h : names_May.f a0 = some r) :
    Calls Tryd.prog 54 #[.string a0] w fun e w' => e = .returned (.bool r) ∧ Below w.heap.size w w' := by
  unfold names_May.f at h
  split at h
  · rename_i hs
    obtain rfl := Option.some.inj h; exact may_walk a0 w hs
  · cases h
def names_Number.l0 : Nat → ByteArray → Int → Option (Int)
 | 0, _, _ => none
 | k + 1, x0, x3 => if x3 ≤ 16 then ((names_Domain.f x3).bind fun t101 => (if t101.toList = x0.toList then (some x3) else (names_Number.l0 k x0 (wrap64 (x3 + 1))))) else (some 0)
def names_Number.f (k : Nat) (a0 : ByteArray) : Option (Int) := names_Number.l0 k a0 1
set_option maxHeartbeats 8000000 in
set_option maxRecDepth 100000 in
theorem names_Number.calls (k : Nat) (a0 : ByteArray) (r : Int) (w : World) (h : names_Number.f k a0 = some r) :
  Calls Tryd.prog 57 #[.string a0] w fun e w' => e = .returned (.int .i64 r) ∧ Drawn0 w w' := by
 have H : (names_Number.l0 k a0 1) = some r := h; clear h; have H' := Qae.mk H; clear H; go_enter Tryd.func57, Tryd.ntmps57; go_wp2
 go_loopg [3] k (fun kq v3 w' => ∃ (x3_1 : Int), v3 = .int .i64 x3_1 ∧ Qae (names_Number.l0 kq a0 x3_1 = some r) ∧ Qae (kq ≤ k) ∧ Drawn0 w w')
 case atStart => exact ⟨(1), (by first | rfl | (simp; done) | (simp [*]; done)), H', ⟨Nat.le_refl _⟩, by repeat (first | exact Drawn0.refl _ | apply Drawn0.step)⟩
 case round =>
  clear H'; obtain ⟨x3_1, rfl, HA, HK1, ⟨m1, rfl⟩⟩ := hrel
  cases gk with
  | zero => exact absurd HA.out (by simp [names_Number.l0])
  | succ k1 =>
   have H := HA.out; clear HA; simp only [names_Number.l0] at H
   by_cases c2 : x3_1 ≤ 16
   ·rw [if_pos c2] at H; have c2b0 : decide (x3_1 ≤ 16) = true := decide_eq_true c2; clear c2; replace H := Option.bind_eq_some_iff.mp H; obtain ⟨t101, A30, H⟩ := H; replace H : (if t101.toList = a0.toList then (some x3_1) else (names_Number.l0 k1 a0 (wrap64 (x3_1 + 1)))) = some r := H; have A3 := Qae.mk A30; clear A30
    by_cases c4 : t101.toList = a0.toList
    ·rw [if_pos c4] at H; have c4b0 : (t101.toList == a0.toList) = true := beq_iff_eq.mpr c4; have c4b1 : (t101.toList != a0.toList) = false := bne_eq_false_iff_eq.mpr c4; clear c4; obtain rfl := Option.some.inj H
     go_wp2_with (first | ((with_reducible refine Qav (f := 53) rfl ?_); refine goesL_ (some 9) rfl rfl Tryd.func53 (by kernel_rfl) rfl #[.int .i64 x3_1] rfl (by (try simp only [List.map_toArray, List.map_cons, List.map_nil]); first | done | rfl | (simp only [List.length_drop, List.length_take]; rfl)) ?_; (with_reducible refine (names_Domain.calls x3_1 t101 _ A3.out).mono ?_); rintro e w' ⟨rfl, ⟨nd, rfl⟩⟩; refine ⟨_, rfl, ?_⟩))
     go_ret; exact ⟨by first | rfl | (simp; done) | (simp [*]; done), by repeat (first | exact Drawn0.refl _ | apply Drawn0.step)⟩
    ·rw [if_neg c4] at H; have c4b0 : (t101.toList == a0.toList) = false := beq_eq_false_iff_ne.mpr c4; have c4b1 : (t101.toList != a0.toList) = true := bne_iff_ne.mpr c4; have H' := Qae.mk H; clear H
     go_wp2_with (first | ((with_reducible refine Qav (f := 53) rfl ?_); refine goesL_ (some 9) rfl rfl Tryd.func53 (by kernel_rfl) rfl #[.int .i64 x3_1] rfl (by (try simp only [List.map_toArray, List.map_cons, List.map_nil]); first | done | rfl | (simp only [List.length_drop, List.length_take]; rfl)) ?_; (with_reducible refine (names_Domain.calls x3_1 t101 _ A3.out).mono ?_); rintro e w' ⟨rfl, ⟨nd, rfl⟩⟩; refine ⟨_, rfl, ?_⟩))
     go_roundg k1
     case measure => have := HK1.out; omega
     case rel => exact ⟨(wrap64 (x3_1 + 1)), (by first | rfl | (simp; done) | (simp [*]; done)), H', ⟨by have := HK1.out; omega⟩, by repeat (first | exact Drawn0.refl _ | apply Drawn0.step)⟩
   ·rw [if_neg c2] at H; have c2b0 : decide (x3_1 ≤ 16) = false := decide_eq_false c2; clear c2; obtain rfl := Option.some.inj H; go_wp2; go_ret; exact ⟨by first | rfl | (simp; done) | (simp [*]; done), by repeat (first | exact Drawn0.refl _ | apply Drawn0.step)⟩
def names_Role.f (k : Nat) (a0_0 : ByteArray) (a0_1 : ByteArray) : Option (Bool) := (names_Number.f k a0_0).bind fun t102 => (if t102 > 0 then ((names_May.f a0_1).bind fun t103 => (some t103)) else (some false))
set_option maxHeartbeats 8000000 in
set_option maxRecDepth 100000 in
theorem names_Role.calls (k : Nat) (a0_0 : ByteArray) (a0_1 : ByteArray) (r : Bool) (w : World) (h : names_Role.f k a0_0 a0_1 = some r) :
  Calls Tryd.prog 55 #[.agg #[.string a0_0, .string a0_1]] w fun e w' => e = .returned (.bool r) ∧ Below w.heap.size w w' := by
 have hu33 := Tryd.underlying33; have HB := Qae.mk (Below.refl w.heap.size w); have H : ((names_Number.f k a0_0).bind fun t102 => (if t102 > 0 then ((names_May.f a0_1).bind fun t103 => (some t103)) else (some false))) = some r := h; clear h; replace H := Option.bind_eq_some_iff.mp H; obtain ⟨t102, A20, H⟩ := H; replace H : (if t102 > 0 then ((names_May.f a0_1).bind fun t103 => (some t103)) else (some false)) = some r := H; have A2 := Qae.mk A20; clear A20
 by_cases c3 : t102 > 0
 ·rw [if_pos c3] at H; have c3b0 : decide (0 < t102) = true := decide_eq_true c3; clear c3; replace H := Option.bind_eq_some_iff.mp H; obtain ⟨t103, A40, H⟩ := H; replace H : (some t103) = some r := H; have A4 := Qae.mk A40; clear A40; obtain rfl := Option.some.inj H; go_enter Tryd.func55, Tryd.ntmps55
  go_wp2_with (first | ((with_reducible refine gate_dst (N := 1) rfl ?_); refine box_event ?hg (N := 1) ?hd (cs := #[.string a0_0, .string a0_1]) (t := 33) ?hr ?_; (case hd => rfl); (case hg => rfl); (case hr => first | (go_simp; done) | (go_simp; rfl)); intro gb101 hg w5 hbox hb; have n0_ := Qae.mk (Qal (by repeat (first | (with_reducible first | exact HB.out | apply Qac | apply Qaa | apply Qad) | exact HB.out)) hb); have n1_ := Qae.mk (hbox); have n2_ := Qae.mk ((by rw [hg]; exact (Qaq (by repeat (first | (with_reducible first | exact HB.out | apply Qac | apply Qaa | apply Qad) | exact HB.out))) : w.heap.size ≤ gb101)); have n3_ := n2_; clear HB; have HB := n0_; have BK101 := n1_; have GW101 := n2_; have GE101 := n3_; clear n0_ n1_ n2_ n3_; clear hb hbox hg; obtain ⟨hcz6_0, hcz6_1⟩ := cz_ss BK101.out; obtain ⟨hfz6_0, hfz6_1⟩ := fz_2 BK101.out) | ((with_reducible refine Qav (f := 57) rfl ?_); refine goesL_ (some 5) rfl rfl Tryd.func57 (by kernel_rfl) rfl #[.string a0_0] rfl (by (try simp only [List.map_toArray, List.map_cons, List.map_nil]); first | done | rfl | (simp only [List.length_drop, List.length_take]; rfl)) ?_; (with_reducible refine (names_Number.calls k a0_0 t102 _ A2.out).mono ?_); rintro e w' ⟨rfl, ⟨nd, rfl⟩⟩; refine ⟨_, rfl, ?_⟩) | (go_at_call 54; (with_reducible refine (names_May.calls a0_1 t103 _ A4.out).mono ?_); rintro e w7 ⟨rfl, hb⟩; have n0_ := Qae.mk (Qax (g := gb101) (o := ob_ss a0_0 a0_1 33) (by (with_reducible repeat (first | refine Qaf ?_ _ | refine Qaj ?_ | refine Qag ?_ _)); exact BK101.out) hb); have n1_ := Qae.mk (Qal (by repeat (first | (with_reducible first | exact HB.out | apply Qac | apply Qaa | apply Qad | refine Qak ?_ GE101.out) | exact HB.out)) hb); clear BK101; clear HB; have BK101 := n0_; have HB := n1_; clear n0_ n1_; (try clear hb); (try clear hb2); (try clear hk); (try clear hi)))
  go_ret; exact ⟨by first | rfl | (simp [Qau, Qat] <;> rfl) | (simp [*, Qau, Qat] <;> rfl), by repeat (first | (with_reducible first | exact HB.out | apply Qac | apply Qaa | apply Qad | refine Qak ?_ GE101.out) | exact HB.out)⟩
 ·rw [if_neg c3] at H; have c3b0 : decide (0 < t102) = false := decide_eq_false c3; clear c3; obtain rfl := Option.some.inj H; go_enter Tryd.func55, Tryd.ntmps55
  go_wp2_with (first | ((with_reducible refine gate_dst (N := 1) rfl ?_); refine box_event ?hg (N := 1) ?hd (cs := #[.string a0_0, .string a0_1]) (t := 33) ?hr ?_; (case hd => rfl); (case hg => rfl); (case hr => first | (go_simp; done) | (go_simp; rfl)); intro gb101 hg w8 hbox hb; have n0_ := Qae.mk (Qal (by repeat (first | (with_reducible first | exact HB.out | apply Qac | apply Qaa | apply Qad) | exact HB.out)) hb); have n1_ := Qae.mk (hbox); have n2_ := Qae.mk ((by rw [hg]; exact (Qaq (by repeat (first | (with_reducible first | exact HB.out | apply Qac | apply Qaa | apply Qad) | exact HB.out))) : w.heap.size ≤ gb101)); have n3_ := n2_; clear HB; have HB := n0_; have BK101 := n1_; have GW101 := n2_; have GE101 := n3_; clear n0_ n1_ n2_ n3_; clear hb hbox hg; obtain ⟨hcz9_0, hcz9_1⟩ := cz_ss BK101.out; obtain ⟨hfz9_0, hfz9_1⟩ := fz_2 BK101.out) | ((with_reducible refine Qav (f := 57) rfl ?_); refine goesL_ (some 5) rfl rfl Tryd.func57 (by kernel_rfl) rfl #[.string a0_0] rfl (by (try simp only [List.map_toArray, List.map_cons, List.map_nil]); first | done | rfl | (simp only [List.length_drop, List.length_take]; rfl)) ?_; (with_reducible refine (names_Number.calls k a0_0 t102 _ A2.out).mono ?_); rintro e w' ⟨rfl, ⟨nd, rfl⟩⟩; refine ⟨_, rfl, ?_⟩))
  go_ret; exact ⟨by first | rfl | (simp [Qau, Qat] <;> rfl) | (simp [*, Qau, Qat] <;> rfl), by repeat (first | (with_reducible first | exact HB.out | apply Qac | apply Qaa | apply Qad | refine Qak ?_ GE101.out) | exact HB.out)⟩
def cred_bare.f (a0_0 : ByteArray) (a0_1 : ByteArray) : Option (Bool) := if a0_0.toList = ([] : List UInt8) then ((names_May.f a0_1).bind fun t102 => (some t102)) else (some false)
set_option maxHeartbeats 8000000 in
set_option maxRecDepth 100000 in
theorem cred_bare.calls (a0_0 : ByteArray) (a0_1 : ByteArray) (r : Bool) (w : World) (h : cred_bare.f a0_0 a0_1 = some r) :
  Calls Tryd.prog 56 #[.agg #[.string a0_0, .string a0_1]] w fun e w' => e = .returned (.bool r) ∧ Below w.heap.size w w' := by
 have hu33 := Tryd.underlying33; have HB := Qae.mk (Below.refl w.heap.size w); have H : (if a0_0.toList = ([] : List UInt8) then ((names_May.f a0_1).bind fun t102 => (some t102)) else (some false)) = some r := h; clear h
 by_cases c2 : a0_0.toList = ([] : List UInt8)
 ·rw [if_pos c2] at H; have c2b0 : (a0_0.toList == ([] : List UInt8)) = true := beq_iff_eq.mpr c2; have c2b1 : (a0_0.toList != ([] : List UInt8)) = false := bne_eq_false_iff_eq.mpr c2; clear c2; replace H := Option.bind_eq_some_iff.mp H; obtain ⟨t102, A30, H⟩ := H; replace H : (some t102) = some r := H; have A3 := Qae.mk A30; clear A30; obtain rfl := Option.some.inj H; go_enter Tryd.func56, Tryd.ntmps56
  go_wp2_with (first | ((with_reducible refine gate_dst (N := 1) rfl ?_); refine box_event ?hg (N := 1) ?hd (cs := #[.string a0_0, .string a0_1]) (t := 33) ?hr ?_; (case hd => rfl); (case hg => rfl); (case hr => first | (go_simp; done) | (go_simp; rfl)); intro gb101 hg w4 hbox hb; have n0_ := Qae.mk (Qal (by repeat (first | (with_reducible first | exact HB.out | apply Qac | apply Qaa | apply Qad) | exact HB.out)) hb); have n1_ := Qae.mk (hbox); have n2_ := Qae.mk ((by rw [hg]; exact (Qaq (by repeat (first | (with_reducible first | exact HB.out | apply Qac | apply Qaa | apply Qad) | exact HB.out))) : w.heap.size ≤ gb101)); have n3_ := n2_; clear HB; have HB := n0_; have BK101 := n1_; have GW101 := n2_; have GE101 := n3_; clear n0_ n1_ n2_ n3_; clear hb hbox hg; obtain ⟨hcz5_0, hcz5_1⟩ := cz_ss BK101.out; obtain ⟨hfz5_0, hfz5_1⟩ := fz_2 BK101.out) | (go_at_call 54; (with_reducible refine (names_May.calls a0_1 t102 _ A3.out).mono ?_); rintro e w6 ⟨rfl, hb⟩; have n0_ := Qae.mk (Qax (g := gb101) (o := ob_ss a0_0 a0_1 33) (by (with_reducible repeat (first | refine Qaf ?_ _ | refine Qaj ?_ | refine Qag ?_ _)); exact BK101.out) hb); have n1_ := Qae.mk (Qal (by repeat (first | (with_reducible first | exact HB.out | apply Qac | apply Qaa | apply Qad | refine Qak ?_ GE101.out) | exact HB.out)) hb); clear BK101; clear HB; have BK101 := n0_; have HB := n1_; clear n0_ n1_; (try clear hb); (try clear hb2); (try clear hk); (try clear hi)))
  go_ret; exact ⟨by first | rfl | (simp [Qau, Qat] <;> rfl) | (simp [*, Qau, Qat] <;> rfl), by repeat (first | (with_reducible first | exact HB.out | apply Qac | apply Qaa | apply Qad | refine Qak ?_ GE101.out) | exact HB.out)⟩
 ·rw [if_neg c2] at H; have c2b0 : (a0_0.toList == ([] : List UInt8)) = false := beq_eq_false_iff_ne.mpr c2; have c2b1 : (a0_0.toList != ([] : List UInt8)) = true := bne_iff_ne.mpr c2; obtain rfl := Option.some.inj H; go_enter Tryd.func56, Tryd.ntmps56
  go_wp2_with (first | ((with_reducible refine gate_dst (N := 1) rfl ?_); refine box_event ?hg (N := 1) ?hd (cs := #[.string a0_0, .string a0_1]) (t := 33) ?hr ?_; (case hd => rfl); (case hg => rfl); (case hr => first | (go_simp; done) | (go_simp; rfl)); intro gb101 hg w7 hbox hb; have n0_ := Qae.mk (Qal (by repeat (first | (with_reducible first | exact HB.out | apply Qac | apply Qaa | apply Qad) | exact HB.out)) hb); have n1_ := Qae.mk (hbox); have n2_ := Qae.mk ((by rw [hg]; exact (Qaq (by repeat (first | (with_reducible first | exact HB.out | apply Qac | apply Qaa | apply Qad) | exact HB.out))) : w.heap.size ≤ gb101)); have n3_ := n2_; clear HB; have HB := n0_; have BK101 := n1_; have GW101 := n2_; have GE101 := n3_; clear n0_ n1_ n2_ n3_; clear hb hbox hg; obtain ⟨hcz8_0, hcz8_1⟩ := cz_ss BK101.out; obtain ⟨hfz8_0, hfz8_1⟩ := fz_2 BK101.out))
  go_ret; exact ⟨by first | rfl | (simp [Qau, Qat] <;> rfl) | (simp [*, Qau, Qat] <;> rfl), by repeat (first | (with_reducible first | exact HB.out | apply Qac | apply Qaa | apply Qad | refine Qak ?_ GE101.out) | exact HB.out)⟩
end Go.Proofs.YtpjddgmdgfjlfaaDoor.Pr
end
section
namespace Go.Proofs.YtpjddgmdgfjlfaaDoor.Pr
open Go.RowKit Go.Proofs.YtpjddgmdgfjlfaaDoorW.PrintWords Go.Proofs.YtpjddgmdgfjlfaaDoorW.PrintLast Go.Proofs.YtpjddgmdgfjlfaaDoorW.PrintMore
attribute [local go_sem] QaF QaD max_two min_two QaB QaA QaE QaC
set_option linter.unusedVariables false
set_option linter.unusedSimpArgs false
attribute [local go_sem high] eqA33
def roleLess (a b : Role) : Bool := if a = b then false else Op.bytesLess a.f0.toList b.f0.toList || (a.f0.toList == b.f0.toList && Op.bytesLess a.f1.toList b.f1.toList)
def encRole (a : Role) : Value := .agg #[.string a.f0, .string a.f1]
set_option maxHeartbeats 1000000 in
theorem less_calls (a b : Role) (W : World) : Calls Tryd.prog 38 #[encRole a, encRole b] W fun e w' => e = .returned (.bool (roleLess a b)) ∧ ∃ q os', w' = Sort.grow (W.drewN q) os' := by
  unfold roleLess encRole
  by_cases h : a = b
  · rw [if_pos h]
    have hb := eqRole_t h; clear h; go_enter Tryd.func38, Tryd.ntmps38; go_wp2; go_ret; exact ⟨rfl, 0, _, by rw [Sort.alloc_eq_grow, Sort.alloc_eq_grow, Sort.grow_grow]; rfl⟩
  · rw [if_neg h]
    have hb := eqRole_f h; clear h
    generalize h1 : Op.bytesLess a.f0.toList b.f0.toList = b1
    generalize h2 : (a.f0.toList == b.f0.toList) = b2 at hb
    generalize h3 : Op.bytesLess a.f1.toList b.f1.toList = b3
    cases b1 <;> cases b2 <;> cases b3 <;> (
      go_enter Tryd.func38, Tryd.ntmps38; go_wp2; go_ret
      exact ⟨rfl, 0, _, by rw [Sort.alloc_eq_grow, Sort.alloc_eq_grow, Sort.grow_grow]; rfl⟩)
end Go.Proofs.YtpjddgmdgfjlfaaDoor.Pr
end
