-- A pile of timers, walked: Swap, Less, Len.
import Derived.Test.YtjoemkmckabpjaaTmW
import Derived.Test.YtjoemkmckabpjaaSq14
import Derived.Deep.RegionHeld3
import Derived.Outline
namespace Go.Proofs.Ytjoemkmckabpjaa.Pr
open Go.RowKit Go.Proofs.YtjoemkmckabpjaaW.PrintWords Go.Proofs.YtjoemkmckabpjaaW.PrintLast Go.Proofs.YtjoemkmckabpjaaW.PrintMore
open Go.ChangeMaps (setBlock)
set_option linter.unusedVariables false
set_option linter.unusedSimpArgs false
/-- A pile: its timers, and where each kind stands. -/
structure PAt (w : World) (B p mb : Nat) (v : Value) (ts : List Tm) (T : List (Int × Value)) : Prop where
  blk : w.heap[p]? = some (.cells #[v, .map (some mb)] 51 (0, 0))
  row : TRow w B v ts
  tbl : Tbl encI okI w mb T
  hp : B ≤ p
  hm : B ≤ mb
def PFoot (p mb : Nat) (v : Value) (k : Nat) : Prop := k = p ∨ k = mb ∨ v.ownBlock = some k
def swapT (ts : List Tm) (i j : Nat) : List Tm := (ts.set i ts[j]!).set j ts[i]!
theorem swapT_length (ts : List Tm) (i j : Nat) : (swapT ts i j).length = ts.length := by unfold swapT; rw [List.length_set, List.length_set]
def swapP (ts : List Tm) (T : List (Int × Value)) (i j : Nat) : List (Int × Value) := tput (tput T (swapT ts i j)[i]!.f1 (.int .i64 i)) (swapT ts i j)[j]!.f1 (.int .i64 j)
theorem bang_get {ts : List Tm} {i : Nat} (h : i < ts.length) : ts[i]! = ts[i] := by
  rw [List.getElem!_eq_getElem?_getD, List.getElem?_eq_getElem h]
  rfl
theorem PAt.pcell {w : World} {B p mb : Nat} {v : Value} {ts : List Tm} {T : List (Int × Value)} (h : PAt w B p mb v ts T) : w.cell? ⟨p, 0, none⟩ = some v ∧ w.cell? ⟨p, 1, none⟩ = some (.map (some mb)) ∧ w.frozen? ⟨p, 0, none⟩ = false ∧ w.frozen? ⟨p, 1, none⟩ = false :=
  ⟨(blk_cell h.blk 0).trans rfl, (blk_cell h.blk 1).trans rfl, blk_frozen h.blk 0, blk_frozen h.blk 1⟩
theorem put_facts {w : World} {B g c : Nat} {ts : List Tm} (h : TRow w B (.slice (some ⟨g, 0, none⟩) ts.length c) ts) (hg : B ≤ g) (i : Nat) (x : Tm) :
    TRow ((w.setCell ⟨g, i * 2, none⟩ (.int .i64 x.f0)).setCell ⟨g, i * 2 + 1, none⟩ (.int .i64 x.f1)).drew B (.slice (some ⟨g, 0, none⟩) (ts.set i x).length c) (ts.set i x) ∧
    Kept w ((w.setCell ⟨g, i * 2, none⟩ (.int .i64 x.f0)).setCell ⟨g, i * 2 + 1, none⟩ (.int .i64 x.f1)).drew (fun k => k = g) ∧
    Below B w ((w.setCell ⟨g, i * 2, none⟩ (.int .i64 x.f0)).setCell ⟨g, i * 2 + 1, none⟩ (.int .i64 x.f1)).drew ∧
    ((w.setCell ⟨g, i * 2, none⟩ (.int .i64 x.f0)).setCell ⟨g, i * 2 + 1, none⟩ (.int .i64 x.f1)).drew.heap.size = w.heap.size := by
  have k1 : Kept w (w.setCell ⟨g, i * 2, none⟩ (.int .i64 x.f0)) (fun k => k = g) := (Kept.refl w (fun k => k = g)).setCell (p := ⟨g, i * 2, none⟩) (.inl rfl) _
  have k2 : Kept w ((w.setCell ⟨g, i * 2, none⟩ (.int .i64 x.f0)).setCell ⟨g, i * 2 + 1, none⟩ (.int .i64 x.f1)) (fun k => k = g) := k1.setCell (p := ⟨g, i * 2 + 1, none⟩) (.inl rfl) _
  have b1 : Below B w (w.setCell ⟨g, i * 2, none⟩ (.int .i64 x.f0)) := (Below.refl B w).setCell hg _
  have b2 : Below B w ((w.setCell ⟨g, i * 2, none⟩ (.int .i64 x.f0)).setCell ⟨g, i * 2 + 1, none⟩ (.int .i64 x.f1)) := b1.setCell hg _
  exact ⟨TRow.same (h.put i x) (fun _ _ => rfl), k2.drew, below_drew b2, by simp [World.setCell]⟩
theorem put_facts0 {w : World} {B g c n : Nat} {ts : List Tm} (h : TRow w B (.slice (some ⟨g, 0, none⟩) n c) ts) (hn : n = ts.length) (hg : B ≤ g) (i : Nat) (x : Tm) :
    TRow ((w.setCell ⟨g, i * 2, none⟩ (.int .i64 x.f0)).setCell ⟨g, i * 2 + 1, none⟩ (.int .i64 x.f1)) B (.slice (some ⟨g, 0, none⟩) n c) (ts.set i x) ∧
    Kept w ((w.setCell ⟨g, i * 2, none⟩ (.int .i64 x.f0)).setCell ⟨g, i * 2 + 1, none⟩ (.int .i64 x.f1)) (fun k => k = g) ∧
    Below B w ((w.setCell ⟨g, i * 2, none⟩ (.int .i64 x.f0)).setCell ⟨g, i * 2 + 1, none⟩ (.int .i64 x.f1)) ∧
    ((w.setCell ⟨g, i * 2, none⟩ (.int .i64 x.f0)).setCell ⟨g, i * 2 + 1, none⟩ (.int .i64 x.f1)).heap.size = w.heap.size := by
  subst hn
  have k1 : Kept w (w.setCell ⟨g, i * 2, none⟩ (.int .i64 x.f0)) (fun k => k = g) := (Kept.refl w (fun k => k = g)).setCell (p := ⟨g, i * 2, none⟩) (.inl rfl) _
  have b1 : Below B w (w.setCell ⟨g, i * 2, none⟩ (.int .i64 x.f0)) := (Below.refl B w).setCell hg _
  have r := h.put i x
  rw [List.length_set] at r
  exact ⟨r, k1.setCell (p := ⟨g, i * 2 + 1, none⟩) (.inl rfl) _, b1.setCell hg _, by simp [World.setCell]⟩
/-- The row's block is another one than the pile's, and than the map's. -/
theorem PAt.apart {w : World} {B p mb g n c : Nat} {ts : List Tm} {T : List (Int × Value)} (h : PAt w B p mb (.slice (some ⟨g, 0, none⟩) n c) ts T) : p ≠ g ∧ mb ≠ g ∧ p ≠ mb := by
  obtain ⟨cur, hcur⟩ : ∃ cur, w.heap[g]? = some (.cells cur 34 (0, 0)) := own_typed h.row g rfl
  obtain ⟨es, clock, hb, _⟩ := h.tbl
  refine ⟨fun e => ?_, fun e => ?_, fun e => ?_⟩
  · have := h.blk
    rw [e, hcur] at this
    have := Option.some.inj this
    injection this with _ h2 _
    exact absurd h2 (by decide)
  · rw [e, hcur] at hb
    cases hb
  · have := h.blk
    rw [e, hb] at this
    cases this
theorem PAt.stored {w w2 : World} {B p mb g n c : Nat} {ts ts' : List Tm} {T : List (Int × Value)} (h : PAt w B p mb (.slice (some ⟨g, 0, none⟩) n c) ts T) (hk : Kept w w2 (fun k => k = g)) (row : TRow w2 B (.slice (some ⟨g, 0, none⟩) n c) ts') : PAt w2 B p mb (.slice (some ⟨g, 0, none⟩) n c) ts' T := by
  obtain ⟨h1, h2, _⟩ := h.apart
  exact ⟨(hk.2 p (blk_lt h.blk) h1).trans h.blk, row, h.tbl.same (hk.2 mb h.tbl.lt h2), h.hp, h.hm⟩
theorem heap_setBlock {W : World} {b i : Nat} {O : Obj} (h : i ≠ b) : (setBlock W b O).heap[i]? = W.heap[i]? := by
  unfold setBlock
  simp [Array.getElem?_setIfInBounds, Ne.symm h]
theorem size_setBlock (W : World) (b : Nat) (O : Obj) : (setBlock W b O).heap.size = W.heap.size := by simp [setBlock]
theorem PAt.tabled {w W : World} {B p mb g n c : Nat} {ts : List Tm} {T T' : List (Int × Value)} {O : Obj} (h : PAt w B p mb (.slice (some ⟨g, 0, none⟩) n c) ts T) (hW : W.heap = w.heap) (ht : Tbl encI okI (setBlock W mb O) mb T') : PAt (setBlock W mb O) B p mb (.slice (some ⟨g, 0, none⟩) n c) ts T' := by
  obtain ⟨_, h2, h3⟩ := h.apart
  refine ⟨(heap_setBlock h3).trans (by rw [hW]; exact h.blk), TRow.same h.row (fun k hk => ?_), ht, h.hp, h.hm⟩
  injection hk with hk
  subst hk
  rw [heap_setBlock (fun e => h2 e.symm), hW]
theorem swapT_all {ts : List Tm} {i j : Nat} {Q : Tm → Prop} (h : ∀ t ∈ ts, Q t) (hi : i < ts.length) (hj : j < ts.length) : ∀ t ∈ swapT ts i j, Q t := fun t ht => by
  unfold swapT at ht
  rw [bang_get hi, bang_get hj] at ht
  rcases List.mem_or_eq_of_mem_set ht with ht | rfl
  · rcases List.mem_or_eq_of_mem_set ht with ht | rfl
    · exact h t ht
    · exact h _ (List.getElem_mem hj)
  · exact h _ (List.getElem_mem hi)
theorem tput_length (T : List (Int × Value)) (x : Int) (v : Value) : (tput T x v).length ≤ T.length + 1 := by
  unfold tput
  split <;> simp
set_option maxRecDepth 100000 in
set_option maxHeartbeats 4000000 in
theorem swap_calls (w : World) (B p mb : Nat) (v : Value) (ts : List Tm) (T : List (Int × Value)) (i j : Nat) (hi : i < ts.length) (hj : j < ts.length) (hl : ts.length ≤ 1000000) (h : PAt w B p mb v ts T) (hT : T.length ≤ 1000000) (hk : ∀ t ∈ ts, okI t.f1) :
    Calls Try.prog 70 #[.pointer (some ⟨p, 0, none⟩), .int .i64 i, .int .i64 j] w fun e w' => e = .returned (.tuple #[]) ∧ PAt w' B p mb v (swapT ts i j) (swapP ts T i j) ∧ Below B w w' ∧ Kept w w' (PFoot p mb v) ∧ w'.heap.size = w.heap.size := by
  obtain ⟨g, c, cur, rfl, hgB, hg, hlc, hcm, hcur⟩ := h.row.form (by omega)
  clear hcur
  obtain ⟨p0, p1, pf0, pf1⟩ := h.pcell
  obtain ⟨ic0, ic1, if0, if1⟩ := h.row.cells hi
  obtain ⟨jc0, jc1, jf0, jf1⟩ := h.row.cells hj
  rw [← bang_get hi] at ic0 ic1
  rw [← bang_get hj] at jc0 jc1
  obtain ⟨ti, hti⟩ : ∃ ti, ti = ts[i]! := ⟨_, rfl⟩
  obtain ⟨tj, htj⟩ : ∃ tj, tj = ts[j]! := ⟨_, rfl⟩
  rw [← hti] at ic0 ic1
  rw [← htj] at jc0 jc1
  have q1 : (0 : Int) ≤ (i : Int) := by omega
  have q2 : (i : Int) < (ts.length : Int) := by omega
  have q3 : (0 : Int) ≤ (j : Int) := by omega
  have q4 : (j : Int) < (ts.length : Int) := by omega
  have H := Lib.hid h
  have HI := Lib.hid hi
  have HJ := Lib.hid hj
  have HL := Lib.hid hl
  have HTI := Lib.hid hti
  have HTJ := Lib.hid htj
  have HK := Lib.hid hk
  have HG := Lib.hid hg
  have HT := Lib.hid hT
  have HGB := Lib.hid hgB
  clear h hi hj hl hti htj hk hg hT hlc hcm hgB
  go_enter Try.func70, Try.ntmps70
  go_wp2
  refine start_ (n := 28) (S := (fun w' => w'.cell? ⟨p, 0, none⟩ = some (.slice (some ⟨g, 0, none⟩) ts.length c) ∧ w'.cell? ⟨g, i * 2, none⟩ = some (.int .i64 ti.f0) ∧ w'.cell? ⟨g, i * 2 + 1, none⟩ = some (.int .i64 ti.f1) ∧ w'.cell? ⟨g, j * 2, none⟩ = some (.int .i64 tj.f0) ∧ w'.cell? ⟨g, j * 2 + 1, none⟩ = some (.int .i64 tj.f1))) (ds := [25, 27]) #[false, false, false, false, false, false, false, false, false, false, false, false, false, false, false, false, false, false, false, false, false, false, false, false, false, false, false, false] (by kernel_rfl) rfl rfl ⟨p0, ic0, ic1, jc0, jc1⟩ (fun hHeld => ?_)
  refine kz 0 6 ?_
  refine kz 1 7 ?_
  refine kz 2 8 ?_
  refine kk5 3 9 ?_
  refine kz 4 10 ?_
  refine kz 5 11 ?_
  refine kz 6 12 ?_
  refine kz 7 13 ?_
  refine kk5 8 14 ?_
  refine kz 9 15 ?_
  refine kz 10 16 ?_
  refine kz 11 17 ?_
  refine kz 12 18 ?_
  refine kk5 13 19 ?_
  refine kz 14 20 ?_
  refine kz 15 21 ?_
  refine kk5 16 22 ?_
  refine kz 17 23 ?_
  refine kz 18 24 ?_
  refine kz 19 25 ?_
  refine kk5 20 26 ?_
  refine kz 21 27 ?_
  refine kz 22 28 ?_
  refine kk5 23 29 ?_
  refine kz 24 30 ?_
  refine ls 25 ?_
  obtain ⟨R1, K1, B1, Z1⟩ := put_facts H.out.row HGB.out i tj
  generalize ((w.setCell ⟨g, i * 2, none⟩ (.int .i64 tj.f0)).setCell ⟨g, i * 2 + 1, none⟩ (.int .i64 tj.f1)).drew = w1 at R1 K1 B1 Z1 ⊢
  have hjl : j < (ts.set i tj).length := by rw [List.length_set]; exact HJ.out
  obtain ⟨jc0', jc1', jf0', jf1'⟩ := R1.cells hjl
  have HR1 := Lib.hid R1
  have HK1 := Lib.hid K1
  have HB1 := Lib.hid B1
  have HZ1 := Lib.hid Z1
  clear hHeld p0 p1 pf0 pf1 if0 if1 jf0 jf1 ic0 ic1 jc0 jc1 R1 K1 B1 Z1
  refine kz 26 31 ?_
  refine ls 27 ?_
  refine done_ (by kernel_rfl) ?_
  obtain ⟨R2, K2, B2, Z2⟩ := put_facts0 HR1.out (by rw [List.length_set]) HGB.out j ti
  generalize (w1.setCell ⟨g, j * 2, none⟩ (.int .i64 ti.f0)).setCell ⟨g, j * 2 + 1, none⟩ (.int .i64 ti.f1) = w2 at R2 K2 B2 Z2 ⊢
  have hsw : (ts.set i tj).set j ti = swapT ts i j := by unfold swapT; rw [HTI.out, HTJ.out]
  rw [List.length_set, hsw] at R2
  have P2 := H.out.stored (HK1.out.then_ K2 (fun k hk => .inl hk)) R2
  have hls : (swapT ts i j).length = ts.length := swapT_length ts i j
  have HP2 := Lib.hid P2
  have HK2 := Lib.hid (HK1.out.then_ K2 (fun k hk => .inl hk))
  have HB2 := Lib.hid (HB1.out.trans B2)
  have HZ2 := Lib.hid (Z2.trans HZ1.out)
  clear R2 K2 B2 Z2 P2 hsw jc0' jc1' jf0' jf1' HR1 HK1 HB1 HZ1 hjl hls
  have HKS := Lib.hid (show ∀ t ∈ swapT ts i j, okI t.f1 from fun t ht => swapT_all HK.out HI.out HJ.out t ht)
  go_wp2
  obtain ⟨p0, p1, pf0, pf1⟩ := HP2.out.pcell
  have hin : i < (swapT ts i j).length := by rw [swapT_length]; exact HI.out
  have kc := (TRow.cells (c := c) (w := w2) (B := B) (g := g) (by rw [swapT_length]; exact HP2.out.row) hin).2.1
  rw [← bang_get hin] at kc
  obtain ⟨ki, hki⟩ : ∃ k, k = (swapT ts i j)[i]!.f1 := ⟨_, rfl⟩
  rw [← hki] at kc
  have okk : okI ki := by
    rw [hki, bang_get hin]
    exact HKS.out _ (List.getElem_mem hin)
  obtain ⟨O, hrun, htbl⟩ := HP2.out.tbl.store intKey Try.underlying49 okk (.int .i64 i) (by have := HT.out; unfold maxLen; omega)
  have hr1 : (Instr.mapUpdate 49 (.map (some mb)) (.int .i64 ki) (.int .i64 i)).run Try.prog w2.drew = .ok () (setBlock w2.drew mb O) := hrun w2.drew rfl
  have P3 := HP2.out.tabled (W := w2.drew) rfl (htbl w2.drew HP2.out.tbl.lt)
  have K3 : Kept w2 (setBlock w2.drew mb O) (fun k => k = mb) := ⟨Nat.le_of_eq (size_setBlock ..).symm, fun k _ hk => heap_setBlock hk⟩
  have B3 : Below B w2 (setBlock w2.drew mb O) := ⟨rfl, rfl, rfl, Nat.le_of_eq (size_setBlock ..).symm, fun k hk => heap_setBlock (by have := HP2.out.hm; omega)⟩
  have Z3 : (setBlock w2.drew mb O).heap.size = w2.heap.size := size_setBlock ..
  have HP3 := Lib.hid P3
  have HK3 := Lib.hid K3
  have HB3 := Lib.hid B3
  have HZ3 := Lib.hid Z3
  have HKiV := Lib.hid hki
  clear P3 K3 B3 Z3 hki hin okk hrun htbl pf0 pf1
  refine start_ (n := 14) (S := (fun w' => w'.cell? ⟨p, 1, none⟩ = some (.map (some mb)) ∧ w'.cell? ⟨p, 0, none⟩ = some (.slice (some ⟨g, 0, none⟩) ts.length c) ∧ w'.cell? ⟨g, i * 2 + 1, none⟩ = some (.int .i64 ki))) (ds := [13]) #[false, false, false, false, false, false, false, false, false, false, false, false, false, false] (by kernel_rfl) rfl rfl ⟨p1, p0, kc⟩ (fun hHeld => ?_)
  refine kz 0 32 ?_
  refine kz 1 33 ?_
  refine kz 2 34 ?_
  refine kk3 3 35 ?_
  refine kz 4 36 ?_
  refine kz 5 37 ?_
  refine kz 6 38 ?_
  refine kk3 7 39 ?_
  refine kz 8 40 ?_
  refine kz 9 41 ?_
  refine kz 10 42 ?_
  refine kk3 11 43 ?_
  refine kz 12 44 ?_
  refine ls 13 ?_
  refine done_ (by kernel_rfl) ?_
  generalize setBlock w2.drew mb O = w3 at HP3 HK3 HB3 HZ3 hr1 ⊢
  clear hr1 p0 p1 kc
  go_wp2
  obtain ⟨p0, p1, pf0, pf1⟩ := HP3.out.pcell
  have hin : j < (swapT ts i j).length := by rw [swapT_length]; exact HJ.out
  have kc := (TRow.cells (c := c) (w := w3) (B := B) (g := g) (by rw [swapT_length]; exact HP3.out.row) hin).2.1
  rw [← bang_get hin] at kc
  obtain ⟨kj, hkj⟩ : ∃ k, k = (swapT ts i j)[j]!.f1 := ⟨_, rfl⟩
  rw [← hkj] at kc
  have okk : okI kj := by
    rw [hkj, bang_get hin]
    exact HKS.out _ (List.getElem_mem hin)
  obtain ⟨O2, hrun, htbl⟩ := HP3.out.tbl.store intKey Try.underlying49 okk (.int .i64 j) (by have := HT.out; unfold maxLen; have := tput_length T ki (.int .i64 i); omega)
  have hr1 : (Instr.mapUpdate 49 (.map (some mb)) (.int .i64 kj) (.int .i64 j)).run Try.prog w3.drew = .ok () (setBlock w3.drew mb O2) := hrun w3.drew rfl
  have P4 := HP3.out.tabled (W := w3.drew) rfl (htbl w3.drew HP3.out.tbl.lt)
  have K4 : Kept w3 (setBlock w3.drew mb O2) (fun k => k = mb) := ⟨Nat.le_of_eq (size_setBlock ..).symm, fun k _ hk => heap_setBlock hk⟩
  have B4 : Below B w3 (setBlock w3.drew mb O2) := ⟨rfl, rfl, rfl, Nat.le_of_eq (size_setBlock ..).symm, fun k hk => heap_setBlock (by have := HP3.out.hm; omega)⟩
  have Z4 : (setBlock w3.drew mb O2).heap.size = w3.heap.size := size_setBlock ..
  have HP4 := Lib.hid P4
  have HK4 := Lib.hid K4
  have HB4 := Lib.hid B4
  have HZ4 := Lib.hid Z4
  have HKjV := Lib.hid hkj
  clear P4 K4 B4 Z4 hkj hin okk hrun htbl pf0 pf1
  refine start_ (n := 14) (S := (fun w' => w'.cell? ⟨p, 1, none⟩ = some (.map (some mb)) ∧ w'.cell? ⟨p, 0, none⟩ = some (.slice (some ⟨g, 0, none⟩) ts.length c) ∧ w'.cell? ⟨g, j * 2 + 1, none⟩ = some (.int .i64 kj))) (ds := [13]) #[false, false, false, false, false, false, false, false, false, false, false, false, false, false] (by kernel_rfl) rfl rfl ⟨p1, p0, kc⟩ (fun hHeld => ?_)
  refine kz 0 45 ?_
  refine kz 1 46 ?_
  refine kz 2 47 ?_
  refine kk3 3 48 ?_
  refine kz 4 49 ?_
  refine kz 5 50 ?_
  refine kz 6 51 ?_
  refine kk3 7 52 ?_
  refine kz 8 53 ?_
  refine kz 9 54 ?_
  refine kz 10 55 ?_
  refine kk3 11 56 ?_
  refine kz 12 57 ?_
  refine ls 13 ?_
  refine done_ (by kernel_rfl) ?_
  generalize setBlock w3.drew mb O2 = w4 at HP4 HK4 HB4 HZ4 hr1 ⊢
  go_wp2
  go_end0
  have e1 : tput (tput T ki (.int .i64 i)) kj (.int .i64 j) = swapP ts T i j := by unfold swapP; rw [HKiV.out, HKjV.out]
  have P := HP4.out
  rw [e1] at P
  have hg1 : ∀ k, k = g → PFoot p mb (.slice (some ⟨g, 0, none⟩) ts.length c) k := fun k hk => .inr (.inr (by rw [hk]; rfl))
  have hm1 : ∀ k, k = mb → PFoot p mb (.slice (some ⟨g, 0, none⟩) ts.length c) k ∨ w.heap.size ≤ k := fun k hk => .inl (.inr (.inl hk))
  exact ⟨rfl, P, (HB2.out.trans HB3.out).trans HB4.out, ((Kept.mono HK2.out hg1).then_ HK3.out hm1).then_ HK4.out hm1, (HZ4.out.trans HZ3.out).trans HZ2.out⟩
end Go.Proofs.Ytjoemkmckabpjaa.Pr
