/- The proof's own texts, joined: part 10. No conditions. -/
import Derived.Shelf.SlicesG.Cmp
import Derived.WalkKit
import Derived.WalkSpells
import Derived.Lib.Hide
import Derived.StillTailTactics
import Derived.Sort.Grow
import Derived.KernelRfl
import Derived.Lib.SlicesS
import Derived.Shelf.SlicesE.Clone
import Derived.Shelf.SlSortCmp.WholeK
import Derived.Shelf.SlSortCmp.NoneTotal
import Derived.Ground.SlsfProg
import Derived.Ground.SlgnProg
import Derived.Test.YtmaipohgahdclaaDoorProg
import Derived.Laws.StructEq
import Derived.Below
import Derived.Deep.Draws
import Derived.Deep.AppendLies
import Derived.Maps.AppendAt
import Derived.OwnWalk
import Derived.Laws.BytesArg
import Derived.Laws.MakeOwn
import Derived.Laws.OwnMore
import Derived.Deep.OwnRows
import Derived.Tactics
import Derived.Lib.ConvBytes
import Derived.Laws.Slices
import Derived.RowKit3
import Derived.Deep.LoopGhost
import Derived.Deep.QuietTactic
import Derived.BigQuiet
import Derived.WideLaws
import Derived.Deep.DeepCutAuto
import Derived.Deep.CutBlock
import Derived.Deep.RegionHeld3
import Derived.Laws.Rows
import Derived.Lib.AppendStr
import Derived.ArgAppend
import Derived.Laws.IdiomCopy
import Derived.RowKit
import Derived.DeepKeys4
import Derived.Shelf.GgSortFunc.InsertionK
import Derived.WalkLawsBesides
import Derived.Outline
import Derived.Deep.RegionWith
import Derived.RegionTactic
import Derived.ChangeAlike
import Derived.Deep.RegionLaw
import Derived.Lib.SmallJoins
import Derived.Maps.OwnSet
import Derived.Maps.RangeRun
import Derived.Maps.Range
import Derived.Carry
import Derived.OrdersHeld
import Derived.Laws.BitsLemmas
import Derived.Laws.RangeAny
import Derived.Laws.Closers25
import Derived.Ground.SlgcProg
import Derived.Sort.Walk0
import Derived.Laws.Strings
import Derived.Sort.LotA
import Derived.Test.YtmaipohgahdclaaDoorPa0
import Derived.Test.YtmaipohgahdclaaDoorPa1
import Derived.Test.YtmaipohgahdclaaDoorPa2
import Derived.Test.YtmaipohgahdclaaDoorPa3
import Derived.Test.YtmaipohgahdclaaDoorPa6
import Derived.Test.YtmaipohgahdclaaDoorPa7
import Derived.Test.YtmaipohgahdclaaDoorPa9
section
namespace Go.Proofs.YtmaipohgahdclaaDoor.Pr
open Go.RowKit Go.Proofs.YtmaipohgahdclaaDoorW.PrintWords Go.Proofs.YtmaipohgahdclaaDoorW.PrintLast Go.Proofs.YtmaipohgahdclaaDoorW.PrintMore
open Go.ChangeMaps (setBlock)
set_option linter.unusedVariables false
set_option linter.unusedSimpArgs false
def tputC (T : List (ID × Cred)) (c : Cred) : List (ID × Cred) := if T.any (fun y => decide (y.1 = c.f0)) then T.map (fun y => if y.1 = c.f0 then (c.f0, c) else y) else T ++ [(c.f0, c)]
theorem credT_put (T : List (ID × Cred)) (c : Cred) : tput (credT T) c.f0 (encCred c) = credT (tputC T c) := by
  unfold tput tputC credT; rw [List.any_map]
  by_cases h : (T.any fun y => decide (y.1 = c.f0)) = true
  · have h' : (T.any ((fun y : ID × Value => decide (y.1 = c.f0)) ∘ fun x : ID × Cred => (x.1, encCred x.2))) = true := h
    rw [if_pos h, if_pos h', List.map_map, List.map_map]
    apply List.map_congr_left
    intro y _
    by_cases e : y.1 = c.f0
    · simp [e]
    · simp [e]
  · have h' : ¬ (T.any ((fun y : ID × Value => decide (y.1 = c.f0)) ∘ fun x : ID × Cred => (x.1, encCred x.2))) = true := h
    rw [if_neg h, if_neg h']; simp
def tableOf (cs : List Cred) : List (ID × Cred) := cs.foldl tputC []
theorem tputC_length (T : List (ID × Cred)) (c : Cred) : (tputC T c).length ≤ T.length + 1 := by
  unfold tputC
  split <;> simp
theorem tableOf_snoc (cs : List Cred) (c : Cred) : tableOf (cs ++ [c]) = tputC (tableOf cs) c := by
  unfold tableOf; rw [List.foldl_append]; rfl
theorem foldT_length : ∀ (cs : List Cred) (T : List (ID × Cred)), (cs.foldl tputC T).length ≤ T.length + cs.length
  | [], T => Nat.le_refl _
  | c :: cs, T => by
    rw [List.foldl_cons]; have := foldT_length cs (tputC T c); have := tputC_length T c; simp only [List.length_cons]; omega
theorem tableOf_length (cs : List Cred) : (tableOf cs).length ≤ cs.length := by
  have := foldT_length cs []
  simpa [tableOf] using this
theorem take_snoc {cs : List Cred} {i : Nat} (h : i < cs.length) : tableOf (cs.take (i + 1)) = tputC (tableOf (cs.take i)) cs[i] := by
  rw [List.take_add_one, List.getElem?_eq_getElem h]; exact tableOf_snoc _ _
abbrev goodIDs (cs : List Cred) : Prop := ∀ c ∈ cs, okID c.f0
theorem map_turned {W Y : World} {b B : Nat} {O : Obj} (hb : b < W.heap.size) (hY : Y = setBlock W b O) (hB : B ≤ b) : Y.heap.size = W.heap.size ∧ (∀ i, i ≠ b → Y.heap[i]? = W.heap[i]?) ∧ Below B W Y := by
  have hother : ∀ i, i ≠ b → Y.heap[i]? = W.heap[i]? := fun i hi => by rw [hY]; simp [setBlock, Ne.symm hi]
  have hsz : Y.heap.size = W.heap.size := by rw [hY]; show (W.heap.setIfInBounds b O).size = _; simp
  exact ⟨hsz, hother, by rw [hY]; exact ⟨rfl, rfl, rfl, by show W.heap.size ≤ (W.heap.setIfInBounds b O).size; simp, fun i hi => by have := hother i (by omega); rw [hY] at this; exact this⟩⟩
theorem R_turned {α : Type} {d : Kd α} {e : Nat} {W Y : World} {b B : Nat} {v : Value} {xs : List α} {κ : Type} {enc : κ → Value} {ok : κ → Prop} {l : List (κ × Value)} (hR : Kd.R d e W B (fun _ => True) v xs) (hT : Tbl enc ok W b l) (hY : ∀ i, i ≠ b → Y.heap[i]? = W.heap[i]?) : Kd.R d e Y B (fun _ => True) v xs :=
  Kd.R_mono (Kd.R_move (Kd.R_bound hR) (fun k hk => hY k (fun e => by
    obtain ⟨_, _, _, q, _, cells, hc⟩ := hk; obtain ⟨es, clock, hb, _⟩ := hT; rw [e, hb] at hc
    cases hc))) (fun _ hk => hk.1)
set_option maxRecDepth 100000 in
set_option maxHeartbeats 4000000 in
theorem check_walk (w : World) (p : Proof) (A : Option Addr) (c : Nat) (A0 : Option Addr) (c0 : Nat) (l : List Cred) (cs : List Cred) (k : Nat) (r : Bool) (hr0 : Kd.C kCred w A0 l.length l) (hc0 : l.length ≤ c0) (hR : Kd.C kProof w A p.f3.length p.f3) (hc : p.f3.length ≤ c)
    (hcs : Qa9.f 200 l = some cs) (hlen : cs.length ≤ 1000000) (hid : goodIDs cs) (h : checkF (tableOf cs) k p = some r) :
    Calls Tryd.prog 11 #[.slice A0 l.length c0, encProof p A c] w fun e w' => e = .returned (.int .i64 (if r = true then 0 else 15)) ∧ Below w.heap.size w w' := by
  have hmk := fun W => run_makeMap (P := Tryd.prog) 48 W
  have hb1 := Qad (Below.refl w.heap.size w) (proofObj p A c); have hb2 := Qad hb1 (.map #[] 0); have hb3 := Qad hb2 (chkObj (w.heap.size + 1))
  have hct := fun W hW => Qa9.calls 200 A0 c0 l cs W (Kd.QaJ hr0 hW) hc0 hcs
  go_enter Tryd.func11, Tryd.ntmps11
  go_upto_region 2 with fail
  change Code.wp _ _ _ _ (((w.alloc (proofObj p A c)).alloc (.map #[] 0)).alloc (chkObj (w.heap.size + 1)))
  obtain ⟨V, hV⟩ : ∃ V, V = ((w.alloc (proofObj p A c)).alloc (.map #[] 0)).alloc (chkObj (w.heap.size + 1)) := ⟨_, rfl⟩
  obtain ⟨HB, BP, BM, BK⟩ := boxed3 hV.symm
  have HT0 : Tbl encID okID V (w.heap.size + 1) (credT (tableOf [])) := by
    have h1 := Tbl.made encID okID (w.alloc (proofObj p A c))
    have e1 : (w.alloc (proofObj p A c)).heap.size = w.heap.size + 1 := by simp
    rw [e1] at h1; rw [hV]; exact h1.below (Qad (Below.refl _ _) _)
  have hsz : w.heap.size + 1 + 1 < V.heap.size := blk_lt BK; rw [← hV]; have hct1 := hct V HB; clear hmk hb1 hb2 hb3 hct hV BM hr0
  generalize hb : w.heap.size + 1 = b at *
  obtain ⟨g, hg⟩ : ∃ g, g = b + 1 := ⟨_, rfl⟩
  rw [← hg] at BK hsz ⊢; have HIDS := Lib.hid hid; have HF := Lib.hid h; have HL := Lib.hid hlen; have HRp := Lib.hid (Kd.QaJ hR HB); have HBW := Lib.hid (show w.heap.size < b ∧ b < g ∧ g < V.heap.size ∧ w.heap.size < V.heap.size by omega); have HZ := Lib.hid hc; have HR0 := Lib.hid hR; clear hid h hlen hR hg hsz hb hc
  go_wp2_with (go_at_call 25; refine hct1.mono ?_; rintro e w3 ⟨v3, rfl, hR3, hB3⟩; obtain ⟨A3, cc3, rfl⟩ := Kd.R_slice hR3)
  have HP3 := Qal BP hB3; have HK3 := Qal BK hB3; have HT3 := HT0.below hB3; have HW3 := Qak HB hB3; have HRq := Lib.hid (Kd.QaJ HRp.out hB3); have HB3s := Lib.hid (hB3.size); clear BP BK HT0 HB HRp hct1 hB3
  go_loopg [7, 13] (cs.length + 1) (fun kq _ v13 w' => ∃ i : Nat, v13 = .int .i64 i ∧ Hid (kq = cs.length + 1 - i) ∧ Hid (i ≤ cs.length) ∧ Hid (Tbl encID okID w' b (credT (tableOf (cs.take i)))) ∧ Hid (w'.heap[w.heap.size]? = some (proofObj p A c)) ∧ Hid (w'.heap[g]? = some (chkObj b)) ∧ Hid (Kd.R kCred 44 w' V.heap.size (fun _ => True) (.slice A3 cs.length cc3) cs) ∧ Hid (Below w.heap.size w w') ∧ Hid (w3.heap.size ≤ w'.heap.size))
  case atStart => exact ⟨0, rfl, Lib.hid rfl, Lib.hid (Nat.zero_le _), Lib.hid HT3, Lib.hid HP3, Lib.hid HK3, Lib.hid hR3, Lib.hid HW3, Lib.hid (Nat.le_refl _)⟩
  case round =>
    clear HP3 HK3 HT3 HW3 hR3; obtain ⟨i, rfl, HKq, HI, HT, HP, HK, HR, HW, HS⟩ := hrel
    by_cases hi : i < cs.length
    · have d1 : decide ((i : Int) < (cs.length : Int)) = true := decide_eq_true (by omega)
      have d2 : decide (i < cs.length) = true := decide_eq_true hi; obtain ⟨ad, e, hx0, hx1, hx2, hx3, hx4, hx5, hx6, hx7, hx8⟩ := at_T44 (Kd.QaX HR.out).2.2 (i : Int) (by omega) (by omega); cases e
      obtain ⟨x, hx⟩ : ∃ x, x = cs[i] := ⟨_, rfl⟩
      have erd : Qaf cs (i : Int) = x := by
        unfold Qaf; rw [hx, Int.toNat_natCast, List.getD_eq_getElem?_getD, List.getElem?_eq_getElem hi]; rfl
      rw [erd, Int.toNat_natCast] at hx0 hx1 hx2 hx3 hx4 hx5 hx6 hx7 hx8; have p101 : (0 ≤ (i : Int)) = True := eq_true (by omega); have q101 : ((i : Int) < (cs.length : Int)) = True := eq_true (by omega); have hokx : okID x.f0 := HIDS.out x (by rw [hx]; exact List.getElem_mem hi); have hnext := take_snoc hi; rw [← hx] at hnext; have HN := Lib.hid hnext; have HIL := Lib.hid hi; have HOK := Lib.hid hokx; clear hx erd hnext hokx
      have wrapI : wrap64 ((i : Int) + 1) = ((i + 1 : Nat) : Int) := by unfold wrap64; have := HL.out; have := HIL.out; omega
      clear hi
      go_upto_region 5 with fail
      change Code.wp _ _ _ _ (wr.alloc (credObj x)); have HX := Qad (Below.refl wr.heap.size wr) (credObj x); have B3 := blk_new wr (credObj x); have BK := Qal HK.out HX; have BP := Qal HP.out HX; have RX := Kd.QaL HR.out HX; have TX := HT.out.below HX; have WX := Qak HW.out HX; have hbX := HT.out.lt
      obtain ⟨O, hu, hT'⟩ := TX.store idKey Tryd.underlying48 HOK.out (encCred x) (by
        unfold credT; rw [List.length_map]; have h1 := tableOf_length (cs.take i); have h2 := List.length_take_le i cs; have h3 := HI.out; have h4 := HL.out
        have : maxLen = 9223372036854775807 := by decide
        omega)
      clear hx0 hx1 hx2 hx3 hx4 hx5 hx6 hx7 hx8; have SZX := Lib.hid (show (wr.alloc (credObj x)).heap.size = wr.heap.size + 1 by simp)
      generalize wr.alloc (credObj x) = X at HX B3 BK BP RX TX WX hu hT' SZX ⊢
      have hu1 := hu X rfl; unfold encID encCred at hu1; have k0 := chkCells BK; obtain ⟨c0, c1, c2, c3, c4, c5, c6, c7, c8⟩ := credCells B3; have HTX := Lib.hid TX; have HRX := Lib.hid RX; have HPX := Lib.hid BP; have HKX := Lib.hid BK; have HWX := Lib.hid WX; have HO := Lib.hid hT'; have HBX := Lib.hid hbX; clear hu BK BP B3 RX TX WX hT' hbX HX; go_wp2
      go_roundg (cs.length + 1 - (i + 1))
      case measure => have := HKq.out; have := HIL.out; omega
      case rel =>
        have hlt : b < X.heap.size := by have := HBX.out; have := SZX.out; omega
        obtain ⟨hs, ho, hbw⟩ := map_turned (Y := setBlock X b O) (B := w.heap.size) hlt rfl (by have := HBW.out; omega)
        have hne1 : w.heap.size ≠ b := by have := HBW.out; omega
        refine ⟨i + 1, by first | rfl | exact congrArg _ wrapI, Lib.hid rfl, Lib.hid HIL.out, Lib.hid ?_, Lib.hid ((ho _ hne1).trans HPX.out), Lib.hid ((ho _ (by have := HBW.out; omega)).trans HKX.out), Lib.hid (R_turned HRX.out HTX.out ho), Lib.hid (HWX.out.trans hbw), Lib.hid ?_⟩
        · rw [HN.out, ← credT_put]
          exact HO.out X hlt
        · rw [hs]
          have := HS.out; have := SZX.out; omega
    · have d1 : decide ((i : Int) < (cs.length : Int)) = false := decide_eq_false (by omega)
      have d2 : decide (i < cs.length) = false := decide_eq_false hi
      have hend : tableOf (cs.take i) = tableOf cs := by rw [List.take_of_length_le (by omega)]
      have hTe := HT.out; rw [hend] at hTe; have HTe := Lib.hid hTe; have k0 := chkCells HK.out; obtain ⟨p0, p1, p2, p3, p4, p5⟩ := proofCells HP.out; have HRe := Lib.hid (Kd.QaJ HR0.out HW.out); have HWe := Lib.hid HW.out; clear hi hend hTe HT HP HK HR HW; cases r
      · go_wp2_with (go_at_call 26; refine (check_calls (tableOf cs) k _ b p A c false (HTe.out.below (by repeat (first | exact Below.refl _ _ | apply Qaa | apply Qac))) (Kd.QaJ HRe.out (by repeat (first | exact Below.refl _ _ | apply Qaa | apply Qac))) HZ.out HF.out).mono ?_; rintro e w5 ⟨rfl, hB5⟩; have HB5 := Qak HWe.out hB5)
        go_ret; exact ⟨rfl, HB5⟩
      · go_wp2_with (go_at_call 26; refine (check_calls (tableOf cs) k _ b p A c true (HTe.out.below (by repeat (first | exact Below.refl _ _ | apply Qaa | apply Qac))) (Kd.QaJ HRe.out (by repeat (first | exact Below.refl _ _ | apply Qaa | apply Qac))) HZ.out HF.out).mono ?_; rintro e w5 ⟨rfl, hB5⟩; have HB5 := Qak HWe.out hB5)
        go_ret; exact ⟨rfl, HB5⟩
end Go.Proofs.YtmaipohgahdclaaDoor.Pr
end
section
namespace Go.Proofs.YtmaipohgahdclaaDoor.Pr
open Go.RowKit Go.Proofs.YtmaipohgahdclaaDoorW.PrintWords Go.Proofs.YtmaipohgahdclaaDoorW.PrintLast Go.Proofs.YtmaipohgahdclaaDoorW.PrintMore
attribute [local go_sem] max2_int min2_int max_two min_two Qbj Qbi max_four min_four
set_option linter.unusedVariables false
set_option linter.unusedSimpArgs false
def QaB.f (l0 : List (S44)) (a1_0 : ByteArray) (a1_1 : ByteArray) (a1_2 : ByteArray) (a1_3 : Int) (a1_4 : Int) (l1_5 : List (S29)) : Option Int := (Qa9.f 200 l0).bind fun cs => if cs.length ≤ 1000000 ∧ goodIDs cs then (checkF (tableOf cs) 200 ⟨⟨a1_0, a1_1⟩, a1_2, ⟨a1_3, a1_4⟩, l1_5⟩).map (fun r => if r = true then 0 else 15) else none
set_option maxRecDepth 100000 in
theorem QaB.calls (A0 : Option Addr) (c0 : Nat) (l0 : List (S44)) (a1_0 : ByteArray) (a1_1 : ByteArray) (a1_2 : ByteArray) (a1_3 : Int) (a1_4 : Int) (A1_5 : Option Addr) (c1_5 : Nat) (l1_5 : List (S29)) (r : Int) (w : World) (hr0 : Kd.C k44 w A0 l0.length l0) (hc0 : l0.length ≤ c0) (hr1_5 : Kd.C k29 w A1_5 l1_5.length l1_5) (hc1_5 : l1_5.length ≤ c1_5) (h : QaB.f l0 a1_0 a1_1 a1_2 a1_3 a1_4 l1_5 = some r) :
    Calls Tryd.prog 11 #[.slice A0 l0.length c0, .agg #[.string a1_0, .string a1_1, .string a1_2, .int .i64 a1_3, .int .i64 a1_4, .slice A1_5 l1_5.length c1_5]] w fun e w' => e = .returned (.int .i64 r) ∧ Below w.heap.size w w' := by
  unfold QaB.f at h; obtain ⟨cs, hcs, h⟩ := Option.bind_eq_some_iff.mp h
  by_cases hl : cs.length ≤ 1000000 ∧ goodIDs cs
  · rw [if_pos hl] at h
    obtain ⟨b, hb, rfl⟩ := Option.map_eq_some_iff.mp h; exact check_walk w ⟨⟨a1_0, a1_1⟩, a1_2, ⟨a1_3, a1_4⟩, l1_5⟩ A1_5 c1_5 A0 c0 l0 cs 200 b hr0 hc0 hr1_5 hc1_5 hcs hl.1 hl.2 hb
  · rw [if_neg hl] at h
    cases h
end Go.Proofs.YtmaipohgahdclaaDoor.Pr
end
section
namespace Go.Proofs.YtmaipohgahdclaaDoor.Pr
open Go.RowKit Go.Proofs.YtmaipohgahdclaaDoorW.PrintWords Go.Proofs.YtmaipohgahdclaaDoorW.PrintLast Go.Proofs.YtmaipohgahdclaaDoorW.PrintMore
open Go.ChangeMaps (setBlock)
set_option linter.unusedVariables false
set_option linter.unusedSimpArgs false
def idT (l : List ID) : List (ID × Value) := l.map fun x => (x, .bool true)
def putID (l : List ID) (x : ID) : List ID := if x ∈ l then l else l ++ [x]
theorem idT_put (l : List ID) (x : ID) : tput (idT l) x (.bool true) = idT (putID l x) := by
  unfold tput putID idT
  by_cases h : x ∈ l
  · have h' : ((l.map fun x => (x, Value.bool true)).any fun y => decide (y.1 = x)) = true := by
      rw [List.any_map, List.any_eq_true]; exact ⟨x, h, by simp⟩
    rw [if_pos h, if_pos h', List.map_map]
    apply List.map_congr_left
    intro y _
    by_cases e : y = x
    · simp [e]
    · simp [e]
  · have h' : ¬ ((l.map fun x => (x, Value.bool true)).any fun y => decide (y.1 = x)) = true := by
      rw [List.any_map, List.any_eq_true]; rintro ⟨y, hy, e⟩
      have : y = x := by simpa using e
      exact h (this ▸ hy)
    rw [if_neg h, if_neg h']; simp
def gatherL (F : Proof → List ID → Option (List ID)) : List Proof → List ID → Option (List ID)
  | [], l => some l
  | p :: ps, l => (F p l).bind (gatherL F ps)
def gatherF : Nat → Proof → List ID → Option (List ID)
  | 0, _, _ => none
  | k + 1, p, l => if okID p.f2 ∧ l.length < 1000000 ∧ p.f3.length ≤ 1000000 then gatherL (gatherF k) p.f3 (putID l p.f2) else none
def Gathers (F : Proof → List ID → Option (List ID)) : Prop := ∀ (w0 w : World) (b : Nat) (p : Proof) (A : Option Addr) (c : Nat) (l l' : List ID), Kd.C kProof w0 A p.f3.length p.f3 → p.f3.length ≤ c → Below w0.heap.size w0 w → w0.heap.size ≤ b → Tbl encID okID w b (idT l) → F p l = some l' →
  Calls Tryd.prog 28 #[encProof p A c, .map (some b)] w fun e w' => e = .returned (.tuple #[]) ∧ Tbl encID okID w' b (idT l') ∧ Below w0.heap.size w0 w'
set_option maxRecDepth 100000 in
set_option maxHeartbeats 4000000 in
theorem gather_step {F : Proof → List ID → Option (List ID)} (HC : Gathers F) (w0 w : World) (b : Nat) (p : Proof) (A : Option Addr) (c : Nat) (l l' : List ID) (hp : Kd.C kProof w0 A p.f3.length p.f3) (hc : p.f3.length ≤ c) (hW : Below w0.heap.size w0 w) (hb : w0.heap.size ≤ b) (hT : Tbl encID okID w b (idT l)) (hok : okID p.f2) (hl : l.length < 1000000) (hn : p.f3.length ≤ 1000000)
    (h : gatherL F p.f3 (putID l p.f2) = some l') :
    Calls Tryd.prog 28 #[encProof p A c, .map (some b)] w fun e w' => e = .returned (.tuple #[]) ∧ Tbl encID okID w' b (idT l') ∧ Below w0.heap.size w0 w' := by
  have HX := Qad (Below.refl w.heap.size w) (proofObj p A c); have BP := blk_new w (proofObj p A c); have TX := hT.below HX; have WX := Qak hW HX; have hbX := hT.lt
  obtain ⟨O, hu, hT'⟩ := TX.store idKey Tryd.underlying52 hok (.bool true) (by
    unfold idT; rw [List.length_map]
    have : maxLen = 9223372036854775807 := by decide
    omega)
  rw [idT_put] at hT'; have HN := Lib.hid hn; have HF := Lib.hid h; have HP := Lib.hid hp; have HB := Lib.hid hb; have HZ := Lib.hid hc
  have SZX := (show (w.alloc (proofObj p A c)).heap.size = w.heap.size + 1 by simp)
  clear hn h hp hc hl hok hW hT TX; go_enter Tryd.func28, Tryd.ntmps28
  go_upto_region 1 with fail
  change Code.wp _ _ _ _ (w.alloc (proofObj p A c))
  generalize w.alloc (proofObj p A c) = X at HX BP WX hu hT' SZX ⊢
  have hu1 := hu X rfl; unfold encID at hu1; obtain ⟨p0, p1, p2, p3, p4, p5⟩ := proofCells BP
  have hlt : b < X.heap.size := by omega
  obtain ⟨hs, ho, hbw⟩ := map_turned (Y := setBlock X b O) (B := w0.heap.size) hlt rfl HB.out; have T1 := Lib.hid (hT' X hlt); have W1 := Lib.hid (WX.trans hbw)
  have hbn : w.heap.size ≠ b := by omega
  obtain ⟨q0, q1, q2, q3, q4, q5⟩ := proofCells ((ho _ hbn).trans BP); clear hu BP HX WX hT' hbX SZX hs ho hbw hlt hbn hb; go_wp2
  go_loopg [5, 12] (p.f3.length + 1) (fun kq _ v12 w' => ∃ (i : Nat) (li : List ID), v12 = .int .i64 i ∧ Hid (kq = p.f3.length + 1 - i) ∧ Hid (i ≤ p.f3.length) ∧ Hid (Tbl encID okID w' b (idT li)) ∧ Hid (gatherL F (p.f3.drop i) li = some l') ∧ Hid (Below w0.heap.size w0 w'))
  case atStart => exact ⟨0, _, rfl, Lib.hid rfl, Lib.hid (Nat.zero_le _), Lib.hid T1.out, Lib.hid HF.out, Lib.hid W1.out⟩
  case round =>
    clear T1 W1 HF hu1 p0 p1 p2 p3 p4 p5 q0 q1 q2 q3 q4 q5; obtain ⟨i, li, rfl, HK, HI, HT, HR, HW⟩ := hrel
    by_cases hi : i < p.f3.length
    · have f1 : decide ((i : Int) < (p.f3.length : Int)) = true := decide_eq_true (by omega)
      have f2 : decide (i < p.f3.length) = true := decide_eq_true hi; obtain ⟨ad, A5, c5, e, hx0, hx1, hx2, hx3, hx4, hx5, hxl, hxC⟩ := at_T29 HP.out (i : Int) (by omega) (by omega); cases e; have hr := HR.out; rw [List.drop_eq_getElem_cons hi, gatherL] at hr
      have ex : Qat p.f3 (i : Int) = p.f3[i] := by
        unfold Qat; rw [Int.toNat_natCast, List.getD_eq_getElem?_getD, List.getElem?_eq_getElem hi]; rfl
      rw [ex, Int.toNat_natCast] at hx0 hx1 hx2 hx3 hx4 hx5; rw [ex] at hxl hxC
      generalize p.f3[i] = P at hx0 hx1 hx2 hx3 hx4 hx5 hxl hxC hr
      clear ex; obtain ⟨t, ht, hr⟩ := Option.bind_eq_some_iff.mp hr; have z0 := Qbc HW.out hx0; have z1 := Qbc HW.out hx1; have z2 := Qbc HW.out hx2; have z3 := Qbc HW.out hx3; have z4 := Qbc HW.out hx4; have z5 := Qbc HW.out hx5; clear hx0 hx1 hx2 hx3 hx4 hx5; have p101 : (0 ≤ (i : Int)) = True := eq_true (by omega); have q101 : ((i : Int) < (p.f3.length : Int)) = True := eq_true (by omega); have HIL := Lib.hid hi; have HXC := Lib.hid hxC; have HXL := Lib.hid hxl; have HFt := Lib.hid ht; have HRr := Lib.hid hr
      have wrapI : wrap64 ((i : Int) + 1) = ((i + 1 : Nat) : Int) := by unfold wrap64; have := HN.out; omega
      clear hi hxC hxl ht hr HR
      go_upto_region 5 with fail
      change Code.wp _ _ _ _ (wr.alloc (proofObj P A5 c5)); have HV := Qad (Below.refl wr.heap.size wr) (proofObj P A5 c5); have B1 := blk_new wr (proofObj P A5 c5); have TV := HT.out.below HV; have WV := Qak HW.out HV; clear z0 z1 z2 z3 z4 z5
      generalize wr.alloc (proofObj P A5 c5) = V at HV B1 TV WV ⊢
      have HTV := Lib.hid TV; have HWV := Lib.hid WV; obtain ⟨p0, p1, p2, p3, p4, p5⟩ := proofCells B1; clear HV B1 TV WV HT HW
      go_wp2_with (go_at_call 28; refine (HC w0 _ b P A5 c5 li t HXC.out HXL.out (Qak HWV.out (by repeat (first | exact Below.refl _ _ | apply Qaa | apply Qac))) HB.out (HTV.out.below (by repeat (first | exact Below.refl _ _ | apply Qaa | apply Qac))) HFt.out).mono ?_; rintro e w5 ⟨rfl, hT5, hB5⟩; have HT5 := Lib.hid hT5; have HB5 := Lib.hid hB5; clear hT5 hB5)
      go_roundg (p.f3.length + 1 - (i + 1))
      case measure => have := HK.out; have := HIL.out; omega
      case rel => exact ⟨i + 1, t, by first | rfl | exact congrArg _ wrapI, Lib.hid rfl, Lib.hid HIL.out, Lib.hid HT5.out, Lib.hid HRr.out, Lib.hid HB5.out⟩
    · have f1 : decide ((i : Int) < (p.f3.length : Int)) = false := decide_eq_false (by omega)
      have f2 : decide (i < p.f3.length) = false := decide_eq_false hi; have hr := HR.out; rw [List.drop_eq_nil_of_le (by omega)] at hr; obtain rfl := Option.some.inj hr; clear hr HR hi; go_wp2; go_end0; exact ⟨rfl, HT.out, HW.out⟩
theorem gather_calls : ∀ k, Gathers (gatherF k)
  | 0 => fun w0 w b p A c l l' hp hc hW hb hT h => by cases h
  | k + 1 => fun w0 w b p A c l l' hp hc hW hb hT h => by
    rw [gatherF] at h
    split at h
    · rename_i hh
      exact gather_step (gather_calls k) w0 w b p A c l l' hp hc hW hb hT hh.1 hh.2.1 hh.2.2 h
    · cases h
end Go.Proofs.YtmaipohgahdclaaDoor.Pr
end
section
namespace Go.Proofs.YtmaipohgahdclaaDoor.Pr
open Go.RowKit Go.Proofs.YtmaipohgahdclaaDoorW.PrintWords Go.Proofs.YtmaipohgahdclaaDoorW.PrintLast Go.Proofs.YtmaipohgahdclaaDoorW.PrintMore
open Go.ChangeMaps (setBlock)
set_option linter.unusedVariables false
set_option linter.unusedSimpArgs false
attribute [local go_sem high] eqA26
abbrev kID := k26
def idLess (a b : ID) : Bool := decide (a.f0 < b.f0) || (decide (a.f0 = b.f0) && decide (a.f1 < b.f1))
def idCmp (x y : ID) : Int := if idLess x y = true then -1 else if x = y then 0 else 1
theorem idLess_iff (a b : ID) : idLess a b = true ↔ a.f0 < b.f0 ∨ (a.f0 = b.f0 ∧ a.f1 < b.f1) := by
  unfold idLess; rw [Bool.or_eq_true, Bool.and_eq_true, decide_eq_true_eq, decide_eq_true_eq, decide_eq_true_eq]
theorem idLess_irrefl (a : ID) : ¬ idLess a a = true := by rw [idLess_iff]; omega
theorem idLess_trans {a b c : ID} (h1 : idLess a b = true) (h2 : idLess b c = true) : idLess a c = true := by
  rw [idLess_iff] at *; omega
theorem idLess_total {a b : ID} (h1 : ¬ idLess a b = true) (h2 : ¬ idLess b a = true) : a = b := by
  rw [idLess_iff] at *; exact id_ext (by omega) (by omega)
theorem idCmp_lt (x y : ID) : Go.Proofs.ltOf idCmp x y = idLess x y := by
  unfold Go.Proofs.ltOf idCmp
  by_cases h2 : idLess x y = true
  · rw [if_pos h2, h2]
    rfl
  · rw [if_neg h2]
    by_cases h : x = y
    · rw [if_pos h]
      simp_all
    · rw [if_neg h]
      simp_all
theorem idSWO : Go.Sort.SWO (Go.Proofs.ltOf idCmp) where
  irrefl x := by rw [idCmp_lt]; have := idLess_irrefl x; simp_all
  trans x y z h1 h2 := by rw [idCmp_lt] at *; exact idLess_trans h1 h2
  ntrans x y z h1 h2 := by
    rw [idCmp_lt] at *; rw [Bool.eq_false_iff] at *; intro h3
    by_cases h4 : idLess y x = true
    · exact h2 (idLess_trans h4 h3)
    · rw [idLess_total h1 h4] at h3
      exact h2 h3
def sortIDs (l : List ID) : List ID := l.mergeSort fun x y => !(Go.Proofs.ltOf idCmp) y x
def encIDL (p : ID) : List Value := [.int .i64 p.f0, .int .i64 p.f1]
instance : Inhabited ID := ⟨⟨0, 0⟩⟩
theorem flatID : Flat kID encIDL where
  opens h := k26_openM h
  shuts w base ok x := k26_mkM w base ok x
  len _ := rfl
theorem isAggID (w : World) : (isAgg 26).run Tryd.prog w = .ok true w := by kernel_rfl
theorem sizeOfID (w : World) : (Go.sizeOf 26).run Tryd.prog w = .ok 2 w := by kernel_rfl
theorem infoID : (Tryd.prog.info? 26).map (fun i => (i.zero, i.size, i.bytes)) = some (some (.agg #[.int .i64 0, .int .i64 0]), 2, 16) := by kernel_rfl
abbrev idObj (p : ID) : Obj := .cells #[.int .i64 p.f0, .int .i64 p.f1] 26
theorem idCells {W : World} {k : Nat} {p : ID} (h : W.heap[k]? = some (idObj p)) : W.cell? ⟨k, 0, none⟩ = some (.int .i64 p.f0) ∧ W.cell? ⟨k, 1, none⟩ = some (.int .i64 p.f1) :=
  ⟨(Qaj h 0).trans rfl, (Qaj h 1).trans rfl⟩
set_option maxHeartbeats 1000000 in
theorem before_calls (a b : ID) (W : World) : Calls Tryd.prog 31 #[encID a, encID b] W fun e w' => e = .returned (.bool (idLess a b)) ∧ ∃ q os', w' = Sort.grow (W.drewN q) os' := by
  unfold idLess encID
  generalize h1 : decide (a.f0 < b.f0) = b1
  generalize h2 : decide (a.f0 = b.f0) = b2
  have h2' : (a.f0 == b.f0) = b2 := by rw [← h2]; rfl
  generalize h3 : decide (a.f1 < b.f1) = b3
  clear h2
  cases b1 <;> cases b2 <;> cases b3 <;> (
    go_enter Tryd.func31, Tryd.ntmps31; go_wp2; go_ret
    exact ⟨rfl, 0, _, by rw [Sort.alloc_eq_grow, Sort.alloc_eq_grow, Sort.grow_grow]; rfl⟩)
theorem boxedID_grow {W w3 : World} {x y : ID} {q : Nat} {os : Array Obj} (h : w3 = Sort.grow (((W.alloc (idObj x)).alloc (idObj y)).drewN q) os) : w3.heap[W.heap.size]? = some (idObj x) ∧ w3.heap[W.heap.size + 1]? = some (idObj y) ∧ ∃ q os', w3 = Sort.grow (W.drewN q) os' := by
  have hs : ((W.alloc (idObj x)).alloc (idObj y)).heap.size = W.heap.size + 2 := by simp
  have hb : ∀ k, k < W.heap.size + 2 → w3.heap[k]? = ((W.alloc (idObj x)).alloc (idObj y)).heap[k]? := fun k hk => by
    rw [h]
    show (((W.alloc (idObj x)).alloc (idObj y)).heap ++ os)[k]? = _
    rw [Array.getElem?_append_left (by rw [hs]; exact hk)]
  refine ⟨(hb _ (by omega)).trans (Qae (blk_new W _) _), (hb _ (by omega)).trans ?_, q, #[idObj x] ++ #[idObj y] ++ os, ?_⟩
  · have := blk_new (W.alloc (idObj x)) (idObj y)
    simpa using this
  · rw [h, Sort.alloc_eq_grow, Sort.alloc_eq_grow, Sort.grow_grow]
    exact Sort.grow_grow (W.drewN q) _ os
theorem eqID_tt {a b : ID} (h : a = b) : ((a.f0 == b.f0) && (a.f1 == b.f1)) = true := by subst h; simp
theorem eqID_ff {a b : ID} (h : ¬ a = b) : ((a.f0 == b.f0) && (a.f1 == b.f1)) = false := by
  rw [Bool.eq_false_iff]; intro e; rw [Bool.and_eq_true, beq_iff_eq, beq_iff_eq] at e; exact h (id_ext e.1 e.2)
set_option maxHeartbeats 2000000 in
theorem support1_calls (x y : ID) (W : World) : Calls Tryd.prog 30 #[encID x, encID y] W fun e w' => e = .returned (.int .i64 (idCmp x y)) ∧ ∃ q os', w' = Sort.grow (W.drewN q) os' := by
  have HL := fun W' => before_calls x y W'
  unfold idCmp
  obtain ⟨b2, hr, hr'⟩ : ∃ b2 : Bool, ((x.f0 == y.f0) && (x.f1 == y.f1)) = b2 ∧ (x = y ↔ b2 = true) := by
    by_cases hr : x = y
    · exact ⟨true, eqID_tt hr, by simp [hr]⟩
    · exact ⟨false, eqID_ff hr, by simp [hr]⟩
  simp only [hr']; clear hr'; unfold encID at HL ⊢
  generalize idLess x y = b1 at HL ⊢
  cases b1 <;> cases b2 <;> (
    go_enter Tryd.func30, Tryd.ntmps30
    go_upto_region 1 with fail
    change Code.wp _ _ _ _ ((W.alloc (idObj x)).alloc (idObj y))
    go_wp2_with (go_at_call 31; refine (HL _).mono ?_; rintro e w3 ⟨rfl, q, os, hw3⟩; obtain ⟨BX, BY, hos⟩ := boxedID_grow hw3; clear hw3; obtain ⟨x0, x1⟩ := idCells BX; obtain ⟨y0, y1⟩ := idCells BY; clear BX BY)
    go_ret
    exact ⟨rfl, hos⟩)
theorem sortID_calls (w : World) (B : Nat) (v : Value) (l : List ID) (hR : Kd.R kID 26 w B (fun _ => True) v l) (hB : B ≤ w.heap.size) (hl : l.length < 4611686018427387904) : Calls Tryd.prog 29 #[v, .func (.func 30) #[] #[]] w fun e w' =>
    e = .returned (.tuple #[]) ∧ Kd.R kID 26 w' B (fun _ => True) v (sortIDs l) ∧ Below B w w' := by
  obtain ⟨A, c, rfl⟩ := Kd.R_slice hR
  cases A with
  | none =>
    have hl : l = [] := by
      obtain ⟨_, inner, ⟨_, ho⟩, hr⟩ := hR
      rcases ho with ⟨_, h0⟩ | ⟨g', cap', cur, hv, _⟩
      · exact List.eq_nil_of_length_eq_zero h0
      · cases hv
    subst hl; refine (AnyF.slices_SortFunc_none Tryd.sortID none c (.func (.func 30) #[] #[]) w).mono ?_; rintro e w' ⟨rfl, rfl⟩; exact ⟨rfl, by simpa [sortIDs] using hR, Below.refl _ _⟩
  | some a =>
    obtain ⟨g, off, fr⟩ := a
    have hfr : fr = none := by
      obtain ⟨_, inner, ⟨_, ho⟩, hr⟩ := hR
      rcases ho with ⟨h0, _⟩ | ⟨g', cap', cur, hv, _⟩
      · cases h0
      · simp only [Value.slice.injEq, Option.some.injEq, Addr.mk.injEq] at hv
        exact hv.1.2.2
    subst hfr; obtain ⟨rfl, _, hg, hH, hlt, hmax⟩ := holds_of_R flatID hR; have eg : ∀ args w, (callFunc 30 args).run Tryd.prog w = .ok (.enter 30 args) w := enters_of Tryd.func30 (by kernel_rfl) rfl
    have hc : CmpLays Tryd.prog 30 #[] encIDL 2 idCmp g 0 l.toArray.size w := fun _ _ _ _ x y => support1_calls x y _
    have hT : ∀ x y, (ltOf idCmp) x y = false → (ltOf idCmp) y x = false → x = y := fun x y h1 h2 => by
      rw [idCmp_lt] at *; exact idLess_total (by simp_all) (by simp_all)
    have hsz : l.toArray.size < 4611686018427387904 := by simpa using hl
    refine (AnyQ.slices_SortFunc_total Tryd.sortID 2 isAggID sizeOfID encIDL (fun _ => rfl) (fun x v hv => by simp [encIDL] at hv; rcases hv with rfl | rfl <;> rfl) idCmp idSWO 30 #[] g 0 c l.toArray w eg hc hH hlt hsz hT).mono ?_; rintro e w' ⟨rfl, n, os, rfl⟩; exact ⟨rfl, R_of_sorted flatID hR n (sortIDs l) os (List.length_mergeSort _), sorted_below encIDL w g 2 n (sortIDs l) os hB hg⟩
theorem rngI_cells {w : World} {b r : Nat} {l left : List (ID × Value)} (h : Rng encID okID w b r l left) : (∀ c t, w.heap[r]? ≠ some (.cells c t (0, 0))) ∧ (∀ c t, w.heap[b]? ≠ some (.cells c t (0, 0))) := by
  obtain ⟨es, clock, since, seen, c0, hb, hl, ho, hs, hm, hr, _⟩ := h; exact ⟨fun c t e => by (rw [hr] at e; cases e), fun c t e => by (rw [hb] at e; cases e)⟩
theorem R_keepI {α : Type} {d : Kd α} {e : Nat} {w w1 : World} {base : Nat} {ok : Nat → Prop} {v : Value} {xs : List α} (h : Kd.R d e w base ok v xs) {row : Nat} (hg : w.grownBy w1 (some row)) (hrow : ∀ c t, w.heap[row]? ≠ some (.cells c t (0, 0))) : Kd.R d e w1 base ok v xs := by
  refine Kd.R_mono (Kd.R_move (Kd.R_bound h) (fun k hk => ?_)) (fun _ hk => hk.1); obtain ⟨_, _, hlt, q, _, cells, hc⟩ := hk; refine hg.block k hlt (fun e => ?_)
  injection e with e
  subst e; exact hrow _ _ hc
theorem idT_split {left : List ID} {a c : List (ID × Value)} {x : ID × Value} (h : idT left = a ++ x :: c) : ∃ l1 p l2, left = l1 ++ p :: l2 ∧ a = idT l1 ∧ c = idT l2 ∧ x = (p, .bool true) := by
  unfold idT at *; obtain ⟨l1, l2', rfl, h1, h2⟩ := List.map_eq_append_iff.mp h; obtain ⟨p, l2, rfl, h3, h4⟩ := List.map_eq_cons_iff.mp h2; exact ⟨l1, p, l2, rfl, h1.symm, h4.symm, h3.symm⟩
theorem sortIDs_sorted (x : List ID) : (sortIDs x).Pairwise (fun a b => (!(ltOf idCmp) b a) = true) := by
  unfold sortIDs; refine List.pairwise_mergeSort (le := fun x y => !(ltOf idCmp) y x) ?_ ?_ x
  · intro a b c h1 h2
    simp only [Bool.not_eq_true'] at *; exact idSWO.ntrans _ _ _ h2 h1
  · intro a b
    rw [idCmp_lt, idCmp_lt]
    by_cases h1 : idLess b a = true
    · have : ¬ idLess a b = true := fun h2 => idLess_irrefl _ (idLess_trans h1 h2)
      simp_all
    · simp_all
theorem sortIDs_perm {l l' : List ID} (h : l.Perm l') : sortIDs l = sortIDs l' := by
  refine List.Perm.eq_of_pairwise (le := fun a b => (!(ltOf idCmp) b a) = true) ?_ (sortIDs_sorted l) (sortIDs_sorted l') (((List.mergeSort_perm l _).trans h).trans (List.mergeSort_perm l' _).symm); intro a b _ _ h1 h2; simp only [idCmp_lt] at h1 h2; exact idLess_total (by simp_all) (by simp_all)
set_option maxRecDepth 100000 in
set_option maxHeartbeats 4000000 in
theorem support_walk (w : World) (p : Proof) (A : Option Addr) (c : Nat) (k : Nat) (ids : List ID) (hR : Kd.C kProof w A p.f3.length p.f3) (hc : p.f3.length ≤ c) (h : gatherF k p [] = some ids) (hroom : ids.length ≤ 1000000) :
    Calls Tryd.prog 14 #[encProof p A c] w fun e w' => ∃ v, e = .returned v ∧ Kd.R kID 26 w' w.heap.size (fun _ => True) v (sortIDs ids) ∧ Below w.heap.size w w' := by
  have hmk := fun W => run_makeMap (P := Tryd.prog) 52 W
  go_enter Tryd.func14, Tryd.ntmps14
  go_upto_region 2 with fail
  change Code.wp _ _ _ _ ((w.alloc (proofObj p A c)).alloc (.map #[] 0)); have BP := Qae (blk_new w (proofObj p A c)) (.map #[] 0); have HW := Qad (Qad (Below.refl w.heap.size w) (proofObj p A c)) (.map #[] 0)
  have HT : Tbl encID okID ((w.alloc (proofObj p A c)).alloc (.map #[] 0)) (w.heap.size + 1) (idT []) := by
    have h1 := Tbl.made encID okID (w.alloc (proofObj p A c))
    have e1 : (w.alloc (proofObj p A c)).heap.size = w.heap.size + 1 := by simp
    rw [e1] at h1; exact h1
  clear hmk; have HB := Lib.hid (show w.heap.size ≤ w.heap.size + 1 by omega)
  generalize hb : w.heap.size + 1 = b at HT HB ⊢
  clear hb
  generalize (w.alloc (proofObj p A c)).alloc (.map #[] 0) = V at BP HW HT ⊢
  obtain ⟨p0, p1, p2, p3, p4, p5⟩ := proofCells BP; have HP := Lib.hid hR; have HZ := Lib.hid hc; have HF := Lib.hid h; have HM := Lib.hid hroom; have HV := Lib.hid HW; have HTV := Lib.hid HT; clear hR hc h hroom HW HT BP
  go_upto_region 3 with (go_at_call 28; refine (gather_calls k w _ b p A c [] ids HP.out HZ.out (Qak HV.out (by repeat (first | exact Below.refl _ _ | apply Qaa | apply Qac))) HB.out (HTV.out.below (by repeat (first | exact Below.refl _ _ | apply Qaa | apply Qac))) HF.out).mono ?_; rintro e w3 ⟨rfl, hT3, hB3⟩)
  obtain ⟨O, hrun, hrng⟩ := hT3.range (P := Tryd.prog) Tryd.underlying52; have hrun1 := hrun w3 rfl; have HR0 := Lib.hid (hrng w3 rfl); have HB3 := Lib.hid (Qak hB3 (Qad (Below.refl _ _) O)); have HWL := Lib.hid (show w.heap.size ≤ w3.heap.size from hB3.size); clear hrun hrng hT3 hB3 HTV HV p0 p1 p2 p3 p4 p5; go_wp2
  go_loopg [4, 5] (ids.length + 1) (fun kq v4 _ w' => ∃ dn left : List ID, Hid (kq = left.length + 1) ∧ Hid (Kd.R kID 26 w' w.heap.size (fun _ => True) v4 dn) ∧ Hid (Rng encID okID w' b w3.heap.size (idT ids) (idT left)) ∧ Hid ((dn ++ left).Perm ids) ∧ Hid (Below w.heap.size w w'))
  case atStart => exact ⟨[], ids, Lib.hid rfl, Lib.hid (Kd.R_nil _ _ _ _ _), Lib.hid HR0.out, Lib.hid (List.Perm.refl _), Lib.hid HB3.out⟩
  case round =>
    clear hrun1 HR0 HB3; obtain ⟨dn, left, HK, HO, HRng, HPm, HB3⟩ := hrel
    rcases HRng.out.next (P := Tryd.prog) 0 with ⟨hl, hnx⟩ | ⟨a, x, c', w1, hsp, hok, hnx, hrng1, hgr, hsz, hent⟩
    · have hl' : left = [] := by simpa [idT] using hl
      have HE := Lib.hid hl'; clear hl hl'
      go_wp2_with (go_at_call 29; refine (sortID_calls _ w.heap.size _ dn HO.out HB3.out.size (by have := HPm.out.length_eq; have := HM.out; simp at *; omega)).mono ?_; rintro e w5 ⟨rfl, hR5, hB5⟩)
      go_ret; have hp := HPm.out; rw [HE.out, List.append_nil] at hp; rw [sortIDs_perm hp] at hR5; exact ⟨_, rfl, hR5, HB3.out.trans hB5⟩
    · obtain ⟨l1, q, l2, e0, rfl, rfl, rfl⟩ := idT_split hsp
      have HE := Lib.hid e0; have HC := rngI_cells HRng.out; have R1 := Lib.hid (R_keepI HO.out hgr HC.1); have hwl := HWL.out; have B1 := Lib.hid (HB3.out.grown hgr HB3.out.size (fun k hk => by injection hk with hk; omega)); have N1 := Lib.hid hrng1; have hent1 := hent w1 rfl rfl; have LM := Lib.hid (show dn.length < 1000001 by have := HPm.out.length_eq; have := HM.out; simp at *; omega); unfold encID at hnx hent1; clear hsp e0 hok hrng1 hgr hsz hent HC HO HRng HB3 hwl
      go_wp2_with ((with_reducible refine Qbg (b := .append) (xs := #[.tmp 16, .tmp 18]) rfl ?_); at_builtin; refine Kd.R_append kID (w0 := w) w.heap.size rfl (.tmp 16) (.tmp 18) 37 26 (.agg #[.int .i64 0, .int .i64 0]) 16 rfl Tryd.underlying37 infoID rfl (by decide) (by omega) _ dn q [.int .i64 q.f0, .int .i64 q.f1] (fun _ => True) (fun _ => False) rfl ?aX ?aP (fun _ hk => hk.elim) (fun _ _ => trivial) ?aO ?aB ?aS ?aL ?_; (case aX => (show Value.slice (some ⟨w1.heap.size + 1, 0, none⟩) 1 1 = _; simp)); (case aP => exact k26_mkM _ _ _ q); (case aB => exact (Qad B1.out _)); (case aO => exact (Kd.Qam R1.out _)); (case aS => exact (Qar (Qad B1.out _))); (case aL => have := LM.out; omega); intro v2 w2 ho hb hg hat)
      have hne := rngI_cells N1.out
      have hrow : ∀ i, (∀ c t, w1.heap[i]? ≠ some (.cells c t (0, 0))) → some i ≠ u4.ownBlock := fun i hi e => by
        obtain ⟨cells, hc⟩ := Kd.R_typed R1.out i e.symm; exact hi _ _ hc
      have hnew := (N1.out.below (Qad (Below.refl w1.heap.size w1) _)).grown hg (hrow b hne.2) (hrow _ hne.1); have HG := Lib.hid hnew; clear hnew hnx hent1
      go_roundg ((l1 ++ l2).length + 1)
      case measure =>
        have e1 := HK.out; rw [HE.out] at e1; simp at e1 ⊢; omega
      case rel =>
        refine ⟨dn ++ [q], l1 ++ l2, Lib.hid rfl, Lib.hid ho, Lib.hid ?_, Lib.hid ?_, Lib.hid hb⟩
        · have := HG.out
          rw [show idT (l1 ++ l2) = idT l1 ++ idT l2 from List.map_append]; exact this
        · have hp := HPm.out
          rw [HE.out] at hp; refine List.Perm.trans ?_ hp; rw [List.append_assoc]; exact List.Perm.append_left dn (show (q :: (l1 ++ l2)).Perm (l1 ++ q :: l2) from List.perm_middle.symm)
end Go.Proofs.YtmaipohgahdclaaDoor.Pr
end
section
namespace Go.Proofs.YtmaipohgahdclaaDoor.Pr
open Go.RowKit Go.Proofs.YtmaipohgahdclaaDoorW.PrintWords Go.Proofs.YtmaipohgahdclaaDoorW.PrintLast Go.Proofs.YtmaipohgahdclaaDoorW.PrintMore
attribute [local go_sem] max2_int min2_int max_two min_two Qbj Qbi max_four min_four
set_option linter.unusedVariables false
set_option linter.unusedSimpArgs false
def QaQ.f (a0_0 : ByteArray) (a0_1 : ByteArray) (a0_2 : ByteArray) (a0_3 : Int) (a0_4 : Int) (l0_5 : List (S29)) : Option (List (S26)) := (gatherF 200 ⟨⟨a0_0, a0_1⟩, a0_2, ⟨a0_3, a0_4⟩, l0_5⟩ []).bind fun ids => if ids.length ≤ 1000000 then some (sortIDs ids) else none
theorem QaQ.calls (a0_0 : ByteArray) (a0_1 : ByteArray) (a0_2 : ByteArray) (a0_3 : Int) (a0_4 : Int) (A0_5 : Option Addr) (c0_5 : Nat) (l0_5 : List (S29)) (r : List (S26)) (w : World) (hr0_5 : Kd.C k29 w A0_5 l0_5.length l0_5) (hc0_5 : l0_5.length ≤ c0_5) (h : QaQ.f a0_0 a0_1 a0_2 a0_3 a0_4 l0_5 = some r) :
    Calls Tryd.prog 14 #[.agg #[.string a0_0, .string a0_1, .string a0_2, .int .i64 a0_3, .int .i64 a0_4, .slice A0_5 l0_5.length c0_5]] w fun e w' => ∃ v0_ : Value, e = .returned (v0_) ∧ Kd.R k26 26 w' w.heap.size (fun _ => True) v0_ r ∧ Below w.heap.size w w' := by
  unfold QaQ.f at h; obtain ⟨ids, hi, h⟩ := Option.bind_eq_some_iff.mp h
  by_cases hl : ids.length ≤ 1000000
  · rw [if_pos hl] at h
    obtain rfl := Option.some.inj h; exact support_walk w ⟨⟨a0_0, a0_1⟩, a0_2, ⟨a0_3, a0_4⟩, l0_5⟩ A0_5 c0_5 200 ids hr0_5 hc0_5 hi hl
  · rw [if_neg hl] at h
    cases h
end Go.Proofs.YtmaipohgahdclaaDoor.Pr
end
section
namespace Go.Proofs.YtmaipohgahdclaaDoor.Pr
open Go.RowKit Go.Proofs.YtmaipohgahdclaaDoorW.PrintWords Go.Proofs.YtmaipohgahdclaaDoorW.PrintLast Go.Proofs.YtmaipohgahdclaaDoorW.PrintMore
theorem Ev.stepBind {α β : Type} {f : Nat → Option α} {g : Nat → Option β} {h : Nat → β → Option α} {a : β} {v : α} (e : ∀ k, f (k + 1) = (g k).bind (h k)) (hg : Ev g a) (hh : Ev (fun k => h k a) v) : Ev f v := Ev.step e (Ev.bind hg hh)
theorem wrapN {i : Nat} (h : i < 1000000000000) : wrap64 ((i : Int) + 1) = ((i + 1 : Nat) : Int) := by unfold wrap64; omega
theorem wrapAdd {x y : Int} (h : -1000000000000 < x + y ∧ x + y < 1000000000000) : wrap64 (x + y) = x + y := by unfold wrap64; omega
theorem size_l0 (ps : List Proof) (hl : ps.length < 1000000) (ih : ∀ q ∈ ps, Ev (fun k => Qbl.f k q.f0.f0 q.f0.f1 q.f1 q.f2.f0 q.f2.f1 q.f3) (cnt q : Int)) : ∀ (n i : Nat) (x : Int), n + i = ps.length → 0 ≤ x → x + ((idsL (ps.drop i)).length : Int) < 2000000 → Ev (fun k => Qbl.l0 k x ps (ps.length : Int) (i : Int)) (x + ((idsL (ps.drop i)).length : Int))
  | 0, i, x, hn, h0, hx => by
    rw [List.drop_eq_nil_of_le (by omega), idsL_nil]; refine Ev.step (fun k => ?_) (Ev.pure _); rw [Qbl.l0, if_neg (by omega)]; simp
  | n + 1, i, x, hn, h0, hx => by
    have hi : i < ps.length := by omega
    rw [dropP ps i hi, idsL_cons, List.length_append] at hx ⊢; have h2 : (ids ps[i]).length = cnt ps[i] := rfl; refine Ev.stepBind (h := fun k t => Qbl.l0 k (wrap64 (x + t)) ps (ps.length : Int) ((i + 1 : Nat) : Int)) (fun k => ?_) (ih _ (List.getElem_mem hi)) ?_
    · rw [Qbl.l0, if_pos (by omega), if_pos (by omega), if_pos (by omega), wrapN (by omega), rdP ps i hi]
    · have := size_l0 ps hl ih n (i + 1) (x + (cnt ps[i] : Int)) (by omega) (by omega) (by omega)
      show Ev (fun k => Qbl.l0 k (wrap64 (x + (cnt ps[i] : Int))) ps _ _) _
      rw [wrapAdd (by omega)]; rw [show x + (((ids ps[i]).length + (idsL (ps.drop (i + 1))).length : Nat) : Int) = x + (cnt ps[i] : Int) + ((idsL (ps.drop (i + 1))).length : Int) by omega]; exact this
theorem size_ev : ∀ p : Proof, cnt p < 1000000 → Ev (fun k => Qbl.f k p.f0.f0 p.f0.f1 p.f1 p.f2.f0 p.f2.f1 p.f3) (cnt p : Int) := treeInd fun p ih hc => by
  have hl := parts_lt p
  have := size_l0 p.f3 (by omega) (fun q hq => ih q hq (by have := cnt_mem hq; omega)) p.f3.length 0 1 (by omega) (by omega) (by
    rw [List.drop_zero]; unfold cnt at hc; rw [ids_eq, List.length_cons] at hc
    omega)
  rw [List.drop_zero] at this; rw [show (cnt p : Int) = 1 + ((idsL p.f3).length : Int) by unfold cnt; rw [ids_eq, List.length_cons]; omega]; refine Ev.step (fun k => ?_) this; rw [Qbl.f]; rfl
theorem within_l0 (ps : List Proof) (hl : ps.length < 1000000) (d : Int) (h0 : 0 ≤ d) (hd : d < 9223372036854775808) (ih : ∀ q ∈ ps, Ev (fun k => QaR.f k q.f0.f0 q.f0.f1 q.f1 q.f2.f0 q.f2.f1 q.f3 (d - 1)) (decide ((dep q : Int) ≤ d - 1))) : ∀ (n i : Nat), n + i = ps.length → Ev (fun k => QaR.l0 k d ps (ps.length : Int) (i : Int)) (decide ((depL (ps.drop i) : Int) ≤ d))
  | 0, i, hn => by
    rw [List.drop_eq_nil_of_le (by omega), depL_nil, decide_eq_true (by omega)]; refine Ev.step (fun k => ?_) (Ev.pure _); rw [QaR.l0, if_neg (by omega)]
  | n + 1, i, hn => by
    have hi : i < ps.length := by omega
    rw [dropP ps i hi, depL_cons]; refine Ev.stepBind (h := fun k t => if t = true then QaR.l0 k d ps (ps.length : Int) ((i + 1 : Nat) : Int) else some false) (fun k => ?_) (ih _ (List.getElem_mem hi)) ?_
    · rw [QaR.l0, if_pos (by omega), if_pos (by omega), if_pos (by omega), wrapN (by omega), rdP ps i hi, show wrap64 (d - 1) = d - 1 by unfold wrap64; omega]
    · by_cases h : (dep ps[i] : Int) ≤ d - 1
      · simp only [decide_eq_true h, if_true]
        have := within_l0 ps hl d h0 hd ih n (i + 1) (by omega)
        rw [show decide (((Nat.max (dep ps[i] + 1) (depL (ps.drop (i + 1))) : Nat) : Int) ≤ d) = decide ((depL (ps.drop (i + 1)) : Int) ≤ d) by
          rw [Bool.eq_iff_iff, decide_eq_true_eq, decide_eq_true_eq]; have e : Nat.max (dep ps[i] + 1) (depL (ps.drop (i + 1))) = max (dep ps[i] + 1) (depL (ps.drop (i + 1))) := rfl; rw [e]
          omega]
        exact this
      · simp only [decide_eq_false h, Bool.false_eq_true, if_false]
        rw [decide_eq_false (by
          have e : Nat.max (dep ps[i] + 1) (depL (ps.drop (i + 1))) = max (dep ps[i] + 1) (depL (ps.drop (i + 1))) := rfl; rw [e]
          omega)]
        exact Ev.pure _
theorem within_ev : ∀ p : Proof, ∀ d : Int, cnt p < 1000000 → d < 9223372036854775808 → Ev (fun k => QaR.f k p.f0.f0 p.f0.f1 p.f1 p.f2.f0 p.f2.f1 p.f3 d) (decide ((dep p : Int) ≤ d)) := treeInd fun p ih d hc hd => by
  have hl := parts_lt p
  by_cases h0 : d < 0
  · rw [decide_eq_false (by omega)]
    refine Ev.step (fun k => ?_) (Ev.pure _); rw [QaR.f, if_pos h0]
  · have := within_l0 p.f3 (by omega) d (by omega) hd (fun q hq => ih q hq (d - 1) (by have := cnt_mem hq; omega) (by omega)) p.f3.length 0 (by omega)
    rw [List.drop_zero, ← dep_eq] at this; refine Ev.step (fun k => ?_) this; rw [QaR.f, if_neg h0]; rfl
theorem deep_l0 (p : Proof) (hc : cnt p < 1000000) (ih : ∀ q ∈ p.f3, Ev (fun k => Qa3.f k q.f0.f0 q.f0.f1 q.f1 q.f2.f0 q.f2.f1 q.f3) (dep q : Int)) : ∀ (n i x : Nat), n + i = p.f3.length → Ev (fun k => Qa3.l0 k (x : Int) (i : Int) p.f0.f0 p.f0.f1 p.f1 p.f2.f0 p.f2.f1 p.f3) ((max x (depL (p.f3.drop i)) : Nat) : Int)
  | 0, i, x, hn => by
    rw [List.drop_eq_nil_of_le (by omega), depL_nil]; refine Ev.step (fun k => ?_) (Ev.pure _); rw [Qa3.l0, if_neg (by omega), show max x 0 = x by omega]
  | n + 1, i, x, hn => by
    have hi : i < p.f3.length := by omega
    have hl := parts_lt p; have hq := cnt_mem (List.getElem_mem hi); have hd := dep_lt p.f3[i]; rw [dropP p.f3 i hi, depL_cons]; refine Ev.stepBind (h := fun k t => if wrap64 (t + 1) > (x : Int) then Qa3.l0 k (wrap64 (t + 1)) ((i + 1 : Nat) : Int) p.f0.f0 p.f0.f1 p.f1 p.f2.f0 p.f2.f1 p.f3 else Qa3.l0 k (x : Int) ((i + 1 : Nat) : Int) p.f0.f0 p.f0.f1 p.f1 p.f2.f0 p.f2.f1 p.f3) (fun k => ?_) (ih _ (List.getElem_mem hi)) ?_
    · rw [Qa3.l0, if_pos (by omega), if_pos (by omega), wrapN (by omega), rdP p.f3 i hi]
    · simp only [wrapN (show dep p.f3[i] < 1000000000000 by omega)]
      have e : Nat.max (dep p.f3[i] + 1) (depL (p.f3.drop (i + 1))) = max (dep p.f3[i] + 1) (depL (p.f3.drop (i + 1))) := rfl; rw [e]
      by_cases h : ((dep p.f3[i] + 1 : Nat) : Int) > (x : Int)
      · simp only [if_pos h]
        have := deep_l0 p hc ih n (i + 1) (dep p.f3[i] + 1) (by omega); rw [show max x (max (dep p.f3[i] + 1) (depL (p.f3.drop (i + 1)))) = max (dep p.f3[i] + 1) (depL (p.f3.drop (i + 1))) by omega]; exact this
      · simp only [if_neg h]
        have := deep_l0 p hc ih n (i + 1) x (by omega); rw [show max x (max (dep p.f3[i] + 1) (depL (p.f3.drop (i + 1)))) = max x (depL (p.f3.drop (i + 1))) by omega]; exact this
theorem deep_ev : ∀ p : Proof, cnt p < 1000000 → Ev (fun k => Qa3.f k p.f0.f0 p.f0.f1 p.f1 p.f2.f0 p.f2.f1 p.f3) (dep p : Int) := treeInd fun p ih hc => by
  have := deep_l0 p hc (fun q hq => ih q hq (by have := cnt_mem hq; omega)) p.f3.length 0 0 (by omega); rw [List.drop_zero, ← dep_eq, show max 0 (dep p) = dep p by omega] at this; refine Ev.step (fun k => ?_) this; rw [Qa3.f]; rfl
theorem ids_l0 (p : Proof) (hc : cnt p < 1000000) (ih : ∀ q ∈ p.f3, Ev (fun k => Qbe.f k q.f0.f0 q.f0.f1 q.f1 q.f2.f0 q.f2.f1 q.f3) (ids q)) : ∀ (n i : Nat) (out : List ID), n + i = p.f3.length → out.length + (idsL (p.f3.drop i)).length ≤ cnt p → Ev (fun k => Qbe.l0 k out (i : Int) p.f0.f0 p.f0.f1 p.f1 p.f2.f0 p.f2.f1 p.f3) (out ++ idsL (p.f3.drop i))
  | 0, i, out, hn, ho => by
    rw [List.drop_eq_nil_of_le (by omega), idsL_nil, List.append_nil]; refine Ev.step (fun k => ?_) (Ev.pure _); rw [Qbe.l0, if_neg (by omega)]
  | n + 1, i, out, hn, ho => by
    have hi : i < p.f3.length := by omega
    have hl := parts_lt p; rw [dropP p.f3 i hi, idsL_cons] at ho ⊢; rw [List.length_append] at ho; refine Ev.stepBind (h := fun k t => if out.length + t.length < 8796093022208 then Qbe.l0 k (out ++ t) ((i + 1 : Nat) : Int) p.f0.f0 p.f0.f1 p.f1 p.f2.f0 p.f2.f1 p.f3 else none) (fun k => ?_) (ih _ (List.getElem_mem hi)) ?_
    · rw [Qbe.l0, if_pos (by omega), if_pos (by omega), wrapN (by omega), rdP p.f3 i hi]
    · simp only [if_pos (show out.length + (ids p.f3[i]).length < 8796093022208 by omega)]
      rw [← List.append_assoc]; exact ids_l0 p hc ih n (i + 1) (out ++ ids p.f3[i]) (by omega) (by rw [List.length_append]; omega)
theorem ids_ev : ∀ p : Proof, cnt p < 1000000 → Ev (fun k => Qbe.f k p.f0.f0 p.f0.f1 p.f1 p.f2.f0 p.f2.f1 p.f3) (ids p) := treeInd fun p ih hc => by
  have := ids_l0 p hc (fun q hq => ih q hq (by have := cnt_mem hq; omega)) p.f3.length 0 [p.f2] (by omega) (by
    rw [List.drop_zero]; unfold cnt; rw [ids_eq, List.length_cons, List.length_cons, List.length_nil]
    omega)
  rw [List.drop_zero, List.singleton_append, ← ids_eq] at this; refine Ev.step (fun k => ?_) this; rw [Qbe.f]; rfl
def fewV (n most : Int) : Int := if n ≤ most then n else -1
theorem few_l0 (p : Proof) (most : Int) (hm : -1000000 < most ∧ most < 1000000) (ih : ∀ q ∈ p.f3, ∀ m : Int, -1000000 < m ∧ m < 1000000 → Ev (fun k => Qbn.f k q.f0.f0 q.f0.f1 q.f1 q.f2.f0 q.f2.f1 q.f3 m) (fewV (cnt q) m)) : ∀ (n i x : Nat), n + i = p.f3.length → i < x → ((x : Int) ≤ most ∨ x = 1) → Ev (fun k => Qbn.l0 k most (x : Int) (i : Int) p.f0.f0 p.f0.f1 p.f1 p.f2.f0 p.f2.f1 p.f3) (fewV (x + (idsL (p.f3.drop i)).length) most)
  | 0, i, x, hn, h1, hx => by
    rw [List.drop_eq_nil_of_le (by omega), idsL_nil]; refine Ev.step (fun k => ?_) (Ev.pure _); rw [Qbn.l0, if_neg (by omega)]; unfold fewV
    by_cases h : (x : Int) > most
    · rw [if_pos h, if_neg (by simp; omega)]
    · rw [if_neg h, if_pos (by simp; omega)]
      simp
  | n + 1, i, x, hn, h1, hx => by
    have hi : i < p.f3.length := by omega
    have hpos := cnt_pos p.f3[i]; have hcl : (ids p.f3[i]).length = cnt p.f3[i] := rfl; rw [dropP p.f3 i hi, idsL_cons, List.length_append]
    by_cases h : (x : Int) ≥ most
    · refine Ev.step (fun k => ?_) (Ev.pure _)
      rw [Qbn.l0, if_pos (by omega), if_pos h]; unfold fewV; rw [if_neg (by omega)]
    · refine Ev.stepBind (h := fun k t => if t < 0 then some (-1) else Qbn.l0 k most (wrap64 ((x : Int) + t)) ((i + 1 : Nat) : Int) p.f0.f0 p.f0.f1 p.f1 p.f2.f0 p.f2.f1 p.f3) (fun k => ?_) (ih _ (List.getElem_mem hi) (most - (x : Int)) (by omega)) ?_
      · rw [Qbn.l0, if_pos (by omega), if_neg h, if_pos (by omega), wrapN (by omega), rdP p.f3 i hi, show wrap64 (most - (x : Int)) = most - (x : Int) by unfold wrap64; omega]
      · by_cases h2 : (cnt p.f3[i] : Int) ≤ most - (x : Int)
        · have e : fewV (cnt p.f3[i] : Int) (most - (x : Int)) = (cnt p.f3[i] : Int) := if_pos h2
          simp only [e, if_neg (show ¬ (cnt p.f3[i] : Int) < 0 by omega)]; have := few_l0 p most hm ih n (i + 1) (x + cnt p.f3[i]) (by omega) (by omega) (by omega); rw [wrapAdd (by omega)]; rw [show ((x : Int) + (((ids p.f3[i]).length + (idsL (p.f3.drop (i + 1))).length : Nat) : Int)) = ((x + cnt p.f3[i] : Nat) : Int) + ((idsL (p.f3.drop (i + 1))).length : Int) by omega]; exact this
        · have e : fewV (cnt p.f3[i] : Int) (most - (x : Int)) = -1 := if_neg h2
          simp only [e]; unfold fewV; rw [if_neg (by omega)]; exact Ev.pure _
theorem few_ev : ∀ p : Proof, ∀ most : Int, -1000000 < most ∧ most < 1000000 → Ev (fun k => Qbn.f k p.f0.f0 p.f0.f1 p.f1 p.f2.f0 p.f2.f1 p.f3 most) (fewV (cnt p) most) := treeInd fun p ih most hm => by
  have := few_l0 p most hm ih p.f3.length 0 1 (by omega) (by omega) (.inr rfl); rw [List.drop_zero] at this; rw [show (cnt p : Int) = ((1 : Nat) : Int) + ((idsL p.f3).length : Int) by unfold cnt; rw [ids_eq, List.length_cons]; omega]; refine Ev.step (fun k => ?_) this; rw [Qbn.f]; rfl
theorem putID_length (l : List ID) (x : ID) : (putID l x).length ≤ l.length + 1 := by
  unfold putID
  split
  · omega
  · simp
theorem gatherL_is (F : Proof → List ID → Option (List ID)) : ∀ (ps : List Proof) (l : List ID), (∀ q ∈ ps, ∀ l : List ID, l.length + cnt q < 1000000 → F q l = some ((ids q).foldl putID l)) → (∀ (xs : List ID) (l : List ID), (xs.foldl putID l).length ≤ l.length + xs.length) → l.length + (idsL ps).length < 1000000 → gatherL F ps l = some ((idsL ps).foldl putID l)
  | [], l, _, _, _ => by rw [idsL_nil]; rfl
  | p :: ps, l, h, hx, hl => by
    rw [idsL_cons, List.length_append] at hl; have h1 : (ids p).length = cnt p := rfl; have h2 := hx (ids p) l; rw [gatherL, h p (List.mem_cons_self ..) l (by omega), Option.bind_some, idsL_cons, List.foldl_append]; exact gatherL_is F ps _ (fun q hq => h q (List.mem_cons_of_mem _ hq)) hx (by omega)
theorem fold_length : ∀ (xs : List ID) (l : List ID), (xs.foldl putID l).length ≤ l.length + xs.length
  | [], l => by simp
  | x :: xs, l => by
    have h1 := fold_length xs (putID l x); have h2 := putID_length l x; rw [List.foldl_cons, List.length_cons]; omega
theorem gather_is : ∀ (k : Nat) (p : Proof), dep p < k → okTree p → ∀ l : List ID, l.length + cnt p < 1000000 → gatherF k p l = some ((ids p).foldl putID l)
  | 0, p, h, _, _, _ => by omega
  | k + 1, p, h, ho, l, hl => by
    have hp := parts_lt p; rw [gatherF, if_pos ⟨ho _ (self_ids p), by omega, by omega⟩, ids_eq, List.foldl_cons]; have h1 := putID_length l p.f2
    have hc : cnt p = (idsL p.f3).length + 1 := by unfold cnt; rw [ids_eq, List.length_cons]
    exact gatherL_is _ p.f3 _ (fun q hq l hl => gather_is k q (by have := dep_mem hq; omega) (ho.mem hq) l hl) fold_length (by omega)
theorem mem_putID (l : List ID) (x y : ID) : y ∈ putID l x ↔ y ∈ l ∨ y = x := by
  unfold putID
  split
  · exact ⟨.inl, fun h => h.elim id (fun e => e ▸ by assumption)⟩
  · simp
theorem nodup_putID {l : List ID} (h : l.Nodup) (x : ID) : (putID l x).Nodup := by
  unfold putID
  split
  · exact h
  · rename_i hx
    rw [List.nodup_append]; exact ⟨h, by simp, fun a ha b hb => by simp at hb; subst hb; exact fun e => hx (e ▸ ha)⟩
theorem mem_fold : ∀ (xs l : List ID) (y : ID), y ∈ xs.foldl putID l ↔ y ∈ l ∨ y ∈ xs
  | [], l, y => by simp
  | x :: xs, l, y => by
    rw [List.foldl_cons, mem_fold xs, mem_putID, List.mem_cons, or_assoc]
theorem nodup_fold : ∀ (xs l : List ID), l.Nodup → (xs.foldl putID l).Nodup
  | [], l, h => h
  | x :: xs, l, h => by rw [List.foldl_cons]; exact nodup_fold xs _ (nodup_putID h x)
theorem sortIDs_mem (l : List ID) (x : ID) : x ∈ sortIDs l ↔ x ∈ l := (List.mergeSort_perm l _).mem_iff
theorem sortIDs_strict {l : List ID} (h : l.Nodup) : (sortIDs l).Pairwise (fun a b => idLess a b = true) := by
  have hn : (sortIDs l).Nodup := (List.mergeSort_perm l _).nodup_iff.mpr h; have hs := sortIDs_sorted l; rw [List.Nodup] at hn
  refine (hs.and hn).imp fun {a b} hab => ?_
  have h1 := hab.1; rw [idCmp_lt] at h1
  by_cases h2 : idLess a b = true
  · exact h2
  · exact absurd (idLess_total h2 (by simpa using h1)) hab.2
theorem strict_unique {a b : List ID} (ha : a.Pairwise (fun x y => idLess x y = true)) (hb : b.Pairwise (fun x y => idLess x y = true)) (h : ∀ x, x ∈ a ↔ x ∈ b) : a = b := sorted_eq (R := fun x y => idLess x y = true) idLess_irrefl (fun _ _ _ => idLess_trans) ha hb h
def support (p : Proof) : List ID := sortIDs ((ids p).foldl putID [])
theorem support_strict (p : Proof) : (support p).Pairwise (fun a b => idLess a b = true) := sortIDs_strict (nodup_fold _ _ List.nodup_nil)
theorem support_mem (p : Proof) (x : ID) : x ∈ support p ↔ x ∈ ids p := by
  unfold support; rw [sortIDs_mem, mem_fold]; simp
theorem support_length (p : Proof) : (support p).length ≤ cnt p := by
  unfold support sortIDs; rw [List.length_mergeSort]; have := fold_length (ids p) []; simp at this; exact this
def insG (x : ID) : List ID → Bool → List ID
  | [], put => if put = true then [] else [x]
  | y :: ys, put => if put = true then y :: insG x ys true else if idLess x y = true then x :: y :: insG x ys true else if y = x then y :: insG x ys true else y :: insG x ys false
theorem insG_true (x : ID) : ∀ ys, insG x ys true = ys
  | [] => rfl
  | y :: ys => by rw [insG, if_pos rfl, insG_true x ys]
theorem insG_mem (x z : ID) : ∀ ys, (∀ y ∈ ys, True) → (z ∈ insG x ys false ↔ z = x ∨ z ∈ ys)
  | [], _ => by rw [insG, if_neg (by decide)]; simp
  | y :: ys, _ => by
    rw [insG, if_neg (by decide)]
    by_cases h : idLess x y = true
    · rw [if_pos h, insG_true]
      simp
    · rw [if_neg h]
      by_cases e : y = x
      · rw [if_pos e, insG_true, e]
        simp
      · rw [if_neg e, List.mem_cons, insG_mem x z ys (fun _ _ => trivial), List.mem_cons]
        constructor
        · rintro (h | h | h)
          · exact .inr (.inl h)
          · exact .inl h
          · exact .inr (.inr h)
        · rintro (h | h | h)
          · exact .inr (.inl h)
          · exact .inl h
          · exact .inr (.inr h)
theorem insG_strict (x : ID) : ∀ ys : List ID, ys.Pairwise (fun a b => idLess a b = true) → (insG x ys false).Pairwise (fun a b => idLess a b = true)
  | [], _ => by rw [insG, if_neg (by decide)]; exact List.pairwise_singleton _ _
  | y :: ys, hs => by
    rw [List.pairwise_cons] at hs; rw [insG, if_neg (by decide)]
    by_cases h : idLess x y = true
    · rw [if_pos h, insG_true, List.pairwise_cons]
      refine ⟨fun z hz => ?_, List.pairwise_cons.mpr hs⟩
      rcases List.mem_cons.mp hz with rfl | hz
      · exact h
      · exact idLess_trans h (hs.1 z hz)
    · rw [if_neg h]
      by_cases e : y = x
      · rw [if_pos e, insG_true]
        exact List.pairwise_cons.mpr hs
      · rw [if_neg e, List.pairwise_cons]
        refine ⟨fun z hz => ?_, insG_strict x ys hs.2⟩
        rcases (insG_mem x z ys (fun _ _ => trivial)).mp hz with rfl | hz
        · by_cases h2 : idLess y z = true
          · exact h2
          · exact absurd (idLess_total h2 h) e
        · exact hs.1 z hz
theorem insG_length (x : ID) : ∀ (ys : List ID) (b : Bool), (insG x ys b).length ≤ ys.length + 1
  | [], b => by cases b <;> simp [insG]
  | y :: ys, b => by
    have h1 := insG_length x ys b; have h2 := insG_true x ys; cases b
    · rw [insG, if_neg (by decide), h2]
      split
      · simp
      · split
        · simp
        · simp only [List.length_cons]; omega
    · rw [insG_true]; omega
theorem rdI (l : List ID) (i : Nat) (h : i < l.length) : QaA l (i : Int) = l[i] := by
  unfold QaA; rw [Int.toNat_natCast, List.getD_eq_getElem?_getD, List.getElem?_eq_getElem h]; rfl
theorem before_id (a b : ID) : liveryref05_Before.f a.f0 a.f1 b.f0 b.f1 = some (idLess a b) := by
  unfold liveryref05_Before.f idLess
  by_cases h : a.f0 = b.f0
  · rw [if_pos h, decide_eq_false (show ¬ a.f0 < b.f0 by omega), decide_eq_true h]
    rfl
  · rw [if_neg h, decide_eq_false h]
    simp
theorem idBeq (a b : ID) : ((a.f0 == b.f0) && (a.f1 == b.f1)) = decide (a = b) := by
  by_cases h : a = b
  · rw [eqID_tt h, decide_eq_true h]
  · rw [eqID_ff h, decide_eq_false h]
theorem idEta (a : ID) : (⟨a.f0, a.f1⟩ : ID) = a := by cases a; rfl
theorem once_l1 (X out : List ID) (i : Nat) (hi : i < X.length) (hX : X.length < 1000000) (ho : out.length ≤ i) (v : List ID) : ∀ (n j : Nat) (acc : List ID) (put : Bool), n + j = out.length → acc.length ≤ j + 1 → (put = false → acc.length ≤ j) → Ev (fun k => Qau.l0 k X (acc ++ insG X[i] (out.drop j) put) ((i + 1 : Nat) : Int)) v → Ev (fun k => Qau.l1 k X out (i : Int) acc put (j : Int)) v
  | 0, j, acc, put, hn, ha, hp, hv => by
    rw [List.drop_eq_nil_of_le (by omega)] at hv; refine Ev.step (fun k => ?_) hv; cases put
    · rw [Qau.l1, if_neg (by omega), if_neg (by decide), if_pos (by omega), if_pos (by omega), if_pos (by omega), rdI X i hi, idEta, wrapN (by omega), insG, if_neg (by decide)]
    · rw [Qau.l1, if_neg (by omega), if_pos rfl, wrapN (by omega), insG, if_pos rfl, List.append_nil]
  | n + 1, j, acc, put, hn, ha, hp, hv => by
    have hj : j < out.length := by omega
    rw [List.drop_eq_getElem_cons hj] at hv; have hx := rdI X i hi; have hy := rdI out j hj
    have hnext := fun (acc' : List ID) (put' : Bool) h1 h2 hv' => once_l1 X out i hi hX ho v n (j + 1) acc' put' (by omega) h1 h2 hv'
    cases put
    · by_cases h : idLess X[i] out[j] = true
      · rw [insG, if_neg (by decide), if_pos h, show acc ++ X[i] :: out[j] :: insG X[i] (out.drop (j + 1)) true = (acc ++ [X[i]] ++ [out[j]]) ++ insG X[i] (out.drop (j + 1)) true by simp] at hv
        have := hnext _ true (by have := hp rfl; simp; omega) (by intro e; cases e) hv; have hp' := hp rfl; refine Ev.step (g := fun k => Qau.j2 k X out (i : Int) acc false (j : Int) true) (fun k => ?_) (Ev.step (fun k => ?_) this)
        · rw [Qau.l1, if_pos (by omega), if_neg (by decide), if_pos (by omega), if_pos (by omega), if_pos (by omega), hx, hy, before_id, h, Option.bind_some]
        · rw [Qau.j2, if_pos rfl, if_pos (by omega), if_pos (by omega), if_pos (by omega), hx, hy, idEta, idEta, Option.bind_some, if_pos (by omega), if_pos (by omega), wrapN (by omega)]
          split <;> rw [if_pos (by simp; omega)]
      · have hf : idLess X[i] out[j] = false := by simpa using h
        rw [insG, if_neg (by decide), if_neg h] at hv
        by_cases e : out[j] = X[i]
        · rw [if_pos e, show acc ++ out[j] :: insG X[i] (out.drop (j + 1)) true = (acc ++ [out[j]]) ++ insG X[i] (out.drop (j + 1)) true by simp] at hv
          have hp' := hp rfl; have := hnext _ true (by simp; omega) (by intro e; cases e) hv; refine Ev.step (g := fun k => Qau.j2 k X out (i : Int) acc false (j : Int) false) (fun k => ?_) (Ev.step (fun k => ?_) this)
          · rw [Qau.l1, if_pos (by omega), if_neg (by decide), if_pos (by omega), if_pos (by omega), if_pos (by omega), hx, hy, before_id, hf, Option.bind_some]
          · rw [Qau.j2, if_neg (by decide), if_pos (by omega), if_pos (by omega), if_pos (by omega), if_pos (by omega), hx, hy, idBeq, decide_eq_true e, if_pos rfl, if_pos (by omega), idEta, wrapN (by omega)]
        · rw [if_neg e, show acc ++ out[j] :: insG X[i] (out.drop (j + 1)) false = (acc ++ [out[j]]) ++ insG X[i] (out.drop (j + 1)) false by simp] at hv
          have hp' := hp rfl; have := hnext _ false (by simp; omega) (by intro _; simp; omega) hv; refine Ev.step (g := fun k => Qau.j2 k X out (i : Int) acc false (j : Int) false) (fun k => ?_) (Ev.step (fun k => ?_) this)
          · rw [Qau.l1, if_pos (by omega), if_neg (by decide), if_pos (by omega), if_pos (by omega), if_pos (by omega), hx, hy, before_id, hf, Option.bind_some]
          · rw [Qau.j2, if_neg (by decide), if_pos (by omega), if_pos (by omega), if_pos (by omega), if_pos (by omega), hx, hy, idBeq, decide_eq_false e, if_neg (by decide), if_pos (by omega), idEta, wrapN (by omega)]
    · rw [insG, if_pos rfl, show acc ++ out[j] :: insG X[i] (out.drop (j + 1)) true = (acc ++ [out[j]]) ++ insG X[i] (out.drop (j + 1)) true by simp] at hv
      have := hnext _ true (by simp; omega) (by intro e; cases e) hv; refine Ev.step (g := fun k => Qau.j2 k X out (i : Int) acc true (j : Int) false) (fun k => ?_) (Ev.step (fun k => ?_) this)
      · rw [Qau.l1, if_pos (by omega), if_pos rfl]
      · rw [Qau.j2, if_neg (by decide), if_pos (by omega), if_pos (by omega), if_pos (by omega), if_pos (by omega), hx, hy, idEta, wrapN (by omega)]
        split <;> rw [if_pos (by omega)]
theorem once_l0 (X : List ID) (hX : X.length < 1000000) : ∀ (n i : Nat) (out : List ID), n + i = X.length → out.length ≤ i → Ev (fun k => Qau.l0 k X out (i : Int)) ((X.drop i).foldl (fun o x => insG x o false) out)
  | 0, i, out, hn, ho => by
    rw [List.drop_eq_nil_of_le (by omega)]; refine Ev.step (fun k => ?_) (Ev.pure _); rw [Qau.l0, if_neg (by omega)]; rfl
  | n + 1, i, out, hn, ho => by
    have hi : i < X.length := by omega
    rw [List.drop_eq_getElem_cons hi, List.foldl_cons]; have h1 := once_l0 X hX n (i + 1) (insG X[i] out false) (by omega) (by have := insG_length X[i] out false; omega); have h2 := once_l1 X out i hi hX ho _ out.length 0 [] false (by omega) (by simp) (by simp) (by rw [List.drop_zero, List.nil_append]; exact h1); refine Ev.step (fun k => ?_) h2; rw [Qau.l0, if_pos (by omega)]; rfl
theorem once_fold : ∀ (X out : List ID), out.Pairwise (fun a b => idLess a b = true) → (X.foldl (fun o x => insG x o false) out).Pairwise (fun a b => idLess a b = true) ∧ ∀ z, z ∈ X.foldl (fun o x => insG x o false) out ↔ z ∈ out ∨ z ∈ X
  | [], out, h => ⟨h, fun z => by simp⟩
  | x :: X, out, h => by
    have := once_fold X (insG x out false) (insG_strict x out h); refine ⟨this.1, fun z => ?_⟩; rw [List.foldl_cons, this.2, insG_mem x z out (fun _ _ => trivial), List.mem_cons]; constructor
    · rintro ((h | h) | h)
      · exact .inr (.inl h)
      · exact .inl h
      · exact .inr (.inr h)
    · rintro (h | h | h)
      · exact .inl (.inr h)
      · exact .inl (.inl h)
      · exact .inr h
theorem once_ev (p : Proof) (hc : cnt p < 1000000) : Ev (fun k => Qau.f k (ids p)) (support p) := by
  have h := once_l0 (ids p) hc (ids p).length 0 [] (by omega) (by simp); rw [List.drop_zero] at h; have h2 := once_fold (ids p) [] List.Pairwise.nil; rw [strict_unique (support_strict p) h2.1 (fun x => by rw [support_mem, h2.2]; simp)]; exact h
end Go.Proofs.YtmaipohgahdclaaDoor.Pr
end
