/- The proof's own texts, joined: part 4. No conditions. -/
import Derived.WalkKit
import Derived.WalkSpells
import Derived.WalkLawsBesides
import Derived.Lib.Hide
import Derived.Deep.QuietTactic
import Derived.Deep.RegionWith
import Derived.BigQuiet
import Derived.RegionTactic
import Derived.ChangeAlike
import Derived.Deep.RegionLaw
import Derived.Lib.SmallJoins
import Derived.Lib.SlicesS
import Derived.StillTailTactics
import Derived.Test.YtbjjgaahdnfflaaGreatDoorProg
import Derived.Below
import Derived.Outline
import Derived.Deep.RegionHeld3
import Derived.Deep.DrawnRows
import Derived.DeepKeys4
import Derived.KernelRfl
import Derived.Sort.Walk0
import Derived.Laws.Strings
import Derived.Deep.Draws
import Derived.Deep.AppendLies
import Derived.Maps.AppendAt
import Derived.OwnWalk
import Derived.Laws.BytesArg
import Derived.Laws.MakeOwn
import Derived.Laws.OwnMore
import Derived.Deep.OwnRows
import Derived.Tactics
import Derived.Lib.ConvBytes
import Derived.Laws.Slices
import Derived.RowKit3
import Derived.Deep.LoopGhost
import Derived.WideLaws
import Derived.Deep.DeepCutAuto
import Derived.Deep.CutBlock
import Derived.Laws.Rows
import Derived.Lib.AppendStr
import Derived.ArgAppend
import Derived.Laws.IdiomCopy
import Derived.OrdersHeld
import Derived.Laws.BitsLemmas
import Derived.RowKit
import Derived.Shelf.SlSortCmp.NoneTotal
import Derived.Shelf.SlicesG.Cmp
import Derived.Sort.Grow
import Derived.Shelf.GgSortFunc.InsertionK
import Derived.Shelf.SlSortCmp.WholeK
import Derived.Shelf.SlicesE.Clone
import Derived.Ground.SlsfProg
import Derived.Ground.SlgnProg
import Derived.Ground.SlgcProg
import Derived.Maps.OwnSet
import Derived.Maps.RangeRun
import Derived.Maps.Range
import Derived.Carry
import Derived.Laws.StructEq
import Derived.Laws.RangeAny
import Derived.Laws.Closers25
import Derived.Test.YtbjjgaahdnfflaaGreatDoorPAlone0
import Derived.Test.YtbjjgaahdnfflaaGreatDoorPAlone1
import Derived.Test.YtbjjgaahdnfflaaGreatDoorPAlone2
import Derived.Test.YtbjjgaahdnfflaaGreatDoorPAlone3
section
namespace Go.Proofs.YtbjjgaahdnfflaaGreatDoor.Pr
open Go.RowKit Go.Proofs.YtbjjgaahdnfflaaGreatDoorW.PrintWords Go.Proofs.YtbjjgaahdnfflaaGreatDoorW.PrintLast Go.Proofs.YtbjjgaahdnfflaaGreatDoorW.PrintMore
set_option linter.unusedVariables false
set_option linter.unusedSimpArgs false
section
open Go.ChangeMaps (setBlock)
def setT {κ : Type} (l : List κ) : List (κ × Value) := l.map fun x => (x, .bool true)
def putS {κ : Type} [DecidableEq κ] (l : List κ) (x : κ) : List κ := if x ∈ l then l else l ++ [x]
theorem setT_put {κ : Type} [DecidableEq κ] (l : List κ) (x : κ) : tput (setT l) x (.bool true) = setT (putS l x) := by
  unfold tput putS setT
  by_cases h : x ∈ l
  · have h' : ((l.map fun x => (x, Value.bool true)).any fun y => decide (y.1 = x)) = true := by
      rw [List.any_map, List.any_eq_true]; exact ⟨x, h, by simp⟩
    rw [if_pos h, if_pos h', List.map_map]
    apply List.map_congr_left
    intro y _
    by_cases e : y = x
    · simp [e]
    · simp [e]
  · have h' : ¬ ((l.map fun x => (x, Value.bool true)).any fun y => decide (y.1 = x)) = true := by
      rw [List.any_map, List.any_eq_true]; rintro ⟨y, hy, e⟩
      have : y = x := by simpa using e
      exact h (this ▸ hy)
    rw [if_neg h, if_neg h']; simp
theorem setT_get {κ : Type} [DecidableEq κ] (l : List κ) (x : κ) : (tget (setT l) x).getD (.bool false) = .bool (decide (x ∈ l)) := by
  unfold tget setT
  induction l with
  | nil => rfl
  | cons y l ih =>
    rw [List.map_cons, List.find?_cons]
    by_cases h : y = x
    · subst h
      simp
    · have h' : ¬ x = y := fun e => h e.symm
      simp only [decide_eq_false h]; rw [ih]; simp [h']
theorem putS_length {κ : Type} [DecidableEq κ] (l : List κ) (x : κ) : (putS l x).length ≤ l.length + 1 := by
  unfold putS
  split <;> simp
abbrev Hads := List Pair × List ID
def gatherQ (F : Pair → Hads → Option Hads) : List Pair → Hads → Option Hads
  | [], s => some s
  | q :: qs, s => (F q s).bind (gatherQ F qs)
def finGather (T : List (Pair × Int)) (creds : List Cred) : Nat → Pair → Hads → Option Hads
  | 0, _, _ => none
  | k + 1, p, s => if okPair p ∧ s.1.length < 1000000 ∧ s.2.length < 1000000 then (if p ∈ s.1 then some s else (finBy T creds p (rnd T p)).bind fun r => if okID (byCred r).f0 ∧ (byPairs r).length ≤ 2 then gatherQ (finGather T creds k) (byPairs r) (s.1 ++ [p], putS s.2 (byCred r).f0) else none) else none
structure Sets (w0 w : World) (bs bh : Nat) (s : Hads) : Prop where
  seen : Tbl encPair okPair w bs (setT s.1)
  had : Tbl encID okID w bh (setT s.2)
  below : Below w0.heap.size w0 w
theorem Sets.step {w0 w W : World} {bs bh : Nat} {s : Hads} (h : Sets w0 w bs bh s) (hb : Below w.heap.size w W) : Sets w0 W bs bh s := ⟨h.seen.below hb, h.had.below hb, Qad h.below hb⟩
def Kept2 (w w' : World) (bs bh : Nat) : Prop := w.heap.size ≤ w'.heap.size ∧ ∀ i, i < w.heap.size → i ≠ bs → i ≠ bh → w'.heap[i]? = w.heap[i]?
theorem Kept2.trans {w w1 w2 : World} {bs bh : Nat} (h : Kept2 w w1 bs bh) (h2 : Kept2 w1 w2 bs bh) : Kept2 w w2 bs bh := ⟨Nat.le_trans h.1 h2.1, fun i hi a c => (h2.2 i (Nat.lt_of_lt_of_le hi h.1) a c).trans (h.2 i hi a c)⟩
theorem Kept2.of_below {w w1 : World} (h : Below w.heap.size w w1) (bs bh : Nat) : Kept2 w w1 bs bh := ⟨h.size, fun i hi _ _ => h.block i hi⟩
theorem R_kept2 {α : Type} {d : Kd α} {e B : Nat} {w0 W Y : World} {v : Value} {xs : List α} {bs bh : Nat} {s : Hads} (hR : Kd.R d e W B (fun _ => True) v xs) (hS : Sets w0 W bs bh s) (hK : Kept2 W Y bs bh) : Kd.R d e Y B (fun _ => True) v xs :=
  Kd.QaL (Kd.R_move (Kd.QbT hR) (fun k hk => by
    obtain ⟨_, _, hlt, q, _, cells, hc⟩ := hk; refine hK.2 k hlt (fun e => ?_) (fun e => ?_)
    · obtain ⟨es, clock, hb, _⟩ := hS.seen
      rw [e, hb] at hc; cases hc
    · obtain ⟨es, clock, hb, _⟩ := hS.had
      rw [e, hb] at hc
      cases hc)) (fun _ _ => trivial)
theorem Sets.saw {w0 W Y : World} {bs bh : Nat} {s : Hads} {O : Obj} {S : List Pair} (h : Sets w0 W bs bh s) (hbs : w0.heap.size ≤ bs) (hne : bs ≠ bh) (hY : Y = setBlock W bs O) (hT : Tbl encPair okPair Y bs (setT S)) : Sets w0 Y bs bh (S, s.2) ∧ Kept2 W Y bs bh ∧ Y.heap.size = W.heap.size := by
  obtain ⟨hs, ho, hbw⟩ := map_turned (Y := Y) (B := w0.heap.size) h.seen.lt hY hbs; exact ⟨⟨hT, h.had.same (ho _ hne.symm), h.below.trans hbw⟩, ⟨Nat.le_of_eq hs.symm, fun i _ a _ => ho i a⟩, hs⟩
theorem Sets.has {w0 W Y : World} {bs bh : Nat} {s : Hads} {O : Obj} {H : List ID} (h : Sets w0 W bs bh s) (hbh : w0.heap.size ≤ bh) (hne : bs ≠ bh) (hY : Y = setBlock W bh O) (hT : Tbl encID okID Y bh (setT H)) : Sets w0 Y bs bh (s.1, H) ∧ Kept2 W Y bs bh ∧ Y.heap.size = W.heap.size := by
  obtain ⟨hs, ho, hbw⟩ := map_turned (Y := Y) (B := w0.heap.size) h.had.lt hY hbh; exact ⟨⟨h.seen.same (ho _ hne), hT, h.below.trans hbw⟩, ⟨Nat.le_of_eq hs.symm, fun i _ _ c => ho i c⟩, hs⟩
theorem seen_look {w W : World} {bs : Nat} {S : List Pair} (h : Tbl encPair okPair w bs (setT S)) (hb : Below w.heap.size w W) {p : Pair} (hp : okPair p) :
    (Instr.lookup 63 (.map (some bs)) (.agg #[.string p.f0.f0, .string p.f0.f1, .string p.f1]) false).run Tryz.prog W = .ok (.bool (decide (p ∈ S))) W := by
  have hl := h.look pairKey Tryz.underlying63 zeroBool hp false W (hb.block bs h.lt); refine hl.trans ?_; rw [if_neg (by decide), setT_get]
theorem setT_length {κ : Type} (l : List κ) : (setT l).length = l.length := by unfold setT; rw [List.length_map]
set_option maxRecDepth 100000 in
set_option maxHeartbeats 8000000 in
theorem finGather_calls (g b : Nat) (D : FinD) (T : List (Pair × Int)) (hlen : D.creds.length ≤ 1000000) (w0 : World) (hF : FinAt w0 g b D T) (bs bh : Nat) (hbs : w0.heap.size ≤ bs) (hbh : w0.heap.size ≤ bh) (hne : bs ≠ bh) : ∀ (k : Nat) (w : World) (p : Pair) (s s' : Hads), Sets w0 w bs bh s → finGather T D.creds k p s = some s' →
    Calls Tryz.prog 28 #[.pointer (some ⟨g, 0, none⟩), encPair p, .map (some bs), .map (some bh)] w fun e w' => e = .returned (.tuple #[]) ∧ Sets w0 w' bs bh s' ∧ Kept2 w w' bs bh
  | 0, w, p, s, s', hS, h => by rw [finGather] at h; cases h
  | k + 1, w, p, s, s', hS, h => by
    have IH := Lib.hid (finGather_calls g b D T hlen w0 hF bs bh hbs hbh hne k); rw [finGather] at h
    by_cases hc : okPair p ∧ s.1.length < 1000000 ∧ s.2.length < 1000000
    case neg => rw [if_neg hc] at h; cases h
    rw [if_pos hc] at h; obtain ⟨hp, hl1, hl2⟩ := hc; have HB := Lib.hid (And.intro hbs (And.intro hbh hne)); clear hbs hbh hne; unfold encPair; go_enter Tryz.func28, Tryz.ntmps28
    go_upto_region 1 with fail
    change Code.wp _ _ _ _ (w.alloc (pairObj p)); have HX := Qak (Below.refl w.heap.size w) (pairObj p); have BP := Qbf w (pairObj p); have SX := hS.step HX; have hbsw := hS.seen.lt; clear hS; have KX := Kept2.of_below HX bs bh
    generalize w.alloc (pairObj p) = X at HX BP SX KX ⊢
    have hkp : w.heap.size ≠ bs := by omega
    clear HX hbsw
    obtain ⟨kp, hkk⟩ : ∃ kp, kp = w.heap.size := ⟨_, rfl⟩
    rw [← hkk] at BP hkp ⊢; clear hkk; obtain ⟨p0, p1, p2⟩ := pairCells BP; have L1 := seen_look SX.seen (Below.refl _ _) hp
    by_cases hin : p ∈ s.1
    · rw [if_pos hin] at h
      obtain rfl := Option.some.inj h; rw [decide_eq_true hin] at L1; clear h hin; go_wp2
      (try simp only [Exit.inBlock, Exit.then])
      refine bodyPost_ret (results_none rfl _ _ _) rfl ?_; exact ⟨rfl, SX, KX⟩
    · rw [if_neg hin] at h
      rw [decide_eq_false hin] at L1; obtain ⟨rr, hrr, h⟩ := Option.bind_eq_some_iff.mp h
      by_cases hok : okID (byCred rr).f0 ∧ (byPairs rr).length ≤ 2
      case neg => rw [if_neg hok] at h; cases h
      rw [if_pos hok] at h
      have eput : putS s.1 p = s.1 ++ [p] := by unfold putS; rw [if_neg hin]
      obtain ⟨O, hu, hT'⟩ := SX.seen.store pairKey Tryz.underlying63 hp (.bool true) (by
        rw [setT_length]
        have : maxLen = 9223372036854775807 := by decide
        omega)
      rw [setT_put, eput] at hT'; have hu1 := hu X rfl; unfold encPair at hu1; obtain ⟨SV, KV, hsV⟩ := SX.saw HB.out.1 HB.out.2.2 (rfl : setBlock X bs O = _) (hT' X SX.seen.lt)
      have PV : (setBlock X bs O).heap[kp]? = some (pairObj p) := by
        refine Eq.trans ?_ BP; simp [setBlock, hkp.symm]
      have HH := Lib.hid h; have HOK := Lib.hid hok; have HL2 := Lib.hid hl2; have HP := Lib.hid hp; have HRR := Lib.hid hrr; have KVh := Lib.hid (KX.trans KV); have SVh := Lib.hid SV; have PVh := Lib.hid PV; clear h hok hl2 hrr KX KV SV PV hT' hu eput hin hl1 SX hsV
      go_upto_region 3 with fail
      change Code.wp _ _ _ _ (setBlock X bs O)
      generalize setBlock X bs O = V at KVh SVh PVh ⊢
      clear hu1 p0 p1 p2 L1 BP; have HFV := Lib.hid (hF.below SVh.out.below); have HLk := Lib.hid (fun W (h : Below V.heap.size V W) => HFV.out.look0 h HP.out)
      have HC := fun W (h : Below V.heap.size V W) => finBy_calls W g b D T p (rnd T p) rr (HFV.out.below h) hlen HRR.out
      unfold encPair at HC; have HC := Lib.hid HC; obtain ⟨p0, p1, p2⟩ := pairCells PVh.out; have s2 := HFV.out.cells.2.2; have HBP := Lib.hid PVh.out
      go_cut [8, 9] from 10 to 30 (fun v5 v6 wc => ∃ kc v, v5 = .pointer (some ⟨kc, 0, none⟩) ∧ v6 = v ∧ wc.heap[kc]? = some (credObj (byCred rr)) ∧ Kd.R kPair 55 wc V.heap.size (fun _ => True) v (byPairs rr) ∧ Below V.heap.size V wc)
      case first =>
        refine Qby (n := 17) (S := fun w' => cg_sss w' kp p.f0.f0 p.f0.f1 p.f1 (w'.cell? ⟨g, 2, none⟩ = some (.map (some b)) ∧ Below V.heap.size V w')) (ds := []) #[ff,ff,ff,ff,ff,ff,ff,ff,ff,ff,ff,ff,ff,ff,ff,ff,ff] (by kernel_rfl) rfl rfl ⟨p0, p1, p2, s2, Qan (Below.refl _ _)⟩ (fun hHeld => ?_); clear p0 p1 p2 s2
        generalize V.drew = wd at hHeld ⊢
        refine kz 0 19 ?_; refine take_ (i := 1) (N := some 20) (v := ?_) (a' := ?_) #[tt,tt,ff,ff,ff,ff,ff,ff,ff,ff,ff,ff,ff,ff,ff,ff,ff] rfl rfl (by kernel_rfl) (fun _ _ _ h => h) (Or.inl ⟨by rfl, ?_⟩) hHeld ?_ ?_; rotate_left
        · rintro w' ⟨s0, s1, s2, s3, sB⟩
          go_simp; (with_reducible rfl)
        rotate_left
        · simp only [Act.put, put_]
          rfl
        refine kz 2 21 ?_; refine kz 3 22 ?_; refine kz 4 23 ?_; refine take_ (i := 5) (N := some 24) (v := ?_) (a' := ?_) #[tt,tt,tt,tt,tt,tt,ff,ff,ff,ff,ff,ff,ff,ff,ff,ff,ff] rfl rfl (by kernel_rfl) (fun _ _ _ h => h) (Or.inl ⟨by rfl, ?_⟩) hHeld ?_ ?_; rotate_left
        · rintro w' ⟨s0, s1, s2, s3, sB⟩
          go_simp; (with_reducible rfl)
        rotate_left
        · simp only [Act.put, put_]
          rfl
        refine take_ (i := 6) (N := some 25) (v := ?_) (a' := ?_) #[tt,tt,tt,tt,tt,tt,tt,ff,ff,ff,ff,ff,ff,ff,ff,ff,ff] rfl rfl (by kernel_rfl) (fun _ _ _ h => h) (Or.inl ⟨by rfl, ?_⟩) hHeld ?_ ?_; rotate_left
        · rintro w' ⟨s0, s1, s2, s3, sB⟩
          go_simp; (with_reducible rfl)
        rotate_left
        · simp only [Act.put, put_]
          rfl
        refine take_ (i := 7) (N := some 26) (v := ?_) (a' := ?_) #[tt,tt,tt,tt,tt,tt,tt,tt,ff,ff,ff,ff,ff,ff,ff,ff,ff] rfl rfl (by kernel_rfl) (fun _ _ _ h => h) (Or.inl ⟨by rfl, ?_⟩) hHeld ?_ ?_; rotate_left
        · rintro w' ⟨s0, s1, s2, s3, sB⟩
          have hl := HLk.out w' sB; go_simp; rfl
        rotate_left
        · simp only [Act.put, put_]
          rfl
        refine two_ (i := 8) (j := 13) (Ni := some 27) (Nj := some 8) #[tt,tt,tt,tt,tt,tt,tt,tt,tt,ff,ff,ff,ff,ff,ff,ff,ff] #[tt,tt,tt,tt,tt,tt,tt,tt,ff,ff,ff,ff,ff,tt,ff,ff,ff] rfl rfl rfl rfl (by kernel_rfl) (by decide) (by decide) (fun K hK => ?_) (fun K hK => ?_)
        · have hwd : V.heap.size ≤ wd.heap.size := hHeld.2.2.2.2.size
          refine Qcs Tryz.func40 (by kernel_rfl) rfl #[.pointer (some ⟨g, 0, none⟩), .agg #[.string p.f0.f0, .string p.f0.f1, .string p.f1], .int .i64 (rnd T p)] (by rfl) rfl rfl (by (try simp only [List.map_toArray, List.map_cons, List.map_nil]); first | done | rfl) ?_
          with_reducible refine (HC.out _ hHeld.2.2.2.2).mono ?_
          rintro e w5 ⟨v5, rfl, hR5, hB5⟩; have HV5 := Qad hHeld.2.2.2.2 hB5; obtain ⟨p0, p1, p2⟩ := pairCells (Qac HBP.out HV5); have s2 := (HFV.out.below HV5).cells.2.2; unfold encCred; refine ⟨_, rfl, ?_⟩; refine hK.out _ _ ⟨p0, p1, p2, s2, HV5⟩ (fun hHeld => ?_); clear hK K; refine QbF (a' := ?_) ?_ ?_; rotate_left
          · show Act.put _ (some 27) _ = _
            simp only [Act.put, put_]; rfl
          refine kz 9 18 ?_; refine kz 10 28 ?_; refine kz 11 29 ?_; refine kz 12 30 ?_; refine one_ (i := 13) (N := some 8) #[tt,tt,tt,tt,tt,tt,tt,tt,tt,tt,tt,tt,tt,tt,ff,ff,ff] rfl rfl (by kernel_rfl) (by decide) (fun K hK => ?_); refine value_ (w1 := ?_) (v := ?_) (by rfl) rfl ?_ ?_; rotate_left 2
          · go_simp
            constructor
            · rfl
            · rfl
          have HV6 := Qak HV5 (credObj zCred); refine hK.out _ _ ⟨QaV p0 _, QaV p1 _, QaV p2 _, QaV s2 _, HV6⟩ (fun hHeld => ?_); clear hK K; refine QbF (a' := ?_) ?_ ?_; rotate_left
          · show Act.put _ (some 8) _ = _
            simp only [Act.put, put_]; rfl
          change wpAnyLast _ _ _ _ _ _ _ _ _ (w5.alloc (credObj zCred)); have BC := Qbf w5 (credObj zCred); have hkc : V.heap.size ≤ w5.heap.size := HV5.size; have RX := Kd.Qa7 (R_storeNew hR5 (byCred rr)) hwd; clear hHeld
          generalize w5.alloc (credObj zCred) = Z at BC RX HV6 ⊢
          generalize w5.heap.size = kc at BC RX hkc ⊢
          obtain ⟨kc0, kc1, kc2, kc3, kc4, kc5, kc6, kc7, kc8⟩ := credCells BC; have kf0 := Qaj BC 0; have kf1 := Qaj BC 1; have kf2 := Qaj BC 2; have kf3 := Qaj BC 3; have kf4 := Qaj BC 4; have kf5 := Qaj BC 5; have kf6 := Qaj BC 6; have kf7 := Qaj BC 7; have kf8 := Qaj BC 8; have HVs := Qbu HV6 hkc (byCred rr); obtain ⟨p0, p1, p2⟩ := pairCells (Qac HBP.out HVs); have s2 := (HFV.out.below HVs).cells.2.2; refine one_ (i := 14) (N := none) #[tt,tt,tt,tt,tt,tt,tt,tt,tt,tt,tt,tt,tt,tt,tt,ff,ff] rfl rfl (by kernel_rfl) (by decide) (fun K hK => ?_); refine skip_ (w1 := credStore Z kc (byCred rr)) (by rfl) rfl ?_ ?_
          · go_simp
            try rfl
          refine hK.out _ _ ⟨p0, p1, p2, s2, HVs⟩ (fun hHeld => ?_); clear hK K; refine kz 15 9 ?_; refine kz 16 10 ?_; refine QbW (by kernel_rfl) ?_; have BS := QbG BC (byCred rr)
          go_wp2_with fail
          go_meet
          case rel => exact ⟨kc, _, rfl, rfl, BS, RX, HVs⟩
        · refine value_ (w1 := ?_) (v := ?_) (by rfl) rfl ?_ ?_
          rotate_left 2
          · go_simp
            constructor
            · rfl
            · rfl
          have HV4 := Qak hHeld.2.2.2.2 (credObj zCred); have BC4 := Qbf wd (credObj zCred); have hkc : V.heap.size ≤ wd.heap.size := hHeld.2.2.2.2.size; refine hK.out _ _ ⟨QaV hHeld.1 _, QaV hHeld.2.1 _, QaV hHeld.2.2.1 _, QaV hHeld.2.2.2.1 _, HV4⟩ (fun hHeld => ?_); clear hK K; refine QbF (a' := ?_) ?_ ?_; rotate_left
          · show Act.put _ (some 8) _ = _
            simp only [Act.put, put_]; rfl
          change wpAnyLast _ _ _ _ _ _ _ _ _ (wd.alloc (credObj zCred)); refine one_ (i := 8) (N := some 27) #[tt,tt,tt,tt,tt,tt,tt,tt,tt,ff,ff,ff,ff,tt,ff,ff,ff] rfl rfl (by kernel_rfl) (by decide) (fun K hK => ?_); refine Qcs Tryz.func40 (by kernel_rfl) rfl #[.pointer (some ⟨g, 0, none⟩), .agg #[.string p.f0.f0, .string p.f0.f1, .string p.f1], .int .i64 (rnd T p)] (by rfl) rfl rfl (by (try simp only [List.map_toArray, List.map_cons, List.map_nil]); first | done | rfl) ?_
          with_reducible refine (HC.out _ HV4).mono ?_
          rintro e w5 ⟨v5, rfl, hR5, hB5⟩; have HV5 := Qad HV4 hB5; obtain ⟨p0, p1, p2⟩ := pairCells (Qac HBP.out HV5); have s2 := (HFV.out.below HV5).cells.2.2; have BC := Qac BC4 hB5; unfold encCred; refine ⟨_, rfl, ?_⟩; refine hK.out _ _ ⟨p0, p1, p2, s2, HV5⟩ (fun hHeld => ?_); clear hK K; refine QbF (a' := ?_) ?_ ?_; rotate_left
          · show Act.put _ (some 27) _ = _
            simp only [Act.put, put_]; rfl
          refine kz 9 18 ?_; refine kz 10 28 ?_; refine kz 11 29 ?_; refine kz 12 30 ?_; have RX := R_credStore hR5 (show wd.heap.size < (wd.alloc (credObj zCred)).heap.size by simp) (byCred rr); replace RX := Kd.Qa7 RX HV4.size; have HV6 := Qad HV4 hB5; clear hHeld p0 p1 p2 s2 HV4 BC4 hR5
          generalize w5 = Z at BC RX HV6 ⊢
          generalize wd.heap.size = kc at BC RX hkc ⊢
          obtain ⟨kc0, kc1, kc2, kc3, kc4, kc5, kc6, kc7, kc8⟩ := credCells BC; have kf0 := Qaj BC 0; have kf1 := Qaj BC 1; have kf2 := Qaj BC 2; have kf3 := Qaj BC 3; have kf4 := Qaj BC 4; have kf5 := Qaj BC 5; have kf6 := Qaj BC 6; have kf7 := Qaj BC 7; have kf8 := Qaj BC 8; have HVs := Qbu HV6 hkc (byCred rr); obtain ⟨p0, p1, p2⟩ := pairCells (Qac HBP.out HVs); have s2 := (HFV.out.below HVs).cells.2.2; refine one_ (i := 14) (N := none) #[tt,tt,tt,tt,tt,tt,tt,tt,tt,tt,tt,tt,tt,tt,tt,ff,ff] rfl rfl (by kernel_rfl) (by decide) (fun K hK => ?_); refine skip_ (w1 := credStore Z kc (byCred rr)) (by rfl) rfl ?_ ?_
          · go_simp
            try rfl
          refine hK.out _ _ ⟨p0, p1, p2, s2, HVs⟩ (fun hHeld => ?_); clear hK K; refine kz 15 9 ?_; refine kz 16 10 ?_; refine QbW (by kernel_rfl) ?_; have BS := QbG BC (byCred rr)
          go_wp2_with fail
          go_meet
          case rel => exact ⟨kc, _, rfl, rfl, BS, RX, HVs⟩
      case rest =>
        obtain ⟨kc, v6, rfl, rfl, BC, HR6, HVc⟩ := hcut
        obtain ⟨qs, hqs⟩ : ∃ qs, qs = byPairs rr := ⟨_, rfl⟩
        rw [← hqs] at HH HOK HR6; have SC := SVh.out.step HVc; have KC := KVh.out.trans (Kept2.of_below HVc bs bh); obtain ⟨c0, c1, c2, c3, c4, c5, c6, c7, c8⟩ := credCells BC
        obtain ⟨O, hu, hT'⟩ := SC.had.store idKey Tryz.underlying64 HOK.out.1 (.bool true) (by
          rw [setT_length]
          have : maxLen = 9223372036854775807 := by decide
          have := HL2.out
          dsimp only
          omega)
        rw [setT_put] at hT'; have hu1 := hu wc rfl; unfold encID at hu1; obtain ⟨SD, KD, hsD⟩ := SC.has HB.out.2.1 HB.out.2.2 (rfl : setBlock wc bh O = _) (hT' wc SC.had.lt); have RD := R_kept2 HR6 SC KD; obtain ⟨A6, cc6, rfl⟩ := Kd.Qa2 HR6; have HRD := Lib.hid RD; have HKD := Lib.hid (KC.trans KD); have HSD := Lib.hid SD; clear hT' hu RD KC KD SD SC hsD HR6 HLk HC SVh KVh HBP PVh HFV HRR HL2 BC hqs HVc
        go_upto_region 5 with fail
        change Code.wp _ _ _ _ (setBlock wc bh O)
        generalize setBlock wc bh O = X1 at HRD HKD HSD ⊢
        clear hu1 c0 c1 c2 c3 c4 c5 c6 c7 c8; go_wp2
        go_loopg [36] (qs.length + 1) (fun kq v36 w' => ∃ (j : Nat) (sj : Hads), v36 = .int .i64 j ∧ Hid (kq = qs.length + 1 - j) ∧ Hid (j ≤ qs.length) ∧ Hid (gatherQ (finGather T D.creds k) (qs.drop j) sj = some s') ∧ Hid (Kd.R kPair 55 w' V.heap.size (fun _ => True) (.slice A6 qs.length cc6) qs) ∧ Hid (Sets w0 w' bs bh sj) ∧ Hid (Kept2 w w' bs bh))
        case atStart => exact ⟨0, _, rfl, Lib.hid rfl, Lib.hid (Nat.zero_le _), HH, HRD, HSD, HKD⟩
        case round =>
          clear HH HRD HSD HKD; obtain ⟨j, sj, rfl, HKq, HJ, HH, HR, HS, HK⟩ := hrel
          by_cases hj : j < qs.length
          · have d1 : decide ((j : Int) < (qs.length : Int)) = true := decide_eq_true (by omega)
            have d2 : decide (j < qs.length) = true := decide_eq_true hj; obtain ⟨ad, e, hx0, hx1, hx2⟩ := at_T55 (Kd.QaF HR.out).2.2 (j : Int) (by omega) (by omega); obtain rfl := e
            obtain ⟨x, hx⟩ : ∃ x, x = qs[j] := ⟨_, rfl⟩
            have erd : rd_T55 qs (j : Int) = x := by
              unfold rd_T55; rw [hx, Int.toNat_natCast, List.getD_eq_getElem?_getD, List.getElem?_eq_getElem hj]; rfl
            rw [erd, Int.toNat_natCast] at hx0 hx1 hx2; have p101 : (0 ≤ (j : Int)) = True := eq_true (by omega); have q101 : ((j : Int) < (qs.length : Int)) = True := eq_true (by omega); have hH := HH.out; rw [List.drop_eq_getElem_cons hj, ← hx, gatherQ] at hH; obtain ⟨s1, hs1, hH⟩ := Option.bind_eq_some_iff.mp hH; have HH := Lib.hid hH; have HJl := Lib.hid hj
            have wrapJ : wrap64 ((j : Int) + 1) = ((j + 1 : Nat) : Int) := by unfold wrap64; have := HOK.out.2; omega
            have HC := fun W (h : Sets w0 W bs bh sj) => IH.out W x sj s1 h hs1
            unfold encPair at HC; have HC := Lib.hid HC; clear hx erd hj hH hs1
            go_upto_region 8 with fail
            change Code.wp _ _ _ _ (wr.alloc (pairObj x)); have HYr := Qak (Below.refl wr.heap.size wr) (pairObj x); have BY := Qbf wr (pairObj x); have RY := Lib.hid (Kd.Qax HR.out (pairObj x)); have SY := Lib.hid (HS.out.step HYr); have KY := Lib.hid (HK.out.trans (Kept2.of_below HYr bs bh)); clear HYr hx0 hx1 hx2 HR HS HK
            generalize wr.alloc (pairObj x) = Y at BY RY SY KY ⊢
            generalize wr.heap.size = kx at BY ⊢
            obtain ⟨x0, x1, x2⟩ := pairCells BY; clear BY
            go_wp2_with (go_at_call 28; refine (HC.out _ SY.out).mono ?_; rintro e w5 ⟨rfl, hS5, hK5⟩; have HS5 := Lib.hid hS5; have HR5 := Lib.hid (R_kept2 RY.out SY.out hK5); have HK5 := Lib.hid (KY.out.trans hK5); clear hS5 hK5)
            go_roundg (qs.length + 1 - (j + 1))
            case measure => have := HKq.out; have := HJl.out; omega
            case rel => exact ⟨j + 1, s1, by first | rfl | exact congrArg _ wrapJ, Lib.hid rfl, Lib.hid HJl.out, HH, HR5, HS5, HK5⟩
          · have d1 : decide ((j : Int) < (qs.length : Int)) = false := decide_eq_false (by omega)
            have d2 : decide (j < qs.length) = false := decide_eq_false hj; have hH := HH.out; rw [List.drop_eq_nil_of_le (by omega), gatherQ] at hH; obtain rfl := Option.some.inj hH; clear hH HH hj; go_wp2; go_end0; exact ⟨rfl, HS.out, HK.out⟩

set_option maxRecDepth 100000 in
set_option maxHeartbeats 4000000 in
theorem round_walk (w : World) (A0 : Option Addr) (c0 : Nat) (l : List Cred) (who a b : ByteArray) (x : List Cred × List Pair × List (Pair × Int)) (hr0 : Kd.C kCred w A0 l.length l) (hc0 : l.length ≤ c0) (hx : foundF l = some x) (hp : okPair ⟨⟨a, b⟩, who⟩) :
    Calls Tryz.prog 11 #[.slice A0 l.length c0, .string who, .agg #[.string a, .string b]] w fun e w' => e = .returned (.int .i64 (rnd x.2.2 ⟨⟨a, b⟩, who⟩)) ∧ Below w.heap.size w w' := by
  have HF := Lib.hid (fun W (h : Below w.heap.size w W) => found_calls W A0 c0 l x (Kd.Qbc hr0 h) hc0 hx); clear hr0 hc0 hx; go_enter Tryz.func11, Tryz.ntmps11
  go_upto_region 1 with fail
  change Code.wp _ _ _ _ (w.alloc (roleObj2 ⟨a, b⟩)); have HX := Qak (Below.refl w.heap.size w) (roleObj2 ⟨a, b⟩); have BR := Qbf w (roleObj2 ⟨a, b⟩)
  generalize w.alloc (roleObj2 ⟨a, b⟩) = X at HX BR ⊢
  obtain ⟨kr, hkr⟩ : ∃ kr, kr = w.heap.size := ⟨_, rfl⟩
  rw [← hkr] at BR ⊢; have r0 : X.cell? ⟨kr, 0, none⟩ = some (.string a) := (Qam BR 0).trans rfl; have r1 : X.cell? ⟨kr, 1, none⟩ = some (.string b) := (Qam BR 1).trans rfl; have HBX := Lib.hid (Qan HX); have HBR := Lib.hid (Qah BR); clear HX BR hkr; refine Qby (n := 10) (S := fun w' => cgl_ss w' kr a b) (ds := []) #[ff,ff,ff,ff,ff,ff,ff,ff,ff,ff] (by kernel_rfl) rfl rfl ⟨r0, r1⟩ (fun hHeld => ?_); clear r0 r1
  generalize X.drew = wd at hHeld HBX HBR ⊢
  refine kz 0 7 ?_; refine kk2 5 12 ?_; refine kz 6 13 ?_; refine kz 7 14 ?_; refine one_ (i := 1) (N := some 8) #[tt,tt,ff,ff,ff,tt,tt,tt,ff,ff] rfl rfl (by kernel_rfl) (by decide) (fun K hK => ?_); refine Qcs Tryz.func24 (by kernel_rfl) rfl #[.slice A0 l.length c0] (by rfl) rfl rfl (by (try simp only [List.map_toArray, List.map_cons, List.map_nil]); first | done | rfl) ?_
  with_reducible refine (HF.out _ HBX.out).mono ?_
  rintro e w5 ⟨g, bb, D, rfl, hR5, hcr, hpr, hl5, hB5⟩; have BR5 := Qac HBR.out hB5; have HB5 := Qad HBX.out hB5; have s2 := hR5.at.cells.2.2; have L := hR5.at.look0 (Below.refl _ _) hp; refine ⟨_, rfl, ?_⟩; refine hK.out _ _ ⟨(Qam BR5 0).trans rfl, (Qam BR5 1).trans rfl⟩ (fun hHeld => ?_); clear hK K; refine QbF (a' := ?_) ?_ ?_; rotate_left
  · show Act.put _ (some 8) _ = _
    simp only [Act.put, put_]; rfl
  refine kz 2 9 ?_; refine kz 3 10 ?_; refine one_ (i := 4) (N := some 11) #[tt,tt,tt,tt,tt,tt,tt,tt,ff,ff] rfl rfl (by kernel_rfl) (by decide) (fun K hK => ?_); refine value_ (w1 := w5) (v := .map (some bb)) (by rfl) rfl ?_ ?_
  · go_simp
    try rfl
  refine hK.out _ _ hHeld (fun hHeld => ?_); clear hK K; refine QbF (a' := ?_) ?_ ?_; rotate_left
  · show Act.put _ (some 11) _ = _
    simp only [Act.put, put_]; rfl
  refine one_ (i := 8) (N := some 15) #[tt,tt,tt,tt,tt,tt,tt,tt,tt,ff] rfl rfl (by kernel_rfl) (by decide) (fun K hK => ?_); refine value_ (w1 := w5) (v := .int .i64 (rnd x.2.2 ⟨⟨a, b⟩, who⟩)) (by rfl) rfl ?_ ?_
  · go_simp
    try rfl
  refine hK.out _ _ hHeld (fun hHeld => ?_); clear hK K; refine QbF (a' := ?_) ?_ ?_; rotate_left
  · show Act.put _ (some 15) _ = _
    simp only [Act.put, put_]; rfl
  refine kz 9 6 ?_; refine QbW (by kernel_rfl) ?_
  go_wp2_with fail
  go_ret; exact ⟨rfl, HB5⟩
theorem pairStore_blk {W : World} {k : Nat} {z : Pair} (h : W.heap[k]? = some (pairObj z)) (a b c : ByteArray) : (((W.setCell ⟨k, 0, none⟩ (.string a)).setCell ⟨k, 1, none⟩ (.string b)).setCell ⟨k, 2, none⟩ (.string c)).heap[k]? = some (pairObj ⟨⟨a, b⟩, c⟩) := by
  have h0 := QaG (cs' := #[.string a, .string z.f0.f1, .string z.f1]) h 0 (.string a) (by simp); have h1 := QaG (cs' := #[.string a, .string b, .string z.f1]) h0 1 (.string b) (by simp); exact QaG (cs' := #[.string a, .string b, .string c]) h1 2 (.string c) (by simp)
theorem pairStore_below {w W : World} {B k : Nat} (h : Below B w W) (hk : B ≤ k) (a b c : ByteArray) : Below B w (((W.setCell ⟨k, 0, none⟩ (.string a)).setCell ⟨k, 1, none⟩ (.string b)).setCell ⟨k, 2, none⟩ (.string c)) := ((h.setCell hk _).setCell hk _).setCell hk _
theorem pairStore_other {W : World} {k i : Nat} (a b c : ByteArray) (h : i ≠ k) : (((W.setCell ⟨k, 0, none⟩ (.string a)).setCell ⟨k, 1, none⟩ (.string b)).setCell ⟨k, 2, none⟩ (.string c)).heap[i]? = W.heap[i]? := by
  rw [Below.heap_setCell _ _ _ i h, Below.heap_setCell _ _ _ i h, Below.heap_setCell _ _ _ i h]
theorem FinR.store {w Y : World} {B g b kp : Nat} {D : FinD} {T : List (Pair × Int)} {z : Pair} (h : FinR w B g b D T) (hk : kp < B) (hz : w.heap[kp]? = some (pairObj z)) (hm : ∀ i, i ≠ kp → Y.heap[i]? = w.heap[i]?) : FinAt Y g b D T := by
  have hg : g ≠ kp := fun e => by
    have := h.blk; rw [e, hz] at this; have := Option.some.inj this
    injection this with _ h2 _
    exact absurd h2 (by decide)
  have hb : b ≠ kp := fun e => by
    obtain ⟨es, clock, hb, _⟩ := h.tbl; rw [e, hz] at hb; cases hb
  have hc := Kd.R_move (Kd.QbT h.cr) (fun k hk' => hm k (by have := hk'.2.1; omega)); have hp := Kd.R_move (Kd.QbT h.pr) (fun k hk' => hm k (by have := hk'.2.1; omega)); exact ⟨(hm g hg).trans h.blk, (Kd.QaF hc).2.2, (Kd.QaF hc).2.1, (Kd.QaF hp).2.2, (Kd.QaF hp).2.1, h.tbl.same (hm b hb)⟩
abbrev kzPair : Pair := ⟨⟨⟨#[]⟩, ⟨#[]⟩⟩, ⟨#[]⟩⟩
set_option maxRecDepth 100000 in
set_option maxHeartbeats 4000000 in
theorem find_walk (w : World) (A0 : Option Addr) (c0 : Nat) (l : List Cred) (who a b : ByteArray) (x : List Cred × List Pair × List (Pair × Int)) (hr0 : Kd.C kCred w A0 l.length l) (hc0 : l.length ≤ c0) (hx : foundF l = some x) (hp : okPair ⟨⟨a, b⟩, who⟩) (r : Proof) (n : Int)
    (h : (rnd x.2.2 ⟨⟨a, b⟩, who⟩ = 0 ∧ r = ⟨⟨⟨#[]⟩, ⟨#[]⟩⟩, ⟨#[]⟩, ⟨0, 0⟩, []⟩ ∧ n = 16) ∨ (rnd x.2.2 ⟨⟨a, b⟩, who⟩ ≠ 0 ∧ finProof x.2.2 x.1 1000 ⟨⟨a, b⟩, who⟩ = some r ∧ n = 0)) :
    Calls Tryz.prog 8 #[.slice A0 l.length c0, .string who, .agg #[.string a, .string b]] w fun e w' => ∃ v, e = .returned (.tuple #[.agg #[.string r.f0.f0, .string r.f0.f1, .string r.f1, .int .i64 r.f2.f0, .int .i64 r.f2.f1, v], .int .i64 n]) ∧ Kd.R kProof 30 w' w.heap.size (fun _ => True) v r.f3 ∧ Below w.heap.size w w' := by
  have HF := Lib.hid (fun W (h : Below w.heap.size w W) => found_calls W A0 c0 l x (Kd.Qbc hr0 h) hc0 hx); clear hr0 hc0 hx; have HH := Lib.hid h; clear h; go_enter Tryz.func8, Tryz.ntmps8
  go_upto_region 1 with fail
  change Code.wp _ _ _ _ ((w.alloc (roleObj2 ⟨a, b⟩)).alloc zProofObj)
  generalize hW : (w.alloc (roleObj2 ⟨a, b⟩)).alloc zProofObj = V
  obtain ⟨HV, BR, BZ, hsz⟩ := boxed2 hW
  obtain ⟨kr, hkr⟩ : ∃ kr, kr = w.heap.size := ⟨_, rfl⟩
  obtain ⟨kzv, hkz⟩ : ∃ kzv, kzv = w.heap.size + 1 := ⟨_, rfl⟩
  have HZ := Lib.hid (show w.heap.size ≤ kzv ∧ kzv < V.heap.size from ⟨by omega, by omega⟩); rw [← hkz] at BZ ⊢; rw [← hkr] at BR ⊢; have r0 : V.cell? ⟨kr, 0, none⟩ = some (.string a) := (Qam BR 0).trans rfl; have r1 : V.cell? ⟨kr, 1, none⟩ = some (.string b) := (Qam BR 1).trans rfl; have HBV := Lib.hid HV; have HBR := Lib.hid BR; have HBZ := Lib.hid BZ; clear HV BR BZ hsz hW hkr hkz
  go_cut [8, 9] from 10 to 14 (fun v8 v9 wc => ∃ g bb D kp, v8 = .pointer (some ⟨g, 0, none⟩) ∧ v9 = .pointer (some ⟨kp, 0, none⟩) ∧ FinAt wc g bb D x.2.2 ∧ D.creds = x.1 ∧ D.creds.length ≤ 1000000 ∧ wc.heap[kp]? = some (pairObj ⟨⟨a, b⟩, who⟩) ∧ Below V.heap.size V wc)
  case first =>
    refine Qby (n := 8) (S := fun w' => cgl_ss w' kr a b) (ds := []) #[ff,ff,ff,ff,ff,ff,ff,ff] (by kernel_rfl) rfl rfl ⟨r0, r1⟩ (fun hHeld => ?_); clear r0 r1; have HVd := Lib.hid (Qan (Below.refl V.heap.size V)); have HBRd := Lib.hid (Qah HBR.out); have HBVd := Lib.hid (Qan HBV.out)
    generalize V.drew = wd at hHeld HVd HBRd HBVd ⊢
    refine kz 0 10 ?_; refine kk2 2 12 ?_; refine kz 3 13 ?_; refine kz 4 14 ?_; refine two_ (i := 1) (j := 5) (Ni := some 11) (Nj := some 9) #[tt,tt,tt,tt,tt,ff,ff,ff] #[tt,ff,tt,tt,tt,tt,ff,ff] rfl rfl rfl rfl (by kernel_rfl) (by decide) (by decide) (fun K hK => ?_) (fun K hK => ?_)
    · refine Qcs Tryz.func24 (by kernel_rfl) rfl #[.slice A0 l.length c0] (by rfl) rfl rfl (by (try simp only [List.map_toArray, List.map_cons, List.map_nil]); first | done | rfl) ?_
      with_reducible refine (HF.out _ HBVd.out).mono ?_
      rintro e w5 ⟨g, bb, D, rfl, hR5, hcr, hpr, hl5, hB5⟩; have BR5 := Qac HBRd.out hB5; have HV5 := Qad HVd.out hB5; refine ⟨_, rfl, ?_⟩; refine hK.out _ _ ⟨(Qam BR5 0).trans rfl, (Qam BR5 1).trans rfl⟩ (fun hHeld => ?_); clear hK K; refine QbF (a' := ?_) ?_ ?_; rotate_left
      · show Act.put _ (some 11) _ = _
        simp only [Act.put, put_]; rfl
      refine one_ (i := 5) (N := some 9) #[tt,tt,tt,tt,tt,tt,ff,ff] rfl rfl (by kernel_rfl) (by decide) (fun K hK => ?_); refine value_ (w1 := ?_) (v := ?_) (by rfl) rfl ?_ ?_; rotate_left 2
      · go_simp
        constructor
        · rfl
        · rfl
      refine hK.out _ _ ⟨QaV hHeld.1 _, QaV hHeld.2 _⟩ (fun hHeld => ?_); clear hK K; refine QbF (a' := ?_) ?_ ?_; rotate_left
      · show Act.put _ (some 9) _ = _
        simp only [Act.put, put_]; rfl
      change wpAnyLast _ _ _ _ _ _ _ _ _ (w5.alloc (pairObj kzPair)); have hkv : V.heap.size ≤ w5.heap.size := HV5.size; have BP := Qbf w5 (pairObj kzPair); have HV6 := Qak HV5 (pairObj kzPair)
      have HFA := fun W hb => (hR5.at.below (W := W) hb)
      have HFS : FinAt (((( w5.alloc (pairObj kzPair)).setCell ⟨w5.heap.size, 0, none⟩ (.string a)).setCell ⟨w5.heap.size, 1, none⟩ (.string b)).setCell ⟨w5.heap.size, 2, none⟩ (.string who)) g bb D x.2.2 := hR5.at.below (pairStore_below (Qak (Below.refl _ _) _) (Nat.le_refl _) a b who); clear HFA
      generalize w5.alloc (pairObj kzPair) = Z at BP HV6 HFS hHeld ⊢
      generalize w5.heap.size = kp at BP HFS hkv ⊢
      obtain ⟨q0, q1, q2⟩ := pairCells BP; have qf0 := Qaj BP 0; have qf1 := Qaj BP 1; have qf2 := Qaj BP 2; have HVs := pairStore_below HV6 hkv a b who; have BRs := Qac HBR.out HVs; refine kz 6 8 ?_; refine one_ (i := 7) (N := none) #[tt,tt,tt,tt,tt,tt,tt,tt] rfl rfl (by kernel_rfl) (by decide) (fun K hK => ?_); refine skip_ (w1 := (((Z.setCell ⟨kp, 0, none⟩ (.string a)).setCell ⟨kp, 1, none⟩ (.string b)).setCell ⟨kp, 2, none⟩ (.string who))) (by rfl) rfl ?_ ?_
      · go_simp
        try rfl
      refine hK.out _ _ ⟨(Qam BRs 0).trans rfl, (Qam BRs 1).trans rfl⟩ (fun hHeld => ?_); clear hK K; refine QbW (by kernel_rfl) ?_; have BPs := pairStore_blk BP a b who
      go_wp2_with fail
      go_meet
      case rel => exact ⟨g, bb, D, kp, rfl, rfl, HFS, hcr, hl5, BPs, HVs⟩
    · refine value_ (w1 := ?_) (v := ?_) (by rfl) rfl ?_ ?_
      rotate_left 2
      · go_simp
        constructor
        · rfl
        · rfl
      have HV4 := Qak HVd.out (pairObj kzPair); have HBV4 := Qak HBVd.out (pairObj kzPair); have BP4 := Qbf wd (pairObj kzPair); have BR4 := Qag HBRd.out (pairObj kzPair); have hkv : V.heap.size ≤ wd.heap.size := HVd.out.size; refine hK.out _ _ ⟨QaV hHeld.1 _, QaV hHeld.2 _⟩ (fun hHeld => ?_); clear hK K; refine QbF (a' := ?_) ?_ ?_; rotate_left
      · show Act.put _ (some 9) _ = _
        simp only [Act.put, put_]; rfl
      change wpAnyLast _ _ _ _ _ _ _ _ _ (wd.alloc (pairObj kzPair))
      have hkl : wd.heap.size < (wd.alloc (pairObj kzPair)).heap.size := by simp
      generalize wd.alloc (pairObj kzPair) = Y at HV4 HBV4 BP4 BR4 hHeld hkl ⊢
      generalize wd.heap.size = kp at BP4 hkv hkl ⊢
      refine one_ (i := 1) (N := some 11) #[tt,tt,tt,tt,tt,tt,ff,ff] rfl rfl (by kernel_rfl) (by decide) (fun K hK => ?_); refine Qcs Tryz.func24 (by kernel_rfl) rfl #[.slice A0 l.length c0] (by rfl) rfl rfl (by (try simp only [List.map_toArray, List.map_cons, List.map_nil]); first | done | rfl) ?_
      with_reducible refine (HF.out _ HBV4).mono ?_
      rintro e w5 ⟨g, bb, D, rfl, hR5, hcr, hpr, hl5, hB5⟩; have BR5 := Qac BR4 hB5; have BP := Qac BP4 hB5; have HV6 := Qad HV4 hB5; refine ⟨_, rfl, ?_⟩; refine hK.out _ _ ⟨(Qam BR5 0).trans rfl, (Qam BR5 1).trans rfl⟩ (fun hHeld => ?_); clear hK K; refine QbF (a' := ?_) ?_ ?_; rotate_left
      · show Act.put _ (some 11) _ = _
        simp only [Act.put, put_]; rfl
      have HFS : FinAt (((w5.setCell ⟨kp, 0, none⟩ (.string a)).setCell ⟨kp, 1, none⟩ (.string b)).setCell ⟨kp, 2, none⟩ (.string who)) g bb D x.2.2 := hR5.store hkl BP (fun i hi => pairStore_other a b who hi); clear HV4 HBV4 BP4 BR4
      generalize w5 = Z at BP HV6 HFS hHeld ⊢
      obtain ⟨q0, q1, q2⟩ := pairCells BP; have qf0 := Qaj BP 0; have qf1 := Qaj BP 1; have qf2 := Qaj BP 2; have HVs := pairStore_below HV6 hkv a b who; have BRs := Qac HBR.out HVs; refine kz 6 8 ?_; refine one_ (i := 7) (N := none) #[tt,tt,tt,tt,tt,tt,tt,tt] rfl rfl (by kernel_rfl) (by decide) (fun K hK => ?_); refine skip_ (w1 := (((Z.setCell ⟨kp, 0, none⟩ (.string a)).setCell ⟨kp, 1, none⟩ (.string b)).setCell ⟨kp, 2, none⟩ (.string who))) (by rfl) rfl ?_ ?_
      · go_simp
        try rfl
      refine hK.out _ _ ⟨(Qam BRs 0).trans rfl, (Qam BRs 1).trans rfl⟩ (fun hHeld => ?_); clear hK K; refine QbW (by kernel_rfl) ?_; have BPs := pairStore_blk BP a b who
      go_wp2_with fail
      go_meet
      case rel => exact ⟨g, bb, D, kp, rfl, rfl, HFS, hcr, hl5, BPs, HVs⟩
  case rest =>
    obtain ⟨g, bb, D, kp, rfl, rfl, HFA, hcr, hl5, BP, HVc⟩ := hcut
    obtain ⟨p, hpe⟩ : ∃ p : Pair, p = ⟨⟨a, b⟩, who⟩ := ⟨_, rfl⟩
    rw [← hpe] at hp HH BP; have BZc := Qac HBZ.out HVc; have HBc := Qad HBV.out HVc; clear HF HBR HBV HBZ hpe; obtain ⟨p0, p1, p2⟩ := pairCells BP; have s2 := HFA.cells.2.2
    have L := fun m => HFA.look (Below.refl _ _) hp m
    obtain ⟨k, hk⟩ : ∃ k, k = rnd x.2.2 p := ⟨_, rfl⟩
    rw [← hk] at HH L; have HBP := Lib.hid BP; have HBZ := Lib.hid BZc; have HBW := Lib.hid HBc; have HFB := Lib.hid HFA; have HVw := Lib.hid HVc; clear BP BZc HBc HFA hk HVc
    go_upto_region 2 with fail
    by_cases e : k = 0
    · have d : decide (k = 0) = true := decide_eq_true e
      have d1 : (k == 0) = true := by rw [e]; rfl
      obtain ⟨-, rfl, rfl⟩ := HH.out.resolve_right (fun h => h.1 e); clear e HH; have z0 : wc.cell? ⟨kzv, 0, none⟩ = some (.string ⟨#[]⟩) := (Qam HBZ.out 0).trans rfl; have zf0 := Qaj HBZ.out 0; have z1 : wc.cell? ⟨kzv, 1, none⟩ = some (.string ⟨#[]⟩) := (Qam HBZ.out 1).trans rfl; have zf1 := Qaj HBZ.out 1; have z2 : wc.cell? ⟨kzv, 2, none⟩ = some (.string ⟨#[]⟩) := (Qam HBZ.out 2).trans rfl; have zf2 := Qaj HBZ.out 2; have z3 : wc.cell? ⟨kzv, 3, none⟩ = some (.int .i64 0) := (Qam HBZ.out 3).trans rfl; have zf3 := Qaj HBZ.out 3; have z4 : wc.cell? ⟨kzv, 4, none⟩ = some (.int .i64 0) := (Qam HBZ.out 4).trans rfl; have zf4 := Qaj HBZ.out 4; have z5 : wc.cell? ⟨kzv, 5, none⟩ = some (.slice none 0 0) := (Qam HBZ.out 5).trans rfl; have zf5 := Qaj HBZ.out 5
      go_quiet (fail)
      all_goals
        clear p0 p1 p2 s2 L; go_wp2
        (try simp only [Exit.inBlock, Exit.then])
        refine bodyPost_ret (results_ct rfl _ _ kzv 30 #[.string ⟨#[]⟩, .string ⟨#[]⟩, .string ⟨#[]⟩, .int .i64 0, .int .i64 0, .slice none 0 0] (0, 0) _ rfl (QaG (cs' := #[.string ⟨#[]⟩, .string ⟨#[]⟩, .string ⟨#[]⟩, .int .i64 0, .int .i64 0, .slice none 0 0]) (QaG (cs' := #[.string ⟨#[]⟩, .string ⟨#[]⟩, .string ⟨#[]⟩, .int .i64 0, .int .i64 0, .slice none 0 0]) (QaG (cs' := #[.string ⟨#[]⟩, .string ⟨#[]⟩, .string ⟨#[]⟩, .int .i64 0, .int .i64 0, .slice none 0 0]) (QaG (cs' := #[.string ⟨#[]⟩, .string ⟨#[]⟩, .string ⟨#[]⟩, .int .i64 0, .int .i64 0, .slice none 0 0]) (QaG (cs' := #[.string ⟨#[]⟩, .string ⟨#[]⟩, .string ⟨#[]⟩, .int .i64 0, .int .i64 0, .slice none 0 0]) (QaG (cs' := #[.string ⟨#[]⟩, .string ⟨#[]⟩, .string ⟨#[]⟩, .int .i64 0, .int .i64 0, .slice none 0 0]) (by repeat (first | exact HBZ.out | refine Qai ?_ _ | refine Qah ?_)) 0 (.string ⟨#[]⟩) rfl) 1 (.string ⟨#[]⟩) rfl) 2 (.string ⟨#[]⟩) rfl) 3 (.int .i64 0) rfl) 4 (.int .i64 0) rfl) 5 (.slice none 0 0) rfl) Tryz.underlying30 rfl (by kernel_rfl)) rfl ?_; refine ⟨_, rfl, Kd.R_nil _ _ _ _ _, ?_⟩; have hz := HZ.out.1; exact Qbr (Qbr (Qbr (Qbr (Qbr (Qbr (by repeat (first | exact HBW.out | apply Qaz | apply Qan)) hz) hz) hz) hz) hz) hz
    · have d : decide (k = 0) = false := decide_eq_false e
      have d1 : (k == 0) = false := beq_false_of_ne e; obtain ⟨-, hpr, rfl⟩ := HH.out.resolve_left (fun h => e h.1); rw [← hcr] at hpr
      have HC := fun W (h : Below wc.heap.size wc W) => finProof_calls g bb D x.2.2 hl5 1000 W p r (HFB.out.below h) hpr
      unfold encPair at HC; have HC := Lib.hid HC; clear e HH hpr
      go_quiet (fail)
      all_goals
        clear s2 L
        go_wp2_with (go_at_call 25; (with_reducible refine (HC.out _ (by repeat (first | exact Below.refl _ _ | apply Qaz | apply Qan))).mono ?_); rintro e w5 ⟨v5, rfl, hR5, hB5⟩; have HW5 : Below wc.heap.size wc w5 := Qad (by repeat (first | exact Below.refl _ _ | apply Qaz | apply Qan)) hB5; have BZ5 := Qac HBZ.out HW5; have HR5 := Kd.Qa7 hR5 (show wc.heap.size ≤ _ from (by repeat (first | exact Below.refl _ _ | apply Qaz | apply Qan) : Below wc.heap.size wc _).size); obtain ⟨Ar, cr, rfl⟩ := Kd.Qa2 hR5; have zf0 := Qaj BZ5 0; have zf1 := Qaj BZ5 1; have zf2 := Qaj BZ5 2; have zf3 := Qaj BZ5 3; have zf4 := Qaj BZ5 4; have zf5 := Qaj BZ5 5; have z0 : w5.cell? ⟨kzv, 0, none⟩ = some (.string ⟨#[]⟩) := (Qam BZ5 0).trans rfl; have z1 : w5.cell? ⟨kzv, 1, none⟩ = some (.string ⟨#[]⟩) := (Qam BZ5 1).trans rfl; have z2 : w5.cell? ⟨kzv, 2, none⟩ = some (.string ⟨#[]⟩) := (Qam BZ5 2).trans rfl; have z3 : w5.cell? ⟨kzv, 3, none⟩ = some (.int .i64 0) := (Qam BZ5 3).trans rfl; have z4 : w5.cell? ⟨kzv, 4, none⟩ = some (.int .i64 0) := (Qam BZ5 4).trans rfl; have z5 : w5.cell? ⟨kzv, 5, none⟩ = some (.slice none 0 0) := (Qam BZ5 5).trans rfl)
        (try simp only [Exit.inBlock, Exit.then])
        refine bodyPost_ret (results_ct rfl _ _ kzv 30 #[.string r.f0.f0, .string r.f0.f1, .string r.f1, .int .i64 r.f2.f0, .int .i64 r.f2.f1, .slice Ar r.f3.length cr] (0, 0) _ rfl (QaG (cs' := #[.string r.f0.f0, .string r.f0.f1, .string r.f1, .int .i64 r.f2.f0, .int .i64 r.f2.f1, .slice Ar r.f3.length cr]) (QaG (cs' := #[.string r.f0.f0, .string r.f0.f1, .string r.f1, .int .i64 r.f2.f0, .int .i64 r.f2.f1, .slice none 0 0]) (QaG (cs' := #[.string r.f0.f0, .string r.f0.f1, .string r.f1, .int .i64 r.f2.f0, .int .i64 0, .slice none 0 0]) (QaG (cs' := #[.string r.f0.f0, .string r.f0.f1, .string r.f1, .int .i64 0, .int .i64 0, .slice none 0 0]) (QaG (cs' := #[.string r.f0.f0, .string r.f0.f1, .string ⟨#[]⟩, .int .i64 0, .int .i64 0, .slice none 0 0]) (QaG (cs' := #[.string r.f0.f0, .string ⟨#[]⟩, .string ⟨#[]⟩, .int .i64 0, .int .i64 0, .slice none 0 0]) BZ5 0 (.string r.f0.f0) rfl) 1 (.string r.f0.f1) rfl) 2 (.string r.f1) rfl) 3 (.int .i64 r.f2.f0) rfl) 4 (.int .i64 r.f2.f1) rfl) 5 (.slice Ar r.f3.length cr) rfl) Tryz.underlying30 rfl (by kernel_rfl)) rfl ?_; have hz := HZ.out; have hwz := HVw.out.size; refine ⟨_, rfl, Kd.Qa7 (R_zproof (go := kzv) (Kd.QaL (Kd.QbT HR5) (fun k hk e => by have := hk.2.1; omega)) (by omega) ⟨r.f0, r.f1⟩ r.f2 _) HBW.out.size, ?_⟩; have hz1 := hz.1; exact Qbr (Qbr (Qbr (Qbr (Qbr (Qbr (Qad HBW.out HW5) hz1) hz1) hz1) hz1) hz1) hz1
end
section
attribute [local go_sem] QaQ QaO QaZ QaY QaJ QaI QaP QaN
def Qa4.f (l0 : List (S46)) (a1 : ByteArray) (a2_0 : ByteArray) (a2_1 : ByteArray) : Option (ByteArray × ByteArray × ByteArray × Int × Int × List (S30) × Int) := (foundF l0).bind fun x => if okPair ⟨⟨a2_0, a2_1⟩, a1⟩ then (if rnd x.2.2 ⟨⟨a2_0, a2_1⟩, a1⟩ = 0 then some (⟨#[]⟩, ⟨#[]⟩, ⟨#[]⟩, 0, 0, [], 16) else (finProof x.2.2 x.1 1000 ⟨⟨a2_0, a2_1⟩, a1⟩).map fun r => (r.f0.f0, r.f0.f1, r.f1, r.f2.f0, r.f2.f1, r.f3, 0)) else none
theorem Qa4.calls (A0 : Option Addr) (c0 : Nat) (l0 : List (S46)) (a1 : ByteArray) (a2_0 : ByteArray) (a2_1 : ByteArray) (r1 : ByteArray) (r2 : ByteArray) (r3 : ByteArray) (r4 : Int) (r5 : Int) (r6 : List (S30)) (r7 : Int) (w : World) (hr0 : Kd.C k46 w A0 l0.length l0) (hc0 : l0.length ≤ c0) (h : Qa4.f l0 a1 a2_0 a2_1 = some (r1, r2, r3, r4, r5, r6, r7)) :
    Calls Tryz.prog 8 #[.slice A0 l0.length c0, .string a1, .agg #[.string a2_0, .string a2_1]] w fun e w' => ∃ v5_ : Value, e = .returned (.tuple #[.agg #[.string r1, .string r2, .string r3, .int .i64 r4, .int .i64 r5, v5_], .int .i64 r7]) ∧ Kd.R k30 30 w' w.heap.size (fun _ => True) v5_ r6 ∧ Below w.heap.size w w' := by
  unfold Qa4.f at h; obtain ⟨x, hx, h⟩ := Option.bind_eq_some_iff.mp h
  by_cases hp : okPair ⟨⟨a2_0, a2_1⟩, a1⟩
  · rw [if_pos hp] at h
    by_cases hk : rnd x.2.2 ⟨⟨a2_0, a2_1⟩, a1⟩ = 0
    · rw [if_pos hk] at h
      simp only [Option.some.injEq, Prod.mk.injEq] at h; obtain ⟨rfl, rfl, rfl, rfl, rfl, rfl, rfl⟩ := h; exact find_walk w A0 c0 l0 a1 a2_0 a2_1 x hr0 hc0 hx hp ⟨⟨⟨#[]⟩, ⟨#[]⟩⟩, ⟨#[]⟩, ⟨0, 0⟩, []⟩ 16 (.inl ⟨hk, rfl, rfl⟩)
    · rw [if_neg hk] at h
      obtain ⟨q, hq, he⟩ := Option.map_eq_some_iff.mp h; simp only [Prod.mk.injEq] at he; obtain ⟨rfl, rfl, rfl, rfl, rfl, rfl, rfl⟩ := he; exact find_walk w A0 c0 l0 a1 a2_0 a2_1 x hr0 hc0 hx hp q 0 (.inr ⟨hk, hq, rfl⟩)
  · rw [if_neg hp] at h
    cases h

mutual
def QaC.j0 : Nat → ByteArray → Bool → Option (Bool)
 | 0, _, _ => none
 | k + 1, x0, x23 => if x23 = true then (some false) else (QaC.l0 k x0 1)
def QaC.l0 : Nat → ByteArray → Int → Option (Bool)
 | 0, _, _ => none
 | k + 1, x0, x3 => if x3 < (x0.size : Int) then (if 0 ≤ x3 then (if (bt x0 x3) ≥ 97 then (if (bt x0 x3) ≥ 48 then (if ((bt x0 x3) ≤ 122) then (QaC.l0 k x0 (wrap64 (x3 + 1))) else (if ((bt x0 x3) ≤ 57) then (QaC.l0 k x0 (wrap64 (x3 + 1))) else (some false))) else (if ((bt x0 x3) ≤ 122) then (QaC.l0 k x0 (wrap64 (x3 + 1))) else (some false))) else (if (bt x0 x3) ≥ 48 then (if ((bt x0 x3) ≤ 57) then (QaC.l0 k x0 (wrap64 (x3 + 1))) else (some false)) else (some false))) else (none)) else (some true)
end
def QaC.f (k : Nat) (a0 : ByteArray) : Option (Bool) := if (a0.size : Int) < 1 then (QaC.j0 k a0 true) else (if (a0.size : Int) > 8 then (QaC.j0 k a0 true) else (if 0 < (a0.size : Int) then (if (bt a0 0) < 97 then (QaC.j0 k a0 true) else (QaC.j0 k a0 (decide ((bt a0 0) > 122)))) else (none)))
set_option maxHeartbeats 8000000 in
set_option maxRecDepth 100000 in
theorem QaC.calls (k : Nat) (a0 : ByteArray) (r : Bool) (w : World) (h : QaC.f k a0 = some r) :
  Calls Tryz.prog 44 #[.string a0] w fun e w' => e = .returned (.bool r) ∧ Drawn0 w w' := by
 have H : (if (a0.size : Int) < 1 then (QaC.j0 k a0 true) else (if (a0.size : Int) > 8 then (QaC.j0 k a0 true) else (if 0 < (a0.size : Int) then (if (bt a0 0) < 97 then (QaC.j0 k a0 true) else (QaC.j0 k a0 (decide ((bt a0 0) > 122)))) else (none)))) = some r := h; clear h; have HC2 := Qaa.mk H; clear H; go_enter Tryz.func44, Tryz.ntmps44
 go_upto_region 1 with (fail)
 go_cut [23] (fun v23 wc => ∃ (kq : Nat) (x23_1 : Bool), v23 = .bool x23_1 ∧ Qaa (QaC.j0 kq a0 x23_1 = some r) ∧ Qaa (kq ≤ k) ∧ Drawn0 w wc)
 case first =>
  have H := HC2.out; clear HC2
  by_cases c3 : (a0.size : Int) < 1
  ·rw [if_pos c3] at H; have c3b0 : decide ((a0.size : Int) < 1) = true := decide_eq_true c3; have c3b1 : decide (a0.size < 1) = true := decide_eq_true (by omega); clear c3
   (first | rw [c3b0] | (simp only [Qbt, Qbw]; rw [c3b0]) | skip)
   have H' := Qaa.mk H; clear H; go_wp2
   go_meet
   case rel => exact ⟨_, (true), (by first | rfl | (simp; done) | (simp [*]; done)), H', ⟨by first | omega | exact Nat.le_refl _⟩, by repeat (first | exact Drawn0.refl _ | apply Drawn0.step)⟩
  ·rw [if_neg c3] at H; have c3b0 : decide ((a0.size : Int) < 1) = false := decide_eq_false c3; have c3b1 : decide (a0.size < 1) = false := decide_eq_false (by omega); clear c3
   (first | rw [c3b0] | (simp only [Qbt, Qbw]; rw [c3b0]) | skip)
   by_cases c4 : (a0.size : Int) > 8
   ·rw [if_pos c4] at H; have c4b0 : decide (8 < (a0.size : Int)) = true := decide_eq_true c4; have c4b1 : decide (8 < a0.size) = true := decide_eq_true (by omega); clear c4; have H' := Qaa.mk H; clear H; go_wp2
    go_meet
    case rel => exact ⟨_, (true), (by first | rfl | (simp; done) | (simp [*]; done)), H', ⟨by first | omega | exact Nat.le_refl _⟩, by repeat (first | exact Drawn0.refl _ | apply Drawn0.step)⟩
   ·rw [if_neg c4] at H; have c4b0 : decide (8 < (a0.size : Int)) = false := decide_eq_false c4; have c4b1 : decide (8 < a0.size) = false := decide_eq_false (by omega); clear c4
    by_cases c5 : 0 < (a0.size : Int)
    ·rw [if_pos c5] at H; have c5b0 : decide (0 < (a0.size : Int)) = true := decide_eq_true c5; have c5b1 : decide (0 < a0.size) = true := decide_eq_true (by omega); clear c5
     by_cases c7 : (bt a0 0) < 97
     ·rw [if_pos c7] at H; have c7b0 : decide ((bt a0 0) < 97) = true := decide_eq_true c7; clear c7; have H' := Qaa.mk H; clear H
      have p6 : 0 ≤ (0 : Int) := (by omega)
      have q6 : 0 < a0.size := (by have : (0 : Int) < (a0.size : Int) := dd_; omega)
      have hx6 : ∀ h : 0 < a0.size, ((a0[0]'h).toNat : Int) = bt a0 0 := QbS a0 0; clear p6; have qi6 : (0 < (a0.size : Int)) = True := eq_true (dd_); replace q6 := eq_true q6; go_wp2
      go_meet
      case rel => exact ⟨_, (true), (by first | rfl | (simp; done) | (simp [*]; done)), H', ⟨by first | omega | exact Nat.le_refl _⟩, by repeat (first | exact Drawn0.refl _ | apply Drawn0.step)⟩
     ·rw [if_neg c7] at H; have c7b0 : decide ((bt a0 0) < 97) = false := decide_eq_false c7; clear c7; have H' := Qaa.mk H; clear H
      have p6 : 0 ≤ (0 : Int) := (by omega)
      have q6 : 0 < a0.size := (by have : (0 : Int) < (a0.size : Int) := dd_; omega)
      have hx6 : ∀ h : 0 < a0.size, ((a0[0]'h).toNat : Int) = bt a0 0 := QbS a0 0; clear p6; have qi6 : (0 < (a0.size : Int)) = True := eq_true (dd_); replace q6 := eq_true q6
      have p8 : 0 ≤ (0 : Int) := (by omega)
      have q8 : 0 < a0.size := (by have : (0 : Int) < (a0.size : Int) := dd_; omega)
      have hx8 : ∀ h : 0 < a0.size, ((a0[0]'h).toNat : Int) = bt a0 0 := QbS a0 0; clear p8; have qi8 : (0 < (a0.size : Int)) = True := eq_true (dd_); replace q8 := eq_true q8; go_wp2
      go_meet
      case rel => exact ⟨_, (decide ((bt a0 0) > 122)), (by first | rfl | (simp; done) | (simp [*]; done)), H', ⟨by first | omega | exact Nat.le_refl _⟩, by repeat (first | exact Drawn0.refl _ | apply Drawn0.step)⟩
    ·rw [if_neg c5] at H; exact absurd H (by simp)
 case rest =>
  clear HC2; (try clear p2); (try clear c3); (try clear c3b0); (try clear c3b1); (try clear c4); (try clear c4b0); (try clear c4b1); (try clear c5); (try clear c5b0); (try clear c5b1); (try clear p6); (try clear q6); (try clear hx6); (try clear qi6); (try clear c7); (try clear c7b0); (try clear p8); (try clear q8); (try clear hx8); (try clear qi8); (try clear p6); (try clear p8); (try clear q6); (try clear q8); obtain ⟨kq, x23_1, rfl, HA, HJ1, ⟨mc1, rfl⟩⟩ := hcut
  cases kq with
  | zero => exact absurd HA.out (by simp [QaC.j0])
  | succ kj1 =>
   have H := HA.out; clear HA; simp only [QaC.j0] at H
   by_cases c9 : x23_1 = true
   ·subst c9
    have H1 : (some false) = some r := by rw [if_pos rfl] at H; exact H
    clear H; have H := H1; clear H1; obtain rfl := Option.some.inj H; go_wp2; go_ret; exact ⟨by first | rfl | (simp; done) | (simp [*]; done), by repeat (first | exact Drawn0.refl _ | apply Drawn0.step)⟩
   ·replace c9 := Bool.eq_false_iff.mpr c9; subst c9
    have H1 : (QaC.l0 kj1 a0 1) = some r := by rw [if_neg (show ¬ (false = true) by decide)] at H; exact H
    clear H; have H := H1; clear H1; have H' := Qaa.mk H; clear H; go_wp2
    go_loopg [3] kj1 (fun kq v3 w' => ∃ (x3_2 : Int), v3 = .int .i64 x3_2 ∧ Qaa (QaC.l0 kq a0 x3_2 = some r) ∧ Qaa (kq ≤ kj1) ∧ Drawn0 w w')
    case atStart => exact ⟨(1), (by first | rfl | (simp; done) | (simp [*]; done)), H', ⟨Nat.le_refl _⟩, by repeat (first | exact Drawn0.refl _ | apply Drawn0.step)⟩
    case round =>
     clear H'; (try clear c1); (try clear p2); (try clear c3); (try clear c3b0); (try clear c3b1); (try clear c4); (try clear c4b0); (try clear c4b1); (try clear c5); (try clear c5b0); (try clear c5b1); (try clear p6); (try clear q6); (try clear hx6); (try clear qi6); (try clear c7); (try clear c7b0); (try clear p8); (try clear q8); (try clear hx8); (try clear qi8); (try clear c9); (try clear p2); (try clear p6); (try clear p8); (try clear q6); (try clear q8); obtain ⟨x3_2, rfl, HA, HK2, ⟨m2, rfl⟩⟩ := hrel
     cases gk with
     | zero => exact absurd HA.out (by simp [QaC.l0])
     | succ k2 =>
      have H := HA.out; clear HA; simp only [QaC.l0] at H
      by_cases c10 : x3_2 < (a0.size : Int)
      ·rw [if_pos c10] at H; have c10b0 : decide (x3_2 < (a0.size : Int)) = true := decide_eq_true c10; clear c10
       by_cases c11 : 0 ≤ x3_2
       ·rw [if_pos c11] at H; have c11b0 : decide (0 ≤ x3_2) = true := decide_eq_true c11; clear c11
        by_cases c13 : (bt a0 x3_2) ≥ 97
        ·rw [if_pos c13] at H; have c13b0 : decide (97 ≤ (bt a0 x3_2)) = true := decide_eq_true c13; clear c13
         by_cases c16 : (bt a0 x3_2) ≥ 48
         ·rw [if_pos c16] at H; have c16b0 : decide (48 ≤ (bt a0 x3_2)) = true := decide_eq_true c16; clear c16
          by_cases c18 : ((bt a0 x3_2) ≤ 122)
          ·rw [if_pos c18] at H; have c18b0 : decide ((bt a0 x3_2) ≤ 122) = true := decide_eq_true c18; clear c18; have H' := Qaa.mk H; clear H; have p12 : 0 ≤ (x3_2 : Int) := dd_; have q12 : x3_2 < (a0.size : Int) := dd_; have hx12 := QbS a0 x3_2; replace p12 := eq_true p12; replace q12 := eq_true q12; have p14 : 0 ≤ (x3_2 : Int) := dd_; have q14 : x3_2 < (a0.size : Int) := dd_; have hx14 := QbS a0 x3_2; replace p14 := eq_true p14; replace q14 := eq_true q14; have p15 : 0 ≤ (x3_2 : Int) := dd_; have q15 : x3_2 < (a0.size : Int) := dd_; have hx15 := QbS a0 x3_2; replace p15 := eq_true p15; replace q15 := eq_true q15; have p17 : 0 ≤ (x3_2 : Int) := dd_; have q17 : x3_2 < (a0.size : Int) := dd_; have hx17 := QbS a0 x3_2; replace p17 := eq_true p17; replace q17 := eq_true q17; go_wp2
           go_roundg k2
           case measure => have := HJ1.out; have := HK2.out; omega
           case rel => exact ⟨(wrap64 (x3_2 + 1)), (by first | rfl | (simp; done) | (simp [*]; done)), H', ⟨by have := HJ1.out; have := HK2.out; omega⟩, by repeat (first | exact Drawn0.refl _ | apply Drawn0.step)⟩
          ·rw [if_neg c18] at H; have c18b0 : decide ((bt a0 x3_2) ≤ 122) = false := decide_eq_false c18; clear c18
           by_cases c19 : ((bt a0 x3_2) ≤ 57)
           ·rw [if_pos c19] at H; have c19b0 : decide ((bt a0 x3_2) ≤ 57) = true := decide_eq_true c19; clear c19; have H' := Qaa.mk H; clear H; have p12 : 0 ≤ (x3_2 : Int) := dd_; have q12 : x3_2 < (a0.size : Int) := dd_; have hx12 := QbS a0 x3_2; replace p12 := eq_true p12; replace q12 := eq_true q12; have p14 : 0 ≤ (x3_2 : Int) := dd_; have q14 : x3_2 < (a0.size : Int) := dd_; have hx14 := QbS a0 x3_2; replace p14 := eq_true p14; replace q14 := eq_true q14; have p15 : 0 ≤ (x3_2 : Int) := dd_; have q15 : x3_2 < (a0.size : Int) := dd_; have hx15 := QbS a0 x3_2; replace p15 := eq_true p15; replace q15 := eq_true q15; have p17 : 0 ≤ (x3_2 : Int) := dd_; have q17 : x3_2 < (a0.size : Int) := dd_; have hx17 := QbS a0 x3_2; replace p17 := eq_true p17; replace q17 := eq_true q17; go_wp2
            go_roundg k2
            case measure => have := HJ1.out; have := HK2.out; omega
            case rel => exact ⟨(wrap64 (x3_2 + 1)), (by first | rfl | (simp; done) | (simp [*]; done)), H', ⟨by have := HJ1.out; have := HK2.out; omega⟩, by repeat (first | exact Drawn0.refl _ | apply Drawn0.step)⟩
           ·rw [if_neg c19] at H; have c19b0 : decide ((bt a0 x3_2) ≤ 57) = false := decide_eq_false c19; clear c19; obtain rfl := Option.some.inj H; have p12 : 0 ≤ (x3_2 : Int) := dd_; have q12 : x3_2 < (a0.size : Int) := dd_; have hx12 := QbS a0 x3_2; replace p12 := eq_true p12; replace q12 := eq_true q12; have p14 : 0 ≤ (x3_2 : Int) := dd_; have q14 : x3_2 < (a0.size : Int) := dd_; have hx14 := QbS a0 x3_2; replace p14 := eq_true p14; replace q14 := eq_true q14; have p15 : 0 ≤ (x3_2 : Int) := dd_; have q15 : x3_2 < (a0.size : Int) := dd_; have hx15 := QbS a0 x3_2; replace p15 := eq_true p15; replace q15 := eq_true q15; have p17 : 0 ≤ (x3_2 : Int) := dd_; have q17 : x3_2 < (a0.size : Int) := dd_; have hx17 := QbS a0 x3_2; replace p17 := eq_true p17; replace q17 := eq_true q17; go_wp2; go_ret; exact ⟨by first | rfl | (simp; done) | (simp [*]; done), by repeat (first | exact Drawn0.refl _ | apply Drawn0.step)⟩
         ·rw [if_neg c16] at H; have c16b0 : decide (48 ≤ (bt a0 x3_2)) = false := decide_eq_false c16; clear c16
          by_cases c20 : ((bt a0 x3_2) ≤ 122)
          ·rw [if_pos c20] at H; have c20b0 : decide ((bt a0 x3_2) ≤ 122) = true := decide_eq_true c20; clear c20; have H' := Qaa.mk H; clear H; have p12 : 0 ≤ (x3_2 : Int) := dd_; have q12 : x3_2 < (a0.size : Int) := dd_; have hx12 := QbS a0 x3_2; replace p12 := eq_true p12; replace q12 := eq_true q12; have p14 : 0 ≤ (x3_2 : Int) := dd_; have q14 : x3_2 < (a0.size : Int) := dd_; have hx14 := QbS a0 x3_2; replace p14 := eq_true p14; replace q14 := eq_true q14; have p15 : 0 ≤ (x3_2 : Int) := dd_; have q15 : x3_2 < (a0.size : Int) := dd_; have hx15 := QbS a0 x3_2; replace p15 := eq_true p15; replace q15 := eq_true q15; go_wp2
           go_roundg k2
           case measure => have := HJ1.out; have := HK2.out; omega
           case rel => exact ⟨(wrap64 (x3_2 + 1)), (by first | rfl | (simp; done) | (simp [*]; done)), H', ⟨by have := HJ1.out; have := HK2.out; omega⟩, by repeat (first | exact Drawn0.refl _ | apply Drawn0.step)⟩
          ·rw [if_neg c20] at H; have c20b0 : decide ((bt a0 x3_2) ≤ 122) = false := decide_eq_false c20; clear c20; obtain rfl := Option.some.inj H; have p12 : 0 ≤ (x3_2 : Int) := dd_; have q12 : x3_2 < (a0.size : Int) := dd_; have hx12 := QbS a0 x3_2; replace p12 := eq_true p12; replace q12 := eq_true q12; have p14 : 0 ≤ (x3_2 : Int) := dd_; have q14 : x3_2 < (a0.size : Int) := dd_; have hx14 := QbS a0 x3_2; replace p14 := eq_true p14; replace q14 := eq_true q14; have p15 : 0 ≤ (x3_2 : Int) := dd_; have q15 : x3_2 < (a0.size : Int) := dd_; have hx15 := QbS a0 x3_2; replace p15 := eq_true p15; replace q15 := eq_true q15; go_wp2; go_ret; exact ⟨by first | rfl | (simp; done) | (simp [*]; done), by repeat (first | exact Drawn0.refl _ | apply Drawn0.step)⟩
        ·rw [if_neg c13] at H; have c13b0 : decide (97 ≤ (bt a0 x3_2)) = false := decide_eq_false c13; clear c13
         by_cases c22 : (bt a0 x3_2) ≥ 48
         ·rw [if_pos c22] at H; have c22b0 : decide (48 ≤ (bt a0 x3_2)) = true := decide_eq_true c22; clear c22
          by_cases c24 : ((bt a0 x3_2) ≤ 57)
          ·rw [if_pos c24] at H; have c24b0 : decide ((bt a0 x3_2) ≤ 57) = true := decide_eq_true c24; clear c24; have H' := Qaa.mk H; clear H; have p12 : 0 ≤ (x3_2 : Int) := dd_; have q12 : x3_2 < (a0.size : Int) := dd_; have hx12 := QbS a0 x3_2; replace p12 := eq_true p12; replace q12 := eq_true q12; have p21 : 0 ≤ (x3_2 : Int) := dd_; have q21 : x3_2 < (a0.size : Int) := dd_; have hx21 := QbS a0 x3_2; replace p21 := eq_true p21; replace q21 := eq_true q21; have p23 : 0 ≤ (x3_2 : Int) := dd_; have q23 : x3_2 < (a0.size : Int) := dd_; have hx23 := QbS a0 x3_2; replace p23 := eq_true p23; replace q23 := eq_true q23; go_wp2
           go_roundg k2
           case measure => have := HJ1.out; have := HK2.out; omega
           case rel => exact ⟨(wrap64 (x3_2 + 1)), (by first | rfl | (simp; done) | (simp [*]; done)), H', ⟨by have := HJ1.out; have := HK2.out; omega⟩, by repeat (first | exact Drawn0.refl _ | apply Drawn0.step)⟩
          ·rw [if_neg c24] at H; have c24b0 : decide ((bt a0 x3_2) ≤ 57) = false := decide_eq_false c24; clear c24; obtain rfl := Option.some.inj H; have p12 : 0 ≤ (x3_2 : Int) := dd_; have q12 : x3_2 < (a0.size : Int) := dd_; have hx12 := QbS a0 x3_2; replace p12 := eq_true p12; replace q12 := eq_true q12; have p21 : 0 ≤ (x3_2 : Int) := dd_; have q21 : x3_2 < (a0.size : Int) := dd_; have hx21 := QbS a0 x3_2; replace p21 := eq_true p21; replace q21 := eq_true q21; have p23 : 0 ≤ (x3_2 : Int) := dd_; have q23 : x3_2 < (a0.size : Int) := dd_; have hx23 := QbS a0 x3_2; replace p23 := eq_true p23; replace q23 := eq_true q23; go_wp2; go_ret; exact ⟨by first | rfl | (simp; done) | (simp [*]; done), by repeat (first | exact Drawn0.refl _ | apply Drawn0.step)⟩
         ·rw [if_neg c22] at H; have c22b0 : decide (48 ≤ (bt a0 x3_2)) = false := decide_eq_false c22; clear c22; obtain rfl := Option.some.inj H; have p12 : 0 ≤ (x3_2 : Int) := dd_; have q12 : x3_2 < (a0.size : Int) := dd_; have hx12 := QbS a0 x3_2; replace p12 := eq_true p12; replace q12 := eq_true q12; have p21 : 0 ≤ (x3_2 : Int) := dd_; have q21 : x3_2 < (a0.size : Int) := dd_; have hx21 := QbS a0 x3_2; replace p21 := eq_true p21; replace q21 := eq_true q21; go_wp2; go_ret; exact ⟨by first | rfl | (simp; done) | (simp [*]; done), by repeat (first | exact Drawn0.refl _ | apply Drawn0.step)⟩
       ·rw [if_neg c11] at H; exact absurd H (by simp)
      ·rw [if_neg c10] at H; have c10b0 : decide (x3_2 < (a0.size : Int)) = false := decide_eq_false c10; clear c10; obtain rfl := Option.some.inj H; go_wp2; go_ret; exact ⟨by first | rfl | (simp; done) | (simp [*]; done), by repeat (first | exact Drawn0.refl _ | apply Drawn0.step)⟩

mutual
def Qar.j0 : Nat → ByteArray → Bool → Option (Int)
 | 0, _, _ => none
 | k + 1, x0, x26 => if x26 = true then (some 0) else (if 1 < (x0.size : Int) then (if (x0.size : Int) = 3 then (if 2 < (x0.size : Int) then (if (bt x0 2) < 48 then (Qar.j1 k x0 (((bt x0 1) - 48) % 256) true) else (Qar.j1 k x0 (((bt x0 1) - 48) % 256) (decide ((bt x0 2) > 57)))) else (none)) else (if (((bt x0 1) - 48) % 256) > 16 then (some 0) else (some (((bt x0 1) - 48) % 256)))) else (none))
def Qar.j1 : Nat → ByteArray → Int → Bool → Option (Int)
 | 0, _, _, _ => none
 | k + 1, x0, x3, x41 => if x41 = true then (some 0) else (if 2 < (x0.size : Int) then (if (((10 * x3) + (((bt x0 2) - 48) % 256))) > 16 then (some 0) else (some (((10 * x3) + (((bt x0 2) - 48) % 256))))) else (none))
end
def Qar.f (k : Nat) (a0 : ByteArray) : Option (Int) := if (a0.size : Int) < 2 then (Qar.j0 k a0 true) else (if (a0.size : Int) > 3 then (Qar.j0 k a0 true) else (if 0 < (a0.size : Int) then (if (bt a0 0) = 100 then (if 1 < (a0.size : Int) then (if (bt a0 1) < 49 then (Qar.j0 k a0 true) else (Qar.j0 k a0 (decide ((bt a0 1) > 57)))) else (none)) else (Qar.j0 k a0 true)) else (none)))
set_option maxHeartbeats 8000000 in
set_option maxRecDepth 100000 in
theorem Qar.calls (k : Nat) (a0 : ByteArray) (r : Int) (w : World) (h : Qar.f k a0 = some r) :
  Calls Tryz.prog 48 #[.string a0] w fun e w' => e = .returned (.int .i64 r) ∧ Drawn0 w w' := by
 have H : (if (a0.size : Int) < 2 then (Qar.j0 k a0 true) else (if (a0.size : Int) > 3 then (Qar.j0 k a0 true) else (if 0 < (a0.size : Int) then (if (bt a0 0) = 100 then (if 1 < (a0.size : Int) then (if (bt a0 1) < 49 then (Qar.j0 k a0 true) else (Qar.j0 k a0 (decide ((bt a0 1) > 57)))) else (none)) else (Qar.j0 k a0 true)) else (none)))) = some r := h; clear h; have HC2 := Qaa.mk H; clear H; go_enter Tryz.func48, Tryz.ntmps48
 go_upto_region 1 with (fail)
 go_cut [26] (fun v26 wc => ∃ (kq : Nat) (x26_1 : Bool), v26 = .bool x26_1 ∧ Qaa (Qar.j0 kq a0 x26_1 = some r) ∧ Qaa (kq ≤ k) ∧ Drawn0 w wc)
 case first =>
  have H := HC2.out; clear HC2
  by_cases c3 : (a0.size : Int) < 2
  ·rw [if_pos c3] at H; have c3b0 : decide ((a0.size : Int) < 2) = true := decide_eq_true c3; have c3b1 : decide (a0.size < 2) = true := decide_eq_true (by omega); clear c3
   (first | rw [c3b0] | (simp only [Qbt, Qbw]; rw [c3b0]) | skip)
   have H' := Qaa.mk H; clear H; go_wp2
   go_meet
   case rel => exact ⟨_, (true), (by first | rfl | (simp; done) | (simp [*]; done)), H', ⟨by first | omega | exact Nat.le_refl _⟩, by repeat (first | exact Drawn0.refl _ | apply Drawn0.step)⟩
  ·rw [if_neg c3] at H; have c3b0 : decide ((a0.size : Int) < 2) = false := decide_eq_false c3; have c3b1 : decide (a0.size < 2) = false := decide_eq_false (by omega); clear c3
   (first | rw [c3b0] | (simp only [Qbt, Qbw]; rw [c3b0]) | skip)
   by_cases c4 : (a0.size : Int) > 3
   ·rw [if_pos c4] at H; have c4b0 : decide (3 < (a0.size : Int)) = true := decide_eq_true c4; have c4b1 : decide (3 < a0.size) = true := decide_eq_true (by omega); clear c4; have H' := Qaa.mk H; clear H; go_wp2
    go_meet
    case rel => exact ⟨_, (true), (by first | rfl | (simp; done) | (simp [*]; done)), H', ⟨by first | omega | exact Nat.le_refl _⟩, by repeat (first | exact Drawn0.refl _ | apply Drawn0.step)⟩
   ·rw [if_neg c4] at H; have c4b0 : decide (3 < (a0.size : Int)) = false := decide_eq_false c4; have c4b1 : decide (3 < a0.size) = false := decide_eq_false (by omega); clear c4
    by_cases c5 : 0 < (a0.size : Int)
    ·rw [if_pos c5] at H; have c5b0 : decide (0 < (a0.size : Int)) = true := decide_eq_true c5; have c5b1 : decide (0 < a0.size) = true := decide_eq_true (by omega); clear c5
     by_cases c7 : (bt a0 0) = 100
     ·rw [if_pos c7] at H; have c7b0 : ((bt a0 0) == 100) = true := beq_iff_eq.mpr c7; have c7b1 : ((bt a0 0) != 100) = false := bne_eq_false_iff_eq.mpr c7; clear c7
      by_cases c8 : 1 < (a0.size : Int)
      ·rw [if_pos c8] at H; have c8b0 : decide (1 < (a0.size : Int)) = true := decide_eq_true c8; have c8b1 : decide (1 < a0.size) = true := decide_eq_true (by omega); clear c8
       by_cases c10 : (bt a0 1) < 49
       ·rw [if_pos c10] at H; have c10b0 : decide ((bt a0 1) < 49) = true := decide_eq_true c10; clear c10; have H' := Qaa.mk H; clear H
        have p6 : 0 ≤ (0 : Int) := (by omega)
        have q6 : 0 < a0.size := (by have : (0 : Int) < (a0.size : Int) := dd_; omega)
        have hx6 : ∀ h : 0 < a0.size, ((a0[0]'h).toNat : Int) = bt a0 0 := QbS a0 0; clear p6; have qi6 : (0 < (a0.size : Int)) = True := eq_true (dd_); replace q6 := eq_true q6
        have p9 : 0 ≤ (1 : Int) := (by omega)
        have q9 : 1 < a0.size := (by have : (1 : Int) < (a0.size : Int) := dd_; omega)
        have hx9 : ∀ h : 1 < a0.size, ((a0[1]'h).toNat : Int) = bt a0 1 := QbS a0 1; clear p9; have qi9 : (1 < (a0.size : Int)) = True := eq_true (dd_); replace q9 := eq_true q9; go_wp2
        go_meet
        case rel => exact ⟨_, (true), (by first | rfl | (simp; done) | (simp [*]; done)), H', ⟨by first | omega | exact Nat.le_refl _⟩, by repeat (first | exact Drawn0.refl _ | apply Drawn0.step)⟩
       ·rw [if_neg c10] at H; have c10b0 : decide ((bt a0 1) < 49) = false := decide_eq_false c10; clear c10; have H' := Qaa.mk H; clear H
        have p6 : 0 ≤ (0 : Int) := (by omega)
        have q6 : 0 < a0.size := (by have : (0 : Int) < (a0.size : Int) := dd_; omega)
        have hx6 : ∀ h : 0 < a0.size, ((a0[0]'h).toNat : Int) = bt a0 0 := QbS a0 0; clear p6; have qi6 : (0 < (a0.size : Int)) = True := eq_true (dd_); replace q6 := eq_true q6
        have p9 : 0 ≤ (1 : Int) := (by omega)
        have q9 : 1 < a0.size := (by have : (1 : Int) < (a0.size : Int) := dd_; omega)
        have hx9 : ∀ h : 1 < a0.size, ((a0[1]'h).toNat : Int) = bt a0 1 := QbS a0 1; clear p9; have qi9 : (1 < (a0.size : Int)) = True := eq_true (dd_); replace q9 := eq_true q9
        have p11 : 0 ≤ (1 : Int) := (by omega)
        have q11 : 1 < a0.size := (by have : (1 : Int) < (a0.size : Int) := dd_; omega)
        have hx11 : ∀ h : 1 < a0.size, ((a0[1]'h).toNat : Int) = bt a0 1 := QbS a0 1; clear p11; have qi11 : (1 < (a0.size : Int)) = True := eq_true (dd_); replace q11 := eq_true q11; go_wp2
        go_meet
        case rel => exact ⟨_, (decide ((bt a0 1) > 57)), (by first | rfl | (simp; done) | (simp [*]; done)), H', ⟨by first | omega | exact Nat.le_refl _⟩, by repeat (first | exact Drawn0.refl _ | apply Drawn0.step)⟩
      ·rw [if_neg c8] at H; exact absurd H (by simp)
     ·rw [if_neg c7] at H; have c7b0 : ((bt a0 0) == 100) = false := beq_eq_false_iff_ne.mpr c7; have c7b1 : ((bt a0 0) != 100) = true := bne_iff_ne.mpr c7; have H' := Qaa.mk H; clear H
      have p6 : 0 ≤ (0 : Int) := (by omega)
      have q6 : 0 < a0.size := (by have : (0 : Int) < (a0.size : Int) := dd_; omega)
      have hx6 : ∀ h : 0 < a0.size, ((a0[0]'h).toNat : Int) = bt a0 0 := QbS a0 0; clear p6; have qi6 : (0 < (a0.size : Int)) = True := eq_true (dd_); replace q6 := eq_true q6; go_wp2
      go_meet
      case rel => exact ⟨_, (true), (by first | rfl | (simp; done) | (simp [*]; done)), H', ⟨by first | omega | exact Nat.le_refl _⟩, by repeat (first | exact Drawn0.refl _ | apply Drawn0.step)⟩
    ·rw [if_neg c5] at H; exact absurd H (by simp)
 case rest =>
  clear HC2; (try clear c1); (try clear p1); (try clear q1); (try clear hx1); (try clear qi1); (try clear p2); (try clear c3); (try clear c3b0); (try clear c3b1); (try clear c4); (try clear c4b0); (try clear c4b1); (try clear c5); (try clear c5b0); (try clear c5b1); (try clear p6); (try clear q6); (try clear hx6); (try clear qi6); (try clear c7); (try clear c7b0); (try clear c7b1); (try clear c8); (try clear c8b0); (try clear c8b1); (try clear p9); (try clear q9); (try clear hx9); (try clear qi9); (try clear c10); (try clear c10b0); (try clear p11); (try clear q11); (try clear hx11); (try clear qi11); (try clear p11); (try clear p6); (try clear p9); (try clear q11); (try clear q6); (try clear q9); obtain ⟨kq, x26_1, rfl, HA, HJ1, ⟨mc1, rfl⟩⟩ := hcut
  cases kq with
  | zero => exact absurd HA.out (by simp [Qar.j0])
  | succ kj1 =>
   have H := HA.out; clear HA; simp only [Qar.j0] at H
   by_cases c12 : x26_1 = true
   ·subst c12
    have H1 : (some 0) = some r := by rw [if_pos rfl] at H; exact H
    clear H; have H := H1; clear H1; obtain rfl := Option.some.inj H; go_wp2; go_ret; exact ⟨by first | rfl | (simp; done) | (simp [*]; done), by repeat (first | exact Drawn0.refl _ | apply Drawn0.step)⟩
   ·replace c12 := Bool.eq_false_iff.mpr c12; subst c12
    have H1 : (if 1 < (a0.size : Int) then (if (a0.size : Int) = 3 then (if 2 < (a0.size : Int) then (if (bt a0 2) < 48 then (Qar.j1 kj1 a0 (((bt a0 1) - 48) % 256) true) else (Qar.j1 kj1 a0 (((bt a0 1) - 48) % 256) (decide ((bt a0 2) > 57)))) else (none)) else (if (((bt a0 1) - 48) % 256) > 16 then (some 0) else (some (((bt a0 1) - 48) % 256)))) else (none)) = some r := by rw [if_neg (show ¬ (false = true) by decide)] at H; exact H
    clear H; have H := H1; clear H1
    by_cases c13 : 1 < (a0.size : Int)
    ·rw [if_pos c13] at H; have c13b0 : decide (1 < (a0.size : Int)) = true := decide_eq_true c13; have c13b1 : decide (1 < a0.size) = true := decide_eq_true (by omega); clear c13
     by_cases c15 : (a0.size : Int) = 3
     ·rw [if_pos c15] at H; have c15b0 : ((a0.size : Int) == 3) = true := beq_iff_eq.mpr c15; have c15b1 : ((a0.size : Int) != 3) = false := bne_eq_false_iff_eq.mpr c15; clear c15; have HC16 := Qaa.mk H; clear H
      have p14 : 0 ≤ (1 : Int) := (by omega)
      have q14 : 1 < a0.size := (by have : (1 : Int) < (a0.size : Int) := dd_; omega)
      have hx14 : ∀ h : 1 < a0.size, ((a0[1]'h).toNat : Int) = bt a0 1 := QbS a0 1; clear p14; have qi14 : (1 < (a0.size : Int)) = True := eq_true (dd_); replace q14 := eq_true q14
      go_upto_region 5 with (fail)
      go_cut [41] (fun v41 wc => ∃ (kq : Nat) (x41_15 : Bool), v41 = .bool x41_15 ∧ Qaa (Qar.j1 kq a0 (((bt a0 1) - 48) % 256) x41_15 = some r) ∧ Qaa (kq ≤ kj1) ∧ Drawn0 w wc)
      case first =>
       have H := HC16.out; clear HC16
       by_cases c17 : 2 < (a0.size : Int)
       ·rw [if_pos c17] at H; have c17b0 : decide (2 < (a0.size : Int)) = true := decide_eq_true c17; have c17b1 : decide (2 < a0.size) = true := decide_eq_true (by omega); clear c17
        (first | rw [c17b0] | (simp only [Qbt, Qbw]; rw [c17b0]) | skip)
        by_cases c19 : (bt a0 2) < 48
        ·rw [if_pos c19] at H; have c19b0 : decide ((bt a0 2) < 48) = true := decide_eq_true c19; clear c19; have H' := Qaa.mk H; clear H
         have p18 : 0 ≤ (2 : Int) := (by omega)
         have q18 : 2 < a0.size := (by have : (2 : Int) < (a0.size : Int) := dd_; omega)
         have hx18 : ∀ h : 2 < a0.size, ((a0[2]'h).toNat : Int) = bt a0 2 := QbS a0 2; clear p18; have qi18 : (2 < (a0.size : Int)) = True := eq_true (dd_); replace q18 := eq_true q18; go_wp2
         go_meet
         case rel => exact ⟨_, (true), (by first | rfl | (simp; done) | (simp [*]; done)), H', ⟨by have := HJ1.out; first | omega | exact Nat.le_refl _⟩, by repeat (first | exact Drawn0.refl _ | apply Drawn0.step)⟩
        ·rw [if_neg c19] at H; have c19b0 : decide ((bt a0 2) < 48) = false := decide_eq_false c19; clear c19; have H' := Qaa.mk H; clear H
         have p18 : 0 ≤ (2 : Int) := (by omega)
         have q18 : 2 < a0.size := (by have : (2 : Int) < (a0.size : Int) := dd_; omega)
         have hx18 : ∀ h : 2 < a0.size, ((a0[2]'h).toNat : Int) = bt a0 2 := QbS a0 2; clear p18; have qi18 : (2 < (a0.size : Int)) = True := eq_true (dd_); replace q18 := eq_true q18
         have p20 : 0 ≤ (2 : Int) := (by omega)
         have q20 : 2 < a0.size := (by have : (2 : Int) < (a0.size : Int) := dd_; omega)
         have hx20 : ∀ h : 2 < a0.size, ((a0[2]'h).toNat : Int) = bt a0 2 := QbS a0 2; clear p20; have qi20 : (2 < (a0.size : Int)) = True := eq_true (dd_); replace q20 := eq_true q20; go_wp2
         go_meet
         case rel => exact ⟨_, (decide ((bt a0 2) > 57)), (by first | rfl | (simp; done) | (simp [*]; done)), H', ⟨by have := HJ1.out; first | omega | exact Nat.le_refl _⟩, by repeat (first | exact Drawn0.refl _ | apply Drawn0.step)⟩
       ·rw [if_neg c17] at H; exact absurd H (by simp)
      case rest =>
       clear HC16; (try clear c1); (try clear p1); (try clear q1); (try clear hx1); (try clear qi1); (try clear p2); (try clear q2); (try clear hx2); (try clear qi2); (try clear c3); (try clear c3b0); (try clear c3b1); (try clear c4); (try clear c4b0); (try clear c4b1); (try clear c5); (try clear c5b0); (try clear c5b1); (try clear p6); (try clear q6); (try clear hx6); (try clear qi6); (try clear c7); (try clear c7b0); (try clear c7b1); (try clear c8); (try clear c8b0); (try clear c8b1); (try clear p9); (try clear q9); (try clear hx9); (try clear qi9); (try clear c10); (try clear c10b0); (try clear p11); (try clear q11); (try clear hx11); (try clear qi11); (try clear c12); (try clear c13); (try clear c13b0); (try clear c13b1); (try clear p14); (try clear q14); (try clear hx14); (try clear qi14); (try clear c15); (try clear c15b0); (try clear c15b1); (try clear c17); (try clear c17b0); (try clear c17b1); (try clear p18); (try clear q18); (try clear hx18); (try clear qi18); (try clear c19); (try clear c19b0); (try clear p20); (try clear q20); (try clear hx20); (try clear qi20); (try clear p1); (try clear p11); (try clear p14); (try clear p18); (try clear p2); (try clear p20); (try clear p6); (try clear p9); (try clear q1); (try clear q11); (try clear q14); (try clear q18); (try clear q20); (try clear q6); (try clear q9); obtain ⟨kq, x41_15, rfl, HA, HJ15, ⟨mc15, rfl⟩⟩ := hcut
       cases kq with
       | zero => exact absurd HA.out (by simp [Qar.j1])
       | succ kj15 =>
        have H := HA.out; clear HA; simp only [Qar.j1] at H
        by_cases c21 : x41_15 = true
        ·subst c21
         have H1 : (some 0) = some r := by rw [if_pos rfl] at H; exact H
         clear H; have H := H1; clear H1; obtain rfl := Option.some.inj H; go_wp2; go_ret; exact ⟨by first | rfl | (simp; done) | (simp [*]; done), by repeat (first | exact Drawn0.refl _ | apply Drawn0.step)⟩
        ·replace c21 := Bool.eq_false_iff.mpr c21; subst c21
         have H1 : (if 2 < (a0.size : Int) then (if (((10 * (((bt a0 1) - 48) % 256)) + (((bt a0 2) - 48) % 256))) > 16 then (some 0) else (some (((10 * (((bt a0 1) - 48) % 256)) + (((bt a0 2) - 48) % 256))))) else (none)) = some r := by rw [if_neg (show ¬ (false = true) by decide)] at H; exact H
         clear H; have H := H1; clear H1
         by_cases c22 : 2 < (a0.size : Int)
         ·rw [if_pos c22] at H; have c22b0 : decide (2 < (a0.size : Int)) = true := decide_eq_true c22; have c22b1 : decide (2 < a0.size) = true := decide_eq_true (by omega); clear c22
          by_cases c24 : (((10 * (((bt a0 1) - 48) % 256)) + (((bt a0 2) - 48) % 256))) > 16
          ·rw [if_pos c24] at H; have c24b0 : decide (16 < (((10 * (((bt a0 1) - 48) % 256)) + (((bt a0 2) - 48) % 256)))) = true := decide_eq_true c24; clear c24; obtain rfl := Option.some.inj H
           have p23 : 0 ≤ (2 : Int) := (by omega)
           have q23 : 2 < a0.size := (by have : (2 : Int) < (a0.size : Int) := dd_; omega)
           have hx23 : ∀ h : 2 < a0.size, ((a0[2]'h).toNat : Int) = bt a0 2 := QbS a0 2; clear p23; have qi23 : (2 < (a0.size : Int)) = True := eq_true (dd_); replace q23 := eq_true q23; go_wp2; go_ret; exact ⟨by first | rfl | (simp; done) | (simp [*]; done), by repeat (first | exact Drawn0.refl _ | apply Drawn0.step)⟩
          ·rw [if_neg c24] at H; have c24b0 : decide (16 < (((10 * (((bt a0 1) - 48) % 256)) + (((bt a0 2) - 48) % 256)))) = false := decide_eq_false c24; clear c24; obtain rfl := Option.some.inj H
           have p23 : 0 ≤ (2 : Int) := (by omega)
           have q23 : 2 < a0.size := (by have : (2 : Int) < (a0.size : Int) := dd_; omega)
           have hx23 : ∀ h : 2 < a0.size, ((a0[2]'h).toNat : Int) = bt a0 2 := QbS a0 2; clear p23; have qi23 : (2 < (a0.size : Int)) = True := eq_true (dd_); replace q23 := eq_true q23; go_wp2; go_ret; exact ⟨by first | rfl | (simp; done) | (simp [*]; done), by repeat (first | exact Drawn0.refl _ | apply Drawn0.step)⟩
         ·rw [if_neg c22] at H; exact absurd H (by simp)
     ·rw [if_neg c15] at H; have c15b0 : ((a0.size : Int) == 3) = false := beq_eq_false_iff_ne.mpr c15; have c15b1 : ((a0.size : Int) != 3) = true := bne_iff_ne.mpr c15
      by_cases c25 : (((bt a0 1) - 48) % 256) > 16
      ·rw [if_pos c25] at H; have c25b0 : decide (16 < (((bt a0 1) - 48) % 256)) = true := decide_eq_true c25; clear c25; obtain rfl := Option.some.inj H
       have p14 : 0 ≤ (1 : Int) := (by omega)
       have q14 : 1 < a0.size := (by have : (1 : Int) < (a0.size : Int) := dd_; omega)
       have hx14 : ∀ h : 1 < a0.size, ((a0[1]'h).toNat : Int) = bt a0 1 := QbS a0 1; clear p14; have qi14 : (1 < (a0.size : Int)) = True := eq_true (dd_); replace q14 := eq_true q14; go_wp2; go_ret; exact ⟨by first | rfl | (simp; done) | (simp [*]; done), by repeat (first | exact Drawn0.refl _ | apply Drawn0.step)⟩
      ·rw [if_neg c25] at H; have c25b0 : decide (16 < (((bt a0 1) - 48) % 256)) = false := decide_eq_false c25; clear c25; obtain rfl := Option.some.inj H
       have p14 : 0 ≤ (1 : Int) := (by omega)
       have q14 : 1 < a0.size := (by have : (1 : Int) < (a0.size : Int) := dd_; omega)
       have hx14 : ∀ h : 1 < a0.size, ((a0[1]'h).toNat : Int) = bt a0 1 := QbS a0 1; clear p14; have qi14 : (1 < (a0.size : Int)) = True := eq_true (dd_); replace q14 := eq_true q14; go_wp2; go_ret; exact ⟨by first | rfl | (simp; done) | (simp [*]; done), by repeat (first | exact Drawn0.refl _ | apply Drawn0.step)⟩
    ·rw [if_neg c13] at H; exact absurd H (by simp)

def Qa8.f (k : Nat) (a0_0 : ByteArray) (a0_1 : ByteArray) : Option (Bool) := (QaC.f k a0_1).bind fun t102 => (if t102 = true then ((Qar.f k a0_0).bind fun t103 => (some (t103 != 0))) else (some false))
set_option maxHeartbeats 8000000 in
set_option maxRecDepth 100000 in
theorem Qa8.calls (k : Nat) (a0_0 : ByteArray) (a0_1 : ByteArray) (r : Bool) (w : World) (h : Qa8.f k a0_0 a0_1 = some r) :
  Calls Tryz.prog 45 #[.agg #[.string a0_0, .string a0_1]] w fun e w' => e = .returned (.bool r) ∧ Below w.heap.size w w' := by
 have hu24 := Tryz.underlying24; have HB := Qaa.mk (Below.refl w.heap.size w); have H : ((QaC.f k a0_1).bind fun t102 => (if t102 = true then ((Qar.f k a0_0).bind fun t103 => (some (t103 != 0))) else (some false))) = some r := h; clear h; replace H := Option.bind_eq_some_iff.mp H; obtain ⟨t102, A20, H⟩ := H; replace H : (if t102 = true then ((Qar.f k a0_0).bind fun t103 => (some (t103 != 0))) else (some false)) = some r := H; have A2 := Qaa.mk A20; clear A20
 by_cases c3 : t102 = true
 ·subst c3
  have H1 : ((Qar.f k a0_0).bind fun t103 => (some (t103 != 0))) = some r := by rw [if_pos rfl] at H; exact H
  clear H; have H := H1; clear H1; replace H := Option.bind_eq_some_iff.mp H; obtain ⟨t103, A40, H⟩ := H; replace H : (some (t103 != 0)) = some r := H; have A4 := Qaa.mk A40; clear A40; obtain rfl := Option.some.inj H; go_enter Tryz.func45, Tryz.ntmps45
  go_wp2_with (first | ((with_reducible refine QaM (N := 1) rfl ?_); refine QaK ?hg (N := 1) ?hd (cs := #[.string a0_0, .string a0_1]) (t := 24) ?hr ?_; (case hd => rfl); (case hg => rfl); (case hr => first | (go_simp; done) | (go_simp; rfl)); intro gb101 hg w5 hbox hb; have BK101 := Qaa.mk (hbox); have GW101 := (gz_ hg : Qaa (w.heap.size ≤ gb101)); have GE101 := (gz_ hg : Qaa (w.heap.size ≤ gb101)); replace HB := Qaa.mk (Qad bw_ hb); clear hb hbox hg; obtain ⟨c6_0, c6_1⟩ := Qb2 BK101.out; obtain ⟨f6_0, f6_1⟩ := fz_2 BK101.out) | ((with_reducible refine Qa5 (f := 44) rfl ?_); refine gL 6 Tryz.func44 #[.string a0_1] ?_; (with_reducible refine (QaC.calls k a0_1 true _ A2.out).mono ?_); rintro e w' ⟨rfl, ⟨nd, rfl⟩⟩; refine ⟨_, rfl, ?_⟩) | (go_at_call 48; (with_reducible refine (Qar.calls k a0_0 t103 _ A4.out).mono ?_); rintro e w' ⟨rfl, ⟨nd, rfl⟩⟩))
  go_ret; exact ⟨by first | rfl | (simp [Qaw, Qav] <;> rfl) | (simp [*, Qaw, Qav] <;> rfl), bw_⟩
 ·replace c3 := Bool.eq_false_iff.mpr c3; subst c3
  have H1 : (some false) = some r := by rw [if_neg (show ¬ (false = true) by decide)] at H; exact H
  clear H; have H := H1; clear H1; obtain rfl := Option.some.inj H; go_enter Tryz.func45, Tryz.ntmps45
  go_wp2_with (first | ((with_reducible refine QaM (N := 1) rfl ?_); refine QaK ?hg (N := 1) ?hd (cs := #[.string a0_0, .string a0_1]) (t := 24) ?hr ?_; (case hd => rfl); (case hg => rfl); (case hr => first | (go_simp; done) | (go_simp; rfl)); intro gb101 hg w7 hbox hb; have BK101 := Qaa.mk (hbox); have GW101 := (gz_ hg : Qaa (w.heap.size ≤ gb101)); have GE101 := (gz_ hg : Qaa (w.heap.size ≤ gb101)); replace HB := Qaa.mk (Qad bw_ hb); clear hb hbox hg; obtain ⟨c8_0, c8_1⟩ := Qb2 BK101.out; obtain ⟨f8_0, f8_1⟩ := fz_2 BK101.out) | ((with_reducible refine Qa5 (f := 44) rfl ?_); refine gL 6 Tryz.func44 #[.string a0_1] ?_; (with_reducible refine (QaC.calls k a0_1 false _ A2.out).mono ?_); rintro e w' ⟨rfl, ⟨nd, rfl⟩⟩; refine ⟨_, rfl, ?_⟩))
  go_ret; exact ⟨by first | rfl | (simp [Qaw, Qav] <;> rfl) | (simp [*, Qaw, Qav] <;> rfl), bw_⟩

def Qbd.f (k : Nat) (a0_0 : ByteArray) (a0_1 : ByteArray) : Option (Bool) := (QaC.f k a0_1).bind fun t102 => (if t102 = true then (some (a0_0.toList == ([] : List UInt8))) else (some false))
set_option maxHeartbeats 8000000 in
set_option maxRecDepth 100000 in
theorem Qbd.calls (k : Nat) (a0_0 : ByteArray) (a0_1 : ByteArray) (r : Bool) (w : World) (h : Qbd.f k a0_0 a0_1 = some r) :
  Calls Tryz.prog 46 #[.agg #[.string a0_0, .string a0_1]] w fun e w' => e = .returned (.bool r) ∧ Below w.heap.size w w' := by
 have hu24 := Tryz.underlying24; have HB := Qaa.mk (Below.refl w.heap.size w); have H : ((QaC.f k a0_1).bind fun t102 => (if t102 = true then (some (a0_0.toList == ([] : List UInt8))) else (some false))) = some r := h; clear h; replace H := Option.bind_eq_some_iff.mp H; obtain ⟨t102, A20, H⟩ := H; replace H : (if t102 = true then (some (a0_0.toList == ([] : List UInt8))) else (some false)) = some r := H; have A2 := Qaa.mk A20; clear A20
 by_cases c3 : t102 = true
 ·subst c3
  have H1 : (some (a0_0.toList == ([] : List UInt8))) = some r := by rw [if_pos rfl] at H; exact H
  clear H; have H := H1; clear H1; obtain rfl := Option.some.inj H; go_enter Tryz.func46, Tryz.ntmps46
  go_wp2_with (first | ((with_reducible refine QaM (N := 1) rfl ?_); refine QaK ?hg (N := 1) ?hd (cs := #[.string a0_0, .string a0_1]) (t := 24) ?hr ?_; (case hd => rfl); (case hg => rfl); (case hr => first | (go_simp; done) | (go_simp; rfl)); intro gb101 hg w4 hbox hb; have BK101 := Qaa.mk (hbox); have GW101 := (gz_ hg : Qaa (w.heap.size ≤ gb101)); have GE101 := (gz_ hg : Qaa (w.heap.size ≤ gb101)); replace HB := Qaa.mk (Qad bw_ hb); clear hb hbox hg; obtain ⟨c5_0, c5_1⟩ := Qb2 BK101.out; obtain ⟨f5_0, f5_1⟩ := fz_2 BK101.out) | ((with_reducible refine Qa5 (f := 44) rfl ?_); refine gL 6 Tryz.func44 #[.string a0_1] ?_; (with_reducible refine (QaC.calls k a0_1 true _ A2.out).mono ?_); rintro e w' ⟨rfl, ⟨nd, rfl⟩⟩; refine ⟨_, rfl, ?_⟩))
  go_ret; exact ⟨by first | rfl | (simp [Qaw, Qav] <;> rfl) | (simp [*, Qaw, Qav] <;> rfl), bw_⟩
 ·replace c3 := Bool.eq_false_iff.mpr c3; subst c3
  have H1 : (some false) = some r := by rw [if_neg (show ¬ (false = true) by decide)] at H; exact H
  clear H; have H := H1; clear H1; obtain rfl := Option.some.inj H; go_enter Tryz.func46, Tryz.ntmps46
  go_wp2_with (first | ((with_reducible refine QaM (N := 1) rfl ?_); refine QaK ?hg (N := 1) ?hd (cs := #[.string a0_0, .string a0_1]) (t := 24) ?hr ?_; (case hd => rfl); (case hg => rfl); (case hr => first | (go_simp; done) | (go_simp; rfl)); intro gb101 hg w6 hbox hb; have BK101 := Qaa.mk (hbox); have GW101 := (gz_ hg : Qaa (w.heap.size ≤ gb101)); have GE101 := (gz_ hg : Qaa (w.heap.size ≤ gb101)); replace HB := Qaa.mk (Qad bw_ hb); clear hb hbox hg; obtain ⟨c7_0, c7_1⟩ := Qb2 BK101.out; obtain ⟨f7_0, f7_1⟩ := fz_2 BK101.out) | ((with_reducible refine Qa5 (f := 44) rfl ?_); refine gL 6 Tryz.func44 #[.string a0_1] ?_; (with_reducible refine (QaC.calls k a0_1 false _ A2.out).mono ?_); rintro e w' ⟨rfl, ⟨nd, rfl⟩⟩; refine ⟨_, rfl, ?_⟩))
  go_ret; exact ⟨by first | rfl | (simp [Qaw, Qav] <;> rfl) | (simp [*, Qaw, Qav] <;> rfl), bw_⟩
end
section
attribute [local go_sem] QaQ QaO QaZ QaY QaJ QaI QaP QaN
attribute [local go_sem high] eqA24
def QaA.j0 : Nat → Bool → Bool → Bool → Bool → Int → Int → ByteArray → Int → ByteArray → ByteArray → ByteArray → ByteArray → ByteArray → Option (Bool)
 | 0, _, _, _, _, _, _, _, _, _, _, _, _, _ => none
 | k + 1, x4, x5, x6, x47, x102000, x102001, x102002, x102003, x102004, x102005, x102006, x102007, x102008 => if x47 = true then (some false) else (if x102003 = 1 then (if x4 = true then (if (x102005.toList == ([] : List UInt8) && (x102006.toList == ([] : List UInt8))) = true then (some (x102007.toList == ([] : List UInt8) && (x102008.toList == ([] : List UInt8)))) else (some false)) else (some false)) else (if x102004.toList = ([] : List UInt8) then (if x102003 = 2 then (if x5 = true then (some (x102007.toList == ([] : List UInt8) && (x102008.toList == ([] : List UInt8)))) else (some false)) else (if x102003 = 3 then ((Qbd.f k x102005 x102006).bind fun t107 => ((Qbd.f k x102007 x102008).bind fun t108 => (if t107 = true then (some t108) else (some false)))) else (if x102003 = 4 then (if x5 = true then (some x6) else (some false)) else (some false)))) else (some false)))
def QaA.f (k : Nat) (a0_0 : Int) (a0_1 : Int) (a0_2 : ByteArray) (a0_3 : Int) (a0_4 : ByteArray) (a0_5 : ByteArray) (a0_6 : ByteArray) (a0_7 : ByteArray) (a0_8 : ByteArray) : Option (Bool) := (QaC.f k a0_2).bind fun t102 => ((QaC.f k a0_4).bind fun t103 => ((Qa8.f k a0_5 a0_6).bind fun t104 => ((Qa8.f k a0_7 a0_8).bind fun t105 => (if a0_0 < 1 then (QaA.j0 k t103 t104 t105 true a0_0 a0_1 a0_2 a0_3 a0_4 a0_5 a0_6 a0_7 a0_8) else (if a0_0 > 16 then (QaA.j0 k t103 t104 t105 true a0_0 a0_1 a0_2 a0_3 a0_4 a0_5 a0_6 a0_7 a0_8) else (if a0_1 < 1 then (QaA.j0 k t103 t104 t105 true a0_0 a0_1 a0_2 a0_3 a0_4 a0_5 a0_6 a0_7 a0_8) else (if a0_1 > 4000 then (QaA.j0 k t103 t104 t105 true a0_0 a0_1 a0_2 a0_3 a0_4 a0_5 a0_6 a0_7 a0_8) else (QaA.j0 k t103 t104 t105 (!t102) a0_0 a0_1 a0_2 a0_3 a0_4 a0_5 a0_6 a0_7 a0_8))))))))
set_option maxHeartbeats 8000000 in
set_option maxRecDepth 100000 in
theorem QaA.calls (k : Nat) (a0_0 : Int) (a0_1 : Int) (a0_2 : ByteArray) (a0_3 : Int) (a0_4 : ByteArray) (a0_5 : ByteArray) (a0_6 : ByteArray) (a0_7 : ByteArray) (a0_8 : ByteArray) (r : Bool) (w : World) (h : QaA.f k a0_0 a0_1 a0_2 a0_3 a0_4 a0_5 a0_6 a0_7 a0_8 = some r) :
  Calls Tryz.prog 32 #[.agg #[.int .i64 a0_0, .int .i64 a0_1, .string a0_2, .int .i64 a0_3, .string a0_4, .string a0_5, .string a0_6, .string a0_7, .string a0_8]] w fun e w' => e = .returned (.bool r) ∧ Below w.heap.size w w' := by
 have hu46 := Tryz.underlying46; have hu24 := Tryz.underlying24; have HB := Qaa.mk (Below.refl w.heap.size w); have H : ((QaC.f k a0_2).bind fun t102 => ((QaC.f k a0_4).bind fun t103 => ((Qa8.f k a0_5 a0_6).bind fun t104 => ((Qa8.f k a0_7 a0_8).bind fun t105 => (if a0_0 < 1 then (QaA.j0 k t103 t104 t105 true a0_0 a0_1 a0_2 a0_3 a0_4 a0_5 a0_6 a0_7 a0_8) else (if a0_0 > 16 then (QaA.j0 k t103 t104 t105 true a0_0 a0_1 a0_2 a0_3 a0_4 a0_5 a0_6 a0_7 a0_8) else (if a0_1 < 1 then (QaA.j0 k t103 t104 t105 true a0_0 a0_1 a0_2 a0_3 a0_4 a0_5 a0_6 a0_7 a0_8) else (if a0_1 > 4000 then (QaA.j0 k t103 t104 t105 true a0_0 a0_1 a0_2 a0_3 a0_4 a0_5 a0_6 a0_7 a0_8) else (QaA.j0 k t103 t104 t105 (!t102) a0_0 a0_1 a0_2 a0_3 a0_4 a0_5 a0_6 a0_7 a0_8))))))))) = some r := h; clear h; replace H := Option.bind_eq_some_iff.mp H; obtain ⟨t102, A20, H⟩ := H; replace H : ((QaC.f k a0_4).bind fun t103 => ((Qa8.f k a0_5 a0_6).bind fun t104 => ((Qa8.f k a0_7 a0_8).bind fun t105 => (if a0_0 < 1 then (QaA.j0 k t103 t104 t105 true a0_0 a0_1 a0_2 a0_3 a0_4 a0_5 a0_6 a0_7 a0_8) else (if a0_0 > 16 then (QaA.j0 k t103 t104 t105 true a0_0 a0_1 a0_2 a0_3 a0_4 a0_5 a0_6 a0_7 a0_8) else (if a0_1 < 1 then (QaA.j0 k t103 t104 t105 true a0_0 a0_1 a0_2 a0_3 a0_4 a0_5 a0_6 a0_7 a0_8) else (if a0_1 > 4000 then (QaA.j0 k t103 t104 t105 true a0_0 a0_1 a0_2 a0_3 a0_4 a0_5 a0_6 a0_7 a0_8) else (QaA.j0 k t103 t104 t105 (!t102) a0_0 a0_1 a0_2 a0_3 a0_4 a0_5 a0_6 a0_7 a0_8)))))))) = some r := H
 have A2 := Qaa.mk A20; clear A20; replace H := Option.bind_eq_some_iff.mp H; obtain ⟨t103, A30, H⟩ := H; replace H : ((Qa8.f k a0_5 a0_6).bind fun t104 => ((Qa8.f k a0_7 a0_8).bind fun t105 => (if a0_0 < 1 then (QaA.j0 k t103 t104 t105 true a0_0 a0_1 a0_2 a0_3 a0_4 a0_5 a0_6 a0_7 a0_8) else (if a0_0 > 16 then (QaA.j0 k t103 t104 t105 true a0_0 a0_1 a0_2 a0_3 a0_4 a0_5 a0_6 a0_7 a0_8) else (if a0_1 < 1 then (QaA.j0 k t103 t104 t105 true a0_0 a0_1 a0_2 a0_3 a0_4 a0_5 a0_6 a0_7 a0_8) else (if a0_1 > 4000 then (QaA.j0 k t103 t104 t105 true a0_0 a0_1 a0_2 a0_3 a0_4 a0_5 a0_6 a0_7 a0_8) else (QaA.j0 k t103 t104 t105 (!t102) a0_0 a0_1 a0_2 a0_3 a0_4 a0_5 a0_6 a0_7 a0_8))))))) = some r := H; have A3 := Qaa.mk A30; clear A30; replace H := Option.bind_eq_some_iff.mp H; obtain ⟨t104, A40, H⟩ := H; replace H : ((Qa8.f k a0_7 a0_8).bind fun t105 => (if a0_0 < 1 then (QaA.j0 k t103 t104 t105 true a0_0 a0_1 a0_2 a0_3 a0_4 a0_5 a0_6 a0_7 a0_8) else (if a0_0 > 16 then (QaA.j0 k t103 t104 t105 true a0_0 a0_1 a0_2 a0_3 a0_4 a0_5 a0_6 a0_7 a0_8) else (if a0_1 < 1 then (QaA.j0 k t103 t104 t105 true a0_0 a0_1 a0_2 a0_3 a0_4 a0_5 a0_6 a0_7 a0_8) else (if a0_1 > 4000 then (QaA.j0 k t103 t104 t105 true a0_0 a0_1 a0_2 a0_3 a0_4 a0_5 a0_6 a0_7 a0_8) else (QaA.j0 k t103 t104 t105 (!t102) a0_0 a0_1 a0_2 a0_3 a0_4 a0_5 a0_6 a0_7 a0_8)))))) = some r := H
 have A4 := Qaa.mk A40; clear A40; replace H := Option.bind_eq_some_iff.mp H; obtain ⟨t105, A50, H⟩ := H; replace H : (if a0_0 < 1 then (QaA.j0 k t103 t104 t105 true a0_0 a0_1 a0_2 a0_3 a0_4 a0_5 a0_6 a0_7 a0_8) else (if a0_0 > 16 then (QaA.j0 k t103 t104 t105 true a0_0 a0_1 a0_2 a0_3 a0_4 a0_5 a0_6 a0_7 a0_8) else (if a0_1 < 1 then (QaA.j0 k t103 t104 t105 true a0_0 a0_1 a0_2 a0_3 a0_4 a0_5 a0_6 a0_7 a0_8) else (if a0_1 > 4000 then (QaA.j0 k t103 t104 t105 true a0_0 a0_1 a0_2 a0_3 a0_4 a0_5 a0_6 a0_7 a0_8) else (QaA.j0 k t103 t104 t105 (!t102) a0_0 a0_1 a0_2 a0_3 a0_4 a0_5 a0_6 a0_7 a0_8))))) = some r := H; have A5 := Qaa.mk A50; clear A50; have HC6 := Qaa.mk H; clear H; go_enter Tryz.func32, Tryz.ntmps32
 go_upto_region 5 with (first | ((with_reducible refine QaM (N := 1) rfl ?_); refine QaK ?hg (N := 1) ?hd (cs := #[.int .i64 a0_0, .int .i64 a0_1, .string a0_2, .int .i64 a0_3, .string a0_4, .string a0_5, .string a0_6, .string a0_7, .string a0_8]) (t := 46) ?hr ?_; (case hd => rfl); (case hg => rfl); (case hr => first | (go_simp; done) | (go_simp; rfl)); intro gb101 hg w7 hbox hb; have BK101 := Qaa.mk (hbox); have GW101 := (gz_ hg : Qaa (w.heap.size ≤ gb101)); have GE101 := (gz_ hg : Qaa (w.heap.size ≤ gb101)); replace HB := Qaa.mk (Qad bw_ hb); clear hb hbox hg; obtain ⟨c8_0, c8_1, c8_2, c8_3, c8_4, c8_5, c8_6, c8_7, c8_8⟩ := Qa6 BK101.out; obtain ⟨f8_0, f8_1, f8_2, f8_3, f8_4, f8_5, f8_6, f8_7, f8_8⟩ := fz_9 BK101.out) | ((with_reducible refine Qa5 (f := 44) rfl ?_); refine gL 12 Tryz.func44 #[.string a0_2] ?_; (with_reducible refine (QaC.calls k a0_2 t102 _ A2.out).mono ?_); rintro e w' ⟨rfl, ⟨nd, rfl⟩⟩; refine ⟨_, rfl, ?_⟩) | ((with_reducible refine Qa5 (f := 44) rfl ?_); refine gL 15 Tryz.func44 #[.string a0_4] ?_; (with_reducible refine (QaC.calls k a0_4 t103 _ A3.out).mono ?_); rintro e w' ⟨rfl, ⟨nd, rfl⟩⟩; refine ⟨_, rfl, ?_⟩) | ((with_reducible refine Qa5 (f := 45) rfl ?_); refine gL 18 Tryz.func45 #[.agg #[.string a0_5, .string a0_6]] ?_; (with_reducible refine (Qa8.calls k a0_5 a0_6 t104 _ A4.out).mono ?_); rintro e w9 ⟨rfl, hb⟩; refine ⟨_, rfl, ?_⟩; replace BK101 := Qaa.mk (Qac (g := gb101) bk_ hb); replace HB := Qaa.mk (Qad bw_ hb); (try clear hb); (try clear hb2); (try clear hk); (try clear hi); obtain ⟨c10_0, c10_1, c10_2, c10_3, c10_4, c10_5, c10_6, c10_7, c10_8⟩ := Qa6 BK101.out; obtain ⟨f10_0, f10_1, f10_2, f10_3, f10_4, f10_5, f10_6, f10_7, f10_8⟩ := fz_9 BK101.out) | ((with_reducible refine Qa5 (f := 45) rfl ?_); refine gL 21 Tryz.func45 #[.agg #[.string a0_7, .string a0_8]] ?_; (with_reducible refine (Qa8.calls k a0_7 a0_8 t105 _ A5.out).mono ?_); rintro e w11 ⟨rfl, hb⟩; refine ⟨_, rfl, ?_⟩; replace BK101 := Qaa.mk (Qac (g := gb101) bk_ hb); replace HB := Qaa.mk (Qad bw_ hb); (try clear hb); (try clear hb2); (try clear hk); (try clear hi)))
 (try simp only [Act.put, put_])
 go_cut [47] (fun v47 wc => ∃ (kq : Nat) (x47_5 : Bool), v47 = .bool x47_5 ∧ Qaa (QaA.j0 kq t103 t104 t105 x47_5 a0_0 a0_1 a0_2 a0_3 a0_4 a0_5 a0_6 a0_7 a0_8 = some r) ∧ Qaa (kq ≤ k) ∧ Qaa (wc.heap[gb101]? = some (.cells #[.int .i64 a0_0, .int .i64 a0_1, .string a0_2, .int .i64 a0_3, .string a0_4, .string a0_5, .string a0_6, .string a0_7, .string a0_8] 46 (0, 0))) ∧ Qaa (Below w.heap.size w wc))
 case first =>
  have H := HC6.out; clear HC6
  by_cases c12 : a0_0 < 1
  ·rw [if_pos c12] at H; have c12b0 : decide (a0_0 < 1) = true := decide_eq_true c12; clear c12
   (first | rw [c12b0] | (simp only [Qbt, Qbw]; rw [c12b0]) | skip)
   have H' := Qaa.mk H; clear H; obtain ⟨c13_0, c13_1, c13_2, c13_3, c13_4, c13_5, c13_6, c13_7, c13_8⟩ := Qa6 BK101.out; obtain ⟨f13_0, f13_1, f13_2, f13_3, f13_4, f13_5, f13_6, f13_7, f13_8⟩ := fz_9 BK101.out; go_wp2
   go_meet
   case rel => exact ⟨_, (true), (by first | rfl | (simp; done) | (simp [*]; done)), H', ⟨by first | omega | exact Nat.le_refl _⟩, ⟨by (with_reducible repeat (first | refine Qai ?_ _ | refine Qah ?_ | refine Qag ?_ _)); exact BK101.out⟩, ⟨bw_⟩⟩
  ·rw [if_neg c12] at H; have c12b0 : decide (a0_0 < 1) = false := decide_eq_false c12; clear c12
   (first | rw [c12b0] | (simp only [Qbt, Qbw]; rw [c12b0]) | skip)
   by_cases c14 : a0_0 > 16
   ·rw [if_pos c14] at H; have c14b0 : decide (16 < a0_0) = true := decide_eq_true c14; clear c14; have H' := Qaa.mk H; clear H; obtain ⟨c15_0, c15_1, c15_2, c15_3, c15_4, c15_5, c15_6, c15_7, c15_8⟩ := Qa6 BK101.out; obtain ⟨f15_0, f15_1, f15_2, f15_3, f15_4, f15_5, f15_6, f15_7, f15_8⟩ := fz_9 BK101.out; go_wp2
    go_meet
    case rel => exact ⟨_, (true), (by first | rfl | (simp; done) | (simp [*]; done)), H', ⟨by first | omega | exact Nat.le_refl _⟩, ⟨by (with_reducible repeat (first | refine Qai ?_ _ | refine Qah ?_ | refine Qag ?_ _)); exact BK101.out⟩, ⟨bw_⟩⟩
   ·rw [if_neg c14] at H; have c14b0 : decide (16 < a0_0) = false := decide_eq_false c14; clear c14
    by_cases c16 : a0_1 < 1
    ·rw [if_pos c16] at H; have c16b0 : decide (a0_1 < 1) = true := decide_eq_true c16; clear c16; have H' := Qaa.mk H; clear H; obtain ⟨c17_0, c17_1, c17_2, c17_3, c17_4, c17_5, c17_6, c17_7, c17_8⟩ := Qa6 BK101.out; obtain ⟨f17_0, f17_1, f17_2, f17_3, f17_4, f17_5, f17_6, f17_7, f17_8⟩ := fz_9 BK101.out; go_wp2
     go_meet
     case rel => exact ⟨_, (true), (by first | rfl | (simp; done) | (simp [*]; done)), H', ⟨by first | omega | exact Nat.le_refl _⟩, ⟨by (with_reducible repeat (first | refine Qai ?_ _ | refine Qah ?_ | refine Qag ?_ _)); exact BK101.out⟩, ⟨bw_⟩⟩
    ·rw [if_neg c16] at H; have c16b0 : decide (a0_1 < 1) = false := decide_eq_false c16; clear c16
     by_cases c18 : a0_1 > 4000
     ·rw [if_pos c18] at H; have c18b0 : decide (4000 < a0_1) = true := decide_eq_true c18; clear c18; have H' := Qaa.mk H; clear H; obtain ⟨c19_0, c19_1, c19_2, c19_3, c19_4, c19_5, c19_6, c19_7, c19_8⟩ := Qa6 BK101.out; obtain ⟨f19_0, f19_1, f19_2, f19_3, f19_4, f19_5, f19_6, f19_7, f19_8⟩ := fz_9 BK101.out; go_wp2
      go_meet
      case rel => exact ⟨_, (true), (by first | rfl | (simp; done) | (simp [*]; done)), H', ⟨by first | omega | exact Nat.le_refl _⟩, ⟨by (with_reducible repeat (first | refine Qai ?_ _ | refine Qah ?_ | refine Qag ?_ _)); exact BK101.out⟩, ⟨bw_⟩⟩
     ·rw [if_neg c18] at H; have c18b0 : decide (4000 < a0_1) = false := decide_eq_false c18; clear c18; have H' := Qaa.mk H; clear H; obtain ⟨c20_0, c20_1, c20_2, c20_3, c20_4, c20_5, c20_6, c20_7, c20_8⟩ := Qa6 BK101.out; obtain ⟨f20_0, f20_1, f20_2, f20_3, f20_4, f20_5, f20_6, f20_7, f20_8⟩ := fz_9 BK101.out; go_wp2
      go_meet
      case rel => exact ⟨_, (!t102), (by first | rfl | (simp; done) | (simp [*]; done)), H', ⟨by first | omega | exact Nat.le_refl _⟩, ⟨by (with_reducible repeat (first | refine Qai ?_ _ | refine Qah ?_ | refine Qag ?_ _)); exact BK101.out⟩, ⟨bw_⟩⟩
 case rest =>
  clear HC6; (try clear c1); (try clear p2); (try clear c3); (try clear c4); (try clear c12); (try clear c12b0); (try clear c14); (try clear c14b0); (try clear c16); (try clear c16b0); (try clear c18); (try clear c18b0); (try clear c10_0 c10_1 c10_2 c10_3 c10_4 c10_5 c10_6 c10_7 c10_8); (try clear c13_0 c13_1 c13_2 c13_3 c13_4 c13_5 c13_6 c13_7 c13_8); (try clear c15_0 c15_1 c15_2 c15_3 c15_4 c15_5 c15_6 c15_7 c15_8); (try clear c17_0 c17_1 c17_2 c17_3 c17_4 c17_5 c17_6 c17_7 c17_8); (try clear c19_0 c19_1 c19_2 c19_3 c19_4 c19_5 c19_6 c19_7 c19_8); (try clear c20_0 c20_1 c20_2 c20_3 c20_4 c20_5 c20_6 c20_7 c20_8); (try clear c8_0 c8_1 c8_2 c8_3 c8_4 c8_5 c8_6 c8_7)
  (try clear c8_8); (try clear f10_0 f10_1 f10_2 f10_3 f10_4 f10_5 f10_6 f10_7 f10_8); (try clear f13_0 f13_1 f13_2 f13_3 f13_4 f13_5 f13_6 f13_7 f13_8); (try clear f15_0 f15_1 f15_2 f15_3 f15_4 f15_5 f15_6 f15_7 f15_8); (try clear f17_0 f17_1 f17_2 f17_3 f17_4 f17_5 f17_6 f17_7 f17_8); (try clear f19_0 f19_1 f19_2 f19_3 f19_4 f19_5 f19_6 f19_7 f19_8); (try clear f20_0 f20_1 f20_2 f20_3 f20_4 f20_5 f20_6 f20_7 f20_8); (try clear f8_0 f8_1 f8_2 f8_3 f8_4 f8_5 f8_6 f8_7 f8_8); obtain ⟨kq, x47_5, rfl, HA, HJ5, BK101, HB⟩ := hcut
  cases kq with
  | zero => exact absurd HA.out (by simp [QaA.j0])
  | succ kj5 =>
   have H := HA.out; clear HA; simp only [QaA.j0] at H
   by_cases c21 : x47_5 = true
   ·subst c21
    have H1 : (some false) = some r := by rw [if_pos rfl] at H; exact H
    clear H; have H := H1; clear H1; obtain rfl := Option.some.inj H; go_wp2
    all_goals go_ret
    all_goals exact ⟨by first | rfl | (simp [Qaw, Qav] <;> rfl) | (simp [*, Qaw, Qav] <;> rfl) | (simp_all; done), bw_⟩
   ·replace c21 := Bool.eq_false_iff.mpr c21; subst c21
    have H1 : (if a0_3 = 1 then (if t103 = true then (if (a0_5.toList == ([] : List UInt8) && (a0_6.toList == ([] : List UInt8))) = true then (some (a0_7.toList == ([] : List UInt8) && (a0_8.toList == ([] : List UInt8)))) else (some false)) else (some false)) else (if a0_4.toList = ([] : List UInt8) then (if a0_3 = 2 then (if t104 = true then (some (a0_7.toList == ([] : List UInt8) && (a0_8.toList == ([] : List UInt8)))) else (some false)) else (if a0_3 = 3 then ((Qbd.f kj5 a0_5 a0_6).bind fun t107 => ((Qbd.f kj5 a0_7 a0_8).bind fun t108 => (if t107 = true then (some t108) else (some false)))) else (if a0_3 = 4 then (if t104 = true then (some t105) else (some false)) else (some false)))) else (some false))) = some r := by rw [if_neg (show ¬ (false = true) by decide)] at H; exact H
    clear H; have H := H1; clear H1
    by_cases c22 : a0_3 = 1
    ·rw [if_pos c22] at H; have c22b0 : (a0_3 == 1) = true := beq_iff_eq.mpr c22; have c22b1 : (a0_3 != 1) = false := bne_eq_false_iff_eq.mpr c22; clear c22
     by_cases c23 : t103 = true
     ·subst c23
      have H1 : (if (a0_5.toList == ([] : List UInt8) && (a0_6.toList == ([] : List UInt8))) = true then (some (a0_7.toList == ([] : List UInt8) && (a0_8.toList == ([] : List UInt8)))) else (some false)) = some r := by rw [if_pos rfl] at H; exact H
      clear H; have H := H1; clear H1
      by_cases c24 : (a0_5.toList == ([] : List UInt8) && (a0_6.toList == ([] : List UInt8))) = true
      ·rw [if_pos c24] at H; have c24b0 : (a0_5.toList == ([] : List UInt8) && (a0_6.toList == ([] : List UInt8))) = true := c24
       (try (have c24b1 : decide (a0_5.toList = ([] : List UInt8) && (a0_6.toList == ([] : List UInt8))) = true := by simpa using c24))
       (try (have c24b2 : (a0_5.toList == ([] : List UInt8) && (a0_6.toList == ([] : List UInt8))) = true := by simpa using c24))
       clear c24; obtain rfl := Option.some.inj H
       go_wp2_with (first | ((with_reducible refine QaM (N := 7) rfl ?_); refine QaK ?hg (N := 7) ?hd (cs := #[.string (⟨#[]⟩ : ByteArray), .string (⟨#[]⟩ : ByteArray)]) (t := 24) ?hr ?_; (case hd => rfl); (case hg => rfl); (case hr => first | (go_simp; done) | (go_simp; rfl)); intro gb106 hg w25 hbox hb; have BK106 := Qaa.mk (hbox); have GW106 := (gz_ hg : Qaa (w.heap.size ≤ gb106)); have GE106 := (gz_ hg : Qaa (w.heap.size ≤ gb106)); have NB101_106 := (nl_ hg : Qaa (gb101 ≠ gb106)); have NB106_101 := (ng_ hg : Qaa (gb106 ≠ gb101)); replace BK101 := Qaa.mk (Qac (g := gb101) bk_ hb); replace HB := Qaa.mk (Qad bw_ hb); clear hb hbox hg; have hnb26 := NB106_101.out; have hnc26 := NB101_106.out; obtain ⟨c27_0, c27_1⟩ := Qb2 BK106.out; obtain ⟨f27_0, f27_1⟩ := fz_2 BK106.out; obtain ⟨c28_0, c28_1, c28_2, c28_3, c28_4, c28_5, c28_6, c28_7, c28_8⟩ := Qa6 BK101.out; obtain ⟨f28_0, f28_1, f28_2, f28_3, f28_4, f28_5, f28_6, f28_7, f28_8⟩ := fz_9 BK101.out))
       all_goals go_ret
       all_goals exact ⟨by first | rfl | (simp [Qaw, Qav] <;> rfl) | (simp [*, Qaw, Qav] <;> rfl) | (simp_all; done), bw_⟩
      ·rw [if_neg c24] at H
       have c24b0 : (a0_5.toList == ([] : List UInt8) && (a0_6.toList == ([] : List UInt8))) = false := by simpa using c24
       (try (have c24b1 : decide (a0_5.toList = ([] : List UInt8) && (a0_6.toList == ([] : List UInt8))) = false := by simpa using c24))
       (try (have c24b2 : (a0_5.toList == ([] : List UInt8) && (a0_6.toList == ([] : List UInt8))) = false := by simpa using c24))
       (try (have c24b3 : ¬ (a0_5.toList = ([] : List UInt8) && (a0_6.toList == ([] : List UInt8))) := by simpa using c24))
       clear c24; obtain rfl := Option.some.inj H
       go_wp2_with (first | ((with_reducible refine QaM (N := 7) rfl ?_); refine QaK ?hg (N := 7) ?hd (cs := #[.string (⟨#[]⟩ : ByteArray), .string (⟨#[]⟩ : ByteArray)]) (t := 24) ?hr ?_; (case hd => rfl); (case hg => rfl); (case hr => first | (go_simp; done) | (go_simp; rfl)); intro gb106 hg w29 hbox hb; have BK106 := Qaa.mk (hbox); have GW106 := (gz_ hg : Qaa (w.heap.size ≤ gb106)); have GE106 := (gz_ hg : Qaa (w.heap.size ≤ gb106)); have NB101_106 := (nl_ hg : Qaa (gb101 ≠ gb106)); have NB106_101 := (ng_ hg : Qaa (gb106 ≠ gb101)); replace BK101 := Qaa.mk (Qac (g := gb101) bk_ hb); replace HB := Qaa.mk (Qad bw_ hb); clear hb hbox hg; have hnb30 := NB106_101.out; have hnc30 := NB101_106.out; obtain ⟨c31_0, c31_1⟩ := Qb2 BK106.out; obtain ⟨f31_0, f31_1⟩ := fz_2 BK106.out; obtain ⟨c32_0, c32_1, c32_2, c32_3, c32_4, c32_5, c32_6, c32_7, c32_8⟩ := Qa6 BK101.out; obtain ⟨f32_0, f32_1, f32_2, f32_3, f32_4, f32_5, f32_6, f32_7, f32_8⟩ := fz_9 BK101.out))
       all_goals go_ret
       all_goals exact ⟨by first | rfl | (simp [Qaw, Qav] <;> rfl) | (simp [*, Qaw, Qav] <;> rfl) | (simp_all; done), bw_⟩
     ·replace c23 := Bool.eq_false_iff.mpr c23; subst c23
      have H1 : (some false) = some r := by rw [if_neg (show ¬ (false = true) by decide)] at H; exact H
      clear H; have H := H1; clear H1; obtain rfl := Option.some.inj H
      go_wp2_with (first | ((with_reducible refine QaM (N := 7) rfl ?_); refine QaK ?hg (N := 7) ?hd (cs := #[.string (⟨#[]⟩ : ByteArray), .string (⟨#[]⟩ : ByteArray)]) (t := 24) ?hr ?_; (case hd => rfl); (case hg => rfl); (case hr => first | (go_simp; done) | (go_simp; rfl)); intro gb106 hg w33 hbox hb; have BK106 := Qaa.mk (hbox); have GW106 := (gz_ hg : Qaa (w.heap.size ≤ gb106)); have GE106 := (gz_ hg : Qaa (w.heap.size ≤ gb106)); have NB101_106 := (nl_ hg : Qaa (gb101 ≠ gb106)); have NB106_101 := (ng_ hg : Qaa (gb106 ≠ gb101)); replace BK101 := Qaa.mk (Qac (g := gb101) bk_ hb); replace HB := Qaa.mk (Qad bw_ hb); clear hb hbox hg; have hnb34 := NB106_101.out; have hnc34 := NB101_106.out; obtain ⟨c35_0, c35_1⟩ := Qb2 BK106.out; obtain ⟨f35_0, f35_1⟩ := fz_2 BK106.out; obtain ⟨c36_0, c36_1, c36_2, c36_3, c36_4, c36_5, c36_6, c36_7, c36_8⟩ := Qa6 BK101.out; obtain ⟨f36_0, f36_1, f36_2, f36_3, f36_4, f36_5, f36_6, f36_7, f36_8⟩ := fz_9 BK101.out))
      all_goals go_ret
      all_goals exact ⟨by first | rfl | (simp [Qaw, Qav] <;> rfl) | (simp [*, Qaw, Qav] <;> rfl) | (simp_all; done), bw_⟩
    ·rw [if_neg c22] at H; have c22b0 : (a0_3 == 1) = false := beq_eq_false_iff_ne.mpr c22; have c22b1 : (a0_3 != 1) = true := bne_iff_ne.mpr c22
     by_cases c37 : a0_4.toList = ([] : List UInt8)
     ·rw [if_pos c37] at H; have c37b0 : (a0_4.toList == ([] : List UInt8)) = true := beq_iff_eq.mpr c37; have c37b1 : (a0_4.toList != ([] : List UInt8)) = false := bne_eq_false_iff_eq.mpr c37; clear c37
      by_cases c38 : a0_3 = 2
      ·rw [if_pos c38] at H; have c38b0 : (a0_3 == 2) = true := beq_iff_eq.mpr c38; have c38b1 : (a0_3 != 2) = false := bne_eq_false_iff_eq.mpr c38; clear c38
       by_cases c39 : t104 = true
       ·subst c39
        have H1 : (some (a0_7.toList == ([] : List UInt8) && (a0_8.toList == ([] : List UInt8)))) = some r := by rw [if_pos rfl] at H; exact H
        clear H; have H := H1; clear H1; obtain rfl := Option.some.inj H
        go_wp2_with (first | ((with_reducible refine QaM (N := 7) rfl ?_); refine QaK ?hg (N := 7) ?hd (cs := #[.string (⟨#[]⟩ : ByteArray), .string (⟨#[]⟩ : ByteArray)]) (t := 24) ?hr ?_; (case hd => rfl); (case hg => rfl); (case hr => first | (go_simp; done) | (go_simp; rfl)); intro gb106 hg w40 hbox hb; have BK106 := Qaa.mk (hbox); have GW106 := (gz_ hg : Qaa (w.heap.size ≤ gb106)); have GE106 := (gz_ hg : Qaa (w.heap.size ≤ gb106)); have NB101_106 := (nl_ hg : Qaa (gb101 ≠ gb106)); have NB106_101 := (ng_ hg : Qaa (gb106 ≠ gb101)); replace BK101 := Qaa.mk (Qac (g := gb101) bk_ hb); replace HB := Qaa.mk (Qad bw_ hb); clear hb hbox hg; have hnb41 := NB106_101.out; have hnc41 := NB101_106.out; obtain ⟨c42_0, c42_1⟩ := Qb2 BK106.out; obtain ⟨f42_0, f42_1⟩ := fz_2 BK106.out; obtain ⟨c43_0, c43_1, c43_2, c43_3, c43_4, c43_5, c43_6, c43_7, c43_8⟩ := Qa6 BK101.out; obtain ⟨f43_0, f43_1, f43_2, f43_3, f43_4, f43_5, f43_6, f43_7, f43_8⟩ := fz_9 BK101.out))
        all_goals go_ret
        all_goals exact ⟨by first | rfl | (simp [Qaw, Qav] <;> rfl) | (simp [*, Qaw, Qav] <;> rfl) | (simp_all; done), bw_⟩
       ·replace c39 := Bool.eq_false_iff.mpr c39; subst c39
        have H1 : (some false) = some r := by rw [if_neg (show ¬ (false = true) by decide)] at H; exact H
        clear H; have H := H1; clear H1; obtain rfl := Option.some.inj H
        go_wp2_with (first | ((with_reducible refine QaM (N := 7) rfl ?_); refine QaK ?hg (N := 7) ?hd (cs := #[.string (⟨#[]⟩ : ByteArray), .string (⟨#[]⟩ : ByteArray)]) (t := 24) ?hr ?_; (case hd => rfl); (case hg => rfl); (case hr => first | (go_simp; done) | (go_simp; rfl)); intro gb106 hg w44 hbox hb; have BK106 := Qaa.mk (hbox); have GW106 := (gz_ hg : Qaa (w.heap.size ≤ gb106)); have GE106 := (gz_ hg : Qaa (w.heap.size ≤ gb106)); have NB101_106 := (nl_ hg : Qaa (gb101 ≠ gb106)); have NB106_101 := (ng_ hg : Qaa (gb106 ≠ gb101)); replace BK101 := Qaa.mk (Qac (g := gb101) bk_ hb); replace HB := Qaa.mk (Qad bw_ hb); clear hb hbox hg; have hnb45 := NB106_101.out; have hnc45 := NB101_106.out; obtain ⟨c46_0, c46_1⟩ := Qb2 BK106.out; obtain ⟨f46_0, f46_1⟩ := fz_2 BK106.out; obtain ⟨c47_0, c47_1, c47_2, c47_3, c47_4, c47_5, c47_6, c47_7, c47_8⟩ := Qa6 BK101.out; obtain ⟨f47_0, f47_1, f47_2, f47_3, f47_4, f47_5, f47_6, f47_7, f47_8⟩ := fz_9 BK101.out))
        all_goals go_ret
        all_goals exact ⟨by first | rfl | (simp [Qaw, Qav] <;> rfl) | (simp [*, Qaw, Qav] <;> rfl) | (simp_all; done), bw_⟩
      ·rw [if_neg c38] at H; have c38b0 : (a0_3 == 2) = false := beq_eq_false_iff_ne.mpr c38; have c38b1 : (a0_3 != 2) = true := bne_iff_ne.mpr c38
       by_cases c48 : a0_3 = 3
       ·rw [if_pos c48] at H; have c48b0 : (a0_3 == 3) = true := beq_iff_eq.mpr c48; have c48b1 : (a0_3 != 3) = false := bne_eq_false_iff_eq.mpr c48; clear c48; replace H := Option.bind_eq_some_iff.mp H; obtain ⟨t107, A490, H⟩ := H; replace H : ((Qbd.f kj5 a0_7 a0_8).bind fun t108 => (if t107 = true then (some t108) else (some false))) = some r := H; have A49 := Qaa.mk A490; clear A490; replace H := Option.bind_eq_some_iff.mp H; obtain ⟨t108, A500, H⟩ := H; replace H : (if t107 = true then (some t108) else (some false)) = some r := H; have A50 := Qaa.mk A500; clear A500
        by_cases c51 : t107 = true
        ·subst c51
         have H1 : (some t108) = some r := by rw [if_pos rfl] at H; exact H
         clear H; have H := H1; clear H1; obtain rfl := Option.some.inj H
         go_wp2_with (first | ((with_reducible refine QaM (N := 7) rfl ?_); refine QaK ?hg (N := 7) ?hd (cs := #[.string (⟨#[]⟩ : ByteArray), .string (⟨#[]⟩ : ByteArray)]) (t := 24) ?hr ?_; (case hd => rfl); (case hg => rfl); (case hr => first | (go_simp; done) | (go_simp; rfl)); intro gb106 hg w52 hbox hb; have BK106 := Qaa.mk (hbox); have GW106 := (gz_ hg : Qaa (w.heap.size ≤ gb106)); have GE106 := (gz_ hg : Qaa (w.heap.size ≤ gb106)); have NB101_106 := (nl_ hg : Qaa (gb101 ≠ gb106)); have NB106_101 := (ng_ hg : Qaa (gb106 ≠ gb101)); replace BK101 := Qaa.mk (Qac (g := gb101) bk_ hb); replace HB := Qaa.mk (Qad bw_ hb); clear hb hbox hg; have hnb53 := NB106_101.out; have hnc53 := NB101_106.out; obtain ⟨c54_0, c54_1⟩ := Qb2 BK106.out; obtain ⟨f54_0, f54_1⟩ := fz_2 BK106.out; obtain ⟨c55_0, c55_1, c55_2, c55_3, c55_4, c55_5, c55_6, c55_7, c55_8⟩ := Qa6 BK101.out; obtain ⟨f55_0, f55_1, f55_2, f55_3, f55_4, f55_5, f55_6, f55_7, f55_8⟩ := fz_9 BK101.out) | ((with_reducible refine Qa5 (f := 46) rfl ?_); refine gL 83 Tryz.func46 #[.agg #[.string a0_5, .string a0_6]] ?_; (with_reducible refine (Qbd.calls kj5 a0_5 a0_6 true _ A49.out).mono ?_); rintro e w56 ⟨rfl, hb⟩; refine ⟨_, rfl, ?_⟩; replace BK101 := Qaa.mk (Qac (g := gb101) (o := ob_iisisssss a0_0 a0_1 a0_2 a0_3 a0_4 a0_5 a0_6 a0_7 a0_8 46) bf_ hb); replace BK106 := Qaa.mk (Qac (g := gb106) (o := ob_ss (⟨#[]⟩ : ByteArray) (⟨#[]⟩ : ByteArray) 24) (by (with_reducible repeat (first | refine Qai ?_ _ | refine Qah ?_ | refine Qag ?_ _)); refine QaG (cs := #[.string (⟨#[]⟩ : ByteArray), .string (⟨#[]⟩ : ByteArray)]) ?_ 1 _ rfl; (with_reducible repeat (first | refine Qai ?_ _ | refine Qah ?_ | refine Qag ?_ _)); refine QaG (cs := #[.string (⟨#[]⟩ : ByteArray), .string (⟨#[]⟩ : ByteArray)]) ?_ 0 _ rfl; (with_reducible repeat (first | refine Qai ?_ _ | refine Qah ?_ | refine Qag ?_ _)); exact BK106.out) hb); replace HB := Qaa.mk (Qad bw_ hb); (try clear hb); (try clear hb2); (try clear hk); (try clear hi); obtain ⟨c57_0, c57_1, c57_2, c57_3, c57_4, c57_5, c57_6, c57_7, c57_8⟩ := Qa6 BK101.out; obtain ⟨f57_0, f57_1, f57_2, f57_3, f57_4, f57_5, f57_6, f57_7, f57_8⟩ := fz_9 BK101.out) | ((with_reducible refine Qa5 (f := 46) rfl ?_); refine gL 86 Tryz.func46 #[.agg #[.string a0_7, .string a0_8]] ?_; (with_reducible refine (Qbd.calls kj5 a0_7 a0_8 t108 _ A50.out).mono ?_); rintro e w58 ⟨rfl, hb⟩; refine ⟨_, rfl, ?_⟩; replace BK101 := Qaa.mk (Qac (g := gb101) bk_ hb); replace BK106 := Qaa.mk (Qac (g := gb106) bk_ hb); replace HB := Qaa.mk (Qad bw_ hb); (try clear hb); (try clear hb2); (try clear hk); (try clear hi)))
         all_goals go_ret
         all_goals exact ⟨by first | rfl | (simp [Qaw, Qav] <;> rfl) | (simp [*, Qaw, Qav] <;> rfl) | (simp_all; done), bw_⟩
        ·replace c51 := Bool.eq_false_iff.mpr c51; subst c51
         have H1 : (some false) = some r := by rw [if_neg (show ¬ (false = true) by decide)] at H; exact H
         clear H; have H := H1; clear H1; obtain rfl := Option.some.inj H
         go_wp2_with (first | ((with_reducible refine QaM (N := 7) rfl ?_); refine QaK ?hg (N := 7) ?hd (cs := #[.string (⟨#[]⟩ : ByteArray), .string (⟨#[]⟩ : ByteArray)]) (t := 24) ?hr ?_; (case hd => rfl); (case hg => rfl); (case hr => first | (go_simp; done) | (go_simp; rfl)); intro gb106 hg w59 hbox hb; have BK106 := Qaa.mk (hbox); have GW106 := (gz_ hg : Qaa (w.heap.size ≤ gb106)); have GE106 := (gz_ hg : Qaa (w.heap.size ≤ gb106)); have NB101_106 := (nl_ hg : Qaa (gb101 ≠ gb106)); have NB106_101 := (ng_ hg : Qaa (gb106 ≠ gb101)); replace BK101 := Qaa.mk (Qac (g := gb101) bk_ hb); replace HB := Qaa.mk (Qad bw_ hb); clear hb hbox hg; have hnb60 := NB106_101.out; have hnc60 := NB101_106.out; obtain ⟨c61_0, c61_1⟩ := Qb2 BK106.out; obtain ⟨f61_0, f61_1⟩ := fz_2 BK106.out; obtain ⟨c62_0, c62_1, c62_2, c62_3, c62_4, c62_5, c62_6, c62_7, c62_8⟩ := Qa6 BK101.out; obtain ⟨f62_0, f62_1, f62_2, f62_3, f62_4, f62_5, f62_6, f62_7, f62_8⟩ := fz_9 BK101.out) | ((with_reducible refine Qa5 (f := 46) rfl ?_); refine gL 83 Tryz.func46 #[.agg #[.string a0_5, .string a0_6]] ?_; (with_reducible refine (Qbd.calls kj5 a0_5 a0_6 false _ A49.out).mono ?_); rintro e w63 ⟨rfl, hb⟩; refine ⟨_, rfl, ?_⟩; replace BK101 := Qaa.mk (Qac (g := gb101) (o := ob_iisisssss a0_0 a0_1 a0_2 a0_3 a0_4 a0_5 a0_6 a0_7 a0_8 46) bf_ hb); replace BK106 := Qaa.mk (Qac (g := gb106) (o := ob_ss (⟨#[]⟩ : ByteArray) (⟨#[]⟩ : ByteArray) 24) (by (with_reducible repeat (first | refine Qai ?_ _ | refine Qah ?_ | refine Qag ?_ _)); refine QaG (cs := #[.string (⟨#[]⟩ : ByteArray), .string (⟨#[]⟩ : ByteArray)]) ?_ 1 _ rfl; (with_reducible repeat (first | refine Qai ?_ _ | refine Qah ?_ | refine Qag ?_ _)); refine QaG (cs := #[.string (⟨#[]⟩ : ByteArray), .string (⟨#[]⟩ : ByteArray)]) ?_ 0 _ rfl; (with_reducible repeat (first | refine Qai ?_ _ | refine Qah ?_ | refine Qag ?_ _)); exact BK106.out) hb); replace HB := Qaa.mk (Qad bw_ hb); (try clear hb); (try clear hb2); (try clear hk); (try clear hi); obtain ⟨c64_0, c64_1, c64_2, c64_3, c64_4, c64_5, c64_6, c64_7, c64_8⟩ := Qa6 BK101.out; obtain ⟨f64_0, f64_1, f64_2, f64_3, f64_4, f64_5, f64_6, f64_7, f64_8⟩ := fz_9 BK101.out) | ((with_reducible refine Qa5 (f := 46) rfl ?_); refine gL 86 Tryz.func46 #[.agg #[.string a0_7, .string a0_8]] ?_; (with_reducible refine (Qbd.calls kj5 a0_7 a0_8 t108 _ A50.out).mono ?_); rintro e w65 ⟨rfl, hb⟩; refine ⟨_, rfl, ?_⟩; replace BK101 := Qaa.mk (Qac (g := gb101) bk_ hb); replace BK106 := Qaa.mk (Qac (g := gb106) bk_ hb); replace HB := Qaa.mk (Qad bw_ hb); (try clear hb); (try clear hb2); (try clear hk); (try clear hi)))
         all_goals go_ret
         all_goals exact ⟨by first | rfl | (simp [Qaw, Qav] <;> rfl) | (simp [*, Qaw, Qav] <;> rfl) | (simp_all; done), bw_⟩
       ·rw [if_neg c48] at H; have c48b0 : (a0_3 == 3) = false := beq_eq_false_iff_ne.mpr c48; have c48b1 : (a0_3 != 3) = true := bne_iff_ne.mpr c48
        by_cases c66 : a0_3 = 4
        ·rw [if_pos c66] at H; have c66b0 : (a0_3 == 4) = true := beq_iff_eq.mpr c66; have c66b1 : (a0_3 != 4) = false := bne_eq_false_iff_eq.mpr c66; clear c66
         by_cases c67 : t104 = true
         ·subst c67
          have H1 : (some t105) = some r := by rw [if_pos rfl] at H; exact H
          clear H; have H := H1; clear H1; obtain rfl := Option.some.inj H
          go_wp2_with (first | ((with_reducible refine QaM (N := 7) rfl ?_); refine QaK ?hg (N := 7) ?hd (cs := #[.string (⟨#[]⟩ : ByteArray), .string (⟨#[]⟩ : ByteArray)]) (t := 24) ?hr ?_; (case hd => rfl); (case hg => rfl); (case hr => first | (go_simp; done) | (go_simp; rfl)); intro gb106 hg w68 hbox hb; have BK106 := Qaa.mk (hbox); have GW106 := (gz_ hg : Qaa (w.heap.size ≤ gb106)); have GE106 := (gz_ hg : Qaa (w.heap.size ≤ gb106)); have NB101_106 := (nl_ hg : Qaa (gb101 ≠ gb106)); have NB106_101 := (ng_ hg : Qaa (gb106 ≠ gb101)); replace BK101 := Qaa.mk (Qac (g := gb101) bk_ hb); replace HB := Qaa.mk (Qad bw_ hb); clear hb hbox hg; have hnb69 := NB106_101.out; have hnc69 := NB101_106.out; obtain ⟨c70_0, c70_1⟩ := Qb2 BK106.out; obtain ⟨f70_0, f70_1⟩ := fz_2 BK106.out; obtain ⟨c71_0, c71_1, c71_2, c71_3, c71_4, c71_5, c71_6, c71_7, c71_8⟩ := Qa6 BK101.out; obtain ⟨f71_0, f71_1, f71_2, f71_3, f71_4, f71_5, f71_6, f71_7, f71_8⟩ := fz_9 BK101.out))
          all_goals go_ret
          all_goals exact ⟨by first | rfl | (simp [Qaw, Qav] <;> rfl) | (simp [*, Qaw, Qav] <;> rfl) | (simp_all; done), bw_⟩
         ·replace c67 := Bool.eq_false_iff.mpr c67; subst c67
          have H1 : (some false) = some r := by rw [if_neg (show ¬ (false = true) by decide)] at H; exact H
          clear H; have H := H1; clear H1; obtain rfl := Option.some.inj H
          go_wp2_with (first | ((with_reducible refine QaM (N := 7) rfl ?_); refine QaK ?hg (N := 7) ?hd (cs := #[.string (⟨#[]⟩ : ByteArray), .string (⟨#[]⟩ : ByteArray)]) (t := 24) ?hr ?_; (case hd => rfl); (case hg => rfl); (case hr => first | (go_simp; done) | (go_simp; rfl)); intro gb106 hg w72 hbox hb; have BK106 := Qaa.mk (hbox); have GW106 := (gz_ hg : Qaa (w.heap.size ≤ gb106)); have GE106 := (gz_ hg : Qaa (w.heap.size ≤ gb106)); have NB101_106 := (nl_ hg : Qaa (gb101 ≠ gb106)); have NB106_101 := (ng_ hg : Qaa (gb106 ≠ gb101)); replace BK101 := Qaa.mk (Qac (g := gb101) bk_ hb); replace HB := Qaa.mk (Qad bw_ hb); clear hb hbox hg; have hnb73 := NB106_101.out; have hnc73 := NB101_106.out; obtain ⟨c74_0, c74_1⟩ := Qb2 BK106.out; obtain ⟨f74_0, f74_1⟩ := fz_2 BK106.out; obtain ⟨c75_0, c75_1, c75_2, c75_3, c75_4, c75_5, c75_6, c75_7, c75_8⟩ := Qa6 BK101.out; obtain ⟨f75_0, f75_1, f75_2, f75_3, f75_4, f75_5, f75_6, f75_7, f75_8⟩ := fz_9 BK101.out))
          all_goals go_ret
          all_goals exact ⟨by first | rfl | (simp [Qaw, Qav] <;> rfl) | (simp [*, Qaw, Qav] <;> rfl) | (simp_all; done), bw_⟩
        ·rw [if_neg c66] at H; have c66b0 : (a0_3 == 4) = false := beq_eq_false_iff_ne.mpr c66; have c66b1 : (a0_3 != 4) = true := bne_iff_ne.mpr c66; obtain rfl := Option.some.inj H
         go_wp2_with (first | ((with_reducible refine QaM (N := 7) rfl ?_); refine QaK ?hg (N := 7) ?hd (cs := #[.string (⟨#[]⟩ : ByteArray), .string (⟨#[]⟩ : ByteArray)]) (t := 24) ?hr ?_; (case hd => rfl); (case hg => rfl); (case hr => first | (go_simp; done) | (go_simp; rfl)); intro gb106 hg w76 hbox hb; have BK106 := Qaa.mk (hbox); have GW106 := (gz_ hg : Qaa (w.heap.size ≤ gb106)); have GE106 := (gz_ hg : Qaa (w.heap.size ≤ gb106)); have NB101_106 := (nl_ hg : Qaa (gb101 ≠ gb106)); have NB106_101 := (ng_ hg : Qaa (gb106 ≠ gb101)); replace BK101 := Qaa.mk (Qac (g := gb101) bk_ hb); replace HB := Qaa.mk (Qad bw_ hb); clear hb hbox hg; have hnb77 := NB106_101.out; have hnc77 := NB101_106.out; obtain ⟨c78_0, c78_1⟩ := Qb2 BK106.out; obtain ⟨f78_0, f78_1⟩ := fz_2 BK106.out; obtain ⟨c79_0, c79_1, c79_2, c79_3, c79_4, c79_5, c79_6, c79_7, c79_8⟩ := Qa6 BK101.out; obtain ⟨f79_0, f79_1, f79_2, f79_3, f79_4, f79_5, f79_6, f79_7, f79_8⟩ := fz_9 BK101.out))
         all_goals go_ret
         all_goals exact ⟨by first | rfl | (simp [Qaw, Qav] <;> rfl) | (simp [*, Qaw, Qav] <;> rfl) | (simp_all; done), bw_⟩
     ·rw [if_neg c37] at H; have c37b0 : (a0_4.toList == ([] : List UInt8)) = false := beq_eq_false_iff_ne.mpr c37; have c37b1 : (a0_4.toList != ([] : List UInt8)) = true := bne_iff_ne.mpr c37; obtain rfl := Option.some.inj H
      go_wp2_with (first | ((with_reducible refine QaM (N := 7) rfl ?_); refine QaK ?hg (N := 7) ?hd (cs := #[.string (⟨#[]⟩ : ByteArray), .string (⟨#[]⟩ : ByteArray)]) (t := 24) ?hr ?_; (case hd => rfl); (case hg => rfl); (case hr => first | (go_simp; done) | (go_simp; rfl)); intro gb106 hg w80 hbox hb; have BK106 := Qaa.mk (hbox); have GW106 := (gz_ hg : Qaa (w.heap.size ≤ gb106)); have GE106 := (gz_ hg : Qaa (w.heap.size ≤ gb106)); have NB101_106 := (nl_ hg : Qaa (gb101 ≠ gb106)); have NB106_101 := (ng_ hg : Qaa (gb106 ≠ gb101)); replace BK101 := Qaa.mk (Qac (g := gb101) bk_ hb); replace HB := Qaa.mk (Qad bw_ hb); clear hb hbox hg; have hnb81 := NB106_101.out; have hnc81 := NB101_106.out; obtain ⟨c82_0, c82_1⟩ := Qb2 BK106.out; obtain ⟨f82_0, f82_1⟩ := fz_2 BK106.out; obtain ⟨c83_0, c83_1, c83_2, c83_3, c83_4, c83_5, c83_6, c83_7, c83_8⟩ := Qa6 BK101.out; obtain ⟨f83_0, f83_1, f83_2, f83_3, f83_4, f83_5, f83_6, f83_7, f83_8⟩ := fz_9 BK101.out))
      all_goals go_ret
      all_goals exact ⟨by first | rfl | (simp [Qaw, Qav] <;> rfl) | (simp [*, Qaw, Qav] <;> rfl) | (simp_all; done), bw_⟩
end
section
attribute [local go_sem] QaQ QaO QaZ QaY QaJ QaI QaP QaN
def Qba.f (a0_0 : Int) (a0_1 : Int) (a1_0 : Int) (a1_1 : Int) : Option (Bool) := if a0_0 = a1_0 then (some (decide (a0_1 < a1_1))) else (some (decide (a0_0 < a1_0)))
set_option maxHeartbeats 8000000 in
set_option maxRecDepth 100000 in
theorem Qba.calls (a0_0 : Int) (a0_1 : Int) (a1_0 : Int) (a1_1 : Int) (r : Bool) (w : World) (h : Qba.f a0_0 a0_1 a1_0 a1_1 = some r) :
  Calls Tryz.prog 43 #[.agg #[.int .i64 a0_0, .int .i64 a0_1], .agg #[.int .i64 a1_0, .int .i64 a1_1]] w fun e w' => e = .returned (.bool r) ∧ Below w.heap.size w w' := by
 have hu27 := Tryz.underlying27; have HB := Qaa.mk (Below.refl w.heap.size w); have H : (if a0_0 = a1_0 then (some (decide (a0_1 < a1_1))) else (some (decide (a0_0 < a1_0)))) = some r := h; clear h
 by_cases c3 : a0_0 = a1_0
 ·rw [if_pos c3] at H; have c3b0 : (a0_0 == a1_0) = true := beq_iff_eq.mpr c3; have c3b1 : (a0_0 != a1_0) = false := bne_eq_false_iff_eq.mpr c3; clear c3; obtain rfl := Option.some.inj H; go_enter Tryz.func43, Tryz.ntmps43
  go_wp2_with (first | ((with_reducible refine QaM (N := 2) rfl ?_); refine QaK ?hg (N := 2) ?hd (cs := #[.int .i64 a0_0, .int .i64 a0_1]) (t := 27) ?hr ?_; (case hd => rfl); (case hg => rfl); (case hr => first | (go_simp; done) | (go_simp; rfl)); intro gb101 hg w4 hbox hb; have BK101 := Qaa.mk (hbox); have GW101 := (gz_ hg : Qaa (w.heap.size ≤ gb101)); have GE101 := (gz_ hg : Qaa (w.heap.size ≤ gb101)); replace HB := Qaa.mk (Qad bw_ hb); clear hb hbox hg) | ((with_reducible refine QaM (N := 3) rfl ?_); refine QaK ?hg (N := 3) ?hd (cs := #[.int .i64 a1_0, .int .i64 a1_1]) (t := 27) ?hr ?_; (case hd => rfl); (case hg => rfl); (case hr => first | (go_simp; done) | (go_simp; rfl)); intro gb102 hg w5 hbox hb; have BK102 := Qaa.mk (hbox); have GW102 := (gz_ hg : Qaa (w.heap.size ≤ gb102)); have GE102 := (gz_ hg : Qaa (w.heap.size ≤ gb102)); have NB101_102 := (nl_ hg : Qaa (gb101 ≠ gb102)); have NB102_101 := (ng_ hg : Qaa (gb102 ≠ gb101)); replace BK101 := Qaa.mk (Qac (g := gb101) bk_ hb); replace HB := Qaa.mk (Qad bw_ hb); clear hb hbox hg; have hnb6 := NB101_102.out; have hnc6 := NB102_101.out; obtain ⟨c7_0, c7_1⟩ := cz_ii BK101.out; obtain ⟨f7_0, f7_1⟩ := fz_2 BK101.out; obtain ⟨c8_0, c8_1⟩ := cz_ii BK102.out; obtain ⟨f8_0, f8_1⟩ := fz_2 BK102.out))
  go_ret; exact ⟨by first | rfl | (simp [Qaw, Qav] <;> rfl) | (simp [*, Qaw, Qav] <;> rfl), bw_⟩
 ·rw [if_neg c3] at H; have c3b0 : (a0_0 == a1_0) = false := beq_eq_false_iff_ne.mpr c3; have c3b1 : (a0_0 != a1_0) = true := bne_iff_ne.mpr c3; obtain rfl := Option.some.inj H; go_enter Tryz.func43, Tryz.ntmps43
  go_wp2_with (first | ((with_reducible refine QaM (N := 2) rfl ?_); refine QaK ?hg (N := 2) ?hd (cs := #[.int .i64 a0_0, .int .i64 a0_1]) (t := 27) ?hr ?_; (case hd => rfl); (case hg => rfl); (case hr => first | (go_simp; done) | (go_simp; rfl)); intro gb101 hg w9 hbox hb; have BK101 := Qaa.mk (hbox); have GW101 := (gz_ hg : Qaa (w.heap.size ≤ gb101)); have GE101 := (gz_ hg : Qaa (w.heap.size ≤ gb101)); replace HB := Qaa.mk (Qad bw_ hb); clear hb hbox hg) | ((with_reducible refine QaM (N := 3) rfl ?_); refine QaK ?hg (N := 3) ?hd (cs := #[.int .i64 a1_0, .int .i64 a1_1]) (t := 27) ?hr ?_; (case hd => rfl); (case hg => rfl); (case hr => first | (go_simp; done) | (go_simp; rfl)); intro gb102 hg w10 hbox hb; have BK102 := Qaa.mk (hbox); have GW102 := (gz_ hg : Qaa (w.heap.size ≤ gb102)); have GE102 := (gz_ hg : Qaa (w.heap.size ≤ gb102)); have NB101_102 := (nl_ hg : Qaa (gb101 ≠ gb102)); have NB102_101 := (ng_ hg : Qaa (gb102 ≠ gb101)); replace BK101 := Qaa.mk (Qac (g := gb101) bk_ hb); replace HB := Qaa.mk (Qad bw_ hb); clear hb hbox hg; have hnb11 := NB101_102.out; have hnc11 := NB102_101.out; obtain ⟨c12_0, c12_1⟩ := cz_ii BK101.out; obtain ⟨f12_0, f12_1⟩ := fz_2 BK101.out; obtain ⟨c13_0, c13_1⟩ := cz_ii BK102.out; obtain ⟨f13_0, f13_1⟩ := fz_2 BK102.out))
  go_ret; exact ⟨by first | rfl | (simp [Qaw, Qav] <;> rfl) | (simp [*, Qaw, Qav] <;> rfl), bw_⟩

mutual
def Qap.l0 : Nat → List (S46) → List (S46) → Option ((List (S46)))
 | 0, _, _ => none
 | k + 1, x0, x3 => if (x0.length : Int) > 0 then (Qap.l1 k x0 x3 0 1) else (some x3)
def Qap.l1 : Nat → List (S46) → List (S46) → Int → Int → Option ((List (S46)))
 | 0, _, _, _, _ => none
 | k + 1, x0, x3, x4, x5 => if x5 < (x0.length : Int) then (if 0 ≤ x5 then (if 0 ≤ x4 then (if x4 < (x0.length : Int) then ((Qba.f ((Qae x0 x5).f0.f0) ((Qae x0 x5).f0.f1) ((Qae x0 x4).f0.f0) ((Qae x0 x4).f0.f1)).bind fun t103 => (if t103 = true then (Qap.l1 k x0 x3 x5 (wrap64 (x5 + 1))) else (Qap.l1 k x0 x3 x4 (wrap64 (x5 + 1))))) else (none)) else (none)) else (none)) else (if 0 ≤ x4 then (if x4 < (x0.length : Int) then (if x3.length < 1172812402961 then (if x4 ≤ (x0.length : Int) then ((some (x0.take (x4 : Int).toNat : List (S46))).bind fun y108 => (if ([] : List (S46)).length + y108.length < 1172812402961 then ((some (([] : List (S46)) ++ y108 : List (S46))).bind fun y113 => (if 0 ≤ (wrap64 (x4 + 1)) then (if (wrap64 (x4 + 1)) ≤ (x0.length : Int) then ((some (x0.drop ((wrap64 (x4 + 1)) : Int).toNat : List (S46))).bind fun y116 => (if y113.length + y116.length < 1172812402961 then (Qap.l0 k (y113 ++ y116) (x3 ++ [(⟨(⟨(Qae x0 x4).f0.f0, (Qae x0 x4).f0.f1⟩ : S27), (Qae x0 x4).f1, (Qae x0 x4).f2, (Qae x0 x4).f3, (⟨(Qae x0 x4).f4.f0, (Qae x0 x4).f4.f1⟩ : S24), (⟨(Qae x0 x4).f5.f0, (Qae x0 x4).f5.f1⟩ : S24)⟩ : S46)])) else (none))) else (none)) else (none))) else (none))) else (none)) else (none)) else (none)) else (none))
end
def Qap.f (k : Nat) (l0 : List (S46)) : Option ((List (S46))) := Qap.l0 k l0 ([] : List (S46))
def Qap.T7 : Bool × List (List Nat × List Nat) := (true, [([], []), ([], []), ([0, 1], [0, 1]), ([2], [2]), ([3], [3]), ([], []), ([], []), ([5, 6], [5, 6]), ([7], [7]), ([8], [8]), ([4, 9], [4, 9])])
def Qap.B7 : List Nat := [0, 0, 3, 7, 15, 0, 0, 96, 224, 480, 1023]
theorem Qap.tab7 : rtab .any (opsOf Tryz.f33 7) = Qap.T7 := by kernel_rfl
theorem Qap.bits7 : waitsOk Qap.T7.2 Qap.B7 = true := by kernel_rfl
set_option maxHeartbeats 8000000 in
set_option maxRecDepth 100000 in
theorem Qap.calls (k : Nat) (P0_ : Nat → Prop) (A0 : Option Addr) (c0 : Nat) (l0 : List (S46)) (r : List (S46)) (w : World) (hs0 : Kd.V k46 46 w w.heap.size (fun k_ => P0_ k_) (.slice A0 l0.length c0) l0) (h : Qap.f k l0 = some r) :
  Calls Tryz.prog 33 #[.slice A0 l0.length c0] w fun e w' => ∃ v0_ : Value, e = .returned (v0_) ∧ Kd.R k46 46 w' w.heap.size (fun k_ => (w.heap.size ≤ k_)) v0_ r ∧ Below w.heap.size w w' := by
 have hu27 := Tryz.underlying27; have hu46 := Tryz.underlying46; have HO0 := Qaa.mk (show Kd.V k46 46 w w.heap.size (fun k_ => (P0_ k_ ∨ w.heap.size ≤ k_)) (.slice A0 l0.length c0) l0 from Kd.Qci hs0 (fun k_ hk => .inl hk)); have HB := Qaa.mk (Below.refl w.heap.size w); have H : (Qap.l0 k l0 ([] : List (S46))) = some r := h; clear h; have H' := Qaa.mk H; clear H; go_enter Tryz.func33, Tryz.ntmps33; go_wp2
 go_loopg [0, 3] k (fun kq v0 v3 w' => ∃ (x0_1 : List (S46)) (x3_1 : List (S46)), Qaa (Qap.l0 kq x0_1 x3_1 = some r) ∧ Qaa (kq ≤ k) ∧ Qaa (Kd.V k46 46 w' w.heap.size (fun k_ => (P0_ k_ ∨ w.heap.size ≤ k_) ∧ some k_ ≠ (v3 : Value).ownBlock) v0 x0_1) ∧ Qaa (Kd.R k46 46 w' w.heap.size (fun k_ => (w.heap.size ≤ k_)) v3 x3_1) ∧ Qaa (Below w.heap.size w w'))
 case atStart => exact ⟨(l0), (([] : List (S46))), H', ⟨Nat.le_refl _⟩, ⟨by (with_reducible repeat (first | apply Kd.Qbm | apply Kd.Qbl | apply Kd.Qbz)); exact Kd.Qci HO0.out (fun _ hk => ⟨hk, (by simp [Value.ownBlock])⟩)⟩, ⟨by first | exact Kd.R_nil _ _ _ _ _ | exact Kd.N_nil _ _ _ _ _ | exact Kd.V_nil _ _ _ _ _ | exact Kd.Q_nil _ _ _ _ _ | exact Kd.S_nil _ _ _ _ _⟩, ⟨bw_⟩⟩
 case round =>
  clear H'; obtain ⟨x0_1, x3_1, HA, HK1, HO_0, HO_3, HB⟩ := hrel
  cases gk with
  | zero => exact absurd HA.out (by simp [Qap.l0])
  | succ k1 =>
   have H := HA.out; clear HA; simp only [Qap.l0] at H
   by_cases c2 : (x0_1.length : Int) > 0
   ·rw [if_pos c2] at H; have c2b0 : decide (0 < (x0_1.length : Int)) = true := decide_eq_true c2; have c2b1 : decide (0 < x0_1.length) = true := decide_eq_true (by omega); clear c2; have H' := Qaa.mk H; clear H; obtain ⟨Ao3, co3, eo3⟩ := Kd.V_slice HO_0.out; subst eo3; go_wp2
    go_loopg [4, 5] k1 (fun kq v4 v5 w' => ∃ (x4_2 : Int) (x5_2 : Int), v4 = .int .i64 x4_2 ∧ v5 = .int .i64 x5_2 ∧ Qaa (Qap.l1 kq x0_1 x3_1 x4_2 x5_2 = some r) ∧ Qaa (kq ≤ k1) ∧ Qaa (Kd.V k46 46 w' w.heap.size (fun k_ => (P0_ k_ ∨ w.heap.size ≤ k_) ∧ some k_ ≠ (u3 : Value).ownBlock) (.slice Ao3 x0_1.length co3) x0_1) ∧ Qaa (Kd.R k46 46 w' w.heap.size (fun k_ => (w.heap.size ≤ k_)) u3 x3_1) ∧ Qaa (Below w.heap.size w w'))
    case atStart => exact ⟨(0), (1), (by first | rfl | (simp; done) | (simp [*]; done)), (by first | rfl | (simp; done) | (simp [*]; done)), H', ⟨Nat.le_refl _⟩, ⟨by (with_reducible repeat (first | apply Kd.Qbm | apply Kd.Qbl | apply Kd.Qbz)); exact HO_0.out⟩, ⟨by (with_reducible repeat (first | apply Kd.Qax | apply Kd.Qay | apply Kd.QaE)); exact HO_3.out⟩, ⟨bw_⟩⟩
    case round =>
     clear H'; (try clear c2); (try clear c2b0); (try clear c2b1); (try clear p2); (try clear c3); obtain ⟨x4_2, x5_2, rfl, rfl, HA, HK2, HO_0, HO_3, HB⟩ := hrel
     cases gk with
     | zero => exact absurd HA.out (by simp [Qap.l1])
     | succ k2 =>
      have H := HA.out; clear HA; simp only [Qap.l1] at H
      by_cases c4 : x5_2 < (x0_1.length : Int)
      ·rw [if_pos c4] at H; have c4b0 : decide (x5_2 < (x0_1.length : Int)) = true := decide_eq_true c4; clear c4
       by_cases c5 : 0 ≤ x5_2
       ·rw [if_pos c5] at H; have c5b0 : decide (0 ≤ x5_2) = true := decide_eq_true c5; clear c5
        by_cases c6 : 0 ≤ x4_2
        ·rw [if_pos c6] at H; have c6b0 : decide (0 ≤ x4_2) = true := decide_eq_true c6; clear c6
         by_cases c7 : x4_2 < (x0_1.length : Int)
         ·rw [if_pos c7] at H; have c7b0 : decide (x4_2 < (x0_1.length : Int)) = true := decide_eq_true c7; clear c7; replace H := Option.bind_eq_some_iff.mp H; obtain ⟨t103, A80, H⟩ := H; replace H : (if t103 = true then (Qap.l1 k2 x0_1 x3_1 x5_2 (wrap64 (x5_2 + 1))) else (Qap.l1 k2 x0_1 x3_1 x4_2 (wrap64 (x5_2 + 1)))) = some r := H; have A8 := Qaa.mk A80; clear A80
          by_cases c9 : t103 = true
          ·subst c9
           have H1 : (Qap.l1 k2 x0_1 x3_1 x5_2 (wrap64 (x5_2 + 1))) = some r := by rw [if_pos rfl] at H; exact H
           clear H; have H := H1; clear H1; have H' := Qaa.mk H; clear H
           try go_wp2
           replace HO_0 := Qaa.mk (Kd.Qbz HO_0.out); replace HO_3 := Qaa.mk (Kd.QaE HO_3.out); replace HB := Qaa.mk (Qan HB.out); have p101 : 0 ≤ (x5_2 : Int) := dd_; have q101 : x5_2 < (x0_1.length : Int) := dd_; obtain ⟨ad101, e101, hx101_0, hx101_1, hx101_2, hx101_3, hx101_4, hx101_5, hx101_6, hx101_7, hx101_8⟩ := Qcr (Kd.Qbk HO_0.out).2.2 x5_2 p101 q101; cases e101; replace p101 := eq_true p101; replace q101 := eq_true q101; have p102 : 0 ≤ (x4_2 : Int) := dd_; have q102 : x4_2 < (x0_1.length : Int) := dd_; obtain ⟨ad102, e102, hx102_0, hx102_1, hx102_2, hx102_3, hx102_4, hx102_5, hx102_6, hx102_7, hx102_8⟩ := Qcr (Kd.Qbk HO_0.out).2.2 x4_2 p102 q102
           obtain rfl : ad101 = ad102 := (by injection e102)
           replace p102 := eq_true p102; replace q102 := eq_true q102; refine Qby (n := 11) (S := fun w' => cr_iisisssss w' (ad101.add ((x5_2).toNat * 9)) ((Qae x0_1 x5_2).f0.f0) ((Qae x0_1 x5_2).f0.f1) ((Qae x0_1 x5_2).f1) ((Qae x0_1 x5_2).f2) ((Qae x0_1 x5_2).f3) ((Qae x0_1 x5_2).f4.f0) ((Qae x0_1 x5_2).f4.f1) ((Qae x0_1 x5_2).f5.f0) ((Qae x0_1 x5_2).f5.f1) (crl_iisisssss w' (ad101.add ((x4_2).toNat * 9)) ((Qae x0_1 x4_2).f0.f0) ((Qae x0_1 x4_2).f0.f1) ((Qae x0_1 x4_2).f1) ((Qae x0_1 x4_2).f2) ((Qae x0_1 x4_2).f3) ((Qae x0_1 x4_2).f4.f0) ((Qae x0_1 x4_2).f4.f1) ((Qae x0_1 x4_2).f5.f0) ((Qae x0_1 x4_2).f5.f1))) (ds := []) #[ff,ff,ff,ff,ff,ff,ff,ff,ff,ff,ff] (by kernel_rfl) rfl rfl ⟨hx101_0, hx101_1, hx101_2, hx101_3, hx101_4, hx101_5, hx101_6, hx101_7, hx101_8, hx102_0, hx102_1, hx102_2, hx102_3, hx102_4, hx102_5, hx102_6, hx102_7, hx102_8⟩ (fun hHeld => ?_); refine Qbe Qap.tab7 Qap.bits7 (fun HT_ HW_ => ?_)
           generalize wr.drew = w10 at HO_0 HO_3 HB hx101_0 hx101_1 hx101_2 hx101_3 hx101_4 hx101_5 hx101_6 hx101_7 hx101_8 hx102_0 hx102_1 hx102_2 hx102_3 hx102_4 hx102_5 hx102_6 hx102_7 hx102_8 hHeld ⊢
           refine pz 0 16 ?_; refine pz 1 17 ?_; refine pz 2 18 ?_; refine pz 3 19 ?_; refine pz 5 21 ?_; refine pz 6 22 ?_; refine pz 7 23 ?_; refine pz 8 24 ?_; refine tk18 4 20 ?_; refine tk18 9 25 ?_; refine one_ (i := 10) (N := some 26) #[tt,tt,tt,tt,tt,tt,tt,tt,tt,tt,tt] rfl rfl (QbO HT_.out (by kernel_rfl)) (by decide) (fun K hK => ?_); refine Qcs Tryz.func43 (by kernel_rfl) rfl #[.agg #[.int .i64 ((Qae x0_1 x5_2).f0.f0), .int .i64 ((Qae x0_1 x5_2).f0.f1)], .agg #[.int .i64 ((Qae x0_1 x4_2).f0.f0), .int .i64 ((Qae x0_1 x4_2).f0.f1)]] (by rfl) rfl rfl (by (try simp only [List.map_toArray, List.map_cons, List.map_nil]); first | done | rfl | (simp only [List.length_drop, List.length_take]; rfl)) ?_
           with_reducible refine (Qba.calls ((Qae x0_1 x5_2).f0.f0) ((Qae x0_1 x5_2).f0.f1) ((Qae x0_1 x4_2).f0.f0) ((Qae x0_1 x4_2).f0.f1) true _ A8.out).mono ?_
           rintro e w11 ⟨rfl, hb⟩; have HS0_ := cc_ hb hHeld.1; have HS1_ := cc_ hb hHeld.2.1; have HS2_ := cc_ hb hHeld.2.2.1; have HS3_ := cc_ hb hHeld.2.2.2.1; have HS4_ := cc_ hb hHeld.2.2.2.2.1; have HS5_ := cc_ hb hHeld.2.2.2.2.2.1; have HS6_ := cc_ hb hHeld.2.2.2.2.2.2.1; have HS7_ := cc_ hb hHeld.2.2.2.2.2.2.2.1; have HS8_ := cc_ hb hHeld.2.2.2.2.2.2.2.2.1; have HS9_ := cc_ hb hHeld.2.2.2.2.2.2.2.2.2.1; have HS10_ := cc_ hb hHeld.2.2.2.2.2.2.2.2.2.2.1; have HS11_ := cc_ hb hHeld.2.2.2.2.2.2.2.2.2.2.2.1; have HS12_ := cc_ hb hHeld.2.2.2.2.2.2.2.2.2.2.2.2.1; have HS13_ := cc_ hb hHeld.2.2.2.2.2.2.2.2.2.2.2.2.2.1
           have HS14_ := cc_ hb hHeld.2.2.2.2.2.2.2.2.2.2.2.2.2.2.1; have HS15_ := cc_ hb hHeld.2.2.2.2.2.2.2.2.2.2.2.2.2.2.2.1; have HS16_ := cc_ hb hHeld.2.2.2.2.2.2.2.2.2.2.2.2.2.2.2.2.1; have HS17_ := cc_ hb hHeld.2.2.2.2.2.2.2.2.2.2.2.2.2.2.2.2.2; refine ⟨_, rfl, ?_⟩; replace HO_0 := Qaa.mk (Kd.V_below (by (with_reducible repeat (first | apply Kd.Qbm | apply Kd.Qbl | apply Kd.Qbz)); exact HO_0.out) hb); replace HO_3 := Qaa.mk (Kd.Qau (ro_ HO_3) hb); replace HB := Qaa.mk (Qad bw_ hb)
           (try clear hb)
           (try clear hb2)
           (try clear hk)
           (try clear hi)
           refine hK.out _ _ ⟨HS0_, HS1_, HS2_, HS3_, HS4_, HS5_, HS6_, HS7_, HS8_, HS9_, HS10_, HS11_, HS12_, HS13_, HS14_, HS15_, HS16_, HS17_⟩ (fun hHeld => ?_); clear hK K; refine QbF (a' := ?_) ?_ ?_; rotate_left
           ·show Act.put _ (some 26) _ = _
            simp only [Act.put, put_, Qbt, Qbw]; rfl
           refine QbW (Qbx HT_.out (by kernel_rfl)) ?_
           try go_wp2
           go_roundg k2
           case measure => have := HK1.out; have := HK2.out; omega
           case rel => exact ⟨(x5_2), (wrap64 (x5_2 + 1)), (by first | rfl | (simp; done) | (simp [*]; done)), (by first | rfl | (simp; done) | (simp [*]; done)), H', ⟨by have := HK1.out; have := HK2.out; omega⟩, ⟨by (with_reducible repeat (first | apply Kd.Qbm | apply Kd.Qbl | apply Kd.Qbz)); exact HO_0.out⟩, ⟨by (with_reducible repeat (first | apply Kd.Qax | apply Kd.Qay | apply Kd.QaE)); exact HO_3.out⟩, ⟨bw_⟩⟩
          ·replace c9 := Bool.eq_false_iff.mpr c9; subst c9
           have H1 : (Qap.l1 k2 x0_1 x3_1 x4_2 (wrap64 (x5_2 + 1))) = some r := by rw [if_neg (show ¬ (false = true) by decide)] at H; exact H
           clear H; have H := H1; clear H1; have H' := Qaa.mk H; clear H
           try go_wp2
           replace HO_0 := Qaa.mk (Kd.Qbz HO_0.out); replace HO_3 := Qaa.mk (Kd.QaE HO_3.out); replace HB := Qaa.mk (Qan HB.out); have p101 : 0 ≤ (x5_2 : Int) := dd_; have q101 : x5_2 < (x0_1.length : Int) := dd_; obtain ⟨ad101, e101, hx101_0, hx101_1, hx101_2, hx101_3, hx101_4, hx101_5, hx101_6, hx101_7, hx101_8⟩ := Qcr (Kd.Qbk HO_0.out).2.2 x5_2 p101 q101; cases e101; replace p101 := eq_true p101; replace q101 := eq_true q101; have p102 : 0 ≤ (x4_2 : Int) := dd_; have q102 : x4_2 < (x0_1.length : Int) := dd_; obtain ⟨ad102, e102, hx102_0, hx102_1, hx102_2, hx102_3, hx102_4, hx102_5, hx102_6, hx102_7, hx102_8⟩ := Qcr (Kd.Qbk HO_0.out).2.2 x4_2 p102 q102
           obtain rfl : ad101 = ad102 := (by injection e102)
           replace p102 := eq_true p102; replace q102 := eq_true q102; refine Qby (n := 11) (S := fun w' => cr_iisisssss w' (ad101.add ((x5_2).toNat * 9)) ((Qae x0_1 x5_2).f0.f0) ((Qae x0_1 x5_2).f0.f1) ((Qae x0_1 x5_2).f1) ((Qae x0_1 x5_2).f2) ((Qae x0_1 x5_2).f3) ((Qae x0_1 x5_2).f4.f0) ((Qae x0_1 x5_2).f4.f1) ((Qae x0_1 x5_2).f5.f0) ((Qae x0_1 x5_2).f5.f1) (crl_iisisssss w' (ad101.add ((x4_2).toNat * 9)) ((Qae x0_1 x4_2).f0.f0) ((Qae x0_1 x4_2).f0.f1) ((Qae x0_1 x4_2).f1) ((Qae x0_1 x4_2).f2) ((Qae x0_1 x4_2).f3) ((Qae x0_1 x4_2).f4.f0) ((Qae x0_1 x4_2).f4.f1) ((Qae x0_1 x4_2).f5.f0) ((Qae x0_1 x4_2).f5.f1))) (ds := []) #[ff,ff,ff,ff,ff,ff,ff,ff,ff,ff,ff] (by kernel_rfl) rfl rfl ⟨hx101_0, hx101_1, hx101_2, hx101_3, hx101_4, hx101_5, hx101_6, hx101_7, hx101_8, hx102_0, hx102_1, hx102_2, hx102_3, hx102_4, hx102_5, hx102_6, hx102_7, hx102_8⟩ (fun hHeld => ?_); refine Qbe Qap.tab7 Qap.bits7 (fun HT_ HW_ => ?_)
           generalize wr.drew = w12 at HO_0 HO_3 HB hx101_0 hx101_1 hx101_2 hx101_3 hx101_4 hx101_5 hx101_6 hx101_7 hx101_8 hx102_0 hx102_1 hx102_2 hx102_3 hx102_4 hx102_5 hx102_6 hx102_7 hx102_8 hHeld ⊢
           refine pz 0 16 ?_; refine pz 1 17 ?_; refine pz 2 18 ?_; refine pz 3 19 ?_; refine pz 5 21 ?_; refine pz 6 22 ?_; refine pz 7 23 ?_; refine pz 8 24 ?_; refine tk18 4 20 ?_; refine tk18 9 25 ?_; refine one_ (i := 10) (N := some 26) #[tt,tt,tt,tt,tt,tt,tt,tt,tt,tt,tt] rfl rfl (QbO HT_.out (by kernel_rfl)) (by decide) (fun K hK => ?_); refine Qcs Tryz.func43 (by kernel_rfl) rfl #[.agg #[.int .i64 ((Qae x0_1 x5_2).f0.f0), .int .i64 ((Qae x0_1 x5_2).f0.f1)], .agg #[.int .i64 ((Qae x0_1 x4_2).f0.f0), .int .i64 ((Qae x0_1 x4_2).f0.f1)]] (by rfl) rfl rfl (by (try simp only [List.map_toArray, List.map_cons, List.map_nil]); first | done | rfl | (simp only [List.length_drop, List.length_take]; rfl)) ?_
           with_reducible refine (Qba.calls ((Qae x0_1 x5_2).f0.f0) ((Qae x0_1 x5_2).f0.f1) ((Qae x0_1 x4_2).f0.f0) ((Qae x0_1 x4_2).f0.f1) false _ A8.out).mono ?_
           rintro e w13 ⟨rfl, hb⟩; have HS0_ := cc_ hb hHeld.1; have HS1_ := cc_ hb hHeld.2.1; have HS2_ := cc_ hb hHeld.2.2.1; have HS3_ := cc_ hb hHeld.2.2.2.1; have HS4_ := cc_ hb hHeld.2.2.2.2.1; have HS5_ := cc_ hb hHeld.2.2.2.2.2.1; have HS6_ := cc_ hb hHeld.2.2.2.2.2.2.1; have HS7_ := cc_ hb hHeld.2.2.2.2.2.2.2.1; have HS8_ := cc_ hb hHeld.2.2.2.2.2.2.2.2.1; have HS9_ := cc_ hb hHeld.2.2.2.2.2.2.2.2.2.1; have HS10_ := cc_ hb hHeld.2.2.2.2.2.2.2.2.2.2.1; have HS11_ := cc_ hb hHeld.2.2.2.2.2.2.2.2.2.2.2.1; have HS12_ := cc_ hb hHeld.2.2.2.2.2.2.2.2.2.2.2.2.1; have HS13_ := cc_ hb hHeld.2.2.2.2.2.2.2.2.2.2.2.2.2.1
           have HS14_ := cc_ hb hHeld.2.2.2.2.2.2.2.2.2.2.2.2.2.2.1; have HS15_ := cc_ hb hHeld.2.2.2.2.2.2.2.2.2.2.2.2.2.2.2.1; have HS16_ := cc_ hb hHeld.2.2.2.2.2.2.2.2.2.2.2.2.2.2.2.2.1; have HS17_ := cc_ hb hHeld.2.2.2.2.2.2.2.2.2.2.2.2.2.2.2.2.2; refine ⟨_, rfl, ?_⟩; replace HO_0 := Qaa.mk (Kd.V_below (by (with_reducible repeat (first | apply Kd.Qbm | apply Kd.Qbl | apply Kd.Qbz)); exact HO_0.out) hb); replace HO_3 := Qaa.mk (Kd.Qau (ro_ HO_3) hb); replace HB := Qaa.mk (Qad bw_ hb)
           (try clear hb)
           (try clear hb2)
           (try clear hk)
           (try clear hi)
           refine hK.out _ _ ⟨HS0_, HS1_, HS2_, HS3_, HS4_, HS5_, HS6_, HS7_, HS8_, HS9_, HS10_, HS11_, HS12_, HS13_, HS14_, HS15_, HS16_, HS17_⟩ (fun hHeld => ?_); clear hK K; refine QbF (a' := ?_) ?_ ?_; rotate_left
           ·show Act.put _ (some 26) _ = _
            simp only [Act.put, put_, Qbt, Qbw]; rfl
           refine QbW (Qbx HT_.out (by kernel_rfl)) ?_
           try go_wp2
           go_roundg k2
           case measure => have := HK1.out; have := HK2.out; omega
           case rel => exact ⟨(x4_2), (wrap64 (x5_2 + 1)), (by first | rfl | (simp; done) | (simp [*]; done)), (by first | rfl | (simp; done) | (simp [*]; done)), H', ⟨by have := HK1.out; have := HK2.out; omega⟩, ⟨by (with_reducible repeat (first | apply Kd.Qbm | apply Kd.Qbl | apply Kd.Qbz)); exact HO_0.out⟩, ⟨by (with_reducible repeat (first | apply Kd.Qax | apply Kd.Qay | apply Kd.QaE)); exact HO_3.out⟩, ⟨bw_⟩⟩
         ·rw [if_neg c7] at H; exact absurd H (by simp)
        ·rw [if_neg c6] at H; exact absurd H (by simp)
       ·rw [if_neg c5] at H; exact absurd H (by simp)
      ·rw [if_neg c4] at H; have c4b0 : decide (x5_2 < (x0_1.length : Int)) = false := decide_eq_false c4; clear c4
       by_cases c14 : 0 ≤ x4_2
       ·rw [if_pos c14] at H; have c14b0 : decide (0 ≤ x4_2) = true := decide_eq_true c14; clear c14
        by_cases c15 : x4_2 < (x0_1.length : Int)
        ·rw [if_pos c15] at H; have c15b0 : decide (x4_2 < (x0_1.length : Int)) = true := decide_eq_true c15; clear c15
         by_cases c16 : x3_1.length < 1172812402961
         ·rw [if_pos c16] at H; have LMc16 := Qaa.mk c16; clear c16
          obtain ⟨y105, hy105⟩ : ∃ y_ : List (S46), y_ = (x3_1 ++ [(⟨(⟨(Qae x0_1 x4_2).f0.f0, (Qae x0_1 x4_2).f0.f1⟩ : S27), (Qae x0_1 x4_2).f1, (Qae x0_1 x4_2).f2, (Qae x0_1 x4_2).f3, (⟨(Qae x0_1 x4_2).f4.f0, (Qae x0_1 x4_2).f4.f1⟩ : S24), (⟨(Qae x0_1 x4_2).f5.f0, (Qae x0_1 x4_2).f5.f1⟩ : S24)⟩ : S46)]) := ⟨_, rfl⟩
          replace H : (if x4_2 ≤ (x0_1.length : Int) then ((some (x0_1.take (x4_2 : Int).toNat : List (S46))).bind fun y108 => (if ([] : List (S46)).length + y108.length < 1172812402961 then ((some (([] : List (S46)) ++ y108 : List (S46))).bind fun y113 => (if 0 ≤ (wrap64 (x4_2 + 1)) then (if (wrap64 (x4_2 + 1)) ≤ (x0_1.length : Int) then ((some (x0_1.drop ((wrap64 (x4_2 + 1)) : Int).toNat : List (S46))).bind fun y116 => (if y113.length + y116.length < 1172812402961 then (Qap.l0 k2 (y113 ++ y116) y105) else (none))) else (none)) else (none))) else (none))) else (none)) = some r := by first | (rw [hy105]; with_reducible exact H) | (have H2_ := (Option.bind_some _ _).symm.trans H; rw [hy105]; with_reducible exact H2_) | (have H2_ := (Option.bind_some _ _).symm.trans H; with_reducible exact H2_) | with_reducible exact H | (rw [hy105]; exact H) | exact H
          have Ny105 := Qaa.mk hy105; clear hy105; have c17b0 := eq_true (dd_ : 0 ≤ x4_2)
          by_cases c18 : x4_2 ≤ (x0_1.length : Int)
          ·rw [if_pos c18] at H; have c18b0 := eq_true c18; have c18b1 : decide (x4_2 ≤ (x0_1.length : Int)) = true := decide_eq_true c18; clear c18
           obtain ⟨y108, hy108⟩ : ∃ y_ : List (S46), y_ = (x0_1.take (x4_2 : Int).toNat) := ⟨_, rfl⟩
           replace H : (if ([] : List (S46)).length + y108.length < 1172812402961 then ((some (([] : List (S46)) ++ y108 : List (S46))).bind fun y113 => (if 0 ≤ (wrap64 (x4_2 + 1)) then (if (wrap64 (x4_2 + 1)) ≤ (x0_1.length : Int) then ((some (x0_1.drop ((wrap64 (x4_2 + 1)) : Int).toNat : List (S46))).bind fun y116 => (if y113.length + y116.length < 1172812402961 then (Qap.l0 k2 (y113 ++ y116) y105) else (none))) else (none)) else (none))) else (none)) = some r := by first | (rw [hy108]; with_reducible exact H) | (have H2_ := (Option.bind_some _ _).symm.trans H; rw [hy108]; with_reducible exact H2_) | (have H2_ := (Option.bind_some _ _).symm.trans H; with_reducible exact H2_) | with_reducible exact H | (rw [hy108]; exact H) | exact H
           have Ny108 := Qaa.mk hy108; clear hy108
           by_cases c19 : ([] : List (S46)).length + y108.length < 1172812402961
           ·rw [if_pos c19] at H; have LMc19 := Qaa.mk c19; clear c19
            obtain ⟨y113, hy113⟩ : ∃ y_ : List (S46), y_ = (([] : List (S46)) ++ y108) := ⟨_, rfl⟩
            replace H : (if 0 ≤ (wrap64 (x4_2 + 1)) then (if (wrap64 (x4_2 + 1)) ≤ (x0_1.length : Int) then ((some (x0_1.drop ((wrap64 (x4_2 + 1)) : Int).toNat : List (S46))).bind fun y116 => (if y113.length + y116.length < 1172812402961 then (Qap.l0 k2 (y113 ++ y116) y105) else (none))) else (none)) else (none)) = some r := by first | (rw [hy113]; with_reducible exact H) | (have H2_ := (Option.bind_some _ _).symm.trans H; rw [hy113]; with_reducible exact H2_) | (have H2_ := (Option.bind_some _ _).symm.trans H; with_reducible exact H2_) | with_reducible exact H | (rw [hy113]; exact H) | exact H
            have Ny113 := Qaa.mk hy113; clear hy113
            obtain ⟨ji20, hji20⟩ : ∃ j_ : Int, (wrap64 (x4_2 + 1)) = j_ := ⟨_, rfl⟩
            replace H : (if 0 ≤ (ji20) then (if (ji20) ≤ (x0_1.length : Int) then ((some (x0_1.drop ((ji20) : Int).toNat : List (S46))).bind fun y116 => (if y113.length + y116.length < 1172812402961 then (Qap.l0 k2 (y113 ++ y116) y105) else (none))) else (none)) else (none)) = some r := by first | (rw [hji20] at H; exact H) | (simp only [hji20] at H ⊢; exact H)
            have hji20w : (IntKind.i64.wrap (x4_2 + 1)) = ji20 := (Qbt _).trans hji20
            by_cases c21 : 0 ≤ (ji20)
            ·rw [if_pos c21] at H; have c21b0 := eq_true c21; have c21b1 : decide (0 ≤ (ji20)) = true := decide_eq_true c21; clear c21
             by_cases c22 : (ji20) ≤ (x0_1.length : Int)
             ·rw [if_pos c22] at H; have c22b0 := eq_true c22; have c22b1 : decide ((ji20) ≤ (x0_1.length : Int)) = true := decide_eq_true c22; clear c22
              obtain ⟨y116, hy116⟩ : ∃ y_ : List (S46), y_ = (x0_1.drop ((ji20) : Int).toNat) := ⟨_, rfl⟩
              replace H : (if y113.length + y116.length < 1172812402961 then (Qap.l0 k2 (y113 ++ y116) y105) else (none)) = some r := by first | (rw [hy116]; with_reducible exact H) | (have H2_ := (Option.bind_some _ _).symm.trans H; rw [hy116]; with_reducible exact H2_) | (have H2_ := (Option.bind_some _ _).symm.trans H; with_reducible exact H2_) | with_reducible exact H | (rw [hy116]; exact H) | exact H
              have Ny116 := Qaa.mk hy116; clear hy116
              by_cases c23 : y113.length + y116.length < 1172812402961
              ·rw [if_pos c23] at H; have LMc23 := Qaa.mk c23; clear c23
               obtain ⟨y121, hy121⟩ : ∃ y_ : List (S46), y_ = (y113 ++ y116) := ⟨_, rfl⟩
               replace H : (Qap.l0 k2 y121 y105) = some r := by first | (rw [hy121]; with_reducible exact H) | (have H2_ := (Option.bind_some _ _).symm.trans H; rw [hy121]; with_reducible exact H2_) | (have H2_ := (Option.bind_some _ _).symm.trans H; with_reducible exact H2_) | with_reducible exact H | (rw [hy121]; exact H) | exact H
               have Ny121 := Qaa.mk hy121; clear hy121; have H' := Qaa.mk H; clear H; have p104 : 0 ≤ (x4_2 : Int) := dd_; have q104 : x4_2 < (x0_1.length : Int) := dd_; obtain ⟨ad104, e104, hx104_0, hx104_1, hx104_2, hx104_3, hx104_4, hx104_5, hx104_6, hx104_7, hx104_8⟩ := Qcr (Kd.Qbk HO_0.out).2.2 x4_2 p104 q104; cases e104; replace p104 := eq_true p104; replace q104 := eq_true q104
               go_wp2_with (first | ((with_reducible refine Qa3 (b := .append) (xs := #[.tmp 28, .tmp 33]) rfl ?_); at_builtin; refine Kd.QbB k46 (w0 := w) w.heap.size rfl (.tmp 28) (.tmp 33) 22 46 (.agg #[(.int .i64 0), (.int .i64 0), (.string ⟨#[]⟩), (.int .i64 0), (.string ⟨#[]⟩), (.string ⟨#[]⟩), (.string ⟨#[]⟩), (.string ⟨#[]⟩), (.string ⟨#[]⟩)]) 120 rfl Tryz.underlying22 info46 rfl (by decide) (by omega) u3 x3_1 (⟨(⟨(Qae x0_1 x4_2).f0.f0, (Qae x0_1 x4_2).f0.f1⟩ : S27), (Qae x0_1 x4_2).f1, (Qae x0_1 x4_2).f2, (Qae x0_1 x4_2).f3, (⟨(Qae x0_1 x4_2).f4.f0, (Qae x0_1 x4_2).f4.f1⟩ : S24), (⟨(Qae x0_1 x4_2).f5.f0, (Qae x0_1 x4_2).f5.f1⟩ : S24)⟩ : S46) [.int .i64 ((Qae x0_1 x4_2).f0.f0), .int .i64 ((Qae x0_1 x4_2).f0.f1), .string ((Qae x0_1 x4_2).f1), .int .i64 ((Qae x0_1 x4_2).f2), .string ((Qae x0_1 x4_2).f3), .string ((Qae x0_1 x4_2).f4.f0), .string ((Qae x0_1 x4_2).f4.f1), .string ((Qae x0_1 x4_2).f5.f0), .string ((Qae x0_1 x4_2).f5.f1)] (fun k_ => (w.heap.size ≤ k_)) (fun _ => False) rfl rfl ?aP (fun _ hk => hk.elim) ?aF ?aO ?aB ?aS ?aL ?_; (case aP => exact Qcu _ _ _ (⟨(⟨(Qae x0_1 x4_2).f0.f0, (Qae x0_1 x4_2).f0.f1⟩ : S27), (Qae x0_1 x4_2).f1, (Qae x0_1 x4_2).f2, (Qae x0_1 x4_2).f3, (⟨(Qae x0_1 x4_2).f4.f0, (Qae x0_1 x4_2).f4.f1⟩ : S24), (⟨(Qae x0_1 x4_2).f5.f0, (Qae x0_1 x4_2).f5.f1⟩ : S24)⟩ : S46)); (case aB => exact bw_); (case aF => exact (fun k_ hk => (Nat.le_trans (QaD bw_) hk))); (case aO => exact (ro_ HO_3)); (case aS => exact (QaD bw_)); (case aL => have := LMc16.out; omega); intro v106 w24 ho hb hg hat; rw [← Ny105.out] at ho; have n0_ := Qaa.mk (Kd.V_afterv (ok := (fun k_ => (P0_ k_ ∨ w.heap.size ≤ k_))) (by (with_reducible repeat (first | apply Kd.Qbm | apply Kd.Qbl | apply Kd.Qbz)); exact HO_0.out) hg hat); have n1_ := Qaa.mk (hb); have n2_ := Qaa.mk (ho); clear HO_0; clear HB; clear HO_3; have HO_0 := n0_; have HB := n1_; have HO107 := n2_; clear n0_ n1_ n2_; clear ho hb hg hat; have q25 : (x4_2 : Int) ≤ ((x0_1.length : Int) : Int) := dd_; obtain ⟨i025, hi025, _, hsz25, _⟩ := info_parts info46; have hroom25 : x0_1.length ≤ co3 := (Kd.Qbk HO_0.out).2.1; have hC25 : Kd.F k46 _ _ (some ad104) x0_1.length x0_1 := (Kd.V_at (base := w.heap.size) HO_0.out).2.2; have hcut25 := cut_to (P := Tryz.prog) 22 46 .i64 Tryz.underlying22 hi025 (some ad104) x0_1.length co3 x4_2 (dd_) q25 hroom25; have hr25 := Kd.F_take (m := (x4_2 : Int).toNat) hC25 (by omega); have hy25 : y108.length = (x4_2 : Int).toNat := (by rw [Ny108.out, List.length_take]; omega); rw [← Ny108.out] at hr25; rw [← hy25] at hcut25; have HO112 := Qaa.mk (show Kd.V k46 46 _ w.heap.size _ (.slice (some ad104) y108.length co3) y108 from Kd.V_mk (by omega) hr25); have HC112 := Qaa.mk (show y108.length ≤ co3 from by omega); clear hr25 hC25 hroom25 hi025 hsz25; have KY25 := Qaa.mk hy25; clear hy25; replace q25 := eq_true q25) | ((with_reducible refine Qa3 (b := .append) (xs := #[.tmp 35, .tmp 38]) rfl ?_); at_builtin; refine Kd.Qb6 k46 (w0 := w) w.heap.size rfl (.tmp 35) (.tmp 38) 22 46 (.agg #[(.int .i64 0), (.int .i64 0), (.string ⟨#[]⟩), (.int .i64 0), (.string ⟨#[]⟩), (.string ⟨#[]⟩), (.string ⟨#[]⟩), (.string ⟨#[]⟩), (.string ⟨#[]⟩)]) 120 rfl Tryz.underlying22 info46 rfl (by decide) (by omega) (.slice none 0 0) ([] : List (S46)) y108 _ _ _ (fun k_ => (w.heap.size ≤ k_) ∧ some k_ ≠ (v106 : Value).ownBlock) (fun _ => False) rfl rfl ?aO ?aR (fun _ _ h => h) (fun _ h => h.elim) ?aF ?aB ?aS ?aL ?_; (case aR => exact kd_ ((Kd.Qbk HO112.out).2.2)); (case aB => exact bw_); (case aF => exact (fun k_ hk => ⟨(Nat.le_trans (QaD bw_) hk), Kd.fresh' (Kd.R_lt (ro_ HO107)) k_ hk⟩)); (case aO => exact ((Kd.R_nil _ _ _ _ (fun k_ => (w.heap.size ≤ k_) ∧ some k_ ≠ (v106 : Value).ownBlock)))); (case aS => exact (QaD bw_)); (case aL => have := LMc19.out; omega); intro v114 w26 ho hb hg hat; rw [← Ny113.out] at ho; have HO115 := Qaa.mk (ho); replace HO_0 := Qaa.mk (Kd.V_afterv (Kd.V_apart_nil (by (with_reducible repeat (first | apply Kd.Qbm | apply Kd.Qbl | apply Kd.Qbz)); exact HO_0.out)) hg hat); replace HO107 := Qaa.mk (Kd.QbJ (Kd.R_apart_nil (ro_ HO107)) hg hat); replace HO112 := Qaa.mk (Kd.V_afterv (Kd.V_apart_nil (by (with_reducible repeat (first | apply Kd.Qbm | apply Kd.Qbl | apply Kd.Qbz)); exact HO112.out)) hg hat); replace HB := Qaa.mk (hb); clear ho hb hg hat; have q27 : ((ji20) : Int) ≤ ((x0_1.length : Int) : Int) := dd_; obtain ⟨i027, hi027, _, hsz27, _⟩ := info_parts info46; have hroom27 : x0_1.length ≤ co3 := (Kd.Qbk HO_0.out).2.1; have hC27 : Kd.F k46 _ _ (some ad104) x0_1.length x0_1 := (Kd.V_at (base := w.heap.size) HO_0.out).2.2; have q027 : (0 : Int) ≤ ((ji20) : Int) := dd_; have hcut27 := cut_from (P := Tryz.prog) 22 46 .i64 Tryz.underlying22 hi027 9 hsz27 (some ad104) x0_1.length co3 (ji20) q027 q27; have hr27 := Kd.F_cut (m := ((ji20) : Int).toNat) (c := co3) hC27 (by omega) hroom27; obtain ⟨A27, hA27⟩ : ∃ A1, A1 = (if co3 = ((ji20) : Int).toNat then (some ad104) else ((some ad104) : Option Addr).map (·.add (((ji20) : Int).toNat * 9))) := ⟨_, rfl⟩; obtain ⟨c27, hc27⟩ : ∃ c1, c1 = co3 - ((ji20) : Int).toNat := ⟨_, rfl⟩; have hy27 : y116.length = x0_1.length - ((ji20) : Int).toNat := (by rw [Ny116.out, List.length_drop] <;> omega); rw [show (x0_1).drop ((ji20) : Int).toNat = y116 from Ny116.out.symm] at hr27; replace hr27 : Kd.F k46 _ _ A27 y116.length y116 := (by rw [hA27]; exact hr27); rw [← hy27, ← hA27, ← hc27] at hcut27; have HO120 := Qaa.mk (show Kd.V k46 46 _ w.heap.size _ (.slice A27 y116.length c27) y116 from Kd.V_mk (by rw [hy27, hc27]; exact Nat.sub_le_sub_right hroom27 _) hr27); have HC120 := Qaa.mk (show y116.length ≤ c27 from by rw [hy27, hc27]; exact Nat.sub_le_sub_right hroom27 _); clear hr27 hC27 hroom27 hi027 hsz27 hc27; have KY27 := Qaa.mk hy27; have KA27 := Qaa.mk hA27; clear hy27 hA27; replace q27 := eq_true q27) | ((with_reducible refine Qa3 (b := .append) (xs := #[.tmp 40, .tmp 44]) rfl ?_); at_builtin; refine Kd.Qb6 k46 (w0 := w) w.heap.size rfl (.tmp 40) (.tmp 44) 22 46 (.agg #[(.int .i64 0), (.int .i64 0), (.string ⟨#[]⟩), (.int .i64 0), (.string ⟨#[]⟩), (.string ⟨#[]⟩), (.string ⟨#[]⟩), (.string ⟨#[]⟩), (.string ⟨#[]⟩)]) 120 rfl Tryz.underlying22 info46 rfl (by decide) (by omega) v114 y113 y116 _ _ _ (fun k_ => (w.heap.size ≤ k_) ∧ some k_ ≠ (v106 : Value).ownBlock) (fun _ => False) rfl rfl ?aO ?aR (fun _ _ h => h) (fun _ h => h.elim) ?aF ?aB ?aS ?aL ?_; (case aR => exact kd_ ((Kd.Qbk HO120.out).2.2)); (case aB => exact bw_); (case aF => exact (fun k_ hk => ⟨(Nat.le_trans (QaD bw_) hk), Kd.fresh' (Kd.R_lt (ro_ HO107)) k_ hk⟩)); (case aO => exact (ro_ HO115)); (case aS => exact (QaD bw_)); (case aL => have := LMc23.out; omega); intro v122 w28 ho hb hg hat; rw [← Ny121.out] at ho; have n0_ := Qaa.mk (Kd.V_afterv (ok := (fun k_ => (P0_ k_ ∨ w.heap.size ≤ k_) ∧ some k_ ≠ (v106 : Value).ownBlock)) (by (with_reducible repeat (first | apply Kd.Qbm | apply Kd.Qbl | apply Kd.Qbz)); exact HO_0.out) hg hat); have n1_ := Qaa.mk (Kd.QbJ (ok := (fun k_ => (w.heap.size ≤ k_))) (ro_ HO107) hg hat); have n2_ := Qaa.mk (Kd.V_afterv (ok := (fun k_ => (P0_ k_ ∨ w.heap.size ≤ k_) ∧ some k_ ≠ (v106 : Value).ownBlock)) (by (with_reducible repeat (first | apply Kd.Qbm | apply Kd.Qbl | apply Kd.Qbz)); exact HO112.out) hg hat); have n3_ := Qaa.mk (Kd.V_afterv (ok := (fun k_ => (P0_ k_ ∨ w.heap.size ≤ k_) ∧ some k_ ≠ (v106 : Value).ownBlock)) (by (with_reducible repeat (first | apply Kd.Qbm | apply Kd.Qbl | apply Kd.Qbz)); exact HO120.out) hg hat); have n4_ := Qaa.mk (hb); have n5_ := Qaa.mk (ho); clear HO_0; clear HO107; clear HO112; clear HO120; clear HB; clear HO115; have HO_0 := n0_; have HO107 := n1_; have HO112 := n2_; have HO120 := n3_; have HB := n4_; have HO123 := n5_; clear n0_ n1_ n2_ n3_ n4_ n5_; clear ho hb hg hat))
               go_roundg k2
               case measure => have := HK1.out; have := HK2.out; omega
               case rel => exact ⟨(y121), (y105), H', ⟨by have := HK1.out; have := HK2.out; omega⟩, ⟨Kd.Qci (Kd.R_V (ro_ HO123)) (fun k_ hk => by first | exact ⟨(.inr (hk.1)), hk.2⟩ | exact (.inr (hk)))⟩, ⟨by (with_reducible repeat (first | apply Kd.Qax | apply Kd.Qay | apply Kd.QaE)); exact Kd.QaL HO107.out (fun _ hk => hk.1)⟩, ⟨bw_⟩⟩
              ·rw [if_neg c23] at H; exact absurd H (by simp)
             ·rw [if_neg c22] at H; exact absurd H (by simp)
            ·rw [if_neg c21] at H; exact absurd H (by simp)
           ·rw [if_neg c19] at H; exact absurd H (by simp)
          ·rw [if_neg c18] at H; exact absurd H (by simp)
         ·rw [if_neg c16] at H; exact absurd H (by simp)
        ·rw [if_neg c15] at H; exact absurd H (by simp)
       ·rw [if_neg c14] at H; exact absurd H (by simp)
   ·rw [if_neg c2] at H; have c2b0 : decide (0 < (x0_1.length : Int)) = false := decide_eq_false c2; have c2b1 : decide (0 < x0_1.length) = false := decide_eq_false (by omega); clear c2; obtain rfl := Option.some.inj H; obtain ⟨Ao29, co29, eo29⟩ := Kd.V_slice HO_0.out; subst eo29; go_wp2; go_ret; exact ⟨_, by first | rfl | (simp [Qaw, Qav] <;> rfl) | (simp [*, Qaw, Qav] <;> rfl), by (with_reducible repeat (first | apply Kd.Qax | apply Kd.Qay | apply Kd.QaE)); exact HO_3.out, bw_⟩
end
section
attribute [local go_sem] QaQ QaO QaZ QaY QaJ QaI QaP QaN
attribute [local go_sem high] eqA27
mutual
def Qao.l0 : Nat → List (S46) → List (S46) → Int → Option ((List (S46)))
 | 0, _, _, _ => none
 | k + 1, x0, x3, x4 => if x4 < (x0.length : Int) then (if 0 ≤ x4 then ((QaA.f k ((Qae x0 x4).f0.f0) ((Qae x0 x4).f0.f1) ((Qae x0 x4).f1) ((Qae x0 x4).f2) ((Qae x0 x4).f3) ((Qae x0 x4).f4.f0) ((Qae x0 x4).f4.f1) ((Qae x0 x4).f5.f0) ((Qae x0 x4).f5.f1)).bind fun t105 => (Qao.l1 k x0 x3 x4 t105 false 0)) else (none)) else ((Qap.f k x3).bind fun t101 => (some t101))
def Qao.l1 : Nat → List (S46) → List (S46) → Int → Bool → Bool → Int → Option ((List (S46)))
 | 0, _, _, _, _, _, _ => none
 | k + 1, x0, x3, x4, x5, x6, x7 => if x7 < (x3.length : Int) then (if x6 = true then (Qao.l1 k x0 x3 x4 x5 true (wrap64 (x7 + 1))) else (if 0 ≤ x7 then (if 0 ≤ x4 then (if x4 < (x0.length : Int) then (Qao.l1 k x0 x3 x4 x5 (((Qae x3 x7).f0.f0) == ((Qae x0 x4).f0.f0) && (((Qae x3 x7).f0.f1) == ((Qae x0 x4).f0.f1))) (wrap64 (x7 + 1))) else (none)) else (none)) else (none))) else (if x5 = true then (if x6 = true then (Qao.l0 k x0 x3 (wrap64 (x4 + 1))) else (if 0 ≤ x4 then (if x4 < (x0.length : Int) then (if x3.length < 1172812402961 then (Qao.l0 k x0 (x3 ++ [(⟨(⟨(Qae x0 x4).f0.f0, (Qae x0 x4).f0.f1⟩ : S27), (Qae x0 x4).f1, (Qae x0 x4).f2, (Qae x0 x4).f3, (⟨(Qae x0 x4).f4.f0, (Qae x0 x4).f4.f1⟩ : S24), (⟨(Qae x0 x4).f5.f0, (Qae x0 x4).f5.f1⟩ : S24)⟩ : S46)]) (wrap64 (x4 + 1))) else (none)) else (none)) else (none))) else (Qao.l0 k x0 x3 (wrap64 (x4 + 1))))
end
def Qao.f (k : Nat) (l0 : List (S46)) : Option ((List (S46))) := Qao.l0 k l0 ([] : List (S46)) 0
set_option maxHeartbeats 8000000 in
set_option maxRecDepth 100000 in
theorem Qao.calls (k : Nat) (A0 : Option Addr) (c0 : Nat) (l0 : List (S46)) (r : List (S46)) (w : World) (hr0 : Kd.C k46 w A0 l0.length l0) (hc0 : l0.length ≤ c0) (h : Qao.f k l0 = some r) :
  Calls Tryz.prog 18 #[.slice A0 l0.length c0] w fun e w' => ∃ v0_ : Value, e = .returned (v0_) ∧ Kd.R k46 46 w' w.heap.size (fun _ => True) v0_ r ∧ Below w.heap.size w w' := by
 have hu46 := Tryz.underlying46; have hu27 := Tryz.underlying27; have HR0 := Qaa.mk hr0; have HC0 := Qaa.mk hc0; clear hr0 hc0; have HB := Qaa.mk (Below.refl w.heap.size w); have H : (Qao.l0 k l0 ([] : List (S46)) 0) = some r := h; clear h; have H' := Qaa.mk H; clear H; go_enter Tryz.func18, Tryz.ntmps18; go_wp2
 repeat (go_quiet (fail); try go_wp2)
 go_loopg [3, 4] k (fun kq v3 v4 w' => ∃ (x3_1 : List (S46)) (x4_1 : Int), v4 = .int .i64 x4_1 ∧ Qaa (Qao.l0 kq l0 x3_1 x4_1 = some r) ∧ Qaa (kq ≤ k) ∧ Qaa (Kd.R k46 46 w' w.heap.size (fun _ => True) v3 x3_1) ∧ Qaa (Below w.heap.size w w'))
 case atStart => exact ⟨(([] : List (S46))), (0), (by first | rfl | (simp; done) | (simp [*]; done)), H', ⟨Nat.le_refl _⟩, ⟨by first | exact Kd.R_nil _ _ _ _ _ | exact Kd.N_nil _ _ _ _ _ | exact Kd.V_nil _ _ _ _ _ | exact Kd.Q_nil _ _ _ _ _ | exact Kd.S_nil _ _ _ _ _⟩, ⟨bw_⟩⟩
 case round =>
  clear H'; (try clear c1); obtain ⟨x3_1, x4_1, rfl, HA, HK1, HO_3, HB⟩ := hrel
  cases gk with
  | zero => exact absurd HA.out (by simp [Qao.l0])
  | succ k1 =>
   have H := HA.out; clear HA; simp only [Qao.l0] at H
   by_cases c2 : x4_1 < (l0.length : Int)
   ·rw [if_pos c2] at H; have c2b0 : decide (x4_1 < (l0.length : Int)) = true := decide_eq_true c2; clear c2
    by_cases c3 : 0 ≤ x4_1
    ·rw [if_pos c3] at H; have c3b0 : decide (0 ≤ x4_1) = true := decide_eq_true c3; clear c3; replace H := Option.bind_eq_some_iff.mp H; obtain ⟨t105, A40, H⟩ := H; replace H : (Qao.l1 k1 l0 x3_1 x4_1 t105 false 0) = some r := H; have A4 := Qaa.mk A40; clear A40; have H' := Qaa.mk H; clear H; have p104 : 0 ≤ (x4_1 : Int) := dd_; have q104 : x4_1 < (l0.length : Int) := dd_; obtain ⟨ad104, e104, hx104_0, hx104_1, hx104_2, hx104_3, hx104_4, hx104_5, hx104_6, hx104_7, hx104_8⟩ := Qcr HR0.out x4_1 p104 q104; cases e104; replace hx104_0 := cb_ HB hx104_0; replace hx104_1 := cb_ HB hx104_1; replace hx104_2 := cb_ HB hx104_2; replace hx104_3 := cb_ HB hx104_3; replace hx104_4 := cb_ HB hx104_4; replace hx104_5 := cb_ HB hx104_5; replace hx104_6 := cb_ HB hx104_6; replace hx104_7 := cb_ HB hx104_7; replace hx104_8 := cb_ HB hx104_8; replace p104 := eq_true p104; replace q104 := eq_true q104
     go_wp2_with (first | (go_at_call 32; (with_reducible refine (QaA.calls k1 ((Qae l0 x4_1).f0.f0) ((Qae l0 x4_1).f0.f1) ((Qae l0 x4_1).f1) ((Qae l0 x4_1).f2) ((Qae l0 x4_1).f3) ((Qae l0 x4_1).f4.f0) ((Qae l0 x4_1).f4.f1) ((Qae l0 x4_1).f5.f0) ((Qae l0 x4_1).f5.f1) t105 _ A4.out).mono ?_); rintro e w5 ⟨rfl, hb⟩; replace HO_3 := Qaa.mk (Kd.Qau (ro_ HO_3) hb); replace HB := Qaa.mk (Qad bw_ hb); (try clear hb); (try clear hb2); (try clear hk); (try clear hi)))
     repeat (go_quiet (first | (go_at_call 32; (with_reducible refine (QaA.calls k1 ((Qae l0 x4_1).f0.f0) ((Qae l0 x4_1).f0.f1) ((Qae l0 x4_1).f1) ((Qae l0 x4_1).f2) ((Qae l0 x4_1).f3) ((Qae l0 x4_1).f4.f0) ((Qae l0 x4_1).f4.f1) ((Qae l0 x4_1).f5.f0) ((Qae l0 x4_1).f5.f1) t105 _ A4.out).mono ?_); rintro e w5 ⟨rfl, hb⟩; replace HO_3 := Qaa.mk (Kd.Qau (ro_ HO_3) hb); replace HB := Qaa.mk (Qad bw_ hb); (try clear hb); (try clear hb2); (try clear hk); (try clear hi))); try go_wp2_with (first | (go_at_call 32; (with_reducible refine (QaA.calls k1 ((Qae l0 x4_1).f0.f0) ((Qae l0 x4_1).f0.f1) ((Qae l0 x4_1).f1) ((Qae l0 x4_1).f2) ((Qae l0 x4_1).f3) ((Qae l0 x4_1).f4.f0) ((Qae l0 x4_1).f4.f1) ((Qae l0 x4_1).f5.f0) ((Qae l0 x4_1).f5.f1) t105 _ A4.out).mono ?_); rintro e w5 ⟨rfl, hb⟩; replace HO_3 := Qaa.mk (Kd.Qau (ro_ HO_3) hb); replace HB := Qaa.mk (Qad bw_ hb); (try clear hb); (try clear hb2); (try clear hk); (try clear hi))))
     go_loopg [6, 7] k1 (fun kq v6 v7 w' => ∃ (x6_2 : Bool) (x7_2 : Int), v6 = .bool x6_2 ∧ v7 = .int .i64 x7_2 ∧ Qaa (Qao.l1 kq l0 x3_1 x4_1 t105 x6_2 x7_2 = some r) ∧ Qaa (kq ≤ k1) ∧ Qaa (Kd.R k46 46 w' w.heap.size (fun _ => True) u3 x3_1) ∧ Qaa (Below w.heap.size w w'))
     case atStart => exact ⟨(false), (0), (by first | rfl | (simp; done) | (simp [*]; done)), (by first | rfl | (simp; done) | (simp [*]; done)), H', ⟨Nat.le_refl _⟩, ⟨by (with_reducible repeat (first | apply Kd.Qax | apply Kd.Qay | apply Kd.QaE)); exact HO_3.out⟩, ⟨bw_⟩⟩
     case round =>
      clear H'; (try clear c1); (try clear p1); (try clear q1); (try clear hx1); (try clear c2); (try clear c2b0); (try clear p2); (try clear c3); (try clear c3b0); (try clear hx104_0); (try clear hx104_1); (try clear hx104_2); (try clear hx104_3); (try clear hx104_4); (try clear hx104_5); (try clear hx104_6); (try clear hx104_7); (try clear hx104_8); (try clear p104); (try clear q104); obtain ⟨x6_2, x7_2, rfl, rfl, HA, HK2, HO_3, HB⟩ := hrel
      cases gk with
      | zero => exact absurd HA.out (by simp [Qao.l1])
      | succ k2 =>
       have H := HA.out; clear HA; simp only [Qao.l1] at H
       by_cases c6 : x7_2 < (x3_1.length : Int)
       ·rw [if_pos c6] at H; have c6b0 : decide (x7_2 < (x3_1.length : Int)) = true := decide_eq_true c6; clear c6
        by_cases c7 : x6_2 = true
        ·subst c7
         have H1 : (Qao.l1 k2 l0 x3_1 x4_1 t105 true (wrap64 (x7_2 + 1))) = some r := by rw [if_pos rfl] at H; exact H
         clear H; have H := H1; clear H1; have H' := Qaa.mk H; clear H; obtain ⟨Ao8, co8, eo8⟩ := Kd.Qa2 HO_3.out; subst eo8; go_wp2
         repeat (go_quiet (fail); try go_wp2)
         go_roundg k2
         case measure => have := HK1.out; have := HK2.out; omega
         case rel => exact ⟨(true), (wrap64 (x7_2 + 1)), (by first | rfl | (simp; done) | (simp [*]; done)), (by first | rfl | (simp; done) | (simp [*]; done)), H', ⟨by have := HK1.out; have := HK2.out; omega⟩, ⟨by (with_reducible repeat (first | apply Kd.Qax | apply Kd.Qay | apply Kd.QaE)); exact HO_3.out⟩, ⟨bw_⟩⟩
        ·replace c7 := Bool.eq_false_iff.mpr c7; subst c7
         have H1 : (if 0 ≤ x7_2 then (if 0 ≤ x4_1 then (if x4_1 < (l0.length : Int) then (Qao.l1 k2 l0 x3_1 x4_1 t105 (((Qae x3_1 x7_2).f0.f0) == ((Qae l0 x4_1).f0.f0) && (((Qae x3_1 x7_2).f0.f1) == ((Qae l0 x4_1).f0.f1))) (wrap64 (x7_2 + 1))) else (none)) else (none)) else (none)) = some r := by rw [if_neg (show ¬ (false = true) by decide)] at H; exact H
         clear H; have H := H1; clear H1
         by_cases c9 : 0 ≤ x7_2
         ·rw [if_pos c9] at H; have c9b0 : decide (0 ≤ x7_2) = true := decide_eq_true c9; clear c9
          by_cases c10 : 0 ≤ x4_1
          ·rw [if_pos c10] at H; have c10b0 : decide (0 ≤ x4_1) = true := decide_eq_true c10; clear c10
           by_cases c11 : x4_1 < (l0.length : Int)
           ·rw [if_pos c11] at H; have c11b0 : decide (x4_1 < (l0.length : Int)) = true := decide_eq_true c11; clear c11; have H' := Qaa.mk H; clear H; obtain ⟨Ao12, co12, eo12⟩ := Kd.Qa2 HO_3.out; subst eo12; have p106 : 0 ≤ (x7_2 : Int) := dd_; have q106 : x7_2 < (x3_1.length : Int) := dd_; obtain ⟨ad106, e106, hx106_0, hx106_1, hx106_2, hx106_3, hx106_4, hx106_5, hx106_6, hx106_7, hx106_8⟩ := Qcr (Kd.QaF HO_3.out).2.2 x7_2 p106 q106; cases e106; replace p106 := eq_true p106; replace q106 := eq_true q106; have p107 : 0 ≤ (x4_1 : Int) := dd_; have q107 : x4_1 < (l0.length : Int) := dd_; obtain ⟨ad107, e107, hx107_0, hx107_1, hx107_2, hx107_3, hx107_4, hx107_5, hx107_6, hx107_7, hx107_8⟩ := Qcr HR0.out x4_1 p107 q107
            obtain rfl : ad104 = ad107 := (by injection e107)
            replace hx107_0 := cb_ HB hx107_0; replace hx107_1 := cb_ HB hx107_1; replace hx107_2 := cb_ HB hx107_2; replace hx107_3 := cb_ HB hx107_3; replace hx107_4 := cb_ HB hx107_4; replace hx107_5 := cb_ HB hx107_5; replace hx107_6 := cb_ HB hx107_6; replace hx107_7 := cb_ HB hx107_7; replace hx107_8 := cb_ HB hx107_8; replace p107 := eq_true p107; replace q107 := eq_true q107; go_wp2
            repeat (go_quiet (fail); try go_wp2)
            go_roundg k2
            case measure => have := HK1.out; have := HK2.out; omega
            case rel => exact ⟨((((Qae x3_1 x7_2).f0.f0) == ((Qae l0 x4_1).f0.f0) && (((Qae x3_1 x7_2).f0.f1) == ((Qae l0 x4_1).f0.f1)))), (wrap64 (x7_2 + 1)), (by first | rfl | (simp; done) | (simp [*]; done)), (by first | rfl | (simp; done) | (simp [*]; done)), H', ⟨by have := HK1.out; have := HK2.out; omega⟩, ⟨by (with_reducible repeat (first | apply Kd.Qax | apply Kd.Qay | apply Kd.QaE)); exact HO_3.out⟩, ⟨bw_⟩⟩
           ·rw [if_neg c11] at H; exact absurd H (by simp)
          ·rw [if_neg c10] at H; exact absurd H (by simp)
         ·rw [if_neg c9] at H; exact absurd H (by simp)
       ·rw [if_neg c6] at H; have c6b0 : decide (x7_2 < (x3_1.length : Int)) = false := decide_eq_false c6; clear c6
        by_cases c13 : t105 = true
        ·subst c13
         have H1 : (if x6_2 = true then (Qao.l0 k2 l0 x3_1 (wrap64 (x4_1 + 1))) else (if 0 ≤ x4_1 then (if x4_1 < (l0.length : Int) then (if x3_1.length < 1172812402961 then (Qao.l0 k2 l0 (x3_1 ++ [(⟨(⟨(Qae l0 x4_1).f0.f0, (Qae l0 x4_1).f0.f1⟩ : S27), (Qae l0 x4_1).f1, (Qae l0 x4_1).f2, (Qae l0 x4_1).f3, (⟨(Qae l0 x4_1).f4.f0, (Qae l0 x4_1).f4.f1⟩ : S24), (⟨(Qae l0 x4_1).f5.f0, (Qae l0 x4_1).f5.f1⟩ : S24)⟩ : S46)]) (wrap64 (x4_1 + 1))) else (none)) else (none)) else (none))) = some r := by rw [if_pos rfl] at H; exact H
         clear H; have H := H1; clear H1
         by_cases c14 : x6_2 = true
         ·subst c14
          have H1 : (Qao.l0 k2 l0 x3_1 (wrap64 (x4_1 + 1))) = some r := by rw [if_pos rfl] at H; exact H
          clear H; have H := H1; clear H1; have H' := Qaa.mk H; clear H; obtain ⟨Ao15, co15, eo15⟩ := Kd.Qa2 HO_3.out; subst eo15; go_wp2
          repeat (go_quiet (fail); try go_wp2)
          go_roundg k2
          case measure => have := HK1.out; have := HK2.out; omega
          case rel => exact ⟨(x3_1), (wrap64 (x4_1 + 1)), (by first | rfl | (simp; done) | (simp [*]; done)), H', ⟨by have := HK1.out; have := HK2.out; omega⟩, ⟨by (with_reducible repeat (first | apply Kd.Qax | apply Kd.Qay | apply Kd.QaE)); exact HO_3.out⟩, ⟨bw_⟩⟩
         ·replace c14 := Bool.eq_false_iff.mpr c14; subst c14
          have H1 : (if 0 ≤ x4_1 then (if x4_1 < (l0.length : Int) then (if x3_1.length < 1172812402961 then (Qao.l0 k2 l0 (x3_1 ++ [(⟨(⟨(Qae l0 x4_1).f0.f0, (Qae l0 x4_1).f0.f1⟩ : S27), (Qae l0 x4_1).f1, (Qae l0 x4_1).f2, (Qae l0 x4_1).f3, (⟨(Qae l0 x4_1).f4.f0, (Qae l0 x4_1).f4.f1⟩ : S24), (⟨(Qae l0 x4_1).f5.f0, (Qae l0 x4_1).f5.f1⟩ : S24)⟩ : S46)]) (wrap64 (x4_1 + 1))) else (none)) else (none)) else (none)) = some r := by rw [if_neg (show ¬ (false = true) by decide)] at H; exact H
          clear H; have H := H1; clear H1
          by_cases c16 : 0 ≤ x4_1
          ·rw [if_pos c16] at H; have c16b0 : decide (0 ≤ x4_1) = true := decide_eq_true c16; clear c16
           by_cases c17 : x4_1 < (l0.length : Int)
           ·rw [if_pos c17] at H; have c17b0 : decide (x4_1 < (l0.length : Int)) = true := decide_eq_true c17; clear c17
            by_cases c18 : x3_1.length < 1172812402961
            ·rw [if_pos c18] at H; have LMc18 := Qaa.mk c18; clear c18
             obtain ⟨y109, hy109⟩ : ∃ y_ : List (S46), y_ = (x3_1 ++ [(⟨(⟨(Qae l0 x4_1).f0.f0, (Qae l0 x4_1).f0.f1⟩ : S27), (Qae l0 x4_1).f1, (Qae l0 x4_1).f2, (Qae l0 x4_1).f3, (⟨(Qae l0 x4_1).f4.f0, (Qae l0 x4_1).f4.f1⟩ : S24), (⟨(Qae l0 x4_1).f5.f0, (Qae l0 x4_1).f5.f1⟩ : S24)⟩ : S46)]) := ⟨_, rfl⟩
             replace H : (Qao.l0 k2 l0 y109 (wrap64 (x4_1 + 1))) = some r := by first | (rw [hy109]; with_reducible exact H) | (have H2_ := (Option.bind_some _ _).symm.trans H; rw [hy109]; with_reducible exact H2_) | (have H2_ := (Option.bind_some _ _).symm.trans H; with_reducible exact H2_) | with_reducible exact H | (rw [hy109]; exact H) | exact H
             have Ny109 := Qaa.mk hy109; clear hy109; have H' := Qaa.mk H; clear H; obtain ⟨Ao19, co19, eo19⟩ := Kd.Qa2 HO_3.out; subst eo19; have p108 : 0 ≤ (x4_1 : Int) := dd_; have q108 : x4_1 < (l0.length : Int) := dd_; obtain ⟨ad108, e108, hx108_0, hx108_1, hx108_2, hx108_3, hx108_4, hx108_5, hx108_6, hx108_7, hx108_8⟩ := Qcr HR0.out x4_1 p108 q108
             obtain rfl : ad104 = ad108 := (by injection e108)
             replace hx108_0 := cb_ HB hx108_0; replace hx108_1 := cb_ HB hx108_1; replace hx108_2 := cb_ HB hx108_2; replace hx108_3 := cb_ HB hx108_3; replace hx108_4 := cb_ HB hx108_4; replace hx108_5 := cb_ HB hx108_5; replace hx108_6 := cb_ HB hx108_6; replace hx108_7 := cb_ HB hx108_7; replace hx108_8 := cb_ HB hx108_8; replace p108 := eq_true p108; replace q108 := eq_true q108
             go_wp2_with (first | ((with_reducible refine Qa3 (b := .append) (xs := #[.tmp 44, .tmp 49]) rfl ?_); at_builtin; refine Kd.QbB k46 (w0 := w) w.heap.size rfl (.tmp 44) (.tmp 49) 22 46 (.agg #[(.int .i64 0), (.int .i64 0), (.string ⟨#[]⟩), (.int .i64 0), (.string ⟨#[]⟩), (.string ⟨#[]⟩), (.string ⟨#[]⟩), (.string ⟨#[]⟩), (.string ⟨#[]⟩)]) 120 rfl Tryz.underlying22 info46 rfl (by decide) (by omega) (.slice Ao19 x3_1.length co19) x3_1 (⟨(⟨(Qae l0 x4_1).f0.f0, (Qae l0 x4_1).f0.f1⟩ : S27), (Qae l0 x4_1).f1, (Qae l0 x4_1).f2, (Qae l0 x4_1).f3, (⟨(Qae l0 x4_1).f4.f0, (Qae l0 x4_1).f4.f1⟩ : S24), (⟨(Qae l0 x4_1).f5.f0, (Qae l0 x4_1).f5.f1⟩ : S24)⟩ : S46) [.int .i64 ((Qae l0 x4_1).f0.f0), .int .i64 ((Qae l0 x4_1).f0.f1), .string ((Qae l0 x4_1).f1), .int .i64 ((Qae l0 x4_1).f2), .string ((Qae l0 x4_1).f3), .string ((Qae l0 x4_1).f4.f0), .string ((Qae l0 x4_1).f4.f1), .string ((Qae l0 x4_1).f5.f0), .string ((Qae l0 x4_1).f5.f1)] (fun _ => True) (fun _ => False) rfl rfl ?aP (fun _ hk => hk.elim) ?aF ?aO ?aB ?aS ?aL ?_; (case aP => exact Qcu _ _ _ (⟨(⟨(Qae l0 x4_1).f0.f0, (Qae l0 x4_1).f0.f1⟩ : S27), (Qae l0 x4_1).f1, (Qae l0 x4_1).f2, (Qae l0 x4_1).f3, (⟨(Qae l0 x4_1).f4.f0, (Qae l0 x4_1).f4.f1⟩ : S24), (⟨(Qae l0 x4_1).f5.f0, (Qae l0 x4_1).f5.f1⟩ : S24)⟩ : S46)); (case aB => exact bw_); (case aF => exact (fun _ _ => trivial)); (case aO => exact (ro_ HO_3)); (case aS => exact (QaD bw_)); (case aL => have := LMc18.out; omega); intro v110 w20 ho hb hg hat; rw [← Ny109.out] at ho; have n0_ := Qaa.mk (hb); have n1_ := Qaa.mk (ho); clear HB; clear HO_3; have HB := n0_; have HO111 := n1_; clear n0_ n1_; clear ho hb hg hat))
             repeat (go_quiet (first | ((with_reducible refine Qa3 (b := .append) (xs := #[.tmp 44, .tmp 49]) rfl ?_); at_builtin; refine Kd.QbB k46 (w0 := w) w.heap.size rfl (.tmp 44) (.tmp 49) 22 46 (.agg #[(.int .i64 0), (.int .i64 0), (.string ⟨#[]⟩), (.int .i64 0), (.string ⟨#[]⟩), (.string ⟨#[]⟩), (.string ⟨#[]⟩), (.string ⟨#[]⟩), (.string ⟨#[]⟩)]) 120 rfl Tryz.underlying22 info46 rfl (by decide) (by omega) (.slice Ao19 x3_1.length co19) x3_1 (⟨(⟨(Qae l0 x4_1).f0.f0, (Qae l0 x4_1).f0.f1⟩ : S27), (Qae l0 x4_1).f1, (Qae l0 x4_1).f2, (Qae l0 x4_1).f3, (⟨(Qae l0 x4_1).f4.f0, (Qae l0 x4_1).f4.f1⟩ : S24), (⟨(Qae l0 x4_1).f5.f0, (Qae l0 x4_1).f5.f1⟩ : S24)⟩ : S46) [.int .i64 ((Qae l0 x4_1).f0.f0), .int .i64 ((Qae l0 x4_1).f0.f1), .string ((Qae l0 x4_1).f1), .int .i64 ((Qae l0 x4_1).f2), .string ((Qae l0 x4_1).f3), .string ((Qae l0 x4_1).f4.f0), .string ((Qae l0 x4_1).f4.f1), .string ((Qae l0 x4_1).f5.f0), .string ((Qae l0 x4_1).f5.f1)] (fun _ => True) (fun _ => False) rfl rfl ?aP (fun _ hk => hk.elim) ?aF ?aO ?aB ?aS ?aL ?_; (case aP => exact Qcu _ _ _ (⟨(⟨(Qae l0 x4_1).f0.f0, (Qae l0 x4_1).f0.f1⟩ : S27), (Qae l0 x4_1).f1, (Qae l0 x4_1).f2, (Qae l0 x4_1).f3, (⟨(Qae l0 x4_1).f4.f0, (Qae l0 x4_1).f4.f1⟩ : S24), (⟨(Qae l0 x4_1).f5.f0, (Qae l0 x4_1).f5.f1⟩ : S24)⟩ : S46)); (case aB => exact bw_); (case aF => exact (fun _ _ => trivial)); (case aO => exact (ro_ HO_3)); (case aS => exact (QaD bw_)); (case aL => have := LMc18.out; omega); intro v110 w20 ho hb hg hat; rw [← Ny109.out] at ho; have n0_ := Qaa.mk (hb); have n1_ := Qaa.mk (ho); clear HB; clear HO_3; have HB := n0_; have HO111 := n1_; clear n0_ n1_; clear ho hb hg hat)); try go_wp2_with (first | ((with_reducible refine Qa3 (b := .append) (xs := #[.tmp 44, .tmp 49]) rfl ?_); at_builtin; refine Kd.QbB k46 (w0 := w) w.heap.size rfl (.tmp 44) (.tmp 49) 22 46 (.agg #[(.int .i64 0), (.int .i64 0), (.string ⟨#[]⟩), (.int .i64 0), (.string ⟨#[]⟩), (.string ⟨#[]⟩), (.string ⟨#[]⟩), (.string ⟨#[]⟩), (.string ⟨#[]⟩)]) 120 rfl Tryz.underlying22 info46 rfl (by decide) (by omega) (.slice Ao19 x3_1.length co19) x3_1 (⟨(⟨(Qae l0 x4_1).f0.f0, (Qae l0 x4_1).f0.f1⟩ : S27), (Qae l0 x4_1).f1, (Qae l0 x4_1).f2, (Qae l0 x4_1).f3, (⟨(Qae l0 x4_1).f4.f0, (Qae l0 x4_1).f4.f1⟩ : S24), (⟨(Qae l0 x4_1).f5.f0, (Qae l0 x4_1).f5.f1⟩ : S24)⟩ : S46) [.int .i64 ((Qae l0 x4_1).f0.f0), .int .i64 ((Qae l0 x4_1).f0.f1), .string ((Qae l0 x4_1).f1), .int .i64 ((Qae l0 x4_1).f2), .string ((Qae l0 x4_1).f3), .string ((Qae l0 x4_1).f4.f0), .string ((Qae l0 x4_1).f4.f1), .string ((Qae l0 x4_1).f5.f0), .string ((Qae l0 x4_1).f5.f1)] (fun _ => True) (fun _ => False) rfl rfl ?aP (fun _ hk => hk.elim) ?aF ?aO ?aB ?aS ?aL ?_; (case aP => exact Qcu _ _ _ (⟨(⟨(Qae l0 x4_1).f0.f0, (Qae l0 x4_1).f0.f1⟩ : S27), (Qae l0 x4_1).f1, (Qae l0 x4_1).f2, (Qae l0 x4_1).f3, (⟨(Qae l0 x4_1).f4.f0, (Qae l0 x4_1).f4.f1⟩ : S24), (⟨(Qae l0 x4_1).f5.f0, (Qae l0 x4_1).f5.f1⟩ : S24)⟩ : S46)); (case aB => exact bw_); (case aF => exact (fun _ _ => trivial)); (case aO => exact (ro_ HO_3)); (case aS => exact (QaD bw_)); (case aL => have := LMc18.out; omega); intro v110 w20 ho hb hg hat; rw [← Ny109.out] at ho; have n0_ := Qaa.mk (hb); have n1_ := Qaa.mk (ho); clear HB; clear HO_3; have HB := n0_; have HO111 := n1_; clear n0_ n1_; clear ho hb hg hat)))
             go_roundg k2
             case measure => have := HK1.out; have := HK2.out; omega
             case rel => exact ⟨(y109), (wrap64 (x4_1 + 1)), (by first | rfl | (simp; done) | (simp [*]; done)), H', ⟨by have := HK1.out; have := HK2.out; omega⟩, ⟨by (with_reducible repeat (first | apply Kd.Qax | apply Kd.Qay | apply Kd.QaE)); exact HO111.out⟩, ⟨bw_⟩⟩
            ·rw [if_neg c18] at H; exact absurd H (by simp)
           ·rw [if_neg c17] at H; exact absurd H (by simp)
          ·rw [if_neg c16] at H; exact absurd H (by simp)
        ·replace c13 := Bool.eq_false_iff.mpr c13; subst c13
         have H1 : (Qao.l0 k2 l0 x3_1 (wrap64 (x4_1 + 1))) = some r := by rw [if_neg (show ¬ (false = true) by decide)] at H; exact H
         clear H; have H := H1; clear H1; have H' := Qaa.mk H; clear H; obtain ⟨Ao21, co21, eo21⟩ := Kd.Qa2 HO_3.out; subst eo21; go_wp2
         repeat (go_quiet (fail); try go_wp2)
         go_roundg k2
         case measure => have := HK1.out; have := HK2.out; omega
         case rel => exact ⟨(x3_1), (wrap64 (x4_1 + 1)), (by first | rfl | (simp; done) | (simp [*]; done)), H', ⟨by have := HK1.out; have := HK2.out; omega⟩, ⟨by (with_reducible repeat (first | apply Kd.Qax | apply Kd.Qay | apply Kd.QaE)); exact HO_3.out⟩, ⟨bw_⟩⟩
    ·rw [if_neg c3] at H; exact absurd H (by simp)
   ·rw [if_neg c2] at H; have c2b0 : decide (x4_1 < (l0.length : Int)) = false := decide_eq_false c2; clear c2; replace H := Option.bind_eq_some_iff.mp H; obtain ⟨t101, A220, H⟩ := H; replace H : (some t101) = some r := H; have A22 := Qaa.mk A220; clear A220; obtain rfl := Option.some.inj H; obtain ⟨Ao23, co23, eo23⟩ := Kd.Qa2 HO_3.out; subst eo23
    go_wp2_with (first | (go_at_call 33; (with_reducible refine (Qap.calls k1 (fun k_ => some k_ = (.slice Ao23 x3_1.length co23 : Value).ownBlock) _ _ x3_1 t101 _ ?side1 A22.out).mono ?_); (case side1 => exact Kd.R_V (Kd.R_tight rfl (HO_3.out))); rintro e w24 ⟨v102, rfl, ho0, hb⟩; have HO103 := Qaa.mk (Kd.Qa7 (Kd.R_new' (Kd.QaL (ok' := fun k_ => True) ho0 (fun _ hk_ => trivial)) (Kd.R_lt (ro_ HO_3))) (QaD bw_)); replace HO_3 := Qaa.mk (Kd.Qch (ro_ HO_3) (Kd.Qb0 ho0) hb); replace HB := Qaa.mk (Qad bw_ hb); (try clear hb); (try clear hb2); (try clear hk); (try clear hi); (try clear ho0)))
    repeat (go_quiet (first | (go_at_call 33; (with_reducible refine (Qap.calls k1 (fun k_ => some k_ = (.slice Ao23 x3_1.length co23 : Value).ownBlock) _ _ x3_1 t101 _ ?side1 A22.out).mono ?_); (case side1 => exact Kd.R_V (Kd.R_tight rfl (HO_3.out))); rintro e w24 ⟨v102, rfl, ho0, hb⟩; have HO103 := Qaa.mk (Kd.Qa7 (Kd.R_new' (Kd.QaL (ok' := fun k_ => True) ho0 (fun _ hk_ => trivial)) (Kd.R_lt (ro_ HO_3))) (QaD bw_)); replace HO_3 := Qaa.mk (Kd.Qch (ro_ HO_3) (Kd.Qb0 ho0) hb); replace HB := Qaa.mk (Qad bw_ hb); (try clear hb); (try clear hb2); (try clear hk); (try clear hi); (try clear ho0))); try go_wp2_with (first | (go_at_call 33; (with_reducible refine (Qap.calls k1 (fun k_ => some k_ = (.slice Ao23 x3_1.length co23 : Value).ownBlock) _ _ x3_1 t101 _ ?side1 A22.out).mono ?_); (case side1 => exact Kd.R_V (Kd.R_tight rfl (HO_3.out))); rintro e w24 ⟨v102, rfl, ho0, hb⟩; have HO103 := Qaa.mk (Kd.Qa7 (Kd.R_new' (Kd.QaL (ok' := fun k_ => True) ho0 (fun _ hk_ => trivial)) (Kd.R_lt (ro_ HO_3))) (QaD bw_)); replace HO_3 := Qaa.mk (Kd.Qch (ro_ HO_3) (Kd.Qb0 ho0) hb); replace HB := Qaa.mk (Qad bw_ hb); (try clear hb); (try clear hb2); (try clear hk); (try clear hi); (try clear ho0))))
    go_ret; exact ⟨_, by first | rfl | (simp [Qaw, Qav] <;> rfl) | (simp [*, Qaw, Qav] <;> rfl), by (with_reducible repeat (first | apply Kd.Qax | apply Kd.Qay | apply Kd.QaE)); exact Kd.QaL HO103.out (fun _ hk => trivial), bw_⟩
end
section
attribute [local go_sem] QaQ QaO QaZ QaY QaJ QaI QaP QaN
attribute [local go_sem high] eqA51
def QaT.l0 : Nat → List (S51) → Int → ByteArray → ByteArray → ByteArray → Option (Bool)
 | 0, _, _, _, _, _ => none
 | k + 1, x0, x5, x102000, x102001, x102002 => if x5 < (x0.length : Int) then (if 0 ≤ x5 then (if (((((Qaq x0 x5).f0.f0).toList) == x102000.toList && ((((Qaq x0 x5).f0.f1).toList) == x102001.toList)) && ((((Qaq x0 x5).f1).toList) == x102002.toList)) = true then (some true) else (QaT.l0 k x0 (wrap64 (x5 + 1)) x102000 x102001 x102002)) else (none)) else (some false)
def QaT.f (k : Nat) (l0 : List (S51)) (a1_0 : ByteArray) (a1_1 : ByteArray) (a1_2 : ByteArray) : Option (Bool) := QaT.l0 k l0 0 a1_0 a1_1 a1_2
set_option maxHeartbeats 8000000 in
set_option maxRecDepth 100000 in
theorem QaT.calls (k : Nat) (A0 : Option Addr) (c0 : Nat) (l0 : List (S51)) (a1_0 : ByteArray) (a1_1 : ByteArray) (a1_2 : ByteArray) (r : Bool) (w : World) (hr0 : Kd.C k51 w A0 l0.length l0) (hc0 : l0.length ≤ c0) (h : QaT.f k l0 a1_0 a1_1 a1_2 = some r) :
  Calls Tryz.prog 23 #[.slice A0 l0.length c0, .agg #[.string a1_0, .string a1_1, .string a1_2]] w fun e w' => e = .returned (.bool r) ∧ Below w.heap.size w w' := by
 have hu51 := Tryz.underlying51; have HR0 := Qaa.mk hr0; have HC0 := Qaa.mk hc0; clear hr0 hc0; have HB := Qaa.mk (Below.refl w.heap.size w); have H : (QaT.l0 k l0 0 a1_0 a1_1 a1_2) = some r := h; clear h; have H' := Qaa.mk H; clear H; go_enter Tryz.func23, Tryz.ntmps23
 go_wp2_with (first | ((with_reducible refine QaM (N := 3) rfl ?_); refine QaK ?hg (N := 3) ?hd (cs := #[.string a1_0, .string a1_1, .string a1_2]) (t := 51) ?hr ?_; (case hd => rfl); (case hg => rfl); (case hr => first | (go_simp; done) | (go_simp; rfl)); intro gb101 hg w3 hbox hb; have BK101 := Qaa.mk (hbox); have GW101 := (gz_ hg : Qaa (w.heap.size ≤ gb101)); have GE101 := (gz_ hg : Qaa (w.heap.size ≤ gb101)); replace HB := Qaa.mk (Qad bw_ hb); clear hb hbox hg))
 repeat (go_quiet (first | ((with_reducible refine QaM (N := 3) rfl ?_); refine QaK ?hg (N := 3) ?hd (cs := #[.string a1_0, .string a1_1, .string a1_2]) (t := 51) ?hr ?_; (case hd => rfl); (case hg => rfl); (case hr => first | (go_simp; done) | (go_simp; rfl)); intro gb101 hg w3 hbox hb; have BK101 := Qaa.mk (hbox); have GW101 := (gz_ hg : Qaa (w.heap.size ≤ gb101)); have GE101 := (gz_ hg : Qaa (w.heap.size ≤ gb101)); replace HB := Qaa.mk (Qad bw_ hb); clear hb hbox hg)); try go_wp2_with (first | ((with_reducible refine QaM (N := 3) rfl ?_); refine QaK ?hg (N := 3) ?hd (cs := #[.string a1_0, .string a1_1, .string a1_2]) (t := 51) ?hr ?_; (case hd => rfl); (case hg => rfl); (case hr => first | (go_simp; done) | (go_simp; rfl)); intro gb101 hg w3 hbox hb; have BK101 := Qaa.mk (hbox); have GW101 := (gz_ hg : Qaa (w.heap.size ≤ gb101)); have GE101 := (gz_ hg : Qaa (w.heap.size ≤ gb101)); replace HB := Qaa.mk (Qad bw_ hb); clear hb hbox hg)))
 go_loopg [5] k (fun kq v5 w' => ∃ (x5_1 : Int), v5 = .int .i64 x5_1 ∧ Qaa (QaT.l0 kq l0 x5_1 a1_0 a1_1 a1_2 = some r) ∧ Qaa (kq ≤ k) ∧ Qaa (w'.heap[gb101]? = some (.cells #[.string a1_0, .string a1_1, .string a1_2] 51 (0, 0))) ∧ Qaa (Below w.heap.size w w'))
 case atStart => exact ⟨(0), (by first | rfl | (simp; done) | (simp [*]; done)), H', ⟨Nat.le_refl _⟩, ⟨by (with_reducible repeat (first | refine Qai ?_ _ | refine Qah ?_ | refine Qag ?_ _)); exact BK101.out⟩, ⟨bw_⟩⟩
 case round =>
  clear H'; (try clear c2); (try clear p2); obtain ⟨x5_1, rfl, HA, HK1, BK101, HB⟩ := hrel
  cases gk with
  | zero => exact absurd HA.out (by simp [QaT.l0])
  | succ k1 =>
   have H := HA.out; clear HA; simp only [QaT.l0] at H
   by_cases c4 : x5_1 < (l0.length : Int)
   ·rw [if_pos c4] at H; have c4b0 : decide (x5_1 < (l0.length : Int)) = true := decide_eq_true c4; clear c4
    by_cases c5 : 0 ≤ x5_1
    ·rw [if_pos c5] at H; have c5b0 : decide (0 ≤ x5_1) = true := decide_eq_true c5; clear c5
     by_cases c6 : (((((Qaq l0 x5_1).f0.f0).toList) == a1_0.toList && ((((Qaq l0 x5_1).f0.f1).toList) == a1_1.toList)) && ((((Qaq l0 x5_1).f1).toList) == a1_2.toList)) = true
     ·rw [if_pos c6] at H; have c6b0 : (((((Qaq l0 x5_1).f0.f0).toList) == a1_0.toList && ((((Qaq l0 x5_1).f0.f1).toList) == a1_1.toList)) && ((((Qaq l0 x5_1).f1).toList) == a1_2.toList)) = true := c6; clear c6; obtain rfl := Option.some.inj H; have p102 : 0 ≤ (x5_1 : Int) := dd_; have q102 : x5_1 < (l0.length : Int) := dd_; obtain ⟨ad102, e102, hx102_0, hx102_1, hx102_2⟩ := Qcd HR0.out x5_1 p102 q102; cases e102; replace hx102_0 := cb_ HB hx102_0; replace hx102_1 := cb_ HB hx102_1; replace hx102_2 := cb_ HB hx102_2; replace p102 := eq_true p102; replace q102 := eq_true q102; have c7_0 : wr.cell? ⟨gb101, 0, none⟩ = some (.string a1_0) := (Qam BK101.out 0).trans rfl; have c7_1 : wr.cell? ⟨gb101, 1, none⟩ = some (.string a1_1) := (Qam BK101.out 1).trans rfl; have c7_2 : wr.cell? ⟨gb101, 2, none⟩ = some (.string a1_2) := (Qam BK101.out 2).trans rfl; obtain ⟨f7_0, f7_1, f7_2⟩ := fz_3 BK101.out; go_wp2
      repeat (go_quiet (fail); try go_wp2)
      go_ret; exact ⟨by first | rfl | (simp [Qaw, Qav] <;> rfl) | (simp [*, Qaw, Qav] <;> rfl), bw_⟩
     ·rw [if_neg c6] at H
      have c6b0 : (((((Qaq l0 x5_1).f0.f0).toList) == a1_0.toList && ((((Qaq l0 x5_1).f0.f1).toList) == a1_1.toList)) && ((((Qaq l0 x5_1).f1).toList) == a1_2.toList)) = false := by simpa using c6
      clear c6; have H' := Qaa.mk H; clear H; have p102 : 0 ≤ (x5_1 : Int) := dd_; have q102 : x5_1 < (l0.length : Int) := dd_; obtain ⟨ad102, e102, hx102_0, hx102_1, hx102_2⟩ := Qcd HR0.out x5_1 p102 q102; cases e102; replace hx102_0 := cb_ HB hx102_0; replace hx102_1 := cb_ HB hx102_1; replace hx102_2 := cb_ HB hx102_2; replace p102 := eq_true p102; replace q102 := eq_true q102; have c8_0 : wr.cell? ⟨gb101, 0, none⟩ = some (.string a1_0) := (Qam BK101.out 0).trans rfl; have c8_1 : wr.cell? ⟨gb101, 1, none⟩ = some (.string a1_1) := (Qam BK101.out 1).trans rfl; have c8_2 : wr.cell? ⟨gb101, 2, none⟩ = some (.string a1_2) := (Qam BK101.out 2).trans rfl; obtain ⟨f8_0, f8_1, f8_2⟩ := fz_3 BK101.out; go_wp2
      repeat (go_quiet (fail); try go_wp2)
      go_roundg k1
      case measure => have := HK1.out; omega
      case rel => exact ⟨(wrap64 (x5_1 + 1)), (by first | rfl | (simp; done) | (simp [*]; done)), H', ⟨by have := HK1.out; omega⟩, ⟨by (with_reducible repeat (first | refine Qai ?_ _ | refine Qah ?_ | refine Qag ?_ _)); exact BK101.out⟩, ⟨bw_⟩⟩
    ·rw [if_neg c5] at H; exact absurd H (by simp)
   ·rw [if_neg c4] at H; have c4b0 : decide (x5_1 < (l0.length : Int)) = false := decide_eq_false c4; clear c4; obtain rfl := Option.some.inj H; go_wp2
    repeat (go_quiet (fail); try go_wp2)
    go_ret; exact ⟨by first | rfl | (simp [Qaw, Qav] <;> rfl) | (simp [*, Qaw, Qav] <;> rfl), bw_⟩
end
section
attribute [local go_sem] QaQ QaO QaZ QaY QaJ QaI QaP QaN
def QaX.j0 : Nat → Int → Bool → Option (ByteArray)
 | 0, _, _ => none
 | k + 1, x0, x8 => if x8 = true then (some (⟨#[]⟩ : ByteArray)) else (if x0 < 10 then ((some (([(wrap64 (48 + x0)) % 256] : List Int) : List Int)).bind fun y101 => (if 1 + (strOfNums y101).size ≤ 9223372036854775807 then (some ((⟨#[100]⟩ : ByteArray) ++ (strOfNums y101))) else (none))) else ((some (([(wrap64 ((wrap64 (48 + x0)) - 10)) % 256] : List Int) : List Int)).bind fun y104 => (if 2 + (strOfNums y104).size ≤ 9223372036854775807 then (some ((⟨#[100, 49]⟩ : ByteArray) ++ (strOfNums y104))) else (none))))
def QaX.f (k : Nat) (a0 : Int) : Option (ByteArray) := if a0 < 1 then (QaX.j0 k a0 true) else (QaX.j0 k a0 (decide (a0 > 16)))
set_option maxHeartbeats 8000000 in
set_option maxRecDepth 100000 in
theorem QaX.calls (k : Nat) (a0 : Int) (r : ByteArray) (w : World) (h : QaX.f k a0 = some r) :
  Calls Tryz.prog 63 #[.int .i64 a0] w fun e w' => e = .returned (.string r) ∧ Below w.heap.size w w' := by
 have HB := Qaa.mk (Below.refl w.heap.size w); have H : (if a0 < 1 then (QaX.j0 k a0 true) else (QaX.j0 k a0 (decide (a0 > 16)))) = some r := h; clear h; have HC2 := Qaa.mk H; clear H; go_enter Tryz.func63, Tryz.ntmps63
 go_upto_region 1 with (fail)
 go_cut [8] (fun v8 wc => ∃ (kq : Nat) (x8_1 : Bool), v8 = .bool x8_1 ∧ Qaa (QaX.j0 kq a0 x8_1 = some r) ∧ Qaa (kq ≤ k) ∧ Qaa (Below w.heap.size w wc))
 case first =>
  have H := HC2.out; clear HC2
  by_cases c3 : a0 < 1
  ·rw [if_pos c3] at H; have c3b0 : decide (a0 < 1) = true := decide_eq_true c3; clear c3
   (first | rw [c3b0] | (simp only [Qbt, Qbw]; rw [c3b0]) | skip)
   have H' := Qaa.mk H; clear H; go_wp2
   go_meet
   case rel => exact ⟨_, (true), (by first | rfl | (simp; done) | (simp [*]; done)), H', ⟨by first | omega | exact Nat.le_refl _⟩, ⟨bw_⟩⟩
  ·rw [if_neg c3] at H; have c3b0 : decide (a0 < 1) = false := decide_eq_false c3; clear c3
   (first | rw [c3b0] | (simp only [Qbt, Qbw]; rw [c3b0]) | skip)
   have H' := Qaa.mk H; clear H; go_wp2
   go_meet
   case rel => exact ⟨_, (decide (a0 > 16)), (by first | rfl | (simp; done) | (simp [*]; done)), H', ⟨by first | omega | exact Nat.le_refl _⟩, ⟨bw_⟩⟩
 case rest =>
  clear HC2; (try clear p2); (try clear c3); (try clear c3b0); obtain ⟨kq, x8_1, rfl, HA, HJ1, HB⟩ := hcut
  cases kq with
  | zero => exact absurd HA.out (by simp [QaX.j0])
  | succ kj1 =>
   have H := HA.out; clear HA; simp only [QaX.j0] at H
   by_cases c4 : x8_1 = true
   ·subst c4
    have H1 : (some (⟨#[]⟩ : ByteArray)) = some r := by rw [if_pos rfl] at H; exact H
    clear H; have H := H1; clear H1; obtain rfl := Option.some.inj H; go_wp2; go_ret; exact ⟨by first | rfl | (simp [Qaw, Qav] <;> rfl) | (simp [*, Qaw, Qav] <;> rfl), bw_⟩
   ·replace c4 := Bool.eq_false_iff.mpr c4; subst c4
    have H1 : (if a0 < 10 then ((some (([(wrap64 (48 + a0)) % 256] : List Int) : List Int)).bind fun y101 => (if 1 + (strOfNums y101).size ≤ 9223372036854775807 then (some ((⟨#[100]⟩ : ByteArray) ++ (strOfNums y101))) else (none))) else ((some (([(wrap64 ((wrap64 (48 + a0)) - 10)) % 256] : List Int) : List Int)).bind fun y104 => (if 2 + (strOfNums y104).size ≤ 9223372036854775807 then (some ((⟨#[100, 49]⟩ : ByteArray) ++ (strOfNums y104))) else (none)))) = some r := by rw [if_neg (show ¬ (false = true) by decide)] at H; exact H
    clear H; have H := H1; clear H1
    by_cases c5 : a0 < 10
    ·rw [if_pos c5] at H; have c5b0 : decide (a0 < 10) = true := decide_eq_true c5; clear c5
     obtain ⟨y101, hy101⟩ : ∃ y_ : List Int, y_ = (([(wrap64 (48 + a0)) % 256] : List Int)) := ⟨_, rfl⟩
     replace H : (if 1 + (strOfNums y101).size ≤ 9223372036854775807 then (some ((⟨#[100]⟩ : ByteArray) ++ (strOfNums y101))) else (none)) = some r := by first | (rw [hy101]; with_reducible exact H) | (have H2_ := (Option.bind_some _ _).symm.trans H; rw [hy101]; with_reducible exact H2_) | (have H2_ := (Option.bind_some _ _).symm.trans H; with_reducible exact H2_) | with_reducible exact H | (rw [hy101]; exact H) | exact H
     have Ny101 := Qaa.mk hy101; clear hy101
     by_cases c6 : 1 + (strOfNums y101).size ≤ 9223372036854775807
     ·rw [if_pos c6] at H; have c6b0 := eq_true c6; have c6b1 : decide (1 + (strOfNums y101).size ≤ 9223372036854775807) = true := decide_eq_true c6
      try have c6b2 : (9223372036854775807 < 1 + (strOfNums y101).size) = False := eq_false (Nat.not_lt.2 c6)
      obtain rfl := Option.some.inj H
      go_wp2_with (first | ((with_reducible refine QaM (N := 14) rfl ?_); refine Kd.R_lit (Kd.int .u8) _ 5 ?hg (N := 14) ?hd (xs := ([(wrap64 (48 + a0)) % 256] : List Int)) (inner := [.int .u8 ((wrap64 (48 + a0)) % 256)]) (ok := fun _ => True) (okp := fun _ => True) ?hr ?hp (fun _ hk => hk) trivial (Below.refl _ _) (Nat.le_refl _) (by simp) ?_; (case hd => rfl); (case hg => rfl); (case hr => first | (go_simp; done) | (go_simp; rfl)); (case hp => exact (Reps.one (show Kd.M (Kd.int .u8) _ _ _ ((wrap64 (48 + a0)) % 256) [.int .u8 ((wrap64 (48 + a0)) % 256)] from rfl) (Reps.none _ _))); intro v102 w7 ho8 hb hg_ hnew_; clear hg_ hnew_; (first | rw [← Ny101.out] at ho8 | (simp only [Int.reduceToNat] at ho8; rw [← Ny101.out] at ho8)); have HO103 := Qaa.mk (Kd.Qa7 ho8 (QaD bw_)); replace HB := Qaa.mk (Qad bw_ hb); clear hb ho8; have hcv9 := own_string (P := Tryz.prog) Tryz.underlying110 Tryz.underlying5 Tryz.underlying9 (Kd.own_of_R HO103.out)))
      go_ret; exact ⟨by first | rfl | (simp [Qaw, Qav] <;> rfl) | (simp [*, Qaw, Qav] <;> rfl), bw_⟩
     ·rw [if_neg c6] at H; exact absurd H (by simp)
    ·rw [if_neg c5] at H; have c5b0 : decide (a0 < 10) = false := decide_eq_false c5; clear c5
     obtain ⟨y104, hy104⟩ : ∃ y_ : List Int, y_ = (([(wrap64 ((wrap64 (48 + a0)) - 10)) % 256] : List Int)) := ⟨_, rfl⟩
     replace H : (if 2 + (strOfNums y104).size ≤ 9223372036854775807 then (some ((⟨#[100, 49]⟩ : ByteArray) ++ (strOfNums y104))) else (none)) = some r := by first | (rw [hy104]; with_reducible exact H) | (have H2_ := (Option.bind_some _ _).symm.trans H; rw [hy104]; with_reducible exact H2_) | (have H2_ := (Option.bind_some _ _).symm.trans H; with_reducible exact H2_) | with_reducible exact H | (rw [hy104]; exact H) | exact H
     have Ny104 := Qaa.mk hy104; clear hy104
     by_cases c10 : 2 + (strOfNums y104).size ≤ 9223372036854775807
     ·rw [if_pos c10] at H; have c10b0 := eq_true c10; have c10b1 : decide (2 + (strOfNums y104).size ≤ 9223372036854775807) = true := decide_eq_true c10
      try have c10b2 : (9223372036854775807 < 2 + (strOfNums y104).size) = False := eq_false (Nat.not_lt.2 c10)
      obtain rfl := Option.some.inj H
      go_wp2_with (first | ((with_reducible refine QaM (N := 21) rfl ?_); refine Kd.R_lit (Kd.int .u8) _ 5 ?hg (N := 21) ?hd (xs := ([(wrap64 ((wrap64 (48 + a0)) - 10)) % 256] : List Int)) (inner := [.int .u8 ((wrap64 ((wrap64 (48 + a0)) - 10)) % 256)]) (ok := fun _ => True) (okp := fun _ => True) ?hr ?hp (fun _ hk => hk) trivial (Below.refl _ _) (Nat.le_refl _) (by simp) ?_; (case hd => rfl); (case hg => rfl); (case hr => first | (go_simp; done) | (go_simp; rfl)); (case hp => exact (Reps.one (show Kd.M (Kd.int .u8) _ _ _ ((wrap64 ((wrap64 (48 + a0)) - 10)) % 256) [.int .u8 ((wrap64 ((wrap64 (48 + a0)) - 10)) % 256)] from rfl) (Reps.none _ _))); intro v105 w11 ho12 hb hg_ hnew_; clear hg_ hnew_; (first | rw [← Ny104.out] at ho12 | (simp only [Int.reduceToNat] at ho12; rw [← Ny104.out] at ho12)); have HO106 := Qaa.mk (Kd.Qa7 ho12 (QaD bw_)); replace HB := Qaa.mk (Qad bw_ hb); clear hb ho12; have hcv13 := own_string (P := Tryz.prog) Tryz.underlying110 Tryz.underlying5 Tryz.underlying9 (Kd.own_of_R HO106.out)))
      go_ret; exact ⟨by first | rfl | (simp [Qaw, Qav] <;> rfl) | (simp [*, Qaw, Qav] <;> rfl), bw_⟩
     ·rw [if_neg c10] at H; exact absurd H (by simp)

def QaW.f (k : Nat) (a0_0 : Int) (a0_1 : Int) (a0_2 : ByteArray) (a0_3 : Int) (a0_4 : ByteArray) (a0_5 : ByteArray) (a0_6 : ByteArray) (a0_7 : ByteArray) (a0_8 : ByteArray) : Option (ByteArray × ByteArray) := (QaX.f k a0_0).bind fun t103 => (some (t103, a0_2))
def QaW.T1 : Bool × List (List Nat × List Nat) := (true, [([], []), ([0], [0]), ([1], [1]), ([2], [2]), ([], []), ([4], [4]), ([3, 5], [3, 5]), ([6, 3, 0, 1, 2, 3, 4, 5, 6], [6])])
def QaW.B1 : List Nat := [0, 1, 3, 7, 0, 16, 63, 127]
theorem QaW.tab1 : rtab .any (opsOf Tryz.f47 1) = QaW.T1 := by kernel_rfl
theorem QaW.bits1 : waitsOk QaW.T1.2 QaW.B1 = true := by kernel_rfl
set_option maxHeartbeats 8000000 in
set_option maxRecDepth 100000 in
theorem QaW.calls (k : Nat) (a0_0 : Int) (a0_1 : Int) (a0_2 : ByteArray) (a0_3 : Int) (a0_4 : ByteArray) (a0_5 : ByteArray) (a0_6 : ByteArray) (a0_7 : ByteArray) (a0_8 : ByteArray) (r1 : ByteArray) (r2 : ByteArray) (w : World) (h : QaW.f k a0_0 a0_1 a0_2 a0_3 a0_4 a0_5 a0_6 a0_7 a0_8 = some (r1, r2)) :
  Calls Tryz.prog 47 #[.agg #[.int .i64 a0_0, .int .i64 a0_1, .string a0_2, .int .i64 a0_3, .string a0_4, .string a0_5, .string a0_6, .string a0_7, .string a0_8]] w fun e w' => e = .returned (.agg #[.string r1, .string r2]) ∧ Below w.heap.size w w' := by
 have hu46 := Tryz.underlying46; have hu24 := Tryz.underlying24; have HB := Qaa.mk (Below.refl w.heap.size w); have H : ((QaX.f k a0_0).bind fun t103 => (some (t103, a0_2))) = some (r1, r2) := h; clear h; replace H := Option.bind_eq_some_iff.mp H; obtain ⟨t103, A20, H⟩ := H; replace H : (some (t103, a0_2)) = some (r1, r2) := H; have A2 := Qaa.mk A20; clear A20; simp only [Option.some.injEq, Prod.mk.injEq] at H; obtain ⟨rfl, rfl⟩ := H; go_enter Tryz.func47, Tryz.ntmps47
 try go_wp2_with (first | ((with_reducible refine QaM (N := 1) rfl ?_); refine QaK ?hg (N := 1) ?hd (cs := #[.int .i64 a0_0, .int .i64 a0_1, .string a0_2, .int .i64 a0_3, .string a0_4, .string a0_5, .string a0_6, .string a0_7, .string a0_8]) (t := 46) ?hr ?_; (case hd => rfl); (case hg => rfl); (case hr => first | (go_simp; done) | (go_simp; rfl)); intro gb101 hg w3 hbox hb; have BK101 := Qaa.mk (hbox); have GW101 := (gz_ hg : Qaa (w.heap.size ≤ gb101)); have GE101 := (gz_ hg : Qaa (w.heap.size ≤ gb101)); replace HB := Qaa.mk (Qad bw_ hb); clear hb hbox hg) | ((with_reducible refine QaM (N := 2) rfl ?_); refine QaK ?hg (N := 2) ?hd (cs := #[.string (⟨#[]⟩ : ByteArray), .string (⟨#[]⟩ : ByteArray)]) (t := 24) ?hr ?_; (case hd => rfl); (case hg => rfl); (case hr => first | (go_simp; done) | (go_simp; rfl)); intro gb102 hg w4 hbox hb; have BK102 := Qaa.mk (hbox); have GW102 := (gz_ hg : Qaa (w.heap.size ≤ gb102)); have GE102 := (gz_ hg : Qaa (w.heap.size ≤ gb102)); have NB101_102 := (nl_ hg : Qaa (gb101 ≠ gb102)); have NB102_101 := (ng_ hg : Qaa (gb102 ≠ gb101)); replace BK101 := Qaa.mk (Qac (g := gb101) bk_ hb); replace HB := Qaa.mk (Qad bw_ hb); clear hb hbox hg))
 replace BK101 := Qaa.mk (Qah BK101.out); replace BK102 := Qaa.mk (Qah BK102.out); replace HB := Qaa.mk (Qan HB.out); refine Qby (n := 8) (S := fun w' => cgl_iisisssss w' gb101 a0_0 a0_1 a0_2 a0_3 a0_4 a0_5 a0_6 a0_7 a0_8) (ds := []) #[ff,ff,ff,ff,ff,ff,ff,ff] (by kernel_rfl) rfl rfl (cl_9 BK101.out) (fun hHeld => ?_); refine Qbe QaW.tab1 QaW.bits1 (fun HT_ HW_ => ?_)
 generalize w4.drew = w5 at BK101 BK102 HB hHeld ⊢
 refine pz 0 3 ?_; refine pz 1 4 ?_; refine pz 4 7 ?_; refine tk9 2 5 ?_; refine tk9 5 8 ?_; refine one_ (i := 3) (N := some 6) #[tt,tt,tt,tt,tt,tt,ff,ff] rfl rfl (QbO HT_.out (by kernel_rfl)) (by decide) (fun K hK => ?_); refine Qcs Tryz.func63 (by kernel_rfl) rfl #[.int .i64 a0_0] (by rfl) rfl rfl (by (try simp only [List.map_toArray, List.map_cons, List.map_nil]); first | done | rfl | (simp only [List.length_drop, List.length_take]; rfl)) ?_
 with_reducible refine (QaX.calls k a0_0 t103 _ A2.out).mono ?_
 rintro e w6 ⟨rfl, hb⟩; refine ⟨_, rfl, ?_⟩; replace BK101 := Qaa.mk (Qac (g := gb101) bk_ hb); replace BK102 := Qaa.mk (Qac (g := gb102) bk_ hb); replace HB := Qaa.mk (Qad bw_ hb)
 (try clear hb)
 (try clear hb2)
 (try clear hk)
 (try clear hi)
 refine hK.out _ _ (cl_9 BK101.out) (fun hHeld => ?_); clear hK K; refine QbF (a' := ?_) ?_ ?_; rotate_left
 ·show Act.put _ (some 6) _ = _
  simp only [Act.put, put_, Qbt, Qbw]; rfl
 refine pz 6 9 ?_; refine one_ (i := 7) (N := none) #[tt,tt,tt,tt,tt,tt,tt,tt] rfl rfl (QbO HT_.out (by kernel_rfl)) (by decide) (fun K hK => ?_); have hs7 : w6.cell? ⟨gb102, 0, none⟩ = some (.string (⟨#[]⟩ : ByteArray)) := (Qam BK102.out 0).trans rfl; have hfs7 := Qaj BK102.out 0; have hns7_0 := NB101_102.out; have hms7_0 := NB102_101.out; have hs8 : w6.cell? ⟨gb102, 1, none⟩ = some (.string (⟨#[]⟩ : ByteArray)) := (Qam BK102.out 1).trans rfl; have hfs8 := Qaj BK102.out 1; have hns8_0 := NB101_102.out; have hms8_0 := NB102_101.out; refine skip_ (w1 := ?_) (by rfl) rfl ?_ ?_; rotate_left
 ·go_simp; rfl
 refine hK.out _ _ ⟨((cell_far (p := ⟨gb102, _, none⟩) NB101_102.out _).trans (((cell_far (p := ⟨gb102, _, none⟩) NB101_102.out _).trans (hHeld.1)))), ((cell_far (p := ⟨gb102, _, none⟩) NB101_102.out _).trans (((cell_far (p := ⟨gb102, _, none⟩) NB101_102.out _).trans (hHeld.2.1)))), ((cell_far (p := ⟨gb102, _, none⟩) NB101_102.out _).trans (((cell_far (p := ⟨gb102, _, none⟩) NB101_102.out _).trans (hHeld.2.2.1)))), ((cell_far (p := ⟨gb102, _, none⟩) NB101_102.out _).trans (((cell_far (p := ⟨gb102, _, none⟩) NB101_102.out _).trans (hHeld.2.2.2.1)))), ((cell_far (p := ⟨gb102, _, none⟩) NB101_102.out _).trans (((cell_far (p := ⟨gb102, _, none⟩) NB101_102.out _).trans (hHeld.2.2.2.2.1)))), ((cell_far (p := ⟨gb102, _, none⟩) NB101_102.out _).trans (((cell_far (p := ⟨gb102, _, none⟩) NB101_102.out _).trans (hHeld.2.2.2.2.2.1)))), ((cell_far (p := ⟨gb102, _, none⟩) NB101_102.out _).trans (((cell_far (p := ⟨gb102, _, none⟩) NB101_102.out _).trans (hHeld.2.2.2.2.2.2.1)))), ((cell_far (p := ⟨gb102, _, none⟩) NB101_102.out _).trans (((cell_far (p := ⟨gb102, _, none⟩) NB101_102.out _).trans (hHeld.2.2.2.2.2.2.2.1)))), ((cell_far (p := ⟨gb102, _, none⟩) NB101_102.out _).trans (((cell_far (p := ⟨gb102, _, none⟩) NB101_102.out _).trans (hHeld.2.2.2.2.2.2.2.2))))⟩ (fun hHeld => ?_); clear hK K; refine QbW (Qbx HT_.out (by kernel_rfl)) ?_
 try go_wp2
 refine bodyPost_ret (results_cell_row rfl _ _ gb102 24 #[.string t103, .string a0_2] (0, 0) _ rfl (by (with_reducible repeat (first | refine Qai ?_ _ | refine Qah ?_ | refine Qag ?_ _)); refine QaG (cs := #[.string t103, .string (⟨#[]⟩ : ByteArray)]) ?_ 1 _ rfl; (with_reducible repeat (first | refine Qai ?_ _ | refine Qah ?_ | refine Qag ?_ _)); refine QaG (cs := #[.string (⟨#[]⟩ : ByteArray), .string (⟨#[]⟩ : ByteArray)]) ?_ 0 _ rfl; (with_reducible repeat (first | refine Qai ?_ _ | refine Qah ?_ | refine Qag ?_ _)); exact BK102.out) Tryz.underlying24 rfl (by kernel_rfl)) rfl ?_; exact ⟨by first | rfl | (simp [Qaw, Qav] <;> rfl) | (simp [*, Qaw, Qav] <;> rfl), bw_⟩

def QaR.f (k : Nat) (a0_0 : Int) (a0_1 : Int) (a0_2 : ByteArray) (a0_3 : Int) (a0_4 : ByteArray) (a0_5 : ByteArray) (a0_6 : ByteArray) (a0_7 : ByteArray) (a0_8 : ByteArray) : Option (ByteArray × ByteArray) := (QaX.f k a0_0).bind fun t103 => (some (t103, a0_6))
def QaR.T1 : Bool × List (List Nat × List Nat) := (true, [([], []), ([0], [0]), ([1], [1]), ([2], [2]), ([], []), ([4], [4]), ([5], [5]), ([3, 6], [3, 6]), ([7, 3, 0, 1, 2, 3, 4, 5, 6, 7], [7])])
def QaR.B1 : List Nat := [0, 1, 3, 7, 0, 16, 48, 127, 255]
theorem QaR.tab1 : rtab .any (opsOf Tryz.f49 1) = QaR.T1 := by kernel_rfl
theorem QaR.bits1 : waitsOk QaR.T1.2 QaR.B1 = true := by kernel_rfl
set_option maxHeartbeats 8000000 in
set_option maxRecDepth 100000 in
theorem QaR.calls (k : Nat) (a0_0 : Int) (a0_1 : Int) (a0_2 : ByteArray) (a0_3 : Int) (a0_4 : ByteArray) (a0_5 : ByteArray) (a0_6 : ByteArray) (a0_7 : ByteArray) (a0_8 : ByteArray) (r1 : ByteArray) (r2 : ByteArray) (w : World) (h : QaR.f k a0_0 a0_1 a0_2 a0_3 a0_4 a0_5 a0_6 a0_7 a0_8 = some (r1, r2)) :
  Calls Tryz.prog 49 #[.agg #[.int .i64 a0_0, .int .i64 a0_1, .string a0_2, .int .i64 a0_3, .string a0_4, .string a0_5, .string a0_6, .string a0_7, .string a0_8]] w fun e w' => e = .returned (.agg #[.string r1, .string r2]) ∧ Below w.heap.size w w' := by
 have hu46 := Tryz.underlying46; have hu24 := Tryz.underlying24; have HB := Qaa.mk (Below.refl w.heap.size w); have H : ((QaX.f k a0_0).bind fun t103 => (some (t103, a0_6))) = some (r1, r2) := h; clear h; replace H := Option.bind_eq_some_iff.mp H; obtain ⟨t103, A20, H⟩ := H; replace H : (some (t103, a0_6)) = some (r1, r2) := H; have A2 := Qaa.mk A20; clear A20; simp only [Option.some.injEq, Prod.mk.injEq] at H; obtain ⟨rfl, rfl⟩ := H; go_enter Tryz.func49, Tryz.ntmps49
 try go_wp2_with (first | ((with_reducible refine QaM (N := 1) rfl ?_); refine QaK ?hg (N := 1) ?hd (cs := #[.int .i64 a0_0, .int .i64 a0_1, .string a0_2, .int .i64 a0_3, .string a0_4, .string a0_5, .string a0_6, .string a0_7, .string a0_8]) (t := 46) ?hr ?_; (case hd => rfl); (case hg => rfl); (case hr => first | (go_simp; done) | (go_simp; rfl)); intro gb101 hg w3 hbox hb; have BK101 := Qaa.mk (hbox); have GW101 := (gz_ hg : Qaa (w.heap.size ≤ gb101)); have GE101 := (gz_ hg : Qaa (w.heap.size ≤ gb101)); replace HB := Qaa.mk (Qad bw_ hb); clear hb hbox hg) | ((with_reducible refine QaM (N := 2) rfl ?_); refine QaK ?hg (N := 2) ?hd (cs := #[.string (⟨#[]⟩ : ByteArray), .string (⟨#[]⟩ : ByteArray)]) (t := 24) ?hr ?_; (case hd => rfl); (case hg => rfl); (case hr => first | (go_simp; done) | (go_simp; rfl)); intro gb102 hg w4 hbox hb; have BK102 := Qaa.mk (hbox); have GW102 := (gz_ hg : Qaa (w.heap.size ≤ gb102)); have GE102 := (gz_ hg : Qaa (w.heap.size ≤ gb102)); have NB101_102 := (nl_ hg : Qaa (gb101 ≠ gb102)); have NB102_101 := (ng_ hg : Qaa (gb102 ≠ gb101)); replace BK101 := Qaa.mk (Qac (g := gb101) bk_ hb); replace HB := Qaa.mk (Qad bw_ hb); clear hb hbox hg))
 replace BK101 := Qaa.mk (Qah BK101.out); replace BK102 := Qaa.mk (Qah BK102.out); replace HB := Qaa.mk (Qan HB.out); refine Qby (n := 9) (S := fun w' => cgl_iisisssss w' gb101 a0_0 a0_1 a0_2 a0_3 a0_4 a0_5 a0_6 a0_7 a0_8) (ds := []) #[ff,ff,ff,ff,ff,ff,ff,ff,ff] (by kernel_rfl) rfl rfl (cl_9 BK101.out) (fun hHeld => ?_); refine Qbe QaR.tab1 QaR.bits1 (fun HT_ HW_ => ?_)
 generalize w4.drew = w5 at BK101 BK102 HB hHeld ⊢
 refine pz 0 3 ?_; refine pz 1 4 ?_; refine pz 4 7 ?_; refine pz 5 8 ?_; refine tk9 2 5 ?_; refine tk9 6 9 ?_; refine one_ (i := 3) (N := some 6) #[tt,tt,tt,tt,tt,tt,tt,ff,ff] rfl rfl (QbO HT_.out (by kernel_rfl)) (by decide) (fun K hK => ?_); refine Qcs Tryz.func63 (by kernel_rfl) rfl #[.int .i64 a0_0] (by rfl) rfl rfl (by (try simp only [List.map_toArray, List.map_cons, List.map_nil]); first | done | rfl | (simp only [List.length_drop, List.length_take]; rfl)) ?_
 with_reducible refine (QaX.calls k a0_0 t103 _ A2.out).mono ?_
 rintro e w6 ⟨rfl, hb⟩; refine ⟨_, rfl, ?_⟩; replace BK101 := Qaa.mk (Qac (g := gb101) bk_ hb); replace BK102 := Qaa.mk (Qac (g := gb102) bk_ hb); replace HB := Qaa.mk (Qad bw_ hb)
 (try clear hb)
 (try clear hb2)
 (try clear hk)
 (try clear hi)
 refine hK.out _ _ (cl_9 BK101.out) (fun hHeld => ?_); clear hK K; refine QbF (a' := ?_) ?_ ?_; rotate_left
 ·show Act.put _ (some 6) _ = _
  simp only [Act.put, put_, Qbt, Qbw]; rfl
 refine pz 7 10 ?_; refine one_ (i := 8) (N := none) #[tt,tt,tt,tt,tt,tt,tt,tt,tt] rfl rfl (QbO HT_.out (by kernel_rfl)) (by decide) (fun K hK => ?_); have hs7 : w6.cell? ⟨gb102, 0, none⟩ = some (.string (⟨#[]⟩ : ByteArray)) := (Qam BK102.out 0).trans rfl; have hfs7 := Qaj BK102.out 0; have hns7_0 := NB101_102.out; have hms7_0 := NB102_101.out; have hs8 : w6.cell? ⟨gb102, 1, none⟩ = some (.string (⟨#[]⟩ : ByteArray)) := (Qam BK102.out 1).trans rfl; have hfs8 := Qaj BK102.out 1; have hns8_0 := NB101_102.out; have hms8_0 := NB102_101.out; refine skip_ (w1 := ?_) (by rfl) rfl ?_ ?_; rotate_left
 ·go_simp; rfl
 refine hK.out _ _ ⟨((cell_far (p := ⟨gb102, _, none⟩) NB101_102.out _).trans (((cell_far (p := ⟨gb102, _, none⟩) NB101_102.out _).trans (hHeld.1)))), ((cell_far (p := ⟨gb102, _, none⟩) NB101_102.out _).trans (((cell_far (p := ⟨gb102, _, none⟩) NB101_102.out _).trans (hHeld.2.1)))), ((cell_far (p := ⟨gb102, _, none⟩) NB101_102.out _).trans (((cell_far (p := ⟨gb102, _, none⟩) NB101_102.out _).trans (hHeld.2.2.1)))), ((cell_far (p := ⟨gb102, _, none⟩) NB101_102.out _).trans (((cell_far (p := ⟨gb102, _, none⟩) NB101_102.out _).trans (hHeld.2.2.2.1)))), ((cell_far (p := ⟨gb102, _, none⟩) NB101_102.out _).trans (((cell_far (p := ⟨gb102, _, none⟩) NB101_102.out _).trans (hHeld.2.2.2.2.1)))), ((cell_far (p := ⟨gb102, _, none⟩) NB101_102.out _).trans (((cell_far (p := ⟨gb102, _, none⟩) NB101_102.out _).trans (hHeld.2.2.2.2.2.1)))), ((cell_far (p := ⟨gb102, _, none⟩) NB101_102.out _).trans (((cell_far (p := ⟨gb102, _, none⟩) NB101_102.out _).trans (hHeld.2.2.2.2.2.2.1)))), ((cell_far (p := ⟨gb102, _, none⟩) NB101_102.out _).trans (((cell_far (p := ⟨gb102, _, none⟩) NB101_102.out _).trans (hHeld.2.2.2.2.2.2.2.1)))), ((cell_far (p := ⟨gb102, _, none⟩) NB101_102.out _).trans (((cell_far (p := ⟨gb102, _, none⟩) NB101_102.out _).trans (hHeld.2.2.2.2.2.2.2.2))))⟩ (fun hHeld => ?_); clear hK K; refine QbW (Qbx HT_.out (by kernel_rfl)) ?_
 try go_wp2
 refine bodyPost_ret (results_cell_row rfl _ _ gb102 24 #[.string t103, .string a0_6] (0, 0) _ rfl (by (with_reducible repeat (first | refine Qai ?_ _ | refine Qah ?_ | refine Qag ?_ _)); refine QaG (cs := #[.string t103, .string (⟨#[]⟩ : ByteArray)]) ?_ 1 _ rfl; (with_reducible repeat (first | refine Qai ?_ _ | refine Qah ?_ | refine Qag ?_ _)); refine QaG (cs := #[.string (⟨#[]⟩ : ByteArray), .string (⟨#[]⟩ : ByteArray)]) ?_ 0 _ rfl; (with_reducible repeat (first | refine Qai ?_ _ | refine Qah ?_ | refine Qag ?_ _)); exact BK102.out) Tryz.underlying24 rfl (by kernel_rfl)) rfl ?_; exact ⟨by first | rfl | (simp [Qaw, Qav] <;> rfl) | (simp [*, Qaw, Qav] <;> rfl), bw_⟩

def QbM.f (a0_0 : ByteArray) (a0_1 : ByteArray) (a1_0 : ByteArray) (a1_1 : ByteArray) : Option (Bool) := if a0_0.toList = a1_0.toList then (some (Op.bytesLess a0_1.toList a1_1.toList)) else (some (Op.bytesLess a0_0.toList a1_0.toList))
set_option maxHeartbeats 8000000 in
set_option maxRecDepth 100000 in
theorem QbM.calls (a0_0 : ByteArray) (a0_1 : ByteArray) (a1_0 : ByteArray) (a1_1 : ByteArray) (r : Bool) (w : World) (h : QbM.f a0_0 a0_1 a1_0 a1_1 = some r) :
  Calls Tryz.prog 50 #[.agg #[.string a0_0, .string a0_1], .agg #[.string a1_0, .string a1_1]] w fun e w' => e = .returned (.bool r) ∧ Below w.heap.size w w' := by
 have hu24 := Tryz.underlying24; have HB := Qaa.mk (Below.refl w.heap.size w); have H : (if a0_0.toList = a1_0.toList then (some (Op.bytesLess a0_1.toList a1_1.toList)) else (some (Op.bytesLess a0_0.toList a1_0.toList))) = some r := h; clear h
 by_cases c3 : a0_0.toList = a1_0.toList
 ·rw [if_pos c3] at H; have c3b0 : (a0_0.toList == a1_0.toList) = true := beq_iff_eq.mpr c3; have c3b1 : (a0_0.toList != a1_0.toList) = false := bne_eq_false_iff_eq.mpr c3; clear c3; obtain rfl := Option.some.inj H; go_enter Tryz.func50, Tryz.ntmps50
  go_wp2_with (first | ((with_reducible refine QaM (N := 2) rfl ?_); refine QaK ?hg (N := 2) ?hd (cs := #[.string a0_0, .string a0_1]) (t := 24) ?hr ?_; (case hd => rfl); (case hg => rfl); (case hr => first | (go_simp; done) | (go_simp; rfl)); intro gb101 hg w4 hbox hb; have BK101 := Qaa.mk (hbox); have GW101 := (gz_ hg : Qaa (w.heap.size ≤ gb101)); have GE101 := (gz_ hg : Qaa (w.heap.size ≤ gb101)); replace HB := Qaa.mk (Qad bw_ hb); clear hb hbox hg) | ((with_reducible refine QaM (N := 3) rfl ?_); refine QaK ?hg (N := 3) ?hd (cs := #[.string a1_0, .string a1_1]) (t := 24) ?hr ?_; (case hd => rfl); (case hg => rfl); (case hr => first | (go_simp; done) | (go_simp; rfl)); intro gb102 hg w5 hbox hb; have BK102 := Qaa.mk (hbox); have GW102 := (gz_ hg : Qaa (w.heap.size ≤ gb102)); have GE102 := (gz_ hg : Qaa (w.heap.size ≤ gb102)); have NB101_102 := (nl_ hg : Qaa (gb101 ≠ gb102)); have NB102_101 := (ng_ hg : Qaa (gb102 ≠ gb101)); replace BK101 := Qaa.mk (Qac (g := gb101) bk_ hb); replace HB := Qaa.mk (Qad bw_ hb); clear hb hbox hg; have hnb6 := NB101_102.out; have hnc6 := NB102_101.out; obtain ⟨c7_0, c7_1⟩ := Qb2 BK101.out; obtain ⟨f7_0, f7_1⟩ := fz_2 BK101.out; obtain ⟨c8_0, c8_1⟩ := Qb2 BK102.out; obtain ⟨f8_0, f8_1⟩ := fz_2 BK102.out))
  go_ret; exact ⟨by first | rfl | (simp [Qaw, Qav] <;> rfl) | (simp [*, Qaw, Qav] <;> rfl), bw_⟩
 ·rw [if_neg c3] at H; have c3b0 : (a0_0.toList == a1_0.toList) = false := beq_eq_false_iff_ne.mpr c3; have c3b1 : (a0_0.toList != a1_0.toList) = true := bne_iff_ne.mpr c3; obtain rfl := Option.some.inj H; go_enter Tryz.func50, Tryz.ntmps50
  go_wp2_with (first | ((with_reducible refine QaM (N := 2) rfl ?_); refine QaK ?hg (N := 2) ?hd (cs := #[.string a0_0, .string a0_1]) (t := 24) ?hr ?_; (case hd => rfl); (case hg => rfl); (case hr => first | (go_simp; done) | (go_simp; rfl)); intro gb101 hg w9 hbox hb; have BK101 := Qaa.mk (hbox); have GW101 := (gz_ hg : Qaa (w.heap.size ≤ gb101)); have GE101 := (gz_ hg : Qaa (w.heap.size ≤ gb101)); replace HB := Qaa.mk (Qad bw_ hb); clear hb hbox hg) | ((with_reducible refine QaM (N := 3) rfl ?_); refine QaK ?hg (N := 3) ?hd (cs := #[.string a1_0, .string a1_1]) (t := 24) ?hr ?_; (case hd => rfl); (case hg => rfl); (case hr => first | (go_simp; done) | (go_simp; rfl)); intro gb102 hg w10 hbox hb; have BK102 := Qaa.mk (hbox); have GW102 := (gz_ hg : Qaa (w.heap.size ≤ gb102)); have GE102 := (gz_ hg : Qaa (w.heap.size ≤ gb102)); have NB101_102 := (nl_ hg : Qaa (gb101 ≠ gb102)); have NB102_101 := (ng_ hg : Qaa (gb102 ≠ gb101)); replace BK101 := Qaa.mk (Qac (g := gb101) bk_ hb); replace HB := Qaa.mk (Qad bw_ hb); clear hb hbox hg; have hnb11 := NB101_102.out; have hnc11 := NB102_101.out; obtain ⟨c12_0, c12_1⟩ := Qb2 BK101.out; obtain ⟨f12_0, f12_1⟩ := fz_2 BK101.out; obtain ⟨c13_0, c13_1⟩ := Qb2 BK102.out; obtain ⟨f13_0, f13_1⟩ := fz_2 BK102.out))
  go_ret; exact ⟨by first | rfl | (simp [Qaw, Qav] <;> rfl) | (simp [*, Qaw, Qav] <;> rfl), bw_⟩
end
section
attribute [local go_sem] QaQ QaO QaZ QaY QaJ QaI QaP QaN
attribute [local go_sem high] eqA24
def QbC.f (a0_0 : ByteArray) (a0_1 : ByteArray) (a0_2 : ByteArray) (a1_0 : ByteArray) (a1_1 : ByteArray) (a1_2 : ByteArray) : Option (Bool) := if (!(a0_0.toList == a1_0.toList) || (!(a0_1.toList == a1_1.toList))) = true then ((QbM.f a0_0 a0_1 a1_0 a1_1).bind fun t103 => (some t103)) else (some (Op.bytesLess a0_2.toList a1_2.toList))
set_option maxHeartbeats 8000000 in
set_option maxRecDepth 100000 in
theorem QbC.calls (a0_0 : ByteArray) (a0_1 : ByteArray) (a0_2 : ByteArray) (a1_0 : ByteArray) (a1_1 : ByteArray) (a1_2 : ByteArray) (r : Bool) (w : World) (h : QbC.f a0_0 a0_1 a0_2 a1_0 a1_1 a1_2 = some r) :
  Calls Tryz.prog 35 #[.agg #[.string a0_0, .string a0_1, .string a0_2], .agg #[.string a1_0, .string a1_1, .string a1_2]] w fun e w' => e = .returned (.bool r) ∧ Below w.heap.size w w' := by
 have hu51 := Tryz.underlying51; have hu24 := Tryz.underlying24; have HB := Qaa.mk (Below.refl w.heap.size w); have H : (if (!(a0_0.toList == a1_0.toList) || (!(a0_1.toList == a1_1.toList))) = true then ((QbM.f a0_0 a0_1 a1_0 a1_1).bind fun t103 => (some t103)) else (some (Op.bytesLess a0_2.toList a1_2.toList))) = some r := h; clear h
 by_cases c3 : (!(a0_0.toList == a1_0.toList) || (!(a0_1.toList == a1_1.toList))) = true
 ·rw [if_pos c3] at H; have c3b0 : (!(a0_0.toList == a1_0.toList) || (!(a0_1.toList == a1_1.toList))) = true := c3; clear c3; replace H := Option.bind_eq_some_iff.mp H; obtain ⟨t103, A40, H⟩ := H; replace H : (some t103) = some r := H; have A4 := Qaa.mk A40; clear A40; obtain rfl := Option.some.inj H; go_enter Tryz.func35, Tryz.ntmps35
  go_wp2_with (first | ((with_reducible refine QaM (N := 2) rfl ?_); refine QaK ?hg (N := 2) ?hd (cs := #[.string a0_0, .string a0_1, .string a0_2]) (t := 51) ?hr ?_; (case hd => rfl); (case hg => rfl); (case hr => first | (go_simp; done) | (go_simp; rfl)); intro gb101 hg w5 hbox hb; have BK101 := Qaa.mk (hbox); have GW101 := (gz_ hg : Qaa (w.heap.size ≤ gb101)); have GE101 := (gz_ hg : Qaa (w.heap.size ≤ gb101)); replace HB := Qaa.mk (Qad bw_ hb); clear hb hbox hg) | ((with_reducible refine QaM (N := 3) rfl ?_); refine QaK ?hg (N := 3) ?hd (cs := #[.string a1_0, .string a1_1, .string a1_2]) (t := 51) ?hr ?_; (case hd => rfl); (case hg => rfl); (case hr => first | (go_simp; done) | (go_simp; rfl)); intro gb102 hg w6 hbox hb; have BK102 := Qaa.mk (hbox); have GW102 := (gz_ hg : Qaa (w.heap.size ≤ gb102)); have GE102 := (gz_ hg : Qaa (w.heap.size ≤ gb102)); have NB101_102 := (nl_ hg : Qaa (gb101 ≠ gb102)); have NB102_101 := (ng_ hg : Qaa (gb102 ≠ gb101)); replace BK101 := Qaa.mk (Qac (g := gb101) bk_ hb); replace HB := Qaa.mk (Qad bw_ hb); clear hb hbox hg; have hnb7 := NB101_102.out; have hnc7 := NB102_101.out; obtain ⟨c8_0, c8_1, c8_2⟩ := cz_sss BK101.out; obtain ⟨f8_0, f8_1, f8_2⟩ := fz_3 BK101.out; obtain ⟨c9_0, c9_1, c9_2⟩ := cz_sss BK102.out; obtain ⟨f9_0, f9_1, f9_2⟩ := fz_3 BK102.out) | ((with_reducible refine Qa5 (f := 50) rfl ?_); refine gL 14 Tryz.func50 #[.agg #[.string a0_0, .string a0_1], .agg #[.string a1_0, .string a1_1]] ?_; (with_reducible refine (QbM.calls a0_0 a0_1 a1_0 a1_1 t103 _ A4.out).mono ?_); rintro e w10 ⟨rfl, hb⟩; refine ⟨_, rfl, ?_⟩; replace BK101 := Qaa.mk (Qac (g := gb101) bk_ hb); replace BK102 := Qaa.mk (Qac (g := gb102) bk_ hb); replace HB := Qaa.mk (Qad bw_ hb); (try clear hb); (try clear hb2); (try clear hk); (try clear hi)))
  go_ret; exact ⟨by first | rfl | (simp [Qaw, Qav] <;> rfl) | (simp [*, Qaw, Qav] <;> rfl), bw_⟩
 ·rw [if_neg c3] at H
  have c3b0 : (!(a0_0.toList == a1_0.toList) || (!(a0_1.toList == a1_1.toList))) = false := by simpa using c3
  clear c3; obtain rfl := Option.some.inj H; go_enter Tryz.func35, Tryz.ntmps35
  go_wp2_with (first | ((with_reducible refine QaM (N := 2) rfl ?_); refine QaK ?hg (N := 2) ?hd (cs := #[.string a0_0, .string a0_1, .string a0_2]) (t := 51) ?hr ?_; (case hd => rfl); (case hg => rfl); (case hr => first | (go_simp; done) | (go_simp; rfl)); intro gb101 hg w11 hbox hb; have BK101 := Qaa.mk (hbox); have GW101 := (gz_ hg : Qaa (w.heap.size ≤ gb101)); have GE101 := (gz_ hg : Qaa (w.heap.size ≤ gb101)); replace HB := Qaa.mk (Qad bw_ hb); clear hb hbox hg) | ((with_reducible refine QaM (N := 3) rfl ?_); refine QaK ?hg (N := 3) ?hd (cs := #[.string a1_0, .string a1_1, .string a1_2]) (t := 51) ?hr ?_; (case hd => rfl); (case hg => rfl); (case hr => first | (go_simp; done) | (go_simp; rfl)); intro gb102 hg w12 hbox hb; have BK102 := Qaa.mk (hbox); have GW102 := (gz_ hg : Qaa (w.heap.size ≤ gb102)); have GE102 := (gz_ hg : Qaa (w.heap.size ≤ gb102)); have NB101_102 := (nl_ hg : Qaa (gb101 ≠ gb102)); have NB102_101 := (ng_ hg : Qaa (gb102 ≠ gb101)); replace BK101 := Qaa.mk (Qac (g := gb101) bk_ hb); replace HB := Qaa.mk (Qad bw_ hb); clear hb hbox hg; have hnb13 := NB101_102.out; have hnc13 := NB102_101.out; obtain ⟨c14_0, c14_1, c14_2⟩ := cz_sss BK101.out; obtain ⟨f14_0, f14_1, f14_2⟩ := fz_3 BK101.out; obtain ⟨c15_0, c15_1, c15_2⟩ := cz_sss BK102.out; obtain ⟨f15_0, f15_1, f15_2⟩ := fz_3 BK102.out))
  go_ret; exact ⟨by first | rfl | (simp [Qaw, Qav] <;> rfl) | (simp [*, Qaw, Qav] <;> rfl), bw_⟩


end
section
attribute [local go_sem] QaQ QaO QaZ QaY QaJ QaI QaP QaN
attribute [local go_sem high] eqA24 eqA27

end
section
attribute [local go_sem] QaQ QaO QaZ QaY QaJ QaI QaP QaN
def Qbs.f (l0 : List (S46)) (a1 : ByteArray) (a2_0 : ByteArray) (a2_1 : ByteArray) : Option Int := (foundF l0).bind fun x => if okPair ⟨⟨a2_0, a2_1⟩, a1⟩ then some (rnd x.2.2 ⟨⟨a2_0, a2_1⟩, a1⟩) else none
theorem Qbs.calls (A0 : Option Addr) (c0 : Nat) (l0 : List (S46)) (a1 : ByteArray) (a2_0 : ByteArray) (a2_1 : ByteArray) (r : Int) (w : World) (hr0 : Kd.C k46 w A0 l0.length l0) (hc0 : l0.length ≤ c0) (h : Qbs.f l0 a1 a2_0 a2_1 = some r) :
    Calls Tryz.prog 11 #[.slice A0 l0.length c0, .string a1, .agg #[.string a2_0, .string a2_1]] w fun e w' => e = .returned (.int .i64 r) ∧ Below w.heap.size w w' := by
  unfold Qbs.f at h; obtain ⟨x, hx, h⟩ := Option.bind_eq_some_iff.mp h
  by_cases hp : okPair ⟨⟨a2_0, a2_1⟩, a1⟩
  · rw [if_pos hp] at h
    obtain rfl := Option.some.inj h; exact round_walk w A0 c0 l0 a1 a2_0 a2_1 x hr0 hc0 hx hp
  · rw [if_neg hp] at h
    cases h
end
section
open Go.ChangeMaps (setBlock)
def supAll (T : List (Pair × Int)) (creds : List Cred) (who : ByteArray) : List S24 → Hads → Option (Option Hads)
  | [], s => some (some s)
  | r :: rs, s => if okPair ⟨r, who⟩ then (if rnd T ⟨r, who⟩ = 0 then some none else (finGather T creds 1000 ⟨r, who⟩ s).bind (supAll T creds who rs)) else none
def supIDs (H : List ID) (cs : List Cred) : List ID := (cs.filter fun c => decide (c.f0 ∈ H)).map (·.f0)
theorem supIDs_snoc (H : List ID) {cs : List Cred} {i : Nat} (h : i < cs.length) : supIDs H (cs.take (i + 1)) = supIDs H (cs.take i) ++ (if cs[i].f0 ∈ H then [cs[i].f0] else []) := by
  unfold supIDs; rw [List.take_add_one, List.getElem?_eq_getElem h, List.filter_append, List.map_append]
  congr 1
  show List.map _ (List.filter _ [cs[i]]) = _
  by_cases e : cs[i].f0 ∈ H <;> simp [e]
theorem supIDs_length (H : List ID) (cs : List Cred) : (supIDs H cs).length ≤ cs.length := by
  unfold supIDs; rw [List.length_map]; exact List.length_filter_le _ _
def supportF (l : List Cred) (who : ByteArray) (rs : List S24) : Option (List ID × Int) :=
  (foundF l).bind fun x => (supAll x.2.2 x.1 who rs ([], [])).bind fun o => match o with
    | none => some ([], 16)
    | some s => if s.2.length ≤ 1000000 ∧ (∀ c ∈ x.1, okID c.f0) then some (supIDs s.2 x.1, 0) else none
theorem had_look {w W : World} {bh : Nat} {H : List ID} (h : Tbl encID okID w bh (setT H)) (hb : Below w.heap.size w W) {i : ID} (hi : okID i) :
    (Instr.lookup 64 (.map (some bh)) (.agg #[.int .i64 i.f0, .int .i64 i.f1]) false).run Tryz.prog W = .ok (.bool (decide (i ∈ H))) W := by
  have hl := h.look idKey Tryz.underlying64 zeroBool hi false W (hb.block bh h.lt); refine hl.trans ?_; rw [if_neg (by decide), setT_get]
theorem Sets.grown {w0 W Y : World} {bs bh : Nat} {s : Hads} {α : Type} {d : Kd α} {e B : Nat} {ok : Nat → Prop} {v : Value} {xs : List α} (h : Sets w0 W bs bh s) (hR : Kd.R d e W B ok v xs) (hg : W.grownBy Y v.ownBlock) (hb : Below w0.heap.size w0 Y) : Sets w0 Y bs bh s := by
  refine ⟨h.seen.grown hg (fun e => ?_), h.had.grown hg (fun e => ?_), hb⟩
  · obtain ⟨cells, hc⟩ := Kd.R_typed hR bs e.symm
    obtain ⟨es, clock, hb, _⟩ := h.seen; rw [hb] at hc; cases hc
  · obtain ⟨cells, hc⟩ := Kd.R_typed hR bh e.symm
    obtain ⟨es, clock, hb, _⟩ := h.had; rw [hb] at hc; cases hc
abbrev kID := k27
theorem infoID : (Tryz.prog.info? 27).map (fun i => (i.zero, i.size, i.bytes)) = some (some (.agg #[.int .i64 0, .int .i64 0]), 2, 16) := by kernel_rfl
set_option maxRecDepth 100000 in
set_option maxHeartbeats 8000000 in
theorem support_walk (w : World) (A0 : Option Addr) (c0 : Nat) (l : List Cred) (who : ByteArray) (A2 : Option Addr) (c2 : Nat) (rs : List S24) (r : List ID × Int) (hr0 : Kd.C kCred w A0 l.length l) (hc0 : l.length ≤ c0) (hr2 : Kd.C k24 w A2 rs.length rs) (h : supportF l who rs = some r) (hlr : rs.length ≤ 1000000) :
    Calls Tryz.prog 14 #[.slice A0 l.length c0, .string who, .slice A2 rs.length c2] w fun e w' => ∃ v, e = .returned (.tuple #[v, .int .i64 r.2]) ∧ Kd.R kID 27 w' w.heap.size (fun _ => True) v r.1 ∧ Below w.heap.size w w' := by
  unfold supportF at h; obtain ⟨x, hx, h⟩ := Option.bind_eq_some_iff.mp h; obtain ⟨o, ho, h⟩ := Option.bind_eq_some_iff.mp h; have hf := found_calls w A0 c0 l x hr0 hc0 hx; have HR2 := Lib.hid hr2; have HLR := Lib.hid hlr; have HH := Lib.hid h; have HO := Lib.hid ho
  have hmk1 := fun W => run_makeMap (P := Tryz.prog) 63 W
  have hmk2 := fun W => run_makeMap (P := Tryz.prog) 64 W
  clear hr0 hc0 hx hr2 hlr h ho; go_enter Tryz.func14, Tryz.ntmps14
  go_upto_region 2 with (go_at_call 24; refine hf.mono ?_; rintro e w5 ⟨g, bb, D, rfl, hR5, hcr, hpr, hl5, hB5⟩)
  go_upto_region 3 with fail
  change Code.wp _ _ _ _ ((w5.alloc (.map #[] 0)).alloc (.map #[] 0))
  have SX : Sets w5 ((w5.alloc (.map #[] 0)).alloc (.map #[] 0)) w5.heap.size (w5.heap.size + 1) ([], []) := by
    have h1 := Tbl.made encPair okPair w5; have h2 := Tbl.made encID okID (w5.alloc (.map #[] 0))
    have e1 : (w5.alloc (.map #[] 0)).heap.size = w5.heap.size + 1 := by simp
    rw [e1] at h2; exact ⟨h1.below (Qak (Below.refl _ _) _), h2, Qak (Qak (Below.refl _ _) _) _⟩
  obtain ⟨bs, hbs⟩ : ∃ bs, bs = w5.heap.size := ⟨_, rfl⟩
  obtain ⟨bh, hbh⟩ : ∃ bh, bh = w5.heap.size + 1 := ⟨_, rfl⟩
  have HBB := Lib.hid (show w5.heap.size ≤ bs ∧ w5.heap.size ≤ bh ∧ bs ≠ bh from ⟨by omega, by omega, by omega⟩); rw [← hbh, ← hbs] at SX
  generalize (w5.alloc (.map #[] 0)).alloc (.map #[] 0) = X at SX ⊢
  rw [← hbh, ← hbs]
  have HFw := Lib.hid hR5.at
  have HBw := Lib.hid hB5; have HSX := Lib.hid SX; have HDc := Lib.hid (And.intro hcr hl5); clear hR5 hB5 SX hcr hpr hl5 hmk1 hmk2 hf hbs hbh; go_wp2
  go_loopg [23] (rs.length + 1) (fun kq v23 w' => ∃ (j : Nat) (sj : Hads), v23 = .int .i64 j ∧ Hid (kq = rs.length + 1 - j) ∧ Hid (j ≤ rs.length) ∧ Hid (supAll x.2.2 x.1 who (rs.drop j) sj = some o) ∧ Hid (Sets w5 w' bs bh sj))
  case atStart => exact ⟨0, _, rfl, Lib.hid rfl, Lib.hid (Nat.zero_le _), HO, HSX⟩
  case round =>
    clear HO HSX; obtain ⟨j, sj, rfl, HKq, HJ, HO, HS⟩ := hrel
    by_cases hj : j < rs.length
    · have d1 : decide ((j : Int) < (rs.length : Int)) = true := decide_eq_true (by omega)
      have d2 : decide (j < rs.length) = true := decide_eq_true hj; obtain ⟨ad, e, hx0, hx1⟩ := at_T24 (Kd.Qbc HR2.out (Qad HBw.out HS.out.below)) (j : Int) (by omega) (by omega); obtain rfl := e
      obtain ⟨y, hy⟩ : ∃ y, y = rs[j] := ⟨_, rfl⟩
      have erd : rd_T24 rs (j : Int) = y := by
        unfold rd_T24; rw [hy, Int.toNat_natCast, List.getD_eq_getElem?_getD, List.getElem?_eq_getElem hj]; rfl
      rw [erd, Int.toNat_natCast] at hx0 hx1; have p101 : (0 ≤ (j : Int)) = True := eq_true (by omega); have q101 : ((j : Int) < (rs.length : Int)) = True := eq_true (by omega); have hO := HO.out; rw [List.drop_eq_getElem_cons hj, ← hy, supAll] at hO
      by_cases hok : okPair ⟨y, who⟩
      case neg => rw [if_neg hok] at hO; cases hO
      rw [if_pos hok] at hO; have HJl := Lib.hid hj
      have wrapJ : wrap64 ((j : Int) + 1) = ((j + 1 : Nat) : Int) := by unfold wrap64; have := HLR.out; omega
      clear hy erd hj HO
      go_upto_region 6 with fail
      change Code.wp _ _ _ _ (wr.alloc (roleObj2 y)); have HYr := Qak (Below.refl wr.heap.size wr) (roleObj2 y); have BY := Qbf wr (roleObj2 y); have SY := HS.out.step HYr; clear HYr hx0 hx1 HS
      generalize wr.alloc (roleObj2 y) = Y at BY SY ⊢
      generalize wr.heap.size = kx at BY ⊢
      have y0 : Y.cell? ⟨kx, 0, none⟩ = some (.string y.f0) := (Qam BY 0).trans rfl; have y1 : Y.cell? ⟨kx, 1, none⟩ = some (.string y.f1) := (Qam BY 1).trans rfl
      go_upto_region 7 with fail
      obtain ⟨p, hp⟩ : ∃ p : Pair, p = ⟨y, who⟩ := ⟨_, rfl⟩
      change Code.wp _ _ _ _ (Y.alloc (pairObj ⟨y, who⟩)); rw [← hp] at hO hok ⊢; have BZ := Qbf Y (pairObj p); have SZ := SY.step (Qak (Below.refl Y.heap.size Y) (pairObj p)); clear BY SY y0 y1 hp
      generalize Y.alloc (pairObj p) = Z at BZ SZ ⊢
      generalize Y.heap.size = kzv at BZ ⊢
      obtain ⟨p0, p1, p2⟩ := pairCells BZ; have s2 := (HFw.out.below SZ.below).cells.2.2
      have L := fun m => (HFw.out.below SZ.below).look (Below.refl _ _) hok m
      obtain ⟨k, hk⟩ : ∃ k, k = rnd x.2.2 p := ⟨_, rfl⟩
      rw [← hk] at hO L; have HSZ := Lib.hid SZ; have HBZ := Lib.hid BZ; clear BZ SZ hk
      by_cases e : k = 0
      · have d : decide (k = 0) = true := decide_eq_true e
        have d1 : (k == 0) = true := by rw [e]; rfl
        rw [if_pos e] at hO; obtain rfl := Option.some.inj hO; have hH := HH.out
        dsimp only at hH
        obtain rfl := Option.some.inj hH; clear e hO hH HH
        go_quiet (fail)
        all_goals
          clear p0 p1 p2 s2 L; go_wp2
          go_ret2
          exact ⟨_, rfl, Kd.R_nil _ _ _ _ _, by repeat (first | exact Qad HBw.out HSZ.out.below | apply Qaz | apply Qan)⟩
      · have d : decide (k = 0) = false := decide_eq_false e
        have d1 : (k == 0) = false := beq_false_of_ne e; rw [if_neg e] at hO; obtain ⟨s1, hs1, hO⟩ := Option.bind_eq_some_iff.mp hO; have HO := Lib.hid hO; rw [← HDc.out.1] at hs1
        have HC := fun W (h : Sets w5 W bs bh sj) => finGather_calls g bb D x.2.2 HDc.out.2 w5 HFw.out bs bh HBB.out.1 HBB.out.2.1 HBB.out.2.2 1000 W p sj s1 h hs1
        unfold encPair at HC; have HC := Lib.hid HC; clear e hO hs1
        go_quiet (fail)
        all_goals
          clear s2 L
          go_wp2_with (go_at_call 28; (with_reducible refine (HC.out _ (Sets.step HSZ.out (by repeat (first | exact Below.refl _ _ | apply Qaz | apply Qan)))).mono ?_); rintro e w6 ⟨rfl, hS6, hK6⟩; have HS6 := Lib.hid hS6; clear hS6 hK6)
          go_roundg (rs.length + 1 - (j + 1))
          case measure => have := HKq.out; have := HJl.out; omega
          case rel => exact ⟨j + 1, s1, by first | rfl | exact congrArg _ wrapJ, Lib.hid rfl, Lib.hid HJl.out, HO, HS6⟩
    · have d1 : decide ((j : Int) < (rs.length : Int)) = false := decide_eq_false (by omega)
      have d2 : decide (j < rs.length) = false := decide_eq_false hj; have hO := HO.out; rw [List.drop_eq_nil_of_le (by omega), supAll] at hO; obtain rfl := Option.some.inj hO; have hH := HH.out
      dsimp only at hH
      by_cases hg : sj.2.length ≤ 1000000 ∧ (∀ c ∈ x.1, okID c.f0)
      case neg => rw [if_neg hg] at hH; cases hH
      rw [if_pos hg] at hH; obtain rfl := Option.some.inj hH; have HG := Lib.hid hg; clear hO hH HO HH hj hg HR2; have f0 := (HFw.out.below HS.out.below).cells.1
      obtain ⟨AD, hAD⟩ : ∃ AD, AD = D.A0 := ⟨_, rfl⟩
      obtain ⟨cD, hcD⟩ : ∃ cD, cD = D.c0 := ⟨_, rfl⟩
      obtain ⟨cs, hcs⟩ : ∃ cs, cs = D.creds := ⟨_, rfl⟩
      have HCr := Lib.hid (show Kd.C kCred w5 AD cs.length cs by rw [hAD, hcs]; exact HFw.out.cr); rw [← hAD, ← hcD, ← hcs] at f0; have hD := HDc.out; rw [← hcs] at hD; rw [← hD.1] at HG; have HX := Lib.hid hD.1; have HLc := Lib.hid hD.2; clear hD hAD hcD hcs HDc HFw; go_wp2; clear f0
      go_loopg [14, 48] (cs.length + 1) (fun kq v14 v48 w' => ∃ (i : Nat), v48 = .int .i64 i ∧ Hid (kq = cs.length + 1 - i) ∧ Hid (i ≤ cs.length) ∧ Hid (Kd.R kID 27 w' w5.heap.size (fun _ => True) v14 (supIDs sj.2 (cs.take i))) ∧ Hid (Sets w5 w' bs bh sj))
      case atStart => exact ⟨0, rfl, Lib.hid rfl, Lib.hid (Nat.zero_le _), Lib.hid (Kd.R_nil _ _ _ _ _), HS⟩
      case round =>
        clear HS; obtain ⟨i, rfl, HKi, HI, HR, HS⟩ := hrel
        by_cases hi : i < cs.length
        · have d3 : decide ((i : Int) < (cs.length : Int)) = true := decide_eq_true (by omega)
          have d4 : decide (i < cs.length) = true := decide_eq_true hi; obtain ⟨ad, e, hx0, hx1, hx2, hx3, hx4, hx5, hx6, hx7, hx8⟩ := Qcr (Kd.Qbc HCr.out HS.out.below) (i : Int) (by omega) (by omega); obtain rfl := e
          obtain ⟨y, hy⟩ : ∃ y, y = cs[i] := ⟨_, rfl⟩
          have erd : Qae cs (i : Int) = y := by
            unfold Qae; rw [hy, Int.toNat_natCast, List.getD_eq_getElem?_getD, List.getElem?_eq_getElem hi]; rfl
          rw [erd, Int.toNat_natCast] at hx0 hx1 hx2 hx3 hx4 hx5 hx6 hx7 hx8; have p101 : (0 ≤ (i : Int)) = True := eq_true (by omega); have q101 : ((i : Int) < (cs.length : Int)) = True := eq_true (by omega); have hoky : okID y.f0 := HG.out.2 y (by rw [hy]; exact List.getElem_mem hi); have hnext := supIDs_snoc sj.2 hi; rw [← hy] at hnext; have HLi := Lib.hid (show (supIDs sj.2 (cs.take i)).length ≤ i from Nat.le_trans (supIDs_length _ _) (by simp; omega)); have HIl := Lib.hid hi
          have wrapI : wrap64 ((i : Int) + 1) = ((i + 1 : Nat) : Int) := by unfold wrap64; have := HLc.out; omega
          clear hy erd hi
          go_upto_region 15 with fail
          change Code.wp _ _ _ _ (wr.alloc (credObj y)); have HYr := Qak (Below.refl wr.heap.size wr) (credObj y); have BY := Qbf wr (credObj y); have SY := HS.out.step HYr; have RY := Lib.hid (Kd.Qax HR.out (credObj y)); clear HYr hx0 hx1 hx2 hx3 hx4 hx5 hx6 hx7 hx8 HS HR
          generalize wr.alloc (credObj y) = Y at BY SY RY ⊢
          generalize wr.heap.size = kx at BY ⊢
          obtain ⟨c0, c1, c2, c3, c4, c5, c6, c7, c8⟩ := credCells BY; have L := had_look SY.had (Below.refl _ _) hoky; have HSY := Lib.hid SY; clear SY BY
          by_cases hin : y.f0 ∈ sj.2
          · rw [decide_eq_true hin] at L
            rw [if_pos hin] at hnext; have HN := Lib.hid hnext; clear hin hnext
            go_wp2_with ((with_reducible refine Qa3 (b := .append) (xs := #[.tmp 56, .tmp 59]) rfl ?_); at_builtin; refine Kd.QbB kID (w0 := w5) w5.heap.size rfl (.tmp 56) (.tmp 59) 39 27 (.agg #[.int .i64 0, .int .i64 0]) 16 rfl Tryz.underlying39 infoID rfl (by decide) (by omega) _ (supIDs sj.2 (cs.take i)) y.f0 [.int .i64 y.f0.f0, .int .i64 y.f0.f1] (fun _ => True) (fun _ => False) rfl rfl ?aP (fun _ hk => hk.elim) (fun _ _ => trivial) ?aO ?aB ?aS ?aL ?_; (case aP => exact k27_mkM _ _ _ y.f0); (case aB => exact HSY.out.below); (case aO => exact RY.out); (case aS => exact QaD HSY.out.below); (case aL => have := HLi.out; have := HIl.out; have := HLc.out; omega); intro v2 w2 ho hb hg hat)
            have HO := Lib.hid ho; have HS2 := Lib.hid (HSY.out.grown RY.out hg hb)
            clear ho hb hg hat
            go_roundg (cs.length + 1 - (i + 1))
            case measure => have := HKi.out; have := HIl.out; omega
            case rel => exact ⟨i + 1, by first | rfl | exact congrArg _ wrapI, Lib.hid rfl, Lib.hid HIl.out, Lib.hid (by rw [HN.out]; exact HO.out), HS2⟩
          · rw [decide_eq_false hin] at L
            rw [if_neg hin, List.append_nil] at hnext; have HN := Lib.hid hnext; clear hin hnext; go_wp2
            go_roundg (cs.length + 1 - (i + 1))
            case measure => have := HKi.out; have := HIl.out; omega
            case rel => exact ⟨i + 1, by first | rfl | exact congrArg _ wrapI, Lib.hid rfl, Lib.hid HIl.out, Lib.hid (by rw [HN.out]; exact RY.out), HSY⟩
        · have d3 : decide ((i : Int) < (cs.length : Int)) = false := decide_eq_false (by omega)
          have d4 : decide (i < cs.length) = false := decide_eq_false hi; have hR := HR.out; rw [List.take_of_length_le (by omega)] at hR; have HRe := Lib.hid hR; clear hR HR hi; go_wp2
          go_ret2
          refine ⟨_, rfl, Kd.Qa7 (?_ : Kd.R kID 27 wr w5.heap.size (fun _ => True) _ (supIDs sj.2 x.1)) HBw.out.size, Qad HBw.out HS.out.below⟩; rw [← HX.out]; exact HRe.out
end
section
attribute [local go_sem] QaQ QaO QaZ QaY QaJ QaI QaP QaN
def Qbo.f (l0 : List (S46)) (a1 : ByteArray) (l2 : List (S24)) : Option (List (S27) × Int) := if l2.length ≤ 1000000 then supportF l0 a1 l2 else none
theorem Qbo.calls (A0 : Option Addr) (c0 : Nat) (l0 : List (S46)) (a1 : ByteArray) (A2 : Option Addr) (c2 : Nat) (l2 : List (S24)) (r1 : List (S27)) (r2 : Int) (w : World) (hr0 : Kd.C k46 w A0 l0.length l0) (hc0 : l0.length ≤ c0) (hr2 : Kd.C k24 w A2 l2.length l2) (hc2 : l2.length ≤ c2) (h : Qbo.f l0 a1 l2 = some (r1, r2)) :
    Calls Tryz.prog 14 #[.slice A0 l0.length c0, .string a1, .slice A2 l2.length c2] w fun e w' => ∃ v0_ : Value, e = .returned (.tuple #[v0_, .int .i64 r2]) ∧ Kd.R k27 27 w' w.heap.size (fun _ => True) v0_ r1 ∧ Below w.heap.size w w' := by
  unfold Qbo.f at h
  by_cases hl : l2.length ≤ 1000000
  · rw [if_pos hl] at h
    exact support_walk w A0 c0 l0 a1 A2 c2 l2 (r1, r2) hr0 hc0 hr2 h hl
  · rw [if_neg hl] at h
    cases h
end
section
attribute [local go_sem] QaQ QaO QaZ QaY QaJ QaI QaP QaN
attribute [local go_sem high] eqA27
def Qa1.f  : Option (Bool) := (some (([(⟨(⟨1, 1⟩ : S27), (⟨#[97]⟩ : ByteArray), 2, (⟨#[]⟩ : ByteArray), (⟨(⟨#[100, 50]⟩ : ByteArray), (⟨#[98]⟩ : ByteArray)⟩ : S24), (⟨(⟨#[]⟩ : ByteArray), (⟨#[]⟩ : ByteArray)⟩ : S24)⟩ : S46), (⟨(⟨1, 2⟩ : S27), (⟨#[97]⟩ : ByteArray), 1, (⟨#[97, 110, 110]⟩ : ByteArray), (⟨(⟨#[]⟩ : ByteArray), (⟨#[]⟩ : ByteArray)⟩ : S24), (⟨(⟨#[]⟩ : ByteArray), (⟨#[]⟩ : ByteArray)⟩ : S24)⟩ : S46), (⟨(⟨2, 1⟩ : S27), (⟨#[98]⟩ : ByteArray), 1, (⟨#[97, 110, 110]⟩ : ByteArray), (⟨(⟨#[]⟩ : ByteArray), (⟨#[]⟩ : ByteArray)⟩ : S24), (⟨(⟨#[]⟩ : ByteArray), (⟨#[]⟩ : ByteArray)⟩ : S24)⟩ : S46)] : List (S46)) : List (S46))).bind fun y102 => ((Qa4.f y102 (⟨#[97, 110, 110]⟩ : ByteArray) (⟨#[100, 49]⟩ : ByteArray) (⟨#[97]⟩ : ByteArray)).bind fun bt105 => ((Qa4.f y102 (⟨#[98, 111, 98]⟩ : ByteArray) (⟨#[100, 49]⟩ : ByteArray) (⟨#[97]⟩ : ByteArray)).bind fun bt115 => ((Qbo.f y102 (⟨#[97, 110, 110]⟩ : ByteArray) (([(⟨(⟨#[100, 49]⟩ : ByteArray), (⟨#[97]⟩ : ByteArray)⟩ : S24), (⟨(⟨#[100, 50]⟩ : ByteArray), (⟨#[98]⟩ : ByteArray)⟩ : S24)] : List (S24)))).bind fun bt128 => (if (bt105.2.2.2.1 == 1 && (bt105.2.2.2.2.1 == 2)) = true then (if bt105.2.2.2.2.2.2 = 0 then (if bt115.2.2.2.2.2.2 = 16 then ((Qbs.f y102 (⟨#[97, 110, 110]⟩ : ByteArray) (⟨#[100, 49]⟩ : ByteArray) (⟨#[97]⟩ : ByteArray)).bind fun t132 => (if t132 = 1 then (if (bt128.1.length : Int) = 2 then (some (bt128.2 == 0)) else (none)) else (none))) else (none)) else (none)) else (none)))))
set_option maxHeartbeats 8000000 in
set_option maxRecDepth 100000 in
theorem Qa1.calls  (r : Bool) (w : World) (h : Qa1.f  = some r) :
  Calls Tryz.prog 13 #[] w fun e w' => e = .returned (.bool r) ∧ Below w.heap.size w w' := by
 have hu24 := Tryz.underlying24; have hu27 := Tryz.underlying27; have hu46 := Tryz.underlying46; have hu30 := Tryz.underlying30; have HB := Qaa.mk (Below.refl w.heap.size w); have H : ((some (([(⟨(⟨1, 1⟩ : S27), (⟨#[97]⟩ : ByteArray), 2, (⟨#[]⟩ : ByteArray), (⟨(⟨#[100, 50]⟩ : ByteArray), (⟨#[98]⟩ : ByteArray)⟩ : S24), (⟨(⟨#[]⟩ : ByteArray), (⟨#[]⟩ : ByteArray)⟩ : S24)⟩ : S46), (⟨(⟨1, 2⟩ : S27), (⟨#[97]⟩ : ByteArray), 1, (⟨#[97, 110, 110]⟩ : ByteArray), (⟨(⟨#[]⟩ : ByteArray), (⟨#[]⟩ : ByteArray)⟩ : S24), (⟨(⟨#[]⟩ : ByteArray), (⟨#[]⟩ : ByteArray)⟩ : S24)⟩ : S46), (⟨(⟨2, 1⟩ : S27), (⟨#[98]⟩ : ByteArray), 1, (⟨#[97, 110, 110]⟩ : ByteArray), (⟨(⟨#[]⟩ : ByteArray), (⟨#[]⟩ : ByteArray)⟩ : S24), (⟨(⟨#[]⟩ : ByteArray), (⟨#[]⟩ : ByteArray)⟩ : S24)⟩ : S46)] : List (S46)) : List (S46))).bind fun y102 => ((Qa4.f y102 (⟨#[97, 110, 110]⟩ : ByteArray) (⟨#[100, 49]⟩ : ByteArray) (⟨#[97]⟩ : ByteArray)).bind fun bt105 => ((Qa4.f y102 (⟨#[98, 111, 98]⟩ : ByteArray) (⟨#[100, 49]⟩ : ByteArray) (⟨#[97]⟩ : ByteArray)).bind fun bt115 => ((Qbo.f y102 (⟨#[97, 110, 110]⟩ : ByteArray) (([(⟨(⟨#[100, 49]⟩ : ByteArray), (⟨#[97]⟩ : ByteArray)⟩ : S24), (⟨(⟨#[100, 50]⟩ : ByteArray), (⟨#[98]⟩ : ByteArray)⟩ : S24)] : List (S24)))).bind fun bt128 => (if (bt105.2.2.2.1 == 1 && (bt105.2.2.2.2.1 == 2)) = true then (if bt105.2.2.2.2.2.2 = 0 then (if bt115.2.2.2.2.2.2 = 16 then ((Qbs.f y102 (⟨#[97, 110, 110]⟩ : ByteArray) (⟨#[100, 49]⟩ : ByteArray) (⟨#[97]⟩ : ByteArray)).bind fun t132 => (if t132 = 1 then (if (bt128.1.length : Int) = 2 then (some (bt128.2 == 0)) else (none)) else (none))) else (none)) else (none)) else (none)))))) = some r := h
 clear h
 obtain ⟨y102, hy102⟩ : ∃ y_ : List (S46), y_ = (([(⟨(⟨1, 1⟩ : S27), (⟨#[97]⟩ : ByteArray), 2, (⟨#[]⟩ : ByteArray), (⟨(⟨#[100, 50]⟩ : ByteArray), (⟨#[98]⟩ : ByteArray)⟩ : S24), (⟨(⟨#[]⟩ : ByteArray), (⟨#[]⟩ : ByteArray)⟩ : S24)⟩ : S46), (⟨(⟨1, 2⟩ : S27), (⟨#[97]⟩ : ByteArray), 1, (⟨#[97, 110, 110]⟩ : ByteArray), (⟨(⟨#[]⟩ : ByteArray), (⟨#[]⟩ : ByteArray)⟩ : S24), (⟨(⟨#[]⟩ : ByteArray), (⟨#[]⟩ : ByteArray)⟩ : S24)⟩ : S46), (⟨(⟨2, 1⟩ : S27), (⟨#[98]⟩ : ByteArray), 1, (⟨#[97, 110, 110]⟩ : ByteArray), (⟨(⟨#[]⟩ : ByteArray), (⟨#[]⟩ : ByteArray)⟩ : S24), (⟨(⟨#[]⟩ : ByteArray), (⟨#[]⟩ : ByteArray)⟩ : S24)⟩ : S46)] : List (S46))) := ⟨_, rfl⟩
 replace H : ((Qa4.f y102 (⟨#[97, 110, 110]⟩ : ByteArray) (⟨#[100, 49]⟩ : ByteArray) (⟨#[97]⟩ : ByteArray)).bind fun bt105 => ((Qa4.f y102 (⟨#[98, 111, 98]⟩ : ByteArray) (⟨#[100, 49]⟩ : ByteArray) (⟨#[97]⟩ : ByteArray)).bind fun bt115 => ((Qbo.f y102 (⟨#[97, 110, 110]⟩ : ByteArray) (([(⟨(⟨#[100, 49]⟩ : ByteArray), (⟨#[97]⟩ : ByteArray)⟩ : S24), (⟨(⟨#[100, 50]⟩ : ByteArray), (⟨#[98]⟩ : ByteArray)⟩ : S24)] : List (S24)))).bind fun bt128 => (if (bt105.2.2.2.1 == 1 && (bt105.2.2.2.2.1 == 2)) = true then (if bt105.2.2.2.2.2.2 = 0 then (if bt115.2.2.2.2.2.2 = 16 then ((Qbs.f y102 (⟨#[97, 110, 110]⟩ : ByteArray) (⟨#[100, 49]⟩ : ByteArray) (⟨#[97]⟩ : ByteArray)).bind fun t132 => (if t132 = 1 then (if (bt128.1.length : Int) = 2 then (some (bt128.2 == 0)) else (none)) else (none))) else (none)) else (none)) else (none))))) = some r := by first | (rw [hy102]; with_reducible exact H) | (have H2_ := (Option.bind_some _ _).symm.trans H; rw [hy102]; with_reducible exact H2_) | (have H2_ := (Option.bind_some _ _).symm.trans H; with_reducible exact H2_) | with_reducible exact H | (rw [hy102]; exact H) | exact H
 have Ny102 := Qaa.mk hy102; clear hy102; replace H := Option.bind_eq_some_iff.mp H; obtain ⟨⟨t105, t106, t107, t108, t109, t110, t113⟩, A10, H⟩ := H; replace H : ((Qa4.f y102 (⟨#[98, 111, 98]⟩ : ByteArray) (⟨#[100, 49]⟩ : ByteArray) (⟨#[97]⟩ : ByteArray)).bind fun bt115 => ((Qbo.f y102 (⟨#[97, 110, 110]⟩ : ByteArray) (([(⟨(⟨#[100, 49]⟩ : ByteArray), (⟨#[97]⟩ : ByteArray)⟩ : S24), (⟨(⟨#[100, 50]⟩ : ByteArray), (⟨#[98]⟩ : ByteArray)⟩ : S24)] : List (S24)))).bind fun bt128 => (if (t108 == 1 && (t109 == 2)) = true then (if t113 = 0 then (if bt115.2.2.2.2.2.2 = 16 then ((Qbs.f y102 (⟨#[97, 110, 110]⟩ : ByteArray) (⟨#[100, 49]⟩ : ByteArray) (⟨#[97]⟩ : ByteArray)).bind fun t132 => (if t132 = 1 then (if (bt128.1.length : Int) = 2 then (some (bt128.2 == 0)) else (none)) else (none))) else (none)) else (none)) else (none)))) = some r := H; have A1 := Qaa.mk A10; clear A10; replace H := Option.bind_eq_some_iff.mp H; obtain ⟨⟨t115, t116, t117, t118, t119, t120, t123⟩, A20, H⟩ := H; replace H : ((Qbo.f y102 (⟨#[97, 110, 110]⟩ : ByteArray) (([(⟨(⟨#[100, 49]⟩ : ByteArray), (⟨#[97]⟩ : ByteArray)⟩ : S24), (⟨(⟨#[100, 50]⟩ : ByteArray), (⟨#[98]⟩ : ByteArray)⟩ : S24)] : List (S24)))).bind fun bt128 => (if (t108 == 1 && (t109 == 2)) = true then (if t113 = 0 then (if t123 = 16 then ((Qbs.f y102 (⟨#[97, 110, 110]⟩ : ByteArray) (⟨#[100, 49]⟩ : ByteArray) (⟨#[97]⟩ : ByteArray)).bind fun t132 => (if t132 = 1 then (if (bt128.1.length : Int) = 2 then (some (bt128.2 == 0)) else (none)) else (none))) else (none)) else (none)) else (none))) = some r := H
 have A2 := Qaa.mk A20; clear A20
 obtain ⟨y125, hy125⟩ : ∃ y_ : List (S24), y_ = (([(⟨(⟨#[100, 49]⟩ : ByteArray), (⟨#[97]⟩ : ByteArray)⟩ : S24), (⟨(⟨#[100, 50]⟩ : ByteArray), (⟨#[98]⟩ : ByteArray)⟩ : S24)] : List (S24))) := ⟨_, rfl⟩
 replace H : ((Qbo.f y102 (⟨#[97, 110, 110]⟩ : ByteArray) y125).bind fun bt128 => (if (t108 == 1 && (t109 == 2)) = true then (if t113 = 0 then (if t123 = 16 then ((Qbs.f y102 (⟨#[97, 110, 110]⟩ : ByteArray) (⟨#[100, 49]⟩ : ByteArray) (⟨#[97]⟩ : ByteArray)).bind fun t132 => (if t132 = 1 then (if (bt128.1.length : Int) = 2 then (some (bt128.2 == 0)) else (none)) else (none))) else (none)) else (none)) else (none))) = some r := by first | (rw [hy125]; with_reducible exact H) | (have H2_ := (Option.bind_some _ _).symm.trans H; rw [hy125]; with_reducible exact H2_) | (have H2_ := (Option.bind_some _ _).symm.trans H; with_reducible exact H2_) | with_reducible exact H | (rw [hy125]; exact H) | exact H
 have Ny125 := Qaa.mk hy125; clear hy125; replace H := Option.bind_eq_some_iff.mp H; obtain ⟨⟨t128, t129⟩, A30, H⟩ := H; replace H : (if (t108 == 1 && (t109 == 2)) = true then (if t113 = 0 then (if t123 = 16 then ((Qbs.f y102 (⟨#[97, 110, 110]⟩ : ByteArray) (⟨#[100, 49]⟩ : ByteArray) (⟨#[97]⟩ : ByteArray)).bind fun t132 => (if t132 = 1 then (if (t128.length : Int) = 2 then (some (t129 == 0)) else (none)) else (none))) else (none)) else (none)) else (none)) = some r := H; have A3 := Qaa.mk A30; clear A30
 by_cases c4 : (t108 == 1 && (t109 == 2)) = true
 ·rw [if_pos c4] at H; have c4b0 : (t108 == 1 && (t109 == 2)) = true := c4
  (try (have c4b1 : decide (t108 = 1 && (t109 == 2)) = true := by simpa using c4))
  (try (have c4b2 : (t108 == 1 && (t109 == 2)) = true := by simpa using c4))
  clear c4
  by_cases c5 : t113 = 0
  ·rw [if_pos c5] at H; have c5b0 : (t113 == 0) = true := beq_iff_eq.mpr c5; have c5b1 : (t113 != 0) = false := bne_eq_false_iff_eq.mpr c5; clear c5
   by_cases c6 : t123 = 16
   ·rw [if_pos c6] at H; have c6b0 : (t123 == 16) = true := beq_iff_eq.mpr c6; have c6b1 : (t123 != 16) = false := bne_eq_false_iff_eq.mpr c6; clear c6; replace H := Option.bind_eq_some_iff.mp H; obtain ⟨t132, A70, H⟩ := H; replace H : (if t132 = 1 then (if (t128.length : Int) = 2 then (some (t129 == 0)) else (none)) else (none)) = some r := H; have A7 := Qaa.mk A70; clear A70
    by_cases c8 : t132 = 1
    ·rw [if_pos c8] at H; have c8b0 : (t132 == 1) = true := beq_iff_eq.mpr c8; have c8b1 : (t132 != 1) = false := bne_eq_false_iff_eq.mpr c8; clear c8
     by_cases c9 : (t128.length : Int) = 2
     ·rw [if_pos c9] at H; have c9b0 : ((t128.length : Int) == 2) = true := beq_iff_eq.mpr c9; have c9b1 : ((t128.length : Int) != 2) = false := bne_eq_false_iff_eq.mpr c9; clear c9; obtain rfl := Option.some.inj H; go_enter Tryz.func13, Tryz.ntmps13
      go_wp2_with (first | ((with_reducible refine QaM (N := 1) rfl ?_); (try (refine Qbg (by rfl) ?_; dsimp only)); refine QaK ?hg (N := 1) ?hd (cs := #[.string (⟨#[]⟩ : ByteArray), .string (⟨#[]⟩ : ByteArray)]) (t := 24) ?hr ?_; (case hd => rfl); (case hg => rfl); (case hr => first | (go_simp; done) | (go_simp; rfl)); intro gb101 hg w10 hbox hb; have BK101 := Qaa.mk (hbox); have GW101 := (gz_ hg : Qaa (w.heap.size ≤ gb101)); have GE101 := (gz_ hg : Qaa (w.heap.size ≤ gb101)); replace HB := Qaa.mk (Qad bw_ hb); clear hb hbox hg; obtain ⟨c11_0, c11_1⟩ := Qb2 BK101.out; obtain ⟨f11_0, f11_1⟩ := fz_2 BK101.out) | ((with_reducible refine QaM (N := 17) rfl ?_); (try (refine Qbg (by rfl) ?_; dsimp only)); refine Kd.R_lit k46 _ 46 ?hg (N := 17) ?hd (xs := ([(⟨(⟨1, 1⟩ : S27), (⟨#[97]⟩ : ByteArray), 2, (⟨#[]⟩ : ByteArray), (⟨(⟨#[100, 50]⟩ : ByteArray), (⟨#[98]⟩ : ByteArray)⟩ : S24), (⟨(⟨#[]⟩ : ByteArray), (⟨#[]⟩ : ByteArray)⟩ : S24)⟩ : S46), (⟨(⟨1, 2⟩ : S27), (⟨#[97]⟩ : ByteArray), 1, (⟨#[97, 110, 110]⟩ : ByteArray), (⟨(⟨#[]⟩ : ByteArray), (⟨#[]⟩ : ByteArray)⟩ : S24), (⟨(⟨#[]⟩ : ByteArray), (⟨#[]⟩ : ByteArray)⟩ : S24)⟩ : S46), (⟨(⟨2, 1⟩ : S27), (⟨#[98]⟩ : ByteArray), 1, (⟨#[97, 110, 110]⟩ : ByteArray), (⟨(⟨#[]⟩ : ByteArray), (⟨#[]⟩ : ByteArray)⟩ : S24), (⟨(⟨#[]⟩ : ByteArray), (⟨#[]⟩ : ByteArray)⟩ : S24)⟩ : S46)] : List (S46))) (inner := [.int .i64 1, .int .i64 1, .string (⟨#[97]⟩ : ByteArray), .int .i64 2, .string (⟨#[]⟩ : ByteArray), .string (⟨#[100, 50]⟩ : ByteArray), .string (⟨#[98]⟩ : ByteArray), .string (⟨#[]⟩ : ByteArray), .string (⟨#[]⟩ : ByteArray), .int .i64 1, .int .i64 2, .string (⟨#[97]⟩ : ByteArray), .int .i64 1, .string (⟨#[97, 110, 110]⟩ : ByteArray), .string (⟨#[]⟩ : ByteArray), .string (⟨#[]⟩ : ByteArray), .string (⟨#[]⟩ : ByteArray), .string (⟨#[]⟩ : ByteArray), .int .i64 2, .int .i64 1, .string (⟨#[98]⟩ : ByteArray), .int .i64 1, .string (⟨#[97, 110, 110]⟩ : ByteArray), .string (⟨#[]⟩ : ByteArray), .string (⟨#[]⟩ : ByteArray), .string (⟨#[]⟩ : ByteArray), .string (⟨#[]⟩ : ByteArray)]) (ok := fun _ => True) (okp := fun _ => True) ?hr ?hp (fun _ hk => hk) trivial (Below.refl _ _) (Nat.le_refl _) (by simp) ?_; (case hd => rfl); (case hg => rfl); (case hr => first | (go_simp; done) | (go_simp; rfl)); (case hp => exact (Reps.c9 (show Kd.M k46 _ _ _ (⟨(⟨1, 1⟩ : S27), (⟨#[97]⟩ : ByteArray), 2, (⟨#[]⟩ : ByteArray), (⟨(⟨#[100, 50]⟩ : ByteArray), (⟨#[98]⟩ : ByteArray)⟩ : S24), (⟨(⟨#[]⟩ : ByteArray), (⟨#[]⟩ : ByteArray)⟩ : S24)⟩ : S46) [.int .i64 1, .int .i64 1, .string (⟨#[97]⟩ : ByteArray), .int .i64 2, .string (⟨#[]⟩ : ByteArray), .string (⟨#[100, 50]⟩ : ByteArray), .string (⟨#[98]⟩ : ByteArray), .string (⟨#[]⟩ : ByteArray), .string (⟨#[]⟩ : ByteArray)] from (Qcu _ _ _ (⟨(⟨1, 1⟩ : S27), (⟨#[97]⟩ : ByteArray), 2, (⟨#[]⟩ : ByteArray), (⟨(⟨#[100, 50]⟩ : ByteArray), (⟨#[98]⟩ : ByteArray)⟩ : S24), (⟨(⟨#[]⟩ : ByteArray), (⟨#[]⟩ : ByteArray)⟩ : S24)⟩ : S46) )) (Reps.c9 (show Kd.M k46 _ _ _ (⟨(⟨1, 2⟩ : S27), (⟨#[97]⟩ : ByteArray), 1, (⟨#[97, 110, 110]⟩ : ByteArray), (⟨(⟨#[]⟩ : ByteArray), (⟨#[]⟩ : ByteArray)⟩ : S24), (⟨(⟨#[]⟩ : ByteArray), (⟨#[]⟩ : ByteArray)⟩ : S24)⟩ : S46) [.int .i64 1, .int .i64 2, .string (⟨#[97]⟩ : ByteArray), .int .i64 1, .string (⟨#[97, 110, 110]⟩ : ByteArray), .string (⟨#[]⟩ : ByteArray), .string (⟨#[]⟩ : ByteArray), .string (⟨#[]⟩ : ByteArray), .string (⟨#[]⟩ : ByteArray)] from (Qcu _ _ _ (⟨(⟨1, 2⟩ : S27), (⟨#[97]⟩ : ByteArray), 1, (⟨#[97, 110, 110]⟩ : ByteArray), (⟨(⟨#[]⟩ : ByteArray), (⟨#[]⟩ : ByteArray)⟩ : S24), (⟨(⟨#[]⟩ : ByteArray), (⟨#[]⟩ : ByteArray)⟩ : S24)⟩ : S46) )) (Reps.c9 (show Kd.M k46 _ _ _ (⟨(⟨2, 1⟩ : S27), (⟨#[98]⟩ : ByteArray), 1, (⟨#[97, 110, 110]⟩ : ByteArray), (⟨(⟨#[]⟩ : ByteArray), (⟨#[]⟩ : ByteArray)⟩ : S24), (⟨(⟨#[]⟩ : ByteArray), (⟨#[]⟩ : ByteArray)⟩ : S24)⟩ : S46) [.int .i64 2, .int .i64 1, .string (⟨#[98]⟩ : ByteArray), .int .i64 1, .string (⟨#[97, 110, 110]⟩ : ByteArray), .string (⟨#[]⟩ : ByteArray), .string (⟨#[]⟩ : ByteArray), .string (⟨#[]⟩ : ByteArray), .string (⟨#[]⟩ : ByteArray)] from (Qcu _ _ _ (⟨(⟨2, 1⟩ : S27), (⟨#[98]⟩ : ByteArray), 1, (⟨#[97, 110, 110]⟩ : ByteArray), (⟨(⟨#[]⟩ : ByteArray), (⟨#[]⟩ : ByteArray)⟩ : S24), (⟨(⟨#[]⟩ : ByteArray), (⟨#[]⟩ : ByteArray)⟩ : S24)⟩ : S46) )) (Reps.none _ _))))); intro v103 w12 ho13 hb hg_ hnew_; clear hg_ hnew_; (first | rw [← Ny102.out] at ho13 | (simp only [Int.reduceToNat] at ho13; rw [← Ny102.out] at ho13)); have HO104 := Qaa.mk (Kd.Qa7 ho13 (QaD bw_)); replace BK101 := Qaa.mk (Qac (g := gb101) (o := ob_ss (⟨#[100, 49]⟩ : ByteArray) (⟨#[97]⟩ : ByteArray) 24) (by (with_reducible repeat (first | refine Qai ?_ _ | refine Qah ?_ | refine Qag ?_ _)); refine QaG (cs := #[.string (⟨#[100, 49]⟩ : ByteArray), .string (⟨#[]⟩ : ByteArray)]) ?_ 1 _ rfl; (with_reducible repeat (first | refine Qai ?_ _ | refine Qah ?_ | refine Qag ?_ _)); refine QaG (cs := #[.string (⟨#[]⟩ : ByteArray), .string (⟨#[]⟩ : ByteArray)]) ?_ 0 _ rfl; (with_reducible repeat (first | refine Qai ?_ _ | refine Qah ?_ | refine Qag ?_ _)); exact BK101.out) hb); replace HB := Qaa.mk (Qad bw_ hb); clear hb ho13; obtain ⟨c14_0, c14_1⟩ := Qb2 BK101.out; obtain ⟨f14_0, f14_1⟩ := fz_2 BK101.out; obtain ⟨Ao15, co15, eo15⟩ := Kd.Qa2 HO104.out; subst eo15) | ((with_reducible refine Qa5 (f := 8) rfl ?_); refine gL 21 Tryz.func8 #[.slice Ao15 y102.length co15, .string (⟨#[97, 110, 110]⟩ : ByteArray), .agg #[.string (⟨#[100, 49]⟩ : ByteArray), .string (⟨#[97]⟩ : ByteArray)]] ?_; (with_reducible refine (Qa4.calls _ _ y102 (⟨#[97, 110, 110]⟩ : ByteArray) (⟨#[100, 49]⟩ : ByteArray) (⟨#[97]⟩ : ByteArray) t105 t106 t107 t108 t109 t110 t113 _ ?side1 ?side2 A1.out).mono ?_); (case side1 => exact kd_ ((Kd.QaF HO104.out).2.2)); (case side2 => exact (Kd.QaF HO104.out).2.1); rintro e w16 ⟨v111, rfl, ho0, hb⟩; refine ⟨_, rfl, ?_⟩; have HO112 := Qaa.mk (Kd.Qa7 ho0 (QaD bw_)); replace HO104 := Qaa.mk (Kd.Qau (ro_ HO104) hb); replace BK101 := Qaa.mk (Qac (g := gb101) bk_ hb); replace HB := Qaa.mk (Qad bw_ hb); (try clear hb); (try clear hb2); (try clear hk); (try clear hi); (try clear ho0)) | ((with_reducible refine QaM (N := 3) rfl ?_); (try (refine Qbg (by rfl) ?_; dsimp only)); refine QaK ?hg (N := 3) ?hd (cs := #[.string (⟨#[]⟩ : ByteArray), .string (⟨#[]⟩ : ByteArray), .string (⟨#[]⟩ : ByteArray), .int .i64 0, .int .i64 0, .slice none 0 0]) (t := 30) ?hr ?_; (case hd => rfl); (case hg => rfl); (case hr => first | (go_simp; done) | (go_simp; rfl)); intro gb114 hg w17 hbox hb; have BK114 := Qaa.mk (hbox); have GW114 := (gz_ hg : Qaa (w.heap.size ≤ gb114)); have GE114 := (gz_ hg : Qaa (w.heap.size ≤ gb114)); have NB101_114 := (nl_ hg : Qaa (gb101 ≠ gb114)); have NB114_101 := (ng_ hg : Qaa (gb114 ≠ gb101)); replace HO104 := Qaa.mk (Kd.Qau (ro_ HO104) hb); replace HO112 := Qaa.mk (Kd.Qau (Kd.Qb5 (ro_ HO112) gb114 (Nat.le_of_eq hg.symm)) hb); replace BK101 := Qaa.mk (Qac (g := gb101) bk_ hb); replace HB := Qaa.mk (Qad bw_ hb); clear hb hbox hg; have hnb18 := NB114_101.out; have hnc18 := NB101_114.out; obtain ⟨c19_0, c19_1, c19_2, c19_3, c19_4, c19_5⟩ := QbP BK114.out; obtain ⟨f19_0, f19_1, f19_2, f19_3, f19_4, f19_5⟩ := fz_6 BK114.out; obtain ⟨Ao20, co20, eo20⟩ := Kd.Qa2 HO112.out; subst eo20; obtain ⟨c21_0, c21_1⟩ := Qb2 BK101.out; obtain ⟨f21_0, f21_1⟩ := fz_2 BK101.out) | ((with_reducible refine Qa5 (f := 8) rfl ?_); refine gL 27 Tryz.func8 #[.slice Ao15 y102.length co15, .string (⟨#[98, 111, 98]⟩ : ByteArray), .agg #[.string (⟨#[100, 49]⟩ : ByteArray), .string (⟨#[97]⟩ : ByteArray)]] ?_; (with_reducible refine (Qa4.calls _ _ y102 (⟨#[98, 111, 98]⟩ : ByteArray) (⟨#[100, 49]⟩ : ByteArray) (⟨#[97]⟩ : ByteArray) t115 t116 t117 t118 t119 t120 t123 _ ?side1 ?side2 A2.out).mono ?_); (case side1 => refine (Kd.QaF (e := 46) (base := w.heap.size) (ok := fun k_ => True) (n := y102.length) (c := co15) ?_).2.2; exact (by (with_reducible repeat (first | apply Kd.Qax | apply Kd.Qay | apply Kd.QaE)); exact (Kd.QaL (Kd.QaH (p := ⟨gb114, 5, none⟩) (Kd.QaH (p := ⟨gb114, 4, none⟩) (Kd.QaH (p := ⟨gb114, 3, none⟩) (Kd.QaH (p := ⟨gb114, 2, none⟩) (Kd.QaH (p := ⟨gb114, 1, none⟩) (Kd.QaH (p := ⟨gb114, 0, none⟩) (Kd.Qcc HO104.out BK114.out (by decide)) (fun _ hk => hk.2) (.string t105)) (fun _ hk => hk.2) (.string t106)) (fun _ hk => hk.2) (.string t107)) (fun _ hk => hk.2) (.int .i64 t108)) (fun _ hk => hk.2) (.int .i64 t109)) (fun _ hk => hk.2) (.slice Ao20 t110.length co20)) (fun _ h_ => h_.1)))); (case side2 => exact (Kd.QaF HO104.out).2.1); rintro e w22 ⟨v121, rfl, ho0, hb⟩; refine ⟨_, rfl, ?_⟩; have HO122 := Qaa.mk (Kd.Qa7 (Kd.R_newB (Kd.R_new' ho0 (Kd.R_lt (by (with_reducible repeat (first | apply Kd.Qax | apply Kd.Qay | apply Kd.QaE)); exact (Kd.QaL (Kd.QaH (p := ⟨gb114, 5, none⟩) (Kd.QaH (p := ⟨gb114, 4, none⟩) (Kd.QaH (p := ⟨gb114, 3, none⟩) (Kd.QaH (p := ⟨gb114, 2, none⟩) (Kd.QaH (p := ⟨gb114, 1, none⟩) (Kd.QaH (p := ⟨gb114, 0, none⟩) (Kd.QaL HO112.out (fun k_ hk => (⟨hk, hk.2⟩ : _ ∧ k_ ≠ gb114))) (fun _ hk => hk.2) (.string t105)) (fun _ hk => hk.2) (.string t106)) (fun _ hk => hk.2) (.string t107)) (fun _ hk => hk.2) (.int .i64 t108)) (fun _ hk => hk.2) (.int .i64 t109)) (fun _ hk => hk.2) (.slice Ao20 t110.length co20)) (fun _ h_ => h_.1))))) (g := gb114) (o := QbD t105 t106 t107 t108 t109 (.slice Ao20 t110.length co20) 30) (by (with_reducible repeat (first | refine Qai ?_ _ | refine Qah ?_ | refine Qag ?_ _)); refine QaG (cs := #[.string t105, .string t106, .string t107, .int .i64 t108, .int .i64 t109, .slice none 0 0]) ?_ 5 _ rfl; (with_reducible repeat (first | refine Qai ?_ _ | refine Qah ?_ | refine Qag ?_ _)); refine QaG (cs := #[.string t105, .string t106, .string t107, .int .i64 t108, .int .i64 0, .slice none 0 0]) ?_ 4 _ rfl; (with_reducible repeat (first | refine Qai ?_ _ | refine Qah ?_ | refine Qag ?_ _)); refine QaG (cs := #[.string t105, .string t106, .string t107, .int .i64 0, .int .i64 0, .slice none 0 0]) ?_ 3 _ rfl; (with_reducible repeat (first | refine Qai ?_ _ | refine Qah ?_ | refine Qag ?_ _)); refine QaG (cs := #[.string t105, .string t106, .string (⟨#[]⟩ : ByteArray), .int .i64 0, .int .i64 0, .slice none 0 0]) ?_ 2 _ rfl; (with_reducible repeat (first | refine Qai ?_ _ | refine Qah ?_ | refine Qag ?_ _)); refine QaG (cs := #[.string t105, .string (⟨#[]⟩ : ByteArray), .string (⟨#[]⟩ : ByteArray), .int .i64 0, .int .i64 0, .slice none 0 0]) ?_ 1 _ rfl; (with_reducible repeat (first | refine Qai ?_ _ | refine Qah ?_ | refine Qag ?_ _)); refine QaG (cs := #[.string (⟨#[]⟩ : ByteArray), .string (⟨#[]⟩ : ByteArray), .string (⟨#[]⟩ : ByteArray), .int .i64 0, .int .i64 0, .slice none 0 0]) ?_ 0 _ rfl; (with_reducible repeat (first | refine Qai ?_ _ | refine Qah ?_ | refine Qag ?_ _)); exact BK114.out)) (QaD bw_)); replace HO104 := Qaa.mk (Kd.Qau (by (with_reducible repeat (first | apply Kd.Qax | apply Kd.Qay | apply Kd.QaE)); exact (Kd.QaL (Kd.QaH (p := ⟨gb114, 5, none⟩) (Kd.QaH (p := ⟨gb114, 4, none⟩) (Kd.QaH (p := ⟨gb114, 3, none⟩) (Kd.QaH (p := ⟨gb114, 2, none⟩) (Kd.QaH (p := ⟨gb114, 1, none⟩) (Kd.QaH (p := ⟨gb114, 0, none⟩) (Kd.Qcc HO104.out BK114.out (by decide)) (fun _ hk => hk.2) (.string t105)) (fun _ hk => hk.2) (.string t106)) (fun _ hk => hk.2) (.string t107)) (fun _ hk => hk.2) (.int .i64 t108)) (fun _ hk => hk.2) (.int .i64 t109)) (fun _ hk => hk.2) (.slice Ao20 t110.length co20)) (fun _ h_ => h_.1))) hb); replace HO112 := Qaa.mk (Kd.Qch (by (with_reducible repeat (first | apply Kd.Qax | apply Kd.Qay | apply Kd.QaE)); exact (Kd.QaL (Kd.QaH (p := ⟨gb114, 5, none⟩) (Kd.QaH (p := ⟨gb114, 4, none⟩) (Kd.QaH (p := ⟨gb114, 3, none⟩) (Kd.QaH (p := ⟨gb114, 2, none⟩) (Kd.QaH (p := ⟨gb114, 1, none⟩) (Kd.QaH (p := ⟨gb114, 0, none⟩) (Kd.QaL HO112.out (fun k_ hk => (⟨hk, hk.2⟩ : _ ∧ k_ ≠ gb114))) (fun _ hk => hk.2) (.string t105)) (fun _ hk => hk.2) (.string t106)) (fun _ hk => hk.2) (.string t107)) (fun _ hk => hk.2) (.int .i64 t108)) (fun _ hk => hk.2) (.int .i64 t109)) (fun _ hk => hk.2) (.slice Ao20 t110.length co20)) (fun _ h_ => h_.1))) (Kd.Qb0 ho0) hb); replace BK101 := Qaa.mk (Qac (g := gb101) (o := ob_ss (⟨#[100, 49]⟩ : ByteArray) (⟨#[97]⟩ : ByteArray) 24) bf_ hb); replace BK114 := Qaa.mk (Qac (g := gb114) (o := QbD t105 t106 t107 t108 t109 (.slice Ao20 t110.length co20) 30) (by (with_reducible repeat (first | refine Qai ?_ _ | refine Qah ?_ | refine Qag ?_ _)); refine QaG (cs := #[.string t105, .string t106, .string t107, .int .i64 t108, .int .i64 t109, .slice none 0 0]) ?_ 5 _ rfl; (with_reducible repeat (first | refine Qai ?_ _ | refine Qah ?_ | refine Qag ?_ _)); refine QaG (cs := #[.string t105, .string t106, .string t107, .int .i64 t108, .int .i64 0, .slice none 0 0]) ?_ 4 _ rfl; (with_reducible repeat (first | refine Qai ?_ _ | refine Qah ?_ | refine Qag ?_ _)); refine QaG (cs := #[.string t105, .string t106, .string t107, .int .i64 0, .int .i64 0, .slice none 0 0]) ?_ 3 _ rfl; (with_reducible repeat (first | refine Qai ?_ _ | refine Qah ?_ | refine Qag ?_ _)); refine QaG (cs := #[.string t105, .string t106, .string (⟨#[]⟩ : ByteArray), .int .i64 0, .int .i64 0, .slice none 0 0]) ?_ 2 _ rfl; (with_reducible repeat (first | refine Qai ?_ _ | refine Qah ?_ | refine Qag ?_ _)); refine QaG (cs := #[.string t105, .string (⟨#[]⟩ : ByteArray), .string (⟨#[]⟩ : ByteArray), .int .i64 0, .int .i64 0, .slice none 0 0]) ?_ 1 _ rfl; (with_reducible repeat (first | refine Qai ?_ _ | refine Qah ?_ | refine Qag ?_ _)); refine QaG (cs := #[.string (⟨#[]⟩ : ByteArray), .string (⟨#[]⟩ : ByteArray), .string (⟨#[]⟩ : ByteArray), .int .i64 0, .int .i64 0, .slice none 0 0]) ?_ 0 _ rfl; (with_reducible repeat (first | refine Qai ?_ _ | refine Qah ?_ | refine Qag ?_ _)); exact BK114.out) hb); replace HB := Qaa.mk (Qad bw_ hb); (try clear hb); (try clear hb2); (try clear hk); (try clear hi); (try clear ho0)) | ((with_reducible refine QaM (N := 5) rfl ?_); (try (refine Qbg (by rfl) ?_; dsimp only)); refine QaK ?hg (N := 5) ?hd (cs := #[.string (⟨#[]⟩ : ByteArray), .string (⟨#[]⟩ : ByteArray), .string (⟨#[]⟩ : ByteArray), .int .i64 0, .int .i64 0, .slice none 0 0]) (t := 30) ?hr ?_; (case hd => rfl); (case hg => rfl); (case hr => first | (go_simp; done) | (go_simp; rfl)); intro gb124 hg w23 hbox hb; have BK124 := Qaa.mk (hbox); have GW124 := (gz_ hg : Qaa (w.heap.size ≤ gb124)); have GE124 := (gz_ hg : Qaa (w.heap.size ≤ gb124)); have NB101_124 := (nl_ hg : Qaa (gb101 ≠ gb124)); have NB124_101 := (ng_ hg : Qaa (gb124 ≠ gb101)); have NB114_124 := (nl_ hg : Qaa (gb114 ≠ gb124)); have NB124_114 := (ng_ hg : Qaa (gb124 ≠ gb114)); replace HO104 := Qaa.mk (Kd.Qau (ro_ HO104) hb); replace HO112 := Qaa.mk (Kd.Qau (Kd.Qb5 (ro_ HO112) gb124 (Nat.le_of_eq hg.symm)) hb); replace HO122 := Qaa.mk (Kd.Qau (Kd.Qb5 (ro_ HO122) gb124 (Nat.le_of_eq hg.symm)) hb); replace BK101 := Qaa.mk (Qac (g := gb101) bk_ hb); replace BK114 := Qaa.mk (Qac (g := gb114) bk_ hb); replace HB := Qaa.mk (Qad bw_ hb); clear hb hbox hg; have hnb24 := NB124_101.out; have hnc24 := NB101_124.out; have hnb25 := NB124_114.out; have hnc25 := NB114_124.out; obtain ⟨c26_0, c26_1, c26_2, c26_3, c26_4, c26_5⟩ := QbP BK124.out; obtain ⟨f26_0, f26_1, f26_2, f26_3, f26_4, f26_5⟩ := fz_6 BK124.out; obtain ⟨Ao27, co27, eo27⟩ := Kd.Qa2 HO122.out; subst eo27; obtain ⟨c28_0, c28_1⟩ := Qb2 BK101.out; obtain ⟨f28_0, f28_1⟩ := fz_2 BK101.out) | ((with_reducible refine QaM (N := 34) rfl ?_); (try (refine Qbg (by rfl) ?_; dsimp only)); refine Kd.R_lit k24 _ 24 ?hg (N := 34) ?hd (xs := ([(⟨(⟨#[100, 49]⟩ : ByteArray), (⟨#[97]⟩ : ByteArray)⟩ : S24), (⟨(⟨#[100, 50]⟩ : ByteArray), (⟨#[98]⟩ : ByteArray)⟩ : S24)] : List (S24))) (inner := [.string (⟨#[100, 49]⟩ : ByteArray), .string (⟨#[97]⟩ : ByteArray), .string (⟨#[100, 50]⟩ : ByteArray), .string (⟨#[98]⟩ : ByteArray)]) (ok := fun _ => True) (okp := fun _ => True) ?hr ?hp (fun _ hk => hk) trivial (Below.refl _ _) (Nat.le_refl _) (by simp) ?_; (case hd => rfl); (case hg => rfl); (case hr => first | (go_simp; done) | (go_simp; rfl)); (case hp => exact (Reps.c2 (show Kd.M k24 _ _ _ (⟨(⟨#[100, 49]⟩ : ByteArray), (⟨#[97]⟩ : ByteArray)⟩ : S24) [.string (⟨#[100, 49]⟩ : ByteArray), .string (⟨#[97]⟩ : ByteArray)] from (k24_mkM _ _ _ (⟨(⟨#[100, 49]⟩ : ByteArray), (⟨#[97]⟩ : ByteArray)⟩ : S24) )) (Reps.c2 (show Kd.M k24 _ _ _ (⟨(⟨#[100, 50]⟩ : ByteArray), (⟨#[98]⟩ : ByteArray)⟩ : S24) [.string (⟨#[100, 50]⟩ : ByteArray), .string (⟨#[98]⟩ : ByteArray)] from (k24_mkM _ _ _ (⟨(⟨#[100, 50]⟩ : ByteArray), (⟨#[98]⟩ : ByteArray)⟩ : S24) )) (Reps.none _ _)))); intro v126 w29 ho30 hb hg_ hnew_; clear hg_ hnew_; (first | rw [← Ny125.out] at ho30 | (simp only [Int.reduceToNat] at ho30; rw [← Ny125.out] at ho30)); have HO127 := Qaa.mk (Kd.Qa7 (Kd.R_newB ho30 (g := gb101) (o := ob_ss (⟨#[100, 49]⟩ : ByteArray) (⟨#[97]⟩ : ByteArray) 24) bf_) (QaD bw_)); replace HO104 := Qaa.mk (Kd.Qau (by (with_reducible repeat (first | apply Kd.Qax | apply Kd.Qay | apply Kd.QaE)); exact (Kd.QaL (Kd.QaH (p := ⟨gb124, 5, none⟩) (Kd.QaH (p := ⟨gb124, 4, none⟩) (Kd.QaH (p := ⟨gb124, 3, none⟩) (Kd.QaH (p := ⟨gb124, 2, none⟩) (Kd.QaH (p := ⟨gb124, 1, none⟩) (Kd.QaH (p := ⟨gb124, 0, none⟩) (Kd.Qcc HO104.out BK124.out (by decide)) (fun _ hk => hk.2) (.string t115)) (fun _ hk => hk.2) (.string t116)) (fun _ hk => hk.2) (.string t117)) (fun _ hk => hk.2) (.int .i64 t118)) (fun _ hk => hk.2) (.int .i64 t119)) (fun _ hk => hk.2) (.slice Ao27 t120.length co27)) (fun _ h_ => h_.1))) hb); replace HO112 := Qaa.mk (Kd.Qau (by (with_reducible repeat (first | apply Kd.Qax | apply Kd.Qay | apply Kd.QaE)); exact (Kd.QaL (Kd.QaH (p := ⟨gb124, 5, none⟩) (Kd.QaH (p := ⟨gb124, 4, none⟩) (Kd.QaH (p := ⟨gb124, 3, none⟩) (Kd.QaH (p := ⟨gb124, 2, none⟩) (Kd.QaH (p := ⟨gb124, 1, none⟩) (Kd.QaH (p := ⟨gb124, 0, none⟩) (Kd.QaL HO112.out (fun k_ hk => (⟨hk, hk.2⟩ : _ ∧ k_ ≠ gb124))) (fun _ hk => hk.2) (.string t115)) (fun _ hk => hk.2) (.string t116)) (fun _ hk => hk.2) (.string t117)) (fun _ hk => hk.2) (.int .i64 t118)) (fun _ hk => hk.2) (.int .i64 t119)) (fun _ hk => hk.2) (.slice Ao27 t120.length co27)) (fun _ h_ => h_.1))) hb); replace HO122 := Qaa.mk (Kd.Qau (by (with_reducible repeat (first | apply Kd.Qax | apply Kd.Qay | apply Kd.QaE)); exact (Kd.QaL (Kd.QaH (p := ⟨gb124, 5, none⟩) (Kd.QaH (p := ⟨gb124, 4, none⟩) (Kd.QaH (p := ⟨gb124, 3, none⟩) (Kd.QaH (p := ⟨gb124, 2, none⟩) (Kd.QaH (p := ⟨gb124, 1, none⟩) (Kd.QaH (p := ⟨gb124, 0, none⟩) (Kd.QaL HO122.out (fun k_ hk => (⟨hk, hk.2⟩ : _ ∧ k_ ≠ gb124))) (fun _ hk => hk.2) (.string t115)) (fun _ hk => hk.2) (.string t116)) (fun _ hk => hk.2) (.string t117)) (fun _ hk => hk.2) (.int .i64 t118)) (fun _ hk => hk.2) (.int .i64 t119)) (fun _ hk => hk.2) (.slice Ao27 t120.length co27)) (fun _ h_ => h_.1))) hb); replace BK101 := Qaa.mk (Qac (g := gb101) (o := ob_ss (⟨#[100, 49]⟩ : ByteArray) (⟨#[97]⟩ : ByteArray) 24) bf_ hb); replace BK114 := Qaa.mk (Qac (g := gb114) (o := QbD t105 t106 t107 t108 t109 (.slice Ao20 t110.length co20) 30) bf_ hb); replace BK124 := Qaa.mk (Qac (g := gb124) (o := QbD t115 t116 t117 t118 t119 (.slice Ao27 t120.length co27) 30) (by (with_reducible repeat (first | refine Qai ?_ _ | refine Qah ?_ | refine Qag ?_ _)); refine QaG (cs := #[.string t115, .string t116, .string t117, .int .i64 t118, .int .i64 t119, .slice none 0 0]) ?_ 5 _ rfl; (with_reducible repeat (first | refine Qai ?_ _ | refine Qah ?_ | refine Qag ?_ _)); refine QaG (cs := #[.string t115, .string t116, .string t117, .int .i64 t118, .int .i64 0, .slice none 0 0]) ?_ 4 _ rfl; (with_reducible repeat (first | refine Qai ?_ _ | refine Qah ?_ | refine Qag ?_ _)); refine QaG (cs := #[.string t115, .string t116, .string t117, .int .i64 0, .int .i64 0, .slice none 0 0]) ?_ 3 _ rfl; (with_reducible repeat (first | refine Qai ?_ _ | refine Qah ?_ | refine Qag ?_ _)); refine QaG (cs := #[.string t115, .string t116, .string (⟨#[]⟩ : ByteArray), .int .i64 0, .int .i64 0, .slice none 0 0]) ?_ 2 _ rfl; (with_reducible repeat (first | refine Qai ?_ _ | refine Qah ?_ | refine Qag ?_ _)); refine QaG (cs := #[.string t115, .string (⟨#[]⟩ : ByteArray), .string (⟨#[]⟩ : ByteArray), .int .i64 0, .int .i64 0, .slice none 0 0]) ?_ 1 _ rfl; (with_reducible repeat (first | refine Qai ?_ _ | refine Qah ?_ | refine Qag ?_ _)); refine QaG (cs := #[.string (⟨#[]⟩ : ByteArray), .string (⟨#[]⟩ : ByteArray), .string (⟨#[]⟩ : ByteArray), .int .i64 0, .int .i64 0, .slice none 0 0]) ?_ 0 _ rfl; (with_reducible repeat (first | refine Qai ?_ _ | refine Qah ?_ | refine Qag ?_ _)); exact BK124.out) hb); replace HB := Qaa.mk (Qad bw_ hb); clear hb ho30; obtain ⟨Ao31, co31, eo31⟩ := Kd.Qa2 HO127.out; subst eo31) | ((with_reducible refine Qa5 (f := 14) rfl ?_); refine gL 35 Tryz.func14 #[.slice Ao15 y102.length co15, .string (⟨#[97, 110, 110]⟩ : ByteArray), .slice Ao31 y125.length co31] ?_; (with_reducible refine (Qbo.calls _ _ y102 (⟨#[97, 110, 110]⟩ : ByteArray) _ _ y125 t128 t129 _ ?side1 ?side2 ?side3 ?side4 A3.out).mono ?_); (case side1 => exact kd_ ((Kd.QaF HO104.out).2.2)); (case side2 => exact (Kd.QaF HO104.out).2.1); (case side3 => exact kd_ ((Kd.QaF HO127.out).2.2)); (case side4 => exact (Kd.QaF HO127.out).2.1); rintro e w32 ⟨v130, rfl, ho0, hb⟩; refine ⟨_, rfl, ?_⟩; have HO131 := Qaa.mk (Kd.Qa7 ho0 (QaD bw_)); replace HO104 := Qaa.mk (Kd.Qau (ro_ HO104) hb); replace HO112 := Qaa.mk (Kd.Qau (ro_ HO112) hb); replace HO122 := Qaa.mk (Kd.Qau (ro_ HO122) hb); replace HO127 := Qaa.mk (Kd.Qau (ro_ HO127) hb); replace BK101 := Qaa.mk (Qac (g := gb101) bk_ hb); replace BK114 := Qaa.mk (Qac (g := gb114) bk_ hb); replace BK124 := Qaa.mk (Qac (g := gb124) bk_ hb); replace HB := Qaa.mk (Qad bw_ hb); (try clear hb); (try clear hb2); (try clear hk); (try clear hi); (try clear ho0); obtain ⟨c33_0, c33_1, c33_2, c33_3, c33_4, c33_5⟩ := QbP BK114.out; obtain ⟨f33_0, f33_1, f33_2, f33_3, f33_4, f33_5⟩ := fz_6 BK114.out; obtain ⟨c34_0, c34_1⟩ := Qb2 BK101.out; obtain ⟨f34_0, f34_1⟩ := fz_2 BK101.out) | (go_at_call 11; (with_reducible refine (Qbs.calls _ _ y102 (⟨#[97, 110, 110]⟩ : ByteArray) (⟨#[100, 49]⟩ : ByteArray) (⟨#[97]⟩ : ByteArray) t132 _ ?side1 ?side2 A7.out).mono ?_); (case side1 => exact kd_ ((Kd.QaF HO104.out).2.2)); (case side2 => exact (Kd.QaF HO104.out).2.1); rintro e w35 ⟨rfl, hb⟩; replace HO104 := Qaa.mk (Kd.Qau (ro_ HO104) hb); replace HO112 := Qaa.mk (Kd.Qau (ro_ HO112) hb); replace HO122 := Qaa.mk (Kd.Qau (ro_ HO122) hb); replace HO127 := Qaa.mk (Kd.Qau (ro_ HO127) hb); replace HO131 := Qaa.mk (Kd.Qau (ro_ HO131) hb); replace BK101 := Qaa.mk (Qac (g := gb101) bk_ hb); replace BK114 := Qaa.mk (Qac (g := gb114) bk_ hb); replace BK124 := Qaa.mk (Qac (g := gb124) bk_ hb); replace HB := Qaa.mk (Qad bw_ hb); (try clear hb); (try clear hb2); (try clear hk); (try clear hi); obtain ⟨Ao36, co36, eo36⟩ := Kd.Qa2 HO131.out; subst eo36))
      go_ret; exact ⟨by first | rfl | (simp [Qaw, Qav] <;> rfl) | (simp [*, Qaw, Qav] <;> rfl), bw_⟩
     ·rw [if_neg c9] at H; have c9b0 : ((t128.length : Int) == 2) = false := beq_eq_false_iff_ne.mpr c9; have c9b1 : ((t128.length : Int) != 2) = true := bne_iff_ne.mpr c9; cases H
    ·rw [if_neg c8] at H; have c8b0 : (t132 == 1) = false := beq_eq_false_iff_ne.mpr c8; have c8b1 : (t132 != 1) = true := bne_iff_ne.mpr c8; cases H
   ·rw [if_neg c6] at H; have c6b0 : (t123 == 16) = false := beq_eq_false_iff_ne.mpr c6; have c6b1 : (t123 != 16) = true := bne_iff_ne.mpr c6; cases H
  ·rw [if_neg c5] at H; have c5b0 : (t113 == 0) = false := beq_eq_false_iff_ne.mpr c5; have c5b1 : (t113 != 0) = true := bne_iff_ne.mpr c5; cases H
 ·rw [if_neg c4] at H
  have c4b0 : (t108 == 1 && (t109 == 2)) = false := by simpa using c4
  (try (have c4b1 : decide (t108 = 1 && (t109 == 2)) = false := by simpa using c4))
  (try (have c4b2 : (t108 == 1 && (t109 == 2)) = false := by simpa using c4))
  (try (have c4b3 : ¬ (t108 = 1 && (t109 == 2)) := by simpa using c4))
  clear c4; cases H


end
end Go.Proofs.YtbjjgaahdnfflaaGreatDoor.Pr
end
