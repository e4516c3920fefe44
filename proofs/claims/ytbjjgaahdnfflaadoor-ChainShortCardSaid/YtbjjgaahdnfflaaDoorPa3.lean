/- The proof's own texts, joined: part 3. No conditions. -/
import Derived.Shelf.SlicesG.Cmp
import Derived.WalkKit
import Derived.WalkSpells
import Derived.Lib.Hide
import Derived.StillTailTactics
import Derived.Sort.Grow
import Derived.KernelRfl
import Derived.Lib.SlicesS
import Derived.DeepKeys4
import Derived.WalkLawsBesides
import Derived.Deep.QuietTactic
import Derived.Deep.RegionWith
import Derived.BigQuiet
import Derived.RegionTactic
import Derived.ChangeAlike
import Derived.Deep.RegionLaw
import Derived.Lib.SmallJoins
import Derived.Deep.RegionHeld3
import Derived.Deep.DrawnRows
import Derived.OrdersHeld
import Derived.Laws.BitsLemmas
import Derived.RowKit
import Derived.Sort.Walk0
import Derived.Laws.Strings
import Derived.Shelf.SlicesE.Clone
import Derived.Test.YtbjjgaahdnfflaaDoorProg
import Derived.Below
import Derived.Deep.Draws
import Derived.Deep.AppendLies
import Derived.Maps.AppendAt
import Derived.OwnWalk
import Derived.Laws.BytesArg
import Derived.Laws.MakeOwn
import Derived.Laws.OwnMore
import Derived.Deep.OwnRows
import Derived.Tactics
import Derived.Lib.ConvBytes
import Derived.Laws.Slices
import Derived.RowKit3
import Derived.Deep.LoopGhost
import Derived.WideLaws
import Derived.Deep.DeepCutAuto
import Derived.Deep.CutBlock
import Derived.Laws.Rows
import Derived.Lib.AppendStr
import Derived.ArgAppend
import Derived.Laws.IdiomCopy
import Derived.Ground.SlgcProg
import Derived.Shelf.SlSortCmp.NoneTotal
import Derived.Shelf.SlSortCmp.WholeK
import Derived.Ground.SlsfProg
import Derived.Ground.SlgnProg
import Derived.Laws.StructEq
import Derived.Maps.OwnSet
import Derived.Maps.RangeRun
import Derived.Maps.Range
import Derived.Carry
import Derived.Laws.RangeAny
import Derived.Laws.Closers25
import Derived.Outline
import Derived.Shelf.GgSortFunc.InsertionK
import Derived.Sort.LotA
import Derived.Test.YtbjjgaahdnfflaaDoorPa0
import Derived.Test.YtbjjgaahdnfflaaDoorPa1
import Derived.Test.YtbjjgaahdnfflaaDoorPa2
section
namespace Go.Proofs.YtbjjgaahdnfflaaDoor.Pr
open Go.RowKit Go.Proofs.YtbjjgaahdnfflaaDoorW.PrintWords Go.Proofs.YtbjjgaahdnfflaaDoorW.PrintLast Go.Proofs.YtbjjgaahdnfflaaDoorW.PrintMore
attribute [local go_sem] max2_int min2_int max_two min_two max_three min_three max_four min_four
set_option linter.unusedVariables false
set_option linter.unusedSimpArgs false
def chain_Round.f (l0 : List (S42)) (a1 : ByteArray) (a2_0 : ByteArray) (a2_1 : ByteArray) : Option Int := (foundF l0).bind fun x => if okPair ⟨⟨a2_0, a2_1⟩, a1⟩ then some (rnd x.2.2 ⟨⟨a2_0, a2_1⟩, a1⟩) else none
theorem chain_Round.calls (A0 : Option Addr) (c0 : Nat) (l0 : List (S42)) (a1 : ByteArray) (a2_0 : ByteArray) (a2_1 : ByteArray) (r : Int) (w : World) (hr0 : Kd.C k42 w A0 l0.length l0) (hc0 : l0.length ≤ c0) (h : chain_Round.f l0 a1 a2_0 a2_1 = some r) :
    Calls Tryd.prog 9 #[.slice A0 l0.length c0, .string a1, .agg #[.string a2_0, .string a2_1]] w fun e w' => e = .returned (.int .i64 r) ∧ Below w.heap.size w w' := by
  unfold chain_Round.f at h; obtain ⟨x, hx, h⟩ := Option.bind_eq_some_iff.mp h
  by_cases hp : okPair ⟨⟨a2_0, a2_1⟩, a1⟩
  · rw [if_pos hp] at h
    obtain rfl := Option.some.inj h; exact round_walk w A0 c0 l0 a1 a2_0 a2_1 x hr0 hc0 hx hp
  · rw [if_neg hp] at h
    cases h
end Go.Proofs.YtbjjgaahdnfflaaDoor.Pr
end
section
namespace Go.Proofs.YtbjjgaahdnfflaaDoor.Pr
open Go.RowKit Go.Proofs.YtbjjgaahdnfflaaDoorW.PrintWords Go.Proofs.YtbjjgaahdnfflaaDoorW.PrintLast Go.Proofs.YtbjjgaahdnfflaaDoorW.PrintMore
open Go.ChangeMaps (setBlock)
set_option linter.unusedVariables false
set_option linter.unusedSimpArgs false
def supAll (T : List (Pair × Int)) (creds : List Cred) (who : ByteArray) : List S24 → Hads → Option (Option Hads)
  | [], s => some (some s)
  | r :: rs, s => if okPair ⟨r, who⟩ then (if rnd T ⟨r, who⟩ = 0 then some none else (finGather T creds 1000 ⟨r, who⟩ s).bind (supAll T creds who rs)) else none
def supIDs (H : List ID) (cs : List Cred) : List ID := (cs.filter fun c => decide (c.f0 ∈ H)).map (·.f0)
theorem supIDs_snoc (H : List ID) {cs : List Cred} {i : Nat} (h : i < cs.length) : supIDs H (cs.take (i + 1)) = supIDs H (cs.take i) ++ (if cs[i].f0 ∈ H then [cs[i].f0] else []) := by
  unfold supIDs; rw [List.take_add_one, List.getElem?_eq_getElem h, List.filter_append, List.map_append]
  congr 1
  show List.map _ (List.filter _ [cs[i]]) = _
  by_cases e : cs[i].f0 ∈ H <;> simp [e]
theorem supIDs_length (H : List ID) (cs : List Cred) : (supIDs H cs).length ≤ cs.length := by
  unfold supIDs; rw [List.length_map]; exact List.length_filter_le _ _
def supportF (l : List Cred) (who : ByteArray) (rs : List S24) : Option (List ID × Int) :=
  (foundF l).bind fun x => (supAll x.2.2 x.1 who rs ([], [])).bind fun o => match o with
    | none => some ([], 16)
    | some s => if s.2.length ≤ 1000000 ∧ (∀ c ∈ x.1, okID c.f0) then some (supIDs s.2 x.1, 0) else none
theorem had_look {w W : World} {bh : Nat} {H : List ID} (h : Tbl encID okID w bh (setT H)) (hb : Below w.heap.size w W) {i : ID} (hi : okID i) :
    (Instr.lookup 60 (.map (some bh)) (.agg #[.int .i64 i.f0, .int .i64 i.f1]) false).run Tryd.prog W = .ok (.bool (decide (i ∈ H))) W := by
  have hl := h.look idKey Tryd.underlying60 zeroBool hi false W (hb.block bh h.lt); refine hl.trans ?_; rw [if_neg (by decide), setT_get]
theorem Sets.grown {w0 W Y : World} {bs bh : Nat} {s : Hads} {α : Type} {d : Kd α} {e B : Nat} {ok : Nat → Prop} {v : Value} {xs : List α} (h : Sets w0 W bs bh s) (hR : Kd.R d e W B ok v xs) (hg : W.grownBy Y v.ownBlock) (hb : Below w0.heap.size w0 Y) : Sets w0 Y bs bh s := by
  refine ⟨h.seen.grown hg (fun e => ?_), h.had.grown hg (fun e => ?_), hb⟩
  · obtain ⟨cells, hc⟩ := Kd.R_typed hR bs e.symm
    obtain ⟨es, clock, hb, _⟩ := h.seen; rw [hb] at hc; cases hc
  · obtain ⟨cells, hc⟩ := Kd.R_typed hR bh e.symm
    obtain ⟨es, clock, hb, _⟩ := h.had; rw [hb] at hc; cases hc
abbrev kID := k26
theorem infoID : (Tryd.prog.info? 26).map (fun i => (i.zero, i.size, i.bytes)) = some (some (.agg #[.int .i64 0, .int .i64 0]), 2, 16) := by kernel_rfl
set_option maxRecDepth 100000 in
set_option maxHeartbeats 8000000 in
theorem support_walk (w : World) (A0 : Option Addr) (c0 : Nat) (l : List Cred) (who : ByteArray) (A2 : Option Addr) (c2 : Nat) (rs : List S24) (r : List ID × Int) (hr0 : Kd.C kCred w A0 l.length l) (hc0 : l.length ≤ c0) (hr2 : Kd.C k24 w A2 rs.length rs) (h : supportF l who rs = some r) (hlr : rs.length ≤ 1000000) :
    Calls Tryd.prog 13 #[.slice A0 l.length c0, .string who, .slice A2 rs.length c2] w fun e w' => ∃ v, e = .returned (.tuple #[v, .int .i64 r.2]) ∧ Kd.R kID 26 w' w.heap.size (fun _ => True) v r.1 ∧ Below w.heap.size w w' := by
  unfold supportF at h; obtain ⟨x, hx, h⟩ := Option.bind_eq_some_iff.mp h; obtain ⟨o, ho, h⟩ := Option.bind_eq_some_iff.mp h; have hf := found_calls w A0 c0 l x hr0 hc0 hx; have HR2 := Lib.hid hr2; have HLR := Lib.hid hlr; have HH := Lib.hid h; have HO := Lib.hid ho
  have hmk1 := fun W => run_makeMap (P := Tryd.prog) 59 W
  have hmk2 := fun W => run_makeMap (P := Tryd.prog) 60 W
  clear hr0 hc0 hx hr2 hlr h ho; go_enter Tryd.func13, Tryd.ntmps13
  go_upto_region 2 with (go_at_call 14; refine hf.mono ?_; rintro e w5 ⟨g, bb, D, rfl, hR5, hcr, hpr, hl5, hB5⟩)
  go_upto_region 3 with fail
  change Code.wp _ _ _ _ ((w5.alloc (.map #[] 0)).alloc (.map #[] 0))
  have SX : Sets w5 ((w5.alloc (.map #[] 0)).alloc (.map #[] 0)) w5.heap.size (w5.heap.size + 1) ([], []) := by
    have h1 := Tbl.made encPair okPair w5; have h2 := Tbl.made encID okID (w5.alloc (.map #[] 0))
    have e1 : (w5.alloc (.map #[] 0)).heap.size = w5.heap.size + 1 := by simp
    rw [e1] at h2; exact ⟨h1.below (Qab (Below.refl _ _) _), h2, Qab (Qab (Below.refl _ _) _) _⟩
  obtain ⟨bs, hbs⟩ : ∃ bs, bs = w5.heap.size := ⟨_, rfl⟩
  obtain ⟨bh, hbh⟩ : ∃ bh, bh = w5.heap.size + 1 := ⟨_, rfl⟩
  have HBB := Lib.hid (show w5.heap.size ≤ bs ∧ w5.heap.size ≤ bh ∧ bs ≠ bh from ⟨by omega, by omega, by omega⟩); rw [← hbh, ← hbs] at SX
  generalize (w5.alloc (.map #[] 0)).alloc (.map #[] 0) = X at SX ⊢
  rw [← hbh, ← hbs]
  have HFw := Lib.hid hR5.at
  have HBw := Lib.hid hB5; have HSX := Lib.hid SX; have HDc := Lib.hid (And.intro hcr hl5); clear hR5 hB5 SX hcr hpr hl5 hmk1 hmk2 hf hbs hbh; go_wp2
  go_loopg [23] (rs.length + 1) (fun kq v23 w' => ∃ (j : Nat) (sj : Hads), v23 = .int .i64 j ∧ Hid (kq = rs.length + 1 - j) ∧ Hid (j ≤ rs.length) ∧ Hid (supAll x.2.2 x.1 who (rs.drop j) sj = some o) ∧ Hid (Sets w5 w' bs bh sj))
  case atStart => exact ⟨0, _, rfl, Lib.hid rfl, Lib.hid (Nat.zero_le _), HO, HSX⟩
  case round =>
    clear HO HSX; obtain ⟨j, sj, rfl, HKq, HJ, HO, HS⟩ := hrel
    by_cases hj : j < rs.length
    · have d1 : decide ((j : Int) < (rs.length : Int)) = true := decide_eq_true (by omega)
      have d2 : decide (j < rs.length) = true := decide_eq_true hj; obtain ⟨ad, e, hx0, hx1⟩ := at_T24 (Kd.C_below HR2.out (Qaf HBw.out HS.out.below)) (j : Int) (by omega) (by omega); obtain rfl := e
      obtain ⟨y, hy⟩ : ∃ y, y = rs[j] := ⟨_, rfl⟩
      have erd : rd_T24 rs (j : Int) = y := by
        unfold rd_T24; rw [hy, Int.toNat_natCast, List.getD_eq_getElem?_getD, List.getElem?_eq_getElem hj]; rfl
      rw [erd, Int.toNat_natCast] at hx0 hx1; have p101 : (0 ≤ (j : Int)) = True := eq_true (by omega); have q101 : ((j : Int) < (rs.length : Int)) = True := eq_true (by omega); have hO := HO.out; rw [List.drop_eq_getElem_cons hj, ← hy, supAll] at hO
      by_cases hok : okPair ⟨y, who⟩
      case neg => rw [if_neg hok] at hO; cases hO
      rw [if_pos hok] at hO; have HJl := Lib.hid hj
      have wrapJ : wrap64 ((j : Int) + 1) = ((j + 1 : Nat) : Int) := by unfold wrap64; have := HLR.out; omega
      clear hy erd hj HO
      go_upto_region 6 with fail
      change Code.wp _ _ _ _ (wr.alloc (roleObj2 y)); have HYr := Qab (Below.refl wr.heap.size wr) (roleObj2 y); have BY := blk_new wr (roleObj2 y); have SY := HS.out.step HYr; clear HYr hx0 hx1 HS
      generalize wr.alloc (roleObj2 y) = Y at BY SY ⊢
      generalize wr.heap.size = kx at BY ⊢
      have y0 : Y.cell? ⟨kx, 0, none⟩ = some (.string y.f0) := (Qai BY 0).trans rfl; have y1 : Y.cell? ⟨kx, 1, none⟩ = some (.string y.f1) := (Qai BY 1).trans rfl
      go_upto_region 7 with fail
      obtain ⟨p, hp⟩ : ∃ p : Pair, p = ⟨y, who⟩ := ⟨_, rfl⟩
      change Code.wp _ _ _ _ (Y.alloc (pairObj ⟨y, who⟩)); rw [← hp] at hO hok ⊢; have BZ := blk_new Y (pairObj p); have SZ := SY.step (Qab (Below.refl Y.heap.size Y) (pairObj p)); clear BY SY y0 y1 hp
      generalize Y.alloc (pairObj p) = Z at BZ SZ ⊢
      generalize Y.heap.size = kz at BZ ⊢
      obtain ⟨p0, p1, p2⟩ := pairCells BZ; have s2 := (HFw.out.below SZ.below).cells.2.2
      have L := fun m => (HFw.out.below SZ.below).look (Below.refl _ _) hok m
      obtain ⟨k, hk⟩ : ∃ k, k = rnd x.2.2 p := ⟨_, rfl⟩
      rw [← hk] at hO L; have HSZ := Lib.hid SZ; have HBZ := Lib.hid BZ; clear BZ SZ hk
      by_cases e : k = 0
      · have d : decide (k = 0) = true := decide_eq_true e
        have d1 : (k == 0) = true := by rw [e]; rfl
        rw [if_pos e] at hO; obtain rfl := Option.some.inj hO; have hH := HH.out
        dsimp only at hH
        obtain rfl := Option.some.inj hH; clear e hO hH HH
        go_quiet (fail)
        all_goals
          clear p0 p1 p2 s2 L; go_wp2
          go_ret2
          exact ⟨_, rfl, Kd.R_nil _ _ _ _ _, by repeat (first | exact Qaf HBw.out HSZ.out.below | apply Qaa | apply Qac)⟩
      · have d : decide (k = 0) = false := decide_eq_false e
        have d1 : (k == 0) = false := beq_false_of_ne e; rw [if_neg e] at hO; obtain ⟨s1, hs1, hO⟩ := Option.bind_eq_some_iff.mp hO; have HO := Lib.hid hO; rw [← HDc.out.1] at hs1
        have HC := fun W (h : Sets w5 W bs bh sj) => finGather_calls g bb D x.2.2 HDc.out.2 w5 HFw.out bs bh HBB.out.1 HBB.out.2.1 HBB.out.2.2 1000 W p sj s1 h hs1
        unfold encPair at HC; have HC := Lib.hid HC; clear e hO hs1
        go_quiet (fail)
        all_goals
          clear s2 L
          go_wp2_with (go_at_call 21; (with_reducible refine (HC.out _ (Sets.step HSZ.out (by repeat (first | exact Below.refl _ _ | apply Qaa | apply Qac)))).mono ?_); rintro e w6 ⟨rfl, hS6, hK6⟩; have HS6 := Lib.hid hS6; clear hS6 hK6)
          go_roundg (rs.length + 1 - (j + 1))
          case measure => have := HKq.out; have := HJl.out; omega
          case rel => exact ⟨j + 1, s1, by first | rfl | exact congrArg _ wrapJ, Lib.hid rfl, Lib.hid HJl.out, HO, HS6⟩
    · have d1 : decide ((j : Int) < (rs.length : Int)) = false := decide_eq_false (by omega)
      have d2 : decide (j < rs.length) = false := decide_eq_false hj; have hO := HO.out; rw [List.drop_eq_nil_of_le (by omega), supAll] at hO; obtain rfl := Option.some.inj hO; have hH := HH.out
      dsimp only at hH
      by_cases hg : sj.2.length ≤ 1000000 ∧ (∀ c ∈ x.1, okID c.f0)
      case neg => rw [if_neg hg] at hH; cases hH
      rw [if_pos hg] at hH; obtain rfl := Option.some.inj hH; have HG := Lib.hid hg; clear hO hH HO HH hj hg HR2; have f0 := (HFw.out.below HS.out.below).cells.1
      obtain ⟨AD, hAD⟩ : ∃ AD, AD = D.A0 := ⟨_, rfl⟩
      obtain ⟨cD, hcD⟩ : ∃ cD, cD = D.c0 := ⟨_, rfl⟩
      obtain ⟨cs, hcs⟩ : ∃ cs, cs = D.creds := ⟨_, rfl⟩
      have HCr := Lib.hid (show Kd.C kCred w5 AD cs.length cs by rw [hAD, hcs]; exact HFw.out.cr); rw [← hAD, ← hcD, ← hcs] at f0; have hD := HDc.out; rw [← hcs] at hD; rw [← hD.1] at HG; have HX := Lib.hid hD.1; have HLc := Lib.hid hD.2; clear hD hAD hcD hcs HDc HFw; go_wp2; clear f0
      go_loopg [14, 48] (cs.length + 1) (fun kq v14 v48 w' => ∃ (i : Nat), v48 = .int .i64 i ∧ Hid (kq = cs.length + 1 - i) ∧ Hid (i ≤ cs.length) ∧ Hid (Kd.R kID 26 w' w5.heap.size (fun _ => True) v14 (supIDs sj.2 (cs.take i))) ∧ Hid (Sets w5 w' bs bh sj))
      case atStart => exact ⟨0, rfl, Lib.hid rfl, Lib.hid (Nat.zero_le _), Lib.hid (Kd.R_nil _ _ _ _ _), HS⟩
      case round =>
        clear HS; obtain ⟨i, rfl, HKi, HI, HR, HS⟩ := hrel
        by_cases hi : i < cs.length
        · have d3 : decide ((i : Int) < (cs.length : Int)) = true := decide_eq_true (by omega)
          have d4 : decide (i < cs.length) = true := decide_eq_true hi; obtain ⟨ad, e, hx0, hx1, hx2, hx3, hx4, hx5, hx6, hx7, hx8⟩ := at_T42 (Kd.C_below HCr.out HS.out.below) (i : Int) (by omega) (by omega); obtain rfl := e
          obtain ⟨y, hy⟩ : ∃ y, y = cs[i] := ⟨_, rfl⟩
          have erd : Qam cs (i : Int) = y := by
            unfold Qam; rw [hy, Int.toNat_natCast, List.getD_eq_getElem?_getD, List.getElem?_eq_getElem hi]; rfl
          rw [erd, Int.toNat_natCast] at hx0 hx1 hx2 hx3 hx4 hx5 hx6 hx7 hx8; have p101 : (0 ≤ (i : Int)) = True := eq_true (by omega); have q101 : ((i : Int) < (cs.length : Int)) = True := eq_true (by omega); have hoky : okID y.f0 := HG.out.2 y (by rw [hy]; exact List.getElem_mem hi); have hnext := supIDs_snoc sj.2 hi; rw [← hy] at hnext; have HLi := Lib.hid (show (supIDs sj.2 (cs.take i)).length ≤ i from Nat.le_trans (supIDs_length _ _) (by simp; omega)); have HIl := Lib.hid hi
          have wrapI : wrap64 ((i : Int) + 1) = ((i + 1 : Nat) : Int) := by unfold wrap64; have := HLc.out; omega
          clear hy erd hi
          go_upto_region 15 with fail
          change Code.wp _ _ _ _ (wr.alloc (credObj y)); have HYr := Qab (Below.refl wr.heap.size wr) (credObj y); have BY := blk_new wr (credObj y); have SY := HS.out.step HYr; have RY := Lib.hid (Kd.R_alloc HR.out (credObj y)); clear HYr hx0 hx1 hx2 hx3 hx4 hx5 hx6 hx7 hx8 HS HR
          generalize wr.alloc (credObj y) = Y at BY SY RY ⊢
          generalize wr.heap.size = kx at BY ⊢
          obtain ⟨c0, c1, c2, c3, c4, c5, c6, c7, c8⟩ := credCells BY; have L := had_look SY.had (Below.refl _ _) hoky; have HSY := Lib.hid SY; clear SY BY
          by_cases hin : y.f0 ∈ sj.2
          · rw [decide_eq_true hin] at L
            rw [if_pos hin] at hnext; have HN := Lib.hid hnext; clear hin hnext
            go_wp2_with ((with_reducible refine gate_builtin (b := .append) (xs := #[.tmp 56, .tmp 59]) rfl ?_); at_builtin; refine Kd.R_append kID (w0 := w5) w5.heap.size rfl (.tmp 56) (.tmp 59) 43 26 (.agg #[.int .i64 0, .int .i64 0]) 16 rfl Tryd.underlying43 infoID rfl (by decide) (by omega) _ (supIDs sj.2 (cs.take i)) y.f0 [.int .i64 y.f0.f0, .int .i64 y.f0.f1] (fun _ => True) (fun _ => False) rfl rfl ?aP (fun _ hk => hk.elim) (fun _ _ => trivial) ?aO ?aB ?aS ?aL ?_; (case aP => exact k26_mkM _ _ _ y.f0); (case aB => exact HSY.out.below); (case aO => exact RY.out); (case aS => exact Qav HSY.out.below); (case aL => have := HLi.out; have := HIl.out; have := HLc.out; omega); intro v2 w2 ho hb hg hat)
            have HO := Lib.hid ho; have HS2 := Lib.hid (HSY.out.grown RY.out hg hb)
            clear ho hb hg hat
            go_roundg (cs.length + 1 - (i + 1))
            case measure => have := HKi.out; have := HIl.out; omega
            case rel => exact ⟨i + 1, by first | rfl | exact congrArg _ wrapI, Lib.hid rfl, Lib.hid HIl.out, Lib.hid (by rw [HN.out]; exact HO.out), HS2⟩
          · rw [decide_eq_false hin] at L
            rw [if_neg hin, List.append_nil] at hnext; have HN := Lib.hid hnext; clear hin hnext; go_wp2
            go_roundg (cs.length + 1 - (i + 1))
            case measure => have := HKi.out; have := HIl.out; omega
            case rel => exact ⟨i + 1, by first | rfl | exact congrArg _ wrapI, Lib.hid rfl, Lib.hid HIl.out, Lib.hid (by rw [HN.out]; exact RY.out), HSY⟩
        · have d3 : decide ((i : Int) < (cs.length : Int)) = false := decide_eq_false (by omega)
          have d4 : decide (i < cs.length) = false := decide_eq_false hi; have hR := HR.out; rw [List.take_of_length_le (by omega)] at hR; have HRe := Lib.hid hR; clear hR HR hi; go_wp2
          go_ret2
          refine ⟨_, rfl, Kd.R_lower (?_ : Kd.R kID 26 wr w5.heap.size (fun _ => True) _ (supIDs sj.2 x.1)) HBw.out.size, Qaf HBw.out HS.out.below⟩; rw [← HX.out]; exact HRe.out
end Go.Proofs.YtbjjgaahdnfflaaDoor.Pr
end
section
namespace Go.Proofs.YtbjjgaahdnfflaaDoor.Pr
open Go.RowKit Go.Proofs.YtbjjgaahdnfflaaDoorW.PrintWords Go.Proofs.YtbjjgaahdnfflaaDoorW.PrintLast Go.Proofs.YtbjjgaahdnfflaaDoorW.PrintMore
attribute [local go_sem] max2_int min2_int max_two min_two max_three min_three max_four min_four
set_option linter.unusedVariables false
set_option linter.unusedSimpArgs false
def chain_Support.f (l0 : List (S42)) (a1 : ByteArray) (l2 : List (S24)) : Option (List (S26) × Int) := if l2.length ≤ 1000000 then supportF l0 a1 l2 else none
theorem chain_Support.calls (A0 : Option Addr) (c0 : Nat) (l0 : List (S42)) (a1 : ByteArray) (A2 : Option Addr) (c2 : Nat) (l2 : List (S24)) (r1 : List (S26)) (r2 : Int) (w : World) (hr0 : Kd.C k42 w A0 l0.length l0) (hc0 : l0.length ≤ c0) (hr2 : Kd.C k24 w A2 l2.length l2) (hc2 : l2.length ≤ c2) (h : chain_Support.f l0 a1 l2 = some (r1, r2)) :
    Calls Tryd.prog 13 #[.slice A0 l0.length c0, .string a1, .slice A2 l2.length c2] w fun e w' => ∃ v0_ : Value, e = .returned (.tuple #[v0_, .int .i64 r2]) ∧ Kd.R k26 26 w' w.heap.size (fun _ => True) v0_ r1 ∧ Below w.heap.size w w' := by
  unfold chain_Support.f at h
  by_cases hl : l2.length ≤ 1000000
  · rw [if_pos hl] at h
    exact support_walk w A0 c0 l0 a1 A2 c2 l2 (r1, r2) hr0 hc0 hr2 h hl
  · rw [if_neg hl] at h
    cases h
mutual
def Qaq.l0 : Nat → Int → Int → ByteArray → ByteArray → ByteArray → Int → Int → List (S29) → Option (Int)
 | 0, _, _, _, _, _, _, _, _ => none
 | k + 1, x3, x4, x102000, x102001, x102002, x102003, x102004, x102005 => if x4 < (x102005.length : Int) then (if 0 ≤ x4 then ((Qaq.f k ((rd_T29 x102005 x4).f0.f0) ((rd_T29 x102005 x4).f0.f1) ((rd_T29 x102005 x4).f1) ((rd_T29 x102005 x4).f2.f0) ((rd_T29 x102005 x4).f2.f1) ((rd_T29 x102005 x4).f3)).bind fun t103 => (if (wrap64 (t103 + 1)) > x3 then (Qaq.l0 k (wrap64 (t103 + 1)) (wrap64 (x4 + 1)) x102000 x102001 x102002 x102003 x102004 x102005) else (Qaq.l0 k x3 (wrap64 (x4 + 1)) x102000 x102001 x102002 x102003 x102004 x102005))) else (none)) else (some x3)
def Qaq.f : Nat → ByteArray → ByteArray → ByteArray → Int → Int → List (S29) → Option (Int)
 | 0, _, _, _, _, _, _ => none
 | k + 1, a0_0, a0_1, a0_2, a0_3, a0_4, l0_5 => Qaq.l0 k 0 0 a0_0 a0_1 a0_2 a0_3 a0_4 l0_5
end
set_option maxHeartbeats 8000000 in
set_option maxRecDepth 100000 in
theorem Qaq.calls (k : Nat) : ∀ (a0_0 : ByteArray) (a0_1 : ByteArray) (a0_2 : ByteArray) (a0_3 : Int) (a0_4 : Int) (A0_5 : Option Addr) (c0_5 : Nat) (l0_5 : List (S29)) (r : Int) (w : World) (hr0_5 : Kd.C k29 w A0_5 l0_5.length l0_5) (hc0_5 : l0_5.length ≤ c0_5) (h : Qaq.f k a0_0 a0_1 a0_2 a0_3 a0_4 l0_5 = some r),
  Calls Tryd.prog 10 #[.agg #[.string a0_0, .string a0_1, .string a0_2, .int .i64 a0_3, .int .i64 a0_4, .slice A0_5 l0_5.length c0_5]] w fun e w' => e = .returned (.int .i64 r) ∧ Below w.heap.size w w' := by
 induction k using Nat.strongRecOn with
 | _ k ih =>
 intro a0_0 a0_1 a0_2 a0_3 a0_4 A0_5 c0_5 l0_5 r w hr0_5 hc0_5 h
 cases k with
 | zero => exact absurd h (by simp [Qaq.f])
 | succ k =>
 simp only [Qaq.f] at h; have hu29 := Tryd.underlying29; have HR0_5 := Qad.mk hr0_5; have HC0_5 := Qad.mk hc0_5; clear hr0_5 hc0_5; have HB := Qad.mk (Below.refl w.heap.size w); have H : (Qaq.l0 k 0 0 a0_0 a0_1 a0_2 a0_3 a0_4 l0_5) = some r := h; clear h; have H' := Qad.mk H; clear H; go_enter Tryd.func10, Tryd.ntmps10
 go_wp2_with (first | ((with_reducible refine gate_dst (N := 1) rfl ?_); refine box_event ?hg (N := 1) ?hd (cs := #[.string a0_0, .string a0_1, .string a0_2, .int .i64 a0_3, .int .i64 a0_4, .slice A0_5 l0_5.length c0_5]) (t := 29) ?hr ?_; (case hd => rfl); (case hg => rfl); (case hr => first | (go_simp; done) | (go_simp; rfl)); intro gb101 hg w2 hbox hb; have n0_ := Qad.mk (Qaf (by repeat (first | (with_reducible first | exact HB.out | apply Qab | apply Qaa | apply Qac) | exact HB.out)) hb); have n1_ := Qad.mk (hbox); have n2_ := Qad.mk ((by rw [hg]; exact (Qav (by repeat (first | (with_reducible first | exact HB.out | apply Qab | apply Qaa | apply Qac) | exact HB.out))) : w.heap.size ≤ gb101)); have n3_ := n2_; clear HB; have HB := n0_; have BK101 := n1_; have GW101 := n2_; have GE101 := n3_; clear n0_ n1_ n2_ n3_; clear hb hbox hg))
 go_loopg [3, 4] k (fun kq v3 v4 w' => ∃ (x3_1 : Int) (x4_1 : Int), v3 = .int .i64 x3_1 ∧ v4 = .int .i64 x4_1 ∧ Qad (Qaq.l0 kq x3_1 x4_1 a0_0 a0_1 a0_2 a0_3 a0_4 l0_5 = some r) ∧ Qad (kq ≤ k) ∧ Qad (w'.heap[gb101]? = some (.cells #[.string a0_0, .string a0_1, .string a0_2, .int .i64 a0_3, .int .i64 a0_4, (.slice A0_5 l0_5.length c0_5)] 29 (0, 0))) ∧ Qad (Below w.heap.size w w'))
 case atStart => exact ⟨(0), (0), (by first | rfl | (simp; done) | (simp [*]; done)), (by first | rfl | (simp; done) | (simp [*]; done)), H', ⟨Nat.le_refl _⟩, ⟨by (with_reducible repeat (first | refine Qah ?_ _ | refine Qak ?_ | refine Qag ?_ _)); exact BK101.out⟩, ⟨by repeat (first | (with_reducible first | exact HB.out | apply Qab | apply Qaa | apply Qac | refine Qaj ?_ GE101.out) | exact HB.out)⟩⟩
 case round =>
  clear H'; (try clear c1); (try clear p2); obtain ⟨x3_1, x4_1, rfl, rfl, HA, HK1, BK101, HB⟩ := hrel
  cases gk with
  | zero => exact absurd HA.out (by simp [Qaq.l0])
  | succ k1 =>
   have H := HA.out; clear HA; simp only [Qaq.l0] at H
   by_cases c3 : x4_1 < (l0_5.length : Int)
   ·rw [if_pos c3] at H; have c3b0 : decide (x4_1 < (l0_5.length : Int)) = true := decide_eq_true c3; clear c3
    by_cases c4 : 0 ≤ x4_1
    ·rw [if_pos c4] at H; have c4b0 : decide (0 ≤ x4_1) = true := decide_eq_true c4; clear c4; replace H := Option.bind_eq_some_iff.mp H; obtain ⟨t103, A50, H⟩ := H; replace H : (if (wrap64 (t103 + 1)) > x3_1 then (Qaq.l0 k1 (wrap64 (t103 + 1)) (wrap64 (x4_1 + 1)) a0_0 a0_1 a0_2 a0_3 a0_4 l0_5) else (Qaq.l0 k1 x3_1 (wrap64 (x4_1 + 1)) a0_0 a0_1 a0_2 a0_3 a0_4 l0_5)) = some r := H; have A5 := Qad.mk A50; clear A50
     by_cases c6 : (wrap64 (t103 + 1)) > x3_1
     ·rw [if_pos c6] at H; have c6b0 : decide (x3_1 < (wrap64 (t103 + 1))) = true := decide_eq_true c6; clear c6; have H' := Qad.mk H; clear H; have hcz7_0 : wr.cell? ⟨gb101, 0, none⟩ = some (.string a0_0) := (Qai BK101.out 0).trans rfl; have hcz7_1 : wr.cell? ⟨gb101, 1, none⟩ = some (.string a0_1) := (Qai BK101.out 1).trans rfl; have hcz7_2 : wr.cell? ⟨gb101, 2, none⟩ = some (.string a0_2) := (Qai BK101.out 2).trans rfl; have hcz7_3 : wr.cell? ⟨gb101, 3, none⟩ = some (.int .i64 a0_3) := (Qai BK101.out 3).trans rfl; have hcz7_4 : wr.cell? ⟨gb101, 4, none⟩ = some (.int .i64 a0_4) := (Qai BK101.out 4).trans rfl; have hcz7_5 : wr.cell? ⟨gb101, 5, none⟩ = some (.slice A0_5 l0_5.length c0_5) := (Qai BK101.out 5).trans rfl; obtain ⟨hfz7_0, hfz7_1, hfz7_2, hfz7_3, hfz7_4, hfz7_5⟩ := fz_6 BK101.out; have p102 : 0 ≤ (x4_1 : Int) := of_decide_eq_true (by first | (with_reducible assumption) | assumption); have q102 : x4_1 < (l0_5.length : Int) := of_decide_eq_true (by first | (with_reducible assumption) | assumption); obtain ⟨ad102, A102_5, c102_5, e102, hx102_0, hx102_1, hx102_2, hx102_3, hx102_4, hx102_5, hl102_5, hi102_5⟩ := at_T29 HR0_5.out x4_1 p102 q102; cases e102; replace hx102_0 := (HB.out.cell (World.block_lt_of_cell? w _ hx102_0)).trans hx102_0; replace hx102_1 := (HB.out.cell (World.block_lt_of_cell? w _ hx102_1)).trans hx102_1
      replace hx102_2 := (HB.out.cell (World.block_lt_of_cell? w _ hx102_2)).trans hx102_2; replace hx102_3 := (HB.out.cell (World.block_lt_of_cell? w _ hx102_3)).trans hx102_3; replace hx102_4 := (HB.out.cell (World.block_lt_of_cell? w _ hx102_4)).trans hx102_4; replace hx102_5 := (HB.out.cell (World.block_lt_of_cell? w _ hx102_5)).trans hx102_5; have HR102_5 := Qad.mk hi102_5; have HC102_5 := Qad.mk hl102_5; clear hi102_5 hl102_5; replace p102 := eq_true p102; replace q102 := eq_true q102
      go_wp2_with (first | ((with_reducible refine gate_callee (f := 10) rfl ?_); refine goesL_ (some 18) rfl rfl Tryd.func10 (by kernel_rfl) rfl #[.agg #[.string ((rd_T29 l0_5 x4_1).f0.f0), .string ((rd_T29 l0_5 x4_1).f0.f1), .string ((rd_T29 l0_5 x4_1).f1), .int .i64 ((rd_T29 l0_5 x4_1).f2.f0), .int .i64 ((rd_T29 l0_5 x4_1).f2.f1), .slice A102_5 ((rd_T29 l0_5 x4_1).f3).length c102_5]] rfl (by (try simp only [List.map_toArray, List.map_cons, List.map_nil]); first | done | rfl | (simp only [List.length_drop, List.length_take]; rfl)) ?_; (with_reducible refine (ih k1 (by have := HK1.out; omega) ((rd_T29 l0_5 x4_1).f0.f0) ((rd_T29 l0_5 x4_1).f0.f1) ((rd_T29 l0_5 x4_1).f1) ((rd_T29 l0_5 x4_1).f2.f0) ((rd_T29 l0_5 x4_1).f2.f1) _ _ ((rd_T29 l0_5 x4_1).f3) t103 _ ?side1 ?side2 A5.out).mono ?_); (case side1 => repeat (first | exact (Kd.C_below HR102_5.out HB.out) | (with_reducible refine Kd.C_alloc ?_ _) | (with_reducible refine Kd.C_drewN ?_ _) | (with_reducible refine Kd.C_drew ?_))); (case side2 => exact HC102_5.out); rintro e w8 ⟨rfl, hb⟩; refine ⟨_, rfl, ?_⟩; have n0_ := Qad.mk (Qae (g := gb101) (o := ob_sssiiv a0_0 a0_1 a0_2 a0_3 a0_4 (.slice (some ad102) l0_5.length c0_5) 29) (by (with_reducible repeat (first | refine Qah ?_ _ | refine Qak ?_ | refine Qag ?_ _)); exact BK101.out) hb); have n1_ := Qad.mk (Qaf (by repeat (first | (with_reducible first | exact HB.out | apply Qab | apply Qaa | apply Qac | refine Qaj ?_ GE101.out) | exact HB.out)) hb); clear BK101; clear HB; have BK101 := n0_; have HB := n1_; clear n0_ n1_; (try clear hb); (try clear hb2); (try clear hk); (try clear hi)))
      go_roundg k1
      case measure => have := HK1.out; omega
      case rel => exact ⟨(wrap64 (t103 + 1)), (wrap64 (x4_1 + 1)), (by first | rfl | (simp; done) | (simp [*]; done)), (by first | rfl | (simp; done) | (simp [*]; done)), H', ⟨by have := HK1.out; omega⟩, ⟨by (with_reducible repeat (first | refine Qah ?_ _ | refine Qak ?_ | refine Qag ?_ _)); exact BK101.out⟩, ⟨by repeat (first | (with_reducible first | exact HB.out | apply Qab | apply Qaa | apply Qac | refine Qaj ?_ GE101.out) | exact HB.out)⟩⟩
     ·rw [if_neg c6] at H; have c6b0 : decide (x3_1 < (wrap64 (t103 + 1))) = false := decide_eq_false c6; clear c6; have H' := Qad.mk H; clear H; have hcz9_0 : wr.cell? ⟨gb101, 0, none⟩ = some (.string a0_0) := (Qai BK101.out 0).trans rfl; have hcz9_1 : wr.cell? ⟨gb101, 1, none⟩ = some (.string a0_1) := (Qai BK101.out 1).trans rfl; have hcz9_2 : wr.cell? ⟨gb101, 2, none⟩ = some (.string a0_2) := (Qai BK101.out 2).trans rfl; have hcz9_3 : wr.cell? ⟨gb101, 3, none⟩ = some (.int .i64 a0_3) := (Qai BK101.out 3).trans rfl; have hcz9_4 : wr.cell? ⟨gb101, 4, none⟩ = some (.int .i64 a0_4) := (Qai BK101.out 4).trans rfl; have hcz9_5 : wr.cell? ⟨gb101, 5, none⟩ = some (.slice A0_5 l0_5.length c0_5) := (Qai BK101.out 5).trans rfl; obtain ⟨hfz9_0, hfz9_1, hfz9_2, hfz9_3, hfz9_4, hfz9_5⟩ := fz_6 BK101.out; have p102 : 0 ≤ (x4_1 : Int) := of_decide_eq_true (by first | (with_reducible assumption) | assumption); have q102 : x4_1 < (l0_5.length : Int) := of_decide_eq_true (by first | (with_reducible assumption) | assumption); obtain ⟨ad102, A102_5, c102_5, e102, hx102_0, hx102_1, hx102_2, hx102_3, hx102_4, hx102_5, hl102_5, hi102_5⟩ := at_T29 HR0_5.out x4_1 p102 q102; cases e102; replace hx102_0 := (HB.out.cell (World.block_lt_of_cell? w _ hx102_0)).trans hx102_0; replace hx102_1 := (HB.out.cell (World.block_lt_of_cell? w _ hx102_1)).trans hx102_1
      replace hx102_2 := (HB.out.cell (World.block_lt_of_cell? w _ hx102_2)).trans hx102_2; replace hx102_3 := (HB.out.cell (World.block_lt_of_cell? w _ hx102_3)).trans hx102_3; replace hx102_4 := (HB.out.cell (World.block_lt_of_cell? w _ hx102_4)).trans hx102_4; replace hx102_5 := (HB.out.cell (World.block_lt_of_cell? w _ hx102_5)).trans hx102_5; have HR102_5 := Qad.mk hi102_5; have HC102_5 := Qad.mk hl102_5; clear hi102_5 hl102_5; replace p102 := eq_true p102; replace q102 := eq_true q102
      go_wp2_with (first | ((with_reducible refine gate_callee (f := 10) rfl ?_); refine goesL_ (some 18) rfl rfl Tryd.func10 (by kernel_rfl) rfl #[.agg #[.string ((rd_T29 l0_5 x4_1).f0.f0), .string ((rd_T29 l0_5 x4_1).f0.f1), .string ((rd_T29 l0_5 x4_1).f1), .int .i64 ((rd_T29 l0_5 x4_1).f2.f0), .int .i64 ((rd_T29 l0_5 x4_1).f2.f1), .slice A102_5 ((rd_T29 l0_5 x4_1).f3).length c102_5]] rfl (by (try simp only [List.map_toArray, List.map_cons, List.map_nil]); first | done | rfl | (simp only [List.length_drop, List.length_take]; rfl)) ?_; (with_reducible refine (ih k1 (by have := HK1.out; omega) ((rd_T29 l0_5 x4_1).f0.f0) ((rd_T29 l0_5 x4_1).f0.f1) ((rd_T29 l0_5 x4_1).f1) ((rd_T29 l0_5 x4_1).f2.f0) ((rd_T29 l0_5 x4_1).f2.f1) _ _ ((rd_T29 l0_5 x4_1).f3) t103 _ ?side1 ?side2 A5.out).mono ?_); (case side1 => repeat (first | exact (Kd.C_below HR102_5.out HB.out) | (with_reducible refine Kd.C_alloc ?_ _) | (with_reducible refine Kd.C_drewN ?_ _) | (with_reducible refine Kd.C_drew ?_))); (case side2 => exact HC102_5.out); rintro e w10 ⟨rfl, hb⟩; refine ⟨_, rfl, ?_⟩; have n0_ := Qad.mk (Qae (g := gb101) (o := ob_sssiiv a0_0 a0_1 a0_2 a0_3 a0_4 (.slice (some ad102) l0_5.length c0_5) 29) (by (with_reducible repeat (first | refine Qah ?_ _ | refine Qak ?_ | refine Qag ?_ _)); exact BK101.out) hb); have n1_ := Qad.mk (Qaf (by repeat (first | (with_reducible first | exact HB.out | apply Qab | apply Qaa | apply Qac | refine Qaj ?_ GE101.out) | exact HB.out)) hb); clear BK101; clear HB; have BK101 := n0_; have HB := n1_; clear n0_ n1_; (try clear hb); (try clear hb2); (try clear hk); (try clear hi)))
      go_roundg k1
      case measure => have := HK1.out; omega
      case rel => exact ⟨(x3_1), (wrap64 (x4_1 + 1)), (by first | rfl | (simp; done) | (simp [*]; done)), (by first | rfl | (simp; done) | (simp [*]; done)), H', ⟨by have := HK1.out; omega⟩, ⟨by (with_reducible repeat (first | refine Qah ?_ _ | refine Qak ?_ | refine Qag ?_ _)); exact BK101.out⟩, ⟨by repeat (first | (with_reducible first | exact HB.out | apply Qab | apply Qaa | apply Qac | refine Qaj ?_ GE101.out) | exact HB.out)⟩⟩
    ·rw [if_neg c4] at H; exact absurd H (by simp)
   ·rw [if_neg c3] at H; have c3b0 : decide (x4_1 < (l0_5.length : Int)) = false := decide_eq_false c3; clear c3; obtain rfl := Option.some.inj H; have hcz11_0 : wr.cell? ⟨gb101, 0, none⟩ = some (.string a0_0) := (Qai BK101.out 0).trans rfl; have hcz11_1 : wr.cell? ⟨gb101, 1, none⟩ = some (.string a0_1) := (Qai BK101.out 1).trans rfl; have hcz11_2 : wr.cell? ⟨gb101, 2, none⟩ = some (.string a0_2) := (Qai BK101.out 2).trans rfl; have hcz11_3 : wr.cell? ⟨gb101, 3, none⟩ = some (.int .i64 a0_3) := (Qai BK101.out 3).trans rfl; have hcz11_4 : wr.cell? ⟨gb101, 4, none⟩ = some (.int .i64 a0_4) := (Qai BK101.out 4).trans rfl; have hcz11_5 : wr.cell? ⟨gb101, 5, none⟩ = some (.slice A0_5 l0_5.length c0_5) := (Qai BK101.out 5).trans rfl; obtain ⟨hfz11_0, hfz11_1, hfz11_2, hfz11_3, hfz11_4, hfz11_5⟩ := fz_6 BK101.out; go_wp2; go_ret; exact ⟨by first | rfl | (simp [Qau, Qat] <;> rfl) | (simp [*, Qau, Qat] <;> rfl), by repeat (first | (with_reducible first | exact HB.out | apply Qab | apply Qaa | apply Qac | refine Qaj ?_ GE101.out) | exact HB.out)⟩
end Go.Proofs.YtbjjgaahdnfflaaDoor.Pr
end
section
namespace Go.Proofs.YtbjjgaahdnfflaaDoor.Pr
theorem nodup_le {α : Type} [DecidableEq α] : ∀ {l m : List α}, l.Nodup → (∀ x ∈ l, x ∈ m) → l.length ≤ m.length
  | [], m, _, _ => Nat.zero_le _
  | a :: l, m, h, hs => by
    have ha := hs a (List.mem_cons_self ..); rw [List.nodup_cons] at h; have := nodup_le (m := m.erase a) h.2 (fun x hx => (List.mem_erase_of_ne (fun e : x = a => h.1 (e ▸ hx))).mpr (hs x (List.mem_cons_of_mem _ hx))); rw [List.length_erase_of_mem ha] at this; have := List.length_pos_of_mem ha; simp only [List.length_cons]; omega
theorem sorted_eq {α : Type} {R : α → α → Prop} (hi : ∀ x, ¬ R x x) (ht : ∀ x y z, R x y → R y z → R x z) : ∀ {a b : List α}, a.Pairwise R → b.Pairwise R → (∀ x, x ∈ a ↔ x ∈ b) → a = b
  | [], [], _, _, _ => rfl
  | [], y :: b, _, _, h => absurd ((h y).mpr (List.mem_cons_self ..)) (List.not_mem_nil)
  | x :: a, [], _, _, h => absurd ((h x).mp (List.mem_cons_self ..)) (List.not_mem_nil)
  | x :: a, y :: b, ha, hb, h => by
    rw [List.pairwise_cons] at ha hb
    have exy : x = y := by
      rcases List.mem_cons.mp ((h x).mp (List.mem_cons_self ..)) with e | h1
      · exact e
      · rcases List.mem_cons.mp ((h y).mpr (List.mem_cons_self ..)) with e | h2
        · exact e.symm
        · exact absurd (ht _ _ _ (ha.1 _ h2) (hb.1 _ h1)) (hi x)
    subst exy
    congr 1
    refine sorted_eq hi ht ha.2 hb.2 fun z => ⟨fun hz => ?_, fun hz => ?_⟩
    · rcases List.mem_cons.mp ((h z).mp (List.mem_cons_of_mem _ hz)) with e | h1
      · subst e; exact absurd (ha.1 _ hz) (hi z)
      · exact h1
    · rcases List.mem_cons.mp ((h z).mpr (List.mem_cons_of_mem _ hz)) with e | h1
      · subst e; exact absurd (hb.1 _ hz) (hi z)
      · exact h1
theorem sorted_nodup {α : Type} {R : α → α → Prop} (hi : ∀ x, ¬ R x x) {l : List α} (h : l.Pairwise R) : l.Nodup :=
  h.imp fun {a b} hab (e : a = b) => hi a (by subst e; exact hab)
section
variable {α : Type} [Inhabited α]
theorem swp_split (d : Array α) (j : Nat) (h : j + 1 < d.size) : ∃ a b, d.toList = a ++ d[j]! :: d[j + 1]! :: b ∧ (Go.Sort.swp d (j + 1) j).toList = a ++ d[j + 1]! :: d[j]! :: b := by
  have h1 : j < d.toList.length := by simp; omega
  have h2 : j + 1 < d.toList.length := by simp; omega
  have e : d.toList = d.toList.take j ++ d[j]! :: d[j + 1]! :: d.toList.drop (j + 2) := by
    rw [getElem!_pos d j (by omega), getElem!_pos d (j + 1) h]
    conv => lhs; rw [← List.take_append_drop j d.toList, List.drop_eq_getElem_cons h1, List.drop_eq_getElem_cons h2]
    rfl
  have hl : (d.toList.take j).length = j := by simp; omega
  generalize d.toList.take j = a at e hl
  generalize d.toList.drop (j + 2) = b at e
  refine ⟨a, b, e, ?_⟩; unfold Go.Sort.swp; rw [Array.toList_setIfInBounds, Array.toList_setIfInBounds]
  generalize d[j]! = x at *
  generalize d[j + 1]! = y at *
  rw [e]; rw [List.set_append_right _ _ (by omega), show j + 1 - a.length = 1 by omega, List.set_append_right _ _ (by omega), show j - a.length = 0 by omega]; rfl
theorem swp_size (d : Array α) (i j : Nat) : (Go.Sort.swp d i j).size = d.size := by simp [Go.Sort.swp]
theorem inner_filter (lt : α → α → Bool) (q : α → Bool) (hq : ∀ x y, lt x y = true → q x = true → q y = true → False) (a : Nat) : ∀ (j : Nat) (d : Array α), j < d.size → (Go.Sort.insInner lt a j d).toList.filter q = d.toList.filter q ∧ (Go.Sort.insInner lt a j d).size = d.size
  | 0, d, _ => ⟨rfl, rfl⟩
  | j + 1, d, h => by
    rw [Go.Sort.insInner]
    by_cases c : (decide (j + 1 > a) && lt d[j + 1]! d[j]!) = true
    · rw [if_pos c]
      rw [Bool.and_eq_true] at c; obtain ⟨l, r, e1, e2⟩ := swp_split d j h; have ih := inner_filter lt q hq a j (Go.Sort.swp d (j + 1) j) (by rw [swp_size]; omega); refine ⟨ih.1.trans ?_, ih.2.trans (swp_size _ _ _)⟩; rw [e1, e2, List.filter_append, List.filter_append]
      congr 1
      have := hq _ _ c.2; simp only [List.filter_cons]
      cases h1 : q d[j]! <;> cases h2 : q d[j + 1]! <;> simp_all
    · rw [if_neg c]
      exact ⟨rfl, rfl⟩
theorem outer_filter (lt : α → α → Bool) (q : α → Bool) (hq : ∀ x y, lt x y = true → q x = true → q y = true → False) (a b : Nat) : ∀ (n i : Nat) (d : Array α), b - i ≤ n → b ≤ d.size → (Go.Sort.insOuter lt a b i d).toList.filter q = d.toList.filter q
  | 0, i, d, h, hb => by
    rw [Go.Sort.insOuter, if_neg (by omega)]
  | n + 1, i, d, h, hb => by
    rw [Go.Sort.insOuter]
    by_cases c : i < b
    · rw [if_pos c]
      have := inner_filter lt q hq a i d (by omega); exact (outer_filter lt q hq a b n (i + 1) _ (by omega) (by rw [this.2]; exact hb)).trans this.1
    · rw [if_neg c]
theorem insertion_filter (lt : α → α → Bool) (q : α → Bool) (hq : ∀ x y, lt x y = true → q x = true → q y = true → False) (l : List α) : (Go.Sort.insertionSort lt l.toArray 0 l.length).toList.filter q = l.filter q := by
  have := outer_filter lt q hq 0 l.length l.length 1 l.toArray (by omega) (by simp)
  simpa [Go.Sort.insertionSort] using this
theorem insertion_sorted (lt : α → α → Bool) (h : Go.Sort.SWO lt) (l : List α) : (Go.Sort.insertionSort lt l.toArray 0 l.length).toList.Pairwise (fun x y => lt y x = false) := by
  obtain ⟨⟨hs, _, _⟩, hp⟩ := Go.Sort.insertionSort_holds h l.toArray 0 l.length (Nat.zero_le _) (by simp); rw [List.pairwise_iff_getElem]; intro i j hi hj hij
  have hsz : (Go.Sort.insertionSort lt l.toArray 0 l.length).size = l.length := by rw [hs]; simp
  have hj' : j < (Go.Sort.insertionSort lt l.toArray 0 l.length).size := by simpa using hj
  have := hp i j (Nat.zero_le _) hij (by omega); rw [getElem!_pos _ j hj', getElem!_pos _ i (by omega)] at this
  simpa using this
end
def Ev {α : Type} (f : Nat → Option α) (v : α) : Prop := ∃ K, ∀ k, K ≤ k → f k = some v
theorem Ev.from {α : Type} {f : Nat → Option α} {v : α} (K : Nat) (h : ∀ k, K ≤ k → f k = some v) : Ev f v := ⟨K, h⟩
theorem Ev.pure {α : Type} (v : α) : Ev (fun _ => some v) v := ⟨0, fun _ _ => rfl⟩
theorem Ev.step {α : Type} {f g : Nat → Option α} {v : α} (e : ∀ k, f (k + 1) = g k) (h : Ev g v) : Ev f v := by
  obtain ⟨K, h⟩ := h; refine ⟨K + 1, fun k hk => ?_⟩
  obtain ⟨j, rfl⟩ : ∃ j, k = j + 1 := ⟨k - 1, by omega⟩
  rw [e, h j (by omega)]
theorem Ev.congr {α : Type} {f g : Nat → Option α} {v : α} (e : ∀ k, f k = g k) (h : Ev g v) : Ev f v := by
  obtain ⟨K, h⟩ := h; exact ⟨K, fun k hk => (e k).trans (h k hk)⟩
theorem Ev.bind {α β : Type} {g : Nat → Option β} {h : Nat → β → Option α} {a : β} {v : α} (hg : Ev g a) (hh : Ev (fun k => h k a) v) : Ev (fun k => (g k).bind (h k)) v := by
  obtain ⟨K, hg⟩ := hg; obtain ⟨K', hh⟩ := hh; refine ⟨K + K', fun k hk => ?_⟩
  show (g k).bind (h k) = some v
  rw [hg k (by omega), Option.bind_some]; exact hh k (by omega)
theorem Ev.eq {α : Type} {f : Nat → Option α} {v v' : α} (h : Ev f v) (h' : Ev f v') : v = v' := by
  obtain ⟨K, h⟩ := h; obtain ⟨K', h'⟩ := h'; exact Option.some.inj ((h (K + K') (by omega)).symm.trans (h' (K + K') (by omega)))
section
variable {α : Type} [Inhabited α]
def selLeast (less : α → α → Bool) (l : List α) : Nat → Nat → Nat → Nat
  | 0, m, _ => m
  | n + 1, m, i => selLeast less l n (if less l[i]! l[m]! then i else m) (i + 1)
theorem selLeast_spec (less : α → α → Bool) (hi : ∀ x, less x x = false) (ht : ∀ x y z, less x y = true → less y z = true → less x z = true) (l : List α) : ∀ (n m i : Nat), n + i = l.length → m < i → 0 < i → (∀ j, j < i → less l[j]! l[m]! = false) →
    selLeast less l n m i < l.length ∧ ∀ j, j < l.length → less l[j]! l[selLeast less l n m i]! = false
  | 0, m, i, hn, hm, h0, h => by
    rw [selLeast]; exact ⟨by omega, fun j hj => h j (by omega)⟩
  | n + 1, m, i, hn, hm, h0, h => by
    rw [selLeast]
    by_cases c : less l[i]! l[m]! = true
    · rw [if_pos c]
      refine selLeast_spec less hi ht l n i (i + 1) (by omega) (by omega) (by omega) fun j hj => ?_
      by_cases e : j = i
      · rw [e]; exact hi _
      · rw [Bool.eq_false_iff]
        intro h2; have := h j (by omega); rw [ht _ _ _ h2 c] at this; cases this
    · rw [if_neg c]
      refine selLeast_spec less hi ht l n m (i + 1) (by omega) (by omega) (by omega) fun j hj => ?_
      by_cases e : j = i
      · rw [e]; simpa using c
      · exact h j (by omega)
def selSort (less : α → α → Bool) : Nat → List α → List α → List α
  | 0, _, out => out
  | n + 1, l, out => if l.length > 0 then selSort less n (l.take (selLeast less l (l.length - 1) 0 1) ++ l.drop (selLeast less l (l.length - 1) 0 1 + 1)) (out ++ [l[selLeast less l (l.length - 1) 0 1]!]) else out
theorem sel_split (l : List α) (m : Nat) (h : m < l.length) : l = l.take m ++ l[m]! :: l.drop (m + 1) := by
  rw [getElem!_pos l m h]
  conv => lhs; rw [← List.take_append_drop m l, List.drop_eq_getElem_cons h]
theorem selSort_spec (less : α → α → Bool) (hi : ∀ x, less x x = false) (ht : ∀ x y z, less x y = true → less y z = true → less x z = true) : ∀ (n : Nat) (l out : List α), l.length ≤ n → (out ++ l).Pairwise (fun a b => less a b = true ∨ less b a = true) → out.Pairwise (fun a b => less a b = true) → (∀ a ∈ out, ∀ b ∈ l, less a b = true) →
    (selSort less n l out).Pairwise (fun a b => less a b = true) ∧ ∀ x, x ∈ selSort less n l out ↔ x ∈ out ∨ x ∈ l
  | 0, l, out, hl, _, ho, _ => by
    have : l = [] := List.eq_nil_of_length_eq_zero (by omega); subst this; rw [selSort]; exact ⟨ho, fun x => by simp⟩
  | n + 1, l, out, hl, hd, ho, hol => by
    rw [selSort]
    by_cases c : l.length > 0
    · rw [if_pos c]
      obtain ⟨hm, hleast⟩ := selLeast_spec less hi ht l (l.length - 1) 0 1 (by omega) (by omega) (by omega) (fun j hj => by rw [show j = 0 by omega]; exact hi _)
      generalize selLeast less l (l.length - 1) 0 1 = m at hm hleast ⊢
      have hs := sel_split l m hm
      generalize hx : l[m]! = x at hs hleast ⊢
      generalize ha : l.take m = a at hs ⊢
      generalize hb : l.drop (m + 1) = b at hs ⊢
      have hmem : ∀ y, y ∈ l ↔ y = x ∨ y ∈ a ++ b := fun y => by
        rw [hs]; simp only [List.mem_append, List.mem_cons]; constructor
        · rintro (h | h | h)
          · exact .inr (.inl h)
          · exact .inl h
          · exact .inr (.inr h)
        · rintro (h | h | h)
          · exact .inr (.inl h)
          · exact .inl h
          · exact .inr (.inr h)
      have hlen : (a ++ b).length + 1 = l.length := by rw [hs]; simp; omega
      have hpx : ((out ++ [x]) ++ (a ++ b)).Pairwise (fun p q => less p q = true ∨ less q p = true) := by
        refine List.Pairwise.perm hd ?_ (fun h => h.symm); rw [hs, List.append_assoc]; refine List.Perm.append_left out ?_; exact List.perm_middle
      have hxl : ∀ y ∈ a ++ b, less x y = true := fun y hy => by
        have h1 : less x y = true ∨ less y x = true := by
          rw [List.append_assoc, List.pairwise_append] at hpx; have h2 := hpx.2.1; rw [List.singleton_append, List.pairwise_cons] at h2; exact h2.1 y hy
        rcases h1 with h1 | h1
        · exact h1
        · obtain ⟨j, hj, e⟩ := List.getElem_of_mem ((hmem y).mpr (.inr hy))
          have h3 := hleast j hj; rw [getElem!_pos l j hj, e, h1] at h3; cases h3
      obtain ⟨s1, s2⟩ := selSort_spec less hi ht n (a ++ b) (out ++ [x]) (by omega) hpx (by
        rw [List.pairwise_append]
        exact ⟨ho, List.pairwise_singleton _ _, fun p hp q hq => by rw [List.mem_singleton.mp hq]; exact hol p hp x ((hmem x).mpr (.inl rfl))⟩) (by
        intro p hp q hq
        rcases List.mem_append.mp hp with h | h
        · exact hol p h q ((hmem q).mpr (.inr hq))
        · rw [List.mem_singleton.mp h]; exact hxl q hq)
      refine ⟨s1, fun y => (s2 y).trans ?_⟩; rw [hmem y, List.mem_append, List.mem_singleton, or_assoc]
    · rw [if_neg c]
      have : l = [] := List.eq_nil_of_length_eq_zero (by omega); subst this; exact ⟨ho, fun x => by simp⟩
end
end Go.Proofs.YtbjjgaahdnfflaaDoor.Pr
end
section
namespace Go.Proofs.YtbjjgaahdnfflaaDoor.Pr
open Go.RowKit Go.Proofs.YtbjjgaahdnfflaaDoorW.PrintWords Go.Proofs.YtbjjgaahdnfflaaDoorW.PrintLast Go.Proofs.YtbjjgaahdnfflaaDoorW.PrintMore
mutual
def ids : S29 → List ID
  | ⟨_, _, i, ps⟩ => i :: idsL ps
def idsL : List S29 → List ID
  | [] => []
  | p :: ps => ids p ++ idsL ps
end
mutual
def dep : S29 → Nat
  | ⟨_, _, _, ps⟩ => depL ps
def depL : List S29 → Nat
  | [] => 0
  | p :: ps => Nat.max (dep p + 1) (depL ps)
end
theorem ids_eq (p : Proof) : ids p = p.f2 :: idsL p.f3 := by cases p; rw [ids]
theorem dep_eq (p : Proof) : dep p = depL p.f3 := by cases p; rw [dep]
theorem idsL_nil : idsL [] = [] := by rw [idsL]
theorem idsL_cons (p : Proof) (ps : List Proof) : idsL (p :: ps) = ids p ++ idsL ps := by rw [idsL]
theorem depL_nil : depL [] = 0 := by rw [depL]
theorem depL_cons (p : Proof) (ps : List Proof) : depL (p :: ps) = Nat.max (dep p + 1) (depL ps) := by rw [depL]
def cnt (p : Proof) : Nat := (ids p).length
theorem cnt_pos (p : Proof) : 0 < cnt p := by
  unfold cnt; rw [ids_eq]; exact Nat.zero_lt_succ _
theorem mem_idsL {q : Proof} {ps : List Proof} (h : q ∈ ps) : ∀ i ∈ ids q, i ∈ idsL ps := by
  induction ps with
  | nil => cases h
  | cons p ps ih =>
    intro i hi; rw [idsL_cons, List.mem_append]
    rcases List.mem_cons.mp h with rfl | h
    · exact .inl hi
    · exact .inr (ih h i hi)
theorem mem_ids {q p : Proof} (h : q ∈ p.f3) : ∀ i ∈ ids q, i ∈ ids p := fun i hi => by
  rw [ids_eq]; exact List.mem_cons_of_mem _ (mem_idsL h i hi)
theorem cnt_memL {q : Proof} {ps : List Proof} (h : q ∈ ps) : cnt q ≤ (idsL ps).length := by
  unfold cnt
  induction ps with
  | nil => cases h
  | cons p ps ih =>
    rw [idsL_cons, List.length_append]
    rcases List.mem_cons.mp h with rfl | h
    · omega
    · have := ih h
      omega
theorem cnt_mem {q p : Proof} (h : q ∈ p.f3) : cnt q < cnt p := by
  have := cnt_memL h
  show _ < (ids p).length
  rw [ids_eq, List.length_cons]; omega
theorem dep_memL {q : Proof} {ps : List Proof} (h : q ∈ ps) : dep q < depL ps := by
  induction ps with
  | nil => cases h
  | cons p ps ih =>
    rw [depL_cons]
    rcases List.mem_cons.mp h with rfl | h
    · exact Nat.lt_of_lt_of_le (Nat.lt_succ_self _) (Nat.le_max_left _ _)
    · exact Nat.lt_of_lt_of_le (ih h) (Nat.le_max_right _ _)
theorem dep_mem {q p : Proof} (h : q ∈ p.f3) : dep q < dep p := by rw [dep_eq p]; exact dep_memL h
theorem treeInd {P : Proof → Prop} (h : ∀ p, (∀ q ∈ p.f3, P q) → P p) : ∀ p, P p := by
  have : ∀ n p, cnt p ≤ n → P p := by
    intro n
    induction n with
    | zero => intro p hp; have := cnt_pos p; omega
    | succ n ih => exact fun p hp => h p fun q hq => ih q (by have := cnt_mem hq; omega)
  exact fun p => this (cnt p) p (Nat.le_refl _)
theorem depL_le : ∀ (ps : List Proof), (∀ q ∈ ps, dep q + 1 ≤ cnt q) → depL ps ≤ (idsL ps).length
  | [], _ => by rw [depL_nil]; omega
  | p :: ps, h => by
    rw [depL_cons, idsL_cons, List.length_append]; have h1 := h p (List.mem_cons_self ..)
    have h2 := depL_le ps fun q hq => h q (List.mem_cons_of_mem _ hq)
    unfold cnt at h1; exact Nat.max_le.mpr ⟨by omega, by omega⟩
theorem dep_lt : ∀ p, dep p + 1 ≤ cnt p := treeInd fun p ih => by
  have := depL_le p.f3 ih; rw [dep_eq]; unfold cnt; rw [ids_eq, List.length_cons]; omega
theorem parts_le : ∀ ps : List Proof, ps.length ≤ (idsL ps).length
  | [] => Nat.zero_le _
  | p :: ps => by
    rw [idsL_cons, List.length_append, List.length_cons]; have h1 := cnt_pos p; have h2 := parts_le ps; unfold cnt at h1; omega
theorem parts_lt (p : Proof) : p.f3.length < cnt p := by
  unfold cnt; rw [ids_eq, List.length_cons]; have := parts_le p.f3; omega
theorem rdP (ps : List Proof) (i : Nat) (h : i < ps.length) : rd_T29 ps (i : Int) = ps[i] := by
  unfold rd_T29; rw [Int.toNat_natCast, List.getD_eq_getElem?_getD, List.getElem?_eq_getElem h]; rfl
theorem dropP (ps : List Proof) (i : Nat) (h : i < ps.length) : ps.drop i = ps[i] :: ps.drop (i + 1) := List.drop_eq_getElem_cons h
def okTree (p : Proof) : Prop := ∀ i ∈ ids p, okID i
theorem okTree.mem {p q : Proof} (h : okTree p) (hq : q ∈ p.f3) : okTree q := fun i hi => h i (mem_ids hq i hi)
theorem Ev.stepBind {α β : Type} {f : Nat → Option α} {g : Nat → Option β} {h : Nat → β → Option α} {a : β} {v : α} (e : ∀ k, f (k + 1) = (g k).bind (h k)) (hg : Ev g a) (hh : Ev (fun k => h k a) v) : Ev f v := Ev.step e (Ev.bind hg hh)
theorem wrapN {i : Nat} (h : i < 1000000000000) : wrap64 ((i : Int) + 1) = ((i + 1 : Nat) : Int) := by unfold wrap64; omega
theorem wrapAdd {x y : Int} (h : -1000000000000 < x + y ∧ x + y < 1000000000000) : wrap64 (x + y) = x + y := by unfold wrap64; omega
theorem deep_l0 (p : Proof) (hc : cnt p < 1000000) (ih : ∀ q ∈ p.f3, Ev (fun k => Qaq.f k q.f0.f0 q.f0.f1 q.f1 q.f2.f0 q.f2.f1 q.f3) (dep q : Int)) : ∀ (n i x : Nat), n + i = p.f3.length → Ev (fun k => Qaq.l0 k (x : Int) (i : Int) p.f0.f0 p.f0.f1 p.f1 p.f2.f0 p.f2.f1 p.f3) ((max x (depL (p.f3.drop i)) : Nat) : Int)
  | 0, i, x, hn => by
    rw [List.drop_eq_nil_of_le (by omega), depL_nil]; refine Ev.step (fun k => ?_) (Ev.pure _); rw [Qaq.l0, if_neg (by omega), show max x 0 = x by omega]
  | n + 1, i, x, hn => by
    have hi : i < p.f3.length := by omega
    have hl := parts_lt p; have hq := cnt_mem (List.getElem_mem hi); have hd := dep_lt p.f3[i]; rw [dropP p.f3 i hi, depL_cons]; refine Ev.stepBind (h := fun k t => if wrap64 (t + 1) > (x : Int) then Qaq.l0 k (wrap64 (t + 1)) ((i + 1 : Nat) : Int) p.f0.f0 p.f0.f1 p.f1 p.f2.f0 p.f2.f1 p.f3 else Qaq.l0 k (x : Int) ((i + 1 : Nat) : Int) p.f0.f0 p.f0.f1 p.f1 p.f2.f0 p.f2.f1 p.f3) (fun k => ?_) (ih _ (List.getElem_mem hi)) ?_
    · rw [Qaq.l0, if_pos (by omega), if_pos (by omega), wrapN (by omega), rdP p.f3 i hi]
    · simp only [wrapN (show dep p.f3[i] < 1000000000000 by omega)]
      have e : Nat.max (dep p.f3[i] + 1) (depL (p.f3.drop (i + 1))) = max (dep p.f3[i] + 1) (depL (p.f3.drop (i + 1))) := rfl; rw [e]
      by_cases h : ((dep p.f3[i] + 1 : Nat) : Int) > (x : Int)
      · simp only [if_pos h]
        have := deep_l0 p hc ih n (i + 1) (dep p.f3[i] + 1) (by omega); rw [show max x (max (dep p.f3[i] + 1) (depL (p.f3.drop (i + 1)))) = max (dep p.f3[i] + 1) (depL (p.f3.drop (i + 1))) by omega]; exact this
      · simp only [if_neg h]
        have := deep_l0 p hc ih n (i + 1) x (by omega); rw [show max x (max (dep p.f3[i] + 1) (depL (p.f3.drop (i + 1)))) = max x (depL (p.f3.drop (i + 1))) by omega]; exact this
theorem deep_ev : ∀ p : Proof, cnt p < 1000000 → Ev (fun k => Qaq.f k p.f0.f0 p.f0.f1 p.f1 p.f2.f0 p.f2.f1 p.f3) (dep p : Int) := treeInd fun p ih hc => by
  have := deep_l0 p hc (fun q hq => ih q hq (by have := cnt_mem hq; omega)) p.f3.length 0 0 (by omega); rw [List.drop_zero, ← dep_eq, show max 0 (dep p) = dep p by omega] at this; refine Ev.step (fun k => ?_) this; rw [Qaq.f]; rfl
def fewV (n most : Int) : Int := if n ≤ most then n else -1
theorem few_l0 (p : Proof) (most : Int) (hm : -1000000 < most ∧ most < 1000000) (ih : ∀ q ∈ p.f3, ∀ m : Int, -1000000 < m ∧ m < 1000000 → Ev (fun k => Qaz.f k q.f0.f0 q.f0.f1 q.f1 q.f2.f0 q.f2.f1 q.f3 m) (fewV (cnt q) m)) : ∀ (n i x : Nat), n + i = p.f3.length → i < x → ((x : Int) ≤ most ∨ x = 1) → Ev (fun k => Qaz.l0 k most (x : Int) (i : Int) p.f0.f0 p.f0.f1 p.f1 p.f2.f0 p.f2.f1 p.f3) (fewV (x + (idsL (p.f3.drop i)).length) most)
  | 0, i, x, hn, h1, hx => by
    rw [List.drop_eq_nil_of_le (by omega), idsL_nil]; refine Ev.step (fun k => ?_) (Ev.pure _); rw [Qaz.l0, if_neg (by omega)]; unfold fewV
    by_cases h : (x : Int) > most
    · rw [if_pos h, if_neg (by simp; omega)]
    · rw [if_neg h, if_pos (by simp; omega)]
      simp
  | n + 1, i, x, hn, h1, hx => by
    have hi : i < p.f3.length := by omega
    have hpos := cnt_pos p.f3[i]; have hcl : (ids p.f3[i]).length = cnt p.f3[i] := rfl; rw [dropP p.f3 i hi, idsL_cons, List.length_append]
    by_cases h : (x : Int) ≥ most
    · refine Ev.step (fun k => ?_) (Ev.pure _)
      rw [Qaz.l0, if_pos (by omega), if_pos h]; unfold fewV; rw [if_neg (by omega)]
    · refine Ev.stepBind (h := fun k t => if t < 0 then some (-1) else Qaz.l0 k most (wrap64 ((x : Int) + t)) ((i + 1 : Nat) : Int) p.f0.f0 p.f0.f1 p.f1 p.f2.f0 p.f2.f1 p.f3) (fun k => ?_) (ih _ (List.getElem_mem hi) (most - (x : Int)) (by omega)) ?_
      · rw [Qaz.l0, if_pos (by omega), if_neg h, if_pos (by omega), wrapN (by omega), rdP p.f3 i hi, show wrap64 (most - (x : Int)) = most - (x : Int) by unfold wrap64; omega]
      · by_cases h2 : (cnt p.f3[i] : Int) ≤ most - (x : Int)
        · have e : fewV (cnt p.f3[i] : Int) (most - (x : Int)) = (cnt p.f3[i] : Int) := if_pos h2
          simp only [e, if_neg (show ¬ (cnt p.f3[i] : Int) < 0 by omega)]; have := few_l0 p most hm ih n (i + 1) (x + cnt p.f3[i]) (by omega) (by omega) (by omega); rw [wrapAdd (by omega)]; rw [show ((x : Int) + (((ids p.f3[i]).length + (idsL (p.f3.drop (i + 1))).length : Nat) : Int)) = ((x + cnt p.f3[i] : Nat) : Int) + ((idsL (p.f3.drop (i + 1))).length : Int) by omega]; exact this
        · have e : fewV (cnt p.f3[i] : Int) (most - (x : Int)) = -1 := if_neg h2
          simp only [e]; unfold fewV; rw [if_neg (by omega)]; exact Ev.pure _
theorem few_ev : ∀ p : Proof, ∀ most : Int, -1000000 < most ∧ most < 1000000 → Ev (fun k => Qaz.f k p.f0.f0 p.f0.f1 p.f1 p.f2.f0 p.f2.f1 p.f3 most) (fewV (cnt p) most) := treeInd fun p ih most hm => by
  have := few_l0 p most hm ih p.f3.length 0 1 (by omega) (by omega) (.inr rfl); rw [List.drop_zero] at this; rw [show (cnt p : Int) = ((1 : Nat) : Int) + ((idsL p.f3).length : Int) by unfold cnt; rw [ids_eq, List.length_cons]; omega]; refine Ev.step (fun k => ?_) this; rw [Qaz.f]; rfl
end Go.Proofs.YtbjjgaahdnfflaaDoor.Pr
end
