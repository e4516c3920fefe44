/- The proof's own texts, joined: part 9. No conditions. -/
import Derived.DeepKeys4
import Derived.KernelRfl
import Derived.WalkKit
import Derived.WalkSpells
import Derived.WalkLawsBesides
import Derived.Lib.Hide
import Derived.Deep.QuietTactic
import Derived.Deep.RegionWith
import Derived.BigQuiet
import Derived.RegionTactic
import Derived.ChangeAlike
import Derived.Deep.RegionLaw
import Derived.Lib.SmallJoins
import Derived.Lib.SlicesS
import Derived.Shelf.SlicesE.Clone
import Derived.Sort.Grow
import Derived.OrdersHeld
import Derived.Deep.RegionHeld3
import Derived.Laws.BitsLemmas
import Derived.RowKit
import Derived.Sort.Walk0
import Derived.Laws.Strings
import Derived.Shelf.SlicesG.Cmp
import Derived.StillTailTactics
import Derived.Maps.OwnSet
import Derived.Maps.RangeRun
import Derived.Maps.Range
import Derived.Carry
import Derived.Below
import Derived.Test.YtbjjgaahdnfflaaGreatDoorProg
import Derived.Deep.Draws
import Derived.Deep.AppendLies
import Derived.Maps.AppendAt
import Derived.OwnWalk
import Derived.Laws.BytesArg
import Derived.Laws.MakeOwn
import Derived.Laws.OwnMore
import Derived.Deep.OwnRows
import Derived.Tactics
import Derived.Lib.ConvBytes
import Derived.Laws.Slices
import Derived.RowKit3
import Derived.Deep.LoopGhost
import Derived.WideLaws
import Derived.Deep.DeepCutAuto
import Derived.Deep.CutBlock
import Derived.Laws.Rows
import Derived.Lib.AppendStr
import Derived.ArgAppend
import Derived.Laws.IdiomCopy
import Derived.Shelf.SlSortCmp.NoneTotal
import Derived.Sort.LotA
import Derived.Laws.StructEq
import Derived.Ground.SlgcProg
import Derived.Outline
import Derived.Deep.DrawnRows
import Derived.Shelf.GgSortFunc.InsertionK
import Derived.Laws.RangeAny
import Derived.Laws.Closers25
import Derived.Shelf.SlSortCmp.WholeK
import Derived.Ground.SlsfProg
import Derived.Ground.SlgnProg
import Derived.Test.YtbjjgaahdnfflaaGreatDoorPFinds0
import Derived.Test.YtbjjgaahdnfflaaGreatDoorPFinds1
import Derived.Test.YtbjjgaahdnfflaaGreatDoorPFinds2
import Derived.Test.YtbjjgaahdnfflaaGreatDoorPFinds3
import Derived.Test.YtbjjgaahdnfflaaGreatDoorPFinds4
import Derived.Test.YtbjjgaahdnfflaaGreatDoorPFinds5
import Derived.Test.YtbjjgaahdnfflaaGreatDoorPFinds6
import Derived.Test.YtbjjgaahdnfflaaGreatDoorPFinds7
import Derived.Test.YtbjjgaahdnfflaaGreatDoorPFinds8
section
namespace Go.Proofs.YtbjjgaahdnfflaaGreatDoor.Pr
open Go.RowKit Go.Proofs.YtbjjgaahdnfflaaGreatDoorW.PrintWords Go.Proofs.YtbjjgaahdnfflaaGreatDoorW.PrintLast Go.Proofs.YtbjjgaahdnfflaaGreatDoorW.PrintMore
set_option linter.unusedVariables false
set_option linter.unusedSimpArgs false
theorem rnd_none {T : List (Pair × Int)} {p : Pair} (h : p ∉ T.map (·.1)) : rnd T p = 0 := by
  unfold rnd; rw [List.find?_eq_none.mpr (fun y hy e => h (by rw [← of_decide_eq_true e]; exact List.mem_map_of_mem hy))]; rfl
theorem rnd_mem {T : List (Pair × Int)} {p : Pair} (h : p ∈ T.map (·.1)) : ∃ m, (p, m) ∈ T ∧ rnd T p = m := by
  unfold rnd
  cases e : T.find? fun y => decide (y.1 = p) with
  | none =>
    obtain ⟨y, hy, rfl⟩ := List.mem_map.mp h; exact absurd (List.find?_eq_none.mp e y hy) (by simp)
  | some y =>
    have h1 := List.mem_of_find?_eq_some e; have h2 := List.find?_some e; have h2 : y.1 = p := of_decide_eq_true h2; subst h2; exact ⟨y.2, h1, rfl⟩
theorem rnd_append (T : List (Pair × Int)) (fr : List Pair) (n : Int) (p : Pair) : rnd (T ++ fr.map fun q => (q, n)) p = if p ∈ T.map (·.1) then rnd T p else if p ∈ fr then n else 0 := by
  by_cases h : p ∈ T.map (·.1)
  · rw [if_pos h]
    unfold rnd; rw [List.find?_append]
    cases e : T.find? fun y => decide (y.1 = p) with
    | none =>
      obtain ⟨y, hy, rfl⟩ := List.mem_map.mp h; exact absurd (List.find?_eq_none.mp e y hy) (by simp)
    | some y => rfl
  · rw [if_neg h]
    by_cases hf : p ∈ fr
    · rw [if_pos hf]
      have hm : p ∈ (T ++ fr.map fun q => (q, n)).map (·.1) := by
        rw [List.map_append]; exact List.mem_append_right _ (by rw [List.map_map]; exact List.mem_map.mpr ⟨p, hf, rfl⟩)
      obtain ⟨m, h1, h2⟩ := rnd_mem hm; rw [h2]
      rcases List.mem_append.mp h1 with h1 | h1
      · exact absurd (List.mem_map.mpr ⟨_, h1, rfl⟩) h
      · obtain ⟨q, _, e⟩ := List.mem_map.mp h1
        exact (Prod.mk.inj e).2.symm
    · rw [if_neg hf]
      refine rnd_none fun hm => ?_
      rw [List.map_append, List.map_map] at hm
      rcases List.mem_append.mp hm with hm | hm
      · exact h hm
      · obtain ⟨q, hq, rfl⟩ := List.mem_map.mp hm
        exact hf hq
theorem rput_new {T : List (Pair × Int)} {p : Pair} {n : Int} (h : p ∉ T.map (·.1)) : rput T p n = T ++ [(p, n)] := by
  unfold rput; rw [if_neg]; intro e; obtain ⟨y, hy, e⟩ := List.any_eq_true.mp e; exact h (by rw [← of_decide_eq_true e]; exact List.mem_map_of_mem hy)
theorem rputs_new (n : Int) : ∀ (fr : List Pair) (T : List (Pair × Int)), fr.Nodup → (∀ p ∈ fr, p ∉ T.map (·.1)) → rputs T fr n = T ++ fr.map fun q => (q, n)
  | [], T, _, _ => by simp [rputs]
  | p :: fr, T, hn, h => by
    have hn' := List.nodup_cons.mp hn
    show rputs (rput T p n) fr n = _
    rw [rput_new (h p (List.mem_cons_self ..)), rputs_new n fr _ hn'.2 (fun q hq hm => ?_)]
    · simp
    · rw [List.map_append] at hm
      rcases List.mem_append.mp hm with hm | hm
      · exact h q (List.mem_cons_of_mem _ hq) hm
      · simp only [List.map_cons, List.map_nil, List.mem_singleton] at hm
        rw [hm] at hq; exact hn'.1 hq
theorem fresh_is {T : List (Pair × Int)} {cs : List Cred} {n : Int} {H : Pair → Prop} : ∀ (ps out : List Pair), (∀ p ∈ ps, okPair p ∧ ∃ rr, finBy T cs p n = some rr ∧ (rr.isSome = true ↔ H p)) →
    ∃ fr, finFresh T cs n ps out = some (out ++ fr) ∧ fr.Sublist ps ∧ ∀ p, p ∈ fr ↔ p ∈ ps ∧ ¬ 0 < rnd T p ∧ H p
  | [], out, _ => ⟨[], by rw [finFresh, List.append_nil], .slnil, fun p => by simp⟩
  | p :: ps, out, h => by
    obtain ⟨hok, rr, hb, hi⟩ := h p (List.mem_cons_self ..)
    have h' := fun q hq => h q (List.mem_cons_of_mem _ hq)
    rw [finFresh, if_pos hok]
    by_cases hk : 0 < rnd T p
    · rw [if_pos hk]
      obtain ⟨fr, h1, h2, h3⟩ := fresh_is ps out h'; refine ⟨fr, h1, h2.cons _, fun q => ?_⟩; rw [h3, List.mem_cons]; constructor
      · rintro ⟨a, b⟩
        exact ⟨.inr a, b⟩
      · rintro ⟨rfl | a, b⟩
        · exact absurd hk b.1
        · exact ⟨a, b⟩
    · rw [if_neg hk, hb, Option.bind_some]
      by_cases hs : rr.isSome = true
      · rw [if_pos hs]
        obtain ⟨fr, h1, h2, h3⟩ := fresh_is ps (out ++ [p]) h'; refine ⟨p :: fr, by rw [h1, List.append_assoc]; rfl, h2.cons_cons _, fun q => ?_⟩; rw [List.mem_cons, h3, List.mem_cons]; constructor
        · rintro (rfl | ⟨a, b⟩)
          · exact ⟨.inl rfl, hk, hi.mp hs⟩
          · exact ⟨.inr a, b⟩
        · rintro ⟨rfl | a, b⟩
          · exact .inl rfl
          · exact .inr ⟨a, b⟩
      · rw [if_neg hs]
        obtain ⟨fr, h1, h2, h3⟩ := fresh_is ps out h'; refine ⟨fr, h1, h2.cons _, fun q => ?_⟩; rw [h3, List.mem_cons]; constructor
        · rintro ⟨a, b⟩
          exact ⟨.inr a, b⟩
        · rintro ⟨rfl | a, b⟩
          · exact absurd (hi.mpr b.2) hs
          · exact ⟨a, b⟩
structure RInv (cs : List Cred) (ps : List Pair) (T : List (Pair × Int)) (n : Nat) : Prop where
  nodup : (T.map (·.1)).Nodup
  sub : ∀ p ∈ T.map (·.1), p ∈ ps
  pos : ∀ p ∈ T.map (·.1), 0 < rnd T p
  le : ∀ p, rnd T p ≤ n
  nn : ∀ p, 0 ≤ rnd T p
  kk : ∀ j : Nat, j ≤ n → ∀ p, inB T (j + 1) p ↔ KK cs j p
theorem rinv_start (cs : List Cred) (ps : List Pair) : RInv cs ps [] 0 := by
  refine ⟨List.nodup_nil, (fun p hp => by cases hp), (fun p hp => by cases hp), fun p => Int.le_refl _, fun p => Int.le_refl _, fun j hj p => ?_⟩
  have : j = 0 := by omega
  subst this; constructor
  · rintro ⟨h, _⟩
    exact absurd h (by show ¬ (0 : Int) < 0; omega)
  · exact fun h => h.elim
theorem by_kk {cs : List Cred} (hm : Mays cs) {T : List (Pair × Int)} {n : Nat} (hT : ∀ q, inB T (n + 1) q ↔ KK cs n q) {p : Pair} (hw : p.f1.size ≤ maxLen) : ∃ rr, finBy T cs p ((n : Int) + 1) = some rr ∧ (rr.isSome = true ↔ KK cs (n + 1) p) := by
  obtain ⟨rr, h1, h2, h3⟩ := by_is (T := T) (n := (n : Int) + 1) hw cs hm; refine ⟨rr, h1, ?_⟩
  cases rr with
  | none =>
    refine ⟨(fun h => by cases h), fun ⟨c, hc, L, hL, hq⟩ => absurd (fun q hq' => (hT q).mpr (hq q hq')) (h3 rfl c hc L hL)⟩
  | some x =>
    obtain ⟨a, b, d⟩ := h2 x.1 x.2 rfl; exact ⟨fun _ => ⟨x.1, a, x.2, b, fun q hq => (hT q).mp (d q hq)⟩, fun _ => rfl⟩
theorem rinv_step {cs : List Cred} (hm : Mays cs) {ps : List Pair} (hn : ps.Nodup) (hps : ∀ p, p ∈ ps ↔ Said cs p) {T : List (Pair × Int)} {n : Nat} (h : RInv cs ps T n) :
    ∃ fr, finFresh T cs ((n : Int) + 1) ps [] = some fr ∧ RInv cs ps (rputs T fr ((n : Int) + 1)) (n + 1) ∧ (rputs T fr ((n : Int) + 1)).length = T.length + fr.length ∧ (T.length < ps.length → 0 < fr.length) := by
  obtain ⟨fr, h1, h2, h3⟩ := fresh_is (T := T) (cs := cs) (n := (n : Int) + 1) (H := fun p => KK cs (n + 1) p) ps [] (fun p hp => by
    have ho := ((hps p).mp hp).okPair hm
    exact ⟨ho, by_kk hm (h.kk n (Nat.le_refl _)) ho.2.2⟩)
  rw [List.nil_append] at h1
  have hno : ∀ p ∈ fr, p ∉ T.map (·.1) := fun p hp hm => ((h3 p).mp hp).2.1 (h.pos p hm)
  have hfn : fr.Nodup := hn.sublist h2; have e := rputs_new ((n : Int) + 1) fr T hfn hno
  have hr : ∀ p, rnd (rputs T fr ((n : Int) + 1)) p = if p ∈ T.map (·.1) then rnd T p else if p ∈ fr then (n : Int) + 1 else 0 := fun p => by rw [e, rnd_append]
  have hz : ∀ p, p ∉ T.map (·.1) → rnd T p = 0 := fun p hp => rnd_none hp
  have hkeys : (rputs T fr ((n : Int) + 1)).map (·.1) = T.map (·.1) ++ fr := by
    rw [e, List.map_append, List.map_map]
    congr 1
    exact List.map_id' fr
  refine ⟨fr, h1, ⟨?_, ?_, ?_, ?_, ?_, ?_⟩, by rw [e]; simp, fun hlt => ?_⟩
  · rw [hkeys, List.nodup_append]
    exact ⟨h.nodup, hfn, fun a ha b hb e => hno b hb (e ▸ ha)⟩
  · intro p hp
    rw [hkeys] at hp
    rcases List.mem_append.mp hp with hp | hp
    · exact h.sub p hp
    · exact ((h3 p).mp hp).1
  · intro p hp
    rw [hkeys] at hp; rw [hr]
    by_cases a : p ∈ T.map (·.1)
    · rw [if_pos a]
      exact h.pos p a
    · rw [if_neg a]
      rcases List.mem_append.mp hp with hp | hp
      · exact absurd hp a
      · rw [if_pos hp]
        omega
  · intro p
    rw [hr]; have := h.le p
    split
    · omega
    · split <;> omega
  · intro p
    rw [hr]; have := h.nn p
    split
    · omega
    · split <;> omega
  · intro j hj p
    by_cases a : p ∈ T.map (·.1)
    · have hp := h.pos p a
      have hl := h.le p
      have e1 : rnd (rputs T fr ((n : Int) + 1)) p = rnd T p := by rw [hr, if_pos a]
      by_cases hjn : j ≤ n
      · rw [← h.kk j hjn]
        unfold inB; rw [e1]
      · have : j = n + 1 := by omega
        subst this; unfold inB; rw [e1]; refine ⟨fun _ => ((h.kk n (Nat.le_refl _) p).mp ⟨hp, by omega⟩).succ, fun _ => ⟨hp, by omega⟩⟩
    · have hk : ∀ j, j ≤ n → ¬ KK cs j p := fun j hj hk => by
        have := (h.kk j hj p).mpr hk; rw [inB, hz p a] at this; omega
      by_cases hf : p ∈ fr
      · have e1 : rnd (rputs T fr ((n : Int) + 1)) p = (n : Int) + 1 := by rw [hr, if_neg a, if_pos hf]
        unfold inB; rw [e1]; refine ⟨fun hh => ?_, fun hh => ?_⟩
        · have : j = n + 1 := by omega
          subst this; exact ((h3 p).mp hf).2.2
        · by_cases hjn : j ≤ n
          · exact absurd hh (hk j hjn)
          · omega
      · have e1 : rnd (rputs T fr ((n : Int) + 1)) p = 0 := by rw [hr, if_neg a, if_neg hf]
        unfold inB; rw [e1]; refine ⟨fun hh => by omega, fun hh => ?_⟩
        by_cases hjn : j ≤ n
        · exact absurd hh (hk j hjn)
        · have : j = n + 1 := by omega
          subst this; exact absurd ((h3 p).mpr ⟨(hps p).mpr hh.said, by rw [hz p a]; omega, hh⟩) hf
  · by_cases hf : 0 < fr.length
    · exact hf
    · exfalso
      have hf0 : fr = [] := List.length_eq_zero_iff.mp (by omega)
      have hfix : ∀ p, KK cs (n + 1) p → KK cs n p := fun p hp => by
        by_cases a : 0 < rnd T p
        · exact (h.kk n (Nat.le_refl _) p).mp ⟨a, by have := h.le p; omega⟩
        · have := (h3 p).mpr ⟨(hps p).mpr hp.said, a, hp⟩
          rw [hf0] at this; cases this
      have hall : ∀ p ∈ ps, p ∈ T.map (·.1) := fun p hp => by
        have := (h.kk n (Nat.le_refl _) p).mpr (KK.fix hfix ((hps p).mp hp))
        by_cases a : p ∈ T.map (·.1)
        · exact a
        · rw [inB, hz p a] at this
          omega
      have := nodup_le hn hall; rw [List.length_map] at this; omega
structure RndOf (cs : List Cred) (T : List (Pair × Int)) : Prop where
  nn : ∀ p, 0 ≤ rnd T p
  le : ∀ p, rnd T p ≤ ((cs.length * cs.length : Nat) : Int)
  kk : ∀ (j : Nat) p, inB T (j + 1) p ↔ KK cs j p
theorem rounds_is {cs : List Cred} (hm : Mays cs) {ps : List Pair} (hn : ps.Nodup) (hps : ∀ p, p ∈ ps ↔ Said cs p) (h400 : ps.length ≤ 400) : ∀ (k : Nat) (T : List (Pair × Int)) (n : Nat), RInv cs ps T n → n ≤ T.length → 402 - T.length ≤ k → ∃ T', finRounds cs ps k T ((n : Int) + 1) = some T' ∧ RndOf cs T'
  | 0, T, n, h, hnT, hk => by
    have := nodup_le h.nodup h.sub; rw [List.length_map] at this; omega
  | k + 1, T, n, h, hnT, hk => by
    have hle := nodup_le h.nodup h.sub; rw [List.length_map] at hle; rw [finRounds]
    by_cases hlt : T.length < ps.length
    · rw [if_pos hlt]
      obtain ⟨fr, h1, h2, h3, h4⟩ := rinv_step hm hn hps h; have h4 := h4 hlt; rw [h1, Option.bind_some]; have := rounds_is hm hn hps h400 k _ (n + 1) h2 (by omega) (by omega); rw [show ((n + 1 : Nat) : Int) + 1 = (n : Int) + 1 + 1 by omega] at this; exact this
    · rw [if_neg hlt]
      have hsq := said_all hn (fun p hp => (hps p).mp hp); refine ⟨T, rfl, h.nn, fun p => by have := h.le p; omega, fun j p => ?_⟩
      by_cases hj : j ≤ n
      · exact h.kk j hj p
      · have hin : ∀ p ∈ ps, p ∈ T.map (·.1) := by
          intro p hp
          by_cases a : p ∈ T.map (·.1)
          · exact a
          · have := nodup_le (List.nodup_cons.mpr ⟨a, h.nodup⟩) (m := ps) (fun q hq => by
              rcases List.mem_cons.mp hq with rfl | hq
              · exact hp
              · exact h.sub q hq)
            rw [List.length_cons, List.length_map] at this; omega
        have hl := h.le p; constructor
        · rintro ⟨a, _⟩
          exact ((h.kk n (Nat.le_refl _) p).mp ⟨a, by omega⟩).le (by omega)
        · intro hk'
          exact ⟨h.pos p (hin p ((hps p).mpr hk'.said)), by omega⟩
theorem RndOf.least {cs : List Cred} {T : List (Pair × Int)} (h : RndOf cs T) {j : Nat} {p : Pair} (hk : KK cs j p) : 0 < rnd T p ∧ rnd T p ≤ j := by
  have := (h.kk j p).mpr hk; unfold inB at this; omega
theorem RndOf.kkOf {cs : List Cred} {T : List (Pair × Int)} (h : RndOf cs T) {j : Nat} {p : Pair} (h0 : 0 < rnd T p) (hj : rnd T p ≤ j) : KK cs j p := (h.kk j p).mp ⟨h0, by omega⟩
theorem RndOf.said {cs : List Cred} {T : List (Pair × Int)} (h : RndOf cs T) {p : Pair} : 0 < rnd T p ↔ Said cs p := by
  constructor
  · intro h0
    exact (h.kkOf (j := (rnd T p).toNat) h0 (by omega)).said
  · intro hs
    have : ∀ q, KK cs (cs.length * cs.length + 1) q → KK cs (cs.length * cs.length) q := fun q hq => by
      have := h.least hq; have := h.le q; exact h.kkOf (by omega) (by omega)
    exact (h.least (KK.fix this hs)).1
def byC (T : List (Pair × Int)) (cs : List Cred) (p : Pair) : Cred := byCred ((finBy T cs p (rnd T p)).getD none)
def byL (T : List (Pair × Int)) (cs : List Cred) (p : Pair) : List Pair := byPairs ((finBy T cs p (rnd T p)).getD none)
structure By (T : List (Pair × Int)) (cs : List Cred) (p : Pair) : Prop where
  ok : okPair p
  fin : finBy T cs p (rnd T p) = some (some (byC T cs p, byL T cs p))
  mem : byC T cs p ∈ cs
  way : Way (byC T cs p) p (byL T cs p)
  less : ∀ q ∈ byL T cs p, inB T (rnd T p) q
theorem by_of {cs : List Cred} (hm : Mays cs) {T : List (Pair × Int)} (h : RndOf cs T) {p : Pair} (h0 : 0 < rnd T p) : By T cs p := by
  have hok := (h.said.mp h0).okPair hm; obtain ⟨rr, h1, h2, h3⟩ := by_is (T := T) (n := rnd T p) hok.2.2 cs hm
  cases rr with
  | none =>
    exfalso
    obtain ⟨m, hm'⟩ : ∃ m : Nat, rnd T p = (m : Int) + 1 := ⟨(rnd T p).toNat - 1, by omega⟩
    obtain ⟨c, hc, L, hw, hL⟩ := h.kkOf (j := m + 1) h0 (by omega)
    refine h3 rfl c hc L hw fun q hq => ?_
    rw [hm']; exact (h.kk m q).mpr (hL q hq)
  | some x =>
    obtain ⟨a, b, d⟩ := h2 x.1 x.2 rfl
    have e1 : byC T cs p = x.1 := by unfold byC; rw [h1]; rfl
    have e2 : byL T cs p = x.2 := by unfold byL; rw [h1]; rfl
    exact ⟨hok, by rw [e1, e2]; exact h1, by rw [e1]; exact a, by rw [e1, e2]; exact b, by rw [e2]; exact d⟩
def pf (T : List (Pair × Int)) (cs : List Cred) : Nat → Pair → Proof
  | 0, p => ⟨p.f0, p.f1, (byC T cs p).f0, []⟩
  | k + 1, p => ⟨p.f0, p.f1, (byC T cs p).f0, (byL T cs p).map (pf T cs k)⟩
theorem pf_f0 (T : List (Pair × Int)) (cs : List Cred) (k : Nat) (p : Pair) : (pf T cs k p).f0 = p.f0 := by cases k <;> rfl
theorem pf_f1 (T : List (Pair × Int)) (cs : List Cred) (k : Nat) (p : Pair) : (pf T cs k p).f1 = p.f1 := by cases k <;> rfl
theorem pf_f2 (T : List (Pair × Int)) (cs : List Cred) (k : Nat) (p : Pair) : (pf T cs k p).f2 = (byC T cs p).f0 := by cases k <;> rfl
theorem finProofs_map {F : Pair → Option Proof} {G : Pair → Proof} : ∀ (qs : List Pair) (out : List Proof), (∀ q ∈ qs, F q = some (G q)) → finProofs F qs out = some (out ++ qs.map G)
  | [], out, _ => by rw [finProofs, List.map_nil, List.append_nil]
  | q :: qs, out, h => by
    rw [finProofs, h q (List.mem_cons_self ..), Option.bind_some, finProofs_map qs _ (fun r hr => h r (List.mem_cons_of_mem _ hr)), List.append_assoc]; rfl
theorem finProof_is {cs : List Cred} (hm : Mays cs) {T : List (Pair × Int)} (h : RndOf cs T) : ∀ (k : Nat) (p : Pair), 0 < rnd T p → rnd T p ≤ k → finProof T cs k p = some (pf T cs k p)
  | 0, p, h0, h1 => by omega
  | k + 1, p, h0, h1 => by
    have b := by_of hm h h0; have hL : (byL T cs p).length ≤ 2 := b.way.length; rw [finProof, if_pos b.ok, b.fin, Option.bind_some]
    show (if (byL T cs p).length ≤ 2 then (finProofs (finProof T cs k) (byL T cs p) []).map fun ps => (⟨p.f0, p.f1, (byC T cs p).f0, ps⟩ : Proof) else none) = _
    rw [if_pos hL, finProofs_map (G := pf T cs k) _ _ (fun q hq => finProof_is hm h k q (b.less q hq).1 (by have := (b.less q hq).2; omega))]; rfl
theorem found_is (l : List Cred) (hl : l.length < 21) (hok : ∀ c ∈ l, okCred c) : ∃ A T, AllOf (counts l) A ∧ RndOf (counts l) T ∧ foundF l = some (counts l, A, T) := by
  have hlen := Qb5 l; obtain ⟨A, h1, hA⟩ := all_is l hl hok; have hAl := hA.length (by omega); obtain ⟨T, h2, hT⟩ := rounds_is (Qch l) hA.nodup hA.mem hAl 1000 [] 0 (rinv_start _ _) (Nat.le_refl _) (by simp); refine ⟨A, T, hA, hT, ?_⟩; unfold foundF; rw [progCounts_is l hl hok, Option.bind_some, h1, Option.bind_some, if_pos (by omega)]; have h2' : finRounds (counts l) A 1000 [] 1 = some T := h2; rw [h2']; rfl
abbrev RPair := S51
theorem rpair_ext {a b : RPair} (h0 : a.f0 = b.f0) (h1 : a.f1 = b.f1) : a = b := by cases a; cases b; simp_all
instance rpairDec : DecidableEq RPair := fun a b => decidable_of_iff (a.f0 = b.f0 ∧ a.f1 = b.f1) ⟨fun h => rpair_ext h.1 h.2, fun h => by rw [h]; exact ⟨rfl, rfl⟩⟩
instance : Inhabited RPair := ⟨z51⟩
theorem rdR (l : List RPair) (i : Nat) : Qaq l (i : Int) = l[i]! := by
  unfold Qaq; rw [Int.toNat_natCast, List.getElem!_eq_getElem?_getD, List.getD_eq_getElem?_getD]; rfl
theorem beq_dec (a b : ByteArray) : (a.toList == b.toList) = decide (a = b) := by
  rw [Bool.eq_iff_iff, Lib.bytes_beq_iff, decide_eq_true_eq]
theorem role_beq (r : Role) (a b : ByteArray) : (r.f0.toList == a.toList && (r.f1.toList == b.toList)) = decide (r = ⟨a, b⟩) := by
  rw [beq_dec, beq_dec, Bool.eq_iff_iff, Bool.and_eq_true, decide_eq_true_eq, decide_eq_true_eq, decide_eq_true_eq]; exact ⟨fun h => role_ext h.1 h.2, fun h => by rw [h]; exact ⟨rfl, rfl⟩⟩
theorem rpair_beq (p : RPair) (a b c : ByteArray) : ((p.f0.f0.toList == a.toList && (p.f0.f1.toList == b.toList)) && (p.f1.toList == c.toList)) = decide (p = ⟨⟨a, b⟩, c⟩) := by
  rw [role_beq, beq_dec, Bool.eq_iff_iff, Bool.and_eq_true, decide_eq_true_eq, decide_eq_true_eq, decide_eq_true_eq]; exact ⟨fun h => rpair_ext h.1 h.2, fun h => by rw [h]; exact ⟨rfl, rfl⟩⟩
theorem in_l0 (l : List RPair) (hl : l.length < 1000000000) (a b c : ByteArray) : ∀ (n i : Nat), n + i = l.length → Ev (fun k => Qau.l0 k l (i : Int) a b c) (decide ((⟨⟨a, b⟩, c⟩ : RPair) ∈ l.drop i))
  | 0, i, hn => by
    rw [show l.drop i = [] from List.drop_eq_nil_of_le (by omega)]; refine Ev.step (fun k => ?_) (Ev.pure _); rw [Qau.l0, if_neg (by omega)]; rfl
  | n + 1, i, hn => by
    rw [drop_bang (by omega : i < l.length)]
    by_cases e : l[i]! = ⟨⟨a, b⟩, c⟩
    · refine Ev.step (fun k => ?_) (Ev.pure _)
      rw [Qau.l0, if_pos (by omega), if_pos (by omega), rdR, rpair_beq, decide_eq_true e, if_pos rfl, decide_eq_true (by rw [e]; exact List.mem_cons_self ..)]
    · have h : decide ((⟨⟨a, b⟩, c⟩ : RPair) ∈ l[i]! :: l.drop (i + 1)) = decide ((⟨⟨a, b⟩, c⟩ : RPair) ∈ l.drop (i + 1)) := by
        rw [Bool.eq_iff_iff, decide_eq_true_eq, decide_eq_true_eq, List.mem_cons]; exact ⟨fun h => h.resolve_left (fun h => e h.symm), .inr⟩
      rw [h]; refine Ev.step (fun k => ?_) (in_l0 l hl a b c n (i + 1) (by omega)); rw [Qau.l0, if_pos (by omega), if_pos (by omega), rdR, rpair_beq, decide_eq_false e, if_neg (by decide), QbS (by omega)]
theorem in_ev (l : List RPair) (hl : l.length < 1000000000) (a b c : ByteArray) : Ev (fun k => Qau.f k l a b c) (decide ((⟨⟨a, b⟩, c⟩ : RPair) ∈ l)) :=
  in_l0 l hl a b c l.length 0 (by omega)
def bringOne (c : Cred) (l : List RPair) (p : RPair) : List RPair :=
  if c.f2 = 2 then (if p.f0 = c.f4 then [⟨credRole c, p.f1⟩] else [])
  else if c.f2 = 4 then (if p.f0 = c.f4 then (if (⟨c.f5, p.f1⟩ : RPair) ∈ l then [⟨credRole c, p.f1⟩] else []) else [])
  else if c.f2 = 3 then (if p.f0 = linkFirst c then (if numName p.f1 > 0 then (l.filter fun q => decide (q.f0 = ⟨p.f1, c.f5.f1⟩)).map fun q => (⟨credRole c, q.f1⟩ : RPair) else []) else [])
  else []
def bringsL (c : Cred) (l : List RPair) : List RPair := if c.f2 = 1 then [⟨credRole c, c.f3⟩] else l.flatMap (bringOne c l)
theorem brings_l1 (c : Cred) (r sec : Role) (l : List RPair) (hl : l.length ≤ 1000) (i : Nat) (hi : i < l.length) (R : List RPair) : ∀ (n j : Nat) (out : List RPair), n + j = l.length → out.length ≤ 100000000 + j →
    Ev (fun k => Qac.l0 k l (out ++ ((l.drop j).filter fun q => decide (q.f0 = sec)).map fun q => (⟨r, q.f1⟩ : RPair)) ((i + 1 : Nat) : Int) c.f0.f0 c.f0.f1 c.f1 c.f2 c.f3 c.f4.f0 c.f4.f1 c.f5.f0 c.f5.f1 r.f0 r.f1) R →
    Ev (fun k => Qac.l1 k l out (i : Int) (j : Int) c.f0.f0 c.f0.f1 c.f1 c.f2 c.f3 c.f4.f0 c.f4.f1 c.f5.f0 c.f5.f1 r.f0 r.f1 sec.f0 sec.f1) R
  | 0, j, out, hn, ho, h => by
    rw [show l.drop j = [] from List.drop_eq_nil_of_le (by omega)] at h; refine Ev.step (fun k => ?_) h; rw [Qac.l1, if_neg (by omega), QbS (by omega), List.filter_nil, List.map_nil, List.append_nil]
  | n + 1, j, out, hn, ho, h => by
    rw [drop_bang (by omega : j < l.length), List.filter_cons] at h
    by_cases e : l[j]!.f0 = sec
    · rw [decide_eq_true e, if_pos rfl, List.map_cons] at h
      refine Ev.step (fun k => ?_) (brings_l1 c r sec l hl i hi R n (j + 1) (out ++ [⟨r, l[j]!.f1⟩]) (by omega) (by simp; omega) (by rw [List.append_assoc]; exact h)); rw [Qac.l1, if_pos (by omega), if_pos (by omega), rdR, role_beq, decide_eq_true e, if_pos rfl, if_pos (by omega), QbS (by omega)]
    · rw [decide_eq_false e, if_neg (by decide)] at h
      refine Ev.step (fun k => ?_) (brings_l1 c r sec l hl i hi R n (j + 1) out (by omega) (by omega) h); rw [Qac.l1, if_pos (by omega), if_pos (by omega), rdR, role_beq, decide_eq_false e, if_neg (by decide), QbS (by omega)]
theorem brings_j3 (c : Cred) (r : Role) (l : List RPair) (hl : l.length ≤ 1000) (i : Nat) (hi : i < l.length) (t : Bool) (R out : List RPair) (ho : out.length ≤ 100000000)
    (h : Ev (fun k => Qac.l0 k l (out ++ (if t then (l.filter fun q => decide (q.f0 = ⟨l[i]!.f1, c.f5.f1⟩)).map fun q => (⟨r, q.f1⟩ : RPair) else [])) ((i + 1 : Nat) : Int) c.f0.f0 c.f0.f1 c.f1 c.f2 c.f3 c.f4.f0 c.f4.f1 c.f5.f0 c.f5.f1 r.f0 r.f1) R) :
    Ev (fun k => Qac.j3 k l out (i : Int) t c.f0.f0 c.f0.f1 c.f1 c.f2 c.f3 c.f4.f0 c.f4.f1 c.f5.f0 c.f5.f1 r.f0 r.f1) R := by
  cases t
  · rw [if_neg (by decide), List.append_nil] at h
    refine Ev.step (fun k => ?_) h; rw [Qac.j3, if_neg (by decide), QbS (by omega)]
  · rw [if_pos rfl] at h
    refine Ev.step (fun k => ?_) (brings_l1 c r ⟨l[i]!.f1, c.f5.f1⟩ l hl i hi R l.length 0 out (by omega) (by omega) (by rw [List.drop_zero]; exact h)); rw [Qac.j3, if_pos rfl, if_pos (by omega), if_pos (by omega), rdR]; rfl
theorem brings_j2 (c : Cred) (r : Role) (l : List RPair) (hl : l.length ≤ 1000) (i : Nat) (hi : i < l.length) (R out : List RPair) (ho : out.length ≤ 100000000)
    (h : Ev (fun k => Qac.l0 k l (out ++ (if c.f2 = 3 then (if l[i]!.f0 = linkFirst c then (if numName l[i]!.f1 > 0 then (l.filter fun q => decide (q.f0 = ⟨l[i]!.f1, c.f5.f1⟩)).map fun q => (⟨r, q.f1⟩ : RPair) else []) else []) else [])) ((i + 1 : Nat) : Int) c.f0.f0 c.f0.f1 c.f1 c.f2 c.f3 c.f4.f0 c.f4.f1 c.f5.f0 c.f5.f1 r.f0 r.f1) R) :
    Ev (fun k => Qac.j2 k l out (i : Int) c.f0.f0 c.f0.f1 c.f1 c.f2 c.f3 c.f4.f0 c.f4.f1 c.f5.f0 c.f5.f1 r.f0 r.f1) R := by
  by_cases k3 : c.f2 = 3
  · rw [if_pos k3] at h
    by_cases e : l[i]!.f0 = linkFirst c
    · rw [if_pos e] at h
      have h3 := brings_j3 c r l hl i hi (decide (numName l[i]!.f1 > 0)) R out ho (by simpa only [decide_eq_true_eq] using h); refine Ev.step (g := fun k => (QaQ.f k c.f0.f0 c.f0.f1 c.f1 c.f2 c.f3 c.f4.f0 c.f4.f1 c.f5.f0 c.f5.f1).bind fun bt => if ((l[i]!.f0.f0.toList == bt.1.toList && (l[i]!.f0.f1.toList == bt.2.toList))) = true then ((Qax.f k l[i]!.f1).bind fun t => Qac.j3 k l out (i : Int) (decide (t > 0)) c.f0.f0 c.f0.f1 c.f1 c.f2 c.f3 c.f4.f0 c.f4.f1 c.f5.f0 c.f5.f1 r.f0 r.f1) else Qac.j3 k l out (i : Int) false c.f0.f0 c.f0.f1 c.f1 c.f2 c.f3 c.f4.f0 c.f4.f1 c.f5.f0 c.f5.f1 r.f0 r.f1) (fun k => ?_) ?_
      · rw [Qac.j2, if_pos k3, if_pos (by omega), if_pos (by omega), rdR]
      · refine Ev.bind (a := (domName c.f0.f0, c.f4.f1)) (.from 1 fun k hk => ?_) ?_
        · obtain ⟨j, rfl⟩ : ∃ j, k = j + 1 := ⟨k - 1, by omega⟩
          unfold QaQ.f; rw [Qcl]; rfl
        · rw [role_beq, decide_eq_true (p := l[i]!.f0 = ⟨domName c.f0.f0, c.f4.f1⟩) e]
          simp only [if_true]; exact Ev.bind (.from 2 fun k hk => by obtain ⟨j, rfl⟩ : ∃ j, k = j + 2 := ⟨k - 2, by omega⟩; exact refNumber_is _ _) h3
    · rw [if_neg e, List.append_nil] at h
      have h3 := brings_j3 c r l hl i hi false R out ho (by simpa using h); refine Ev.step (g := fun k => (QaQ.f k c.f0.f0 c.f0.f1 c.f1 c.f2 c.f3 c.f4.f0 c.f4.f1 c.f5.f0 c.f5.f1).bind fun bt => if ((l[i]!.f0.f0.toList == bt.1.toList && (l[i]!.f0.f1.toList == bt.2.toList))) = true then ((Qax.f k l[i]!.f1).bind fun t => Qac.j3 k l out (i : Int) (decide (t > 0)) c.f0.f0 c.f0.f1 c.f1 c.f2 c.f3 c.f4.f0 c.f4.f1 c.f5.f0 c.f5.f1 r.f0 r.f1) else Qac.j3 k l out (i : Int) false c.f0.f0 c.f0.f1 c.f1 c.f2 c.f3 c.f4.f0 c.f4.f1 c.f5.f0 c.f5.f1 r.f0 r.f1) (fun k => ?_) ?_
      · rw [Qac.j2, if_pos k3, if_pos (by omega), if_pos (by omega), rdR]
      · refine Ev.bind (a := (domName c.f0.f0, c.f4.f1)) (.from 1 fun k hk => ?_) ?_
        · obtain ⟨j, rfl⟩ : ∃ j, k = j + 1 := ⟨k - 1, by omega⟩
          unfold QaQ.f; rw [Qcl]; rfl
        · rw [role_beq, decide_eq_false (p := l[i]!.f0 = ⟨domName c.f0.f0, c.f4.f1⟩) e]
          simpa only [Bool.false_eq_true, if_false] using h3
  · rw [if_neg k3, List.append_nil] at h
    have h3 := brings_j3 c r l hl i hi false R out ho (by simpa using h); refine Ev.step (fun k => ?_) h3; rw [Qac.j2, if_neg k3]
theorem brings_j1 (c : Cred) (l : List RPair) (hl : l.length ≤ 1000) (i : Nat) (hi : i < l.length) (R out : List RPair) (ho : out.length < 100000000)
    (h : Ev (fun k => Qac.l0 k l (out ++ bringOne c l l[i]!) ((i + 1 : Nat) : Int) c.f0.f0 c.f0.f1 c.f1 c.f2 c.f3 c.f4.f0 c.f4.f1 c.f5.f0 c.f5.f1 (credRole c).f0 (credRole c).f1) R) :
    Ev (fun k => Qac.j1 k l out (i : Int) ((decide (c.f2 = 2) || decide (c.f2 = 4)) && decide (l[i]!.f0 = c.f4)) c.f0.f0 c.f0.f1 c.f1 c.f2 c.f3 c.f4.f0 c.f4.f1 c.f5.f0 c.f5.f1 (credRole c).f0 (credRole c).f1) R := by
  unfold bringOne at h
  by_cases k24 : c.f2 = 2 ∨ c.f2 = 4
  · have hk : (decide (c.f2 = 2) || decide (c.f2 = 4)) = true := by rw [Bool.or_eq_true, decide_eq_true_eq, decide_eq_true_eq]; exact k24
    rw [hk, Bool.true_and]
    by_cases e : l[i]!.f0 = c.f4
    · rw [decide_eq_true e]
      simp only [if_pos e] at h; refine Ev.step (g := fun k => (Qau.f k l c.f5.f0 c.f5.f1 l[i]!.f1).bind fun t => if c.f2 = 2 then Qac.j2 k l (out ++ [⟨credRole c, l[i]!.f1⟩]) (i : Int) c.f0.f0 c.f0.f1 c.f1 c.f2 c.f3 c.f4.f0 c.f4.f1 c.f5.f0 c.f5.f1 (credRole c).f0 (credRole c).f1 else if t = true then Qac.j2 k l (out ++ [⟨credRole c, l[i]!.f1⟩]) (i : Int) c.f0.f0 c.f0.f1 c.f1 c.f2 c.f3 c.f4.f0 c.f4.f1 c.f5.f0 c.f5.f1 (credRole c).f0 (credRole c).f1 else Qac.j2 k l out (i : Int) c.f0.f0 c.f0.f1 c.f1 c.f2 c.f3 c.f4.f0 c.f4.f1 c.f5.f0 c.f5.f1 (credRole c).f0 (credRole c).f1) (fun k => ?_) (Ev.bind (in_ev l (by omega) _ _ _) ?_)
      · rw [Qac.j1, if_pos rfl, if_pos (by omega), if_pos (by omega), rdR]
        simp only [if_pos (show out.length < 2932031007402 by omega)]
      · by_cases k2 : c.f2 = 2
        · simp only [if_pos k2] at h ⊢
          refine brings_j2 c _ l hl i hi R _ (by simp; omega) ?_; rw [if_neg (by omega), List.append_nil]; exact h
        · have k4 : c.f2 = 4 := by omega
          simp only [if_neg k2, if_pos k4] at h ⊢
          by_cases m : (⟨c.f5, l[i]!.f1⟩ : RPair) ∈ l
          · rw [if_pos m] at h
            rw [decide_eq_true (p := (⟨⟨c.f5.f0, c.f5.f1⟩, l[i]!.f1⟩ : RPair) ∈ l) m]; simp only [if_true]; refine brings_j2 c _ l hl i hi R _ (by simp; omega) ?_; rw [if_neg (by omega), List.append_nil]; exact h
          · rw [if_neg m, List.append_nil] at h
            rw [decide_eq_false (p := (⟨⟨c.f5.f0, c.f5.f1⟩, l[i]!.f1⟩ : RPair) ∈ l) m]; simp only [Bool.false_eq_true, if_false]; refine brings_j2 c _ l hl i hi R _ (by omega) ?_; rw [if_neg (by omega), List.append_nil]; exact h
    · rw [decide_eq_false e]
      refine Ev.step (fun k => ?_) (brings_j2 c (credRole c) l hl i hi R out (by omega) ?_)
      · rw [Qac.j1, if_neg (by decide)]
      · rw [if_neg (by omega)]
        simp only [if_neg e] at h
        rcases k24 with k | k
        · rw [if_pos k] at h
          exact h
        · rw [if_neg (by omega), if_pos k] at h
          exact h
  · have hk : (decide (c.f2 = 2) || decide (c.f2 = 4)) = false := by rw [decide_eq_false (by omega), decide_eq_false (by omega)]; rfl
    rw [hk, Bool.false_and]; rw [if_neg (by omega), if_neg (by omega)] at h; refine Ev.step (fun k => ?_) (brings_j2 c (credRole c) l hl i hi R out (by omega) h); rw [Qac.j1, if_neg (by decide)]
theorem bringOne_length (c : Cred) (l : List RPair) (p : RPair) (hl : l.length ≤ 1000) : (bringOne c l p).length ≤ 1000 := by
  unfold bringOne; have := List.length_filter_le (fun q : RPair => decide (q.f0 = ⟨p.f1, c.f5.f1⟩)) l
  split
  · split <;> simp
  · split
    · split
      · split <;> simp
      · simp
    · split
      · split
        · split
          · rw [List.length_map]; omega
          · simp
        · simp
      · simp
theorem brings_l0 (c : Cred) (l : List RPair) (hl : l.length ≤ 1000) : ∀ (n i : Nat) (out : List RPair), n + i = l.length → out.length ≤ i * 1000 → Ev (fun k => Qac.l0 k l out (i : Int) c.f0.f0 c.f0.f1 c.f1 c.f2 c.f3 c.f4.f0 c.f4.f1 c.f5.f0 c.f5.f1 (credRole c).f0 (credRole c).f1) (out ++ (l.drop i).flatMap (bringOne c l))
  | 0, i, out, hn, ho => by
    rw [show l.drop i = [] from List.drop_eq_nil_of_le (by omega), List.flatMap_nil, List.append_nil]; refine Ev.step (fun k => ?_) (Ev.pure _); rw [Qac.l0, if_neg (by omega)]
  | n + 1, i, out, hn, ho => by
    have hi : i < l.length := by omega
    rw [drop_bang hi, List.flatMap_cons, ← List.append_assoc]; have hlen := bringOne_length c l l[i]! hl; refine Ev.step (fun k => ?_) (brings_j1 c l hl i hi _ out (by omega) (brings_l0 c l hl n (i + 1) _ (by omega) (by rw [List.length_append]; omega))); rw [Qac.l0, if_pos (by omega)]
    by_cases k2 : c.f2 = 2
    · rw [if_pos k2, if_pos (by omega), rdR, role_beq, decide_eq_true k2]
      rfl
    · rw [if_neg k2, decide_eq_false k2]
      by_cases k4 : c.f2 = 4
      · rw [if_pos k4, if_pos (by omega), rdR, role_beq, decide_eq_true k4]
        rfl
      · rw [if_neg k4, decide_eq_false k4]
        rfl
theorem brings_ev (c : Cred) (l : List RPair) (hl : l.length ≤ 1000) : Ev (fun k => Qac.f k c.f0.f0 c.f0.f1 c.f1 c.f2 c.f3 c.f4.f0 c.f4.f1 c.f5.f0 c.f5.f1 l) (bringsL c l) := by
  unfold Qac.f bringsL; refine Ev.bind (a := (domName c.f0.f0, c.f1)) (.from 1 fun k hk => ?_) ?_
  · obtain ⟨j, rfl⟩ : ∃ j, k = j + 1 := ⟨k - 1, by omega⟩
    unfold QaW.f; rw [Qcl]; rfl
  · by_cases k1 : c.f2 = 1
    · simp only [if_pos k1]
      exact Ev.pure _
    · simp only [if_neg k1]
      have := brings_l0 c l hl l.length 0 [] (by omega) (by simp); rw [List.drop_zero, List.nil_append] at this; exact this
theorem bringsL_length (c : Cred) (l : List RPair) (hl : l.length ≤ 1000) : (bringsL c l).length ≤ 1000001 := by
  have key : ∀ m : List RPair, (m.flatMap (bringOne c l)).length ≤ m.length * 1000 := fun m => by
    induction m with
    | nil => simp
    | cons a m ih =>
      have := bringOne_length c l a hl; rw [List.flatMap_cons, List.length_append, List.length_cons]; omega
  unfold bringsL; have := key l
  split
  · simp
  · omega
def addNew (out : List RPair) (p : RPair) : List RPair := if p ∈ out then out else out ++ [p]
theorem round_l1 (cs : List Cred) (hcs : cs.length ≤ 1000) (l more : List RPair) (hm : more.length ≤ 1000001) (i : Nat) (hi : i < cs.length) (R : List RPair) : ∀ (n j : Nat) (out : List RPair), n + j = more.length → out.length + n ≤ 900000000 →
    Ev (fun k => Qaw.l0 k cs l ((more.drop j).foldl addNew out) ((i + 1 : Nat) : Int)) R → Ev (fun k => Qaw.l1 k cs l out (i : Int) more (j : Int)) R
  | 0, j, out, hn, ho, h => by
    rw [show more.drop j = [] from List.drop_eq_nil_of_le (by omega)] at h; refine Ev.step (fun k => ?_) h; rw [Qaw.l1, if_neg (by omega), QbS (by omega), List.foldl_nil]
  | n + 1, j, out, hn, ho, h => by
    rw [drop_bang (by omega : j < more.length), List.foldl_cons] at h; refine Ev.step (g := fun k => (Qau.f k out more[j]!.f0.f0 more[j]!.f0.f1 more[j]!.f1).bind fun t => if t = true then Qaw.l1 k cs l out (i : Int) more ((j + 1 : Nat) : Int) else Qaw.l1 k cs l (out ++ [more[j]!]) (i : Int) more ((j + 1 : Nat) : Int)) (fun k => ?_) ?_
    · rw [Qaw.l1, if_pos (by omega), if_pos (by omega), rdR, QbS (by omega)]
      simp only [if_pos (show out.length < 2932031007402 by omega)]
    · by_cases e : more[j]! ∈ out
      · rw [addNew, if_pos e] at h
        refine Ev.bind (a := true) ?_ ?_
        · by_cases hb : out.length < 1000000000
          · have := in_ev out hb more[j]!.f0.f0 more[j]!.f0.f1 more[j]!.f1
            rw [decide_eq_true (p := (⟨⟨more[j]!.f0.f0, more[j]!.f0.f1⟩, more[j]!.f1⟩ : RPair) ∈ out) e] at this; exact this
          · exact absurd hb (by omega)
        · simp only [if_true]
          exact round_l1 cs hcs l more hm i hi R n (j + 1) out (by omega) (by omega) h
      · rw [addNew, if_neg e] at h
        refine Ev.bind (a := false) ?_ ?_
        · have := in_ev out (by omega) more[j]!.f0.f0 more[j]!.f0.f1 more[j]!.f1
          rw [decide_eq_false (p := (⟨⟨more[j]!.f0.f0, more[j]!.f0.f1⟩, more[j]!.f1⟩ : RPair) ∈ out) e] at this; exact this
        · simp only [Bool.false_eq_true, if_false]
          exact round_l1 cs hcs l more hm i hi R n (j + 1) (out ++ [more[j]!]) (by omega) (by simp; omega) h
theorem addAll_length : ∀ (more out : List RPair), (more.foldl addNew out).length ≤ out.length + more.length
  | [], out => by simp
  | a :: m, out => by
    rw [List.foldl_cons]; have := addAll_length m (addNew out a)
    have h2 : (addNew out a).length ≤ out.length + 1 := by
      unfold addNew
      split <;> simp
    simp only [List.length_cons]; omega
def roundL (cs : List Cred) (l : List RPair) : List RPair := cs.foldl (fun o c => (bringsL c l).foldl addNew o) l
theorem round_l0 (cs : List Cred) (hcs : cs.length ≤ 100) (l : List RPair) (hl : l.length ≤ 1000) : ∀ (n i : Nat) (out : List RPair), n + i = cs.length → out.length ≤ 1000 + i * 1000001 → Ev (fun k => Qaw.l0 k cs l out (i : Int)) ((cs.drop i).foldl (fun o c => (bringsL c l).foldl addNew o) out)
  | 0, i, out, hn, ho => by
    rw [show cs.drop i = [] from List.drop_eq_nil_of_le (by omega)]; refine Ev.step (fun k => ?_) (Ev.pure _); rw [Qaw.l0, if_neg (by omega)]; rfl
  | n + 1, i, out, hn, ho => by
    have hi : i < cs.length := by omega
    rw [drop_bang hi, List.foldl_cons]; have h1 := bringsL_length cs[i]! l hl; have h2 := addAll_length (bringsL cs[i]! l) out; refine Ev.step (g := fun k => (Qac.f k cs[i]!.f0.f0 cs[i]!.f0.f1 cs[i]!.f1 cs[i]!.f2 cs[i]!.f3 cs[i]!.f4.f0 cs[i]!.f4.f1 cs[i]!.f5.f0 cs[i]!.f5.f1 l).bind fun t => Qaw.l1 k cs l out (i : Int) t 0) (fun k => ?_) (Ev.bind (brings_ev cs[i]! l hl) (round_l1 cs (by omega) l _ h1 i hi _ (bringsL cs[i]! l).length 0 out (by omega) (by omega) ?_))
    · rw [Qaw.l0, if_pos (by omega), if_pos (by omega), rdCred]
    · rw [List.drop_zero]
      exact round_l0 cs hcs l hl n (i + 1) _ (by omega) (by omega)
theorem round_ev (cs : List Cred) (hcs : cs.length ≤ 100) (l : List RPair) (hl : l.length ≤ 1000) : Ev (fun k => Qaw.f k cs l) (roundL cs l) := by
  have := round_l0 cs hcs l hl cs.length 0 l (by omega) (by omega); rw [List.drop_zero] at this; refine Ev.congr (fun k => ?_) this; unfold Qaw.f; rw [if_pos (by simp; omega), List.nil_append]; rfl
def Ext (out res : List RPair) (M : RPair → Prop) : Prop := ∃ e, res = out ++ e ∧ e.Nodup ∧ (∀ x ∈ e, x ∉ out) ∧ ∀ x, x ∈ res ↔ x ∈ out ∨ M x
theorem ext_none (out : List RPair) {M : RPair → Prop} (h : ∀ x, M x → x ∈ out) : Ext out out M := ⟨[], by simp, List.nodup_nil, fun x hx => by (cases hx), fun x => ⟨.inl, fun h' => h'.elim id (h x)⟩⟩
theorem Ext.trans {a b c : List RPair} {M M' : RPair → Prop} (h : Ext a b M) (h' : Ext b c M') : Ext a c (fun x => M x ∨ M' x) := by
  obtain ⟨e, rfl, h1, h2, h3⟩ := h; obtain ⟨e', rfl, h4, h5, h6⟩ := h'; refine ⟨e ++ e', by rw [List.append_assoc], ?_, ?_, fun x => ?_⟩
  · rw [List.nodup_append]
    exact ⟨h1, h4, fun x hx y hy e => h5 y hy (List.mem_append_right _ (e ▸ hx))⟩
  · intro x hx
    rcases List.mem_append.mp hx with h | h
    · exact h2 x h
    · exact fun hxa => h5 x h (List.mem_append_left _ hxa)
  · rw [h6, h3]
    constructor
    · rintro ((h | h) | h)
      · exact .inl h
      · exact .inr (.inl h)
      · exact .inr (.inr h)
    · rintro (h | h | h)
      · exact .inl (.inl h)
      · exact .inl (.inr h)
      · exact .inr h
theorem Ext.imp {a b : List RPair} {M M' : RPair → Prop} (h : Ext a b M) (hM : ∀ x, M x ↔ M' x) : Ext a b M' := by
  obtain ⟨e, h0, h1, h2, h3⟩ := h; exact ⟨e, h0, h1, h2, fun x => (h3 x).trans ⟨fun h => h.imp id (hM x).mp, fun h => h.imp id (hM x).mpr⟩⟩
theorem addNew_ext (out : List RPair) (p : RPair) : Ext out (addNew out p) (fun x => x = p) := by
  unfold addNew
  by_cases h : p ∈ out
  · rw [if_pos h]
    exact ext_none out (fun x e => e ▸ h)
  · rw [if_neg h]
    exact ⟨[p], rfl, by simp, fun x hx => by rw [List.mem_singleton.mp hx]; exact h, fun x => by simp⟩
theorem addAll_ext : ∀ (more out : List RPair), Ext out (more.foldl addNew out) (fun x => x ∈ more)
  | [], out => ext_none out (fun x h => by cases h)
  | a :: m, out => by
    rw [List.foldl_cons]; exact ((addNew_ext out a).trans (addAll_ext m _)).imp (fun x => by rw [List.mem_cons])
theorem round_ext (l : List RPair) : ∀ (cs : List Cred) (out : List RPair), Ext out (cs.foldl (fun o c => (bringsL c l).foldl addNew o) out) (fun x => ∃ c ∈ cs, x ∈ bringsL c l)
  | [], out => ext_none out (fun x h => by obtain ⟨c, hc, _⟩ := h; cases hc)
  | c :: cs, out => by
    rw [List.foldl_cons]; refine ((addAll_ext (bringsL c l) out).trans (round_ext l cs _)).imp (fun x => ?_); constructor
    · rintro (h | ⟨c', hc', h⟩)
      · exact ⟨c, List.mem_cons_self .., h⟩
      · exact ⟨c', List.mem_cons_of_mem _ hc', h⟩
    · rintro ⟨c', hc', h⟩
      rcases List.mem_cons.mp hc' with e | e
      · exact .inl (e ▸ h)
      · exact .inr ⟨c', e, h⟩
theorem bringsL_mem (c : Cred) (l : List RPair) (x : RPair) : x ∈ bringsL c l ↔ x.f0 = credRole c ∧ ((c.f2 = 1 ∧ x.f1 = c.f3) ∨ (c.f2 = 2 ∧ (⟨c.f4, x.f1⟩ : RPair) ∈ l) ∨ (c.f2 = 3 ∧ ∃ u, (⟨linkFirst c, u⟩ : RPair) ∈ l ∧ numName u > 0 ∧ (⟨⟨u, c.f5.f1⟩, x.f1⟩ : RPair) ∈ l) ∨ (c.f2 = 4 ∧ (⟨c.f4, x.f1⟩ : RPair) ∈ l ∧ (⟨c.f5, x.f1⟩ : RPair) ∈ l)) := by
  unfold bringsL
  by_cases k1 : c.f2 = 1
  · rw [if_pos k1, List.mem_singleton]
    constructor
    · rintro rfl
      exact ⟨rfl, .inl ⟨k1, rfl⟩⟩
    · rintro ⟨h0, h⟩
      rcases h with h | h | h | h
      · exact rpair_ext h0 h.2
      · omega
      · omega
      · omega
  rw [if_neg k1, List.mem_flatMap]; unfold bringOne
  by_cases k2 : c.f2 = 2
  · simp only [if_pos k2]
    constructor
    · rintro ⟨p, hp, h⟩
      by_cases e : p.f0 = c.f4
      · rw [if_pos e, List.mem_singleton] at h
        subst h; exact ⟨rfl, .inr (.inl ⟨k2, by rw [← e]; exact hp⟩)⟩
      · rw [if_neg e] at h
        cases h
    · rintro ⟨h0, h⟩
      rcases h with h | h | h | h
      · omega
      · refine ⟨_, h.2, ?_⟩
        rw [if_pos rfl, List.mem_singleton]; exact rpair_ext h0 rfl
      · omega
      · omega
  simp only [if_neg k2]
  by_cases k4 : c.f2 = 4
  · simp only [if_pos k4]
    constructor
    · rintro ⟨p, hp, h⟩
      by_cases e : p.f0 = c.f4
      · rw [if_pos e] at h
        by_cases m : (⟨c.f5, p.f1⟩ : RPair) ∈ l
        · rw [if_pos m, List.mem_singleton] at h
          subst h; exact ⟨rfl, .inr (.inr (.inr ⟨k4, by rw [← e]; exact hp, m⟩))⟩
        · rw [if_neg m] at h
          cases h
      · rw [if_neg e] at h
        cases h
    · rintro ⟨h0, h⟩
      rcases h with h | h | h | h
      · omega
      · omega
      · omega
      · refine ⟨_, h.2.1, ?_⟩
        rw [if_pos rfl, if_pos h.2.2, List.mem_singleton]; exact rpair_ext h0 rfl
  simp only [if_neg k4]
  by_cases k3 : c.f2 = 3
  · simp only [if_pos k3]
    constructor
    · rintro ⟨p, hp, h⟩
      by_cases e : p.f0 = linkFirst c
      · rw [if_pos e] at h
        by_cases m : numName p.f1 > 0
        · rw [if_pos m, List.mem_map] at h
          obtain ⟨q, hq, rfl⟩ := h; rw [List.mem_filter, decide_eq_true_eq] at hq; exact ⟨rfl, .inr (.inr (.inl ⟨k3, p.f1, by rw [← e]; exact hp, m, by rw [← hq.2]; exact hq.1⟩))⟩
        · rw [if_neg m] at h
          cases h
      · rw [if_neg e] at h
        cases h
    · rintro ⟨h0, h⟩
      rcases h with h | h | h | h
      · omega
      · omega
      · obtain ⟨_, u, h1, h2, h3⟩ := h
        refine ⟨_, h1, ?_⟩; rw [if_pos rfl, if_pos h2, List.mem_map]; refine ⟨_, List.mem_filter.mpr ⟨h3, by simp⟩, rpair_ext h0.symm rfl⟩
      · omega
  simp only [if_neg k3]; constructor
  · rintro ⟨p, hp, h⟩
    cases h
  · rintro ⟨h0, h⟩
    omega
def SaidR (cs : List Cred) (p : RPair) : Prop := Said cs ⟨p.f0, p.f1⟩
theorem brings_said {cs : List Cred} {c : Cred} (hc : c ∈ cs) {l : List RPair} (hl : ∀ p ∈ l, SaidR cs p) {x : RPair} (hx : x ∈ bringsL c l) : SaidR cs x := by
  rw [bringsL_mem] at hx; obtain ⟨h0, h⟩ := hx; unfold SaidR; rw [h0]
  rcases h with h | h | h | h
  · rw [h.2]
    exact .member hc h.1
  · exact .incl hc h.1 (hl _ h.2)
  · obtain ⟨k, u, h1, h2, h3⟩ := h
    exact .link hc k (hl _ h1) h2 (hl _ h3)
  · exact .both hc h.1 (hl _ h.2.1) (hl _ h.2.2)
theorem closed_said {cs : List Cred} {l : List RPair} (h : ∀ c ∈ cs, ∀ x ∈ bringsL c l, x ∈ l) {p : Pair} (hp : Said cs p) : (⟨p.f0, p.f1⟩ : RPair) ∈ l := by
  induction hp with
  | @member c hc k => exact h c hc _ ((bringsL_mem c l _).mpr ⟨rfl, .inl ⟨k, rfl⟩⟩)
  | @incl c u hc k _ ih => exact h c hc _ ((bringsL_mem c l _).mpr ⟨rfl, .inr (.inl ⟨k, ih⟩)⟩)
  | @link c u v hc k _ n _ ih1 ih2 => exact h c hc _ ((bringsL_mem c l _).mpr ⟨rfl, .inr (.inr (.inl ⟨k, u, ih1, n, ih2⟩))⟩)
  | @both c u hc k _ _ ih1 ih2 => exact h c hc _ ((bringsL_mem c l _).mpr ⟨rfl, .inr (.inr (.inr ⟨k, ih1, ih2⟩))⟩)
theorem round_fix {cs : List Cred} {l : List RPair} (h : (roundL cs l).length = l.length) : roundL cs l = l ∧ ∀ c ∈ cs, ∀ x ∈ bringsL c l, x ∈ l := by
  obtain ⟨e, h0, h1, h2, h3⟩ := round_ext l cs l; have h0' : roundL cs l = l ++ e := h0; rw [h0', List.length_append] at h; have he : e = [] := List.eq_nil_of_length_eq_zero (by omega); rw [he, List.append_nil] at h0'; refine ⟨h0', fun c hc x hx => ?_⟩; have := (h3 x).mpr (.inr ⟨c, hc, hx⟩); have h4 : x ∈ roundL cs l := this; rw [h0'] at h4; exact h4
theorem saidR_400 {cs : List Cred} (hl : cs.length ≤ 20) {l : List RPair} (hn : l.Nodup) (h : ∀ p ∈ l, SaidR cs p) : l.length ≤ 400 := by
  have := said_400 hl (l := l.map fun p => (⟨p.f0, p.f1⟩ : Pair)) (by
    unfold List.Nodup; rw [List.pairwise_map]
    exact hn.imp fun {a b} hab e => hab (rpair_ext (congrArg S55.f0 e) (congrArg S55.f1 e))) (fun p hp => by
    obtain ⟨q, hq, rfl⟩ := List.mem_map.mp hp
    exact h q hq)
  simpa using this
def rLess (a b : RPair) : Bool := pairLess ⟨a.f0, a.f1⟩ ⟨b.f0, b.f1⟩
theorem rLess_irrefl (a : RPair) : rLess a a = false := by
  rw [Bool.eq_false_iff]; exact QbV _
theorem rLess_trans (a b c : RPair) (h : rLess a b = true) (h' : rLess b c = true) : rLess a c = true := Qce h h'
theorem rLess_total (a b : RPair) (h : a ≠ b) : rLess a b = true ∨ rLess b a = true := by
  by_cases h1 : rLess a b = true
  · exact .inl h1
  · by_cases h2 : rLess b a = true
    · exact .inr h2
    · have := Qcf h1 h2
      exact absurd (rpair_ext (congrArg S55.f0 this) (congrArg S55.f1 this)) h
theorem refLess_is (a b : RPair) : QbA.f a.f0.f0 a.f0.f1 a.f1 b.f0.f0 b.f0.f1 b.f1 = some (rLess a b) := by
  unfold QbA.f QbN.f rLess
  by_cases e0 : a.f0.f0 = b.f0.f0
  · rw [(Lib.bytes_beq_iff _ _).mpr e0, if_pos ((toList_iff _ _).mpr e0)]
    by_cases e1 : a.f0.f1 = b.f0.f1
    · rw [(Lib.bytes_beq_iff _ _).mpr e1, if_neg (by decide)]
      congr 1
      rw [Bool.eq_iff_iff, Qcm, roleLess_iff]
      show _ ↔ ((sLess a.f0.f0 b.f0.f0 = true ∨ (a.f0.f0 = b.f0.f0 ∧ sLess a.f0.f1 b.f0.f1 = true)) ∨ (a.f0 = b.f0 ∧ sLess a.f1 b.f1 = true))
      rw [e0, e1, Qck, Qck, show a.f0 = b.f0 from role_ext e0 e1]; simp [sLess]
    · have hb : (a.f0.f1.toList == b.f0.f1.toList) = false := by rw [beq_dec]; exact decide_eq_false e1
      rw [hb, if_pos (by rfl), Option.bind_some]
      congr 1
      rw [Bool.eq_iff_iff, Qcm, roleLess_iff]
      show _ ↔ ((sLess a.f0.f0 b.f0.f0 = true ∨ (a.f0.f0 = b.f0.f0 ∧ sLess a.f0.f1 b.f0.f1 = true)) ∨ (a.f0 = b.f0 ∧ sLess a.f1 b.f1 = true))
      have hne : a.f0 ≠ b.f0 := fun e => e1 (by rw [e])
      rw [e0, Qck]; simp [hne, sLess]
  · have hb : (a.f0.f0.toList == b.f0.f0.toList) = false := by rw [beq_dec]; exact decide_eq_false e0
    rw [hb, if_pos (by rfl), if_neg (fun h => e0 ((toList_iff _ _).mp h)), Option.bind_some]
    congr 1
    rw [Bool.eq_iff_iff, Qcm, roleLess_iff]
    show _ ↔ ((sLess a.f0.f0 b.f0.f0 = true ∨ (a.f0.f0 = b.f0.f0 ∧ sLess a.f0.f1 b.f0.f1 = true)) ∨ (a.f0 = b.f0 ∧ sLess a.f1 b.f1 = true))
    have hne : a.f0 ≠ b.f0 := fun e => e0 (by rw [e])
    simp [hne, e0, sLess]
theorem refAll_l2 (x : List RPair) (hx : x.length < 1000000) (out : List RPair) (ho : out.length < 1000000) (R : List RPair) : ∀ (n m i : Nat), n + i = x.length → m < x.length →
    Ev (fun k => Qal.l1 k (x.take (selLeast rLess x n m i) ++ x.drop (selLeast rLess x n m i + 1)) (out ++ [x[selLeast rLess x n m i]!])) R → Ev (fun k => Qal.l2 k x out (m : Int) (i : Int)) R
  | 0, m, i, hn, hm, h => by
    rw [selLeast] at h; refine Ev.step (fun k => ?_) h; rw [Qal.l2, if_neg (by omega), if_pos (by omega), if_pos (by omega), if_pos (by omega), if_pos (by omega), Option.bind_some, if_pos (by simp; omega), Option.bind_some, QbS (by omega), if_pos (by omega), if_pos (by omega), Option.bind_some, if_pos (by simp; omega), rdR]; rfl
  | n + 1, m, i, hn, hm, h => by
    rw [selLeast] at h
    have e : ∀ k, Qal.l2 (k + 1) x out (m : Int) (i : Int) = Qal.l2 k x out ((if rLess x[i]! x[m]! then i else m : Nat) : Int) ((i + 1 : Nat) : Int) := fun k => by
      rw [Qal.l2, if_pos (by omega), if_pos (by omega), if_pos (by omega), if_pos (by omega), rdR, rdR, refLess_is, Option.bind_some, QbS (by omega)]
      cases rLess x[i]! x[m]! <;> rfl
    exact Ev.step e (refAll_l2 x hx out ho R n _ (i + 1) (by omega) (by split <;> omega) h)
theorem refAll_l1 : ∀ (n : Nat) (x out : List RPair), x.length ≤ n → x.length + out.length < 1000000 → Ev (fun k => Qal.l1 k x out) (selSort rLess n x out)
  | 0, x, out, hn, hl => by
    rw [selSort]; refine Ev.step (fun k => ?_) (Ev.pure _); rw [Qal.l1, if_neg (by omega)]
  | n + 1, x, out, hn, hl => by
    rw [selSort]
    by_cases c : x.length > 0
    · rw [if_pos c]
      have hm := selLeast_lt rLess x (x.length - 1) 0 1 (by omega) c; refine Ev.step (fun k => ?_) (refAll_l2 x (by omega) out (by omega) _ (x.length - 1) 0 1 (by omega) c (refAll_l1 n _ _ ?_ ?_))
      · rw [Qal.l1, if_pos (by omega)]
        rfl
      · simp
        omega
      · simp
        omega
    · rw [if_neg c]
      refine Ev.step (fun k => ?_) (Ev.pure _); rw [Qal.l1, if_neg (by omega)]
theorem refAll_l0 {cs : List Cred} (hcs : cs.length ≤ 20) : ∀ (n : Nat) (now : List RPair), now.Nodup → (∀ p ∈ now, SaidR cs p) → 401 - now.length ≤ n → ∃ fin : List RPair, fin.Nodup ∧ (∀ p, p ∈ fin ↔ SaidR cs p) ∧ Ev (fun k => Qal.l0 k cs now) (selSort rLess fin.length fin [])
  | 0, now, hn, hs, h => by
    have := saidR_400 hcs hn hs; omega
  | n + 1, now, hn, hs, h => by
    have h400 := saidR_400 hcs hn hs; have hr := round_ev cs (by omega) now (by omega)
    by_cases e : (roundL cs now).length = now.length
    · have hf := round_fix e
      refine ⟨now, hn, fun p => ⟨hs p, fun hp => closed_said hf.2 hp⟩, ?_⟩; refine Ev.step (g := fun k => (Qaw.f k cs now).bind fun t => if (t.length : Int) = (now.length : Int) then Qal.l1 k now [] else Qal.l0 k cs t) (fun k => by rw [Qal.l0]) (Ev.bind hr ?_); simp only [if_pos (show ((roundL cs now).length : Int) = (now.length : Int) by omega)]; exact refAll_l1 now.length now [] (Nat.le_refl _) (by simp; omega)
    · obtain ⟨ex, h0, h1, h2, h3⟩ := round_ext now cs now
      have h0' : roundL cs now = now ++ ex := h0
      have hs' : ∀ p ∈ roundL cs now, SaidR cs p := fun p hp => by
        rcases (h3 p).mp hp with hp | ⟨c, hc, hp⟩
        · exact hs p hp
        · exact brings_said hc hs hp
      have hn' : (roundL cs now).Nodup := by
        rw [h0', List.nodup_append]; exact ⟨hn, h1, fun a ha b hb e => h2 b hb (e ▸ ha)⟩
      have hlt : now.length < (roundL cs now).length := by
        rw [h0', List.length_append] at e ⊢; omega
      obtain ⟨fin, f1, f2, f3⟩ := refAll_l0 hcs n (roundL cs now) hn' hs' (by omega); refine ⟨fin, f1, f2, ?_⟩; refine Ev.step (g := fun k => (Qaw.f k cs now).bind fun t => if (t.length : Int) = (now.length : Int) then Qal.l1 k now [] else Qal.l0 k cs t) (fun k => by rw [Qal.l0]) (Ev.bind hr ?_); simp only [if_neg (show ¬ ((roundL cs now).length : Int) = (now.length : Int) by omega)]; exact f3
def toR (p : Pair) : RPair := ⟨p.f0, p.f1⟩
theorem refAll_ev {cs : List Cred} (hl : cs.length ≤ 20) {A : List Pair} (hA : AllOf cs A) : Ev (fun k => Qal.l0 k cs []) (A.map toR) := by
  obtain ⟨fin, f1, f2, f3⟩ := refAll_l0 hl 401 [] List.nodup_nil (fun p hp => by cases hp) (by simp)
  obtain ⟨s1, s2⟩ := selSort_spec rLess rLess_irrefl rLess_trans fin.length fin [] (Nat.le_refl _) (by
    rw [List.nil_append]
    exact f1.imp fun {a b} hab => rLess_total a b hab) List.Pairwise.nil (fun a ha => by cases ha)
  have e : selSort rLess fin.length fin [] = A.map toR := by
    refine sorted_eq (R := fun a b => rLess a b = true) (fun x h => by rw [rLess_irrefl] at h; cases h) rLess_trans s1 ?_ (fun x => ?_)
    · rw [List.pairwise_map]
      exact hA.sorted
    · rw [s2, List.mem_map]
      simp only [List.not_mem_nil, false_or]; rw [f2]; unfold SaidR; constructor
      · intro h
        exact ⟨_, (hA.mem _).mpr h, rfl⟩
      · rintro ⟨p, hp, rfl⟩
        exact (hA.mem p).mp hp
  rw [← e]; exact f3
theorem refAll_is (l : List Cred) (hl : l.length ≤ 20) {A : List Pair} (hA : AllOf (counts l) A) : Ev (fun k => Qal.f k l) (A.map toR) := by
  unfold Qal.f; have := Qb5 l; exact Ev.bind (refCounts_is l (by omega)) (refAll_ev (by omega) hA)
def ofR (p : RPair) : Pair := ⟨p.f0, p.f1⟩
theorem toR_inj {p q : Pair} (h : toR p = toR q) : p = q := congrArg ofR h
theorem brings_way (c : Cred) (l : List RPair) (p : Pair) : toR p ∈ bringsL c l ↔ ∃ L, Way c p L ∧ ∀ q ∈ L, toR q ∈ l := by
  rw [bringsL_mem]
  show p.f0 = credRole c ∧ ((c.f2 = 1 ∧ p.f1 = c.f3) ∨ (c.f2 = 2 ∧ toR ⟨c.f4, p.f1⟩ ∈ l) ∨ (c.f2 = 3 ∧ ∃ u, toR ⟨linkFirst c, u⟩ ∈ l ∧ numName u > 0 ∧ toR ⟨⟨u, c.f5.f1⟩, p.f1⟩ ∈ l) ∨ (c.f2 = 4 ∧ toR ⟨c.f4, p.f1⟩ ∈ l ∧ toR ⟨c.f5, p.f1⟩ ∈ l)) ↔ _
  constructor
  · rintro ⟨h0, h⟩
    rcases h with ⟨k, h⟩ | ⟨k, h⟩ | ⟨k, u, h1, h2, h3⟩ | ⟨k, h1, h2⟩
    · exact ⟨[], .member h0.symm k h.symm, fun q hq => by cases hq⟩
    · refine ⟨_, .incl h0.symm k, fun q hq => ?_⟩
      rw [List.mem_singleton] at hq; rw [hq]; exact h
    · rcases Qcn u with ⟨d, d1, d2, d3, _⟩ | ⟨_, h4⟩
      · subst d3
        refine ⟨_, .link d h0.symm k d1 d2, fun q hq => ?_⟩
        rcases List.mem_cons.mp hq with rfl | hq
        · exact h1
        · rw [List.mem_singleton] at hq
          rw [hq]; exact h3
      · omega
    · refine ⟨_, .both h0.symm k, fun q hq => ?_⟩
      rcases List.mem_cons.mp hq with rfl | hq
      · exact h1
      · rw [List.mem_singleton] at hq
        rw [hq]; exact h2
  · rintro ⟨L, hw, hL⟩
    refine ⟨hw.role.symm, ?_⟩
    cases hw with
    | member _ k e => exact .inl ⟨k, e.symm⟩
    | incl _ k => exact .inr (.inl ⟨k, hL _ (List.mem_cons_self ..)⟩)
    | link d _ k d1 d2 => exact .inr (.inr (.inl ⟨k, domName d, hL _ (List.mem_cons_self ..), numName_dom d1 d2, hL _ (.tail _ (.head _))⟩))
    | both _ k => exact .inr (.inr (.inr ⟨k, hL _ (List.mem_cons_self ..), hL _ (.tail _ (.head _))⟩))
def nowL (cs : List Cred) : Nat → List RPair
  | 0 => []
  | n + 1 => roundL cs (nowL cs n)
theorem nowL_mem (cs : List Cred) : ∀ (n : Nat) (p : Pair), toR p ∈ nowL cs n ↔ KK cs n p
  | 0, p => ⟨(fun h => by cases h), fun h => h.elim⟩
  | n + 1, p => by
    obtain ⟨e, h0, h1, h2, h3⟩ := round_ext (nowL cs n) cs (nowL cs n); have h3' : toR p ∈ roundL cs (nowL cs n) ↔ toR p ∈ nowL cs n ∨ ∃ c ∈ cs, toR p ∈ bringsL c (nowL cs n) := h3 _
    show toR p ∈ roundL cs (nowL cs n) ↔ _
    rw [h3', nowL_mem cs n p]; constructor
    · rintro (h | ⟨c, hc, h⟩)
      · exact h.succ
      · obtain ⟨L, hw, hL⟩ := (brings_way c _ p).mp h
        exact ⟨c, hc, L, hw, fun q hq => (nowL_mem cs n q).mp (hL q hq)⟩
    · rintro ⟨c, hc, L, hw, hL⟩
      exact .inr ⟨c, hc, (brings_way c _ p).mpr ⟨L, hw, fun q hq => (nowL_mem cs n q).mpr (hL q hq)⟩⟩
theorem nowL_nodup (cs : List Cred) : ∀ n, (nowL cs n).Nodup
  | 0 => List.nodup_nil
  | n + 1 => by
    obtain ⟨e, h0, h1, h2, h3⟩ := round_ext (nowL cs n) cs (nowL cs n); have h0' : roundL cs (nowL cs n) = nowL cs n ++ e := h0
    show (roundL cs (nowL cs n)).Nodup
    rw [h0', List.nodup_append]; exact ⟨nowL_nodup cs n, h1, fun a ha b hb e => h2 b hb (e ▸ ha)⟩
theorem nowL_length {cs : List Cred} (hl : cs.length ≤ 20) (n : Nat) : (nowL cs n).length ≤ 400 :=
  saidR_400 hl (nowL_nodup cs n) fun p hp => ((nowL_mem cs n (ofR p)).mp hp).said
theorem nowL_fix {cs : List Cred} {n : Nat} (h : (nowL cs (n + 1)).length = (nowL cs n).length) {p : Pair} (hp : Said cs p) : KK cs n p :=
  KK.fix (fun q hq => by
    have := (round_fix (cs := cs) (l := nowL cs n) h).1
    exact (nowL_mem cs n q).mp (this ▸ (nowL_mem cs (n + 1) q).mpr hq)) hp
theorem RndOf.kk_iff {cs : List Cred} {T : List (Pair × Int)} (h : RndOf cs T) {j : Nat} {p : Pair} : KK cs j p ↔ 0 < rnd T p ∧ rnd T p ≤ j := ⟨h.least, fun ⟨a, b⟩ => h.kkOf a b⟩
theorem RndOf.now {cs : List Cred} {T : List (Pair × Int)} (h : RndOf cs T) {j : Nat} {p : Pair} : toR p ∈ nowL cs j ↔ 0 < rnd T p ∧ rnd T p ≤ j := (nowL_mem cs j p).trans h.kk_iff
theorem evDomain (n : Int) : Ev (fun k => QaR.f k n) (domName n) := .from 1 fun k hk => by
  obtain ⟨j, rfl⟩ : ∃ j, k = j + 1 := ⟨k - 1, by omega⟩
  exact Qcl n j
theorem evRole (c : Cred) : Ev (fun k => QaW.f k c.f0.f0 c.f0.f1 c.f1 c.f2 c.f3 c.f4.f0 c.f4.f1 c.f5.f0 c.f5.f1) ((credRole c).f0, (credRole c).f1) := .from 1 fun k hk => by
  obtain ⟨j, rfl⟩ : ∃ j, k = j + 1 := ⟨k - 1, by omega⟩
  unfold QaW.f; rw [Qcl]; rfl
theorem evFirst (c : Cred) : Ev (fun k => QaQ.f k c.f0.f0 c.f0.f1 c.f1 c.f2 c.f3 c.f4.f0 c.f4.f1 c.f5.f0 c.f5.f1) ((linkFirst c).f0, (linkFirst c).f1) := .from 1 fun k hk => by
  obtain ⟨j, rfl⟩ : ∃ j, k = j + 1 := ⟨k - 1, by omega⟩
  unfold QaQ.f; rw [Qcl]; rfl
theorem evIn {l : List RPair} (hl : l.length ≤ 400) (p : Pair) : Ev (fun k => Qau.f k l p.f0.f0 p.f0.f1 p.f1) (decide (toR p ∈ l)) := in_ev l (by omega) p.f0.f0 p.f0.f1 p.f1
def Lesser (T : List (Pair × Int)) (n : Int) (less : List RPair) : Prop := ∀ q, toR q ∈ less ↔ inB T n q
theorem below_less {T : List (Pair × Int)} {n : Int} {less : List RPair} (h : Lesser T n less) {q : Pair} (hq : okPair q) : belowF T q n = some (decide (toR q ∈ less)) := by
  unfold belowF; rw [if_pos hq]
  congr 1
  rw [Bool.eq_iff_iff, Bool.and_eq_true, decide_eq_true_eq, decide_eq_true_eq, decide_eq_true_eq]; exact (h q).symm
abbrev whyAt (c : Cred) (p : Pair) (less : List RPair) (k : Nat) : Option (List RPair × Bool) := QaA.f k c.f0.f0 c.f0.f1 c.f1 c.f2 c.f3 c.f4.f0 c.f4.f1 c.f5.f0 c.f5.f1 p.f0.f0 p.f0.f1 p.f1 less
theorem why_link {T : List (Pair × Int)} {n : Int} {less : List RPair} (hl : less.length ≤ 400) (h : Lesser T n less) (c : Cred) (p : Pair) (h1 : small c.f4.f1) (h2 : small c.f5.f1) (hw : p.f1.size ≤ maxLen) : ∀ (m : Nat) (d : Int), 1 ≤ d → d + m = 17 →
    ∃ r, finLinkL T (linkFirst c) c p n m d = some r ∧ Ev (fun k => QaA.l0 k less d c.f0.f0 c.f0.f1 c.f1 c.f2 c.f3 c.f4.f0 c.f4.f1 c.f5.f0 c.f5.f1 p.f0.f0 p.f0.f1 p.f1) (r.1.map toR, r.2)
  | 0, d, hd, hm => by
    refine ⟨_, rfl, Ev.step (fun k => ?_) (Ev.pure _)⟩; rw [QaA.l0, if_neg (by omega)]; rfl
  | m + 1, d, hd, hm => by
    have b1 := below_less h (ok_small (r := linkFirst c) (w := domName d) ⟨QbC _, h1⟩ (QbU (QbC d))); have b2 := below_less h (ok_small (r := ⟨domName d, c.f5.f1⟩) (w := p.f1) ⟨QbC _, h2⟩ hw); have i1 := evIn hl ⟨linkFirst c, domName d⟩; have i2 := evIn hl ⟨⟨domName d, c.f5.f1⟩, p.f1⟩; obtain ⟨r, g1, g2⟩ := why_link hl h c p h1 h2 hw m (d + 1) (by omega) (by omega)
    have hwr : wrap64 (d + 1) = d + 1 := by unfold wrap64; omega
    rw [finLinkL, b1, Option.bind_some]
    have next : ∀ (v : List RPair × Bool), Ev (fun k => if decide (toR ⟨linkFirst c, domName d⟩ ∈ less) = true then (if decide (toR ⟨⟨domName d, c.f5.f1⟩, p.f1⟩ ∈ less) = true then (some ([toR ⟨linkFirst c, domName d⟩, toR ⟨⟨domName d, c.f5.f1⟩, p.f1⟩], true)) else (QaA.l0 k less (wrap64 (d + 1)) c.f0.f0 c.f0.f1 c.f1 c.f2 c.f3 c.f4.f0 c.f4.f1 c.f5.f0 c.f5.f1 p.f0.f0 p.f0.f1 p.f1)) else (QaA.l0 k less (wrap64 (d + 1)) c.f0.f0 c.f0.f1 c.f1 c.f2 c.f3 c.f4.f0 c.f4.f1 c.f5.f0 c.f5.f1 p.f0.f0 p.f0.f1 p.f1)) v → Ev (fun k => QaA.l0 k less d c.f0.f0 c.f0.f1 c.f1 c.f2 c.f3 c.f4.f0 c.f4.f1 c.f5.f0 c.f5.f1 p.f0.f0 p.f0.f1 p.f1) v := fun v hv => by
      refine Ev.step (fun k => by rw [QaA.l0, if_pos (show d ≤ 16 by omega)]) ?_; exact Ev.bind (evDomain d) (Ev.bind (evFirst c) (Ev.bind i1 (Ev.bind i2 hv)))
    by_cases e1 : toR ⟨linkFirst c, domName d⟩ ∈ less
    · rw [decide_eq_true e1, if_pos rfl, b2, Option.bind_some]
      by_cases e2 : toR ⟨⟨domName d, c.f5.f1⟩, p.f1⟩ ∈ less
      · rw [decide_eq_true e2, if_pos rfl]
        refine ⟨_, rfl, next _ ?_⟩; simp only [decide_eq_true e1, decide_eq_true e2, if_true]; exact Ev.pure _
      · rw [decide_eq_false e2, if_neg (by decide)]
        refine ⟨r, g1, next _ ?_⟩; simp only [decide_eq_true e1, decide_eq_false e2, if_true, Bool.false_eq_true, if_false, hwr]; exact g2
    · rw [decide_eq_false e1, if_neg (by decide), Option.bind_some, if_neg (by decide)]
      refine ⟨r, g1, next _ ?_⟩; simp only [decide_eq_false e1, Bool.false_eq_true, if_false, hwr]; exact g2
theorem why_ev {T : List (Pair × Int)} {n : Int} {less : List RPair} (hl : less.length ≤ 400) (h : Lesser T n less) {c : Cred} (hm : credMay c = true) {p : Pair} (hr : credRole c = p.f0) (hw : p.f1.size ≤ maxLen) :
    ∃ r, finTry T c p n = some r ∧ Ev (whyAt c p less) (r.1.map toR, r.2) := by
  obtain ⟨_, _, hk⟩ := QbE hm
  have ek : (!((credRole c).f0.toList == p.f0.f0.toList) || (!((credRole c).f1.toList == p.f0.f1.toList))) = false := by rw [hr]; simp
  have go : ∀ v : List RPair × Bool, Ev (fun k => if c.f2 = 1 then (some (([] : List RPair), (c.f3.toList == p.f1.toList))) else (if c.f2 = 2 then (QaA.j0 k less true c.f0.f0 c.f0.f1 c.f1 c.f2 c.f3 c.f4.f0 c.f4.f1 c.f5.f0 c.f5.f1 p.f0.f0 p.f0.f1 p.f1) else (QaA.j0 k less (c.f2 == 4) c.f0.f0 c.f0.f1 c.f1 c.f2 c.f3 c.f4.f0 c.f4.f1 c.f5.f0 c.f5.f1 p.f0.f0 p.f0.f1 p.f1))) v → Ev (whyAt c p less) v := fun v hv => by
    refine Ev.bind (evRole c) ?_; simp only [ek, Bool.false_eq_true, if_false]; exact hv
  unfold finTry
  rcases hk with ⟨k, _⟩ | ⟨k, hs⟩ | ⟨k, h1, h2⟩ | ⟨k, h1, h2⟩
  · rw [if_neg (by omega), if_neg (by omega), if_neg (by omega)]
    refine ⟨_, rfl, go _ ?_⟩; simp only [if_pos k, beq_dec]; exact Ev.pure _
  · have b := below_less h (ok_small (r := c.f4) hs hw)
    rw [if_pos k]; refine ⟨_, by unfold finInclude; rw [b]; rfl, go _ ?_⟩; simp only [if_neg (show ¬ c.f2 = 1 by omega), if_pos k]; refine Ev.step (fun k => by rw [QaA.j0, if_pos rfl]) ?_; refine Ev.bind (evIn hl ⟨c.f4, p.f1⟩) ?_; simp only [if_pos k]; exact Ev.pure _
  · rw [if_neg (by omega), if_pos k]
    obtain ⟨r, g1, g2⟩ := why_link hl h c p h1 h2 hw 16 1 (by omega) (by omega); refine ⟨r, g1, go _ ?_⟩; simp only [if_neg (show ¬ c.f2 = 1 by omega), if_neg (show ¬ c.f2 = 2 by omega), show (c.f2 == 4) = false by rw [k]; decide]; refine Ev.step (fun k => ?_) g2; rw [QaA.j0, if_neg (by decide)]
  · have b1 := below_less h (ok_small (r := c.f4) h1 hw)
    have b2 := below_less h (ok_small (r := c.f5) h2 hw); rw [if_neg (by omega), if_neg (by omega), if_pos k]; unfold finBoth; rw [b1, Option.bind_some]
    have next : ∀ v : List RPair × Bool, v = ([toR ⟨c.f4, p.f1⟩, toR ⟨c.f5, p.f1⟩], decide (toR ⟨c.f4, p.f1⟩ ∈ less) && decide (toR ⟨c.f5, p.f1⟩ ∈ less)) → Ev (whyAt c p less) v := fun v hv => by
      refine go _ ?_; simp only [if_neg (show ¬ c.f2 = 1 by omega), if_neg (show ¬ c.f2 = 2 by omega), show (c.f2 == 4) = true by rw [k]; decide]; refine Ev.step (fun k => by rw [QaA.j0, if_pos rfl]) ?_; refine Ev.bind (evIn hl ⟨c.f4, p.f1⟩) ?_; simp only [if_neg (show ¬ c.f2 = 2 by omega)]; refine Ev.bind (evIn hl ⟨c.f5, p.f1⟩) ?_; rw [hv]; cases decide (toR ⟨c.f4, p.f1⟩ ∈ less)
      · exact Ev.pure _
      · exact Ev.pure _
    by_cases e1 : toR ⟨c.f4, p.f1⟩ ∈ less
    · rw [decide_eq_true e1, if_pos rfl, b2]
      refine ⟨_, rfl, next _ ?_⟩; rw [decide_eq_true e1, Bool.true_and]; rfl
    · rw [decide_eq_false e1, if_neg (by decide)]
      refine ⟨_, rfl, next _ ?_⟩; rw [decide_eq_false e1, Bool.false_and]; rfl
theorem why_no {c : Cred} {p : Pair} {less : List RPair} (hr : ¬ credRole c = p.f0) : Ev (whyAt c p less) (([] : List RPair), false) := by
  refine Ev.bind (evRole c) ?_
  have ek : (!((credRole c).f0.toList == p.f0.f0.toList) || (!((credRole c).f1.toList == p.f0.f1.toList))) = true := by
    rw [beq_dec, beq_dec]
    by_cases e0 : (credRole c).f0 = p.f0.f0
    · have e1 : ¬ (credRole c).f1 = p.f0.f1 := fun e1 => hr (role_ext e0 e1)
      rw [decide_eq_false e1, decide_eq_true e0]; rfl
    · rw [decide_eq_false e0]
      rfl
  simp only [ek, if_true]; exact Ev.pure _
theorem rdC (l : List Cred) (i : Nat) (h : i < l.length) : Qah l (i : Int) = l[i] := by
  unfold Qah; rw [Int.toNat_natCast, List.getD_eq_getElem?_getD, List.getElem?_eq_getElem h]; rfl
theorem first_l1 {T : List (Pair × Int)} {n : Int} {less : List RPair} (hl : less.length ≤ 400) (h : Lesser T n less) (p : Pair) (hw : p.f1.size ≤ maxLen) (cs : List Cred) (hcs : cs.length ≤ 1000) (hm : Mays cs) : ∀ (m i : Nat), m + i = cs.length →
    ∃ rr, finBy T (cs.drop i) p n = some rr ∧ (∀ c L, rr = some (c, L) → Ev (fun k => Qan.l1 k cs less (i : Int) p.f0.f0 p.f0.f1 p.f1) (c.f0.f0, c.f0.f1, L.map toR))
  | 0, i, hi => by
    rw [List.drop_eq_nil_of_le (by omega)]; exact ⟨none, rfl, fun c L h => by cases h⟩
  | m + 1, i, hi => by
    have hi' : i < cs.length := by omega
    obtain ⟨rr, h1, h2⟩ := first_l1 hl h p hw cs hcs hm m (i + 1) (by omega); have hd : cs.drop i = cs[i] :: cs.drop (i + 1) := List.drop_eq_getElem_cons hi'; rw [hd, finBy]
    have next : ∀ (r : List RPair × Bool) (v : Int × Int × List RPair), Ev (whyAt cs[i] p less) r → Ev (fun k => if r.2 = true then (some (cs[i].f0.f0, cs[i].f0.f1, r.1)) else Qan.l1 k cs less ((i + 1 : Nat) : Int) p.f0.f0 p.f0.f1 p.f1) v → Ev (fun k => Qan.l1 k cs less (i : Int) p.f0.f0 p.f0.f1 p.f1) v := fun r v hr hv => by
      refine Ev.step (fun k => by rw [Qan.l1, if_pos (by omega), if_pos (by omega), rdC cs i hi', wrapN (by omega)]) (Ev.bind hr hv)
    by_cases hr : credRole cs[i] = p.f0
    · rw [if_pos hr]
      obtain ⟨r, g1, g2⟩ := why_ev hl h (hm _ (List.getElem_mem hi')) hr hw; rw [g1, Option.bind_some]
      by_cases e : r.2 = true
      · rw [if_pos e]
        refine ⟨_, rfl, fun c L hcL => next _ _ g2 ?_⟩; obtain ⟨rfl, rfl⟩ := Prod.mk.inj (Option.some.inj hcL); simp only [e, if_true]; exact Ev.pure _
      · rw [if_neg e]
        refine ⟨rr, h1, fun c L hcL => next _ _ g2 ?_⟩; simp only [e]; exact h2 c L hcL
    · rw [if_neg hr]
      refine ⟨rr, h1, fun c L hcL => next _ _ (why_no hr) ?_⟩; simp only [Bool.false_eq_true, if_false]; exact h2 c L hcL
theorem RndOf.lesser {cs : List Cred} {T : List (Pair × Int)} (h : RndOf cs T) (j : Nat) : Lesser T ((j : Int) + 1) (nowL cs j) := fun q => by
  rw [h.now]; unfold inB; omega
theorem round_evL {cs : List Cred} (hcs : cs.length ≤ 20) (j : Nat) : Ev (fun k => Qaw.f k cs (nowL cs j)) (nowL cs (j + 1)) := by
  have := nowL_length hcs j; exact round_ev cs (by omega) _ (by omega)
theorem first_j1 {cs : List Cred} (hcs : cs.length ≤ 20) (hm : Mays cs) {T : List (Pair × Int)} (h : RndOf cs T) {p : Pair} (h0 : 0 < rnd T p) {j : Nat} (hj : rnd T p = (j : Int) + 1) : Ev (fun k => Qan.j1 k cs (nowL cs j) p.f0.f0 p.f0.f1 p.f1) ((byC T cs p).f0.f0, (byC T cs p).f0.f1, (byL T cs p).map toR) := by
  have b := by_of hm h h0; obtain ⟨rr, h1, h2⟩ := first_l1 (nowL_length hcs j) (h.lesser j) p b.ok.2.2 cs (by omega) hm cs.length 0 (by omega); rw [List.drop_zero, ← hj, b.fin] at h1; exact Ev.step (fun k => by rw [Qan.j1]; rfl) (h2 _ _ (Option.some.inj h1).symm)
theorem first_l0 {cs : List Cred} (hcs : cs.length ≤ 20) (hm : Mays cs) {T : List (Pair × Int)} (h : RndOf cs T) {p : Pair} (h0 : 0 < rnd T p) {j : Nat} (hj : rnd T p = (j : Int) + 1) : ∀ (m i : Nat), m + i = j → Ev (fun k => Qan.l0 k cs (nowL cs i) p.f0.f0 p.f0.f1 p.f1) ((byC T cs p).f0.f0, (byC T cs p).f0.f1, (byL T cs p).map toR)
  | 0, i, hi => by
    obtain rfl : i = j := by omega
    refine Ev.step (fun k => by rw [Qan.l0]) (Ev.bind (round_evL hcs i) (Ev.bind (evIn (nowL_length hcs _) p) ?_)); simp only [decide_eq_true (show toR p ∈ nowL cs (i + 1) from h.now.mpr ⟨h0, by omega⟩), if_true]; exact first_j1 hcs hm h h0 hj
  | m + 1, i, hi => by
    have hn : ¬ toR p ∈ nowL cs (i + 1) := fun hh => by
      have := h.now.mp hh; omega
    have hlen : ¬ ((nowL cs (i + 1)).length : Int) = ((nowL cs i).length : Int) := fun e => by
      have := nowL_fix (n := i) (cs := cs) (by omega) (h.said.mp h0); have := h.least this; omega
    refine Ev.step (fun k => by rw [Qan.l0]) (Ev.bind (round_evL hcs i) (Ev.bind (evIn (nowL_length hcs _) p) ?_)); simp only [decide_eq_false hn, Bool.false_eq_true, if_false, if_neg hlen]; exact first_l0 hcs hm h h0 hj m (i + 1) (by omega)
theorem first_ev {cs : List Cred} (hcs : cs.length ≤ 20) (hm : Mays cs) {T : List (Pair × Int)} (h : RndOf cs T) {p : Pair} (h0 : 0 < rnd T p) : Ev (fun k => Qan.f k cs p.f0.f0 p.f0.f1 p.f1) ((byC T cs p).f0.f0, (byC T cs p).f0.f1, (byL T cs p).map toR) :=
  first_l0 hcs hm h h0 (j := (rnd T p).toNat - 1) (by omega) _ 0 rfl
theorem round_l0R {cs : List Cred} (hcs : cs.length ≤ 20) {T : List (Pair × Int)} (h : RndOf cs T) {p : Pair} (h0 : 0 < rnd T p) (hj : rnd T p ≤ 400) : ∀ (m i : Nat), m + i + 1 = (rnd T p).toNat → Ev (fun k => QaF.l0 k cs (nowL cs i) ((i : Int) + 1) p.f0.f0 p.f0.f1 p.f1) (rnd T p)
  | 0, i, hi => by
    refine Ev.step (fun k => by rw [QaF.l0]) (Ev.bind (round_evL hcs i) (Ev.bind (evIn (nowL_length hcs _) p) ?_)); simp only [decide_eq_true (show toR p ∈ nowL cs (i + 1) from h.now.mpr ⟨h0, by omega⟩), if_true]; rw [show rnd T p = (i : Int) + 1 by omega]; exact Ev.pure _
  | m + 1, i, hi => by
    have hn : ¬ toR p ∈ nowL cs (i + 1) := fun hh => by
      have := h.now.mp hh; omega
    have hwr : wrap64 ((i : Int) + 1 + 1) = ((i + 1 : Nat) : Int) + 1 := by unfold wrap64; omega
    refine Ev.step (fun k => by rw [QaF.l0]) (Ev.bind (round_evL hcs i) (Ev.bind (evIn (nowL_length hcs _) p) ?_)); simp only [decide_eq_false hn, Bool.false_eq_true, if_false, hwr]; exact round_l0R hcs h h0 hj m (i + 1) (by omega)
theorem evInAll {A : List Pair} (hA : A.length ≤ 400) (p : Pair) : Ev (fun k => Qau.f k (A.map toR) p.f0.f0 p.f0.f1 p.f1) (decide (p ∈ A)) := by
  have := evIn (l := A.map toR) (by rw [List.length_map]; exact hA) p
  rw [show decide (toR p ∈ A.map toR) = decide (p ∈ A) by
    rw [Bool.eq_iff_iff, decide_eq_true_eq, decide_eq_true_eq, List.mem_map]
    exact ⟨fun ⟨q, hq, e⟩ => toR_inj e ▸ hq, fun h => ⟨p, h, rfl⟩⟩] at this
  exact this
theorem refRound_ev {l : List Cred} (hl : l.length ≤ 20) {A : List Pair} (hA : AllOf (counts l) A) {T : List (Pair × Int)} (h : RndOf (counts l) T) (hr : ∀ p, rnd T p ≤ 400) (p : Pair) : Ev (fun k => QaF.f k l p.f1 p.f0.f0 p.f0.f1) (rnd T p) := by
  have hc := Qb5 l; have hAl := hA.length (by omega); unfold QaF.f; refine Ev.bind (refCounts_is l (by omega)) (Ev.bind (refAll_is l hl hA) (Ev.bind (evInAll hAl p) ?_))
  by_cases h0 : 0 < rnd T p
  · simp only [decide_eq_true ((hA.mem p).mpr (h.said.mp h0)), if_true]
    exact round_l0R (by omega) h h0 (hr p) ((rnd T p).toNat - 1) 0 (by omega)
  · have hn := h.nn p
    simp only [decide_eq_false (fun hh => h0 (h.said.mpr ((hA.mem p).mp hh))), Bool.false_eq_true, if_false]; rw [show rnd T p = 0 by omega]; exact Ev.pure _
theorem proof_l0 {cs : List Cred} {T : List (Pair × Int)} (n : Nat) (p : Pair) (L : List Pair) (hL : L.length ≤ 2) (ih : ∀ q ∈ L, Ev (fun k => QaE.f k cs q.f0.f0 q.f0.f1 q.f1) (q.f0.f0, q.f0.f1, q.f1, (pf T cs n q).f2.f0, (pf T cs n q).f2.f1, (pf T cs n q).f3)) (i0 i1 : Int) : ∀ (m i : Nat) (acc : List Proof), m + i = L.length → acc.length ≤ i →
    Ev (fun k => QaE.l0 k cs (L.map toR) (i : Int) p.f0.f0 p.f0.f1 p.f1 i0 i1 acc) (p.f0.f0, p.f0.f1, p.f1, i0, i1, acc ++ (L.drop i).map (pf T cs n))
  | 0, i, acc, hi, ha => by
    rw [List.drop_eq_nil_of_le (by omega), List.map_nil, List.append_nil]; refine Ev.step (fun k => ?_) (Ev.pure _); rw [QaE.l0, if_neg (by rw [List.length_map]; omega)]
  | m + 1, i, acc, hi, ha => by
    have hi' : i < L.length := by omega
    have hd : L.drop i = L[i] :: L.drop (i + 1) := List.drop_eq_getElem_cons hi'
    have hrd : Qaq (L.map toR) (i : Int) = toR L[i] := by
      unfold Qaq; rw [Int.toNat_natCast, List.getD_eq_getElem?_getD, List.getElem?_map, List.getElem?_eq_getElem hi']; rfl
    rw [hd, List.map_cons]; have := proof_l0 n p L hL ih i0 i1 m (i + 1) (acc ++ [pf T cs n L[i]]) (by omega) (by simp; omega); rw [List.append_assoc, List.singleton_append] at this; refine Ev.step (fun k => by rw [QaE.l0, if_pos (by rw [List.length_map]; omega), if_pos (by omega), hrd, wrapN (by omega)]; rfl) (Ev.bind (ih L[i] (List.getElem_mem hi')) ?_); simp only [if_pos (show acc.length < 1599289640401 by omega)]
    have e : (⟨⟨L[i].f0.f0, L[i].f0.f1⟩, L[i].f1, ⟨(pf T cs n L[i]).f2.f0, (pf T cs n L[i]).f2.f1⟩, (pf T cs n L[i]).f3⟩ : Proof) = pf T cs n L[i] := by
      have e0 := pf_f0 T cs n L[i]; have e1 := pf_f1 T cs n L[i]
      generalize pf T cs n L[i] = P at e0 e1 ⊢
      cases P; simp only at e0 e1; subst e0 e1; rfl
    rw [e]; exact this
theorem proof_ev {cs : List Cred} (hcs : cs.length ≤ 20) (hm : Mays cs) {T : List (Pair × Int)} (h : RndOf cs T) : ∀ (n : Nat) (p : Pair), 0 < rnd T p → rnd T p ≤ n → Ev (fun k => QaE.f k cs p.f0.f0 p.f0.f1 p.f1) (p.f0.f0, p.f0.f1, p.f1, (pf T cs n p).f2.f0, (pf T cs n p).f2.f1, (pf T cs n p).f3)
  | 0, p, h0, h1 => by omega
  | n + 1, p, h0, h1 => by
    have b := by_of hm h h0; have := proof_l0 (cs := cs) (T := T) n p (byL T cs p) b.way.length (fun q hq => proof_ev hcs hm h n q (b.less q hq).1 (by have := (b.less q hq).2; omega)) (byC T cs p).f0.f0 (byC T cs p).f0.f1 (byL T cs p).length 0 [] (by omega) (by simp); rw [List.drop_zero, List.nil_append] at this; exact Ev.step (fun k => by rw [QaE.f]) (Ev.bind (first_ev hcs hm h h0) this)
theorem refFind_said {l : List Cred} (hl : l.length ≤ 20) {A : List Pair} (hA : AllOf (counts l) A) {T : List (Pair × Int)} (h : RndOf (counts l) T) (hr : ∀ p, rnd T p ≤ 400) {p : Pair} (h0 : 0 < rnd T p) :
    Ev (fun k => Qa3.f k l p.f1 p.f0.f0 p.f0.f1) (p.f0.f0, p.f0.f1, p.f1, (byC T (counts l) p).f0.f0, (byC T (counts l) p).f0.f1, (pf T (counts l) 1000 p).f3, 0) := by
  have hc := Qb5 l; have h4 := hr p; unfold Qa3.f; refine Ev.bind (refRound_ev hl hA h hr p) ?_; simp only [if_neg (show ¬ rnd T p = 0 by omega)]; refine Ev.bind (refCounts_is l (by omega)) (Ev.bind (proof_ev (by omega) (Qch l) h 1000 p h0 (by omega)) ?_); exact Ev.pure _
theorem refFind_not {l : List Cred} (hl : l.length ≤ 20) {A : List Pair} (hA : AllOf (counts l) A) {T : List (Pair × Int)} (h : RndOf (counts l) T) (hr : ∀ p, rnd T p ≤ 400) {p : Pair} (h0 : ¬ 0 < rnd T p) :
    Ev (fun k => Qa3.f k l p.f1 p.f0.f0 p.f0.f1) (⟨#[]⟩, ⟨#[]⟩, ⟨#[]⟩, 0, 0, [], 16) := by
  have hn := h.nn p; unfold Qa3.f; refine Ev.bind (refRound_ev hl hA h hr p) ?_; simp only [if_pos (show rnd T p = 0 by omega)]; exact Ev.pure _
def Wd : Nat → Proof → Prop
  | 0, _ => False
  | n + 1, p => p.f3.length ≤ 2 ∧ ∀ q ∈ p.f3, Wd n q
theorem pf_wd {cs : List Cred} (hm : Mays cs) {T : List (Pair × Int)} (h : RndOf cs T) : ∀ (k : Nat) (p : Pair), 0 < rnd T p → rnd T p ≤ k → Wd k (pf T cs k p)
  | 0, p, h0, h1 => by omega
  | k + 1, p, h0, h1 => by
    have b := by_of hm h h0; refine ⟨?_, fun q hq => ?_⟩
    · show ((byL T cs p).map (pf T cs k)).length ≤ 2
      rw [List.length_map]; exact b.way.length
    · obtain ⟨r, hr, rfl⟩ := List.mem_map.mp hq
      exact pf_wd hm h k r (b.less r hr).1 (by have := (b.less r hr).2; omega)
inductive Rch (L : Pair → List Pair) (S : Pair → Prop) : Pair → Prop
  | base {p : Pair} : S p → Rch L S p
  | step {p q : Pair} : Rch L S p → q ∈ L p → Rch L S q
theorem Rch.mono {L : Pair → List Pair} {S S' : Pair → Prop} (h : ∀ p, S p → Rch L S' p) {p : Pair} (hp : Rch L S p) : Rch L S' p := by
  induction hp with
  | base hs => exact h _ hs
  | step _ hq ih => exact ih.step hq
structure GInv (T : List (Pair × Int)) (s : Hads) : Prop where
  nodup : s.1.Nodup
  pos : ∀ q ∈ s.1, 0 < rnd T q
  len : s.2.length ≤ s.1.length
structure GStep (T : List (Pair × Int)) (cs : List Cred) (S : Pair → Prop) (s s' : Hads) : Prop where
  inv : GInv T s'
  sub : ∀ q ∈ s.1, q ∈ s'.1
  has : ∀ q, S q → q ∈ s'.1
  rch : ∀ q ∈ s'.1, q ∈ s.1 ∨ Rch (byL T cs) S q
  cls : ∀ q ∈ s'.1, q ∉ s.1 → ∀ r ∈ byL T cs q, r ∈ s'.1
  ids : ∀ i, i ∈ s'.2 ↔ i ∈ s.2 ∨ ∃ q ∈ s'.1, q ∉ s.1 ∧ (byC T cs q).f0 = i
theorem GStep.stay {T : List (Pair × Int)} {cs : List Cred} {S : Pair → Prop} {s : Hads} (h : GInv T s) (hS : ∀ q, S q → q ∈ s.1) : GStep T cs S s s :=
  ⟨h, fun _ h => h, hS, fun _ h => .inl h, fun _ h h' => absurd h h', fun i => ⟨.inl, fun h => h.elim id fun ⟨q, a, b, _⟩ => absurd a b⟩⟩
theorem GStep.trans {T : List (Pair × Int)} {cs : List Cred} {S S' : Pair → Prop} {s s' s'' : Hads} (h : GStep T cs S s s') (h' : GStep T cs S' s' s'') : GStep T cs (fun q => S q ∨ S' q) s s'' := by
  refine ⟨h'.inv, fun q hq => h'.sub q (h.sub q hq), fun q hq => hq.elim (fun hq => h'.sub q (h.has q hq)) (h'.has q), fun q hq => ?_, fun q hq hn r hr => ?_, fun i => ?_⟩
  · rcases h'.rch q hq with hq | hq
    · exact (h.rch q hq).imp id (Rch.mono fun p hp => .base (.inl hp))
    · exact .inr (Rch.mono (fun p hp => .base (.inr hp)) hq)
  · by_cases hm : q ∈ s'.1
    · exact h'.sub r (h.cls q hm hn r hr)
    · exact h'.cls q hq hm r hr
  · rw [h'.ids, h.ids]
    constructor
    · rintro ((hi | ⟨q, a, b, e⟩) | ⟨q, a, b, e⟩)
      · exact .inl hi
      · exact .inr ⟨q, h'.sub q a, b, e⟩
      · exact .inr ⟨q, a, fun hq => b (h.sub q hq), e⟩
    · rintro (hi | ⟨q, a, b, e⟩)
      · exact .inl (.inl hi)
      · by_cases hm : q ∈ s'.1
        · exact .inl (.inr ⟨q, hm, b, e⟩)
        · exact .inr ⟨q, a, hm, e⟩
theorem GStep.imp {T : List (Pair × Int)} {cs : List Cred} {S S' : Pair → Prop} {s s' : Hads} (h : GStep T cs S s s') (h1 : ∀ q, S' q → q ∈ s'.1) (h2 : ∀ q, S q → Rch (byL T cs) S' q) : GStep T cs S' s s' :=
  ⟨h.inv, h.sub, h1, fun q hq => (h.rch q hq).imp id (Rch.mono h2), h.cls, h.ids⟩
theorem GInv.length {T : List (Pair × Int)} {cs : List Cred} (hl : cs.length ≤ 20) (h : RndOf cs T) {s : Hads} (g : GInv T s) : s.1.length ≤ 400 ∧ s.2.length ≤ 400 := by
  have := said_400 hl g.nodup (fun q hq => h.said.mp (g.pos q hq)); have := g.len; omega
theorem gatherQ_is {T : List (Pair × Int)} {cs : List Cred} {F : Pair → Hads → Option Hads} : ∀ (qs : List Pair) (s : Hads), GInv T s → (∀ q ∈ qs, ∀ s, GInv T s → ∃ s', F q s = some s' ∧ GStep T cs (fun r => r = q) s s') → ∃ s', gatherQ F qs s = some s' ∧ GStep T cs (fun r => r ∈ qs) s s'
  | [], s, g, _ => ⟨s, rfl, .stay g fun q hq => by cases hq⟩
  | q :: qs, s, g, h => by
    obtain ⟨s1, h1, h2⟩ := h q (List.mem_cons_self ..) s g; obtain ⟨s2, h3, h4⟩ := gatherQ_is qs s1 h2.inv (fun r hr => h r (List.mem_cons_of_mem _ hr)); have ht := h2.trans h4; refine ⟨s2, by rw [gatherQ, h1, Option.bind_some, h3], ht.imp (fun r hr => ht.has r (List.mem_cons.mp hr)) (fun r hr => .base (List.mem_cons.mpr hr))⟩
theorem gather_is {cs : List Cred} (hm : Mays cs) (hl : cs.length ≤ 20) (hid : ∀ c ∈ cs, okID c.f0) {T : List (Pair × Int)} (h : RndOf cs T) : ∀ (k : Nat) (p : Pair), 0 < rnd T p → rnd T p ≤ k → ∀ s, GInv T s → ∃ s', finGather T cs k p s = some s' ∧ GStep T cs (fun q => q = p) s s'
  | 0, p, h0, h1, s, g => by omega
  | k + 1, p, h0, h1, s, g => by
    have b := by_of hm h h0; have hL : (byL T cs p).length ≤ 2 := b.way.length; have hs := g.length hl h; rw [finGather, if_pos ⟨b.ok, by omega, by omega⟩]
    by_cases hp : p ∈ s.1
    · rw [if_pos hp]
      exact ⟨s, rfl, .stay g fun q hq => by rw [hq]; exact hp⟩
    · rw [if_neg hp, b.fin, Option.bind_some]
      have hi : okID (byC T cs p).f0 := hid _ b.mem
      have g1 : GInv T (s.1 ++ [p], putS s.2 (byC T cs p).f0) := by
        refine ⟨?_, fun q hq => ?_, ?_⟩
        · rw [List.nodup_append]
          refine ⟨g.nodup, by simp, fun a ha c hc e => ?_⟩; rw [List.mem_singleton] at hc; subst hc e; exact hp ha
        · rcases List.mem_append.mp hq with hq | hq
          · exact g.pos q hq
          · rw [List.mem_singleton] at hq
            rw [hq]; exact h0
        · have := putS_length s.2 (byC T cs p).f0
          have := g.len
          show (putS s.2 (byC T cs p).f0).length ≤ (s.1 ++ [p]).length
          simp; omega
      obtain ⟨s', h2, h3⟩ := gatherQ_is (cs := cs) (F := finGather T cs k) (byL T cs p) _ g1 (fun q hq s g => gather_is hm hl hid h k q (b.less q hq).1 (by have := (b.less q hq).2; omega) s g)
      refine ⟨s', by
        show (if okID (byC T cs p).f0 ∧ (byL T cs p).length ≤ 2 then gatherQ (finGather T cs k) (byL T cs p) (s.1 ++ [p], putS s.2 (byC T cs p).f0) else none) = _
        rw [if_pos ⟨hi, hL⟩, h2], ?_⟩
      have hps : p ∈ s'.1 := h3.sub p (List.mem_append_right _ (List.mem_singleton.mpr rfl)); refine ⟨h3.inv, fun q hq => h3.sub q (List.mem_append_left _ hq), fun q hq => by rw [hq]; exact hps, fun q hq => ?_, fun q hq hn r hr => ?_, fun i => ?_⟩
      · have hb : Rch (byL T cs) (fun q => q = p) p := .base rfl
        rcases h3.rch q hq with hq | hq
        · rcases List.mem_append.mp hq with hq | hq
          · exact .inl hq
          · rw [List.mem_singleton] at hq
            exact .inr (.base hq)
        · exact .inr (Rch.mono (fun r hr => hb.step hr) hq)
      · by_cases e : q = p
        · subst e
          exact h3.has r hr
        · exact h3.cls q hq (fun hm => (List.mem_append.mp hm).elim hn fun hm => e (List.mem_singleton.mp hm)) r hr
      · rw [h3.ids]
        have hput : ∀ i, i ∈ putS s.2 (byC T cs p).f0 ↔ i ∈ s.2 ∨ i = (byC T cs p).f0 := fun i => by
          unfold putS
          by_cases hh : (byC T cs p).f0 ∈ s.2
          · rw [if_pos hh]
            exact ⟨.inl, fun h => h.elim id fun e => e ▸ hh⟩
          · rw [if_neg hh]
            simp
        show i ∈ putS s.2 (byC T cs p).f0 ∨ _ ↔ _
        rw [hput]; constructor
        · rintro ((hi | hi) | ⟨q, a, b, e⟩)
          · exact .inl hi
          · exact .inr ⟨p, hps, hp, hi.symm⟩
          · exact .inr ⟨q, a, fun hq => b (List.mem_append_left _ hq), e⟩
        · rintro (hi | ⟨q, a, b, e⟩)
          · exact .inl (.inl hi)
          · by_cases e' : q = p
            · subst e'
              exact .inl (.inr e.symm)
            · exact .inr ⟨q, a, fun hm => (List.mem_append.mp hm).elim b fun hm => e' (List.mem_singleton.mp hm), e⟩
theorem okID_of {i : ID} (h0 : -9223372036854775808 ≤ i.f0 ∧ i.f0 ≤ 9223372036854775807) (h1 : -9223372036854775808 ≤ i.f1 ∧ i.f1 ≤ 9223372036854775807) : okID i := by
  have e1 : IntKind.i64.min = -9223372036854775808 := by decide
  have e2 : IntKind.i64.max = 9223372036854775807 := by decide
  constructor
  · show (decide (IntKind.i64.min ≤ i.f0) && decide (i.f0 ≤ IntKind.i64.max)) = true
    rw [e1, e2, decide_eq_true h0.1, decide_eq_true h0.2]; rfl
  · show (decide (IntKind.i64.min ≤ i.f1) && decide (i.f1 ≤ IntKind.i64.max)) = true
    rw [e1, e2, decide_eq_true h1.1, decide_eq_true h1.2]; rfl
theorem counts_good (l : List Cred) : ∀ c ∈ counts l, okID c.f0 := fun c h => by
  have := counts_may h; unfold credMay at this; simp only [Bool.and_eq_true, decide_eq_true_eq] at this; obtain ⟨⟨⟨h0, h1⟩, _⟩, _⟩ := this; exact okID_of (by omega) (by omega)
def Asked (rs : List S24) (who : ByteArray) (q : Pair) : Prop := ∃ r ∈ rs, q = ⟨r, who⟩
theorem supAll_is {cs : List Cred} (hm : Mays cs) (hl : cs.length ≤ 20) (hid : ∀ c ∈ cs, okID c.f0) {T : List (Pair × Int)} (h : RndOf cs T) (who : ByteArray) : ∀ (rs : List S24) (s : Hads), GInv T s → (∀ r ∈ rs, okPair ⟨r, who⟩) →
    ((∀ r ∈ rs, Said cs ⟨r, who⟩) → ∃ s', supAll T cs who rs s = some (some s') ∧ GStep T cs (Asked rs who) s s') ∧ ((∃ r ∈ rs, ¬ Said cs ⟨r, who⟩) → supAll T cs who rs s = some none)
  | [], s, g, _ => ⟨fun _ => ⟨s, rfl, .stay g fun q ⟨r, hr, _⟩ => by cases hr⟩, fun ⟨r, hr, _⟩ => by cases hr⟩
  | r :: rs, s, g, hok => by
    rw [supAll, if_pos (hok r (List.mem_cons_self ..))]
    by_cases h0 : 0 < rnd T ⟨r, who⟩
    · have hle := h.le ⟨r, who⟩
      have hsq := Nat.mul_le_mul hl hl; rw [if_neg (by omega)]; obtain ⟨s1, h1, h2⟩ := gather_is hm hl hid h 1000 ⟨r, who⟩ h0 (by omega) s g; rw [h1, Option.bind_some]; have ih := supAll_is hm hl hid h who rs s1 h2.inv (fun x hx => hok x (List.mem_cons_of_mem _ hx)); refine ⟨fun hs => ?_, fun ⟨x, hx, hn⟩ => ih.2 ?_⟩
      · obtain ⟨s2, h3, h4⟩ := ih.1 fun x hx => hs x (List.mem_cons_of_mem _ hx)
        have ht := h2.trans h4; refine ⟨s2, h3, ht.imp (fun q hq => ht.has q ?_) (fun q hq => .base ?_)⟩
        · obtain ⟨x, hx, e⟩ := hq
          rcases List.mem_cons.mp hx with rfl | hx
          · exact .inl e
          · exact .inr ⟨x, hx, e⟩
        · rcases hq with e | ⟨x, hx, e⟩
          · exact ⟨r, List.mem_cons_self .., e⟩
          · exact ⟨x, List.mem_cons_of_mem _ hx, e⟩
      · rcases List.mem_cons.mp hx with rfl | hx
        · exact absurd (h.said.mp h0) hn
        · exact ⟨x, hx, hn⟩
    · have hn := h.nn ⟨r, who⟩
      rw [if_pos (by omega)]; exact ⟨fun hs => absurd (h.said.mpr (hs r (List.mem_cons_self ..))) h0, fun _ => rfl⟩
def SupOf (T : List (Pair × Int)) (cs : List Cred) (rs : List S24) (who : ByteArray) (i : ID) : Prop := ∃ q, Rch (byL T cs) (Asked rs who) q ∧ (byC T cs q).f0 = i
theorem support_is (l : List Cred) (hl : l.length < 21) (hok : ∀ c ∈ l, okCred c) {A : List Pair} {T : List (Pair × Int)} (hA : AllOf (counts l) A) (hT : RndOf (counts l) T) (hf : foundF l = some (counts l, A, T)) (who : ByteArray) (rs : List S24) (hrs : ∀ r ∈ rs, okPair ⟨r, who⟩) :
    ((∀ r ∈ rs, Said (counts l) ⟨r, who⟩) → ∃ H : List ID, supportF l who rs = some (supIDs H (counts l), 0) ∧ ∀ i, i ∈ H ↔ SupOf T (counts l) rs who i) ∧ ((∃ r ∈ rs, ¬ Said (counts l) ⟨r, who⟩) → supportF l who rs = some ([], 16)) := by
  have hlen := Qb5 l
  have g0 : GInv T (([], []) : Hads) := ⟨List.nodup_nil, (fun q hq => by cases hq), Nat.le_refl _⟩
  have h := supAll_is (Qch l) (by omega) (counts_good l) hT who rs ([], []) g0 hrs; unfold supportF; rw [hf, Option.bind_some]; refine ⟨fun hs => ?_, fun hn => ?_⟩
  · obtain ⟨s', h1, h2⟩ := h.1 hs
    have hlen' := h2.inv.length (by omega) hT; refine ⟨s'.2, ?_, fun i => ?_⟩
    · show ((supAll T (counts l) who rs ([], [])).bind _) = _
      rw [h1, Option.bind_some]
      show (if s'.2.length ≤ 1000000 ∧ (∀ c ∈ counts l, okID c.f0) then some (supIDs s'.2 (counts l), (0 : Int)) else none) = _
      rw [if_pos ⟨by omega, counts_good l⟩]
    · have hr : ∀ q, Rch (byL T (counts l)) (Asked rs who) q → q ∈ s'.1 := fun q hq => by
        induction hq with
        | base hs => exact h2.has _ hs
        | step _ hq ih => exact h2.cls _ ih (by simp) _ hq
      rw [h2.ids]; constructor
      · rintro (hi | ⟨q, a, _, e⟩)
        · cases hi
        · exact ⟨q, (h2.rch q a).resolve_left (by simp), e⟩
      · rintro ⟨q, a, e⟩
        exact .inr ⟨q, hr q a, by simp, e⟩
  · show ((supAll T (counts l) who rs ([], [])).bind _) = _
    rw [h.2 hn, Option.bind_some]
theorem counts_self {R : List Cred} (hs : R.Pairwise credLess) (hm : ∀ c ∈ R, credMay c = true) : counts R = R := by
  refine (counts_spec R).unique ⟨hs, fun c => ⟨fun hc => ?_, First.mem⟩⟩; unfold First
  induction R with
  | nil => cases hc
  | cons d R ih =>
    have h' := List.pairwise_cons.mp hs; rw [List.find?_cons]
    rcases List.mem_cons.mp hc with rfl | hc
    · rw [hm c (List.mem_cons_self ..), QbF.mpr ⟨rfl, rfl⟩]
      rfl
    · have : sameID d c = false := by
        rw [Bool.eq_false_iff, Ne, QbF]; have := h'.1 c hc; unfold credLess at this; omega
      rw [this, Bool.and_false]; exact ih h'.2 (fun c hc => hm c (List.mem_cons_of_mem _ hc)) hc
def xe1 : Cred := ⟨⟨1, 1⟩, ⟨#[97]⟩, 2, ⟨#[]⟩, ⟨⟨#[100, 50]⟩, ⟨#[98]⟩⟩, ⟨⟨#[]⟩, ⟨#[]⟩⟩⟩
def xe2 : Cred := ⟨⟨1, 2⟩, ⟨#[97]⟩, 1, ⟨#[97, 110, 110]⟩, ⟨⟨#[]⟩, ⟨#[]⟩⟩, ⟨⟨#[]⟩, ⟨#[]⟩⟩⟩
def xe3 : Cred := ⟨⟨2, 1⟩, ⟨#[98]⟩, 1, ⟨#[97, 110, 110]⟩, ⟨⟨#[]⟩, ⟨#[]⟩⟩, ⟨⟨#[]⟩, ⟨#[]⟩⟩⟩
def xes : List Cred := [xe1, xe2, xe3]
def xRa : S24 := ⟨⟨#[100, 49]⟩, ⟨#[97]⟩⟩
def xRb : S24 := ⟨⟨#[100, 50]⟩, ⟨#[98]⟩⟩
def xAnn : ByteArray := ⟨#[97, 110, 110]⟩
def xBob : ByteArray := ⟨#[98, 111, 98]⟩
theorem noText8 (s : ByteArray) : noText s = decide (s = ⟨#[]⟩) := by
  unfold noText; rw [Bool.eq_iff_iff, beq_iff_eq, empty_iff, decide_eq_true_eq]
theorem xes_mem {c : Cred} (h : c ∈ xes) : c = xe1 ∨ c = xe2 ∨ c = xe3 := by simpa [xes] using h
theorem xes_may : ∀ c ∈ xes, credMay c = true := fun c hc => by
  rcases xes_mem hc with rfl | rfl | rfl <;> (unfold credMay roleOk bareOk noRole; simp only [noText8]; decide)
theorem Qcj : counts xes = xes := counts_self (by
  unfold xes credLess; simp only [List.pairwise_cons]; refine ⟨fun a ha => ?_, fun a ha => ?_, (fun a ha => by cases ha), List.Pairwise.nil⟩
  · simp only [List.mem_cons, List.not_mem_nil, or_false] at ha
    rcases ha with rfl | rfl <;> decide
  · simp only [List.mem_cons, List.not_mem_nil, or_false] at ha
    rcases ha with rfl
    decide) xes_may
theorem xes_ok : ∀ c ∈ xes, okCred c := fun c hc => by
  rcases xes_mem hc with rfl | rfl | rfl <;> exact ⟨by decide, by decide, ⟨by decide, by decide⟩, by decide, by decide⟩
theorem xm2 : xe2 ∈ xes := .tail _ (.head _)
theorem xm3 : xe3 ∈ xes := .tail _ (.tail _ (.head _))
theorem kkA : KK xes 1 ⟨xRa, xAnn⟩ := ⟨xe2, xm2, [], .member rfl rfl rfl, fun q hq => by cases hq⟩
theorem kkB : KK xes 1 ⟨xRb, xAnn⟩ := ⟨xe3, xm3, [], .member rfl rfl rfl, fun q hq => by cases hq⟩
theorem notBob : ¬ Said xes ⟨xRa, xBob⟩ := fun h => by
  obtain ⟨_, c, hc, hk, e⟩ := h.within
  rcases xes_mem hc with rfl | rfl | rfl
  · exact absurd hk (by decide)
  · exact absurd e (by decide)
  · exact absurd e (by decide)
theorem one_by {cs : List Cred} (hm : Mays cs) {T : List (Pair × Int)} (h : RndOf cs T) {p : Pair} (hk : KK cs 1 p) : rnd T p = 1 ∧ byL T cs p = [] ∧ byC T cs p ∈ cs ∧ (byC T cs p).f2 = 1 ∧ credRole (byC T cs p) = p.f0 := by
  obtain ⟨h0, h1⟩ := h.least hk; have b := by_of hm h h0
  have e : rnd T p = 1 := by omega
  have hn : ∀ q ∈ byL T cs p, False := fun q hq => by
    have := b.less q hq; unfold inB at this; omega
  have hw := b.way; have hcm := b.mem; clear b
  generalize byL T cs p = L at hn hw ⊢
  generalize byC T cs p = c at hw hcm ⊢
  refine ⟨e, ?_, hcm, ?_, hw.role⟩
  · cases L with
    | nil => rfl
    | cons q L => exact (hn q (List.mem_cons_self ..)).elim
  · cases hw with
    | member _ k _ => exact k
    | incl _ _ => exact (hn _ (List.mem_cons_self ..)).elim
    | link _ _ _ _ _ => exact (hn _ (List.mem_cons_self ..)).elim
    | both _ _ => exact (hn _ (List.mem_cons_self ..)).elim
theorem xes_found : ∃ A T, RndOf xes T ∧ AllOf xes A ∧ foundF xes = some (xes, A, T) := by
  obtain ⟨A, T, h1, h2, h3⟩ := found_is xes (by decide) xes_ok; rw [Qcj] at h1 h2 h3; exact ⟨A, T, h2, h1, h3⟩
theorem xes_mays : Mays xes := xes_may
theorem byA {T : List (Pair × Int)} (h : RndOf xes T) : rnd T ⟨xRa, xAnn⟩ = 1 ∧ byL T xes ⟨xRa, xAnn⟩ = [] ∧ byC T xes ⟨xRa, xAnn⟩ = xe2 := by
  obtain ⟨a, b, c, d, e⟩ := one_by xes_mays h kkA; refine ⟨a, b, ?_⟩
  rcases xes_mem c with hc | hc | hc
  · rw [hc] at d
    exact absurd d (by decide)
  · exact hc
  · rw [hc] at e
    exact absurd e (by decide)
theorem byB {T : List (Pair × Int)} (h : RndOf xes T) : rnd T ⟨xRb, xAnn⟩ = 1 ∧ byL T xes ⟨xRb, xAnn⟩ = [] ∧ byC T xes ⟨xRb, xAnn⟩ = xe3 := by
  obtain ⟨a, b, c, d, e⟩ := one_by xes_mays h kkB; refine ⟨a, b, ?_⟩
  rcases xes_mem c with hc | hc | hc
  · rw [hc] at d
    exact absurd d (by decide)
  · rw [hc] at e
    exact absurd e (by decide)
  · exact hc
theorem xes_support : ∃ X : List ID, supportF xes xAnn [xRa, xRb] = some (X, 0) ∧ X.length = 2 := by
  obtain ⟨A, T, hT, hA, hf⟩ := xes_found; have hT' := hT; have hA' := hA; have hf' := hf; rw [← Qcj] at hT' hA' hf'
  have hok : ∀ r ∈ [xRa, xRb], okPair ⟨r, xAnn⟩ := fun r hr => by
    simp only [List.mem_cons, List.not_mem_nil, or_false] at hr
    rcases hr with rfl | rfl <;> exact ⟨by decide, by decide, by decide⟩
  obtain ⟨H, h1, h2⟩ := (support_is xes (by decide) xes_ok hA' hT' (by rw [Qcj] at hf'; rw [Qcj]; exact hf) xAnn [xRa, xRb] hok).1 (fun r hr => by
    rw [Qcj]; simp only [List.mem_cons, List.not_mem_nil, or_false] at hr
    rcases hr with rfl | rfl
    · exact kkA.said
    · exact kkB.said)
  rw [Qcj] at h1 h2; refine ⟨_, h1, ?_⟩
  have hr : ∀ q, Rch (byL T xes) (Asked [xRa, xRb] xAnn) q → q = ⟨xRa, xAnn⟩ ∨ q = ⟨xRb, xAnn⟩ := fun q hq => by
    induction hq with
    | base hs =>
      obtain ⟨r, hr, rfl⟩ := hs; simp only [List.mem_cons, List.not_mem_nil, or_false] at hr
      rcases hr with rfl | rfl
      · exact .inl rfl
      · exact .inr rfl
    | step _ hq ih =>
      rcases ih with rfl | rfl
      · rw [(byA hT).2.1] at hq
        cases hq
      · rw [(byB hT).2.1] at hq
        cases hq
  have h12 : (⟨1, 2⟩ : ID) ∈ H := (h2 _).mpr ⟨_, .base ⟨xRa, List.mem_cons_self .., rfl⟩, by rw [(byA hT).2.2]; rfl⟩; have h21 : (⟨2, 1⟩ : ID) ∈ H := (h2 _).mpr ⟨_, .base ⟨xRb, .tail _ (.head _), rfl⟩, by rw [(byB hT).2.2]; rfl⟩
  have h11 : (⟨1, 1⟩ : ID) ∉ H := fun hh => by
    obtain ⟨q, hq, e⟩ := (h2 _).mp hh
    rcases hr q hq with rfl | rfl
    · rw [(byA hT).2.2] at e
      exact absurd e (by decide)
    · rw [(byB hT).2.2] at e
      exact absurd e (by decide)
  unfold supIDs xes; rw [List.length_map, List.filter_cons, if_neg (show ¬ decide (xe1.f0 ∈ H) = true from fun h => h11 (of_decide_eq_true h)), List.filter_cons, if_pos (decide_eq_true (show xe2.f0 ∈ H from h12)), List.filter_cons, if_pos (decide_eq_true (show xe3.f0 ∈ H from h21))]; rfl
theorem rnd_1000 {l : List Cred} (hl : l.length < 21) {T : List (Pair × Int)} (hT : RndOf (counts l) T) (p : Pair) : rnd T p ≤ 400 := by
  have h1 := hT.le p; have h2 := Qb5 l; have h3 := Nat.mul_le_mul (show (counts l).length ≤ 20 by omega) (show (counts l).length ≤ 20 by omega); omega
theorem find_said {l : List Cred} (hl : l.length < 21) {A : List Pair} {T : List (Pair × Int)} (hT : RndOf (counts l) T) (hf : foundF l = some (counts l, A, T)) {p : Pair} (h0 : 0 < rnd T p) :
    Qbd.f l p.f1 p.f0.f0 p.f0.f1 = some (p.f0.f0, p.f0.f1, p.f1, (byC T (counts l) p).f0.f0, (byC T (counts l) p).f0.f1, (pf T (counts l) 1000 p).f3, 0) := by
  have b := by_of (Qch l) hT h0; have h1 := rnd_1000 hl hT p; unfold Qbd.f; rw [hf, Option.bind_some, if_pos (show okPair ⟨⟨p.f0.f0, p.f0.f1⟩, p.f1⟩ from b.ok), if_neg (show ¬ rnd T ⟨⟨p.f0.f0, p.f0.f1⟩, p.f1⟩ = 0 by show ¬ rnd T p = 0; omega)]
  show (finProof T (counts l) 1000 p).map _ = _
  rw [finProof_is (Qch l) hT 1000 p h0 (by omega)]; rfl
theorem find_not {l : List Cred} {A : List Pair} {T : List (Pair × Int)} (hT : RndOf (counts l) T) (hf : foundF l = some (counts l, A, T)) {p : Pair} (hp : okPair p) (h0 : ¬ 0 < rnd T p) :
    Qbd.f l p.f1 p.f0.f0 p.f0.f1 = some (⟨#[]⟩, ⟨#[]⟩, ⟨#[]⟩, 0, 0, [], 16) := by
  have := hT.nn p; unfold Qbd.f; rw [hf, Option.bind_some, if_pos (show okPair ⟨⟨p.f0.f0, p.f0.f1⟩, p.f1⟩ from hp), if_pos (show rnd T ⟨⟨p.f0.f0, p.f0.f1⟩, p.f1⟩ = 0 by show rnd T p = 0; omega)]
theorem round_is {l : List Cred} {A : List Pair} {T : List (Pair × Int)} (hf : foundF l = some (counts l, A, T)) {p : Pair} (hp : okPair p) : Qba.f l p.f1 p.f0.f0 p.f0.f1 = some (rnd T p) := by
  unfold Qba.f; rw [hf, Option.bind_some, if_pos (show okPair ⟨⟨p.f0.f0, p.f0.f1⟩, p.f1⟩ from hp)]
theorem okAnn : okPair ⟨xRa, xAnn⟩ := ⟨by decide, by decide, by decide⟩
theorem okBob : okPair ⟨xRa, xBob⟩ := ⟨by decide, by decide, by decide⟩
theorem lives8 : Qa7.f = some true := by
  obtain ⟨A, T, hA, hT, hf⟩ := found_is xes (by decide) xes_ok; have hT' := hT; rw [Qcj] at hT'; have h0 : 0 < rnd T ⟨xRa, xAnn⟩ := (hT'.least kkA).1
  have e1 : Qbd.f xes xAnn xRa.f0 xRa.f1 = some (xRa.f0, xRa.f1, xAnn, 1, 2, (pf T (counts xes) 1000 ⟨xRa, xAnn⟩).f3, 0) := by
    have := find_said (p := ⟨xRa, xAnn⟩) (by decide) hT hf h0; rw [Qcj] at this ⊢; rw [(byA hT').2.2] at this; exact this
  have e2 : Qbd.f xes xBob xRa.f0 xRa.f1 = some (⟨#[]⟩, ⟨#[]⟩, ⟨#[]⟩, 0, 0, [], 16) := find_not (p := ⟨xRa, xBob⟩) hT hf okBob (fun h => notBob (hT'.said.mp h))
  have e3 : Qba.f xes xAnn xRa.f0 xRa.f1 = some 1 := by
    have := round_is (p := ⟨xRa, xAnn⟩) hf okAnn; rw [(byA hT').1] at this; exact this
  obtain ⟨X, e4, hX⟩ := xes_support
  have e4' : Qbq.f xes xAnn [xRa, xRb] = some (X, 0) := by
    unfold Qbq.f; rw [if_pos (by decide), e4]
  unfold Qa7.f
  show (Qbd.f xes xAnn xRa.f0 xRa.f1).bind _ = _
  rw [e1, Option.bind_some]
  show (Qbd.f xes xBob xRa.f0 xRa.f1).bind _ = _
  rw [e2, Option.bind_some]
  show (Qbq.f xes xAnn [xRa, xRb]).bind _ = _
  rw [e4', Option.bind_some]
  show (Qba.f xes xAnn xRa.f0 xRa.f1).bind (fun t132 => if t132 = 1 then (if (X.length : Int) = 2 then some true else _) else _) = _
  rw [e3, Option.bind_some, if_pos rfl, if_pos (by rw [hX]; rfl)]
theorem few8 (l : List Cred) : QbG.f l = some (l.take 9) := by
  unfold QbG.f
  by_cases h : (l.length : Int) > 9
  · rw [if_pos h, if_pos (by omega)]
  · rw [if_neg h, List.take_of_length_le (by omega)]
theorem take9 (l : List Cred) : (l.take 9).length ≤ 9 := by simp; omega
theorem take9_ok {l : List Cred} (h : ∀ c ∈ l, okCred c) : ∀ c ∈ l.take 9, okCred c := fun c hc => h c (List.mem_of_mem_take hc)
theorem sameW_l0 (a : Proof) (hl : a.f3.length ≤ 2) (ih : ∀ p ∈ a.f3, Ev (fun k => Qav.f k p.f0.f0 p.f0.f1 p.f1 p.f2.f0 p.f2.f1 p.f3 p.f0.f0 p.f0.f1 p.f1 p.f2.f0 p.f2.f1 p.f3) true) : ∀ (n i : Nat), n + i = a.f3.length → Ev (fun k => Qav.l0 k (i : Int) a.f0.f0 a.f0.f1 a.f1 a.f2.f0 a.f2.f1 a.f3 a.f0.f0 a.f0.f1 a.f1 a.f2.f0 a.f2.f1 a.f3) true
  | 0, i, hn => by
    refine Ev.step (fun k => ?_) (Ev.pure _); rw [Qav.l0, if_neg (by omega)]
  | n + 1, i, hn => by
    have hi : i < a.f3.length := by omega
    refine Ev.stepBind (h := fun k t => if t = true then Qav.l0 k ((i + 1 : Nat) : Int) a.f0.f0 a.f0.f1 a.f1 a.f2.f0 a.f2.f1 a.f3 a.f0.f0 a.f0.f1 a.f1 a.f2.f0 a.f2.f1 a.f3 else some false) (fun k => ?_) (ih _ (List.getElem_mem hi)) ?_
    · rw [Qav.l0, if_pos (by omega), if_pos (by omega), if_pos (by omega), wrapN (by omega), rdP a.f3 i hi]
    · simp only [if_true]
      exact sameW_l0 a hl ih n (i + 1) (by omega)
theorem sameW_ev : ∀ (n : Nat) (a : Proof), Wd n a → Ev (fun k => Qav.f k a.f0.f0 a.f0.f1 a.f1 a.f2.f0 a.f2.f1 a.f3 a.f0.f0 a.f0.f1 a.f1 a.f2.f0 a.f2.f1 a.f3) true
  | 0, a, h => h.elim
  | n + 1, a, h => by
    have h0 := sameW_l0 a h.1 (fun p hp => sameW_ev n p (h.2 p hp)) a.f3.length 0 (by omega); refine Ev.step (g := fun k => Qav.j0 k false a.f0.f0 a.f0.f1 a.f1 a.f2.f0 a.f2.f1 a.f3 a.f0.f0 a.f0.f1 a.f1 a.f2.f0 a.f2.f1 a.f3) (fun k => ?_) (Ev.step (fun k => ?_) h0)
    · rw [Qav.f]
      simp
    · rw [Qav.j0, if_neg (by decide)]
      rfl
theorem sameNone : Ev (fun k => Qav.f k ⟨#[]⟩ ⟨#[]⟩ ⟨#[]⟩ 0 0 [] ⟨#[]⟩ ⟨#[]⟩ ⟨#[]⟩ 0 0 []) true := sameW_ev 1 ⟨⟨⟨#[]⟩, ⟨#[]⟩⟩, ⟨#[]⟩, ⟨0, 0⟩, []⟩ ⟨Nat.zero_le _, fun q hq => by cases hq⟩
theorem chainFinds_true (l : List Cred) (who : ByteArray) (r : S24) (hok : ∀ c ∈ l, okCred c) (hp : okPair ⟨r, who⟩) : Ev (fun k => QaX.f k l who r.f0 r.f1) true := by
  have hlen := take9 l; have hok' := take9_ok hok; obtain ⟨A, T, hA, hT, hf⟩ := found_is (l.take 9) (by omega) hok'; have hr := rnd_1000 (by omega) hT; have hrd := round_is hf hp; have hrr := refRound_ev (by omega) hA hT hr ⟨r, who⟩
  have hend : Ev (fun k => (Qba.f (l.take 9) who r.f0 r.f1).bind fun t126 => ((QaF.f k (l.take 9) who r.f0 r.f1).bind fun t127 => (if t126 = t127 then ((Qa7.f).bind fun t128 => (some t128)) else (none)))) true := by
    rw [show Qba.f (l.take 9) who r.f0 r.f1 = _ from hrd]; refine Ev.bind (Ev.pure _) (Ev.bind hrr ?_); simp only [if_true, lives8]; exact Ev.pure _
  unfold QaX.f; rw [few8]; refine Ev.bind (Ev.pure _) ?_
  by_cases h0 : 0 < rnd T ⟨r, who⟩
  · have hw := pf_wd (Qch _) hT 1000 ⟨r, who⟩ h0 (by have := hr ⟨r, who⟩; omega)
    have hs := sameW_ev 1000 _ hw; rw [pf_f0, pf_f1, pf_f2] at hs; rw [show Qbd.f (l.take 9) who r.f0 r.f1 = _ from find_said (by omega) hT hf h0]; refine Ev.bind (Ev.pure _) (Ev.bind (refFind_said (by omega) hA hT hr h0) (Ev.bind hs ?_)); simp only [if_true]; exact hend
  · rw [show Qbd.f (l.take 9) who r.f0 r.f1 = _ from find_not hT hf hp h0]
    refine Ev.bind (Ev.pure _) (Ev.bind (refFind_not (by omega) hA hT hr h0) (Ev.bind sameNone ?_)); simp only [if_true]; exact hend
theorem chainFinds_row (l : List Cred) (who : ByteArray) (r : S24) (hok : ∀ c ∈ l, okCred c) (hw : who.size ≤ maxLen) (hr : r.f0.size ≤ maxLen ∧ r.f1.size ≤ maxLen) : Ev (fun k => QaX.f k l who r.f0 r.f1) true := chainFinds_true l who r hok ⟨hr.1, hr.2, hw⟩
end Go.Proofs.YtbjjgaahdnfflaaGreatDoor.Pr
end
