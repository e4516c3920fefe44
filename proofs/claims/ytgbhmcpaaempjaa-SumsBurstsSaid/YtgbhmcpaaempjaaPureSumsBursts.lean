/- Bits that are turned within 16 side by side change the sum; for every input. -/
import Derived.Test.YtgbhmcpaaempjaaPrx6
import Derived.Test.YtgbhmcpaaempjaaSums
namespace Go.Proofs.Ytgbhmcpaaempjaa.Pure
open Go.RowKit Go.Proofs.Ytgbhmcpaaempjaa.Pr Go.Proofs.YtgbhmcpaaempjaaW.PrintWords Go.Proofs.YtgbhmcpaaempjaaW.PrintLast Go.Proofs.YtgbhmcpaaempjaaW.PrintMore
/-- The bit at a place. -/
def B (l : List Int) (p : Nat) : Bool := (l.getD (p / 8) 0).toNat.testBit (7 - p % 8)
theorem bitsL_B : ∀ (l : List Int), bitsL l = (List.range (8 * l.length)).map (B l)
  | [] => rfl
  | x :: l => by
    have e : bitsL (x :: l) = bitsB x ++ bitsL l := rfl
    rw [e, bitsL_B l, List.length_cons, show 8 * (l.length + 1) = 8 + 8 * l.length from by omega, List.range_add, List.map_append, List.map_map]
    congr 1
    apply List.map_congr_left
    intro p _
    show B l p = B (x :: l) (8 + p)
    unfold B
    rw [show (8 + p) / 8 = p / 8 + 1 from by omega, show (8 + p) % 8 = p % 8 from by omega]
    rfl
theorem bu_top : ∀ j : Fin 8, shr .u8 128 (j.val : Int) = ((2 ^ (7 - j.val) : Nat) : Int) := by decide
theorem bu_set (x : List Int) (hx : Good x) (at_ : Nat) (ha : at_ / 8 < x.length) : ∃ v : Int, Go.bits .xor .u8 (rd x ((at_ / 8 : Nat) : Int)) (shr .u8 128 ((at_ % 8 : Nat) : Int)) = v ∧ (0 ≤ v ∧ v ≤ 255) ∧ ∀ p, B (x.set (at_ / 8) v) p = (B x p ^^ decide (p = at_)) := by
  have hb := hx _ (List.getElem_mem ha)
  have ht := bu_top ⟨at_ % 8, by omega⟩
  simp only at ht
  have hp : 2 ^ (7 - at_ % 8) < 2 ^ 8 := Nat.pow_lt_pow_right (by omega) (by omega)
  obtain ⟨q, hq⟩ : ∃ q, q = 2 ^ (7 - at_ % 8) := ⟨_, rfl⟩
  rw [← hq] at hp ht
  have h := u8_xor x[at_ / 8] (q : Int) hb.1 (by omega) (by omega) (by omega)
  have hlt : x[at_ / 8].toNat ^^^ q < 2 ^ 8 := Nat.xor_lt_two_pow (by omega) hp
  rw [Int.toNat_natCast] at h
  rw [rd_get x _ ha, ht, h]
  refine ⟨_, rfl, ⟨by omega, by omega⟩, fun p => ?_⟩
  unfold B
  rw [List.getD_eq_getElem?_getD, List.getD_eq_getElem?_getD, List.getElem?_set]
  by_cases hq' : at_ / 8 = p / 8
  · rw [if_pos hq', if_pos ha, Option.getD_some, Int.toNat_natCast, Nat.testBit_xor, hq, Nat.testBit_two_pow, ← hq', List.getElem?_eq_getElem ha, Option.getD_some]
    congr 1
    apply decide_eq_decide.2
    omega
  · rw [if_neg hq', show decide (p = at_) = false from decide_eq_false (by omega), Bool.xor_false]
def E (from_ k : Nat) (bs : Nat) (p : Nat) : Bool := decide (from_ ≤ p ∧ p < from_ + k) && bs.testBit (p - from_)
theorem E_succ (f k bs p : Nat) : E f (k + 1) bs p = (E f k bs p ^^ (decide (p = f + k) && bs.testBit k)) := by
  unfold E
  by_cases h : p = f + k
  · subst h
    rw [show f + k - f = k from by omega]
    simp
  · rw [show decide (p = f + k) = false from decide_eq_false h, Bool.false_and, Bool.xor_false]
    congr 1
    apply decide_eq_decide.2
    omega
theorem zip_map (f g : Nat → Bool) : ∀ (L : List Nat), List.zipWith (· ^^ ·) (L.map f) (L.map g) = L.map fun p => f p ^^ g p
  | [] => rfl
  | x :: L => by simp [zip_map f g L]
theorem E_list (f n bs : Nat) (h : f + 16 ≤ n) : (List.range n).map (E f 16 bs) = List.replicate f false ++ (List.range 16).map (bs.testBit ·) ++ List.replicate (n - f - 16) false := by
  apply List.ext_getElem
  · simp
    omega
  · intro i h1 h2
    simp only [List.length_map, List.length_range] at h1
    rw [List.getElem_map, List.getElem_range, List.getElem_append]
    unfold E
    by_cases a : i < f
    · rw [dif_pos (by simp; omega), List.getElem_append, dif_pos (by simpa using a), List.getElem_replicate, show decide (f ≤ i ∧ i < f + 16) = false from decide_eq_false (by omega), Bool.false_and]
    · by_cases b : i < f + 16
      · rw [dif_pos (by simp; omega), List.getElem_append, dif_neg (by simpa using a), List.getElem_map, List.getElem_range, show decide (f ≤ i ∧ i < f + 16) = true from decide_eq_true (by omega), Bool.true_and, List.length_replicate]
      · rw [dif_neg (by simp; omega), List.getElem_replicate, show decide (f ≤ i ∧ i < f + 16) = false from decide_eq_false (by omega), Bool.false_and]
theorem bu_end (l x : List Int) (hl : Good l) (hx : Good x) (hlen : x.length = l.length) (hn : l.length ≤ 300) (f : Nat) (hf : f + 16 ≤ 8 * l.length) (bs : Nat) (hbs : bs < 65536)
    (hB : ∀ p, B x p = (B l p ^^ E f 16 bs p)) (k : Nat) (hk : 1001 < k) : liverylaw15_SumsBursts.l0 k l (f : Int) (bs : Int) x 16 = some true := by
  obtain ⟨k, rfl⟩ : ∃ m, k = m + 1 := ⟨k - 1, by omega⟩
  rw [liverylaw15_SumsBursts.l0, if_neg (by omega), sum_tells x hx (by omega) _ (by omega), Option.bind_some, sum_tells l hl (by omega) _ (by omega), Option.bind_some]
  have e1 : bitsL x = List.zipWith (· ^^ ·) (bitsL l) ((List.range (8 * l.length)).map (E f 16 bs)) := by
    rw [bitsL_B x, hlen, bitsL_B l, zip_map]
    exact List.map_congr_left fun p _ => hB p
  have e2 := crc_xor (bitsL l) ((List.range (8 * l.length)).map (E f 16 bs)) 65535#16 0#16 (by rw [bitsL_B]; simp)
  rw [BitVec.xor_zero, ← e1, E_list f _ bs hf] at e2
  have e3 := crc_burst f (8 * l.length - f - 16) ((List.range 16).map (bs.testBit ·)) (by simp)
  have e4 : (∀ b ∈ (List.range 16).map (bs.testBit ·), b = false) ↔ bs = 0 := by
    constructor
    · intro h
      apply Nat.eq_of_testBit_eq
      intro i
      rw [Nat.zero_testBit]
      rcases Nat.lt_or_ge i 16 with hi | hi
      · exact h _ (List.mem_map.2 ⟨i, List.mem_range.2 hi, rfl⟩)
      · exact Nat.testBit_lt_two_pow (Nat.lt_of_lt_of_le (show bs < 2 ^ 16 from hbs) (Nat.pow_le_pow_right (show 2 > 0 by decide) hi))
    · rintro rfl b hb
      obtain ⟨i, _, rfl⟩ := List.mem_map.1 hb
      exact Nat.zero_testBit i
  rw [e4] at e3
  rw [e2]
  generalize crc 0#16 _ = d at e3
  generalize crc 65535#16 (bitsL l) = c
  have : ((((c ^^^ d).toNat : Int) != (c.toNat : Int)) == ((bs : Int) != 0)) = true := by
    by_cases h0 : bs = 0
    · have hd := e3.2 h0
      subst hd
      subst h0
      simp
    · have hd : d ≠ 0#16 := fun h => h0 (e3.1 h)
      have hne : (c ^^^ d).toNat ≠ c.toNat := by
        intro h
        apply hd
        have h2 := BitVec.eq_of_toNat_eq h
        have h3 := congrArg (fun z => c ^^^ z) h2
        rw [← BitVec.xor_assoc, BitVec.xor_self, BitVec.zero_xor] at h3
        exact h3
      have a1 : (((c ^^^ d).toNat : Int) != (c.toNat : Int)) = true := by
        rw [bne_iff_ne]
        exact fun h => hne (by exact_mod_cast h)
      have a2 : ((bs : Int) != 0) = true := by
        rw [bne_iff_ne]
        omega
      rw [a1, a2]
      rfl
  rw [if_pos this]
  rfl
theorem bu_bit (bs i : Nat) (hi : i < 16) : (Int.tmod (shr .u16 (bs : Int) (i : Int)) 2) = if bs.testBit i = true then 1 else 0 := by
  have hbit : (Int.tmod (shr .u16 (bs : Int) (i : Int)) 2) = ((bs / 2 ^ i % 2 : Nat) : Int) := by
    unfold shr
    rw [Int.toNat_natCast, show min i IntKind.u16.bits = i from by simp only [IntKind.bits]; omega]
    have : ((bs : Int) / 2 ^ i) = ((bs / 2 ^ i : Nat) : Int) := by simp
    rw [this, Int.tmod_eq_emod_of_nonneg (Int.natCast_nonneg _)]
    generalize bs / 2 ^ i = q
    omega
  rw [hbit, Nat.testBit_eq_decide_div_mod_eq]
  generalize bs / 2 ^ i = q
  by_cases h : q % 2 = 1
  · rw [if_pos (decide_eq_true h), h]
    rfl
  · rw [if_neg (by simpa using h), show q % 2 = 0 from by omega]
    rfl
theorem bu_l0 (l : List Int) (hl : Good l) (hn : l.length ≤ 300) (f : Nat) (hf : f + 16 ≤ 8 * l.length) (bs : Nat) (hbs : bs < 65536) : ∀ (d i k : Nat) (x : List Int), i + d = 16 → 1001 + d < k → Good x → x.length = l.length →
    (∀ p, B x p = (B l p ^^ E f i bs p)) → liverylaw15_SumsBursts.l0 k l (f : Int) (bs : Int) x (i : Int) = some true
  | 0, i, k, x, hi, hk, hx, hlen, hB => by
    obtain rfl : i = 16 := by omega
    exact bu_end l x hl hx hlen hn f hf bs hbs hB k (by omega)
  | d + 1, i, k, x, hi, hk, hx, hlen, hB => by
    obtain ⟨k, rfl⟩ : ∃ m, k = m + 1 := ⟨k - 1, by omega⟩
    have w1 : wrap64 ((i : Int) + 1) = ((i + 1 : Nat) : Int) := by rw [wrap_id (by omega) (by omega)]; omega
    have w2 : wrap64 ((f : Int) + (i : Int)) = ((f + i : Nat) : Int) := by rw [wrap_id (by omega) (by omega)]; omega
    have w3 : wrap64 (Int.tdiv ((f + i : Nat) : Int) 8) = (((f + i) / 8 : Nat) : Int) := by
      rw [Int.tdiv_eq_ediv_of_nonneg (by omega), wrap_id (by omega) (by omega)]
      omega
    have w4 : Int.tmod ((f + i : Nat) : Int) 8 = (((f + i) % 8 : Nat) : Int) := by
      rw [Int.tmod_eq_emod_of_nonneg (by omega)]
      omega
    rw [liverylaw15_SumsBursts.l0, if_pos (by omega), if_pos (by omega), bu_bit bs i (by omega), w1, w2, w3, w4]
    cases hb : bs.testBit i with
    | true =>
      rw [if_pos rfl, if_pos rfl, if_pos (by omega), if_pos (by omega), if_pos (by omega)]
      obtain ⟨v, hv, hg, hs⟩ := bu_set x hx (f + i) (by omega)
      rw [hv, Int.toNat_natCast]
      refine bu_l0 l hl hn f hf bs hbs d (i + 1) k _ (by omega) (by omega) (fun y hy => ?_) (by rw [List.length_set]; exact hlen) (fun p => ?_)
      · rcases List.mem_or_eq_of_mem_set hy with hy | hy
        · exact hx y hy
        · rw [hy]
          exact hg
      · rw [hs, hB, E_succ, hb]
        simp
    | false =>
      simp only [Bool.false_eq_true, if_false]
      rw [if_neg (by omega)]
      refine bu_l0 l hl hn f hf bs hbs d (i + 1) k x (by omega) (by omega) hx hlen (fun p => ?_)
      rw [hB, E_succ, hb]
      simp
theorem bu_j0 (l : List Int) (hl : Good l) (hn : l.length ≤ 300) (h2 : 2 ≤ l.length) (a : Int) (ha : 0 ≤ a) (bs : Nat) (hbs : bs < 65536) : liverylaw15_SumsBursts.j0 20000 l a (bs : Int) = some true := by
  have e : wrap64 ((wrap64 (8 * (l.length : Int))) - 15) = ((8 * l.length - 15 : Nat) : Int) := by
    rw [wrap_id (n := 8 * (l.length : Int)) (by omega) (by omega), wrap_id (by omega) (by omega)]
    omega
  have hm : Int.tmod a ((8 * l.length - 15 : Nat) : Int) = a % ((8 * l.length - 15 : Nat) : Int) := Int.tmod_eq_emod_of_nonneg ha
  have h0 : 0 ≤ a % ((8 * l.length - 15 : Nat) : Int) := Int.emod_nonneg _ (by omega)
  have h1 : a % ((8 * l.length - 15 : Nat) : Int) < ((8 * l.length - 15 : Nat) : Int) := Int.emod_lt_of_pos _ (by omega)
  rw [show (20000 : Nat) = 19999 + 1 from rfl, liverylaw15_SumsBursts.j0, e, hm, if_neg (by omega), if_pos (by simp only [List.length_nil]; omega), List.nil_append]
  obtain ⟨f, hf⟩ := Int.eq_ofNat_of_zero_le h0
  rw [hf] at h1 ⊢
  exact bu_l0 l hl hn f (by omega) bs hbs 16 0 19999 l (by omega) (by omega) hl rfl (fun p => by rw [E, show decide (f ≤ p ∧ p < f + 0) = false from decide_eq_false (by omega), Bool.false_and, Bool.xor_false])
theorem SumsBursts : liverylaw15_SumsBursts.Pure := by
  intro l a bs _ _ hw ha hbs
  have hg := good_take (good_of hw) 300
  have hn := few_len l
  have hmin : IntKind.i64.min = -9223372036854775808 := rfl
  have hmax : IntKind.i64.max = 9223372036854775807 := rfl
  have umin : IntKind.u16.min = 0 := rfl
  have umax : IntKind.u16.max = 65535 := rfl
  simp [Lit.wf] at ha hbs
  obtain ⟨b, rfl⟩ := Int.eq_ofNat_of_zero_le (show 0 ≤ bs from by omega)
  refine ⟨20000, ?_⟩
  unfold liverylaw15_SumsBursts.f
  rw [few_tells, Option.bind_some]
  by_cases h2 : ((l.take 300).length : Int) < 2
  · rw [if_pos h2]
    rfl
  · rw [if_neg h2]
    by_cases h : a < 0
    · rw [if_pos h, wrap_id (n := a + 1) (by omega) (by omega), wrap_id (by omega) (by omega)]
      exact bu_j0 _ hg hn (by omega) _ (by omega) b (by omega)
    · rw [if_neg h]
      exact bu_j0 _ hg hn (by omega) _ (by omega) b (by omega)

end Go.Proofs.Ytgbhmcpaaempjaa.Pure
