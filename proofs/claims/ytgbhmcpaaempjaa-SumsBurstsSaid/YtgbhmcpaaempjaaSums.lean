import Derived.Test.YtgbhmcpaaempjaaCrc
import Derived.Test.YtgbhmcpaaempjaaPrx
namespace Go.Proofs.Ytgbhmcpaaempjaa.Pure
open Go.RowKit Go.Proofs.Ytgbhmcpaaempjaa.Pr Go.Proofs.YtgbhmcpaaempjaaW.PrintWords Go.Proofs.YtgbhmcpaaempjaaW.PrintLast Go.Proofs.YtgbhmcpaaempjaaW.PrintMore
def Good (l : List Int) : Prop := ∀ x ∈ l, 0 ≤ x ∧ x ≤ 255
theorem good_of {l : List Int} (h : ∀ x ∈ l, (Lit.int .u8 x).wf = true) : Good l := fun x hx => by
  have := h x hx
  have h1 : IntKind.u8.min = 0 := rfl
  have h2 : IntKind.u8.max = 255 := rfl
  simp [Lit.wf] at this
  omega
theorem good_take {l : List Int} (h : Good l) (n : Nat) : Good (l.take n) := fun x hx => h x (List.mem_of_mem_take hx)
theorem good_drop {l : List Int} (h : Good l) (n : Nat) : Good (l.drop n) := fun x hx => h x (List.mem_of_mem_drop hx)
theorem wrap_id {n : Int} (h0 : -9223372036854775808 ≤ n) (h1 : n ≤ 9223372036854775807) : wrap64 n = n := by
  unfold wrap64
  omega
theorem rd_get (l : List Int) (i : Nat) (h : i < l.length) : rd l (i : Int) = l[i] := by
  unfold rd
  rw [Int.toNat_natCast, List.getD_eq_getElem?_getD, List.getElem?_eq_getElem h]
  rfl
theorem bits_drop (l : List Int) (i : Nat) (h : i < l.length) : bitsL (l.drop i) = bitsB l[i] ++ bitsL (l.drop (i + 1)) := by
  rw [List.drop_eq_getElem_cons h]
  rfl
theorem more_l0 (l : List Int) (hl : Good l) (hn : l.length ≤ 1000) : ∀ (d i k : Nat) (r : BitVec 16), i + d = l.length → d < k → sums_More.l0 k (r.toNat : Int) l (l.length : Int) (i : Int) = some ((crc r (bitsL (l.drop i))).toNat : Int)
  | 0, i, k, r, hi, hk => by
    obtain ⟨k, rfl⟩ : ∃ m, k = m + 1 := ⟨k - 1, by omega⟩
    have hr := r.isLt
    simp only [sums_More.l0]
    rw [if_neg (by omega), wrap_id (by omega) (by omega), List.drop_of_length_le (by omega)]
    rfl
  | d + 1, i, k, r, hi, hk => by
    obtain ⟨k, rfl⟩ : ∃ m, k = m + 1 := ⟨k - 1, by omega⟩
    have hlt : i < l.length := by omega
    have hb := hl l[i] (List.getElem_mem hlt)
    simp only [sums_More.l0]
    rw [if_pos (by omega), if_pos (by omega), if_pos (by omega), rd_get l i hlt, sums_byteIn.f, if_pos hb, Option.bind_some, byte_crc r _ hb.1 hb.2, wrap_id (by omega) (by omega)]
    rw [show ((i : Int) + 1) = ((i + 1 : Nat) : Int) from by omega, more_l0 l hl hn d (i + 1) k _ (by omega) (by omega), bits_drop l i hlt, crc_append]
theorem more_tells (l : List Int) (hl : Good l) (hn : l.length ≤ 1000) (a : Int) (k : Nat) (hk : 1000 < k) : sums_More.f k a l = some ((crc (BitVec.ofInt 16 a) (bitsL l)).toNat : Int) := by
  have h := more_l0 l hl hn l.length 0 k (BitVec.ofInt 16 a) (by omega) (by omega)
  unfold sums_More.f
  rw [IntKind.wrap_u16]
  have e : ((BitVec.ofInt 16 a).toNat : Int) = a % 65536 := by rw [BitVec.toNat_ofInt]; omega
  rw [e] at h
  exact h
theorem sum_tells (l : List Int) (hl : Good l) (hn : l.length ≤ 1000) (k : Nat) (hk : 1000 < k) : sums_Sum.f k l = some ((crc 65535#16 (bitsL l)).toNat : Int) := by
  unfold sums_Sum.f
  rw [more_tells l hl hn 65535 k hk]
  rfl
theorem more_lt (r : BitVec 16) (bs : List Bool) : 0 ≤ ((crc r bs).toNat : Int) ∧ ((crc r bs).toNat : Int) ≤ 65535 := by
  have := (crc r bs).isLt
  omega
/-! the reference -/
def bitsD (b : Int) : Nat → List Bool
  | 0 => []
  | m + 1 => b.toNat.testBit m :: bitsD b m
theorem bitsD8 (b : Int) : bitsD b 8 = bitsB b := rfl
theorem bitV_eq (r : BitVec 16) (b : Bool) : bitV r b = if r.msb = b then r <<< 1 else (r <<< 1) ^^^ 0x1021#16 := by
  unfold bitV T
  have h : (inp b) <<< 1 = 0#16 := by cases b <;> decide
  have hm : (inp b).msb = b := by cases b <;> decide
  rw [BitVec.shiftLeft_xor_distrib, h, BitVec.xor_zero, BitVec.msb_xor, hm]
  cases r.msb <;> cases b <;> simp
theorem i64_xor (a b : Nat) (ha : a < 65536) (hb : b < 65536) : bits .xor .i64 (a : Int) (b : Int) = ((a ^^^ b : Nat) : Int) := by
  have hx : a ^^^ b < 2 ^ 16 := Nat.xor_lt_two_pow (by omega) (by omega)
  have h64 : (2 : Nat) ^ IntKind.i64.bits = 18446744073709551616 := by decide
  simp only [bits, BitVec.ofInt_natCast, BitVec.toNat_xor, BitVec.toNat_ofNat]
  rw [h64, Nat.mod_eq_of_lt (by omega), Nat.mod_eq_of_lt (by omega), IntKind.wrap_i64]
  generalize a ^^^ b = q at *
  omega
theorem ref_step (r : BitVec 16) (b : Int) (m : Nat) (h0 : 0 ≤ b) (h1 : b ≤ 255) (hm : m < 8) :
    ((Int.tmod (wrap64 (Int.tdiv (r.toNat : Int) 32768)) 2) = (Int.tmod (shr .i64 (wrap64 b) (m : Int)) 2) ↔ r.msb = b.toNat.testBit m) ∧ (Int.tmod (wrap64 ((r.toNat : Int) * 2)) 65536) = ((r <<< 1 : BitVec 16).toNat : Int) := by
  obtain ⟨n, rfl⟩ := Int.eq_ofNat_of_zero_le h0
  have hr := r.isLt
  constructor
  · have e1 : Int.tmod (wrap64 (Int.tdiv (r.toNat : Int) 32768)) 2 = ((r.toNat / 32768 % 2 : Nat) : Int) := by
      rw [Int.tdiv_eq_ediv_of_nonneg (by omega), wrap_id (by omega) (by omega), Int.tmod_eq_emod_of_nonneg (by omega)]
      omega
    have e2 : Int.tmod (shr .i64 (wrap64 (n : Int)) (m : Int)) 2 = ((n / 2 ^ m % 2 : Nat) : Int) := by
      unfold shr
      rw [wrap_id (by omega) (by omega), Int.toNat_natCast, show min m IntKind.i64.bits = m from by simp only [IntKind.bits]; omega]
      have : ((n : Int) / 2 ^ m) = ((n / 2 ^ m : Nat) : Int) := by simp
      rw [this, Int.tmod_eq_emod_of_nonneg (Int.natCast_nonneg _)]
      generalize n / 2 ^ m = q
      omega
    rw [e1, e2]
    have hb : ∀ q j : Nat, q.testBit j = decide (q / 2 ^ j % 2 = 1) := fun q j => by rw [Nat.testBit_eq_decide_div_mod_eq]
    have hmsb : r.msb = r.toNat.testBit 15 := by rw [BitVec.msb_eq_getLsbD_last]; rfl
    rw [hmsb, hb, Int.toNat_natCast, hb]
    have p1 : r.toNat / 32768 % 2 < 2 := Nat.mod_lt _ (by omega)
    have p2 : n / 2 ^ m % 2 < 2 := Nat.mod_lt _ (by omega)
    have p3 : r.toNat / 2 ^ 15 % 2 = r.toNat / 32768 % 2 := rfl
    rw [p3]
    generalize r.toNat / 32768 % 2 = x at *
    generalize n / 2 ^ m % 2 = y at *
    constructor
    · intro h
      rw [show x = y from by omega]
    · intro h
      have : (x = 1) ↔ (y = 1) := by
        constructor
        · intro hx
          rw [hx] at h
          simpa using h.symm
        · intro hy
          rw [hy] at h
          simpa using h
      omega
  · rw [wrap_id (by omega) (by omega), Int.tmod_eq_emod_of_nonneg (by omega), BitVec.toNat_shiftLeft, Nat.shiftLeft_eq]
    omega
theorem ref_l1 (l : List Int) (hl : Good l) (hn : l.length ≤ 1000) (i : Nat) (hi : i < l.length) (k : Nat) : ∀ (m : Nat) (r : BitVec 16), m ≤ 8 →
    liveryref15_More.l1 (k + m + 1) (r.toNat : Int) l (i : Int) ((m : Int) - 1) = liveryref15_More.l0 k ((crc r (bitsD l[i] m)).toNat : Int) l ((i + 1 : Nat) : Int)
  | 0, r, _ => by
    simp only [liveryref15_More.l1]
    rw [if_neg (by omega), wrap_id (by omega) (by omega)]
    rfl
  | m + 1, r, hm => by
    have hb := hl l[i] (List.getElem_mem hi)
    obtain ⟨hc, hd⟩ := ref_step r l[i] m hb.1 hb.2 (by omega)
    rw [show k + (m + 1) + 1 = (k + m + 1) + 1 from by omega, show (((m + 1 : Nat) : Int) - 1) = (m : Int) from by omega]
    rw [liveryref15_More.l1]
    rw [if_pos (by omega), if_pos (by omega), if_pos (by omega), if_pos (by omega), rd_get l i hi, hd, wrap_id (n := (m : Int) - 1) (by omega) (by omega)]
    show _ = liveryref15_More.l0 k ((crc (bitV r (l[i].toNat.testBit m)) (bitsD l[i] m)).toNat : Int) l ((i + 1 : Nat) : Int)
    rw [bitV_eq]
    by_cases h : r.msb = l[i].toNat.testBit m
    · rw [if_pos (hc.2 h), if_pos h]
      exact ref_l1 l hl hn i hi k m _ (by omega)
    · rw [if_neg (fun h' => h (hc.1 h')), if_neg h]
      have hs := (r <<< 1 : BitVec 16).isLt
      have hx := i64_xor (r <<< 1 : BitVec 16).toNat 4129 hs (by decide)
      rw [show ((4129 : Nat) : Int) = 4129 from rfl] at hx
      rw [hx]
      have e : (r <<< 1 : BitVec 16).toNat ^^^ 4129 = ((r <<< 1) ^^^ 0x1021#16).toNat := by rw [BitVec.toNat_xor]; rfl
      rw [e]
      exact ref_l1 l hl hn i hi k m _ (by omega)
theorem ref_l0 (l : List Int) (hl : Good l) (hn : l.length ≤ 1000) : ∀ (d i k : Nat) (r : BitVec 16), i + d = l.length → 10 * d < k → liveryref15_More.l0 k (r.toNat : Int) l (i : Int) = some ((crc r (bitsL (l.drop i))).toNat : Int)
  | 0, i, k, r, hi, hk => by
    obtain ⟨k, rfl⟩ : ∃ m, k = m + 1 := ⟨k - 1, by omega⟩
    simp only [liveryref15_More.l0]
    rw [if_neg (by omega), List.drop_of_length_le (by omega)]
    rfl
  | d + 1, i, k, r, hi, hk => by
    obtain ⟨k, rfl⟩ : ∃ m, k = m + 10 := ⟨k - 10, by omega⟩
    have hlt : i < l.length := by omega
    rw [show k + 10 = (k + 8 + 1) + 1 from rfl]
    simp only [liveryref15_More.l0]
    rw [if_pos (by omega)]
    have h1 := ref_l1 l hl hn i hlt k 8 r (by omega)
    rw [show (((8 : Nat) : Int) - 1) = 7 from rfl, bitsD8] at h1
    rw [h1, ref_l0 l hl hn d (i + 1) k _ (by omega) (by omega), bits_drop l i hlt, crc_append]
theorem refmore_tells (l : List Int) (hl : Good l) (hn : l.length ≤ 1000) (a : Int) (h0 : 0 ≤ a) (h1 : a ≤ 65535) (k : Nat) (hk : 10000 < k) : liveryref15_More.f k a l = some ((crc (BitVec.ofInt 16 a) (bitsL l)).toNat : Int) := by
  have h := ref_l0 l hl hn l.length 0 k (BitVec.ofInt 16 a) (by omega) (by omega)
  have e : ((BitVec.ofInt 16 a).toNat : Int) = a := by rw [BitVec.toNat_ofInt]; omega
  rw [e] at h
  exact h
theorem refsum_tells (l : List Int) (hl : Good l) (hn : l.length ≤ 1000) (k : Nat) (hk : 10000 < k) : liveryref15_Sum.f k l = some ((crc 65535#16 (bitsL l)).toNat : Int) := by
  unfold liveryref15_Sum.f
  rw [refmore_tells l hl hn 65535 (by omega) (by omega) k hk]
  rfl
theorem same_l0 (l : List Int) (hn : l.length ≤ 1000) : ∀ (d i k : Nat), i + d = l.length → d < k → liveryref01_Same.l0 k l l (i : Int) = some true
  | 0, i, k, hi, hk => by
    obtain ⟨k, rfl⟩ : ∃ m, k = m + 1 := ⟨k - 1, by omega⟩
    simp only [liveryref01_Same.l0]
    rw [if_neg (by omega)]
  | d + 1, i, k, hi, hk => by
    obtain ⟨k, rfl⟩ : ∃ m, k = m + 1 := ⟨k - 1, by omega⟩
    simp only [liveryref01_Same.l0]
    rw [if_pos (by omega), if_pos (by omega), if_pos (by omega), if_pos trivial, wrap_id (by omega) (by omega)]
    exact same_l0 l hn d (i + 1) k (by omega) (by omega)
theorem same_tells (l : List Int) (hn : l.length ≤ 1000) (k : Nat) (hk : 1000 < k) : liveryref01_Same.f k l l = some true := by
  unfold liveryref01_Same.f
  rw [if_pos rfl]
  exact same_l0 l hn l.length 0 k (by omega) (by omega)
theorem few_tells (l : List Int) : liverylaw15_few.f l = some (l.take 300) := by
  unfold liverylaw15_few.f
  by_cases h : (l.length : Int) > 300
  · rw [if_pos h, if_pos (by omega)]
  · rw [if_neg h, List.take_of_length_le (by omega)]
theorem few_len (l : List Int) : (l.take 300).length ≤ 300 := List.length_take_le _ _
end Go.Proofs.Ytgbhmcpaaempjaa.Pure
