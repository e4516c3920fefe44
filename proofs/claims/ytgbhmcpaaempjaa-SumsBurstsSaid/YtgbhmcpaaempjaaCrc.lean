import Derived.Test.YtgbhmcpaaempjaaByte
import Derived.Laws.BitsAllLaws
namespace Go.Proofs.Ytgbhmcpaaempjaa
open Go.RowKit
/-- One bit of zero through the register. -/
def T (r : BitVec 16) : BitVec 16 := (r <<< 1) ^^^ (if r.msb then 0x1021#16 else 0#16)
def inp (b : Bool) : BitVec 16 := if b then 0x8000#16 else 0#16
def bitV (r : BitVec 16) (b : Bool) : BitVec 16 := T (r ^^^ inp b)
def crc (r : BitVec 16) (bs : List Bool) : BitVec 16 := bs.foldl bitV r
def Tn : Nat → BitVec 16 → BitVec 16
  | 0, r => r
  | n + 1, r => Tn n (T r)
def bitsB (b : Int) : List Bool := [b.toNat.testBit 7, b.toNat.testBit 6, b.toNat.testBit 5, b.toNat.testBit 4, b.toNat.testBit 3, b.toNat.testBit 2, b.toNat.testBit 1, b.toNat.testBit 0]
def bitsL (l : List Int) : List Bool := l.flatMap bitsB

theorem T_xor (x y : BitVec 16) : T (x ^^^ y) = T x ^^^ T y := by
  unfold T
  rw [BitVec.msb_xor, BitVec.shiftLeft_xor_distrib]
  cases x.msb <;> cases y.msb <;> simp [BitVec.xor_assoc]
  · rw [BitVec.xor_comm (y <<< 1)]
  · rw [← BitVec.xor_assoc (4129#16), BitVec.xor_comm (4129#16), BitVec.xor_assoc, BitVec.xor_self]; simp
theorem T_zero : T 0#16 = 0#16 := by decide
theorem inp_xor (a b : Bool) : inp (a ^^ b) = inp a ^^^ inp b := by cases a <;> cases b <;> decide
theorem bitV_xor (r s : BitVec 16) (a b : Bool) : bitV (r ^^^ s) (a ^^ b) = bitV r a ^^^ bitV s b := by
  unfold bitV
  rw [← T_xor, inp_xor]
  congr 1
  rw [BitVec.xor_assoc, BitVec.xor_assoc, ← BitVec.xor_assoc s, ← BitVec.xor_assoc (inp a), BitVec.xor_comm s]
theorem crc_xor : ∀ (xs ys : List Bool) (r s : BitVec 16), xs.length = ys.length → crc (r ^^^ s) (List.zipWith (· ^^ ·) xs ys) = crc r xs ^^^ crc s ys
  | [], [], r, s, _ => rfl
  | x :: xs, y :: ys, r, s, h => by
    show crc (bitV (r ^^^ s) (x ^^ y)) (List.zipWith (· ^^ ·) xs ys) = crc (bitV r x) xs ^^^ crc (bitV s y) ys
    rw [bitV_xor]
    exact crc_xor xs ys _ _ (by simpa using h)
  | [], _ :: _, _, _, h => by simp at h
  | _ :: _, [], _, _, h => by simp at h
theorem crc_append (r : BitVec 16) (xs ys : List Bool) : crc r (xs ++ ys) = crc (crc r xs) ys := by unfold crc; rw [List.foldl_append]
theorem Tn_xor : ∀ (n : Nat) (x y : BitVec 16), Tn n (x ^^^ y) = Tn n x ^^^ Tn n y
  | 0, _, _ => rfl
  | n + 1, x, y => by rw [Tn, T_xor, Tn_xor n]; rfl
theorem crc_zeros : ∀ (n : Nat) (r : BitVec 16), crc r (List.replicate n false) = Tn n r
  | 0, _ => rfl
  | n + 1, r => by
    rw [List.replicate_succ]
    show crc (bitV r false) (List.replicate n false) = Tn n (T r)
    rw [crc_zeros n, bitV]
    simp [inp]
/-- A byte: the register's upper byte is turned, then eight bits of zero go through. -/
theorem byte_zero : ∀ b : Fin 256, crc 0#16 (bitsB (b.val : Int)) = Tn 8 (BitVec.ofNat 16 (b.val * 256)) := by decide +kernel
theorem zip_zeros (xs : List Bool) : List.zipWith (· ^^ ·) (List.replicate xs.length false) xs = xs := by
  induction xs with
  | nil => rfl
  | cons x xs ih => simp [List.replicate_succ, ih]
theorem crc_byte (r : BitVec 16) (b : Int) (h0 : 0 ≤ b) (h1 : b ≤ 255) : crc r (bitsB b) = Tn 8 (r ^^^ BitVec.ofNat 16 (b.toNat * 256)) := by
  have h := crc_xor (List.replicate (bitsB b).length false) (bitsB b) r 0#16 (by simp)
  rw [zip_zeros, crc_zeros] at h
  rw [BitVec.xor_zero] at h
  rw [h, Tn_xor]
  have hb := byte_zero ⟨b.toNat, by omega⟩
  simp only at hb
  rw [show ((b.toNat : Nat) : Int) = b from by omega] at hb
  rw [hb]
  rfl
theorem and_top (n : Nat) : n &&& 32768 = (n.testBit 15).toNat * 32768 := by
  apply Nat.eq_of_testBit_eq
  intro i
  rw [Nat.testBit_and, show (32768 : Nat) = 2 ^ 15 from rfl, Nat.testBit_two_pow]
  by_cases h : 15 = i
  · subst h
    cases n.testBit 15 <;> decide
  · cases n.testBit 15
    · simp [h]
    · rw [Bool.toNat_true, Nat.one_mul, Nat.testBit_two_pow]
      simp [h]
theorem bstep_T (x : BitVec 16) : bstep (x.toNat : Int) = ((T x).toNat : Int) := by
  have hx := x.isLt
  have hm : x.msb = x.toNat.testBit 15 := by rw [BitVec.msb_eq_getLsbD_last]; rfl
  have ha : bits .and .u16 (x.toNat : Int) 32768 = ((x.toNat &&& 32768 : Nat) : Int) := u16_and_nat x.toNat 32768 hx (by decide)
  have hd : IntKind.u16.wrap ((x.toNat : Int) * 2) = (((x <<< 1 : BitVec 16).toNat : Nat) : Int) := by
    rw [IntKind.wrap_u16, BitVec.toNat_shiftLeft, Nat.shiftLeft_eq]
    omega
  unfold bstep T
  rw [ha, hd, hm]
  have ht : x.toNat &&& 32768 = (x.toNat.testBit 15).toNat * 32768 := and_top x.toNat
  rw [ht]
  cases x.toNat.testBit 15 with
  | false => simp
  | true =>
    simp only [Bool.toNat_true, if_true]
    rw [if_pos (by decide)]
    have hl := (x <<< 1 : BitVec 16).isLt
    have := u16_xor_nat (x <<< 1 : BitVec 16).toNat 4129 hl (by decide)
    simp only [BitVec.toNat_xor]
    exact this
theorem bsteps_Tn : ∀ (n : Nat) (x : BitVec 16), bsteps n (x.toNat : Int) = ((Tn n x).toNat : Int)
  | 0, _ => rfl
  | n + 1, x => by rw [bsteps, bstep_T, bsteps_Tn n]; rfl
theorem byte_crc (x : BitVec 16) (b : Int) (h0 : 0 ≤ b) (h1 : b ≤ 255) : bsteps 8 (bits .xor .u16 (x.toNat : Int) (b * 256)) = ((crc x (bitsB b)).toNat : Int) := by
  rw [crc_byte x b h0 h1, ← bsteps_Tn]
  congr 1
  obtain ⟨n, rfl⟩ := Int.eq_ofNat_of_zero_le h0
  have hn : n * 256 < 65536 := by omega
  have := u16_xor_nat x.toNat (n * 256) x.isLt hn
  rw [show ((n : Int) * 256) = ((n * 256 : Nat) : Int) from by omega, this]
  simp only [Int.toNat_natCast, BitVec.toNat_xor, BitVec.toNat_ofNat]
  rw [Nat.mod_eq_of_lt hn]
/-- Nothing but zero goes to zero. -/
theorem T_inj (x : BitVec 16) (h : T x = 0#16) : x = 0#16 := by
  unfold T at h
  have hl : (x <<< 1).getLsbD 0 = false := by simp
  cases hm : x.msb with
  | true =>
    rw [hm] at h
    have := congrArg (fun y : BitVec 16 => y.getLsbD 0) h
    simp at this
  | false =>
    rw [hm] at h
    simp only [Bool.false_eq_true, if_false, BitVec.xor_zero] at h
    have hx : x.toNat < 2 ^ 15 := by
      rw [BitVec.msb_eq_decide] at hm
      simpa using hm
    have h2 := congrArg BitVec.toNat h
    rw [BitVec.toNat_shiftLeft, Nat.shiftLeft_eq] at h2
    apply BitVec.eq_of_toNat_eq
    simp at h2 ⊢
    omega
theorem Tn_inj : ∀ (n : Nat) (x : BitVec 16), Tn n x = 0#16 → x = 0#16
  | 0, _, h => h
  | n + 1, x, h => T_inj x (Tn_inj n _ h)
/-- Up to 16 bits as they lie in the register. -/
def pack : Nat → List Bool → BitVec 16
  | _, [] => 0#16
  | i, b :: bs => (if b then 0x8000#16 >>> i else 0#16) ^^^ pack (i + 1) bs
theorem Tn_T : ∀ (n : Nat) (x : BitVec 16), Tn n (T x) = T (Tn n x)
  | 0, _ => rfl
  | n + 1, x => by rw [Tn, Tn_T n (T x)]; rfl
theorem Tn_add : ∀ (m n : Nat) (x : BitVec 16), Tn (m + n) x = Tn m (Tn n x)
  | 0, n, x => by rw [Nat.zero_add]; rfl
  | m + 1, n, x => by rw [show m + 1 + n = (m + n) + 1 from by omega, Tn, Tn_T, Tn_add m n, ← Tn_T]; rfl
theorem Tn_top (i : Nat) (h : i < 16) : Tn i (0x8000#16 >>> i) = 0x8000#16 := by
  have : ∀ i : Fin 16, Tn i.val (0x8000#16 >>> i.val) = 0x8000#16 := by decide +kernel
  exact this ⟨i, h⟩
theorem Tn_zero : ∀ n, Tn n 0#16 = 0#16
  | 0 => rfl
  | n + 1 => by rw [Tn, T_zero, Tn_zero n]
theorem crc_pack : ∀ (bs : List Bool) (i : Nat) (p : BitVec 16), i + bs.length ≤ 16 → crc (Tn i p) bs = Tn (i + bs.length) (p ^^^ pack i bs)
  | [], i, p, _ => by simp [crc, pack]
  | b :: bs, i, p, h => by
    rw [List.length_cons] at h ⊢
    have hb : bitV (Tn i p) b = Tn (i + 1) (p ^^^ (if b then 0x8000#16 >>> i else 0#16)) := by
      rw [bitV, Tn, Tn_T]
      congr 1
      rw [Tn_xor]
      congr 1
      cases b with
      | false => simp [inp, Tn_zero]
      | true => simp only [inp, if_true]; exact (Tn_top i (by omega)).symm
    show crc (bitV (Tn i p) b) bs = _
    rw [hb, crc_pack bs (i + 1) _ (by omega), pack, ← BitVec.xor_assoc, show i + 1 + bs.length = i + (bs.length + 1) from by omega]
theorem pack_low : ∀ (bs : List Bool) (i m : Nat), i + bs.length ≤ 16 → 15 < m + i → (pack i bs).getLsbD m = false
  | [], _, _, _, _ => by simp [pack]
  | b :: bs, i, m, h, hm => by
    rw [List.length_cons] at h
    rw [pack, BitVec.getLsbD_xor, pack_low bs (i + 1) m (by omega) (by omega), Bool.xor_false]
    cases b with
    | false => simp
    | true =>
      simp only [if_true, BitVec.getLsbD_ushiftRight]
      exact BitVec.getLsbD_of_ge _ _ (by omega)
theorem pack_bit : ∀ (bs : List Bool) (i j : Nat) (hj : j < bs.length), i + bs.length ≤ 16 → (pack i bs).getLsbD (15 - i - j) = bs[j]
  | b :: bs, i, 0, _, h => by
    rw [List.length_cons] at h
    rw [pack, BitVec.getLsbD_xor, pack_low bs (i + 1) (15 - i - 0) (by omega) (by omega), Bool.xor_false]
    cases b with
    | false => simp
    | true =>
      simp only [if_true, BitVec.getLsbD_ushiftRight, List.getElem_cons_zero]
      rw [show i + (15 - i - 0) = 15 from by omega]
      decide
  | b :: bs, i, j + 1, hj, h => by
    rw [List.length_cons] at h hj
    have ih := pack_bit bs (i + 1) j (by omega) (by omega)
    rw [show 15 - (i + 1) - j = 15 - i - (j + 1) from by omega] at ih
    rw [pack, BitVec.getLsbD_xor, ih, List.getElem_cons_succ]
    cases b with
    | false => simp
    | true =>
      simp only [if_true, BitVec.getLsbD_ushiftRight]
      have : ∀ n : Fin 15, (0x8000#16).getLsbD n.val = false := by decide
      rw [this ⟨i + (15 - i - (j + 1)), by omega⟩]
      simp
/-- A burst of sixteen bits, with zeros around it: the register is zero only if all bits are. -/
theorem crc_burst (m n : Nat) (bs : List Bool) (hb : bs.length = 16) : crc 0#16 (List.replicate m false ++ bs ++ List.replicate n false) = 0#16 ↔ ∀ b ∈ bs, b = false := by
  rw [crc_append, crc_append, crc_zeros, crc_zeros, Tn_zero]
  have h := crc_pack bs 0 0#16 (by omega)
  rw [show Tn 0 0#16 = 0#16 from rfl, BitVec.zero_xor] at h
  rw [h]
  constructor
  · intro h0 b hbm
    have hz := Tn_inj _ _ (Tn_inj _ _ h0)
    obtain ⟨j, hj, rfl⟩ := List.getElem_of_mem hbm
    have := pack_bit bs 0 j hj (by omega)
    rw [hz] at this
    simpa using this.symm
  · intro hall
    have hp : ∀ (l : List Bool) (i : Nat), (∀ b ∈ l, b = false) → pack i l = 0#16 := by
      intro l
      induction l with
      | nil => intro i _; rfl
      | cons b l ih =>
        intro i hl
        rw [pack, ih (i + 1) (fun b hb => hl b (List.mem_cons_of_mem _ hb)), hl b List.mem_cons_self]
        simp
    rw [hp bs 0 hall, Tn_zero, Tn_zero]
end Go.Proofs.Ytgbhmcpaaempjaa
