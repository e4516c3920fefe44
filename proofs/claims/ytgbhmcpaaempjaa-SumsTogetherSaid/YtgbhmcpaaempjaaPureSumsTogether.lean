/- Of three texts of one length: their three sums put together are the sum of the three put together; for every input. -/
import Derived.Test.YtgbhmcpaaempjaaPrx7
import Derived.Test.YtgbhmcpaaempjaaSums
namespace Go.Proofs.Ytgbhmcpaaempjaa.Pure
open Go.RowKit Go.Proofs.Ytgbhmcpaaempjaa.Pr Go.Proofs.YtgbhmcpaaempjaaW.PrintWords Go.Proofs.YtgbhmcpaaempjaaW.PrintLast Go.Proofs.YtgbhmcpaaempjaaW.PrintMore
theorem tg_bits_app (a b : List Int) : bitsL (a ++ b) = bitsL a ++ bitsL b := by unfold bitsL; rw [List.flatMap_append]
theorem tg_xor_good (x y : Int) (hx : 0 ≤ x ∧ x ≤ 255) (hy : 0 ≤ y ∧ y ≤ 255) : (0 ≤ bits .xor .u8 x y ∧ bits .xor .u8 x y ≤ 255) ∧ bitsB (bits .xor .u8 x y) = List.zipWith (· ^^ ·) (bitsB x) (bitsB y) := by
  have h := u8_xor x y hx.1 (by omega) hy.1 (by omega)
  have hlt : x.toNat ^^^ y.toNat < 2 ^ 8 := Nat.xor_lt_two_pow (by omega) (by omega)
  rw [h]
  refine ⟨⟨by omega, by omega⟩, ?_⟩
  unfold bitsB
  simp only [Int.toNat_natCast, Nat.testBit_xor, List.zipWith_cons_cons, List.zipWith_nil_right]
def x3 (a b c : List Int) (i : Nat) : Int := bits .xor .u8 (bits .xor .u8 (rd a (i : Int)) (rd b (i : Int))) (rd c (i : Int))
def xs (a b c : List Int) : Nat → List Int
  | 0 => []
  | n + 1 => xs a b c n ++ [x3 a b c n]
theorem xs_len (a b c : List Int) : ∀ n, (xs a b c n).length = n
  | 0 => rfl
  | n + 1 => by rw [xs, List.length_append, xs_len a b c n]; rfl
theorem bitsB_len (x : Int) : (bitsB x).length = 8 := rfl
theorem bitsL_len : ∀ (l : List Int), (bitsL l).length = 8 * l.length
  | [] => rfl
  | x :: l => by
    have : bitsL (x :: l) = bitsB x ++ bitsL l := rfl
    rw [this, List.length_append, bitsL_len l, bitsB_len, List.length_cons]
    omega
theorem take_snoc (l : List Int) (n : Nat) (h : n < l.length) : l.take (n + 1) = l.take n ++ [l[n]] := by rw [List.take_succ_eq_append_getElem h]
theorem one_bits (x : Int) : bitsL [x] = bitsB x := by
  show bitsB x ++ [] = bitsB x
  rw [List.append_nil]
theorem xs_bits (a b c : List Int) (ha : Good a) (hb : Good b) (hc : Good c) : ∀ (n : Nat), n ≤ a.length → n ≤ b.length → n ≤ c.length →
    Good (xs a b c n) ∧ bitsL (xs a b c n) = List.zipWith (· ^^ ·) (List.zipWith (· ^^ ·) (bitsL (a.take n)) (bitsL (b.take n))) (bitsL (c.take n))
  | 0, _, _, _ => ⟨fun x h => by simp [xs] at h, rfl⟩
  | n + 1, h1, h2, h3 => by
    obtain ⟨g, e⟩ := xs_bits a b c ha hb hc n (by omega) (by omega) (by omega)
    have p := tg_xor_good a[n] b[n] (ha _ (List.getElem_mem (by omega))) (hb _ (List.getElem_mem (by omega)))
    have q := tg_xor_good (bits .xor .u8 a[n] b[n]) c[n] p.1 (hc _ (List.getElem_mem (by omega)))
    have hx : x3 a b c n = bits .xor .u8 (bits .xor .u8 a[n] b[n]) c[n] := by
      unfold x3
      rw [rd_get a n (by omega), rd_get b n (by omega), rd_get c n (by omega)]
    rw [xs, hx]
    constructor
    · intro x hm
      rcases List.mem_append.1 hm with hm | hm
      · exact g x hm
      · rw [List.mem_singleton.1 hm]
        exact q.1
    · rw [tg_bits_app, e, take_snoc a n (by omega), take_snoc b n (by omega), take_snoc c n (by omega), tg_bits_app, tg_bits_app, tg_bits_app]
      rw [List.zipWith_append (by rw [bitsL_len, bitsL_len, List.length_take, List.length_take]; omega)]
      rw [List.zipWith_append (by rw [List.length_zipWith, bitsL_len, bitsL_len, bitsL_len, List.length_take, List.length_take, List.length_take]; omega)]
      rw [one_bits, one_bits, one_bits, one_bits, q.2, p.2]
theorem tg_end (a b c : List Int) (ha : Good a) (hb : Good b) (hc : Good c) (n : Nat) (h1 : n ≤ a.length) (h2 : n ≤ b.length) (h3 : n ≤ c.length) (hn : n ≤ 300) (k : Nat) (hk : 1001 < k) :
    liverylaw15_SumsTogether.l0 k a b c (n : Int) (xs a b c n) (n : Int) = some true := by
  obtain ⟨k, rfl⟩ : ∃ m, k = m + 1 := ⟨k - 1, by omega⟩
  obtain ⟨g, e⟩ := xs_bits a b c ha hb hc n h1 h2 h3
  rw [liverylaw15_SumsTogether.l0, if_neg (by omega), if_pos (by omega), if_pos (by omega), Int.toNat_natCast]
  rw [sum_tells _ (good_take ha n) (by rw [List.length_take]; omega) _ (by omega), Option.bind_some, if_pos (by omega)]
  rw [sum_tells _ (good_take hb n) (by rw [List.length_take]; omega) _ (by omega), Option.bind_some, if_pos (by omega)]
  rw [sum_tells _ (good_take hc n) (by rw [List.length_take]; omega) _ (by omega), Option.bind_some]
  rw [sum_tells _ g (by rw [xs_len]; omega) _ (by omega), Option.bind_some, e]
  have c1 := crc_xor (bitsL (a.take n)) (bitsL (b.take n)) 65535#16 65535#16 (by rw [bitsL_len, bitsL_len, List.length_take, List.length_take]; omega)
  have c2 := crc_xor (List.zipWith (· ^^ ·) (bitsL (a.take n)) (bitsL (b.take n))) (bitsL (c.take n)) 0#16 65535#16 (by rw [List.length_zipWith, bitsL_len, bitsL_len, bitsL_len, List.length_take, List.length_take, List.length_take]; omega)
  rw [show (65535#16 ^^^ 65535#16) = 0#16 from by decide] at c1
  rw [show (0#16 ^^^ 65535#16) = 65535#16 from by decide, c1] at c2
  rw [c2]
  generalize crc 65535#16 (bitsL (a.take n)) = x
  generalize crc 65535#16 (bitsL (b.take n)) = y
  generalize crc 65535#16 (bitsL (c.take n)) = z
  rw [i64_xor x.toNat y.toNat x.isLt y.isLt, ← BitVec.toNat_xor, i64_xor (x ^^^ y).toNat z.toNat (x ^^^ y).isLt z.isLt, ← BitVec.toNat_xor, if_pos rfl]
  rfl
theorem tg_l0 (a b c : List Int) (ha : Good a) (hb : Good b) (hc : Good c) (n : Nat) (h1 : n ≤ a.length) (h2 : n ≤ b.length) (h3 : n ≤ c.length) (hn : n ≤ 300) : ∀ (d i k : Nat), i + d = n → 1001 + d < k →
    liverylaw15_SumsTogether.l0 k a b c (n : Int) (xs a b c i) (i : Int) = some true
  | 0, i, k, hi, hk => by
    obtain rfl : i = n := by omega
    exact tg_end a b c ha hb hc i h1 h2 h3 hn k (by omega)
  | d + 1, i, k, hi, hk => by
    obtain ⟨k, rfl⟩ : ∃ m, k = m + 1 := ⟨k - 1, by omega⟩
    rw [liverylaw15_SumsTogether.l0, if_pos (by omega), if_pos (by omega), if_pos (by omega), if_pos (by omega), if_pos (by omega), if_pos (by rw [xs_len]; omega), wrap_id (by omega) (by omega)]
    exact tg_l0 a b c ha hb hc n h1 h2 h3 hn d (i + 1) k (by omega) (by omega)
theorem tg_j (a b c : List Int) (ha : Good a) (hb : Good b) (hc : Good c) (n : Nat) (h1 : n ≤ a.length) (hn : n ≤ 300) : liverylaw15_SumsTogether.j0 4000 a b c (n : Int) = some true := by
  have j2 : ∀ m : Nat, m ≤ a.length → m ≤ b.length → m ≤ c.length → m ≤ 300 → liverylaw15_SumsTogether.j2 3998 a b c (m : Int) = some true := fun m m1 m2 m3 m4 => by
    rw [show (3998 : Nat) = 3997 + 1 from rfl, liverylaw15_SumsTogether.j2]
    exact tg_l0 a b c ha hb hc m m1 m2 m3 m4 m 0 3997 (by omega) (by omega)
  have j1 : ∀ m : Nat, m ≤ a.length → m ≤ b.length → m ≤ 300 → liverylaw15_SumsTogether.j1 3999 a b c (m : Int) = some true := fun m m1 m2 m4 => by
    rw [show (3999 : Nat) = 3998 + 1 from rfl, liverylaw15_SumsTogether.j1]
    by_cases h : (c.length : Int) < m
    · rw [if_pos h]
      exact j2 c.length (by omega) (by omega) (by omega) (by omega)
    · rw [if_neg h]
      exact j2 m m1 m2 (by omega) m4
  rw [show (4000 : Nat) = 3999 + 1 from rfl, liverylaw15_SumsTogether.j0]
  by_cases h : (b.length : Int) < n
  · rw [if_pos h]
    exact j1 b.length (by omega) (by omega) (by omega)
  · rw [if_neg h]
    exact j1 n h1 (by omega) hn
theorem SumsTogether : liverylaw15_SumsTogether.Pure := by
  intro a b c _ _ ha _ _ hb _ _ hc
  refine ⟨4000, ?_⟩
  unfold liverylaw15_SumsTogether.f
  by_cases h : (a.length : Int) < 300
  · rw [if_pos h]
    exact tg_j a b c (good_of ha) (good_of hb) (good_of hc) a.length (by omega) (by omega)
  · rw [if_neg h]
    exact tg_j a b c (good_of ha) (good_of hb) (good_of hc) 300 (by omega) (by omega)

end Go.Proofs.Ytgbhmcpaaempjaa.Pure
