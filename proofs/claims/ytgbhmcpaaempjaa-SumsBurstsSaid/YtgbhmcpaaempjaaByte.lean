import Derived.Test.YtgbhmcpaaempjaaChecked
import Derived.WalkKit
import Derived.WalkMore
import Derived.ScopeJumps
import Derived.Laws.Bits
import Derived.Laws.BitsLemmas
import Derived.Laws.Shifts
import Derived.Below
import Derived.Lib.Hide
namespace Go.Proofs.Ytgbhmcpaaempjaa
open Go.RowKit
def bstep (r : Int) : Int := if (bits .and .u16 r 32768 != 0) = true then bits .xor .u16 (IntKind.u16.wrap (r * 2)) 4129 else IntKind.u16.wrap (r * 2)
def bsteps : Nat → Int → Int
  | 0, r => r
  | n + 1, r => bsteps n (bstep r)
theorem bstep_yes {r : Int} (h : (bits .and .u16 r 32768 != 0) = true) : bits .xor .u16 (IntKind.u16.wrap (r * 2)) 4129 = bstep r := by rw [bstep, if_pos h]
theorem bstep_no {r : Int} (h : (bits .and .u16 r 32768 != 0) = false) : IntKind.u16.wrap (r * 2) = bstep r := by rw [bstep, if_neg (by rw [h]; simp)]
def Rel (b r0 : Int) (w : World) (a' : Act) (w' : World) : Prop := w = w' ∧ ∃ (m : Nat) (acc : Int) (v2 v3 v6 v7 v8 v9 v10 v11 v12 v13 v14 v15 v16 v17 v18 v19 v20 v21 v22 v23 v24 : Value), a' = { tmps := #[.int .u16 acc, .int .u8 b, v2, v3, .int .u16 0, .int .i64 m, v6, v7, v8, v9, v10, v11, v12, v13, v14, v15, v16, v17, v18, v19, v20, v21, v22, v23, v24], defers := [] } ∧ bsteps (8 - m) acc = bsteps 8 r0 ∧ m ≤ 7
theorem bsteps_at {m : Nat} {acc r0 : Int} (h : bsteps (8 - m) acc = bsteps 8 r0) (hm : m ≤ 7) : bsteps (8 - (m + 1)) (bstep acc) = bsteps 8 r0 := by
  rw [← h, show 8 - m = (8 - (m + 1)) + 1 from by omega]
  rfl
set_option maxRecDepth 1000000 in
theorem byteIn_walk (r b : Int) (w : World) (hb0 : 0 ≤ b) (hb1 : b ≤ 255) :
    Calls Try.prog 18 #[.int .u16 r, .int .u8 b] w fun e w' => e = .returned (.int .u16 (bsteps 8 (bits .xor .u16 r (b * 256)))) ∧ w = w' := by
  go_enter Try.func18, Try.ntmps18
  go_wp2
  refine wp_scope_jumps 0 (Rel b (bits .xor .u16 r (b * 256)) w) (fun a' _ => 8 - (intOf (a'.tmps.getD 5 undef)).toNat) rfl ?_ ?_
  · go_wp2
    go_step3
    go_wp2
    · go_step3
      exact ⟨rfl, rfl, 1, _, _, _, _, _, _, _, _, _, _, _, _, _, _, _, _, _, _, _, _, _, _, rfl, by rw [bstep_yes ‹_›]; rfl, by omega⟩
    · go_step3
      exact ⟨rfl, rfl, 1, _, _, _, _, _, _, _, _, _, _, _, _, _, _, _, _, _, _, _, _, _, _, rfl, by rw [bstep_no ‹_›]; rfl, by omega⟩
  · rintro a' w' ⟨rfl, m, acc, v2, v3, v6, v7, v8, v9, v10, v11, v12, v13, v14, v15, v16, v17, v18, v19, v20, v21, v22, v23, v24, rfl, hs, hm⟩
    have HS := Lib.hid hs
    clear hs
    by_cases hlt : m < 7
    · go_wp2
      · go_step3
        exact ⟨rfl, ⟨rfl, m + 1, _, _, _, _, _, _, _, _, _, _, _, _, _, _, _, _, _, _, _, _, _, _, rfl, by rw [bstep_yes ‹_›]; exact bsteps_at HS.out hm, by omega⟩, by simp [intOf]; omega⟩
      · go_step3
        exact ⟨rfl, ⟨rfl, m + 1, _, _, _, _, _, _, _, _, _, _, _, _, _, _, _, _, _, _, _, _, _, _, rfl, by rw [bstep_no ‹_›]; exact bsteps_at HS.out hm, by omega⟩, by simp [intOf]; omega⟩
    · obtain rfl : m = 7 := by omega
      have h1 := bsteps_at HS.out hm
      simp only [Nat.sub_self, bsteps] at h1
      have H1 := Lib.hid h1
      clear h1
      go_wp2
      · simp only [Exit.jump]
        go_ret
        exact ⟨by rw [bstep_yes ‹_›, H1.out]; rfl, rfl⟩
      · simp only [Exit.jump]
        go_ret
        exact ⟨by rw [bstep_no ‹_›, H1.out]; rfl, rfl⟩
end Go.Proofs.Ytgbhmcpaaempjaa
