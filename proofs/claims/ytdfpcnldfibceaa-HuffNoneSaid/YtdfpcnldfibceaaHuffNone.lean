/-
  The walk of the statement HuffNone.
-/
import Derived.Test.YtdfpcnldfibceaaHuffLaws
import Derived.Test.YtdfpcnldfibceaaHuffGet2
namespace Go.Proofs.Ytdfpcnldfibceaa.Huff
open Go.RowKit Go.Proofs.Ytdfpcnldfibceaa.Mem Go.Proofs.Ytdfpcnldfibceaa.Canon Go.Proofs.Ytdfpcnldfibceaa.Own Go.Proofs.Ytdfpcnldfibceaa.Open

set_option maxRecDepth 100000 in
theorem wlen_any (w : World) (g : Nat) (n : Nat) (h : w.cell? ⟨g, 1, none⟩ = some (.int .i64 n)) :
    Calls Try.prog 62 #[.pointer (some ⟨g, 0, none⟩)] w fun e w' => e = .returned (.int .i64 n) ∧ w = w' := by
  go_enter Try.func62, Try.ntmps62
  go_wp2_with fail
  go_ret
  exact ⟨rfl, rfl⟩
theorem law_none_long (w : World) (A : Option Addr) (n c : Nat) (s : Int) (_hn : n ≤ 9223372036854775807) (h3 : (200 : Int) < (n : Int)) :
    Calls Try.prog 13 #[.slice A n c, .int .i64 s] w fun e w' => e = .returned (.bool true) ∧ Below w.heap.size w w' := by
  go_enter Try.func13, Try.ntmps13
  go_wp2_with fail
  refine (alive09 _).mono ?_
  rintro e w1 ⟨rfl, hb1⟩
  go_wp2_with fail
  go_ret
  exact ⟨rfl, hb1⟩
theorem two_ok : okB [1, 1] = true := by decide +kernel
theorem two_meets : meetsAny [1, 1] 0 0 = true := by decide +kernel

set_option maxHeartbeats 1000000 in
set_option maxRecDepth 100000 in
theorem law_none (w : World) (A : Option Addr) (n c : Nat) (s : Int) (ls : List Nat) (hs : -9223372036854775808 ≤ s ∧ s ≤ 9223372036854775807) (hn : ls.length = n) (hN : n ≤ 200) (hnil : A = none → n = 0 ∧ c = 0) (h8 : ∀ x ∈ ls, x ≤ 255) (ha : Row w w.heap.size A n 1 (numF .u8 ls)) :
    Calls Try.prog 13 #[.slice A n c, .int .i64 s] w fun e w' => e = .returned (.bool true) ∧ Below w.heap.size w w' := by
  have C1 := Lib.hid (fun wx (h : Below w.heap.size w wx) => newreader_any wx A n c ls hn (by omega) h8 hnil ((ha.below h).mono h.size))
  have C2 := Lib.hid (fun wx u => get_nil wx u)
  have C3 := Lib.hid (fun wx b h => new_any wx (some ⟨b, 0, none⟩) 2 2 [1, 1] rfl two_ok (fun h => by cases h) h)
  have hl : (rbits ls).length = 8 * n := by rw [rbits_length, hn]
  have HL := Lib.hid hl
  clear hn hnil h8 ha hl
  obtain ⟨hs1, hs2⟩ := hs
  generalize rbits ls = bs at *
  go_enter Try.func13, Try.ntmps13
  go_wp2_with fail
  refine (alive09 _).mono ?_
  rintro e w1 ⟨rfl, hb1⟩
  have z1 := hb1.size
  go_wp2_with fail
  have hbel2 : Below w.heap.size w (w1.alloc (.cells #[.slice none 0 0, .int .i64 0] 86)) := bel_alloc z1 hb1
  have blkW : Blk (w1.alloc (.cells #[.slice none 0 0, .int .i64 0] 86)) w1.heap.size 86 #[.slice none 0 0, .int .i64 0] := Blk.made _ _ _
  generalize w1.alloc (.cells #[.slice none 0 0, .int .i64 0] 86) = w2 at *
  have z2 := blkW.lt
  refine (C1.out _ hbel2).mono ?_
  rintro e w3 ⟨g, rfl, hRd, hg, hb3⟩
  have z3 := hb3.size
  have hgl := hRd.lt
  have blkW3 := blkW.step hb3
  have hbel3 : Below w.heap.size w w3 := bel_step hb3 (by omega) hbel2
  have HRd := Lib.hid hRd
  have HBW := Lib.hid blkW3
  clear hRd blkW blkW3 C1 hb1
  go_wp2_with fail
  refine (C2.out _ _).mono ?_
  rintro e w4 ⟨rfl, rfl⟩
  go_wp2_with fail
  have hbel4 : Below w3.heap.size w3 (w3.alloc (.cells #[.int .u8 1, .int .u8 1] 5)) := bel_alloc0 (Below.refl _ _)
  have blk4 : Blk (w3.alloc (.cells #[.int .u8 1, .int .u8 1] 5)) w3.heap.size 5 #[.int .u8 1, .int .u8 1] := Blk.made _ _ _
  generalize w3.alloc (.cells #[.int .u8 1, .int .u8 1] 5) = w4 at *
  have z4 := blk4.lt
  refine (C3.out w4 w3.heap.size (Row.of_blk blk4 z4 (fun i j hi hj => by
    have : (i = 0 ∨ i = 1) ∧ j = 0 := by omega
    obtain ⟨rfl | rfl, rfl⟩ := this <;> rfl))).mono ?_
  rintro e w5 ⟨gc, rfl, hC, hb5⟩
  have z5 := hb5.size
  have hbel5 : Below w.heap.size w w5 := bel_step hb5 (by omega) (hbel3.trans (hbel4.mono (by omega)))
  have b35 : Below w3.heap.size w3 w5 := hbel4.trans (hb5.mono (by omega))
  have HRd5 : Hid (Rd w5 w2.heap.size g bs 0) := HRd.out.keep (fun b _ h => b35.block b (by omega)) hg
  have HBW5 : Hid (Blk w5 w1.heap.size 86 #[.slice none 0 0, .int .i64 0]) := HBW.out.below b35 (by omega)
  have C5 := Lib.hid (get_nobody w5 w4.heap.size w5.heap.size gc [1, 1] two_ok two_meets hC)
  clear hC C3 blk4 hbel4 b35 HRd HBW hb3 hb5
  go_wp2_with fail
  refine C5.out.mono ?_
  rintro e w6 ⟨rfl, q6, rfl⟩
  have D1 := Lib.hid (cput_nil (w5.drewN q6) (.pointer (some ⟨w1.heap.size, 0, none⟩)) s)
  have D2 := Lib.hid (wlen_any (w5.drewN q6) w1.heap.size 0 (HBW5.out.cell 1))
  have D3 := Lib.hid (left_any (w5.drewN q6) w2.heap.size g bs 0 (HRd5.out.drewN q6))
  rw [HL.out, Nat.sub_zero] at D3
  have e8 : ((8 * n : Nat) : Int) = 8 * (n : Int) := by omega
  rw [e8] at D3
  clear e8 C5
  go_wp2_with fail
  refine D1.out.mono ?_
  rintro e w7 ⟨rfl, rfl⟩
  go_wp2_with fail
  refine D2.out.mono ?_
  rintro e w8 ⟨rfl, rfl⟩
  go_wp2_with fail
  refine D3.out.mono ?_
  rintro e w9 ⟨rfl, q9, rfl⟩
  have D4 := Lib.hid (len_nil (w5.drewN (q6 + q9)) s)
  have D5 := Lib.hid (cput_nobody (w5.drewN (q6 + q9)) gc s)
  clear D1 D2 D3
  go_wp2_with fail
  refine D4.out.mono ?_
  rintro e w10 ⟨rfl, rfl⟩
  go_wp2_with fail
  refine D5.out.mono ?_
  rintro e w11 ⟨rfl, rfl⟩
  go_wp2_with fail
  go_ret
  exact ⟨rfl, below_drewN hbel5 _⟩
end Go.Proofs.Ytdfpcnldfibceaa.Huff
