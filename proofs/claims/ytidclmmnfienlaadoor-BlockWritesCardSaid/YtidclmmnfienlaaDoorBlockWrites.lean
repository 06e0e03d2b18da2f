/-
  The walk of the law BlockWrites.
-/
import Derived.Test.YtidclmmnfienlaaDoorRefFW
import Derived.Test.YtidclmmnfienlaaDoorRefSame
namespace Go.Proofs.YtidclmmnfienlaaDoor.Block
open Go.RowKit Go.Proofs.YtidclmmnfienlaaDoor.Mem Go.Proofs.YtidclmmnfienlaaDoor.Own Go.Proofs.YtidclmmnfienlaaDoor.Canon
open Go.Proofs.YtidclmmnfienlaaDoor.NumPut Go.Proofs.YtidclmmnfienlaaDoor.Crc

set_option maxRecDepth 100000 in
theorem write_big (w : World) (A : Option Addr) (n c : Nat) (plain : Bool) (hn : n ≤ 9223372036854775807) (h : 32768 < n) :
    Calls Tryd.prog 5 #[.slice A n c, .bool plain] w fun e w' => e = .returned (.tuple #[.slice none 0 0, .int .i64 6]) ∧ w' = w := by
  have g1 : decide ((32768 : Int) < (n : Int)) = true := by simp; omega
  have g1' : decide (32768 < n) = true := by simp; omega
  go_enter Tryd.func5, Tryd.ntmps5
  go_wp2_with fail
  go_ret2
  exact ⟨rfl, rfl⟩
set_option maxRecDepth 100000 in
theorem rwrite_big (w : World) (A : Option Addr) (n c : Nat) (plain : Bool) (hn : n ≤ 9223372036854775807) (h : 32768 < n) :
    Calls Tryd.prog 6 #[.slice A n c, .bool plain] w fun e w' => e = .returned (.tuple #[.slice none 0 0, .int .i64 6]) ∧ w' = w := by
  have g1 : decide ((32768 : Int) < (n : Int)) = true := by simp; omega
  have g1' : decide (32768 < n) = true := by simp; omega
  go_enter Tryd.func6, Tryd.ntmps6
  go_wp2_with fail
  go_ret2
  exact ⟨rfl, rfl⟩
set_option maxRecDepth 100000 in
theorem law_writes_mid (w : World) (A : Option Addr) (n c : Nat) (plain : Bool) (h : 1000 < n) (h2 : n ≤ 32768) (ht : TabAt w) :
    Calls Tryd.prog 3 #[.slice A n c, .bool plain] w fun e w' => e = .returned (.bool true) ∧ Below w.heap.size w w' := by
  have D := Lib.hid (alive12 w ht)
  have g1 : decide ((1000 : Int) < (n : Int)) = true := by simp; omega
  have g1' : decide (1000 < n) = true := by simp; omega
  have g2 : decide ((n : Int) ≤ (32768 : Int)) = true := by simp; omega
  have g2' : decide (n ≤ 32768) = true := by simp; omega
  clear ht
  go_enter Tryd.func3, Tryd.ntmps3
  go_wp2_with fail
  refine D.out.mono ?_
  rintro e w1 ⟨rfl, hb⟩
  go_wp2_with fail
  go_ret
  exact ⟨rfl, hb⟩
set_option maxRecDepth 100000 in
theorem law_writes_big (w : World) (A : Option Addr) (n c : Nat) (plain : Bool) (hn : n ≤ 9223372036854775807) (h : 32768 < n) (ht : TabAt w) :
    Calls Tryd.prog 3 #[.slice A n c, .bool plain] w fun e w' => e = .returned (.bool true) ∧ Below w.heap.size w w' := by
  have D := Lib.hid (alive12 w ht)
  have D1 := Lib.hid (fun wx => write_big wx A n c plain hn h)
  have D2 := Lib.hid (fun wx => rwrite_big wx A n c plain hn h)
  have D3 : Hid (∀ wx : World, Calls Tryd.prog 7 #[.slice none 0 0, .slice none 0 0] wx fun e w' => e = .returned (.bool true) ∧ wx = w') := fun wx => by
    refine (Huff.same_any wx none none 0 0 0 0 [] [] rfl rfl (fun _ => rfl) (fun _ => rfl) (by simp) (by simp) Row.zero Row.zero).mono ?_
    rintro e w' ⟨rfl, rfl⟩
    exact ⟨rfl, rfl⟩
  have g1 : decide ((1000 : Int) < (n : Int)) = true := by simp; omega
  have g1' : decide (1000 < n) = true := by simp; omega
  have g2 : decide ((n : Int) ≤ (32768 : Int)) = false := by simp; omega
  have g2' : decide (n ≤ 32768) = false := by simp; omega
  clear ht
  go_enter Tryd.func3, Tryd.ntmps3
  go_wp2_with fail
  refine D.out.mono ?_
  rintro e w1 ⟨rfl, hb⟩
  go_wp2_with fail
  refine (D1.out _).mono ?_
  rintro e w2 ⟨rfl, rfl⟩
  go_wp2_with fail
  refine (D2.out _).mono ?_
  rintro e w3 ⟨rfl, rfl⟩
  go_wp2_with fail
  refine (D3.out _).mono ?_
  rintro e w4 ⟨rfl, rfl⟩
  go_wp2_with fail
  go_ret
  exact ⟨rfl, hb⟩
set_option maxHeartbeats 1000000 in
set_option maxRecDepth 100000 in
theorem law_writes (w : World) (A : Option Addr) (n c : Nat) (plain : Bool) (bs : List Nat) (hn : bs.length = n) (hle : n ≤ 1000) (hnil : A = none → n = 0 ∧ c = 0) (h8 : ∀ x ∈ bs, x ≤ 255) (ht : TabAt w) (ha : Row w w.heap.size A n 1 (numF .u8 bs)) :
    Calls Tryd.prog 3 #[.slice A n c, .bool plain] w fun e w' => e = .returned (.bool true) ∧ Below w.heap.size w w' := by
  have D := Lib.hid (alive12 w ht)
  have D1 : Hid (∀ wx, Below w.heap.size w wx → Calls Tryd.prog 5 #[.slice A n c, .bool plain] wx (WPost bs plain wx)) := fun wx hb =>
    write_any wx A n c bs plain hn (by omega) hnil h8 (ht.step hb) ((ha.below hb).mono hb.size)
  have D2 : Hid (∀ wx, Below w.heap.size w wx → Calls Tryd.prog 6 #[.slice A n c, .bool plain] wx (WPost bs plain wx)) := fun wx hb =>
    rwrite_any wx A n c bs plain hn (by omega) hnil h8 (ht.step hb) ((ha.below hb).mono hb.size)
  have hF8 : ∀ x ∈ frameB bs plain, x ≤ 255 := fun x hx => by
    unfold frameB at hx
    rcases List.mem_append.1 hx with hx | hx
    · exact fall_u8 plain h8 x hx
    · have := tail_bytes _ x hx; omega
  unfold WPost at D1 D2
  generalize frameB bs plain = F at *
  have DS : Hid (∀ (wx wa : World) Ax cx Ay cy, wa.ownsRow w.heap.size 5 1 (.slice Ax F.length cx) F.length (numL .u8 F) → Below wa.heap.size wa wx → wx.ownsRow wa.heap.size 5 1 (.slice Ay F.length cy) F.length (numL .u8 F) → Calls Tryd.prog 7 #[.slice Ax F.length cx, .slice Ay F.length cy] wx fun e w' => e = .returned (.bool true) ∧ wx = w') := fun wx wa Ax cx Ay cy hx hb hy => by
    have P := (part_own hx rfl).step hb
    have Q := part_own hy rfl
    refine (Huff.same_any wx Ax Ay F.length F.length cx cy F F rfl rfl (fun e => (P.nil e).1) (fun e => (Q.nil e).1) hF8 hF8 P.row Q.row).mono ?_
    rintro e w' ⟨rfl, rfl⟩
    exact ⟨by simp, rfl⟩
  have g1 : decide ((1000 : Int) < (n : Int)) = false := by simp; omega
  have g1' : decide (1000 < n) = false := by simp; omega
  obtain ⟨L, hL⟩ : ∃ L, L = F.length := ⟨_, rfl⟩
  rw [← hL] at D1 D2 DS
  clear hn h8 ht ha hnil hF8 hL hle
  go_enter Tryd.func3, Tryd.ntmps3
  go_wp2_with fail
  refine D.out.mono ?_
  rintro e w1 ⟨rfl, hb⟩
  have HB1 := Lib.hid hb
  have E1 := Lib.hid (D1.out w1 hb)
  clear D D1 hb
  go_wp2_with fail
  refine E1.out.mono ?_
  rintro e w2 ⟨v, rfl, ho, hb4⟩
  obtain ⟨A2, c2, rfl⟩ := own_shape ho
  have HB2 : Hid (Below w.heap.size w w2) := bel_step0 hb4 HB1.out
  have HO2 := Lib.hid (own_mono ho HB1.out.size)
  have E2 := Lib.hid (D2.out w2 HB2.out)
  clear ho hb4 E1 D2 HB1
  go_wp2_with fail
  refine E2.out.mono ?_
  rintro e w3 ⟨v, rfl, ho, hb4⟩
  obtain ⟨A3, c3, rfl⟩ := own_shape ho
  have HB3 : Hid (Below w.heap.size w w3) := bel_step0 hb4 HB2.out
  have E3 := Lib.hid (DS.out w3 w2 A2 c2 A3 c3 HO2.out hb4 ho)
  clear ho hb4 E2 DS HB2 HO2
  go_wp2_with fail
  refine E3.out.mono ?_
  rintro e w4 ⟨rfl, rfl⟩
  go_wp2_with fail
  go_ret
  exact ⟨rfl, HB3.out⟩
end Go.Proofs.YtidclmmnfienlaaDoor.Block
