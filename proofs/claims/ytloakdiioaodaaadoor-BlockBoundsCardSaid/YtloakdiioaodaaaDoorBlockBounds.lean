/-
  The walk of the law BlockBounds.
-/
import Derived.Test.YtloakdiioaodaaaDoorBlockW
import Derived.Test.YtloakdiioaodaaaDoorBlockR
namespace Go.Proofs.YtloakdiioaodaaaDoor.Block
open Go.RowKit Go.Proofs.YtloakdiioaodaaaDoor.Mem Go.Proofs.YtloakdiioaodaaaDoor.Own Go.Proofs.YtloakdiioaodaaaDoor.Canon
open Go.Proofs.YtloakdiioaodaaaDoor.Nums Go.Proofs.YtloakdiioaodaaaDoor.Crc

theorem takeE_zero {bs : List Nat} {at_ n : Nat} {er : Int} (h : takeE bs at_ er n = 0) : er = 0 ∧ n ≤ bs.length - at_ := by
  unfold takeE at h
  split at h
  · contradiction
  · rename_i h0
    split at h
    · cases h
    · exact ⟨by simpa using h0, by omega⟩
theorem op_zero {bs : List Nat} (h : opE bs = 0) : hE8 bs = 0 ∧ hE5 bs = 0 ∧ hP bs ≤ bs.length ∧ hN bs ≤ 1032 * hP bs + 64 ∧ byE (hWay bs) (hN bs) (hP bs) (hBody bs) = 0 := by
  unfold opE at h
  split at h
  · contradiction
  · rename_i h8
    have h8 : hE8 bs = 0 := by simpa using h8
    refine ⟨h8, ?_⟩
    unfold hE8 at h8
    split at h8
    · contradiction
    · rename_i h7
      have h7 : hE7 bs = 0 := by simpa using h7
      have h6 := (takeE_zero h7).1
      have h5 := takeE_zero h6
      refine ⟨h5.1, by omega, ?_, h⟩
      have h55 := h5.1
      unfold hE5 at h55
      split at h55
      · exfalso
        unfold failE at h55
        split at h55
        · cases h55
        · contradiction
      · omega
theorem op_bounds {bs : List Nat} (h8 : ∀ x ∈ bs, x ≤ 255) (h : opE bs = 0) : opA bs ≤ bs.length ∧ (opO bs).length ≤ 1032 * bs.length + 64 ∧ (opO bs).length ≤ 32768 := by
  obtain ⟨_, _, h3, h4, h5⟩ := op_zero h
  have hNl := hN_le h8
  have hA : opA bs = hA5 bs := if_neg (by rw [h]; simp)
  have hO : opO bs = byO (hWay bs) (hN bs) (hP bs) (hBody bs) := if_neg (by rw [h]; simp)
  have hl : (opO bs).length ≤ hN bs := by
    rw [hO]
    unfold byO
    rw [if_neg (by rw [h5]; simp)]
    by_cases hw : hWay bs = 0
    · rw [if_pos hw]
      unfold byE at h5
      rw [if_pos hw] at h5
      split at h5
      · cases h5
      · have := takeO_le bs (hA3 bs) (hE5 bs) (hP bs)
        unfold hBody
        omega
    · rw [if_neg hw]
      exact play_len _ _
  exact ⟨by rw [hA]; exact hA5_le h8, by omega, by omega⟩
theorem row_head {w : World} {A : Option Addr} {n : Nat} {ls : List Nat} (h : Row w w.heap.size A n 1 (numF .u8 ls)) (h0 : 0 < n) : ∀ a, A = some a → a.add 0 = a ∧ a.block < w.heap.size := by
  intro a ha
  obtain ⟨b, off, rfl, hb, _⟩ := h h0
  injection ha with ha
  subst ha
  exact ⟨by rw [Mem.add_none, Nat.add_zero], hb⟩
set_option maxRecDepth 100000 in
theorem law_bounds_long (w : World) (A : Option Addr) (n c : Nat) (hn : n ≤ 9223372036854775807) (h : 40000 < n) (ht : TabAt w) :
    Calls Tryd.prog 6 #[.slice A n c] w fun e w' => e = .returned (.bool true) ∧ Below w.heap.size w w' := by
  have D := Lib.hid (alive12 w ht)
  have g1 : decide ((40000 : Int) < (n : Int)) = true := by simp; omega
  have g1' : decide (40000 < n) = true := by simp; omega
  clear ht
  go_enter Tryd.func6, Tryd.ntmps6
  go_wp2_with fail
  refine D.out.mono ?_
  rintro e w1 ⟨rfl, hb⟩
  go_wp2_with fail
  go_ret
  exact ⟨rfl, hb⟩
set_option maxHeartbeats 1000000 in
set_option maxRecDepth 100000 in
theorem law_bounds (w : World) (A : Option Addr) (n c : Nat) (bs : List Nat) (hn : bs.length = n) (hle : n ≤ 40000) (hc : n ≤ c) (hnil : A = none → n = 0 ∧ c = 0) (h8 : ∀ x ∈ bs, x ≤ 255) (ht : TabAt w) (ha : Row w w.heap.size A n 1 (numF .u8 bs)) :
    Calls Tryd.prog 6 #[.slice A n c] w fun e w' => e = .returned (.bool true) ∧ Below w.heap.size w w' := by
  have D := Lib.hid (alive12 w ht)
  have D1 : Hid (∀ wx, Below w.heap.size w wx → Calls Tryd.prog 11 #[.slice A n c] wx (ReadPost bs wx)) := fun wx hb =>
    have hr := (ha.below hb).mono hb.size
    read_any wx bs A n c hn (by omega) hc hnil (fun h0 => row_head hr (by omega)) h8 (ht.step hb) hr
  unfold ReadPost at D1
  have g1 : decide ((40000 : Int) < (n : Int)) = false := by simp; omega
  have g1' : decide (40000 < n) = false := by simp; omega
  by_cases h0 : opE bs = 0
  · obtain ⟨hb1, hb2, hb3⟩ := op_bounds h8 h0
    rw [h0] at D1
    rw [hn] at hb1 hb2
    generalize opA bs = a at *
    generalize opO bs = O at *
    have g2 : decide ((a : Int) ≤ (n : Int)) = true := by simp; omega
    have g2' : decide (a ≤ n) = true := by simp; omega
    obtain ⟨q, hq⟩ : ∃ q, q = 1032 * n := ⟨_, rfl⟩
    obtain ⟨r, hr⟩ : ∃ r, r = 1032 * n + 64 := ⟨_, rfl⟩
    have s1 : IntKind.i64.wrap (1032 * (n : Int)) = (q : Int) := by rw [IntWalk.i64_in _ (by omega)]; omega
    have s2 : IntKind.i64.wrap ((q : Int) + 64) = (r : Int) := by rw [IntWalk.i64_in _ (by omega)]; omega
    have g3 : decide ((O.length : Int) ≤ (r : Int)) = true := by simp; omega
    have g3' : decide (O.length ≤ r) = true := by simp; omega
    have g4 : decide ((O.length : Int) ≤ 32768) = true := by simp; omega
    have g4' : decide (O.length ≤ 32768) = true := by simp; omega
    clear hn h8 ht ha hnil h0 hq hr
    go_enter Tryd.func6, Tryd.ntmps6
    go_wp2_with fail
    refine D.out.mono ?_
    rintro e w1 ⟨rfl, hb⟩
    have D2 := Lib.hid (D1.out w1 hb)
    clear D D1
    go_wp2_with fail
    refine D2.out.mono ?_
    rintro e w2 ⟨v, rfl, ho, hb4⟩
    obtain ⟨A2, c2, rfl⟩ := own_shape ho
    have HB : Hid (Below w.heap.size w w2) := bel_step0 hb4 hb
    clear ho hb hb4 D2
    go_wp2_with fail
    go_ret
    exact ⟨rfl, HB.out⟩
  · have hO : opO bs = [] := if_pos h0
    have hA : opA bs = 0 := if_pos h0
    rw [hO, hA] at D1
    generalize opE bs = E at *
    have g2 : (E != 0) = true := by simpa using h0
    clear hn h8 ht ha hnil h0 hO hA
    go_enter Tryd.func6, Tryd.ntmps6
    go_wp2_with fail
    refine D.out.mono ?_
    rintro e w1 ⟨rfl, hb⟩
    have D2 := Lib.hid (D1.out w1 hb)
    clear D D1
    go_wp2_with fail
    refine D2.out.mono ?_
    rintro e w2 ⟨v, rfl, ho, hb4⟩
    obtain ⟨A2, c2, rfl⟩ := own_shape ho
    have HB : Hid (Below w.heap.size w w2) := bel_step0 hb4 hb
    clear ho hb hb4 D2
    go_wp2_with fail
    go_ret
    exact ⟨rfl, HB.out⟩
end Go.Proofs.YtloakdiioaodaaaDoor.Block
