/-
  Plain: a frame of which bits were turned is read as one whose sum isn't right. No walk.
  The walk of the law BlockTurned.
-/
import Derived.Test.YtidclmmnfienlaaGreatDoorFrameW
import Derived.Test.YtidclmmnfienlaaGreatDoorTurnPlain
import Derived.Test.YtidclmmnfienlaaGreatDoorRefHead

namespace Go.Proofs.YtidclmmnfienlaaGreatDoor.Block
open Go.Proofs.YtidclmmnfienlaaGreatDoor.NumPut Go.Proofs.YtidclmmnfienlaaGreatDoor.Crc Go.Proofs.YtidclmmnfienlaaGreatDoor.Nums

theorem fall_u8' {bs : List Nat} (plain : Bool) (h8 : ∀ x ∈ bs, x ≤ 255) : ∀ x ∈ fAll bs plain, x ≤ 255 := by
  intro x hx
  unfold fAll fHead at hx
  simp only [List.mem_append, List.mem_singleton] at hx
  rcases hx with ((rfl | hx) | hx) | hx
  · have := fway_le bs plain; omega
  · exact numB_u8 _ x hx
  · exact numB_u8 _ x hx
  · unfold fBody at hx
    split at hx
    · exact writeO_le3 _ x hx
    · exact h8 x hx
theorem frame_u8' {bs : List Nat} (plain : Bool) (h8 : ∀ x ∈ bs, x ≤ 255) : ∀ x ∈ frameB bs plain, x ≤ 255 := by
  intro x hx
  unfold frameB at hx
  rcases List.mem_append.1 hx with hx | hx
  · exact fall_u8' plain h8 x hx
  · have := tail_bytes _ x hx; omega
theorem frame_head {bs : List Nat} (plain : Bool) (h8 : ∀ x ∈ bs, x ≤ 255) (hN : bs.length ≤ 32768) :
    hE8 (frameB bs plain) = 0 ∧ hA3 (frameB bs plain) = 1 + (numB bs.length).length + (numB (fBody bs plain).length).length ∧ (frameB bs plain).length = hA3 (frameB bs plain) + (fBody bs plain).length + 4 := by
  have hb := (frame_back plain [] h8 hN).1
  obtain ⟨b1, b2, _, _⟩ := fbody_facts plain h8
  have hw := fway_le bs plain
  have he := frame_eq bs plain []
  rw [List.append_nil] at hb he
  obtain ⟨_, s2, _⟩ := st3 he hw hN (by omega) b2
  refine ⟨?_, s2, ?_⟩
  · unfold opE at hb
    split at hb
    · contradiction
    · rename_i h0
      simpa using h0
  · rw [frame_len, fall_len, s2]
theorem frame_turned {bs X : List Nat} (plain : Bool) (h8 : ∀ x ∈ bs, x ≤ 255) (hN : bs.length ≤ 32768) {first k : Nat} (hk : k ≤ 32) (h : Tn (frameB bs plain) (hA3 (frameB bs plain)) first k X true) :
    opE X = 5 ∧ opO X = [] ∧ opA X = 0 := by
  obtain ⟨b1, b2, _, _⟩ := fbody_facts plain h8
  have hw := fway_le bs plain
  have he := frame_eq bs plain []
  rw [List.append_nil] at he
  obtain ⟨_, hfr, hfl⟩ := frame_head plain h8 hN
  have hs : X.drop (X.length - 4) ≠ tailN (sumN (X.take (X.length - 4))) := Tn.sum (a := fAll bs plain) (fall_u8' plain h8) hk h
  obtain ⟨h1, _, h3, _⟩ := h
  have ht : (frameB bs plain).take (hA3 (frameB bs plain)) = fWay bs plain :: (numB bs.length ++ numB (fBody bs plain).length) := by
    rw [hfr, he, show 1 + (numB bs.length).length + (numB (fBody bs plain).length).length = ((numB bs.length).length + (numB (fBody bs plain).length).length) + 1 by omega, List.take_succ_cons, ← List.append_assoc, ← List.append_assoc, List.append_assoc, List.append_assoc]
    congr 1
    rw [← List.append_assoc, List.take_left' (by rw [List.length_append])]
  rw [ht] at h3
  have hX : X = fWay bs plain :: (numB bs.length ++ (numB (fBody bs plain).length ++ ((X.drop (hA3 (frameB bs plain))).take (fBody bs plain).length ++ ((X.drop (hA3 (frameB bs plain))).drop (fBody bs plain).length ++ [])))) := by
    rw [List.append_nil, List.take_append_drop, ← List.append_assoc, ← List.cons_append, ← h3, List.take_append_drop]
  have hl1 : ((X.drop (hA3 (frameB bs plain))).take (fBody bs plain).length).length = (fBody bs plain).length := by rw [List.length_take, List.length_drop]; omega
  have hl2 : ((X.drop (hA3 (frameB bs plain))).drop (fBody bs plain).length).length = 4 := by rw [List.length_drop, List.length_drop]; omega
  obtain ⟨s5, s7⟩ := st5 hX hw hN (by omega) b2 hl1 hl2
  have h88 : hE8 X = 5 := by
    unfold hE8
    rw [s7, if_neg (by simp), List.take_of_length_le (by omega)]
    unfold cutE
    rw [if_neg (by omega), if_neg hs]
  have hE : opE X = 5 := by unfold opE; rw [h88, if_pos (by simp)]
  exact ⟨hE, if_pos (by rw [hE]; simp), if_pos (by rw [hE]; simp)⟩
end Go.Proofs.YtidclmmnfienlaaGreatDoor.Block

namespace Go.Proofs.YtidclmmnfienlaaGreatDoor.Block
open Go.RowKit Go.Proofs.YtidclmmnfienlaaGreatDoor.Mem Go.Proofs.YtidclmmnfienlaaGreatDoor.Own Go.Proofs.YtidclmmnfienlaaGreatDoor.Canon
open Go.Proofs.YtidclmmnfienlaaGreatDoor.Nums Go.Proofs.YtidclmmnfienlaaGreatDoor.Crc Go.Proofs.YtidclmmnfienlaaGreatDoor.NumPut

set_option maxRecDepth 100000 in
theorem law_turned_long (w : World) (A : Option Addr) (n c : Nat) (plain : Bool) (m q : Int) (hn : n ≤ 9223372036854775807) (h : 1000 < n) (ht : TabAt w) :
    Calls Tryz.prog 4 #[.slice A n c, .bool plain, .int .u16 m, .int .u32 q] w fun e w' => e = .returned (.bool true) ∧ Below w.heap.size w w' := by
  have D := Lib.hid (alive12 w ht)
  have g1 : decide ((1000 : Int) < (n : Int)) = true := by simp; omega
  have g1' : decide (1000 < n) = true := by simp; omega
  clear ht
  go_enter Tryz.func4, Tryz.ntmps4
  go_wp2_with fail
  refine D.out.mono ?_
  rintro e w1 ⟨rfl, hb⟩
  go_wp2_with fail
  go_ret
  exact ⟨rfl, hb⟩
theorem row_head6 {w : World} {A : Option Addr} {n : Nat} {ls : List Nat} (h : Row w w.heap.size A n 1 (numF .u8 ls)) (h0 : 0 < n) : ∀ a, A = some a → a.add 0 = a ∧ a.block < w.heap.size := by
  intro a ha
  obtain ⟨b, off, rfl, hb, _⟩ := h h0
  injection ha with ha
  subst ha
  exact ⟨by rw [Mem.add_none, Nat.add_zero], hb⟩
theorem numL_set (k : IntKind) (l : List Nat) (i x : Nat) : (numL k l).set i (.int k (x : Nat)) = numL k (l.set i x) := by simp [numL, List.map_set]
set_option maxHeartbeats 4000000 in
set_option maxRecDepth 100000 in
theorem law_turned (w : World) (A : Option Addr) (n c m pt : Nat) (plain : Bool) (bs : List Nat) (hm : m < 65536) (hpt : pt < 4294967296) (hn : bs.length = n) (hle : n ≤ 1000) (hnil : A = none → n = 0 ∧ c = 0) (h8 : ∀ x ∈ bs, x ≤ 255) (ht : TabAt w) (ha : Row w w.heap.size A n 1 (numF .u8 bs)) :
    Calls Tryz.prog 4 #[.slice A n c, .bool plain, .int .u16 m, .int .u32 pt] w fun e w' => e = .returned (.bool true) ∧ Below w.heap.size w w' := by
  have D := Lib.hid (alive12 w ht)
  have D1 : Hid (∀ wx, Below w.heap.size w wx → Calls Tryz.prog 16 #[.slice A n c, .bool plain] wx (WPost bs plain wx)) := fun wx hb =>
    write_any wx A n c bs plain hn (by omega) hnil h8 (ht.step hb) ((ha.below hb).mono hb.size)
  obtain ⟨f1, f2, f3⟩ := frame_head plain h8 (by omega)
  have hF8 := frame_u8' plain h8
  have hFl := frame_size plain h8 (by omega)
  have HT : Hid (∀ first k X, k ≤ 32 → Tn (frameB bs plain) (hA3 (frameB bs plain)) first k X true → opE X = 5 ∧ opO X = [] ∧ opA X = 0) := fun first k X hk h => frame_turned plain h8 (by omega) hk h
  have D2 : Hid (∀ wx A2 c2, wx.ownsRow w.heap.size 5 1 (.slice A2 (frameB bs plain).length c2) (frameB bs plain).length (numL .u8 (frameB bs plain)) → Calls Tryz.prog 17 #[.slice A2 (frameB bs plain).length c2] wx (HeadPost (frameB bs plain) wx)) := fun wx A2 c2 ho => by
    have hr := Part.Ok.row (part_own (ls := frameB bs plain) ho rfl)
    exact rhead_any wx A2 _ c2 _ rfl (by omega) (own_wf ho).2 (own_wf ho).1 (fun h0 a e => (row_head6 hr h0 a e).1) hF8 hr
  have DT : Hid (TabAt w) := ht
  have D3 : Hid (∀ wx A2 c2 X, Below w.heap.size w wx → X.length = (frameB bs plain).length → (∀ x ∈ X, x ≤ 255) → wx.ownsRow w.heap.size 5 1 (.slice A2 (frameB bs plain).length c2) (frameB bs plain).length (numL .u8 X) → Calls Tryz.prog 18 #[.slice A2 (frameB bs plain).length c2] wx (ReadPost X wx)) := fun wx A2 c2 X hb hl h8x ho => by
    rw [← hl] at ho ⊢
    have hr := Part.Ok.row (part_own (ls := X) ho rfl)
    exact read_any wx X A2 _ c2 rfl (by omega) (own_wf ho).2 (own_wf ho).1 (fun h0 => row_head6 hr h0) h8x (DT.out.step hb) hr
  unfold WPost at D1
  unfold HeadPost at D2
  unfold ReadPost at D3
  rw [f1] at D2
  have hdR0 : ∀ x, hdR 0 x = x := fun _ => rfl
  simp only [hdR0] at D2
  have hfr : hA3 (frameB bs plain) + 4 ≤ (frameB bs plain).length := by omega
  generalize hWay (frameB bs plain) = wy at *
  generalize hN (frameB bs plain) = hn' at *
  generalize hP (frameB bs plain) = hp' at *
  generalize hA3 (frameB bs plain) = fr at *
  generalize frameB bs plain = F at *
  obtain ⟨L, hL⟩ : ∃ L, L = F.length := ⟨_, rfl⟩
  rw [← hL] at D1 D2 D3 hfr hFl
  have HL := Lib.hid hL
  obtain ⟨d, hd⟩ : ∃ d, d = L - fr := ⟨_, rfl⟩
  obtain ⟨q, hq⟩ : ∃ q, q = m % (8 * d) := ⟨_, rfl⟩
  obtain ⟨first, hf⟩ : ∃ first, first = 8 * fr + q := ⟨_, rfl⟩
  have hql : q < 8 * d := by rw [hq]; exact Nat.mod_lt _ (by omega)
  have g1 : decide ((1000 : Int) < (n : Int)) = false := by simp; omega
  have g1' : decide (1000 < n) = false := by simp; omega
  have s1 : IntKind.i64.wrap (8 * (fr : Int)) = ((8 * fr : Nat) : Int) := by rw [IntWalk.i64_in _ (by omega)]; omega
  have s2 : IntKind.i64.wrap (m : Int) = (m : Int) := IntWalk.i64_in _ (by omega)
  have s3 : IntKind.i64.wrap ((L : Int) - (fr : Int)) = (d : Int) := by rw [IntWalk.i64_in _ (by omega)]; omega
  obtain ⟨d8, hd8⟩ : ∃ d8, d8 = 8 * d := ⟨_, rfl⟩
  have s4 : IntKind.i64.wrap (8 * (d : Int)) = (d8 : Int) := by rw [IntWalk.i64_in _ (by omega)]; omega
  rw [← hd8] at hq hql
  have hmd : (m : Int) % (d8 : Int) = (q : Int) := by rw [hq]; omega
  have hmd' : (m : Int).tmod (d8 : Int) = (q : Int) := by rw [Int.tmod_eq_emod_of_nonneg (by omega)]; exact hmd
  have z1 : ¬ d8 = 0 := by omega
  have z2 : ((d8 : Int) == 0) = false := by rw [beq_eq_false_iff_ne]; omega
  obtain ⟨f8, hf8⟩ : ∃ f8, f8 = 8 * fr := ⟨_, rfl⟩
  rw [← hf8] at s1 hf
  have s5 : IntKind.i64.wrap ((f8 : Int) + (q : Int)) = (first : Int) := by rw [IntWalk.i64_in _ (by omega)]; omega
  have hfl : 8 * fr ≤ first ∧ first < 8 * L := by omega
  have s6 : IntKind.i64.wrap (8 * (L : Int)) = ((8 * L : Nat) : Int) := by rw [IntWalk.i64_in _ (by omega)]; omega
  obtain ⟨L8, hL8⟩ : ∃ L8, L8 = 8 * L := ⟨_, rfl⟩
  rw [← hL8] at s6 hfl
  have HF8 := Lib.hid hF8
  have hLb : L ≤ 2000 := by omega
  have hL8b : L8 = 8 * L := hL8
  have HL8 := Lib.hid hL8b
  have hL8c : L8 ≤ 16000 := by omega
  have hfirst : first < 16000 := by omega
  clear hn h8 ht ha hnil hF8 hL hle hd hq hf hd8 hmd hf8 hL8 hL8b f1 f2 f3 hdR0 hFl hm
  go_enter Tryz.func4, Tryz.ntmps4
  go_wp2_with fail
  refine D.out.mono ?_
  rintro e w1 ⟨rfl, hb⟩
  have HB1 := Lib.hid hb
  have E1 := Lib.hid (D1.out w1 hb)
  clear D D1 hb
  go_wp2_with fail
  refine E1.out.mono ?_
  rintro e w2 ⟨v, rfl, ho, hb2⟩
  obtain ⟨A2, c2, rfl⟩ := own_shape ho
  have HB2 : Hid (Below w.heap.size w w2) := bel_step0 hb2 HB1.out
  have HO2 := Lib.hid (own_mono ho HB1.out.size)
  have E2 := Lib.hid (D2.out w2 A2 c2 HO2.out)
  clear ho hb2 E1 D2 HB1
  go_wp2_with fail
  refine E2.out.mono ?_
  rintro e w3 ⟨rfl, hb3⟩
  have HB3 : Hid (Below w.heap.size w w3) := bel_step0 hb3 HB2.out
  have HO3 : Hid (w3.ownsRow w.heap.size 5 1 (.slice A2 L c2) L (numL .u8 F)) := own_kept HO2.out (fun y hy => hb3.block y (World.ownsRow.lt HO2.out y hy).2)
  obtain ⟨g, cg, hAg, hg0, _⟩ := HO3.out.form (by omega)
  injection hAg with hA1 hA2 hA3
  subst hA1 hA3
  clear hb3 E2 HB2 HO2
  go_wp2_with fail
  go_loopw [3, 17, 18] (fun pv tv kv wr => ∃ (k p2 : Nat) (t : Bool) (X : List Nat), k ≤ 32 ∧ p2 < 4294967296 ∧ pv = .int .u32 p2 ∧ tv = .bool t ∧ kv = .int .i64 k ∧ Hid (Tn F fr first k X t) ∧ Hid (wr.ownsRow w.heap.size 5 1 (.slice (some ⟨g, 0, none⟩) L c2) L (numL .u8 X)) ∧ Hid (Below w.heap.size w wr)) (fun _ _ kv _ => 32 - (intOf kv).toNat)
  case atStart => exact ⟨0, pt, false, F, by omega, hpt, rfl, rfl, rfl, Tn.zero _ _ HF8.out, HO3.out, HB3.out⟩
  case round =>
    clear HB3 HO3
    obtain ⟨k, p2, t, X, hk, hp2, rfl, rfl, rfl, HTn, HO, HB⟩ := hrel
    obtain ⟨w0, rfl⟩ : ∃ w0 : World, w0 = wr := ⟨_, rfl⟩
    by_cases hlt : k < 32
    · have gk : decide ((k : Int) < 32) = true := by simp; omega
      have gk' : decide (k < 32) = true := by simp; omega
      obtain ⟨fk, hfk⟩ : ∃ fk, fk = first + k := ⟨_, rfl⟩
      have HFK := Lib.hid hfk
      have t1 : IntKind.i64.wrap ((first : Int) + (k : Int)) = (fk : Int) := by rw [IntWalk.i64_in _ (by omega)]; omega
      have t2 : IntKind.i64.wrap ((k : Int) + 1) = ((k + 1 : Nat) : Int) := by rw [IntWalk.i64_in _ (by omega)]; omega
      have hfkb : fk < 17000 := by omega
      clear hfk
      by_cases hp : p2 % 2 = 1
      · have gp : (((p2 : Int) % 2) == 1) = true := by have : (p2 : Int) % 2 = 1 := by omega
                                                       rw [this]; rfl
        have gp' : (p2 : Int) % 2 = 1 := by omega
        by_cases hin : fk < L8
        · have gi : decide ((fk : Int) < (L8 : Int)) = true := by simp; omega
          have gi' : decide (fk < L8) = true := by simp; omega
          obtain ⟨j, hj⟩ : ∃ j, j = fk / 8 := ⟨_, rfl⟩
          obtain ⟨r, hr⟩ : ∃ r, r = fk % 8 := ⟨_, rfl⟩
          have hr8 : r < 8 := by omega
          have hjL : j < L := by have := HL8.out; omega
          have hjr : fk = 8 * j + r := by omega
          have HJR := Lib.hid hjr
          have q1 : (fk : Int) % 8 = (r : Int) := by omega
          have q2 : (fk : Int).tmod 8 = (r : Int) := by rw [Int.tmod_eq_emod_of_nonneg (by omega)]; omega
          have q3 : (fk : Int) / 8 = (j : Int) := by omega
          have q4 : (fk : Int).tdiv 8 = (j : Int) := by rw [Int.tdiv_eq_ediv_of_nonneg (by omega)]; omega
          clear hj hr hjr
          go_wp2_with fail
          go_loopw [19, 20] (fun mv nv wx => ∃ i M : Nat, i ≤ r ∧ M ≤ 128 ∧ mv = .int .u8 M ∧ nv = .int .i64 i ∧ Hid (M = 2 ^ i) ∧ wx = w0) (fun _ nv _ => r - (intOf nv).toNat)
          case atStart => exact ⟨0, 1, by omega, by omega, rfl, rfl, by show _ = _; rfl, rfl⟩
          case round =>
            obtain ⟨i, M, hi, hM, rfl, rfl, HM, rfl⟩ := hrel
            by_cases hir : i < r
            · have gr : decide ((i : Int) < (r : Int)) = true := by simp; omega
              have gr' : decide (i < r) = true := by simp; omega
              have hM64 : M ≤ 64 := by
                have h := HM.out
                have : 2 ^ i ≤ 2 ^ 6 := Nat.pow_le_pow_right (by omega) (by omega)
                omega
              have v1 : IntKind.u8.wrap (2 * (M : Int)) = ((2 * M : Nat) : Int) := by rw [IntKind.wrap_u8']; omega
              have v2 : IntKind.i64.wrap ((i : Int) + 1) = ((i + 1 : Nat) : Int) := by rw [IntWalk.i64_in _ (by omega)]; omega
              go_wp2_with fail
              go_roundw
              case measure => go_light; simp [intOf]; omega
              case rel => go_light; exact ⟨i + 1, 2 * M, by omega, by omega, by first | rfl | go_num, by first | rfl | go_num, by show _ = _; rw [HM.out, Nat.pow_succ]; omega, by first | rfl | trivial⟩
            · obtain rfl : i = r := by omega
              have gr : decide ((i : Int) < (i : Int)) = false := by simp
              have gr' : decide (i < i) = false := by simp
              have hXl : X.length = L := by rw [HL.out]; exact HTn.out.1
              have y0 : X.getD j 0 ≤ 255 := by
                rw [List.getD_eq_getElem?_getD, List.getElem?_eq_getElem (by omega)]
                exact HTn.out.2.1 _ (List.getElem_mem _)
              have c0 : wr.cell? ⟨g, j, none⟩ = some (.int .u8 (X.getD j 0 : Nat)) := by
                rw [(Lz.own_cells HO.out hjL).1]
                simp [numL, List.getD_eq_getElem?_getD, List.getElem?_eq_getElem (show j < X.length by omega)]
              have fz := (Lz.own_cells HO.out hjL).2.1
              have HY : Hid (X.getD j 0 = X.getD j 0) := rfl
              obtain ⟨y, hy⟩ : ∃ y, y = X.getD j 0 := ⟨_, rfl⟩
              rw [← hy] at y0 c0
              have v1 : bits .xor .u8 (y : Int) (M : Int) = ((y ^^^ M : Nat) : Int) := u8_xor_nat y M (by omega) (by omega)
              have x0 : (0 : Int) ≤ (j : Int) := by omega
              have x1 : (j : Int) < (L : Int) := by omega
              obtain ⟨p3, hp3⟩ : ∃ p3, p3 = p2 / 2 := ⟨_, rfl⟩
              have u1 : (p2 : Int) / 2 = (p3 : Int) := by omega
              have u2 : (p2 : Int).tdiv 2 = (p3 : Int) := by rw [Int.tdiv_eq_ediv_of_nonneg (by omega)]; exact u1
              have hp3l : p3 < 4294967296 := by omega
              obtain ⟨z, hz⟩ : ∃ z, z = y ^^^ M := ⟨_, rfl⟩
              rw [← hz] at v1
              have HTN : Hid (Tn F fr first (k + 1) (X.set j z) true) := by
                have h := Tn.flip HTn.out (j := j) (r := i) (by rw [← HFK.out]; exact HJR.out) hr8 (by omega) hfl.1
                rw [hz, hy, HM.out]
                exact h
              have HO5 : Hid ((wr.setCell ⟨g, j, none⟩ (.int .u8 (z : Nat))).ownsRow w.heap.size 5 1 (.slice (some ⟨g, 0, none⟩) L c2) L (numL .u8 (X.set j z))) := by
                rw [← numL_set]
                exact Lz.own_put HO.out _ hjL
              have HB5 : Hid (Below w.heap.size w (wr.setCell ⟨g, j, none⟩ (.int .u8 (z : Nat)))) := bel_set hg0 HB.out
              clear hp3 hy hz HY
              go_wp2_with fail
              go_roundw
              case measure => go_light; simp [intOf]; omega
              case rel => go_light; exact ⟨k + 1, p3, true, X.set j z, by omega, hp3l, by first | rfl | trivial, by first | rfl | trivial, by first | rfl | go_num, HTN.out, HO5.out, HB5.out⟩
        · have gi : decide ((fk : Int) < (L8 : Int)) = false := by simp; omega
          have gi' : decide (fk < L8) = false := by simp; omega
          obtain ⟨p3, hp3⟩ : ∃ p3, p3 = p2 / 2 := ⟨_, rfl⟩
          have u1 : (p2 : Int) / 2 = (p3 : Int) := by omega
          have u2 : (p2 : Int).tdiv 2 = (p3 : Int) := by rw [Int.tdiv_eq_ediv_of_nonneg (by omega)]; exact u1
          have hp3l : p3 < 4294967296 := by omega
          have HTN : Hid (Tn F fr first (k + 1) X t) := HTn.out.skip
          clear hp3
          go_wp2_with fail
          go_roundw
          case measure => go_light; simp [intOf]; omega
          case rel => go_light; exact ⟨k + 1, p3, t, X, by omega, hp3l, by first | rfl | trivial, by first | rfl | trivial, by first | rfl | go_num, HTN.out, HO.out, HB.out⟩
      · have gp : (((p2 : Int) % 2) == 1) = false := by rw [beq_eq_false_iff_ne]; omega
        have gp' : (p2 : Int) % 2 = 0 := by omega
        obtain ⟨p3, hp3⟩ : ∃ p3, p3 = p2 / 2 := ⟨_, rfl⟩
        have u1 : (p2 : Int) / 2 = (p3 : Int) := by omega
        have u2 : (p2 : Int).tdiv 2 = (p3 : Int) := by rw [Int.tdiv_eq_ediv_of_nonneg (by omega)]; exact u1
        have hp3l : p3 < 4294967296 := by omega
        have HTN : Hid (Tn F fr first (k + 1) X t) := HTn.out.skip
        clear hp3
        go_wp2_with fail
        go_roundw
        case measure => go_light; simp [intOf]; omega
        case rel => go_light; exact ⟨k + 1, p3, t, X, by omega, hp3l, by first | rfl | trivial, by first | rfl | trivial, by first | rfl | go_num, HTN.out, HO.out, HB.out⟩
    · obtain rfl : k = 32 := by omega
      have gk : decide (((32 : Nat) : Int) < 32) = false := by simp
      have E3 := Lib.hid (D3.out w0 (some ⟨g, 0, none⟩) c2 X HB.out (HTn.out.1.trans HL.out.symm) HTn.out.2.1 HO.out)
      have hcs : t = true → opE X = 5 ∧ opO X = [] ∧ opA X = 0 := fun h => HT.out first 32 X (Nat.le_refl _) (by have := HTn.out; rw [h] at this; exact this)
      cases t with
      | true =>
        obtain ⟨e1, e2, e3⟩ := hcs rfl
        rw [e1, e2, e3] at E3
        clear hcs e1 e2 e3 HT HTn D3
        go_wp2_with fail
        refine E3.out.mono ?_
        rintro e w5 ⟨v, rfl, ho, hb5⟩
        obtain ⟨A5, c5, rfl⟩ := own_shape ho
        have HB5 : Hid (Below w.heap.size w w5) := bel_step0 hb5 HB.out
        clear ho hb5 E3
        go_wp2_with fail
        go_ret
        exact ⟨rfl, HB5.out⟩
      | false =>
        generalize opE X = oe at *
        generalize opO X = oo at *
        generalize opA X = oa at *
        clear hcs HT HTn D3
        go_wp2_with fail
        refine E3.out.mono ?_
        rintro e w5 ⟨v, rfl, ho, hb5⟩
        obtain ⟨A5, c5, rfl⟩ := own_shape ho
        have HB5 : Hid (Below w.heap.size w w5) := bel_step0 hb5 HB.out
        clear ho hb5 E3
        go_wp2_with fail
        go_ret
        exact ⟨rfl, HB5.out⟩
end Go.Proofs.YtidclmmnfienlaaGreatDoor.Block
