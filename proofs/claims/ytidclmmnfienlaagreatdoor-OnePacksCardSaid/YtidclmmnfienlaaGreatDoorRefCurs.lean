/-
  The reference's cursor: firkinref03.
  The reference's cursor: bytes and numbers that are read.
-/
import Derived.Test.YtidclmmnfienlaaGreatDoorNumCurs
import Derived.Test.YtidclmmnfienlaaGreatDoorApp

namespace Go.Proofs.YtidclmmnfienlaaGreatDoor.Nums
open Go.RowKit Go.Proofs.YtidclmmnfienlaaGreatDoor.Mem Go.Proofs.YtidclmmnfienlaaGreatDoor.Own Go.Proofs.YtidclmmnfienlaaGreatDoor.Canon

/-- At a step of a region that draws its order: an append of any slice onto an owned row. -/
theorem step_app {P : Program} {w : World} {ops : Array Oper} {o : Oper} {a : Act} {K : Act → World → Prop} {Q : Exit → Act → World → Prop} {E : Prop} (hgd : o.guard = none) (s x : Operand) (t : TypeId)
    (ho : o.op = .call { callee := .builtin .append, args := #[s, x], argTypes := #[t, t] })
    (base : Nat) (e : TypeId) (i : TypeInfo) (z : Value) (size bytes : Nat) (ht : P.underlying t = some (.slice e)) (hi : P.info? e = some i) (hz : i.zero = some z)
    (hsize : i.size = size) (hby : i.bytes = bytes) (hzs : z.cells.size = size) (hsz : 0 < size)
    (v : Value) (n : Nat) (xs : List Value) (hs : a.eval s = v) (hown : w.ownsRow base e size v n xs)
    (A : Option Addr) (m c : Nat) (news : List Value) (hx : a.eval x = .slice A m c) (hsrc : Src w A m c size news) (h1 : ∀ u ∈ news, u.oneCell' = true)
    (h63 : n + m ≤ maxLen) (hbytes : (n + m) * bytes ≤ 140737488355328) (hbase : base ≤ w.heap.size)
    (h : ∀ A' c' w', w'.ownsRow base e size (.slice A' (n + m) c') (n + m) (xs ++ news) → w.grownBy w' v.ownBlock → K (a.put o.dst (.slice A' (n + m) c')) w') :
    if Region.wanted o (yielded ops a.tmps) = true then Oper.wp P o a w K Q else E := by
  have hw : Region.wanted o (yielded ops a.tmps) = true := by simp [Region.wanted, hgd]
  rw [if_pos hw]
  obtain ⟨v', w', hr, h2, h3, h5⟩ := run_app (P := P) w base t o.type e i z size bytes ht hi hz hsize hby hzs hsz v n xs hown A m c news hsrc h1 h63 hbytes hbase
  obtain ⟨A', c', rfl⟩ := own_shape h2
  unfold Oper.wp execOp
  simp only [ho, resolve, invoke, builtin, Sem.run_bind, Sem.run_pure, Result.andThen_ok, List.map_toArray, List.map_cons, List.map_nil, hs, hx, hr]
  exact h A' c' w' h2 h3

set_option maxHeartbeats 1000000 in
set_option maxRecDepth 100000 in
theorem rscan_any (w : World) (A : Option Addr) (n c at_ : Nat) (ls : List Nat) (hn : ls.length = n) (hN : n ≤ 100000) (hat : at_ ≤ n) (h8 : ∀ x ∈ ls, x ≤ 255) (ha : Row w w.heap.size A n 1 (numF .u8 ls)) :
    Calls Tryz.prog 110 #[.slice A n c, .int .i64 at_] w fun e w' => e = .returned (.tuple #[.int .u64 (scanP (ls.drop at_) 0 0).1, .int .i64 (at_ + (scanP (ls.drop at_) 0 0).2.1 : Nat), .int .i64 (scanP (ls.drop at_) 0 0).2.2]) ∧ w' = w := by
  have HA := Lib.hid ha
  have HN := Lib.hid hn
  have H8 := Lib.hid h8
  clear ha hn h8
  obtain ⟨R, hR⟩ : ∃ R, R = scanP (ls.drop at_) 0 0 := ⟨_, rfl⟩
  rw [← hR]
  have HR := Lib.hid hR
  clear hR
  go_enter Tryz.func110, Tryz.ntmps110
  go_wp2_with fail
  go_loopw [7, 8, 9] (fun xv mv i wx => ∃ k x m : Nat, at_ + k ≤ n ∧ k ≤ 9 ∧ xv = .int .u64 x ∧ mv = .int .u64 m ∧ i = .int .i64 k ∧ Hid (x < 2 ^ (7 * k)) ∧ Hid (m = 2 ^ (7 * k)) ∧ Hid (scanP (ls.drop (at_ + k)) k x = R) ∧ wx = w) (fun _ _ i _ => n - (intOf i).toNat)
  case atStart => exact ⟨0, 0, 1, by omega, by omega, rfl, rfl, rfl, by show _ < _; simp, by show _ = _; simp, HR.out.symm, rfl⟩
  case round =>
    obtain ⟨k, x, m, hk, hk9, rfl, rfl, rfl, hx, hm, hS, rfl⟩ := hrel
    have s0 : IntKind.i64.wrap ((at_ : Int) + (k : Int)) = ((at_ + k : Nat) : Int) := by rw [IntWalk.i64_in _ (by omega)]; omega
    obtain ⟨j, hj⟩ : ∃ j, j = at_ + k := ⟨_, rfl⟩
    rw [← hj] at s0 hS
    by_cases hlt : j < n
    · obtain ⟨b, off, y, rfl, hb, hy, hc⟩ := num_cell HA.out HN.out hlt
      have hkl : j < ls.length := by rw [HN.out]; exact hlt
      have hy8 : y ≤ 255 := H8.out y (List.mem_of_getElem? hy)
      have hs := hS.out
      rw [List.drop_eq_getElem_cons hkl, scanP] at hs
      rw [List.getElem?_eq_getElem hkl] at hy
      injection hy with hy
      rw [hy] at hs
      have y0 : (0 : Int) ≤ (j : Int) := by omega
      have y1 : (j : Int) < (n : Int) := by omega
      have gl : decide ((n : Int) ≤ (j : Int)) = false := by simp; omega
      have gl' : decide (n ≤ j) = false := by simp; omega
      have sy : IntKind.u64.wrap (y : Int) = (y : Int) := by rw [IntKind.wrap_u64]; omega
      by_cases h9 : k = 9 ∧ y ≠ 1
      · rw [if_pos (.inl h9)] at hs
        have g1 : ((k : Int) == 9) = true := by simp; omega
        have g2 : ((y : Int) != 1) = true := by simp; omega
        have HS := Lib.hid hs
        clear hs hS hx hm h9 hy hkl hj
        go_wp2_with fail
        go_ret3
        exact ⟨by rw [← HS.out]; rfl, rfl⟩
      · by_cases h0 : 0 < k ∧ y = 0
        · rw [if_pos (.inr h0)] at hs
          have g1 : ((k : Int) == 9) = false := by rw [Bool.eq_false_iff]; intro h; simp at h; omega
          have g3 : decide (0 < k) = true := by simp; omega
          have g4 : ((y : Int) == 0) = true := by simp; omega
          have HS := Lib.hid hs
          clear hs hS hx hm h9 h0 hy hkl hj
          go_wp2_with fail
          go_ret3
          exact ⟨by rw [← HS.out]; rfl, rfl⟩
        · rw [if_neg (by omega)] at hs
          have hxx := hx.out
          obtain ⟨E, hE⟩ : ∃ E, E = 7 * k := ⟨_, rfl⟩
          have hmm := hm.out
          rw [← hE] at hs hxx hmm
          obtain ⟨c7, hc7⟩ : ∃ c7, c7 = y % 128 := ⟨_, rfl⟩
          rw [← hc7] at hs
          obtain ⟨x2, hx2⟩ : ∃ x2, x2 = x + c7 * 2 ^ E := ⟨_, rfl⟩
          have hpow : 2 ^ E ≤ 2 ^ 63 := Nat.pow_le_pow_right (by omega) (by omega)
          have hmul : c7 * 2 ^ E ≤ 127 * 2 ^ E := Nat.mul_le_mul_right _ (by omega)
          have hx64 : x + c7 * 2 ^ E < 18446744073709551616 := by
            by_cases h99 : k = 9
            · have : y = 1 := by omega
              have e7 : c7 = 1 := by omega
              have e63 : E = 63 := by omega
              subst e63
              rw [e7]
              have : x < 2 ^ 63 := hxx
              omega
            · have : 2 ^ E ≤ 2 ^ 56 := Nat.pow_le_pow_right (by omega) (by omega)
              omega
          obtain ⟨t2, ht2⟩ : ∃ t2, t2 = c7 * 2 ^ E := ⟨_, rfl⟩
          have e1 : (y : Int) % 128 = (c7 : Int) := by omega
          have s3 : IntKind.u64.wrap ((c7 : Int) * (m : Int)) = (t2 : Int) := by
            rw [IntKind.wrap_u64, ht2, hmm]
            have : ((c7 : Int) * ((2 ^ E : Nat) : Int)) = ((c7 * 2 ^ E : Nat) : Int) := by push_cast; rfl
            rw [this]
            omega
          have s4 : IntKind.u64.wrap ((x : Int) + (t2 : Int)) = (x2 : Int) := by
            rw [IntKind.wrap_u64, hx2, ← ht2]
            omega
          rw [← hx2] at hs
          have hpp : x2 < 2 ^ (7 * (k + 1)) := by
            rw [hx2, show 7 * (k + 1) = E + 7 by omega, Nat.pow_add]
            omega
          obtain ⟨m2, hm2⟩ : ∃ m2, m2 = m * 128 := ⟨_, rfl⟩
          have hm2' : m2 = 2 ^ (7 * (k + 1)) := by rw [hm2, hmm, show 7 * (k + 1) = E + 7 by omega, Nat.pow_add]
          have HM2 := Lib.hid hm2'
          have H5 : k ≠ 9 → IntKind.u64.wrap ((m : Int) * 128) = (m2 : Int) := fun h => by
            have : 2 ^ E ≤ 2 ^ 56 := Nat.pow_le_pow_right (by omega) (by omega)
            rw [IntKind.wrap_u64, hm2]
            omega
          have H5 := Lib.hid H5
          have HP := Lib.hid hpp
          have HS := Lib.hid hs
          have H9 : Hid (k = 9 → y = 1) := fun h => by omega
          have HJ := Lib.hid hj
          clear hs hS hx hxx hy hkl hx2 ht2 hc7 hpow hmul hx64 hE hpp hm hmm hm2 hm2' hj
          by_cases hy128 : y < 128
          · have g5 : decide ((y : Int) < 128) = true := by simp; omega
            have g6 : decide (y < 128) = true := by simp; omega
            have hs := HS.out
            rw [if_pos hy128] at hs
            have HS2 : Hid ((x2, k + 1, (0 : Int)) = R) := hs
            have s5 : IntKind.i64.wrap ((j : Int) + 1) = ((at_ + (k + 1) : Nat) : Int) := by have := HJ.out; rw [IntWalk.i64_in _ (by omega)]; omega
            clear hs HS hy128 H5 HJ
            by_cases h99 : k = 9
            · have g1 : ((k : Int) == 9) = true := by simp; omega
              have g2 : ((y : Int) != 1) = false := by have := H9.out h99; subst this; rfl
              have g3 : decide (0 < k) = true := by simp; omega
              have g4 : ((y : Int) == 0) = false := by have := H9.out h99; subst this; rfl
              clear h99 h9 h0
              go_wp2_with fail
              go_ret3
              refine ⟨?_, rfl⟩
              rw [← HS2.out]
              simp
            · have g1 : ((k : Int) == 9) = false := by rw [Bool.eq_false_iff]; intro h; simp at h; omega
              by_cases h00 : k = 0
              · have g3 : decide (0 < k) = false := by simp; omega
                clear h99 h00 h9 h0
                go_wp2_with fail
                go_ret3
                refine ⟨?_, rfl⟩
                rw [← HS2.out]
                simp
              · have g3 : decide (0 < k) = true := by simp; omega
                have g4 : ((y : Int) == 0) = false := by rw [Bool.eq_false_iff]; intro h; simp at h; omega
                clear h99 h00 h9 h0
                go_wp2_with fail
                go_ret3
                refine ⟨?_, rfl⟩
                rw [← HS2.out]
                simp
          · have g5 : decide ((y : Int) < 128) = false := by simp; omega
            have g6 : decide (y < 128) = false := by simp; omega
            have hs := HS.out
            rw [if_neg hy128] at hs
            have HS2 : Hid (scanP (ls.drop (at_ + (k + 1))) (k + 1) x2 = R) := by have h := hs; rw [show j + 1 = at_ + (k + 1) by have := HJ.out; omega] at h; exact h
            have hk9' : k ≠ 9 := fun h => by have := H9.out h; omega
            have s6 := H5.out hk9'
            have s7 : IntKind.i64.wrap ((k : Int) + 1) = ((k + 1 : Nat) : Int) := by rw [IntWalk.i64_in _ (by omega)]; omega
            have hk2 : at_ + (k + 1) ≤ n := by have := HJ.out; omega
            clear hs HS hy128 H5 HJ
            by_cases h99 : k = 9
            · have g1 : ((k : Int) == 9) = true := by simp; omega
              have g2 : ((y : Int) != 1) = false := by have := H9.out h99; subst this; rfl
              have g3 : decide (0 < k) = true := by simp; omega
              have g4 : ((y : Int) == 0) = false := by have := H9.out h99; subst this; rfl
              clear h99 h9 h0
              go_wp2_with fail
              go_roundw
              case measure => go_light; simp [intOf]; omega
              case rel => go_light; exact ⟨k + 1, x2, m2, by omega, by omega, by first | rfl | trivial, by first | rfl | trivial, by go_num, HP.out, HM2.out, HS2.out, by first | rfl | trivial⟩
            · have g1 : ((k : Int) == 9) = false := by rw [Bool.eq_false_iff]; intro h; simp at h; omega
              by_cases h00 : k = 0
              · have g3 : decide (0 < k) = false := by simp; omega
                clear h99 h00 h9 h0
                go_wp2_with fail
                go_roundw
                case measure => go_light; simp [intOf]; omega
                case rel => go_light; exact ⟨k + 1, x2, m2, by omega, by omega, by first | rfl | trivial, by first | rfl | trivial, by go_num, HP.out, HM2.out, HS2.out, by first | rfl | trivial⟩
              · have g3 : decide (0 < k) = true := by simp; omega
                have g4 : ((y : Int) == 0) = false := by rw [Bool.eq_false_iff]; intro h; simp at h; omega
                clear h99 h00 h9 h0
                go_wp2_with fail
                go_roundw
                case measure => go_light; simp [intOf]; omega
                case rel => go_light; exact ⟨k + 1, x2, m2, by omega, by omega, by first | rfl | trivial, by first | rfl | trivial, by go_num, HP.out, HM2.out, HS2.out, by first | rfl | trivial⟩
    · obtain rfl : j = n := by omega
      have hs := hS.out
      rw [List.drop_of_length_le (by rw [HN.out]; exact Nat.le_refl _), scanP] at hs
      have HS := Lib.hid hs
      have gl : decide ((j : Int) ≤ (j : Int)) = true := by simp
      have gl' : decide (j ≤ j) = true := by simp
      clear hs hS hx hm hj
      go_wp2_with fail
      go_ret3
      exact ⟨by rw [← HS.out]; rfl, rfl⟩

/-- The reference's cursor over bytes, its place, its error. -/
structure RCur (w : World) (g base : Nat) (bs : List Nat) (A : Option Addr) (c at_ : Nat) (er : Int) : Prop where
  blk : Blk w g 75 #[.slice A bs.length c, .int .i64 at_, .int .i64 er]
  own : w.ownsRow base 5 1 (.slice A bs.length c) bs.length (numL .u8 bs)
  le : at_ ≤ bs.length
  lo : base ≤ g
section
variable {w w' : World} {g base : Nat} {bs : List Nat} {A : Option Addr} {c at_ : Nat} {er : Int}
theorem RCur.drew (h : RCur w g base bs A c at_ er) : RCur w.drew g base bs A c at_ er := ⟨h.blk, h.own, h.le, h.lo⟩
theorem RCur.drewN (h : RCur w g base bs A c at_ er) (q : Nat) : RCur (w.drewN q) g base bs A c at_ er := ⟨h.blk, h.own, h.le, h.lo⟩
theorem RCur.step (h : RCur w g base bs A c at_ er) (hb : Below w.heap.size w w') : RCur w' g base bs A c at_ er :=
  ⟨h.blk.step hb, own_kept h.own (fun x hx => hb.block x (World.ownsRow.lt h.own x hx).2), h.le, h.lo⟩
theorem RCur.cells (h : RCur w g base bs A c at_ er) : w.cell? ⟨g, 0, none⟩ = some (.slice A bs.length c) ∧ w.cell? ⟨g, 1, none⟩ = some (.int .i64 at_) ∧ w.cell? ⟨g, 2, none⟩ = some (.int .i64 er) := ⟨h.blk.cell 0, h.blk.cell 1, h.blk.cell 2⟩
theorem RCur.setErr (h : RCur w g base bs A c at_ er) (e2 : Int) : RCur (w.setCell ⟨g, 2, none⟩ (.int .i64 e2)) g base bs A c at_ e2 :=
  ⟨h.blk.set 2 _, own_kept h.own (fun x hx => Below.heap_setCell w _ _ x (fun e => own_blk h.own h.blk (by decide) (hx.trans (congrArg some e)))), h.le, h.lo⟩
theorem RCur.setAt (h : RCur w g base bs A c at_ er) (at2 : Nat) (h2 : at2 ≤ bs.length) : RCur (w.setCell ⟨g, 1, none⟩ (.int .i64 at2)) g base bs A c at2 er :=
  ⟨h.blk.set 1 _, own_kept h.own (fun x hx => Below.heap_setCell w _ _ x (fun e => own_blk h.own h.blk (by decide) (hx.trans (congrArg some e)))), h2, h.lo⟩
theorem RCur.kept {K : Nat → Prop} (h : RCur w g base bs A c at_ er) (hk : Kept K w w') (hg : K g) (hK : ∀ x, base ≤ x → x ≠ g → x < w.heap.size → K x) : RCur w' g base bs A c at_ er :=
  ⟨(hk.block g hg).trans h.blk, own_kept h.own (fun x hx => hk.block x (hK x (World.ownsRow.lt h.own x hx).1 (fun e => own_blk h.own h.blk (by decide) (e ▸ hx)) (World.ownsRow.lt h.own x hx).2)), h.le, h.lo⟩
theorem RCur.row (h : RCur w g base bs A c at_ er) : Row w w.heap.size A bs.length 1 (numF .u8 bs) := own_row h.own
end
theorem own_start {w : World} {base : Nat} (hb : base ≤ w.heap.size) : (w.alloc (.cells #[] 5)).ownsRow base 5 1 (.slice (some ⟨w.heap.size, 0, none⟩) 0 0) 0 [] :=
  ⟨rfl, .inr ⟨w.heap.size, 0, #[], rfl, hb, heap_alloc_new w _, Nat.le_refl _, by unfold maxLen; omega, rfl, rfl⟩⟩
set_option maxRecDepth 100000 in
theorem rnew_any (w : World) (A : Option Addr) (n c : Nat) (ls : List Nat) (hn : ls.length = n) (hle : n ≤ 100000) (hnil : A = none → n = 0 ∧ c = 0) (ha : Row w w.heap.size A n 1 (numF .u8 ls)) :
    Calls Tryz.prog 40 #[.slice A n c] w fun e w' => ∃ g B d, e = .returned (.pointer (some ⟨g, 0, none⟩)) ∧ RCur w' g w.heap.size ls B d 0 0 ∧ Below w.heap.size w w' := by
  obtain ⟨j0, hj0, hy0, hy1, hy2⟩ := info_parts info_u8
  have HB1 : Hid (Below w.heap.size w (w.alloc (.cells #[] 5))) := bel_alloc0 (Below.refl _ _)
  have HS := Lib.hid (src_num ((ha.below HB1.out).mono HB1.out.size) hn hnil)
  have HO := Lib.hid (own_start (w := w) (Nat.le_refl _))
  have HN := Lib.hid hn
  have hz1 := HB1.out.size
  clear hn hnil ha
  go_enter Tryz.func40, Tryz.ntmps40
  go_wp2_with (at_builtin; refine wpList_app rfl (.tmp 3) (.tmp 4) 29 rfl w.heap.size 5 j0 _ 1 1 Tryz.underlying29 hj0 hy0 hy1 hy2 rfl (by decide) _ _ _ (by rfl) HO.out _ _ _ _ (by rfl) HS.out (numL_one _ _) (by unfold maxLen; omega) (by omega) hz1 ?_; intro v4 w4 hown4 hg4 hat4; have HB4 : Hid (Below w.heap.size w w4) := HB1.out.grown hg4 hz1 (fun y hy => (World.ownsRow.lt HO.out y hy).1); obtain ⟨B, d, rfl⟩ := own_shape hown4; have HO4 : Hid (w4.ownsRow w.heap.size 5 1 (.slice B (0 + n) d) (0 + n) (numL .u8 ls)) := hown4; clear hown4 hg4 hat4)
  have hz := HB4.out.size
  go_ret
  refine ⟨w4.heap.size, B, d, rfl, ⟨?_, ?_, Nat.zero_le _, hz⟩, bel_alloc hz HB4.out⟩
  · rw [HN.out, ← Nat.zero_add n]; exact Blk.made _ _ _
  · have h := HO4.out.alloc (.cells #[.slice B (0 + n) d, .int .i64 0, .int .i64 0] 75)
    rw [HN.out]
    rw [Nat.zero_add] at h
    exact h
set_option maxRecDepth 100000 in
theorem rleft_any (w : World) (g base : Nat) (bs : List Nat) (A : Option Addr) (c at_ : Nat) (er : Int) (hle : bs.length ≤ 100000) (h : RCur w g base bs A c at_ er) :
    Calls Tryz.prog 57 #[.pointer (some ⟨g, 0, none⟩)] w fun e w' => e = .returned (.int .i64 (bs.length - at_ : Nat)) ∧ ∃ q, w' = w.drewN q := by
  obtain ⟨d0, d1, d2⟩ := h.cells
  have hat := h.le
  have s1 : IntKind.i64.wrap ((bs.length : Int) - (at_ : Int)) = ((bs.length - at_ : Nat) : Int) := by rw [IntWalk.i64_in _ (by omega)]; omega
  generalize bs.length - at_ = m at *
  generalize bs.length = n at *
  clear h hat
  go_enter Tryz.func57, Tryz.ntmps57
  go_wp2_with fail
  go_quiet (fail)
  go_wp2_with fail
  go_ret
  exact ⟨rfl, _, rfl⟩
set_option maxRecDepth 100000 in
theorem rfail_any (w : World) (g base : Nat) (bs : List Nat) (A : Option Addr) (c at_ : Nat) (er e2 : Int) (h : RCur w g base bs A c at_ er) :
    Calls Tryz.prog 42 #[.pointer (some ⟨g, 0, none⟩), .int .i64 e2] w fun e w' => e = .returned (.tuple #[]) ∧ RCur w' g base bs A c at_ (failE er e2) ∧ Kept (fun x => x ≠ g) w w' := by
  obtain ⟨d0, d1, d2⟩ := h.cells
  have f2 := h.blk.frozen 2
  have H := Lib.hid h
  clear h
  unfold failE
  by_cases he : er = 0
  · subst he
    rw [if_pos rfl]
    go_enter Tryz.func42, Tryz.ntmps42
    go_wp2_with fail
    refine bodyPost_end (results_none rfl _ _ _) rfl ?_
    exact ⟨rfl, H.out.setErr e2, (Kept.refl _ _).set (fun h => h rfl) _⟩
  · rw [if_neg he]
    have g1 : (er == 0) = false := by simpa using he
    clear he
    go_enter Tryz.func42, Tryz.ntmps42
    go_wp2_with fail
    refine bodyPost_end (results_none rfl _ _ _) rfl ?_
    exact ⟨rfl, H.out, Kept.refl _ _⟩
end Go.Proofs.YtidclmmnfienlaaGreatDoor.Nums

namespace Go.Proofs.YtidclmmnfienlaaGreatDoor.Nums
open Go.RowKit Go.Proofs.YtidclmmnfienlaaGreatDoor.Mem Go.Proofs.YtidclmmnfienlaaGreatDoor.Own Go.Proofs.YtidclmmnfienlaaGreatDoor.Canon

def RTakePost (w : World) (g base : Nat) (bs : List Nat) (A : Option Addr) (c at_ : Nat) (er : Int) (n : Nat) (e : Ending) (w' : World) : Prop :=
  ∃ v, e = .returned v ∧ w'.ownsRow w.heap.size 5 1 v (takeO bs at_ er n).length (numL .u8 (takeO bs at_ er n)) ∧ RCur w' g base bs A c (takeA bs at_ er n) (takeE bs at_ er n) ∧ Kept (Others g w) w w'
theorem src_mid {w : World} {B c n k m : Nat} {A : Option Addr} {bs : List Nat} (h : Row w B A n 1 (numF .u8 bs)) (hn : bs.length = n) (hk : k + m ≤ n) (hc : n ≤ c) (hnil : A = none → n = 0 ∧ c = 0) : Src w (cutA A k c 1) m (c - k) 1 (numL .u8 ((bs.drop k).take m)) := by
  have hr : Row w B (cutA A k c 1) m 1 (numF .u8 ((bs.drop k).take m)) := h.cut k m hk hc (fun i j hi hj => by
    obtain rfl : j = 0 := by omega
    simp only [numF, List.getD_eq_getElem?_getD, List.getElem?_take, List.getElem?_drop]
    rw [if_pos hi])
  refine src_num hr (by rw [List.length_take, List.length_drop]; omega) (fun e => ?_)
  have hA : A = none := by
    unfold cutA at e
    split at e
    · exact e
    · cases A with
      | none => rfl
      | some a => cases e
  have := hnil hA
  omega
set_option maxHeartbeats 1000000 in
set_option maxRecDepth 100000 in
theorem rtake_any (w : World) (g base : Nat) (bs : List Nat) (A : Option Addr) (c at_ : Nat) (er : Int) (n : Nat) (hle : bs.length ≤ 100000) (hn : n ≤ 1000000000) (h : RCur w g base bs A c at_ er) :
    Calls Tryz.prog 44 #[.pointer (some ⟨g, 0, none⟩), .int .i64 n] w (RTakePost w g base bs A c at_ er n) := by
  obtain ⟨j0, hj0, hy0, hy1, hy2⟩ := info_parts info_u8
  obtain ⟨d0, d1, d2⟩ := h.cells
  have f1 := h.blk.frozen 1
  have f2 := h.blk.frozen 2
  have hat := h.le
  have hgl := h.blk.lt
  have H := Lib.hid h
  have g0 : decide ((n : Int) < 0) = false := by simp
  unfold RTakePost
  by_cases he : er = 0
  · subst he
    have D := Lib.hid (rleft_any w g base bs A c at_ 0 hle h)
    by_cases hlt : bs.length - at_ < n
    · have eO : takeO bs at_ 0 n = [] := (take0 _ _ _).trans (if_pos hlt)
      have eA : takeA bs at_ 0 n = at_ := (takeA0 _ _ _).trans (if_pos hlt)
      have eE : takeE bs at_ 0 n = 1 := (takeE0 _ _ _).trans (if_pos hlt)
      rw [eO, eA, eE]
      have g1 : decide (((bs.length - at_ : Nat) : Int) < (n : Int)) = true := by simp; omega
      have g1' : decide (bs.length - at_ < n) = true := by simp; omega
      generalize bs.length - at_ = m at *
      clear eO eA eE h hlt
      go_enter Tryz.func44, Tryz.ntmps44
      go_wp2_with fail
      refine D.out.mono ?_
      rintro e w1 ⟨rfl, q, rfl⟩
      have H1 : Hid (RCur (w.drewN q) g base bs A c at_ 0) := H.out.drewN q
      clear D
      go_wp2_with fail
      go_ret
      exact ⟨_, rfl, World.ownsRow_nil _ _ _ _, H1.out.setErr 1, (Kept.of_below (B := w.heap.size) (by (repeat (first | (with_reducible exact Below.refl _ _) | (with_reducible assumption) | (with_reducible refine Below.drew ?_) | (with_reducible refine below_drewN ?_ _) | ((with_reducible refine bel_set ?_ ?_); (focus (first | (simp; done) | (simp; omega) | omega | (simp at *; omega)))) | (with_reducible refine bel_alloc0 ?_) | (with_reducible refine bel_step0 (by assumption) ?_) | ((with_reducible refine bel_alloc ?_ ?_); (focus (first | (simp; done) | (simp; omega) | omega | (simp at *; omega)))) | ((with_reducible refine bel_step (by assumption) ?_ ?_); (focus (first | (simp; done) | (simp; omega) | omega | (simp at *; omega))))))) (fun x hx => hx.1)).set (fun h => h.2 rfl) _⟩
    · have eO : takeO bs at_ 0 n = (bs.drop at_).take n := (take0 _ _ _).trans (if_neg hlt)
      have eA : takeA bs at_ 0 n = at_ + n := (takeA0 _ _ _).trans (if_neg hlt)
      have eE : takeE bs at_ 0 n = 0 := (takeE0 _ _ _).trans (if_neg hlt)
      rw [eO, eA, eE]
      have g1 : decide (((bs.length - at_ : Nat) : Int) < (n : Int)) = false := by simp; omega
      have g1' : decide (bs.length - at_ < n) = false := by simp; omega
      have hl : at_ + n ≤ bs.length := by omega
      have hwf := own_wf h.own
      have hcc := hwf.2
      have hAC : A = none → c = 0 := fun e => (hwf.1 e).2
      have HSR : Hid (∀ wx, Below w.heap.size w wx → Src wx (cutA A at_ c 1) n (c - at_) 1 (numL .u8 ((bs.drop at_).take n))) := fun wx hb => src_mid (h.row.below hb) rfl hl hwf.2 hwf.1
      have ks := fun wx => run_cut2 (P := Tryz.prog) (t := 29) (s := 1) Tryz.underlying29 (fun _ => by kernel_rfl) A bs.length c .i64 .i64 (at_ : Int) ((at_ + n : Nat) : Int) at_ (at_ + n) rfl rfl (by omega) (by omega) wx
      rw [Nat.add_sub_cancel_left] at ks
      have hLL : ((bs.drop at_).take n).length = n := by rw [List.length_take, List.length_drop]; omega
      have s1 : IntKind.i64.wrap ((at_ : Int) + (n : Int)) = ((at_ + n : Nat) : Int) := by rw [IntWalk.i64_in _ (by omega)]; omega
      rw [hLL]
      generalize (bs.drop at_).take n = L at *
      generalize bs.length - at_ = m at *
      obtain ⟨k, hk⟩ : ∃ k, k = at_ + n := ⟨_, rfl⟩
      have HKE := Lib.hid hk
      rw [← hk] at ks s1 hl ⊢
      generalize cutA A at_ c 1 = AC at *
      generalize c - at_ = cc at *
      obtain ⟨N, hN⟩ : ∃ N, N = bs.length := ⟨_, rfl⟩
      rw [← hN] at d0 ks hle hl hat
      have HNE := Lib.hid hN
      clear eO eA eE h hlt hwf hLL hk hN
      go_enter Tryz.func44, Tryz.ntmps44
      go_wp2_with fail
      refine D.out.mono ?_
      rintro e w1 ⟨rfl, q, rfl⟩
      have H1 : Hid (RCur (w.drewN q) g base bs A c at_ 0) := H.out.drewN q
      clear D
      go_upto_region 9 with fail
      have HB1 := Lib.hid (show Below w.heap.size w ((w.drewN (q + 1)).alloc (.cells #[] 5)) by (repeat (first | (with_reducible exact Below.refl _ _) | (with_reducible assumption) | (with_reducible refine Below.drew ?_) | (with_reducible refine below_drewN ?_ _) | ((with_reducible refine bel_set ?_ ?_); (focus (first | (simp; done) | (simp; omega) | omega | (simp at *; omega)))) | (with_reducible refine bel_alloc0 ?_) | (with_reducible refine bel_step0 (by assumption) ?_) | ((with_reducible refine bel_alloc ?_ ?_); (focus (first | (simp; done) | (simp; omega) | omega | (simp at *; omega)))) | ((with_reducible refine bel_step (by assumption) ?_ ?_); (focus (first | (simp; done) | (simp; omega) | omega | (simp at *; omega)))))))
      have HO := Lib.hid (own_start (w := w.drewN (q + 1)) (base := w.heap.size) (Nat.le_refl _))
      have HS := Lib.hid (HSR.out _ HB1.out)
      have hz1 := HB1.out.size
      have HK1 := Lib.hid (H.out.step HB1.out)
      have z0 : ((w.drewN (q + 1)).alloc (.cells #[] 5)).cell? ⟨g, 0, none⟩ = some (.slice A N c) := by rw [HNE.out]; exact HK1.out.cells.1
      have z1 : ((w.drewN (q + 1)).alloc (.cells #[] 5)).cell? ⟨g, 1, none⟩ = some (.int .i64 at_) := HK1.out.cells.2.1
      clear HSR
      go_region_held3 (fun wx => wx.cell? ⟨g, 0, none⟩ = some (.slice A N c) ∧ wx.cell? ⟨g, 1, none⟩ = some (.int .i64 at_)) (first | exact ⟨d0, d1⟩ | exact ⟨z0, z1⟩ | exact ⟨y0, y1⟩)
        ((refine step_app rfl (.tmp 23) (.tmp 38) 29 rfl w.heap.size 5 j0 _ 1 1 Tryz.underlying29 hj0 hy0 hy1 hy2 rfl (by decide) _ _ _ (by rfl) HO.out _ _ _ _ (by rfl) HS.out (numL_one _ _) (by unfold maxLen; omega) (by omega) hz1 ?_; intro A5 c5 w5 hown5 hg5; have hB5 : Below w.heap.size w w5 := HB1.out.grown hg5 hz1 (fun y hy => (World.ownsRow.lt HO.out y hy).1); have H5 := H.out.step hB5; have y0 : w5.cell? ⟨g, 0, none⟩ = some (.slice A N c) := by { rw [HNE.out]; exact H5.cells.1 }; have y1 : w5.cell? ⟨g, 1, none⟩ = some (.int .i64 at_) := H5.cells.2.1; have yf := H5.blk.frozen 1))
      have HB5 := Lib.hid hB5
      have HR5 := Lib.hid H5
      have HO5 : Hid (w5.ownsRow w.heap.size 5 1 (.slice A5 (0 + n) c5) (0 + n) (numL .u8 L)) := hown5
      clear hown5 hg5 hB5 H5 HO HS HB1 HK1 z0 z1 d0 d1 d2 f1 f2
      go_wp2_with fail
      go_ret
      refine ⟨_, rfl, ?_, HR5.out.setAt k (by rw [← HNE.out]; exact hl), (Kept.of_below (B := w.heap.size) HB5.out (fun x hx => hx.1)).set (fun h => h.2 rfl) _⟩
      have h := set_own (p := ⟨g, 1, none⟩) HO5.out (own_blk HO5.out HR5.out.blk (by decide)) (.int .i64 (k : Nat))
      rw [Nat.zero_add] at h
      exact h
  · have g1 : (er != 0) = true := by simpa using he
    have eO : takeO bs at_ er n = [] := if_pos he
    have eA : takeA bs at_ er n = at_ := if_pos he
    have eE : takeE bs at_ er n = er := if_pos he
    rw [eO, eA, eE]
    clear eO eA eE h he
    go_enter Tryz.func44, Tryz.ntmps44
    go_wp2_with fail
    go_ret
    exact ⟨_, rfl, World.ownsRow_nil _ _ _ _, H.out, Kept.refl _ _⟩
set_option maxRecDepth 100000 in
theorem rbyte_any (w : World) (g base : Nat) (bs : List Nat) (A : Option Addr) (c at_ : Nat) (er : Int) (hle : bs.length ≤ 100000) (h : RCur w g base bs A c at_ er) :
    Calls Tryz.prog 41 #[.pointer (some ⟨g, 0, none⟩)] w fun e w' => e = .returned (.int .u8 (byteV bs at_ er : Nat)) ∧ RCur w' g base bs A c (takeA bs at_ er 1) (takeE bs at_ er 1) ∧ Kept (Others g w) w w' := by
  have D := rtake_any w g base bs A c at_ er 1 hle (by omega) h
  unfold RTakePost at D
  by_cases hc : er = 0 ∧ at_ < bs.length
  · have hO : takeO bs at_ er 1 = [bs.getD at_ 0] := by
      rw [hc.1, take0, if_neg (by omega), List.drop_eq_getElem_cons hc.2, List.getD_eq_getElem?_getD, List.getElem?_eq_getElem hc.2]
      rfl
    have hV : byteV bs at_ er = bs.getD at_ 0 := if_neg (by simp [hc.1])
    rw [hO] at D
    rw [hV]
    have D := Lib.hid D
    clear hO hV hc h
    generalize bs.getD at_ 0 = x at *
    go_enter Tryz.func41, Tryz.ntmps41
    go_wp2_with fail
    refine D.out.mono ?_
    rintro e w1 ⟨v, rfl, hown, hc, hk⟩
    obtain ⟨g2, c2, hv, _⟩ := hown.form (by simp)
    subst hv
    have c0 := hown.cellAt 0 (by simp)
    simp only [numL, List.map_cons, List.map_nil] at c0
    have HC := Lib.hid hc
    have HK := Lib.hid hk
    clear hown hc hk D
    go_wp2_with fail
    go_ret
    exact ⟨rfl, HC.out, HK.out⟩
  · have hO : takeO bs at_ er 1 = [] := by
      by_cases he : er = 0
      · rw [he, take0, if_pos (by omega)]
      · exact if_pos he
    have hV : byteV bs at_ er = 0 := by
      unfold byteV
      split
      · rfl
      · rw [List.getD_eq_getElem?_getD, List.getElem?_eq_none (by omega)]; rfl
    rw [hO] at D
    rw [hV]
    have D := Lib.hid D
    clear hO hV hc h
    go_enter Tryz.func41, Tryz.ntmps41
    go_wp2_with fail
    refine D.out.mono ?_
    rintro e w1 ⟨v, rfl, hown, hc, hk⟩
    obtain ⟨A2, c2, rfl⟩ := own_shape hown
    have HC := Lib.hid hc
    have HK := Lib.hid hk
    simp only [List.length_nil] at hown
    clear hown hc hk D
    go_wp2_with fail
    go_ret
    exact ⟨rfl, HC.out, HK.out⟩
def numV (bs : List Nat) (at_ : Nat) (er : Int) : Nat := if er ≠ 0 then 0 else (scanP (bs.drop at_) 0 0).1
def numA (bs : List Nat) (at_ : Nat) (er : Int) : Nat := if er ≠ 0 then at_ else at_ + (scanP (bs.drop at_) 0 0).2.1
def numE (bs : List Nat) (at_ : Nat) (er : Int) : Int := if er ≠ 0 then er else (scanP (bs.drop at_) 0 0).2.2
theorem numA_le {bs : List Nat} (h8 : ∀ x ∈ bs, x ≤ 255) {at_ : Nat} (er : Int) (h : at_ ≤ bs.length) : numA bs at_ er ≤ bs.length := by
  unfold numA
  split
  · exact h
  · have := (scanP_spec (bs.drop at_) 0 0 (fun x hx => h8 x (List.mem_of_mem_drop hx)) (by omega) (by simp)).2.1
    rw [List.length_drop] at this
    omega
set_option maxRecDepth 100000 in
theorem rcnum_any (w : World) (g base : Nat) (bs : List Nat) (A : Option Addr) (c at_ : Nat) (er : Int) (hle : bs.length ≤ 100000) (h8 : ∀ x ∈ bs, x ≤ 255) (h : RCur w g base bs A c at_ er) :
    Calls Tryz.prog 74 #[.pointer (some ⟨g, 0, none⟩)] w fun e w' => e = .returned (.int .u64 (numV bs at_ er : Nat)) ∧ RCur w' g base bs A c (numA bs at_ er) (numE bs at_ er) ∧ Kept (Others g w) w w' := by
  obtain ⟨d0, d1, d2⟩ := h.cells
  have f1 := h.blk.frozen 1
  have f2 := h.blk.frozen 2
  have hAl := numA_le h8 er h.le
  have H := Lib.hid h
  by_cases he : er = 0
  · subst he
    have D := Lib.hid (fun q => rscan_any (w.drewN q) A bs.length c at_ bs rfl hle h.le h8 (h.drewN q).row)
    have eV : numV bs at_ 0 = (scanP (bs.drop at_) 0 0).1 := if_neg (by simp)
    have eA : numA bs at_ 0 = at_ + (scanP (bs.drop at_) 0 0).2.1 := if_neg (by simp)
    have eE : numE bs at_ 0 = (scanP (bs.drop at_) 0 0).2.2 := if_neg (by simp)
    rw [← eV, ← eA, ← eE] at D
    generalize numV bs at_ 0 = V at *
    generalize numA bs at_ 0 = P at *
    generalize numE bs at_ 0 = E at *
    clear eV eA eE h
    obtain ⟨N, hN⟩ : ∃ N, N = bs.length := ⟨_, rfl⟩
    rw [← hN] at d0 D hAl
    have HNE := Lib.hid hN
    clear hN
    go_enter Tryz.func74, Tryz.ntmps74
    go_wp2_with fail
    go_quiet ((go_at_call 110; exact Calls.quiet_of_same (D.out _)))
    go_wp2_with fail
    go_ret
    exact ⟨rfl, (((H.out.drewN _).setAt P (by rw [← HNE.out]; exact hAl)).setErr E), ((Kept.of_below (B := w.heap.size) (by (repeat (first | (with_reducible exact Below.refl _ _) | (with_reducible assumption) | (with_reducible refine Below.drew ?_) | (with_reducible refine below_drewN ?_ _) | ((with_reducible refine bel_set ?_ ?_); (focus (first | (simp; done) | (simp; omega) | omega | (simp at *; omega)))) | (with_reducible refine bel_alloc0 ?_) | (with_reducible refine bel_step0 (by assumption) ?_) | ((with_reducible refine bel_alloc ?_ ?_); (focus (first | (simp; done) | (simp; omega) | omega | (simp at *; omega)))) | ((with_reducible refine bel_step (by assumption) ?_ ?_); (focus (first | (simp; done) | (simp; omega) | omega | (simp at *; omega))))))) (fun x hx => hx.1)).set (fun h => h.2 rfl) _).set (fun h => h.2 rfl) _⟩
  · have g1 : (er != 0) = true := by simpa using he
    have eV : numV bs at_ er = 0 := if_pos he
    have eA : numA bs at_ er = at_ := if_pos he
    have eE : numE bs at_ er = er := if_pos he
    rw [eV, eA, eE]
    clear eV eA eE h he hAl
    go_enter Tryz.func74, Tryz.ntmps74
    go_wp2_with fail
    go_ret
    exact ⟨rfl, H.out, Kept.refl _ _⟩
set_option maxHeartbeats 1000000 in
set_option maxRecDepth 100000 in
theorem rint_any (w : World) (g base : Nat) (bs : List Nat) (A : Option Addr) (c at_ : Nat) (er : Int) (most : Nat) (hle : bs.length ≤ 100000) (h8 : ∀ x ∈ bs, x ≤ 255) (hmost : most ≤ 1000000000) (h : RCur w g base bs A c at_ er) :
    Calls Tryz.prog 43 #[.pointer (some ⟨g, 0, none⟩), .int .i64 most] w fun e w' => e = .returned (.int .i64 (intV most bs at_ er : Nat)) ∧ RCur w' g base bs A c (intA most bs at_ er) (intE most bs at_ er) ∧ Kept (Others g w) w w' := by
  obtain ⟨d0, d1, d2⟩ := h.cells
  have D := Lib.hid (rcnum_any w g base bs A c at_ er hle h8 h)
  have hat := h.le
  have g0 : decide ((most : Int) < 0) = false := by simp
  have u1 : IntKind.u64.wrap (most : Int) = (most : Int) := by rw [IntKind.wrap_u64]; omega
  have hV : er = 0 → numV bs at_ er = (scanP (bs.drop at_) 0 0).1 ∧ numA bs at_ er = at_ + (scanP (bs.drop at_) 0 0).2.1 ∧ numE bs at_ er = (scanP (bs.drop at_) 0 0).2.2 := fun he => ⟨if_neg (by simp [he]), if_neg (by simp [he]), if_neg (by simp [he])⟩
  have hsp := scanP_spec (bs.drop at_) 0 0 (fun x hx => h8 x (List.mem_of_mem_drop hx)) (by omega) (by simp)
  have key : (numE bs at_ er ≠ 0 → intV most bs at_ er = 0 ∧ intA most bs at_ er = numA bs at_ er ∧ intE most bs at_ er = numE bs at_ er) ∧ (numE bs at_ er = 0 → most < numV bs at_ er → intV most bs at_ er = 0 ∧ intA most bs at_ er = at_ ∧ intE most bs at_ er = 6) ∧ (numE bs at_ er = 0 → ¬ most < numV bs at_ er → intV most bs at_ er = numV bs at_ er ∧ intA most bs at_ er = numA bs at_ er ∧ intE most bs at_ er = 0) := by
    by_cases he : er = 0
    · obtain ⟨e1, e2, e3⟩ := hV he
      have i1 : intV most bs at_ er = (limP most (bs.drop at_)).1 := if_neg (by simp [he])
      have i2 : intA most bs at_ er = at_ + (limP most (bs.drop at_)).2.1 := if_neg (by simp [he])
      have i3 : intE most bs at_ er = (limP most (bs.drop at_)).2.2 := if_neg (by simp [he])
      rw [e1, e2, e3, i1, i2, i3]
      unfold limP
      generalize scanP (bs.drop at_) 0 0 = R at *
      refine ⟨fun h => ?_, fun h h2 => ?_, fun h h2 => ?_⟩
      · rw [if_pos h]; exact ⟨rfl, by have := hsp.2.2.2.1 h; simp [this.2], rfl⟩
      · rw [if_neg (by simp [h]), if_pos h2]; exact ⟨rfl, rfl, rfl⟩
      · rw [if_neg (by simp [h]), if_neg h2]; exact ⟨rfl, rfl, h⟩
    · have e1 : numV bs at_ er = 0 := if_pos he
      have e2 : numA bs at_ er = at_ := if_pos he
      have e3 : numE bs at_ er = er := if_pos he
      have i1 : intV most bs at_ er = 0 := if_pos he
      have i2 : intA most bs at_ er = at_ := if_pos he
      have i3 : intE most bs at_ er = er := if_pos he
      rw [e1, e2, e3, i1, i2, i3]
      exact ⟨fun _ => ⟨rfl, rfl, rfl⟩, fun h => absurd h he, fun h => absurd h he⟩
  have hv64 : numV bs at_ er < 18446744073709551616 := by
    by_cases he : er = 0
    · rw [(hV he).1]; exact hsp.1
    · rw [show numV bs at_ er = 0 from if_pos he]; omega
  have hIA : intA most bs at_ er ≤ bs.length := by
    unfold intA
    split
    · exact hat
    · have := (limP_spec most (bs.drop at_) (fun x hx => h8 x (List.mem_of_mem_drop hx))).2.1
      rw [List.length_drop] at this
      omega
  generalize intV most bs at_ er = IV at *
  generalize intA most bs at_ er = IA at *
  generalize intE most bs at_ er = IE at *
  generalize numV bs at_ er = V at *
  generalize numA bs at_ er = NA at *
  generalize numE bs at_ er = E at *
  clear hV hsp h8 h
  by_cases hE : E = 0
  · by_cases hlim : most < V
    · obtain ⟨rfl, rfl, rfl⟩ := key.2.1 hE hlim
      have g1 : (E != 0) = false := by simp [hE]
      have g2 : decide ((most : Int) < (V : Int)) = true := by simp; omega
      have g2' : decide (most < V) = true := by simp; omega
      have HE := Lib.hid hE
      clear key hE hlim
      go_enter Tryz.func43, Tryz.ntmps43
      go_wp2_with fail
      refine D.out.mono ?_
      rintro e w1 ⟨rfl, hc, hk⟩
      have HC := Lib.hid hc
      have HK := Lib.hid hk
      have e1 := hc.cells.2.1
      have d2 := hc.cells.2.2
      have f1 := hc.blk.frozen 1
      have f2 := hc.blk.frozen 2
      clear hc hk D d0
      go_wp2_with fail
      go_ret
      exact ⟨rfl, (HC.out.setAt _ hIA).setErr 6, (HK.out.set (fun h => h.2 rfl) _).set (fun h => h.2 rfl) _⟩
    · obtain ⟨rfl, rfl, rfl⟩ := key.2.2 hE hlim
      have g1 : (E != 0) = false := by simp [hE]
      have g2 : decide ((most : Int) < (IV : Int)) = false := by simp; omega
      have g2' : decide (most < IV) = false := by simp; omega
      have s2 : IntKind.i64.wrap (IV : Int) = (IV : Int) := by rw [IntWalk.i64_in _ (by omega)]
      have HE := Lib.hid hE
      clear key hE hlim
      go_enter Tryz.func43, Tryz.ntmps43
      go_wp2_with fail
      refine D.out.mono ?_
      rintro e w1 ⟨rfl, hc, hk⟩
      have HC := Lib.hid hc
      have HK := Lib.hid hk
      have d2 := hc.cells.2.2
      clear hc hk D d0 d1
      go_wp2_with fail
      go_ret
      exact ⟨rfl, by rw [← HE.out]; exact HC.out, HK.out⟩
  · obtain ⟨rfl, rfl, rfl⟩ := key.1 hE
    have g1 : (IE != 0) = true := by simpa using hE
    clear key hE
    go_enter Tryz.func43, Tryz.ntmps43
    go_wp2_with fail
    refine D.out.mono ?_
    rintro e w1 ⟨rfl, hc, hk⟩
    have HC := Lib.hid hc
    have HK := Lib.hid hk
    have d2 := hc.cells.2.2
    clear hc hk D d0 d1
    go_wp2_with fail
    go_ret
    exact ⟨rfl, HC.out, HK.out⟩
end Go.Proofs.YtidclmmnfienlaaGreatDoor.Nums
