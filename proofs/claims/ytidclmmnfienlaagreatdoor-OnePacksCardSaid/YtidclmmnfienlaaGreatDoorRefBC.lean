/-
  The walk of the reference's W.Bytes.
  The walk of the reference's Coder.Put.
-/
import Derived.Test.YtidclmmnfienlaaGreatDoorRefW
import Derived.Test.YtidclmmnfienlaaGreatDoorRefNew
import Derived.Test.YtidclmmnfienlaaGreatDoorHuffRP
import Derived.Deep.RegionHeld3

namespace Go.Proofs.YtidclmmnfienlaaGreatDoor.Huff
open Go.RowKit Go.Proofs.YtidclmmnfienlaaGreatDoor.Mem Go.Proofs.YtidclmmnfienlaaGreatDoor.Canon Go.Proofs.YtidclmmnfienlaaGreatDoor.Own

set_option maxHeartbeats 1000000 in
set_option maxRecDepth 100000 in
theorem rbytes_any (w : World) (g : Nat) (A : Option Addr) (q c : Nat) (bs : List Bool) (hq : bs.length = q) (hle : q ≤ 6000000) (hg : w.cell? ⟨g, 0, none⟩ = some (.slice A q c)) (hgl : g < w.heap.size) (ha : Row w w.heap.size A q 1 (numF .u8 (b01 bs))) :
    Calls Tryz.prog 133 #[.pointer (some ⟨g, 0, none⟩)] w fun e w' => ∃ v, e = .returned v ∧ w'.ownsRow w.heap.size 5 1 v (bytesOf bs).length (numL .u8 (bytesOf bs)) ∧ Below w.heap.size w w' := by
  obtain ⟨j0, hj0, hy0, hy1, hy2⟩ := info_parts info_u8
  have HQ := Lib.hid hq
  clear hq
  go_enter Tryz.func133, Tryz.ntmps133
  go_wp2_with fail
  go_loopw [3, 4] (fun u i wr => ∃ k : Nat, 8 * k ≤ q + 7 ∧ i = .int .i64 ((8 * k : Nat) : Int) ∧ wr.ownsRow w.heap.size 5 1 u k (numL .u8 ((List.range k).map (byteAt bs))) ∧ Below w.heap.size w wr) (fun _ i _ => q + 8 - (intOf i).toNat)
  case atStart => exact ⟨0, by omega, rfl, World.ownsRow_nil _ _ _ _, Below.refl _ _⟩
  case round =>
    obtain ⟨k, hk, rfl, hown, rbel⟩ := hrel
    have hbr := rbel.size
    have c0 := (rbel.cell (p := ⟨g, 0, none⟩) hgl).trans hg
    obtain ⟨va, vc, rfl⟩ := own_shape hown
    have hkb : k ≤ 800000 := by omega
    generalize hi : 8 * k = i at *
    have HI := Lib.hid hi
    clear hi
    by_cases hlt : i < q
    · go_wp2_with fail
      go_loop [5, 6] (fun a j => ∃ p x : Nat, i ≤ p ∧ p ≤ i + 8 ∧ j = .int .i64 (p : Nat) ∧ a = .int .i64 x ∧ Hid (x = accB bs i (p - i)) ∧ x < 256) (fun _ j => i + 8 - (intOf j).toNat)
      case atStart => exact ⟨i, 0, by omega, by omega, rfl, rfl, by show 0 = _; rw [Nat.sub_self]; rfl, by omega⟩
      case round =>
        obtain ⟨p, x, hp1, hp2, rfl, rfl, hx, hx2⟩ := hrel
        by_cases hm8 : p < i + 8
        · have hstep : accB bs i (p + 1 - i) = 2 * x + bit bs p := by
            rw [show p + 1 - i = (p - i) + 1 by omega, accB, ← hx.out, show i + (p - i) = p by omega]
          have hlt2 := accB_lt bs i (p + 1 - i)
          have hpw : 2 ^ (p + 1 - i) ≤ 2 ^ 8 := Nat.pow_le_pow_right (by omega) (by omega)
          rw [hstep] at hlt2
          by_cases hpq : p < q
          · obtain ⟨b, off, y, rfl, hbb, hy, d0⟩ := num_cell (ha.below rbel) (by rw [b01_length, HQ.out]) hpq
            have hyb : bit bs p = y := by rw [← b01_get, List.getD_eq_getElem?_getD, hy]; rfl
            rw [hyb] at hstep hlt2
            have HS := Lib.hid hstep
            have x0 : (0 : Int) ≤ (p : Int) := by omega
            have x1 : (p : Int) < (q : Int) := by omega
            have hb : 2 * x + y < 256 := by omega
            clear hx hstep hlt2 hpw hy hyb
            go_wp2_with fail
            go_round
            case measure => go_light; simp [intOf]; omega
            case rel =>
              go_light
              exact ⟨p + 1, 2 * x + y, by omega, by omega, by go_num, by go_num, HS.out.symm, hb⟩
          · rw [bit_out (by rw [HQ.out]; omega), Nat.add_zero] at hstep hlt2
            have HS := Lib.hid hstep
            have hb : 2 * x < 256 := by omega
            clear hx hstep hlt2 hpw
            go_wp2_with fail
            go_round
            case measure => go_light; simp [intOf]; omega
            case rel =>
              go_light
              exact ⟨p + 1, 2 * x, by omega, by omega, by go_num, by go_num, HS.out.symm, hb⟩
        · obtain rfl : p = i + 8 := by omega
          have hxb : x = byteAt bs k := by rw [hx.out, Nat.add_sub_cancel_left, ← HI.out, accB_byte]
          have HXB := Lib.hid hxb
          clear hx hxb
          go_wp2_with (at_builtin; refine wpList_app rfl (.tmp 42) (.tmp 45) 29 rfl w.heap.size 5 j0 _ 1 1 Tryz.underlying29 hj0 hy0 hy1 hy2 rfl (by decide) _ _ _ (by rfl) (hown.alloc _) _ 1 1 [.int .u8 (x : Nat)] (by rfl) (Src.of_blk (Blk.made _ _ _) 1 1 1 rfl) (by intro u hu; simp at hu; subst hu; rfl) (by unfold maxLen; omega) (by omega) (by simp; omega) ?_; intro v3 w3 hown3 hg3 hat3)
          go_roundw
          case measure => go_light; simp [intOf]; omega
          case rel =>
            go_light
            have hi := HI.out
            refine ⟨k + 1, by omega, by rw [← hi]; go_num, ?_, (bel_alloc hbr rbel).grown hg3 (by simp; omega) (fun y hy => (World.ownsRow.lt hown y hy).1)⟩
            rw [List.range_succ, List.map_append, List.map_cons, List.map_nil, numL_snoc, ← HXB.out]
            exact hown3
    · have hkq : (bytesOf bs).length = k := by rw [bytesOf_length, HQ.out]; have := HI.out; omega
      have hbo : bytesOf bs = (List.range k).map (byteAt bs) := by unfold bytesOf; congr 2; rw [← hkq, bytesOf_length]
      have HK := Lib.hid hkq
      have HB := Lib.hid hbo
      clear hkq hbo
      go_wp2_with fail
      go_ret
      refine ⟨_, rfl, ?_, rbel⟩
      rw [HK.out, HB.out]
      exact hown
end Go.Proofs.YtidclmmnfienlaaGreatDoor.Huff

namespace Go.Proofs.YtidclmmnfienlaaGreatDoor.Huff
open Go.RowKit Go.Proofs.YtidclmmnfienlaaGreatDoor.Mem Go.Proofs.YtidclmmnfienlaaGreatDoor.Canon Go.Proofs.YtidclmmnfienlaaGreatDoor.Own

set_option maxRecDepth 100000 in
theorem rcput_none (w : World) (lo B : Nat) (vl vc : Value) (ls : List Nat) (g : Nat) (s : Int) (hs : -9223372036854775808 ≤ s ∧ s ≤ 9223372036854775807) (hC : RCo w lo B vl vc ls) (hB : B ≤ w.heap.size) (h0 : lenAt ls s = 0) :
    Calls Tryz.prog 131 #[.agg #[vl, vc], .pointer (some ⟨g, 0, none⟩), .int .i64 s] w fun e w' => e = .returned (.int .i64 13) ∧ Below w.heap.size w w' := by
  obtain ⟨hs1, hs2⟩ := hs
  obtain ⟨A, c, rfl, hr⟩ := hC.lens
  obtain ⟨A', c', rfl, hr'⟩ := hC.codes
  have hbel : Below w.heap.size w (w.alloc (.cells #[.slice A ls.length c, .slice A' ls.length c'] 122)) := bel_alloc0 (Below.refl _ _)
  clear hr' hC
  obtain ⟨n, hn⟩ : ∃ n, n = ls.length := ⟨_, rfl⟩
  rw [← hn] at hr hbel ⊢
  have HN := Lib.hid hn
  have HBEL := Lib.hid hbel
  clear hbel
  by_cases hneg : s < 0
  · clear hn h0 hr
    go_enter Tryz.func131, Tryz.ntmps131
    go_wp2_with fail
    go_ret
    exact ⟨rfl, HBEL.out⟩
  · obtain ⟨m, rfl⟩ := Int.eq_ofNat_of_zero_le (show 0 ≤ s by omega)
    have x0 : (0 : Int) ≤ (m : Int) := by omega
    by_cases hlt : m < n
    · obtain ⟨b, off, x, rfl, hb, hx, d0⟩ := num_cell hr.row (by rw [hn]) hlt
      have hx0 : x = 0 := by
        unfold lenAt at h0
        rw [if_neg hneg] at h0
        simpa [List.getD_eq_getElem?_getD, hx] using h0
      subst hx0
      have x1 : (m : Int) < (n : Int) := by omega
      have d1 : (w.alloc (.cells #[.slice (some ⟨b, off, none⟩) n c, .slice A' n c'] 122)).cell? ⟨b, off + m, none⟩ = some (.int .u8 0) := (World.cell?_of_block (a := ⟨b, off + m, none⟩) (Below.heap_alloc w _ b (by omega))).trans d0
      clear hn h0 hr hx d0
      go_enter Tryz.func131, Tryz.ntmps131
      go_wp2_with fail
      go_ret
      exact ⟨rfl, HBEL.out⟩
    · have x1 : (n : Int) ≤ (m : Int) := by omega
      clear hn h0 hr hneg
      go_enter Tryz.func131, Tryz.ntmps131
      go_wp2_with fail
      go_ret
      exact ⟨rfl, HBEL.out⟩

set_option maxRecDepth 100000 in
theorem rcput_any (K : Nat → Prop) (w : World) (lo B : Nat) (vl vc : Value) (ls : List Nat) (g base : Nat) (v : Value) (bs : List Bool) (s : Int)
    (hok : okB ls = true) (hC : RCo w lo B vl vc ls) (hK : ∀ k, lo ≤ k → k < B → K k) (h0 : lenAt ls s ≠ 0) (hle : bs.length ≤ 5000000) (hW : RW K w base g bs v) :
    Calls Tryz.prog 131 #[.agg #[vl, vc], .pointer (some ⟨g, 0, none⟩), .int .i64 s] w
      fun e w' => e = .returned (.int .i64 0) ∧ ∃ v', RW K w' base g (bs ++ word ls s.toNat) v' ∧ Kept K w w' := by
  obtain ⟨hlen, hsm, _⟩ := ok_parts hok
  obtain ⟨A, c, rfl, hr⟩ := hC.lens
  obtain ⟨A', c', rfl, hr'⟩ := hC.codes
  obtain ⟨m, x, rfl, hx, hx0⟩ := lenAt_pos h0
  have hx15 := hsm x (List.mem_of_getElem? hx)
  have hm := (List.getElem?_eq_some_iff.1 hx).1
  have hword : word ls m = msb (code ls m) x x := by unfold word; simp [List.getD_eq_getElem?_getD, hx]
  have hcl := code_lt hok hx hx0
  have hcl2 : code ls m < 65536 := Nat.lt_of_lt_of_le hcl (by have : 2 ^ x ≤ 2 ^ 15 := Nat.pow_le_pow_right (by omega) hx15; omega)
  have hcw : codeW ls m = code ls m := Nat.mod_eq_of_lt hcl2
  obtain ⟨b, off, rfl, hbb, hcell⟩ := hr (by omega)
  obtain ⟨b', off', rfl, hbb', hcell'⟩ := hr' (by omega)
  have KB := Lib.hid (hK b hbb.1 hbb.2)
  have KB' := Lib.hid (hK b' hbb'.1 hbb'.2)
  have hkb := hW.kK b KB.out
  have hkb' := hW.kK b' KB'.out
  obtain ⟨w0, hw0⟩ : ∃ w0, w0 = w.alloc (.cells #[.slice (some ⟨b, off, none⟩) ls.length c, .slice (some ⟨b', off', none⟩) ls.length c'] 122) := ⟨_, rfl⟩
  have hbel : Below w.heap.size w w0 := by rw [hw0]; exact bel_alloc0 (Below.refl _ _)
  have blk : Blk w0 w.heap.size 122 #[.slice (some ⟨b, off, none⟩) ls.length c, .slice (some ⟨b', off', none⟩) ls.length c'] := by rw [hw0]; exact Blk.made _ _ _
  have d0 : w0.cell? ⟨b, off + m, none⟩ = some (.int .u8 (x : Nat)) := by
    have := hcell m 0 hm (by omega)
    rw [hbel.cell hkb]
    simpa [numF, List.getD_eq_getElem?_getD, hx] using this
  have d1 : w0.cell? ⟨b', off' + m, none⟩ = some (.int .u16 (code ls m : Nat)) := by
    have := hcell' m 0 hm (by omega)
    rw [hbel.cell hkb']
    simpa [hcw] using this
  have p0 := blk.cell 0
  have p1 := blk.cell 1
  simp only [List.getElem?_toArray, List.getElem?_cons_zero, List.getElem?_cons_succ] at p0 p1
  have hgw := blk.lt
  have hW0 : RW (fun y => K y ∨ y = w.heap.size) w0 base g bs v := hW.step hbel (fun y hy => by
    rcases hy with hy | hy
    · exact .inl hy
    · exact .inr ⟨by omega, by omega⟩)
  have C3 := rput_any (fun y => K y ∨ y = w.heap.size) w0.drew g base v bs (code ls m) x hcl (by omega) (by omega) ⟨hW0.blk.drew, hW0.own, hW0.ne, hW0.base, hW0.kg, hW0.kv, hW0.kK⟩
  rw [← hword] at C3
  rw [Int.toNat_natCast]
  have HBEL := Lib.hid (Kept.of_below hbel hW.kK)
  generalize code ls m = cd at *
  generalize ls.length = n at *
  have hu : IntKind.u64.wrap (cd : Int) = (cd : Int) := by rw [IntKind.wrap_u64]; omega
  have hv : IntKind.i64.wrap (x : Int) = (x : Int) := IntWalk.i64_in _ (by omega)
  rw [← hu, ← hv] at C3
  have C3 := Lib.hid C3
  have x0 : (0 : Int) ≤ (m : Int) := by omega
  have x1 : (m : Int) < (n : Int) := by omega
  have x2 : 0 < x := by omega
  clear hu hv hcell hcell' hx hword hcl hcw hW hW0 hbel hr hr' hC h0 hsm hok hK hbb hbb' hx0
  subst hw0
  go_enter Tryz.func131, Tryz.ntmps131
  go_upto_region 3 with fail
  generalize w.alloc (.cells #[.slice (some ⟨b, off, none⟩) n c, .slice (some ⟨b', off', none⟩) n c'] 122) = w0 at *
  clear blk
  go_region_held3 (fun wx => wx.cell? ⟨w.heap.size, 0, none⟩ = some (.slice (some ⟨b, off, none⟩) n c) ∧ wx.cell? ⟨w.heap.size, 1, none⟩ = some (.slice (some ⟨b', off', none⟩) n c') ∧ wx.cell? ⟨b, off + m, none⟩ = some (.int .u8 x) ∧ wx.cell? ⟨b', off' + m, none⟩ = some (.int .u16 cd)) (first | exact ⟨p0, p1, d0, d1⟩ | exact ⟨k0, k1, k2, k3⟩) (first | (go_at_call 132; (with_reducible refine C3.out.mono ?_); rintro e w' ⟨rfl, v2, hW2, hk2⟩; have k0 : w'.cell? ⟨w.heap.size, 0, none⟩ = some (.slice (some ⟨b, off, none⟩) n c) := (World.cell?_of_block (a := ⟨w.heap.size, 0, none⟩) (hk2.block _ (.inr rfl))).trans p0; have k1 : w'.cell? ⟨w.heap.size, 1, none⟩ = some (.slice (some ⟨b', off', none⟩) n c') := (World.cell?_of_block (a := ⟨w.heap.size, 1, none⟩) (hk2.block _ (.inr rfl))).trans p1; have k2 : w'.cell? ⟨b, off + m, none⟩ = some (.int .u8 x) := (World.cell?_of_block (a := ⟨b, off + m, none⟩) (hk2.block b (.inl KB.out))).trans d0; have k3 : w'.cell? ⟨b', off' + m, none⟩ = some (.int .u16 cd) := (World.cell?_of_block (a := ⟨b', off' + m, none⟩) (hk2.block b' (.inl KB'.out))).trans d1))
  have HW2 := Lib.hid hW2
  have HK2 := Lib.hid hk2
  clear hW2 hk2 k0 k1 k2 k3 C3
  go_wp2_with fail
  go_ret
  exact ⟨rfl, v2, HW2.out.weak (fun y hy => .inl hy), HBEL.out.trans ⟨HK2.out.os, HK2.out.tape, HK2.out.output, HK2.out.size, fun y hy => HK2.out.block y (.inl hy)⟩⟩
end Go.Proofs.YtidclmmnfienlaaGreatDoor.Huff
