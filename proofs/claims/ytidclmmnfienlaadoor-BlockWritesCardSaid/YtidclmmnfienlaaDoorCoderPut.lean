/-
  The walk of huff's Coder.Put: a symbol's word.
-/
import Derived.Test.YtidclmmnfienlaaDoorBitsAP
import Derived.Test.YtidclmmnfienlaaDoorHuffRP
import Derived.Test.YtidclmmnfienlaaDoorHuffNew
namespace Go.Proofs.YtidclmmnfienlaaDoor.Huff
open Go.RowKit Go.Proofs.YtidclmmnfienlaaDoor.Mem Go.Proofs.YtidclmmnfienlaaDoor.Canon Go.Proofs.YtidclmmnfienlaaDoor.Own

set_option maxRecDepth 100000 in
theorem cput_nil (w : World) (u : Value) (s : Int) : Calls Tryd.prog 35 #[.pointer none, u, .int .i64 s] w fun e w' => e = .returned (.int .i64 7) ∧ w = w' := by
  go_enter Tryd.func35, Tryd.ntmps35
  go_wp2_with fail
  go_ret
  exact ⟨rfl, rfl⟩
set_option maxRecDepth 100000 in
theorem cput_nobody (w : World) (gc : Nat) (s : Int) : Calls Tryd.prog 35 #[.pointer (some ⟨gc, 0, none⟩), .pointer none, .int .i64 s] w fun e w' => e = .returned (.int .i64 13) ∧ w = w' := by
  go_enter Tryd.func35, Tryd.ntmps35
  go_wp2_with fail
  go_ret
  exact ⟨rfl, rfl⟩
theorem Coder.len {w : World} {lo B gc : Nat} {ls : List Nat} (hC : Coder w lo B gc ls) (hsm : ∀ x ∈ ls, x ≤ 15) (s : Int) (hs : -9223372036854775808 ≤ s ∧ s ≤ 9223372036854775807) :
    Calls Tryd.prog 52 #[.pointer (some ⟨gc, 0, none⟩), .int .i64 s] w fun e w' => e = .returned (.int .i64 (lenAt ls s : Nat)) ∧ w = w' := by
  obtain ⟨A, c, h1, h2⟩ := hC.lens
  exact len_any w gc B A ls.length c ls s rfl hs (fun x hx => by have := hsm x hx; omega) h1 h2.row
theorem Coder.drew {w : World} {lo B g : Nat} {ls : List Nat} (h : Coder w lo B g ls) : Coder w.drew lo B g ls := h.keep fun _ _ _ => rfl
theorem Coder.kept {K : Nat → Prop} {w w' : World} {lo B g : Nat} {ls : List Nat} (h : Coder w lo B g ls) (hk : Kept K w w') (hK : ∀ k, lo ≤ k → k < B → K k) : Coder w' lo B g ls := h.keep fun b h1 h2 => hk.block b (hK b h1 h2)
theorem lenAt_le {ls : List Nat} (hsm : ∀ x ∈ ls, x ≤ 15) (s : Int) : lenAt ls s ≤ 15 := by
  by_cases h : lenAt ls s = 0
  · omega
  · obtain ⟨m, x, rfl, hx, _⟩ := lenAt_pos h
    unfold lenAt
    rw [if_neg (by omega)]
    have := hsm x (List.mem_of_getElem? hx)
    simpa [List.getD_eq_getElem?_getD, hx] using this

set_option maxRecDepth 100000 in
theorem cput_none (w : World) (lo B gc : Nat) (ls : List Nat) (g : Nat) (s : Int) (hs : -9223372036854775808 ≤ s ∧ s ≤ 9223372036854775807) (hsm : ∀ x ∈ ls, x ≤ 15) (hC : Coder w lo B gc ls) (h0 : lenAt ls s = 0) :
    Calls Tryd.prog 35 #[.pointer (some ⟨gc, 0, none⟩), .pointer (some ⟨g, 0, none⟩), .int .i64 s] w fun e w' => e = .returned (.int .i64 13) ∧ w = w' := by
  have C := hC.len hsm s hs
  rw [h0] at C
  have C := Lib.hid C
  clear hsm h0
  go_enter Tryd.func35, Tryd.ntmps35
  go_wp2_with fail
  refine C.out.mono ?_
  rintro e w1 ⟨rfl, rfl⟩
  go_wp2_with fail
  go_ret
  exact ⟨rfl, rfl⟩

set_option maxRecDepth 100000 in
theorem cput_any (K : Nat → Prop) (w : World) (lo B gc : Nat) (ls : List Nat) (g base : Nat) (t : TypeId) (rest : List Value) (v : Value) (bs : List Bool) (s : Int) (hs : -9223372036854775808 ≤ s ∧ s ≤ 9223372036854775807)
    (hok : okB ls = true) (hC : Coder w lo B gc ls) (hK : ∀ k, lo ≤ k → k < B → K k) (h0 : lenAt ls s ≠ 0) (hle : bs.length ≤ 5000000) (hW : Wr K w base g t rest bs v) :
    Calls Tryd.prog 35 #[.pointer (some ⟨gc, 0, none⟩), .pointer (some ⟨g, 0, none⟩), .int .i64 s] w
      fun e w' => e = .returned (.int .i64 0) ∧ ∃ v', Wr K w' base g t rest (bs ++ word ls s.toNat) v' ∧ Kept K w w' := by
  obtain ⟨hlen, hsm, _⟩ := ok_parts hok
  obtain ⟨m, x, rfl, hx, hx0⟩ := lenAt_pos h0
  have hx15 := hsm x (List.mem_of_getElem? hx)
  have hm := (List.getElem?_eq_some_iff.1 hx).1
  have hl : lenAt ls (m : Int) = x := by unfold lenAt; rw [if_neg (by omega)]; simp [List.getD_eq_getElem?_getD, hx]
  have hword : word ls m = msb (code ls m) x x := by unfold word; simp [List.getD_eq_getElem?_getD, hx]
  have hcl := code_lt hok hx hx0
  have hcl2 : code ls m < 65536 := Nat.lt_of_lt_of_le hcl (by have : 2 ^ x ≤ 2 ^ 15 := Nat.pow_le_pow_right (by omega) hx15; omega)
  have hcw : codeW ls m = code ls m := Nat.mod_eq_of_lt hcl2
  have C1 := Lib.hid (hC.len hsm (m : Int) hs)
  have C2 := Lib.hid (hC.drew.len hsm (m : Int) hs)
  have C3 := Lib.hid (put_any K w.drew g base t rest v bs (code ls m) x hcl (by omega) (by omega) hW.drew)
  rw [hl] at C1 C2
  rw [← hword] at C3
  rw [Int.toNat_natCast]
  obtain ⟨AC, cC, d0, hrow⟩ := hC.codes
  obtain ⟨bC, oC, rfl, hbC, hcell⟩ := hrow (by omega)
  have KG : Hid (K gc) := hK gc hC.ge hC.lt
  have KB : Hid (K bC) := hK bC hbC.1 hbC.2
  have d1 : w.cell? ⟨bC, oC + m, none⟩ = some (.int .u16 (code ls m : Nat)) := by
    have := hcell m 0 hm (by omega)
    simpa [hcw] using this
  generalize code ls m = cd at *
  generalize ls.length = n at *
  clear hsm hok hx hl hword hcl hcw hcell hrow hC h0 hW hbC hK
  go_enter Tryd.func35, Tryd.ntmps35
  go_wp2_with fail
  refine C1.out.mono ?_
  rintro e w1 ⟨rfl, rfl⟩
  have x0 : (0 : Int) ≤ (m : Int) := by omega
  have x1 : (m : Int) < (n : Int) := by omega
  have hu : IntKind.u64.wrap (cd : Int) = (cd : Int) := by rw [IntKind.wrap_u64]; omega
  rw [← hu] at C3
  clear hu
  go_upto_region 5 with fail
  go_region_held3 (fun wx => wx.cell? ⟨gc, 1, none⟩ = some (.slice (some ⟨bC, oC, none⟩) n cC) ∧ wx.cell? ⟨bC, oC + m, none⟩ = some (.int .u16 cd)) (first | exact ⟨d0, d1⟩ | exact ⟨k0, k1⟩) (first | (go_at_call 52; (with_reducible refine C2.out.mono ?_); rintro e w' ⟨rfl, rfl⟩) | (go_at_call 51; (with_reducible refine C3.out.mono ?_); rintro e w' ⟨rfl, v2, hW2, hk2⟩; have k0 : w'.cell? ⟨gc, 1, none⟩ = some (.slice (some ⟨bC, oC, none⟩) n cC) := (World.cell?_of_block (a := ⟨gc, 1, none⟩) (hk2.block gc KG.out)).trans d0; have k1 : w'.cell? ⟨bC, oC + m, none⟩ = some (.int .u16 cd) := (World.cell?_of_block (a := ⟨bC, oC + m, none⟩) (hk2.block bC KB.out)).trans d1))
  have HW2 := Lib.hid hW2
  have HK2 := Lib.hid hk2
  clear hW2 hk2 k0 k1 C1 C2 C3
  go_wp2_with fail
  go_ret
  exact ⟨rfl, v2, HW2.out, (Kept.refl K w).drew.trans HK2.out⟩
end Go.Proofs.YtidclmmnfienlaaDoor.Huff
