/-
  The walks of the statements LensFull and LensBest.
-/
import Derived.Test.YtdfpcnldfibceaaLensRare
namespace Go.Proofs.Ytdfpcnldfibceaa.Lens
open Go.RowKit Go.Proofs.Ytdfpcnldfibceaa.Mem Go.Proofs.Ytdfpcnldfibceaa.Own Go.Proofs.Ytdfpcnldfibceaa.Srt Go.Proofs.Ytdfpcnldfibceaa.Canon

/-- Of each symbol: is its word's length right? -/
theorem lens_each {ks : List Nat} {limit : Int} (h : lensE ks limit = 0) {i k x : Nat} (hk : ks[i]? = some k) (hx : (lensO ks limit)[i]? = some x) : (x : Int) ≤ limit ∧ x ≤ 15 ∧ (x = 0 ↔ k = 0) := by
  obtain ⟨hn, L, rfl, h1, h2, h3, e⟩ := ok_parts h
  have hi : i < ks.length := (List.getElem?_eq_some_iff.1 hk).1
  rw [e, List.getElem?_map, List.getElem?_range hi] at hx
  have hx' : x = lenS ks L i := by simpa using hx.symm
  have hkk : kOf ks i = k := by unfold kOf; rw [List.getD_eq_getElem?_getD, hk]; rfl
  by_cases hm : i ∈ order (kOf ks) ks.length
  · have := lenS_in h1 h3 hm
    have h0 := (order_mem.1 hm).2
    rw [hkk] at h0
    omega
  · rw [lenS_out hm] at hx'
    have : k = 0 := by
      by_cases h0 : k = 0
      · exact h0
      · exact absurd (order_mem.2 ⟨hi, by rw [hkk]; exact h0⟩) hm
    omega
theorem countP_take {l : List Nat} {i x : Nat} (hx : l[i]? = some x) : (l.take (i + 1)).countP (fun x => decide (x ≠ 0)) = (l.take i).countP (fun x => decide (x ≠ 0)) + if x = 0 then 0 else 1 := by
  rw [List.take_add_one, hx, Option.toList_some, List.countP_append]
  by_cases h : x = 0 <;> simp [h]

set_option maxHeartbeats 1000000 in
set_option maxRecDepth 100000 in
theorem law_full (w : World) (A : Option Addr) (n c : Nat) (ks : List Nat) (limit : Int) (hn : ks.length = n) (hN : n ≤ 9223372036854775807) (hl1 : -9223372036854775808 ≤ limit) (hl2 : limit ≤ 9223372036854775807) (h32 : ∀ x ∈ ks, x < 4294967296) (ha : Row w w.heap.size A n 1 (numF .u32 ks)) :
    Calls Try.prog 22 #[.slice A n c, .int .i64 limit] w fun e w' => e = .returned (.bool true) ∧ Below w.heap.size w w' := by
  have C1 := fun wx (h : Below w.heap.size w wx) => lens_any wx A n c ks limit hn (by omega) (by omega) (by omega) h32 ((ha.below h).mono h.size)
  unfold LensPost at C1
  by_cases hE : lensE ks limit = 0
  · have e1 := lensO_length hE
    have hn3 := (ok_parts hE).1
    have heach := fun i k x h1 h2 => lens_each (i := i) (k := k) (x := x) hE h1 h2
    have hkr := kraft_lens hE
    have hcnt := used_count hE
    have hgood : goodB (lensO ks limit) = true := good_all (by rw [e1]; exact hn3) (fun x hx => by
      obtain ⟨i, hi, rfl⟩ := List.mem_iff_getElem.1 hx
      exact (heach i ks[i] _ (List.getElem?_eq_getElem (by omega)) (List.getElem?_eq_getElem hi)).2.1)
    have hKV : kraftV (lensO ks limit) = if (order (kOf ks) ks.length).length = 0 then 0 else if (order (kOf ks) ks.length).length = 1 then 16384 else 32768 := by unfold kraftV; rw [hgood, if_pos rfl, hkr]
    have hKE : kraftE (lensO ks limit) = 0 := by unfold kraftE; rw [hgood]; rfl
    rw [hE, e1, hn] at C1
    rw [hn] at e1 hn3 hKV hcnt
    have C2 := fun (wx : World) B d hb => kraft_any wx B n d (lensO ks limit) e1 (by omega) hb
    rw [hKE] at C2
    generalize lensO ks limit = l at *
    generalize (order (kOf ks) n).length = u at *
    obtain ⟨kv, hkv⟩ : ∃ kv, kv = kraftV l := ⟨_, rfl⟩
    rw [← hkv] at C2 hKV
    have HN := Lib.hid hn
    have HL := Lib.hid e1
    have HEACH := Lib.hid heach
    have HCNT := Lib.hid hcnt
    have HKV := Lib.hid hKV
    have D1 := Lib.hid C1
    have D2 := Lib.hid C2
    have HA := Lib.hid ha
    clear hE e1 heach hkr hcnt hgood hKV hKE hn C1 C2 ha h32 hkv
    go_enter Try.func22, Try.ntmps22
    go_wp2_with fail
    refine (alive07 _).mono ?_
    rintro e w1 ⟨rfl, hb1⟩
    go_wp2_with fail
    refine (D1.out _ hb1).mono ?_
    rintro e w2 ⟨A2, c2, rfl, hr2, hwf2, hb2⟩
    have hb12 : Below w.heap.size w w2 := bel_step hb2 hb1.size hb1
    have HR2 := Lib.hid hr2
    have HA2 := Lib.hid (HA.out.below hb12)
    clear hr2 hwf2
    go_wp2_with fail
    go_loopw [7, 8] (fun mv iv wr => ∃ (i m : Nat), i ≤ n ∧ m ≤ i ∧ iv = .int .i64 i ∧ mv = .int .i64 m ∧ Hid ((l.take i).countP (fun x => decide (x ≠ 0)) = m) ∧ Hid (Srt.Drawn w2 wr)) (fun _ i _ => n - (intOf i).toNat)
    case atStart => exact ⟨0, 0, by omega, by omega, rfl, rfl, rfl, Srt.Drawn.refl _⟩
    case round =>
      obtain ⟨i, m, hi, hm, rfl, rfl, hC, hD⟩ := hrel
      by_cases hlt : i < n
      · obtain ⟨lb, loff, x, rfl, hlb, hx, c0⟩ := num_cell HR2.out HL.out hlt
        obtain ⟨ob, off, k, rfl, hob, hk, c1⟩ := num_cell HA2.out HN.out hlt
        have d0 : wr.cell? ⟨lb, loff + i, none⟩ = _ := (World.cell?_of_block (a := ⟨lb, loff + i, none⟩) ((hD.out.kept (K := fun _ => True)).block lb trivial)).trans c0
        have d1 : wr.cell? ⟨ob, off + i, none⟩ = _ := (World.cell?_of_block (a := ⟨ob, off + i, none⟩) ((hD.out.kept (K := fun _ => True)).block ob trivial)).trans c1
        obtain ⟨q1, q2, q3⟩ := HEACH.out i k x hk hx
        have hct := countP_take hx
        rw [hC.out] at hct
        have HCT := Lib.hid hct
        have HD2 : ∀ q, Hid (Srt.Drawn w2 (wr.drewN q)) := fun q => hD.out.more q
        have x0 : (0 : Int) ≤ (i : Int) := by omega
        have x1 : (i : Int) < (n : Int) := by omega
        have q4 : decide (limit < (x : Int)) = false := by simp; omega
        have s1 : IntKind.i64.wrap (x : Int) = (x : Int) := IntWalk.i64_in _ (by omega)
        clear hx hk hct c0 c1 hC
        by_cases h0 : x = 0
        · have h1 : k = 0 := q3.1 h0
          subst h0 h1
          have s1' : IntKind.i64.wrap 0 = 0 := IntWalk.i64_in _ (by omega)
          have q4' : decide (limit < 0) = false := by simp; omega
          clear q3
          go_wp2_with fail
          go_quiet (fail)
          clear s1'
          have HD3 := HD2 nq
          have d2 : (wr.drewN nq).cell? ⟨lb, loff + i, none⟩ = some (.int .u8 ((0 : Nat) : Int)) := d0
          clear HD2 d0 d1 hD s1
          generalize wr.drewN nq = w3 at *
          go_wp2_with fail
          go_roundw
          case rel => go_light; exact ⟨i + 1, m, by omega, by omega, by go_num, rfl, by show _ = _; rw [HCT.out]; rfl, HD3⟩
          case measure => go_light; simp [intOf]; omega
        · have h1 : 0 < k := by have := fun h => h0 (q3.2 h); omega
          have h2 : 0 < x := by omega
          have k1 : decide (0 < x) = true := by simpa using h2
          have k2 : decide (0 < k) = true := by simpa using h1
          have k3 : decide ((0 : Int) < (x : Int)) = true := by simpa using h2
          have k4 : decide ((0 : Int) < (k : Int)) = true := by simpa using h1
          have HCT2 : Hid ((l.take (i + 1)).countP (fun x => decide (x ≠ 0)) = m + 1) := by show _ = _; rw [HCT.out, if_neg h0]
          clear q3 h0
          go_wp2_with fail
          go_quiet (fail)
          have HD3 := HD2 nq
          have d2 : (wr.drewN nq).cell? ⟨lb, loff + i, none⟩ = some (.int .u8 (x : Int)) := d0
          clear HD2 d0 d1 hD s1
          generalize wr.drewN nq = w3 at *
          go_wp2_with fail
          go_roundw
          case rel => go_light; exact ⟨i + 1, m + 1, by omega, by omega, by go_num, by go_num, HCT2, HD3⟩
          case measure => go_light; simp [intOf]; omega
      · obtain rfl : i = n := by omega
        have hu : u = m := by
          rw [← hC.out, ← HCNT.out, List.take_of_length_le (by have := HL.out; omega)]
        have hb13 : Below w.heap.size w wr := Drawn.bel hD.out hb12
        have hb23 : Below w2.heap.size w2 wr := Drawn.bel hD.out (Below.refl _ _)
        have hr3 := (HR2.out.below hb23).mono hb23.size
        have hkv := HKV.out
        rw [hu] at hkv
        have HK := Lib.hid hkv
        clear hkv hu
        go_wp2_with fail
        refine (D2.out wr A2 c2 hr3).mono ?_
        rintro e w4 ⟨rfl, rfl⟩
        by_cases m0 : m = 0
        · have h1 : kv = 0 := by rw [HK.out, if_pos m0]
          subst m0 h1
          go_wp2_with fail
          go_ret
          exact ⟨rfl, hb13⟩
        · by_cases m1 : m = 1
          · have h1 : kv = 16384 := by rw [HK.out, if_neg m0, if_pos m1]
            subst m1 h1
            go_wp2_with fail
            go_ret
            exact ⟨rfl, hb13⟩
          · have h1 : kv = 32768 := by rw [HK.out, if_neg m0, if_neg m1]
            have h2 : decide ((2 : Int) ≤ (m : Int)) = true := by simp; omega
            have h3 : decide (2 ≤ m) = true := by simp; omega
            subst h1
            clear m0 m1
            go_wp2_with fail
            go_ret
            exact ⟨rfl, hb13⟩
  · have hEb : (lensE ks limit != 0) = true := by simpa using hE
    have h0 : lensO ks limit = [] := by unfold lensO; rw [if_neg hE]
    rw [h0] at C1
    simp only [List.length_nil] at C1
    generalize lensE ks limit = er at *
    have D1 := Lib.hid C1
    clear hn hE ha h32 C1 h0
    go_enter Try.func22, Try.ntmps22
    go_wp2_with fail
    refine (alive07 _).mono ?_
    rintro e w1 ⟨rfl, hb1⟩
    go_wp2_with fail
    refine (D1.out _ hb1).mono ?_
    rintro e w2 ⟨A2, c2, rfl, hr2, hwf2, hb2⟩
    have hb12 : Below w.heap.size w w2 := bel_step hb2 hb1.size hb1
    go_wp2_with fail
    go_ret
    exact ⟨rfl, hb12⟩
end Go.Proofs.Ytdfpcnldfibceaa.Lens
