/-
  append of zeros, as many as a number tells, onto a row of the call's own that has room. The walk of canon.Read: lengths that are read.
-/
import Derived.Test.YtmgjgkdbagbleaaGreatDoorZOneTurned3
import Derived.Test.YtmgjgkdbagbleaaGreatDoorZOneTurned22
import Derived.Test.YtmgjgkdbagbleaaGreatDoorZOneTurned2
import Derived.Lib.AppendZeros
import Derived.Deep.AppendLies
namespace Go.Proofs.YtmgjgkdbagbleaaGreatDoor.Mem
open Go.RowKit
theorem zeroCells_one (z : Value) (n : Nat) : (Builtin.zeroCells #[z] n).toList = List.replicate n z := by
  apply List.ext_getElem
  · simp [Builtin.zeroCells]
  · intro i h1 h2
    simp [Builtin.zeroCells, Nat.mod_one]
section
variable {P : Program}
theorem run_app_zeros (w : World) (base : Nat) (t tn ty e : TypeId) (i : TypeInfo) (z : Value) (k kn : IntKind) (ht : P.underlying t = some (.slice e)) (htn : P.underlying tn = some (.int kn)) (hi : P.info? e = some i) (hz : i.zero = some z)
    (hsize : i.size = 1) (hby : i.bytes = 1) (hzc : z.cells = #[z]) (h1 : z.oneCell' = true) (g n cap m : Nat) (xs : List Value) (hown : w.ownsRow base e 1 (.slice (some ⟨g, 0, none⟩) n cap) n xs) (hroom : n + m ≤ cap) (hm : 0 < m) (hm2 : m ≤ 1000) :
    ∃ w', (Builtin.append_ #[t, tn] ty #[.slice (some ⟨g, 0, none⟩) n cap, .int k m]).run P w = .ok (.slice (some ⟨g, 0, none⟩) (n + m) cap) w' ∧
      w'.ownsRow base e 1 (.slice (some ⟨g, 0, none⟩) (n + m) cap) (n + m) (xs ++ List.replicate m z) ∧ w.grownBy w' (some g) := by
  have hlen : (xs ++ List.replicate m z).length = (n + m) * 1 := by rw [List.length_append, hown.1, List.length_replicate, Nat.add_mul, Nat.mul_one m]
  rcases hown.2 with ⟨h, _⟩ | ⟨g', cap', cur, h, hbg, hg, hnc, hcm, hcs, htake⟩
  · simp at h
  · simp only [Value.slice.injEq, Option.some.injEq, Addr.mk.injEq, and_true, true_and] at h
    obtain ⟨rfl, rfl⟩ := h
    have hfit : n * 1 + (List.replicate m z).length ≤ cur.size := by rw [List.length_replicate, hcs]; omega
    have hst := run_storeCells_at P g (n * 1) e (List.replicate m z) 0 cur w hg (by simpa using hfit) (fun v hv => by rw [List.eq_of_mem_replicate hv]; exact h1)
    simp only [Nat.add_zero] at hst
    have hw : IntKind.i64.wrap (m : Int) = (m : Int) := by rw [IntKind.wrap_i64]; omega
    have hneg : ¬ ((m : Int) < 0) := by omega
    have h48 : ¬ (281474976710656 < (m : Int)) := by omega
    have hm0 : m ≠ 0 := by omega
    refine ⟨_, ?_, ⟨hlen, .inr ⟨g, cap, _, rfl, hbg, setRow_heap w g cur (cur.toList.take (n * 1) ++ List.replicate m z ++ cur.toList.drop (n * 1 + (List.replicate m z).length)).toArray e _ hg, hroom, hcm, ?_, ?_⟩⟩, ⟨rfl, rfl, rfl, by simp, fun k _ hk => setRow_other w g k _ (fun e => hk (by simp [e]))⟩⟩
    · simp [Builtin.append_, run_underlying ht, run_underlying htn, sizeOf, typeInfo, zeroValue, hi, hz, hsize, hby, hzc, asInt, asIntOf, hw, hneg, h48, hm0, hroom, zeroCells_one, Addr.add_lit] at hst ⊢
      rw [hst]
      rfl
    · simp only [List.size_toArray, List.length_append, List.length_take, List.length_drop, Array.length_toList]
      omega
    · rw [htake, ← hlen]
      exact List.take_left
theorem wpList_app_zeros {w : World} {ops : Array Oper} {rest : List Oper} {o : Oper} {a : Act} {Q : Exit → Act → World → Prop} (hgd : o.guard = none) (s x : Operand) (t tn : TypeId)
    (ho : o.op = .call { callee := .builtin .append, args := #[s, x], argTypes := #[t, tn] })
    (base : Nat) (e : TypeId) (i : TypeInfo) (z : Value) (k kn : IntKind) (ht : P.underlying t = some (.slice e)) (htn : P.underlying tn = some (.int kn)) (hi : P.info? e = some i) (hz : i.zero = some z)
    (hsize : i.size = 1) (hby : i.bytes = 1) (hzc : z.cells = #[z]) (h1 : z.oneCell' = true) (g n cap m : Nat) (xs : List Value) (hs : a.eval s = .slice (some ⟨g, 0, none⟩) n cap) (hx : a.eval x = .int k m)
    (hown : w.ownsRow base e 1 (.slice (some ⟨g, 0, none⟩) n cap) n xs) (hroom : n + m ≤ cap) (hm : 0 < m) (hm2 : m ≤ 1000)
    (h : ∀ w', w'.ownsRow base e 1 (.slice (some ⟨g, 0, none⟩) (n + m) cap) (n + m) (xs ++ List.replicate m z) → w.grownBy w' (some g) → wpList P ops Q rest (a.put o.dst (.slice (some ⟨g, 0, none⟩) (n + m) cap)) w') : wpList P ops Q (o :: rest) a w := by
  refine wpList_plain hgd fun K hK => ?_
  obtain ⟨w', hr, h2, h3⟩ := run_app_zeros (P := P) w base t tn o.type e i z k kn ht htn hi hz hsize hby hzc h1 g n cap m xs hown hroom hm hm2
  unfold Oper.wp execOp
  simp only [ho, resolve, invoke, builtin, Sem.run_bind, Sem.run_pure, Result.andThen_ok, List.map_toArray, List.map_cons, List.map_nil, hs, hx, hr]
  exact hK _ _ (h w' h2 h3)
theorem wpList_app_fits {w : World} {ops : Array Oper} {rest : List Oper} {o : Oper} {a : Act} {Q : Exit → Act → World → Prop} (hgd : o.guard = none) (s x : Operand) (t : TypeId)
    (ho : o.op = .call { callee := .builtin .append, args := #[s, x], argTypes := #[t, t] })
    (base : Nat) (e : TypeId) (i : TypeInfo) (size : Nat) (ht : P.underlying t = some (.slice e)) (hi : P.info? e = some i) (hsize : i.size = size)
    (g n cap : Nat) (xs : List Value) (hs : a.eval s = .slice (some ⟨g, 0, none⟩) n cap) (hown : w.ownsRow base e size (.slice (some ⟨g, 0, none⟩) n cap) n xs)
    (ad : Addr) (m c : Nat) (news : List Value) (hx : a.eval x = .slice (some ad) m c) (hl : news.length = m * size) (hnews : ∀ j u, news[j]? = some u → w.cell? (ad.add j) = some u) (h1 : ∀ u ∈ news, u.oneCell' = true) (hroom : n + m ≤ cap)
    (h : ∀ w', w'.ownsRow base e size (.slice (some ⟨g, 0, none⟩) (n + m) cap) (n + m) (xs ++ news) → w.grownBy w' (some g) → wpList P ops Q rest (a.put o.dst (.slice (some ⟨g, 0, none⟩) (n + m) cap)) w') : wpList P ops Q (o :: rest) a w := by
  refine wpList_plain hgd fun K hK => ?_
  obtain ⟨w', hr, h2, h3⟩ := run_append_fits (P := P) (w := w) base t o.type e i size ht hi hsize g n cap xs hown ad m c news hl hnews h1 hroom
  unfold Oper.wp execOp
  simp only [ho, resolve, invoke, builtin, Sem.run_bind, Sem.run_pure, Result.andThen_ok, List.map_toArray, List.map_cons, List.map_nil, hs, hx, hr]
  exact hK _ _ (h w' h2 h3)
end
end Go.Proofs.YtmgjgkdbagbleaaGreatDoor.Mem
namespace Go.Proofs.YtmgjgkdbagbleaaGreatDoor.Huff
open Go.RowKit Go.Proofs.YtmgjgkdbagbleaaGreatDoor.Mem Go.Proofs.YtmgjgkdbagbleaaGreatDoor.Canon Go.Proofs.YtmgjgkdbagbleaaGreatDoor.Own
def readGo (bs : List Bool) (n : Nat) : Nat → List Nat → Bool → Nat → List Nat × Int × Nat
  | 0, out, _, at_ => (out, 0, at_)
  | f + 1, out, short, at_ =>
    if n ≤ out.length then (if okB out = true then (out, 0, at_) else ([], 7, at_))
    else if bs.length < at_ + 4 then ([], 1, at_)
    else if accB bs at_ 4 ≠ 0 then readGo bs n f (out ++ [accB bs at_ 4]) false (at_ + 4)
    else if bs.length < at_ + 10 then ([], 1, at_ + 4)
    else if short = true ∨ n - out.length ≤ accB bs (at_ + 4) 6 then ([], 7, at_ + 10)
    else readGo bs n f (out ++ List.replicate (accB bs (at_ + 4) 6 + 1) 0) (decide (accB bs (at_ + 4) 6 + 1 < 64)) (at_ + 10)
section
variable {bs : List Bool} {n f at_ : Nat} {out : List Nat} {short : Bool}
theorem readGo_end (h : n ≤ out.length) : readGo bs n (f + 1) out short at_ = if okB out = true then (out, 0, at_) else ([], 7, at_) := by rw [readGo, if_pos h]
theorem readGo_short (h : ¬ n ≤ out.length) (h1 : ¬ at_ + 4 ≤ bs.length) : readGo bs n (f + 1) out short at_ = ([], 1, at_) := by rw [readGo, if_neg h, if_pos (by omega)]
theorem readGo_one (h : ¬ n ≤ out.length) (h1 : at_ + 4 ≤ bs.length) (h2 : accB bs at_ 4 ≠ 0) : readGo bs n (f + 1) out short at_ = readGo bs n f (out ++ [accB bs at_ 4]) false (at_ + 4) := by
  rw [readGo, if_neg h, if_neg (by omega), if_pos h2]
theorem readGo_short2 (h : ¬ n ≤ out.length) (h1 : at_ + 4 ≤ bs.length) (h2 : accB bs at_ 4 = 0) (h3 : ¬ at_ + 4 + 6 ≤ bs.length) : readGo bs n (f + 1) out short at_ = ([], 1, at_ + 4) := by
  rw [readGo, if_neg h, if_neg (by omega), if_neg (by omega), if_pos (by omega)]
theorem readGo_bad (h : ¬ n ≤ out.length) (h1 : at_ + 4 + 6 ≤ bs.length) (h2 : accB bs at_ 4 = 0) (h3 : short = true ∨ n - out.length ≤ accB bs (at_ + 4) 6) : readGo bs n (f + 1) out short at_ = ([], 7, at_ + 4 + 6) := by
  rw [readGo, if_neg h, if_neg (by omega), if_neg (by omega), if_neg (by omega), if_pos h3]
theorem readGo_row (h : ¬ n ≤ out.length) (h1 : at_ + 4 + 6 ≤ bs.length) (h2 : accB bs at_ 4 = 0) (h3 : ¬ (short = true ∨ n - out.length ≤ accB bs (at_ + 4) 6)) :
    readGo bs n (f + 1) out short at_ = readGo bs n f (out ++ List.replicate (accB bs (at_ + 4) 6 + 1) 0) (decide (accB bs (at_ + 4) 6 + 1 < 64)) (at_ + 4 + 6) := by
  rw [readGo, if_neg h, if_neg (by omega), if_neg (by omega), if_neg (by omega), if_neg h3]
end
theorem got_ok {bs : List Bool} {at_ m : Nat} (h : at_ + m ≤ bs.length) : gotV bs at_ m = accB bs at_ m ∧ gotE bs at_ m = 0 ∧ gotA bs at_ m = at_ + m := by
  unfold gotV gotE gotA
  rw [if_pos h, if_pos h, if_pos h]
  exact ⟨rfl, rfl, rfl⟩
theorem got_no {bs : List Bool} {at_ m : Nat} (h : ¬ at_ + m ≤ bs.length) : gotV bs at_ m = 0 ∧ gotE bs at_ m = 1 ∧ gotA bs at_ m = at_ := by
  unfold gotV gotE gotA
  rw [if_neg h, if_neg h, if_neg h]
  exact ⟨rfl, rfl, rfl⟩
theorem replicate_numL (m : Nat) : List.replicate m (Value.int .u8 0) = numL .u8 (List.replicate m 0) := by simp [numL]
theorem numL_app (k : IntKind) (a b : List Nat) : numL k (a ++ b) = numL k a ++ numL k b := by simp [numL]
theorem make_u8 (n : Nat) (hn : n ≤ 300) (w : World) : (Instr.makeSlice 22 (.int .i64 0) (.int .i64 (n : Int))).run Tryz.prog w =
    .ok (.slice (some ⟨w.heap.size, 0, none⟩) 0 n) (w.alloc (.cells (madeCells #[.int .u8 0] n) 5)) := by
  obtain ⟨i0, hi, hz0, hz1, hz2⟩ := info_parts info_u8
  have h := run_make (P := Tryz.prog) w 22 5 i0 (.int .u8 0) Tryz.underlying22 hi hz0 .i64 .i64 0 (n : Int) (by omega) (by omega) (by rw [hz2]; omega) (by omega)
  simp only [Int.toNat_natCast] at h
  simpa [hz1, Value.cells] using h
def CRPost (R : List Nat × Int × Nat) (lo g : Nat) (bs : List Bool) (w : World) (e : Ending) (w' : World) : Prop :=
  ∃ v, e = .returned (.tuple #[v, .int .i64 R.2.1]) ∧ w'.ownsRow w.heap.size 5 1 v R.1.length (numL .u8 R.1) ∧ Rd w' lo g bs R.2.2 ∧ Kept (fun x => x < w.heap.size ∧ x ≠ g) w w'
set_option maxHeartbeats 2000000 in
set_option maxRecDepth 100000 in
theorem cread_any (w : World) (lo g : Nat) (bs : List Bool) (at0 n : Nat) (hn0 : 0 < n) (hn : n ≤ 300) (hlo : lo ≤ g) (hR : Rd w lo g bs at0) :
    Calls Tryz.prog 331 #[.pointer (some ⟨g, 0, none⟩), .int .i64 (n : Nat)] w (CRPost (readGo bs n (n + 1) [] false at0) lo g bs w) := by
  obtain ⟨j0, hj0, hy0, hy1, hy2⟩ := info_parts info_u8
  have hmk := make_u8 n hn
  have hgl := hR.lt
  have HR := Lib.hid hR
  clear hR
  go_enter Tryz.func331, Tryz.ntmps331
  go_wp2_with fail
  have hown0 : (w.alloc (.cells (madeCells #[.int .u8 0] n) 5)).ownsRow w.heap.size 5 1 (.slice (some ⟨w.heap.size, 0, none⟩) 0 n) 0 [] := World.ownsRow_made w _ n (Nat.le_refl _) (by unfold maxLen; omega) (by simp [madeCells])
  have hbel0 : Below w.heap.size w (w.alloc (.cells (madeCells #[.int .u8 0] n) 5)) := bel_alloc0 (Below.refl _ _)
  generalize w.alloc (.cells (madeCells #[.int .u8 0] n) 5) = w0 at *
  have HR0 : Hid (Rd w0 lo g bs at0) := HR.out.keep (fun b _ h => hbel0.block b (by omega)) hlo
  have HK0 := Lib.hid (Kept.of_below (K := fun x => x < w.heap.size ∧ x ≠ g) hbel0 (fun _ h => h.1))
  have HO0 := Lib.hid hown0
  clear hown0 hbel0 HR
  go_loopw [6, 7] (fun u s wr => ∃ (L at_ : Nat) (out : List Nat) (sh : Bool), L ≤ n ∧ u = .slice (some ⟨w.heap.size, 0, none⟩) L n ∧ s = .bool sh ∧ Hid (wr.ownsRow w.heap.size 5 1 (.slice (some ⟨w.heap.size, 0, none⟩) L n) L (numL .u8 out)) ∧ Hid (out.length = L) ∧
      Hid (∃ f, n + 1 ≤ f + L ∧ readGo bs n f out sh at_ = readGo bs n (n + 1) [] false at0) ∧ Hid (Rd wr lo g bs at_) ∧ Hid (Kept (fun x => x < w.heap.size ∧ x ≠ g) w wr)) (fun u _ _ => match u with | .slice _ l _ => n - l | _ => 0)
  case atStart => exact ⟨0, at0, [], false, by omega, rfl, rfl, HO0.out, rfl, ⟨n + 1, by omega, rfl⟩, HR0.out, HK0.out⟩
  case round =>
    clear HR0 HK0 HO0
    obtain ⟨L, at_, out, sh, hL, rfl, rfl, hown, hlen, hgo, hRd, hkp⟩ := hrel
    obtain ⟨f, hf, hgo⟩ := hgo.out
    obtain ⟨f, rfl⟩ : ∃ f', f = f' + 1 := ⟨f - 1, by omega⟩
    have HF := Lib.hid hf
    by_cases hlt : L < n
    · have C1 := bget_any wr lo g bs at_ 4 (by omega) hRd.out
      have hnl : ¬ n ≤ out.length := by rw [hlen.out]; omega
      by_cases hin : at_ + 4 ≤ bs.length
      · rw [(got_ok hin).1, (got_ok hin).2.1, (got_ok hin).2.2] at C1
        have hv16 := accB_lt bs at_ 4
        obtain ⟨l, hl⟩ : ∃ l, l = accB bs at_ 4 := ⟨_, rfl⟩
        rw [← hl] at C1 hv16
        have C1 := Lib.hid C1
        by_cases hl0 : l = 0
        · subst hl0
          have hkz := hkp.out.size
          have C2 := fun wx (h : Rd wx lo g bs (at_ + 4)) => bget_any wx lo g bs (at_ + 4) 6 (by omega) h
          by_cases hin2 : at_ + 4 + 6 ≤ bs.length
          · rw [(got_ok hin2).1, (got_ok hin2).2.1, (got_ok hin2).2.2] at C2
            have hk64 := accB_lt bs (at_ + 4) 6
            have hbad := fun h => readGo_bad (f := f) (short := sh) hnl hin2 hl.symm h
            have hrow := fun h => readGo_row (f := f) (short := sh) hnl hin2 hl.symm h
            obtain ⟨k, hk⟩ : ∃ k, k = accB bs (at_ + 4) 6 := ⟨_, rfl⟩
            rw [← hk] at C2 hk64 hbad hrow
            rw [hlen.out] at hbad hrow
            have C2 := Lib.hid C2
            by_cases hb : sh = true ∨ n - L ≤ k
            · rw [hbad hb] at hgo
              have HG := Lib.hid hgo
              have hkn : sh = true ∨ (n : Int) - (L : Int) ≤ (k : Int) := by
                rcases hb with h | h
                · exact .inl h
                · exact .inr (by omega)
              clear hgo hnl hin hf hl hbad hrow hk hb hin2
              cases sh
              · have hkn2 : (n : Int) - (L : Int) ≤ (k : Int) := by
                  rcases hkn with h | h
                  · cases h
                  · exact h
                clear hkn
                go_wp2_with fail
                refine C1.out.mono ?_
                rintro e w1 ⟨rfl, hR1, hk1⟩
                go_wp2_with fail
                refine (C2.out _ hR1).mono ?_
                rintro e w2 ⟨rfl, hR2, hk2⟩
                go_wp2_with fail
                go_ret2
                rw [← HG.out]
                exact ⟨_, rfl, World.ownsRow_nil _ _ _ _, hR2, hkp.out.trans (Kept.trans ⟨hk1.os, hk1.tape, hk1.output, hk1.size, fun b h => hk1.block b h.2⟩ ⟨hk2.os, hk2.tape, hk2.output, hk2.size, fun b h => hk2.block b h.2⟩)⟩
              · clear hkn
                go_wp2_with fail
                refine C1.out.mono ?_
                rintro e w1 ⟨rfl, hR1, hk1⟩
                go_wp2_with fail
                refine (C2.out _ hR1).mono ?_
                rintro e w2 ⟨rfl, hR2, hk2⟩
                go_wp2_with fail
                go_ret2
                rw [← HG.out]
                exact ⟨_, rfl, World.ownsRow_nil _ _ _ _, hR2, hkp.out.trans (Kept.trans ⟨hk1.os, hk1.tape, hk1.output, hk1.size, fun b h => hk1.block b h.2⟩ ⟨hk2.os, hk2.tape, hk2.output, hk2.size, fun b h => hk2.block b h.2⟩)⟩
            · rw [hrow hb] at hgo
              have HG := Lib.hid hgo
              obtain rfl : sh = false := by cases sh <;> simp_all
              have hkn : ¬ (n : Int) - (L : Int) ≤ (k : Int) := by
                intro h
                exact hb (.inr (by omega))
              have hroom : L + (k + 1) ≤ n := by omega
              clear hgo hnl hin hf hl hbad hrow hk hb hin2
              go_wp2_with fail
              refine C1.out.mono ?_
              rintro e w1 ⟨rfl, hR1, hk1⟩
              go_wp2_with fail
              refine (C2.out _ hR1).mono ?_
              rintro e w2 ⟨rfl, hR2, hk2⟩
              have hk12 : Kept (fun x => x ≠ g) wr w2 := hk1.trans hk2
              have hown2 := own_kept hown.out (fun x hx => hk12.block x (by have := (World.ownsRow.lt hown.out x hx).1; show x ≠ g; omega))
              have HK2 : Hid (Kept (fun x => x < w.heap.size ∧ x ≠ g) w w2) := hkp.out.trans ⟨hk12.os, hk12.tape, hk12.output, hk12.size, fun b h => hk12.block b h.2⟩
              have hz2 := HK2.out.size
              have HR2 := Lib.hid hR2
              clear hk1 hk2 hk12 hR1 hR2 C1 C2 hown hkp hRd
              have ek : ((k + 1 : Nat) : Int) = (k : Int) + 1 := by omega
              go_wp2_with (at_builtin; refine wpList_app_zeros rfl (.tmp 57) (.tmp 59) 22 70 rfl w.heap.size 5 j0 (.int .u8 0) .u64 .u64 Tryz.underlying22 Tryz.underlying70 hj0 hy0 hy1 hy2 rfl rfl w.heap.size L n (k + 1) _ (by rfl) (by rw [ek]; rfl) hown2 hroom (by omega) (by omega) ?_; intro w3 hown3 hg3)
              go_roundw
              case measure => go_light; show n - (L + (k + 1)) < n - L; omega
              case rel =>
                go_light
                rw [replicate_numL, ← numL_app] at hown3
                refine ⟨L + (k + 1), at_ + 4 + 6, out ++ List.replicate (k + 1) 0, decide (k + 1 < 64), hroom, rfl, by congr 1; simp; omega, hown3, ?_, ⟨f, by have := HF.out; omega, HG.out⟩, ?_, ?_⟩
                · show (out ++ List.replicate (k + 1) 0).length = _; rw [List.length_append, List.length_replicate, hlen.out]
                · exact HR2.out.keep (fun b _ h => hg3.block b (by omega) (by intro e; injection e with e; omega)) hlo
                · exact HK2.out.grown hg3 (fun b h => by have := h.1; omega) (fun b hb h => by injection hb with hb; have := h.1; omega)
          · rw [(got_no hin2).1, (got_no hin2).2.1, (got_no hin2).2.2] at C2
            rw [readGo_short2 hnl hin hl.symm hin2] at hgo
            have C2 := Lib.hid C2
            have HG := Lib.hid hgo
            clear hgo hnl hin hf hl hin2
            go_wp2_with fail
            refine C1.out.mono ?_
            rintro e w1 ⟨rfl, hR1, hk1⟩
            go_wp2_with fail
            refine (C2.out _ hR1).mono ?_
            rintro e w2 ⟨rfl, hR2, hk2⟩
            go_wp2_with fail
            go_ret2
            rw [← HG.out]
            exact ⟨_, rfl, World.ownsRow_nil _ _ _ _, hR2, hkp.out.trans (Kept.trans ⟨hk1.os, hk1.tape, hk1.output, hk1.size, fun b h => hk1.block b h.2⟩ ⟨hk2.os, hk2.tape, hk2.output, hk2.size, fun b h => hk2.block b h.2⟩)⟩
        · have hl16 : l < 16 := by omega
          rw [readGo_one hnl hin (by rw [← hl]; exact hl0), ← hl] at hgo
          have HG := Lib.hid hgo
          have hlp : 0 < l := by omega
          clear hgo hnl hin hf hl hl0 hv16
          go_wp2_with fail
          refine C1.out.mono ?_
          rintro e w1 ⟨rfl, hR1, hk1⟩
          have hown1 := own_kept hown.out (fun x hx => hk1.block x (by have := (World.ownsRow.lt hown.out x hx).1; show x ≠ g; omega))
          have HK1 : Hid (Kept (fun x => x < w.heap.size ∧ x ≠ g) w w1) := hkp.out.trans ⟨hk1.os, hk1.tape, hk1.output, hk1.size, fun b h => hk1.block b h.2⟩
          have hz1 := HK1.out.size
          have HR1 := Lib.hid hR1
          clear hk1 hR1 C1 hown hkp hRd
          go_wp2_with (at_builtin; refine wpList_app_fits rfl (.tmp 34) (.tmp 37) 22 rfl w.heap.size 5 j0 1 Tryz.underlying22 hj0 hy1 w.heap.size L n _ (by rfl) (hown1.alloc _) ⟨w1.heap.size, 0, none⟩ 1 1 [.int .u8 (l : Nat)] (by rfl) (by rfl) (World.news_of_block (cs := #[.int .u8 (l : Nat)]) (t := 5) (fr := (0, 0)) (heap_alloc_new w1 _)) (by intro u hu; simp at hu; subst hu; rfl) (by omega) ?_; intro w3 hown3 hg3)
          go_roundw
          case measure => go_light; show n - (L + 1) < n - L; omega
          case rel =>
            go_light
            refine ⟨L + 1, at_ + 4, out ++ [l], false, by omega, rfl, rfl, ?_, ?_, ⟨f, by have := HF.out; omega, HG.out⟩, ?_, ?_⟩
            · show World.ownsRow _ _ _ _ _ _ _; rw [numL_app]; exact hown3
            · show (out ++ [l]).length = _; rw [List.length_append, hlen.out]; rfl
            · exact HR1.out.keep (fun b _ h => (hg3.block b (by simp; omega) (by intro e; injection e with e; omega)).trans (Below.heap_alloc w1 _ b (by omega))) hlo
            · exact (HK1.out.alloc (fun b h => by have := h.1; omega) _).grown hg3 (fun b h => by have := h.1; simp; omega) (fun b hb h => by injection hb with hb; have := h.1; omega)
      · rw [(got_no hin).1, (got_no hin).2.1, (got_no hin).2.2] at C1
        rw [readGo_short hnl hin] at hgo
        have C1 := Lib.hid C1
        have HG := Lib.hid hgo
        clear hgo hnl hin hf
        go_wp2_with fail
        refine C1.out.mono ?_
        rintro e w1 ⟨rfl, hR1, hk1⟩
        go_wp2_with fail
        go_ret2
        rw [← HG.out]
        exact ⟨_, rfl, World.ownsRow_nil _ _ _ _, hR1, hkp.out.trans ⟨hk1.os, hk1.tape, hk1.output, hk1.size, fun b h => hk1.block b h.2⟩⟩
    · obtain rfl : L = n := by omega
      rw [readGo_end (by rw [hlen.out]; omega)] at hgo
      have hrow : Row wr wr.heap.size (some ⟨w.heap.size, 0, none⟩) L 1 (numF .u8 out) := Row.of_own hown.out rfl (fun i j hi hj => by have e0 : j = 0 := (by omega); subst e0; exact numL_get (by rw [hlen.out]; exact hi))
      have C3 := check_any wr (some ⟨w.heap.size, 0, none⟩) L L out hlen.out (by omega) hrow
      have hkz := hkp.out.size
      unfold checkE at C3
      cases hok : okB out
      · rw [hok] at C3 hgo
        rw [if_neg (by simp)] at hgo
        have C3 := Lib.hid C3
        have HG := Lib.hid hgo
        clear hgo hok hrow hf
        go_wp2_with fail
        refine C3.out.mono ?_
        rintro e w1 ⟨rfl, hb1⟩
        go_wp2_with fail
        go_ret2
        rw [← HG.out]
        exact ⟨_, rfl, World.ownsRow_nil _ _ _ _, hRd.out.keep (fun b _ h => hb1.block b (by omega)) hlo, hkp.out.trans (Kept.of_below hb1 (fun b h => by have := h.1; omega))⟩
      · rw [hok] at C3 hgo
        rw [if_pos rfl] at hgo
        have C3 := Lib.hid C3
        have HG := Lib.hid hgo
        clear hgo hok hrow hf
        go_wp2_with fail
        refine C3.out.mono ?_
        rintro e w1 ⟨rfl, hb1⟩
        go_wp2_with fail
        go_ret2
        rw [← HG.out]
        refine ⟨_, rfl, ?_, hRd.out.keep (fun b _ h => hb1.block b (by omega)) hlo, hkp.out.trans (Kept.of_below hb1 (fun b h => by have := h.1; omega))⟩
        show World.ownsRow _ _ _ _ _ out.length _
        rw [hlen.out]
        exact own_kept hown.out (fun x hx => hb1.block x (World.ownsRow.lt hown.out x hx).2)
end Go.Proofs.YtmgjgkdbagbleaaGreatDoor.Huff
