/-
  The walks of words.split and words.Words.
-/
import Derived.Test.YtloakdiioaodaaaSiftSplit
namespace Go.Proofs.Ytloakdiioaodaaa.Sift
open Go.RowKit Go.Proofs.Ytloakdiioaodaaa.Mem Go.Proofs.Ytloakdiioaodaaa.Own Go.Proofs.Ytloakdiioaodaaa.Canon

theorem tell_length (row : List UInt8) : (tell row).length ≤ row.length := by
  unfold tell
  split
  · simp
  · rename_i h
    have := List.length_pos_iff.2 h
    simp
    omega
def SplitPost (s : ByteArray) (base : Nat) (a : World) (bo : Nat) (e : Ending) (w' : World) : Prop :=
  e = .returned (.tuple #[]) ∧ Below base a w' ∧ ∃ vo, Blk w' bo 40 #[vo] ∧ w'.ownsRow base 9 1 vo (words s.data.toList).length (strL (words s.data.toList))

set_option maxHeartbeats 1000000 in
set_option maxRecDepth 100000 in
theorem ssplit_any (base : Nat) (a w : World) (bo : Nat) (s : ByteArray) (hs : s.size ≤ 100000) (hb : Below base a w) (hla : base ≤ a.heap.size) (ho : Blk w bo 40 #[.slice none 0 0]) (hlo : base ≤ bo) :
    Calls Try.prog 46 #[.string s, addFn bo] w (SplitPost s base a bo) := by
  obtain ⟨j0, hj0, hy0, hy1, hy2⟩ := info_parts info_u8
  have hlen := Lib.size_eq s
  obtain ⟨l, hl⟩ : ∃ l, l = s.data.toList := ⟨_, rfl⟩
  have HL := Lib.hid hl
  rw [← hl] at hlen
  have HLEN := Lib.hid hlen
  unfold SplitPost
  rw [← hl]
  have hz := hb.size
  have HB := Lib.hid hb
  have HO := Lib.hid ho
  clear hl hlen hb ho
  unfold addFn
  go_enter Try.func46, Try.ntmps46
  go_wp2_with fail
  go_loopw [12] (fun i wx => ∃ (k : Nat) (ws : List (List UInt8)) (row : List UInt8) (vo vr : Value), k ≤ s.size ∧ i = .int .i64 k ∧ Hid (ws.length + row.length ≤ k) ∧ Hid (ws ++ split row (l.drop k) = split [] l) ∧ Hid (WSt base a wx bo w.heap.size (w.heap.size + 1) ws row (addFn bo) vo vr)) (fun i _ => s.size - (intOf i).toNat)
  case atStart =>
    refine ⟨0, [], [], .slice none 0 0, .slice none 0 0, by omega, rfl, Nat.le_refl _, by show _ = _; simp, ?_⟩
    refine ⟨bel_alloc (by simp; omega) (bel_alloc (by omega) HB.out), (HO.out.alloc _).alloc _, (Blk.made _ _ _).alloc _, Blk.made_at _ _ _ (by simp), World.ownsRow_nil _ _ _ _, World.ownsRow_nil _ _ _ _, hlo, by omega, hla⟩
  case round =>
    obtain ⟨k, ws, row, vo, vr, hk, rfl, hq, hW, H⟩ := hrel
    have hqq := hq.out
    by_cases hlt : k < s.size
    · have hd := drop_at hlt
      rw [← HL.out] at hd
      have hw := hW.out
      rw [hd, split] at hw
      have hu := UInt8.toNat_lt s[k]
      have hlb := letB_nat s[k]
      have D := fun wx => wletter_any s[k].toNat hu wx
      have x0 : (0 : Int) ≤ (k : Int) := by omega
      have x1 : (k : Int) < (s.size : Int) := by omega
      cases hc : letB s[k]
      · rw [hc] at hw hlb
        rw [if_neg (by simp), ← List.append_assoc] at hw
        rw [← hlb] at D
        have D := Lib.hid D
        have HW2 := Lib.hid hw
        have T := Lib.hid (stell_any base a wr bo w.heap.size (w.heap.size + 1) ws row vo vr (by omega) (by omega) H.out)
        have htl := tell_length row
        clear hd hw hlb hu hc hW
        go_wp2_with fail
        refine (D.out _).mono ?_
        rintro e w1 ⟨rfl, rfl⟩
        go_wp2_with fail
        refine T.out.mono ?_
        rintro e w1 ⟨rfl, vo', vr', h'⟩
        have H' := Lib.hid h'
        clear T D h' H
        go_wp2_with fail
        go_roundw
        case measure => go_light; simp [intOf]; omega
        case rel => go_light; exact ⟨k + 1, ws ++ tell row, [], vo', vr', by omega, by go_num, by show _ ≤ _; rw [List.length_append, List.length_nil]; omega, HW2.out, H'.out⟩
      · rw [hc] at hw hlb
        rw [if_pos rfl] at hw
        rw [← hlb] at D
        obtain ⟨A, c, rfl⟩ := own_shape H.out.ro
        have c0 := H.out.r.cell 0
        simp only [List.getElem?_toArray, List.getElem?_cons_zero] at c0
        have hsn := smallB_nat s[k]
        have happ := fun w4 v4 o own4 hg => H.out.row_app (w4 := w4) (v4 := v4) (o := o) (smallB (s[k]'hlt)) own4 hg
        have HA := Lib.hid happ
        rw [← hsn] at D
        generalize smallB s[k] = x at *
        have D := Lib.hid D
        have HW2 := Lib.hid hw
        have hwz := H.out.below.size
        have HRO := Lib.hid H.out.ro
        have hrr := H.out.r
        have HRR := Lib.hid hrr
        clear hd hw hlb hu hc hW happ hsn hrr
        generalize hn : row.length = n at *
        have HN := Lib.hid hn
        clear hn
        go_wp2_with fail
        refine (D.out _).mono ?_
        rintro e w1 ⟨rfl, rfl⟩
        go_wp2_with (at_builtin; refine wpList_app rfl (.tmp 23) (.tmp 25) 30 rfl base 5 j0 _ 1 1 Try.underlying30 hj0 hy0 hy1 hy2 rfl (by decide) _ _ _ (by rfl) (HRO.out.alloc _) _ 1 1 [.int .u8 x.toNat] (by rfl) (Src.of_blk (Blk.made _ _ _) 1 1 1 rfl) (by intro u hu; simp at hu; rcases hu with rfl; rfl) (by unfold maxLen; omega) (by omega) (by simp; omega) ?_; intro v4 w4 hown4 hg4 hat4; obtain ⟨A4, k4, rfl⟩ := own_shape hown4; have f4 : w4.frozen? ⟨w.heap.size + 1, 0, none⟩ = false := (((HRR.out.alloc _).grown hg4 (fun e => own_blk HRO.out HRR.out (by decide) e.symm))).frozen 0; have c4 : w4.cell? ⟨w.heap.size + 1, 0, none⟩ = some (.slice A n c) := (((HRR.out.alloc _).grown hg4 (fun e => own_blk HRO.out HRR.out (by decide) e.symm))).cell 0)
        go_roundw
        case measure => go_light; simp [intOf]; omega
        case rel =>
          go_light
          refine ⟨k + 1, ws, row ++ [x], vo, _, by omega, by go_num, ?_, HW2.out, HA.out w4 _ _ (HN.out ▸ hown4) hg4⟩
          show _ ≤ _; rw [List.length_append, HN.out]; simp; omega
    · obtain rfl : k = s.size := by omega
      have hw := hW.out
      rw [List.drop_of_length_le (by rw [HLEN.out]; exact Nat.le_refl _), split] at hw
      have T := Lib.hid (stell_any base a wr bo w.heap.size (w.heap.size + 1) ws row vo vr (by omega) (by omega) H.out)
      have HW2 := Lib.hid hw
      clear hw hW H
      go_wp2_with fail
      refine T.out.mono ?_
      rintro e w1 ⟨rfl, vo', vr', h'⟩
      have H' := Lib.hid h'
      clear T h'
      go_wp2_with fail
      refine bodyPost_end (results_none rfl _ _ _) rfl ?_
      refine ⟨rfl, H'.out.below, vo', H'.out.o, ?_⟩
      show World.ownsRow _ _ _ _ _ (split [] l).length (strL (split [] l))
      rw [← HW2.out]
      exact H'.out.oo

set_option maxRecDepth 100000 in
theorem swords_any (w : World) (s : ByteArray) (hs : s.size ≤ 100000) : Calls Try.prog 20 #[.string s] w (WordsPost s w) := by
  have D := ssplit_any w.heap.size w (w.alloc (.cells #[.slice none 0 0] 40)) w.heap.size s hs (bel_alloc0 (Below.refl _ _)) (Nat.le_refl _) (Blk.made _ _ _) (Nat.le_refl _)
  unfold SplitPost addFn at D
  unfold WordsPost
  have D := Lib.hid D
  go_enter Try.func20, Try.ntmps20
  go_wp2_with fail
  refine D.out.mono ?_
  rintro e w1 ⟨rfl, hb, vo, hB, hown⟩
  obtain ⟨A, c, rfl⟩ := own_shape hown
  have c0 := hB.cell 0
  simp only [List.getElem?_toArray, List.getElem?_cons_zero] at c0
  have HB := Lib.hid hb
  have HO := Lib.hid hown
  clear hb hown hB D
  go_wp2_with fail
  go_ret
  exact ⟨_, rfl, HO.out, HB.out⟩
end Go.Proofs.Ytloakdiioaodaaa.Sift
