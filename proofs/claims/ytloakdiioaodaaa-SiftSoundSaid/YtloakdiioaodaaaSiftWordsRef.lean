/-
  The walk of firkinref15.Words: the words of a text, by the places where they begin.
-/
import Derived.Test.YtloakdiioaodaaaSiftRuns
import Derived.Test.YtloakdiioaodaaaCloneNum
import Derived.Deep.AppendLies
namespace Go.Proofs.Ytloakdiioaodaaa.Sift
open Go.RowKit Go.Proofs.Ytloakdiioaodaaa.Mem Go.Proofs.Ytloakdiioaodaaa.Own Go.Proofs.Ytloakdiioaodaaa.Canon

def strL (ws : List (List UInt8)) : List Value := ws.map fun l => .string (bs l)
theorem strL_snoc (ws : List (List UInt8)) (x : List UInt8) : strL (ws ++ [x]) = strL ws ++ [.string (bs x)] := by simp [strL]
def byL (l : List UInt8) : List Value := l.map fun c => .int .u8 (c.toNat : Nat)
theorem byL_snoc (l : List UInt8) (x : UInt8) : byL (l ++ [x]) = byL l ++ [.int .u8 (x.toNat : Nat)] := by simp [byL]
theorem byL_get {l : List UInt8} {i : Nat} {c : UInt8} (h : l[i]? = some c) : (byL l)[i]? = some (.int .u8 (c.toNat : Nat)) := by simp [byL, h]
theorem info_str : (Try.prog.info? 9).map (fun i => (i.zero, i.size, i.bytes)) = some (some (.string ⟨#[]⟩), 1, 16) := by kernel_rfl
theorem run_get {l : List UInt8} {j : Nat} {c : UInt8} (h : j < (run l).length) (hc : l[j]? = some c) : (run l)[j]? = some (smallB c) := by
  obtain ⟨d, hd, hl⟩ := run_lets l j h
  rw [hc] at hd
  injection hd with hd
  subst hd
  rw [run_low, List.getElem?_map, List.getElem?_take_of_lt h, hc]
  exact congrArg some (low_small hl)
theorem word_get {l : List UInt8} {j : Nat} (h : j < ((run l).take 24).length) : ∃ c, l[j]? = some c ∧ letB c = true ∧ ((run l).take 24)[j]? = some (smallB c) := by
  rw [List.length_take] at h
  obtain ⟨c, h1, h2⟩ := run_lets l j (by omega)
  exact ⟨c, h1, h2, by rw [List.getElem?_take_of_lt (by omega)]; exact run_get (by omega) h1⟩
theorem word_end {l : List UInt8} {c : UInt8} (h : l[((run l).take 24).length]? = some c) : letB c = false ∨ ((run l).take 24).length = 24 := by
  rw [List.length_take] at h ⊢
  by_cases hh : (run l).length < 24
  · rw [Nat.min_eq_right (by omega)] at h
    exact .inl (run_stop l c h)
  · exact .inr (by omega)
/-- Is there a letter ahead of a place? -/
def prevB (l : List UInt8) : Nat → Bool
  | 0 => false
  | k + 1 => letB (l.getD k 0)
theorem small_ne {n : Nat} (h : isLet n = true) : smallN n ≠ 0 := by
  have := of_decide_eq_true h
  unfold smallN
  split
  · omega
  · split <;> omega
theorem small_zero {n : Nat} (h : isLet n = false) : smallN n = 0 := by
  have h := of_decide_eq_false h
  unfold smallN
  rw [if_neg (by omega), if_neg (by omega)]
theorem small_lt {n : Nat} (h : n < 256) : smallN n < 256 := by
  unfold smallN
  split
  · exact h
  · split <;> omega
set_option maxRecDepth 100000 in
/-- string(b), b a row of the call's own. -/
theorem own_bytes_str {w : World} {base n c : Nat} {A : Option Addr} {l : List UInt8} (h : w.ownsRow base 5 1 (.slice A n c) n (byL l)) (hn : l.length = n) (h0 : 0 < n) :
    ∀ wx : World, (∀ g, (Value.slice A n c).ownBlock = some g → wx.heap[g]? = w.heap[g]?) → (convert 30 9 (.slice A n c)).run Try.prog wx = .ok (.string (bs l)) wx := by
  intro wx hk
  obtain ⟨gl, cl, hgl, hgl1, hgl2⟩ := h.form h0
  injection hgl with e1 e2 e3
  subst e1 e3
  have hb := hk gl rfl
  have hby : Lib.Bytes wx gl 0 (bs l) := by
    intro i hi
    have hi' : i < l.length := by rw [bs_size] at hi; exact hi
    rw [Nat.zero_add, World.cell?_of_block (a := ⟨gl, i, none⟩) hb, h.cellAt i (by omega), bs_at l i hi]
    exact byL_get (List.getElem?_eq_getElem hi')
  have kd := Lib.run_convert_whole (P := Try.prog) wx 30 5 9 Try.underlying30 Try.underlying5 Try.underlying9 gl 0 (bs l) hby c
  rw [bs_size, hn] at kd
  exact kd
def WordsPost (s : ByteArray) (w : World) (e : Ending) (w' : World) : Prop :=
  ∃ v, e = .returned v ∧ w'.ownsRow w.heap.size 9 1 v (words s.data.toList).length (strL (words s.data.toList)) ∧ Below w.heap.size w w'

set_option maxHeartbeats 1000000 in
set_option maxRecDepth 100000 in
theorem rwords_any (w : World) (s : ByteArray) (hs : s.size ≤ 100000) : Calls Try.prog 24 #[.string s] w (WordsPost s w) := by
  obtain ⟨j0, hj0, hy0, hy1, hy2⟩ := info_parts info_u8
  obtain ⟨j1, hj1, hz0, hz1, hz2⟩ := info_parts info_str
  have hlen := Lib.size_eq s
  obtain ⟨l, hl⟩ : ∃ l, l = s.data.toList := ⟨_, rfl⟩
  have HL := Lib.hid hl
  rw [← hl] at hlen
  have HLEN := Lib.hid hlen
  unfold WordsPost
  rw [← hl, ← wordsR_words]
  clear hl hlen
  go_enter Try.func24, Try.ntmps24
  go_wp2_with fail
  go_loopw [3, 4] (fun u a wr => ∃ (k q : Nat) (ws : List (List UInt8)), k ≤ s.size ∧ q ≤ k ∧ a = .int .i64 k ∧ Hid (ws.length = q) ∧ wr.ownsRow w.heap.size 9 1 u q (strL ws) ∧ Hid (ws ++ wordsR (prevB l k) (l.drop k) = wordsR false l) ∧ Below w.heap.size w wr) (fun _ a _ => s.size - (intOf a).toNat)
  case atStart => exact ⟨0, 0, [], by omega, by omega, rfl, rfl, World.ownsRow_nil _ _ _ _, by show _ = _; simp [prevB], Below.refl _ _⟩
  case round =>
    obtain ⟨k, q, ws, hk, hqk, rfl, hq, hown, hW, hb⟩ := hrel
    have hbz := hb.size
    by_cases hlt : k < s.size
    · have hd := drop_at hlt
      rw [← HL.out] at hd
      have hw := hW.out
      rw [hd, wordsR] at hw
      have hu := UInt8.toNat_lt s[k]
      have hlb := letB_nat s[k]
      have D := fun wx => rsmall_any s[k].toNat hu wx
      have hpn : prevB l (k + 1) = letB s[k] := by
        show letB (l.getD k 0) = _
        rw [HL.out, List.getD_eq_getElem?_getD, byte_at s k hlt]
        rfl
      have x0 : (0 : Int) ≤ (k : Int) := by omega
      have x1 : (k : Int) < (s.size : Int) := by omega
      have HB := Lib.hid hb
      have HO := Lib.hid hown
      cases hc : letB s[k]
      · rw [hc] at hw hpn hlb
        rw [if_neg (by simp), List.nil_append] at hw
        replace hw : ws ++ wordsR (prevB l (k + 1)) (l.drop (k + 1)) = wordsR false l := by rw [hpn]; exact hw
        rw [small_zero hlb.symm] at D
        have D := Lib.hid D
        have HW2 := Lib.hid hw
        clear hd hw hpn hlb hu hc hW hb hown
        go_wp2_with fail
        refine (D.out _).mono ?_
        rintro e w1 ⟨rfl, rfl⟩
        go_wp2_with fail
        go_roundw
        case measure => go_light; simp [intOf]; omega
        case rel => go_light; exact ⟨k + 1, q, ws, by omega, by omega, by go_num, hq.out, HO.out, HW2.out, HB.out⟩
      · rw [hc] at hw hpn hlb
        have hne := small_ne hlb.symm
        have hv9 := small_lt hu
        by_cases hp : prevB l k = true
        · obtain ⟨p, rfl⟩ : ∃ p, k = p + 1 := by
            cases k with
            | zero => cases hp
            | succ p => exact ⟨p, rfl⟩
          rw [if_neg (by rw [hp]; simp), List.nil_append] at hw
          replace hw : ws ++ wordsR (prevB l (p + 1 + 1)) (l.drop (p + 1 + 1)) = wordsR false l := by rw [hpn]; exact hw
          have hlp : p < s.size := by omega
          have hpp : letB s[p] = true := by
            replace hp : letB (l.getD p 0) = true := hp
            rw [HL.out, List.getD_eq_getElem?_getD, byte_at s p hlp] at hp
            exact hp
          rw [letB_nat] at hpp
          have D2 := fun wx => rsmall_any s[p].toNat (UInt8.toNat_lt _) wx
          have hne2 := small_ne hpp
          have hv8 := small_lt (UInt8.toNat_lt s[p])
          generalize smallN s[p + 1].toNat = v at *
          generalize smallN s[p].toNat = v2 at *
          have D := Lib.hid D
          have D2 := Lib.hid D2
          have HW2 := Lib.hid hw
          have n1 : ((v : Int) == 0) = false := by simp; omega
          have n2 : ((v2 : Int) != 0) = true := by simp; omega
          have g1 : decide ((0 : Int) < ((p + 1 : Nat) : Int)) = true := decide_eq_true (by omega)
          have y1 : (p : Int) < (s.size : Int) := by omega
          have ky : (((p + 1 : Nat) : Int) - 1) = (p : Int) := by omega
          clear hd hw hpn hlb hu hc hW hb hown hp hpp hne hne2
          go_wp2_with fail
          refine (D.out _).mono ?_
          rintro e w1 ⟨rfl, rfl⟩
          go_wp2_with fail
          refine (D2.out _).mono ?_
          rintro e w1 ⟨rfl, rfl⟩
          go_wp2_with fail
          go_roundw
          case measure => go_light; simp [intOf]; omega
          case rel => go_light; exact ⟨p + 1 + 1, q, ws, by omega, by omega, by go_num, hq.out, HO.out, HW2.out, HB.out⟩
        · have hpf : prevB l k = false := by cases h : prevB l k <;> simp_all
          rw [if_pos ⟨rfl, hpf⟩, ← hpn] at hw
          generalize hvv : smallN s[k].toNat = v at *
          clear hvv
          have D := Lib.hid D
          have n1 : ((v : Int) == 0) = false := by simp; omega
          obtain ⟨Rn, hRn⟩ : ∃ Rn, Rn = (run (l.drop k)).take 24 := ⟨_, rfl⟩
          rw [← hd, ← hRn, ← List.append_assoc] at hw
          obtain ⟨J, hJ⟩ : ∃ J, J = Rn.length := ⟨_, rfl⟩
          have hJ1 : 1 ≤ J := by rw [hJ, hRn, hd, run, if_pos hc]; simp
          have hJs : k + J ≤ s.size := by
            have := run_le (l.drop k)
            rw [List.length_drop, ← HLEN.out] at this
            rw [hJ, hRn, List.length_take]
            omega
          have hJ2 : J ≤ 24 := by rw [hJ, hRn, List.length_take]; omega
          have hget : ∀ j, j < J → ∃ c, (l.drop k)[j]? = some c ∧ letB c = true ∧ Rn[j]? = some (smallB c) := by rw [hJ, hRn]; exact fun j h => word_get h
          have hend : ∀ c, (l.drop k)[Rn.length]? = some c → letB c = false ∨ Rn.length = 24 := by rw [hRn]; exact fun c h => word_end h
          have HGET := Lib.hid hget
          have HEND := Lib.hid hend
          have HJ := Lib.hid hJ
          have HW2 := Lib.hid hw
          obtain ⟨va, vc, rfl⟩ := own_shape HO.out
          clear hd hw hpn hlb hu hc hW hb hown hp hne hRn hJ hget hend
          by_cases hk0 : k = 0
          · have g1 : decide (0 < k) = false := by simp; omega
            have HK0 := Lib.hid hk0
            clear hk0 hpf
            go_wp2_with fail
            refine (D.out _).mono ?_
            rintro e w1 ⟨rfl, rfl⟩
            go_wp2_with fail
            obtain ⟨w0, rfl⟩ : ∃ w0 : World, w0 = wr := ⟨_, rfl⟩
            go_loopw [5, 6] (fun u a wx => ∃ m : Nat, m ≤ J ∧ a = .int .i64 (k + m : Nat) ∧ Hid (wx.ownsRow w0.heap.size 5 1 u m (byL (Rn.take m))) ∧ Hid (Below w0.heap.size w0 wx)) (fun _ a _ => k + J - (intOf a).toNat)
            case atStart => exact ⟨0, by omega, by first | rfl | go_num, World.ownsRow_nil _ _ _ _, Below.refl _ _⟩
            case round =>
              obtain ⟨m, hm, rfl, HO2, HB2⟩ := hrel
              have hzw := HB2.out.size
              obtain ⟨va2, vc2, rfl⟩ := own_shape HO2.out
              have y2 : (0 : Int) ≤ ((k + m : Nat) : Int) := by omega
              by_cases hmJ : m < J
              · obtain ⟨c, hc1, hc2, hc3⟩ := HGET.out m hmJ
                have hms : k + m < s.size := by
                  have := (List.getElem?_eq_some_iff.1 hc1).1
                  rw [List.length_drop, ← HLEN.out] at this
                  omega
                rw [List.getElem?_drop, HL.out, byte_at s (k + m) hms] at hc1
                injection hc1 with hc1
                subst hc1
                rw [letB_nat] at hc2
                have D := fun wx => rsmall_any s[k + m].toNat (UInt8.toNat_lt _) wx
                have hne := small_ne hc2
                have htk : Rn.take (m + 1) = Rn.take m ++ [smallB s[k + m]] := by rw [List.take_add_one, hc3]; rfl
                have hbl : byL (Rn.take (m + 1)) = byL (Rn.take m) ++ [.int .u8 (smallN s[k + m].toNat : Nat)] := by rw [htk, byL_snoc, smallB_nat]
                generalize smallN s[k + m].toNat = v at *
                have D := Lib.hid D
                have HBL := Lib.hid hbl
                have n3 : ((v : Int) != 0) = true := by simp; omega
                have y3 : ((k + m : Nat) : Int) < (s.size : Int) := by omega
                have y4 : decide ((m : Int) < 24) = true := decide_eq_true (by omega)
                clear hc2 hc3 hne htk hbl
                go_wp2_with fail
                refine (D.out _).mono ?_
                rintro e w1 ⟨rfl, rfl⟩
                go_wp2_with fail
                refine (D.out _).mono ?_
                rintro e w1 ⟨rfl, rfl⟩
                go_wp2_with (at_builtin; refine wpList_app rfl (.tmp 49) (.tmp 54) 30 rfl w0.heap.size 5 j0 _ 1 1 Try.underlying30 hj0 hy0 hy1 hy2 rfl (by decide) _ _ _ (by rfl) (HO2.out.alloc _) _ 1 1 [.int .u8 v] (by rfl) (Src.of_blk (Blk.made _ _ _) 1 1 1 rfl) (by intro u hu; simp at hu; rcases hu with rfl; rfl) (by unfold maxLen; omega) (by omega) (by simp; omega) ?_; intro v4 w4 hown4 hg4 hat4)
                go_roundw
                case measure => go_light; simp [intOf]; omega
                case rel =>
                  go_light
                  refine ⟨m + 1, by omega, by go_num, ?_, ?_⟩
                  · show World.ownsRow _ _ _ _ _ _ _; rw [HBL.out]; exact hown4
                  · exact (bel_alloc hzw HB2.out).grown hg4 (by simp; omega) (fun y hy => (World.ownsRow.lt HO2.out y hy).1)
              · have hmj : m = J := by omega
                have kd := own_bytes_str HO2.out (by rw [List.length_take, ← HJ.out]; omega) (by omega)
                rw [List.take_of_length_le (by rw [← HJ.out]; omega)] at kd
                have kd2 := fun wx h => kd wx h
                have HMJ := Lib.hid hmj
                clear hmj kd
                have kd := kd2 wr (fun _ _ => rfl)
                clear kd2
                by_cases hms : k + m < s.size
                · have y3 : ((k + m : Nat) : Int) < (s.size : Int) := by omega
                  have hc1 : (l.drop k)[Rn.length]? = some s[k + m] := by rw [← HJ.out, ← HMJ.out, List.getElem?_drop, HL.out]; exact byte_at s (k + m) hms
                  have D := fun wx => rsmall_any s[k + m].toNat (UInt8.toNat_lt _) wx
                  cases hlt2 : letB s[k + m]
                  · rw [letB_nat] at hlt2
                    rw [small_zero hlt2] at D
                    have D := Lib.hid D
                    clear hc1 hlt2
                    go_wp2_with fail
                    refine (D.out _).mono ?_
                    rintro e w1 ⟨rfl, rfl⟩
                    have HO1 := Lib.hid (own_kept HO.out (fun x hx => HB2.out.block x (World.ownsRow.lt HO.out x hx).2))
                    go_wp2_with (at_builtin; refine wpList_app rfl (.tmp 56) (.tmp 59) 40 rfl w.heap.size 9 j1 _ 1 16 Try.underlying40 hj1 hz0 hz1 hz2 rfl (by decide) _ _ _ (by rfl) (HO1.out.alloc _) _ 1 1 [.string (bs Rn)] (by rfl) (Src.of_blk (Blk.made _ _ _) 1 1 1 rfl) (by intro u hu; simp at hu; rcases hu with rfl; rfl) (by unfold maxLen; omega) (by omega) (by simp; omega) ?_; intro v4 w4 hown4 hg4 hat4)
                    go_roundw
                    case measure => go_light; simp [intOf]; omega
                    case rel =>
                      go_light
                      refine ⟨k + 1, q + 1, ws ++ [Rn], by omega, by omega, by go_num, ?_, ?_, ?_, ?_⟩
                      · show (ws ++ [_]).length = q + 1; rw [List.length_append, hq.out]; rfl
                      · rw [strL_snoc]; exact hown4
                      · show _ = _; exact HW2.out
                      · exact (bel_alloc (by omega) (HB.out.trans (HB2.out.mono hbz))).grown hg4 (by simp; omega) (fun y hy => (World.ownsRow.lt HO1.out y hy).1)
                  · have h24 : J = 24 := by
                      rcases HEND.out _ hc1 with h | h
                      · rw [h] at hlt2; cases hlt2
                      · rw [HJ.out]; exact h
                    rw [letB_nat] at hlt2
                    have hne := small_ne hlt2
                    generalize smallN s[k + m].toNat = v at *
                    have D := Lib.hid D
                    have n3 : ((v : Int) != 0) = true := by simp; omega
                    have y4 : decide ((m : Int) < 24) = false := decide_eq_false (by omega)
                    clear hc1 hlt2 hne h24
                    go_wp2_with fail
                    refine (D.out _).mono ?_
                    rintro e w1 ⟨rfl, rfl⟩
                    have HO1 := Lib.hid (own_kept HO.out (fun x hx => HB2.out.block x (World.ownsRow.lt HO.out x hx).2))
                    go_wp2_with (at_builtin; refine wpList_app rfl (.tmp 56) (.tmp 59) 40 rfl w.heap.size 9 j1 _ 1 16 Try.underlying40 hj1 hz0 hz1 hz2 rfl (by decide) _ _ _ (by rfl) (HO1.out.alloc _) _ 1 1 [.string (bs Rn)] (by rfl) (Src.of_blk (Blk.made _ _ _) 1 1 1 rfl) (by intro u hu; simp at hu; rcases hu with rfl; rfl) (by unfold maxLen; omega) (by omega) (by simp; omega) ?_; intro v4 w4 hown4 hg4 hat4)
                    go_roundw
                    case measure => go_light; simp [intOf]; omega
                    case rel =>
                      go_light
                      refine ⟨k + 1, q + 1, ws ++ [Rn], by omega, by omega, by go_num, ?_, ?_, ?_, ?_⟩
                      · show (ws ++ [_]).length = q + 1; rw [List.length_append, hq.out]; rfl
                      · rw [strL_snoc]; exact hown4
                      · show _ = _; exact HW2.out
                      · exact (bel_alloc (by omega) (HB.out.trans (HB2.out.mono hbz))).grown hg4 (by simp; omega) (fun y hy => (World.ownsRow.lt HO1.out y hy).1)
                · have y3 : decide (((k + m : Nat) : Int) < (s.size : Int)) = false := by simp; omega
                  have y3' : decide ((k : Int) + (m : Int) < (s.size : Int)) = false := by simp; omega
                  have y3'' : decide (k + m < s.size) = false := by simp; omega
                  have y5 : k + m ≤ s.size := by omega
                  clear hms
                  have HO1 := Lib.hid (own_kept HO.out (fun x hx => HB2.out.block x (World.ownsRow.lt HO.out x hx).2))
                  go_wp2_with (at_builtin; refine wpList_app rfl (.tmp 56) (.tmp 59) 40 rfl w.heap.size 9 j1 _ 1 16 Try.underlying40 hj1 hz0 hz1 hz2 rfl (by decide) _ _ _ (by rfl) (HO1.out.alloc _) _ 1 1 [.string (bs Rn)] (by rfl) (Src.of_blk (Blk.made _ _ _) 1 1 1 rfl) (by intro u hu; simp at hu; rcases hu with rfl; rfl) (by unfold maxLen; omega) (by omega) (by simp; omega) ?_; intro v4 w4 hown4 hg4 hat4)
                  go_roundw
                  case measure => go_light; simp [intOf]; omega
                  case rel =>
                    go_light
                    refine ⟨k + 1, q + 1, ws ++ [Rn], by omega, by omega, by go_num, ?_, ?_, ?_, ?_⟩
                    · show (ws ++ [_]).length = q + 1; rw [List.length_append, hq.out]; rfl
                    · rw [strL_snoc]; exact hown4
                    · show _ = _; exact HW2.out
                    · exact (bel_alloc (by omega) (HB.out.trans (HB2.out.mono hbz))).grown hg4 (by simp; omega) (fun y hy => (World.ownsRow.lt HO1.out y hy).1)
          · obtain ⟨p, hp⟩ : ∃ p, k = p + 1 := ⟨k - 1, by omega⟩
            have hlp : p < s.size := by omega
            have hpp : letB s[p] = false := by
              rw [hp] at hpf
              replace hpf : letB (l.getD p 0) = false := hpf
              rw [HL.out, List.getD_eq_getElem?_getD, byte_at s p hlp] at hpf
              exact hpf
            rw [letB_nat] at hpp
            have D2 := fun wx => rsmall_any s[p].toNat (UInt8.toNat_lt _) wx
            rw [small_zero hpp] at D2
            have D2 := Lib.hid D2
            have g1 : decide (0 < k) = true := by simp; omega
            have y1 : (p : Int) < (s.size : Int) := by omega
            have y0 : (0 : Int) ≤ (p : Int) := by omega
            have ky : ((k : Int) - 1) = (p : Int) := by omega
            clear hk0 hpf hpp hp
            go_wp2_with fail
            refine (D.out _).mono ?_
            rintro e w1 ⟨rfl, rfl⟩
            go_wp2_with fail
            refine (D2.out _).mono ?_
            rintro e w1 ⟨rfl, rfl⟩
            go_wp2_with fail
            obtain ⟨w0, rfl⟩ : ∃ w0 : World, w0 = wr := ⟨_, rfl⟩
            go_loopw [5, 6] (fun u a wx => ∃ m : Nat, m ≤ J ∧ a = .int .i64 (k + m : Nat) ∧ Hid (wx.ownsRow w0.heap.size 5 1 u m (byL (Rn.take m))) ∧ Hid (Below w0.heap.size w0 wx)) (fun _ a _ => k + J - (intOf a).toNat)
            case atStart => exact ⟨0, by omega, by first | rfl | go_num, World.ownsRow_nil _ _ _ _, Below.refl _ _⟩
            case round =>
              obtain ⟨m, hm, rfl, HO2, HB2⟩ := hrel
              have hzw := HB2.out.size
              obtain ⟨va2, vc2, rfl⟩ := own_shape HO2.out
              have y2 : (0 : Int) ≤ ((k + m : Nat) : Int) := by omega
              by_cases hmJ : m < J
              · obtain ⟨c, hc1, hc2, hc3⟩ := HGET.out m hmJ
                have hms : k + m < s.size := by
                  have := (List.getElem?_eq_some_iff.1 hc1).1
                  rw [List.length_drop, ← HLEN.out] at this
                  omega
                rw [List.getElem?_drop, HL.out, byte_at s (k + m) hms] at hc1
                injection hc1 with hc1
                subst hc1
                rw [letB_nat] at hc2
                have D := fun wx => rsmall_any s[k + m].toNat (UInt8.toNat_lt _) wx
                have hne := small_ne hc2
                have htk : Rn.take (m + 1) = Rn.take m ++ [smallB s[k + m]] := by rw [List.take_add_one, hc3]; rfl
                have hbl : byL (Rn.take (m + 1)) = byL (Rn.take m) ++ [.int .u8 (smallN s[k + m].toNat : Nat)] := by rw [htk, byL_snoc, smallB_nat]
                generalize smallN s[k + m].toNat = v at *
                have D := Lib.hid D
                have HBL := Lib.hid hbl
                have n3 : ((v : Int) != 0) = true := by simp; omega
                have y3 : ((k + m : Nat) : Int) < (s.size : Int) := by omega
                have y4 : decide ((m : Int) < 24) = true := decide_eq_true (by omega)
                clear hc2 hc3 hne htk hbl
                go_wp2_with fail
                refine (D.out _).mono ?_
                rintro e w1 ⟨rfl, rfl⟩
                go_wp2_with fail
                refine (D.out _).mono ?_
                rintro e w1 ⟨rfl, rfl⟩
                go_wp2_with (at_builtin; refine wpList_app rfl (.tmp 49) (.tmp 54) 30 rfl w0.heap.size 5 j0 _ 1 1 Try.underlying30 hj0 hy0 hy1 hy2 rfl (by decide) _ _ _ (by rfl) (HO2.out.alloc _) _ 1 1 [.int .u8 v] (by rfl) (Src.of_blk (Blk.made _ _ _) 1 1 1 rfl) (by intro u hu; simp at hu; rcases hu with rfl; rfl) (by unfold maxLen; omega) (by omega) (by simp; omega) ?_; intro v4 w4 hown4 hg4 hat4)
                go_roundw
                case measure => go_light; simp [intOf]; omega
                case rel =>
                  go_light
                  refine ⟨m + 1, by omega, by go_num, ?_, ?_⟩
                  · show World.ownsRow _ _ _ _ _ _ _; rw [HBL.out]; exact hown4
                  · exact (bel_alloc hzw HB2.out).grown hg4 (by simp; omega) (fun y hy => (World.ownsRow.lt HO2.out y hy).1)
              · have hmj : m = J := by omega
                have kd := own_bytes_str HO2.out (by rw [List.length_take, ← HJ.out]; omega) (by omega)
                rw [List.take_of_length_le (by rw [← HJ.out]; omega)] at kd
                have kd2 := fun wx h => kd wx h
                have HMJ := Lib.hid hmj
                clear hmj kd
                have kd := kd2 wr (fun _ _ => rfl)
                clear kd2
                by_cases hms : k + m < s.size
                · have y3 : ((k + m : Nat) : Int) < (s.size : Int) := by omega
                  have hc1 : (l.drop k)[Rn.length]? = some s[k + m] := by rw [← HJ.out, ← HMJ.out, List.getElem?_drop, HL.out]; exact byte_at s (k + m) hms
                  have D := fun wx => rsmall_any s[k + m].toNat (UInt8.toNat_lt _) wx
                  cases hlt2 : letB s[k + m]
                  · rw [letB_nat] at hlt2
                    rw [small_zero hlt2] at D
                    have D := Lib.hid D
                    clear hc1 hlt2
                    go_wp2_with fail
                    refine (D.out _).mono ?_
                    rintro e w1 ⟨rfl, rfl⟩
                    have HO1 := Lib.hid (own_kept HO.out (fun x hx => HB2.out.block x (World.ownsRow.lt HO.out x hx).2))
                    go_wp2_with (at_builtin; refine wpList_app rfl (.tmp 56) (.tmp 59) 40 rfl w.heap.size 9 j1 _ 1 16 Try.underlying40 hj1 hz0 hz1 hz2 rfl (by decide) _ _ _ (by rfl) (HO1.out.alloc _) _ 1 1 [.string (bs Rn)] (by rfl) (Src.of_blk (Blk.made _ _ _) 1 1 1 rfl) (by intro u hu; simp at hu; rcases hu with rfl; rfl) (by unfold maxLen; omega) (by omega) (by simp; omega) ?_; intro v4 w4 hown4 hg4 hat4)
                    go_roundw
                    case measure => go_light; simp [intOf]; omega
                    case rel =>
                      go_light
                      refine ⟨k + 1, q + 1, ws ++ [Rn], by omega, by omega, by go_num, ?_, ?_, ?_, ?_⟩
                      · show (ws ++ [_]).length = q + 1; rw [List.length_append, hq.out]; rfl
                      · rw [strL_snoc]; exact hown4
                      · show _ = _; exact HW2.out
                      · exact (bel_alloc (by omega) (HB.out.trans (HB2.out.mono hbz))).grown hg4 (by simp; omega) (fun y hy => (World.ownsRow.lt HO1.out y hy).1)
                  · have h24 : J = 24 := by
                      rcases HEND.out _ hc1 with h | h
                      · rw [h] at hlt2; cases hlt2
                      · rw [HJ.out]; exact h
                    rw [letB_nat] at hlt2
                    have hne := small_ne hlt2
                    generalize smallN s[k + m].toNat = v at *
                    have D := Lib.hid D
                    have n3 : ((v : Int) != 0) = true := by simp; omega
                    have y4 : decide ((m : Int) < 24) = false := decide_eq_false (by omega)
                    clear hc1 hlt2 hne h24
                    go_wp2_with fail
                    refine (D.out _).mono ?_
                    rintro e w1 ⟨rfl, rfl⟩
                    have HO1 := Lib.hid (own_kept HO.out (fun x hx => HB2.out.block x (World.ownsRow.lt HO.out x hx).2))
                    go_wp2_with (at_builtin; refine wpList_app rfl (.tmp 56) (.tmp 59) 40 rfl w.heap.size 9 j1 _ 1 16 Try.underlying40 hj1 hz0 hz1 hz2 rfl (by decide) _ _ _ (by rfl) (HO1.out.alloc _) _ 1 1 [.string (bs Rn)] (by rfl) (Src.of_blk (Blk.made _ _ _) 1 1 1 rfl) (by intro u hu; simp at hu; rcases hu with rfl; rfl) (by unfold maxLen; omega) (by omega) (by simp; omega) ?_; intro v4 w4 hown4 hg4 hat4)
                    go_roundw
                    case measure => go_light; simp [intOf]; omega
                    case rel =>
                      go_light
                      refine ⟨k + 1, q + 1, ws ++ [Rn], by omega, by omega, by go_num, ?_, ?_, ?_, ?_⟩
                      · show (ws ++ [_]).length = q + 1; rw [List.length_append, hq.out]; rfl
                      · rw [strL_snoc]; exact hown4
                      · show _ = _; exact HW2.out
                      · exact (bel_alloc (by omega) (HB.out.trans (HB2.out.mono hbz))).grown hg4 (by simp; omega) (fun y hy => (World.ownsRow.lt HO1.out y hy).1)
                · have y3 : decide (((k + m : Nat) : Int) < (s.size : Int)) = false := by simp; omega
                  have y3' : decide ((k : Int) + (m : Int) < (s.size : Int)) = false := by simp; omega
                  have y3'' : decide (k + m < s.size) = false := by simp; omega
                  have y5 : k + m ≤ s.size := by omega
                  clear hms
                  have HO1 := Lib.hid (own_kept HO.out (fun x hx => HB2.out.block x (World.ownsRow.lt HO.out x hx).2))
                  go_wp2_with (at_builtin; refine wpList_app rfl (.tmp 56) (.tmp 59) 40 rfl w.heap.size 9 j1 _ 1 16 Try.underlying40 hj1 hz0 hz1 hz2 rfl (by decide) _ _ _ (by rfl) (HO1.out.alloc _) _ 1 1 [.string (bs Rn)] (by rfl) (Src.of_blk (Blk.made _ _ _) 1 1 1 rfl) (by intro u hu; simp at hu; rcases hu with rfl; rfl) (by unfold maxLen; omega) (by omega) (by simp; omega) ?_; intro v4 w4 hown4 hg4 hat4)
                  go_roundw
                  case measure => go_light; simp [intOf]; omega
                  case rel =>
                    go_light
                    refine ⟨k + 1, q + 1, ws ++ [Rn], by omega, by omega, by go_num, ?_, ?_, ?_, ?_⟩
                    · show (ws ++ [_]).length = q + 1; rw [List.length_append, hq.out]; rfl
                    · rw [strL_snoc]; exact hown4
                    · show _ = _; exact HW2.out
                    · exact (bel_alloc (by omega) (HB.out.trans (HB2.out.mono hbz))).grown hg4 (by simp; omega) (fun y hy => (World.ownsRow.lt HO1.out y hy).1)
    · obtain rfl : k = s.size := by omega
      have hw := hW.out
      rw [List.drop_of_length_le (by rw [HLEN.out]; exact Nat.le_refl _), wordsR, List.append_nil] at hw
      obtain ⟨va, vc, rfl⟩ := own_shape hown
      have HB := Lib.hid hb
      have HO := Lib.hid hown
      have HW2 := Lib.hid hw
      clear hw hW hb hown
      go_wp2_with fail
      go_ret
      refine ⟨_, rfl, ?_, HB.out⟩
      rw [← HW2.out, hq.out]
      exact HO.out
end Go.Proofs.Ytloakdiioaodaaa.Sift
