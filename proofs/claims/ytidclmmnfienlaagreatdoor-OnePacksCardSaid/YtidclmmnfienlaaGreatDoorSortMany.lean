/-
  The walk of slices' merge in place, two parts of several numbers each; the merge, whatever the parts.
-/
import Derived.Test.YtidclmmnfienlaaGreatDoorSortIS
namespace Go.Proofs.YtidclmmnfienlaaGreatDoor.Srt
open Go.RowKit Go.Proofs.YtidclmmnfienlaaGreatDoor.Mem Go.Proofs.YtidclmmnfienlaaGreatDoor.Own

def SymOk (Bo g n c N : Nat) (k : Nat → Nat) (d : Nat) : Prop := ∀ (w : World) (a m b : Nat) (f : Nat → Nat), b - a ≤ d → a < m → m < b → b ≤ n → Sor k f a m → Sor k f m b → Low f a m b → All N n f → Dat w g n f → CmpOk Bo g N w k →
  Calls Tryz.prog 189 #[.slice (some ⟨g, 0, none⟩) n c, .int .i64 a, .int .i64 m, .int .i64 b, .func (Fn.func 170) #[] #[.pointer (some ⟨Bo, 0, none⟩)]] w (InsPost k f g n a b w)

/-- Where the search begins and ends. -/
def Span (a m b mid lo hi : Nat) : Prop := (mid < m ∧ lo + b = mid + m ∧ hi = mid) ∨ (m ≤ mid ∧ lo = a ∧ hi = m)
/-- What the parts are behind the rotation. -/
structure Halves (k F1 : Nat → Nat) (a s mid e b : Nat) : Prop where
  s1 : Sor k F1 a s
  s2 : Sor k F1 s mid
  l1 : Low F1 a s mid
  s3 : Sor k F1 mid e
  s4 : Sor k F1 e b
  l2 : Low F1 mid e b
theorem Low.congr {f g : Nat → Nat} {a m b : Nat} (h : Low f a m b) (he : ∀ i, a ≤ i → i < b → g i = f i) : Low g a m b := fun i j h1 h2 h3 h4 => by
  rw [he i h1 (by omega), he j (by omega) h4]; exact h i j h1 h2 h3 h4

set_option maxHeartbeats 2000000 in
set_option maxRecDepth 100000 in
theorem sym_many (w : World) (Bo g n c a m b N : Nat) (k f : Nat → Nat) (d : Nat) (ih : SymOk Bo g n c N k d) (hd0 : b - a ≤ d + 1) (hN : n ≤ 4611686018427387904) (ham : a + 1 < m) (hmb : m + 1 < b) (hb : b ≤ n)
    (hl : Sor k f a m) (hr : Sor k f m b) (hlow : Low f a m b) (hall : All N n f) (hd : Dat w g n f) (hc : CmpOk Bo g N w k) :
    Calls Tryz.prog 189 #[.slice (some ⟨g, 0, none⟩) n c, .int .i64 a, .int .i64 m, .int .i64 b, .func (Fn.func 170) #[] #[.pointer (some ⟨Bo, 0, none⟩)]] w (InsPost k f g n a b w) := by
  have eK : ∀ args w, (callFunc 170 args).run Tryz.prog w = .ok (.enter 170 args) w := fun args w => by simp [callFunc, go_sem, Tryz.func170]; rfl
  have IH := Lib.hid ih
  have HL := Lib.hid hl
  have HR := Lib.hid hr
  have HLW := Lib.hid hlow
  have HC := Lib.hid hc
  have HD := Lib.hid hd
  have HA := Lib.hid hall
  have b0 : ((m : Int) - (a : Int) == 1) = false := by simp; omega
  have b1 : ((b : Int) - (m : Int) == 1) = false := by simp; omega
  obtain ⟨mid, hmid⟩ : ∃ mid, mid = (a + b) / 2 := ⟨_, rfl⟩
  have E1 : Hid (((a : Int) + (b : Int)) / 2 = (mid : Int)) := by show _ = _; omega
  obtain ⟨nn, hnn⟩ : ∃ nn, nn = mid + m := ⟨_, rfl⟩
  have E2 : Hid ((mid : Int) + (m : Int) = (nn : Int)) := by show _ = _; omega
  have E3 : Hid ((nn : Int) - 1 = ((nn - 1 : Nat) : Int)) := by show _ = _; omega
  obtain ⟨p, hp⟩ : ∃ p, p = nn - 1 := ⟨_, rfl⟩
  rw [← hp] at E3
  have M1 : a < mid := by omega
  have M2 : mid < b := by omega
  have M3 : mid + m ≤ nn := by omega
  have M4 : nn ≤ mid + m := by omega
  have M5 : p + 1 ≤ nn := by omega
  have M6 : nn ≤ p + 1 := by omega
  have M7 : 2 * mid ≤ a + b := by omega
  have M8 : a + b ≤ 2 * mid + 1 := by omega
  clear ih hl hr hlow hc hd hall hmid hnn hp
  go_enter Tryz.func189, Tryz.ntmps189
  go_upto_region 25 with fail
  rw [E1.out]
  go_upto_region 26 with fail
  rw [E2.out]
  go_upto_if 140 with fail
  go_cut [20, 21] (fun sv rv wx => ∃ lo hi : Nat, sv = .int .i64 lo ∧ rv = .int .i64 hi ∧ Hid (Span a m b mid lo hi) ∧ w = wx)
  case first =>
    by_cases hmm : mid < m
    · go_wp2_with fail
      go_meet
      case rel => exact ⟨mid + m - b, mid, congrArg (Value.int .i64) (by omega), rfl, .inl ⟨hmm, by omega, rfl⟩, rfl⟩
    · go_wp2_with fail
      go_meet
      case rel => exact ⟨a, m, rfl, rfl, .inr ⟨by omega, rfl, rfl⟩, rfl⟩
  case rest => as_aux_lemma =>
    obtain ⟨lo, hi, rfl, rfl, hsp, rfl⟩ := hcut
    have S1 : a ≤ lo := by have := hsp.out; unfold Span at this; omega
    have S2 : lo ≤ hi := by have := hsp.out; unfold Span at this; omega
    have S3 : hi ≤ m := by have := hsp.out; unfold Span at this; omega
    have S4 : hi ≤ mid := by have := hsp.out; unfold Span at this; omega
    have S5 : nn ≤ lo + b := by have := hsp.out; unfold Span at this; omega
    go_wp2_with fail
    rw [E3.out]
    go_loopw [20, 21] (fun sv rv wr => ∃ s r : Nat, lo ≤ s ∧ s ≤ r ∧ r ≤ hi ∧ sv = .int .i64 s ∧ rv = .int .i64 r ∧ Hid (LoHi (fun x => ¬ k (f (p - x)) < k (f x)) lo hi s r) ∧ Hid (Drawn w wr)) (fun i j _ => (intOf j).toNat - (intOf i).toNat)
    case atStart => exact ⟨lo, hi, by omega, by omega, by omega, rfl, rfl, ⟨.inl rfl, .inl rfl⟩, Drawn.refl w⟩
    case round => as_aux_lemma =>
      obtain ⟨s, r, hs1, hsr, hr1, rfl, rfl, hQ, hD⟩ := hrel
      by_cases hlt : s < r
      · obtain ⟨h, hh⟩ : ∃ h, h = (s + r) / 2 := ⟨_, rfl⟩
        have hh1 : s ≤ h := by omega
        have hh2 : h < r := by omega
        have hE : Hid (((s : Int) + (r : Int)) / 2 = (h : Int)) := by show _ = _; omega
        clear hh
        have c1 := (hD.out.dat HD.out).cell (i := p - h) (by omega)
        have c2 := (hD.out.dat HD.out).cell (i := h) (by omega)
        have hcm := fun q => HC.out (f (p - h)) (f h) (wr.drewN q) (HA.out (p - h) (by omega)) (HA.out h (by omega)) ((hD.out.more q).kept)
        have x3 : (0 : Int) ≤ (h : Int) := by omega
        have x4 : (h : Int) < (n : Int) := by omega
        have x5 : (0 : Int) ≤ (p : Int) - (h : Int) := by omega
        have x6 : (p : Int) - (h : Int) < (n : Int) := by omega
        have x7 : (h : Int) ≤ (p : Int) := by omega
        have x8 : h ≤ p := by omega
        have s1 : IntKind.i64.wrap ((p : Int) - (h : Int)) = (p : Int) - (h : Int) := IntWalk.i64_in _ (by omega)
        have s2 : ((p : Int) - (h : Int)).toNat = p - h := by omega
        obtain ⟨cv, hcv⟩ : ∃ cv, cv = cmp3 (k (f (p - h))) (k (f h)) := ⟨_, rfl⟩
        rw [← hcv] at hcm
        have HD2 : ∀ q, Hid (Drawn w (wr.drewN q)) := fun q => hD.out.more q
        have hs12 : Hid (((p : Int) - (h : Int)).toNat = p - h ∧ IntKind.i64.wrap ((p : Int) - (h : Int)) = (p : Int) - (h : Int)) := ⟨s2, s1⟩
        by_cases hk : k (f (p - h)) < k (f h)
        · have d1 : decide (cv < 0) = true := by rw [hcv]; have := cmp3_lt hk; simpa using this
          have HX : Hid (LoHi (fun x => ¬ k (f (p - x)) < k (f x)) lo hi s h) := ⟨hQ.out.1, .inr (fun hn => hn hk)⟩
          clear hcv hk hQ s1 s2
          generalize f h = v1 at *
          generalize f (p - h) = v2 at *
          go_wp2_with fail
          rw [hE.out]
          obtain ⟨s2, s1⟩ := hs12.out
          go_quiet ((go_at_call 170; exact Calls.quiet_of (hcm _)))
          have HD3 := HD2 nq
          clear HD2 hcm c1 c2 hD s1 s2
          go_wp2_with fail
          go_roundw
          case rel => go_light; exact ⟨s, h, by omega, by omega, by omega, rfl, rfl, HX, HD3⟩
          case measure => go_light; simp [intOf]; omega
        · have d1 : decide (cv < 0) = false := by rw [hcv]; have := cmp3_ge hk; simp; omega
          have HX : Hid (LoHi (fun x => ¬ k (f (p - x)) < k (f x)) lo hi (h + 1) r) := ⟨.inr hk, hQ.out.2⟩
          clear hcv hk hQ s1 s2
          generalize f h = v1 at *
          generalize f (p - h) = v2 at *
          go_wp2_with fail
          rw [hE.out]
          obtain ⟨s2, s1⟩ := hs12.out
          go_quiet ((go_at_call 170; exact Calls.quiet_of (hcm _)))
          have HD3 := HD2 nq
          clear HD2 hcm c1 c2 hD s1 s2
          go_wp2_with fail
          go_roundw
          case rel => go_light; exact ⟨h + 1, r, by omega, by omega, by omega, by go_num, rfl, HX, HD3⟩
          case measure => go_light; simp [intOf]; omega
      · obtain rfl : s = r := by omega
        obtain ⟨e, he⟩ : ∃ e, e = nn - s := ⟨_, rfl⟩
        have e1 : e + s ≤ nn := by omega
        have e2 : nn ≤ e + s := by omega
        have E4 : Hid ((nn : Int) - (s : Int) = (e : Int)) := by show _ = _; omega
        have hme : m ≤ e := by omega
        have heb : e ≤ b := by omega
        have hsm : s ≤ m := by omega
        have hsplit := split (k := k) (f := f) (a := a) (s := s) (m := m) (e := e) (b := b) (by omega) hsm hme heb HL.out HR.out HLW.out
          (cross_left hsm hme HL.out HR.out HLW.out (by
            have h1 := hQ.out.1
            have h2 := hsp.out
            unfold Span at h2
            by_cases x : s = a
            · exact .inl x
            · by_cases y : e = b
              · exact .inr (.inl y)
              · refine .inr (.inr ⟨by omega, by omega, ?_⟩)
                rcases h1 with h1 | h1
                · omega
                · rw [show p - (s - 1) = e by omega] at h1; omega))
          (cross_right (by omega) heb HL.out HR.out (by
            have h1 := hQ.out.2
            have h2 := hsp.out
            unfold Span at h2
            by_cases x : s = m
            · exact .inl x
            · by_cases y : e = m
              · exact .inr (.inl y)
              · refine .inr (.inr ⟨by omega, by omega, ?_⟩)
                rcases h1 with h1 | h1
                · omega
                · have h3 : ¬ ¬ k (f (p - s)) < k (f s) := h1
                  rw [show p - s = e - 1 by omega] at h3; omega))
        have hmids : s + (e - m) = mid := by omega
        rw [hmids] at hsplit
        obtain ⟨hperm, hout, q1, q2, q3, q4, q5, q6, q7⟩ := hsplit
        have HH : Hid (Halves k (rot f s m e) a s mid e b) := ⟨q1, q2, q3, q4, q5, q6⟩
        have HALL : Hid (All N n (rot f s m e)) := HA.out.rot hsm hme (by omega)
        have HFIN : Hid (∀ G H, Mer k (rot f s m e) G a mid → Mer k G H mid b → Mer k f H a b) := fun G H h1 h2 => Mer.trans hperm hout (Mer.join (by omega) (by omega) h1 h2 q7)
        have HID : Hid ((s = m ∨ m = e) → rot f s m e = f) := rot_id f hsm hme
        clear hperm hout q1 q2 q3 q4 q5 q6 q7 hQ he hmids
        have HDW := hD
        clear hD
        obtain ⟨wo, rfl⟩ : ∃ wo : World, wo = wr := ⟨_, rfl⟩
        go_upto_region 39 with fail
        rw [E4.out]
        go_cut [185] (fun v wx => ∃ bb : Bool, v = .bool bb ∧ Hid (bb = true → s < m ∧ m < e) ∧ Hid (bb = false → m ≤ s ∨ e ≤ m) ∧ wo = wx)
        case first =>
          by_cases h1 : s < m
          · by_cases h2 : m < e
            · go_wp2_with fail
              go_meet
              case rel => exact ⟨true, rfl, fun _ => ⟨h1, h2⟩, (fun h => by cases h), rfl⟩
            · go_wp2_with fail
              go_meet
              case rel => exact ⟨false, rfl, (fun h => by cases h), fun _ => .inr (by omega), rfl⟩
          · go_wp2_with fail
            go_meet
            case rel => exact ⟨false, rfl, (fun h => by cases h), fun _ => .inl (by omega), rfl⟩
        case rest => as_aux_lemma =>
          obtain ⟨bb, rfl, hb1, hb2, rfl⟩ := hcut
          go_upto_if 185 with fail
          go_cut [20] (fun v wx => v = .int .i64 s ∧ Hid (Put g n (rot f s m e) w wx))
          case first =>
            cases bb
            · have h := hb2.out rfl
              have e' := HID.out (by omega)
              have HP : Hid (Put g n (rot f s m e) w wo) := by
                show Put _ _ _ _ _
                rw [e']
                exact HDW.out.put HD.out
              clear e'
              go_wp2_with fail
              go_meet
              case rel => exact ⟨rfl, HP⟩
            · obtain ⟨h1, h2⟩ := hb1.out rfl
              go_wp2_with fail
              refine (rot_any wo g n c s m e f _ hN h1 h2 (by omega) (HDW.out.dat HD.out)).mono ?_
              rintro ee w1 ⟨rfl, hp1⟩
              have HP : Hid (Put g n (rot f s m e) w w1) := (HDW.out.put HD.out).trans hp1
              clear hp1
              go_wp2_with fail
              go_meet
              case rel => exact ⟨rfl, HP⟩
          case rest => as_aux_lemma =>
            obtain ⟨rfl, HP⟩ := hcut
            clear hb1 hb2 HDW
            generalize rot f s m e = F1 at *
            go_upto_region 41 with fail
            obtain ⟨w1, rfl⟩ : ∃ w1 : World, w1 = wc := ⟨_, rfl⟩
            go_cut [199] (fun v wx => ∃ bb : Bool, v = .bool bb ∧ Hid (bb = true → a < s ∧ s < mid) ∧ Hid (bb = false → s ≤ a ∨ mid ≤ s) ∧ w1 = wx)
            case first =>
              by_cases h1 : a < s
              · by_cases h2 : s < mid
                · go_wp2_with fail
                  go_meet
                  case rel => exact ⟨true, rfl, fun _ => ⟨h1, h2⟩, (fun h => by cases h), rfl⟩
                · go_wp2_with fail
                  go_meet
                  case rel => exact ⟨false, rfl, (fun h => by cases h), fun _ => .inr (by omega), rfl⟩
              · go_wp2_with fail
                go_meet
                case rel => exact ⟨false, rfl, (fun h => by cases h), fun _ => .inl (by omega), rfl⟩
            case rest => as_aux_lemma =>
              obtain ⟨bb, rfl, hb1, hb2, rfl⟩ := hcut
              go_upto_if 199 with fail
              go_cut [20] (fun v wx => v = .int .i64 s ∧ ∃ F2, Hid (Put g n F2 w wx) ∧ Hid (Mer k F1 F2 a mid))
              case first =>
                cases bb
                · have h := hb2.out rfl
                  have HM1 : Hid (Mer k F1 F1 a mid) := Mer.refl (by
                    rcases h with h | h
                    · have : s = a := by omega
                      have h2 := HH.out.s2
                      rw [this] at h2
                      exact h2
                    · have : s = mid := by omega
                      have h2 := HH.out.s1
                      rw [this] at h2
                      exact h2)
                  go_wp2_with fail
                  go_meet
                  case rel => exact ⟨rfl, F1, HP, HM1⟩
                · obtain ⟨h1, h2⟩ := hb1.out rfl
                  go_wp2_with fail
                  refine (IH.out w1 a s mid F1 (by omega) h1 h2 (by omega) HH.out.s1 HH.out.s2 HH.out.l1 HALL.out HP.out.1 (HC.out.keep HP.out.2)).mono ?_
                  rintro ee w2 ⟨rfl, F2, hp1, hm1⟩
                  have HP2 : Hid (Put g n F2 w w2) := HP.out.trans hp1
                  have HM2 := Lib.hid hm1
                  clear hp1 hm1
                  go_wp2_with fail
                  go_meet
                  case rel => exact ⟨rfl, F2, HP2, HM2⟩
              case rest => as_aux_lemma =>
                obtain ⟨rfl, F2, HP2, HM2⟩ := hcut
                clear hb1 hb2 HP
                have k1 : ∀ i, mid ≤ i → i < b → F2 i = F1 i := fun i hi _ => HM2.out.2.2 i (.inr hi)
                have H3 : Hid (Sor k F2 mid e) := HH.out.s3.congr (fun i h1 h2 => k1 i h1 (by omega))
                have H4 : Hid (Sor k F2 e b) := HH.out.s4.congr (fun i h1 h2 => k1 i (by omega) h2)
                have H5 : Hid (Low F2 mid e b) := HH.out.l2.congr k1
                have H6 : Hid (All N n F2) := HALL.out.mer HM2.out (by omega)
                clear k1
                by_cases h1 : mid < e
                · by_cases h2 : e < b
                  · go_wp2_with fail
                    refine (IH.out _ mid e b F2 (by omega) h1 h2 hb H3.out H4.out H5.out H6.out HP2.out.1 (HC.out.keep HP2.out.2)).mono ?_
                    rintro ee w3 ⟨rfl, F3, hp1, hm1⟩
                    have HP3 : Hid (Put g n F3 w w3) := HP2.out.trans hp1
                    have HM3 : Hid (Mer k f F3 a b) := HFIN.out F2 F3 HM2.out hm1
                    clear hp1 hm1
                    go_wp2_with fail
                    refine bodyPost_end (results_none rfl _ _ _) rfl ⟨rfl, F3, HP3.out, HM3.out⟩
                  · have HM3 : Hid (Mer k f F2 a b) := HFIN.out F2 F2 HM2.out (Mer.refl (by
                      have : e = b := by omega
                      have h3 := H3.out
                      rw [this] at h3
                      exact h3))
                    go_wp2_with fail
                    refine bodyPost_end (results_none rfl _ _ _) rfl ⟨rfl, F2, HP2.out, HM3.out⟩
                · have HM3 : Hid (Mer k f F2 a b) := HFIN.out F2 F2 HM2.out (Mer.refl (by
                    have : mid = e := by omega
                    have h3 := H4.out
                    rw [← this] at h3
                    exact h3))
                  go_wp2_with fail
                  refine bodyPost_end (results_none rfl _ _ _) rfl ⟨rfl, F2, HP2.out, HM3.out⟩

theorem sym_any (Bo g n c N : Nat) (k : Nat → Nat) (hN : n ≤ 4611686018427387904) : ∀ d, SymOk Bo g n c N k d
  | 0 => fun w a m b f h1 h2 h3 => by omega
  | d + 1 => by
    intro w a m b f h1 h2 h3 h4 h5 h6 h7 h8 h9 h10
    by_cases e1 : m = a + 1
    · subst e1
      exact sym_left w Bo g n c a b N k f hN h3 h4 h6 h7 h8 h9 h10
    · by_cases e2 : b = m + 1
      · subst e2
        exact sym_right w Bo g n c a m N k f hN (by omega) h4 h5 h7 h8 h9 h10
      · exact sym_many w Bo g n c a m b N k f d (sym_any Bo g n c N k hN d) h1 hN (by omega) (by omega) h4 h5 h6 h7 h8 h9 h10
end Go.Proofs.YtidclmmnfienlaaGreatDoor.Srt
