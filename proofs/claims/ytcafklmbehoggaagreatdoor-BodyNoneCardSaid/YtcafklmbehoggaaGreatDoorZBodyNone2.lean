/-
  append onto a row of the call's own, whatever is appended (nil, empty or not): one law, and where the new row lies. The walks of the reference's Kraft and Check of lengths. The walk of package canon's Codes. The walk of the reference's Codes. What a call owns: how it lasts, and that it lies apart from what else is known. No walk. What is kept by a step: the blocks of a set, which need not lie below a number. No walk.
-/
import Derived.Test.YtcafklmbehoggaaGreatDoorZBodyNone1
import Derived.Laws.AppendOwnNone
namespace Go.Proofs.YtcafklmbehoggaaGreatDoor.Mem
open Go.RowKit
def cutA (A : Option Addr) (l cap s : Nat) : Option Addr := if cap = l then A else A.map (·.add (l * s))
theorem run_cut {P : Program} {t e : TypeId} {s : Nat} (ht : P.underlying t = some (.slice e)) (hs : ∀ w, (sizeOf e).run P w = .ok s w) (A : Option Addr) (len cap : Nat) (kl : IntKind) (l : Int) (k : Nat) (hl : l = k) (hk : k ≤ len) (w : World) :
    (Instr.slice t (.slice A len cap) (some (.int kl l)) none none).run P w = .ok (.slice (cutA A k cap s) (len - k) (cap - k)) w := by
  subst hl
  have he : P.elem t = e := by simp [Program.elem, ht]
  rw [run_slice_l w t A len cap (by rw [he]; exact ht) kl (k : Int) (by omega) (by omega), he, hs]
  rfl
theorem run_cut2 {P : Program} {t e : TypeId} {s : Nat} (ht : P.underlying t = some (.slice e)) (hs : ∀ w, (sizeOf e).run P w = .ok s w) (A : Option Addr) (len cap : Nat) (kl kh : IntKind) (l h : Int) (k m : Nat) (hl : l = k) (hh : h = m) (hk : k ≤ m) (hm : m ≤ cap) (w : World) :
    (Instr.slice t (.slice A len cap) (some (.int kl l)) (some (.int kh h)) none).run P w = .ok (.slice (cutA A k cap s) (m - k) (cap - k)) w := by
  subst hl hh
  have he : P.elem t = e := by simp [Program.elem, ht]
  rw [run_slice_lh w t A len cap (by rw [he]; exact ht) kl kh (k : Int) (m : Int) (by omega) (by omega) (by omega), he, hs]
  rfl
theorem add_none' (b off i : Nat) : (⟨b, off, none⟩ : Addr).add i = ⟨b, off + i, none⟩ := by
  unfold Addr.add
  split
  · simp_all
  · rfl
theorem Row.cut {w : World} {B n s c : Nat} {A : Option Addr} {f g : Nat → Nat → Value} (h : Row w B A n s f) (k m : Nat) (hk : k + m ≤ n) (hc : n ≤ c) (hg : ∀ i j, i < m → j < s → f (k + i) j = g i j) : Row w B (cutA A k c s) m s g := fun hn => by
  obtain ⟨b, off, rfl, hb, hcell⟩ := h (by omega)
  unfold cutA
  rw [if_neg (by omega)]
  refine ⟨b, off + k * s, by simp [add_none'], hb, fun i j hi hj => ?_⟩
  have := hcell (k + i) j (by omega) hj
  rw [hg i j hi hj] at this
  rw [← this, Nat.add_mul]
  congr 2
  omega
def Src (w : World) (A : Option Addr) (m c size : Nat) (news : List Value) : Prop :=
  news.length = m * size ∧ ((A = none ∧ m = 0 ∧ c = 0) ∨ ∃ ad, A = some ad ∧ ∀ j u, news[j]? = some u → w.cell? (ad.add j) = some u)
theorem add_none (b off i : Nat) : (⟨b, off, none⟩ : Addr).add i = ⟨b, off + i, none⟩ := by
  unfold Addr.add
  split
  · simp_all
  · rfl
theorem Src.of_blk {w : World} {g : Nat} {t : TypeId} {cs : Array Value} (h : Blk w g t cs) (m c size : Nat) (hs : cs.size = m * size) : Src w (some ⟨g, 0, none⟩) m c size cs.toList :=
  ⟨by simpa using hs, .inr ⟨_, rfl, fun j u hu => by rw [add_none, Nat.zero_add, h.cell]; simpa using hu⟩⟩
section
variable {P : Program}
theorem run_app (w : World) (base : Nat) (t ty e : TypeId) (i : TypeInfo) (z : Value) (size bytes : Nat) (ht : P.underlying t = some (.slice e)) (hi : P.info? e = some i) (hz : i.zero = some z)
    (hsize : i.size = size) (hby : i.bytes = bytes) (hzs : z.cells.size = size) (hsz : 0 < size)
    (v : Value) (n : Nat) (xs : List Value) (hown : w.ownsRow base e size v n xs)
    (A : Option Addr) (m c : Nat) (news : List Value) (hsrc : Src w A m c size news) (h1 : ∀ u ∈ news, u.oneCell' = true)
    (h63 : n + m ≤ maxLen) (hbytes : (n + m) * bytes ≤ 140737488355328) (hbase : base ≤ w.heap.size) :
    ∃ v' w', (Builtin.append_ #[t, t] ty #[v, .slice A m c]).run P w = .ok v' w' ∧ w'.ownsRow base e size v' (n + m) (xs ++ news) ∧ w.grownBy w' v.ownBlock ∧
      (v'.ownBlock = v.ownBlock ∨ v'.ownBlock = some w.heap.size) := by
  obtain ⟨hl, hA⟩ := hsrc
  rcases hA with ⟨rfl, rfl, rfl⟩ | ⟨ad, rfl, hc⟩
  · have hn : news = [] := List.eq_nil_of_length_eq_zero (by simpa using hl)
    subst hn
    exact ⟨v, w, run_append_owned_none (P := P) (w := w) base t ty e i size ht hi v n xs hown, by simpa using hown, ⟨rfl, rfl, rfl, Nat.le_refl _, fun _ _ _ => rfl⟩, .inl rfl⟩
  · obtain ⟨v', w', hr, h2, h3, _, h5⟩ := run_append_own_at (P := P) w base t ty e i z size bytes ht hi hz hsize hby hzs hsz v n xs hown ad m c news hl hc h1 h63 hbytes hbase
    exact ⟨v', w', hr, h2, h3, h5⟩
theorem wpList_app {w : World} {ops : Array Oper} {rest : List Oper} {o : Oper} {a : Act} {Q : Exit → Act → World → Prop} (hgd : o.guard = none) (s x : Operand) (t : TypeId)
    (ho : o.op = .call { callee := .builtin .append, args := #[s, x], argTypes := #[t, t] })
    (base : Nat) (e : TypeId) (i : TypeInfo) (z : Value) (size bytes : Nat) (ht : P.underlying t = some (.slice e)) (hi : P.info? e = some i) (hz : i.zero = some z)
    (hsize : i.size = size) (hby : i.bytes = bytes) (hzs : z.cells.size = size) (hsz : 0 < size)
    (v : Value) (n : Nat) (xs : List Value) (hs : a.eval s = v) (hown : w.ownsRow base e size v n xs)
    (A : Option Addr) (m c : Nat) (news : List Value) (hx : a.eval x = .slice A m c) (hsrc : Src w A m c size news) (h1 : ∀ u ∈ news, u.oneCell' = true)
    (h63 : n + m ≤ maxLen) (hbytes : (n + m) * bytes ≤ 140737488355328) (hbase : base ≤ w.heap.size)
    (h : ∀ v' w', w'.ownsRow base e size v' (n + m) (xs ++ news) → w.grownBy w' v.ownBlock → (v'.ownBlock = v.ownBlock ∨ v'.ownBlock = some w.heap.size) → wpList P ops Q rest (a.put o.dst v') w') : wpList P ops Q (o :: rest) a w := by
  refine wpList_plain hgd fun K hK => ?_
  obtain ⟨v', w', hr, h2, h3, h5⟩ := run_app (P := P) w base t o.type e i z size bytes ht hi hz hsize hby hzs hsz v n xs hown A m c news hsrc h1 h63 hbytes hbase
  unfold Oper.wp execOp
  simp only [ho, resolve, invoke, builtin, Sem.run_bind, Sem.run_pure, Result.andThen_ok, List.map_toArray, List.map_cons, List.map_nil, hs, hx, hr]
  exact hK _ _ (h v' w' h2 h3 h5)
end
end Go.Proofs.YtcafklmbehoggaaGreatDoor.Mem
namespace Go.Proofs.YtcafklmbehoggaaGreatDoor.Canon
open Go.RowKit Go.Proofs.YtcafklmbehoggaaGreatDoor.Mem
theorem good_all {ls : List Nat} (h1 : ls.length ≤ 300) (h2 : ∀ x ∈ ls, x ≤ 15) : goodB ls = true := by
  unfold goodB
  rw [Bool.and_eq_true, List.all_eq_true]
  exact ⟨by simpa using h1, fun x hx => by simpa using h2 x hx⟩
theorem checkE_ref {ls : List Nat} (hg : goodB ls = true) : checkE ls = if used ls = 0 ∨ (used ls = 1 ∧ cnt ls 1 = 1) ∨ kraft ls = 32768 then 0 else 7 := by
  obtain ⟨_, h2⟩ := good_of hg
  rw [checkE_of ls (cn ls) (fun _ => rfl), wsF_cn, wnF_cn, wsum_kraft ls h2, wnum_used ls h2, hg]
  simp [cn]
end Go.Proofs.YtcafklmbehoggaaGreatDoor.Canon
namespace Go.Proofs.YtcafklmbehoggaaGreatDoor.Canon
open Go.RowKit Go.Proofs.YtcafklmbehoggaaGreatDoor.Mem
def codeW (ls : List Nat) (s : Nat) : Nat := code ls s % 65536
def Wds (ls : List Nat) (n s : Nat) (arr : Array Value) : Prop := arr.size = n ∧ ∀ i, i < n → arr[i]? = some (.int .u16 ((if i < s then codeW ls i else 0 : Nat) : Int))
theorem Wds.start (ls : List Nat) (n : Nat) : Wds ls n 0 (madeCells #[.int .u16 0] n) := by
  refine ⟨size_madeCells _ _, fun i hi => ?_⟩
  simp [madeCells, hi, Nat.mod_one]
theorem Wds.set {ls : List Nat} {n s : Nat} {arr : Array Value} (h : Wds ls n s arr) (hs : s < n) {v : Nat} (hv : v = codeW ls s) : Wds ls n (s + 1) (arr.setIfInBounds s (.int .u16 (v : Nat))) := by
  refine ⟨by rw [Array.size_setIfInBounds]; exact h.1, fun i hi => ?_⟩
  rw [Array.getElem?_setIfInBounds]
  by_cases e : s = i
  · subst e
    rw [if_pos rfl, if_pos (by have := h.1; omega), if_pos (by omega), hv]
  · rw [if_neg e, h.2 i hi]
    by_cases hlt : i < s
    · rw [if_pos hlt, if_pos (by omega)]
    · rw [if_neg hlt, if_neg (by omega)]
theorem Wds.skip {ls : List Nat} {n s : Nat} {arr : Array Value} (h : Wds ls n s arr) (h0 : codeW ls s = 0) : Wds ls n (s + 1) arr := by
  refine ⟨h.1, fun i hi => ?_⟩
  rw [h.2 i hi]
  by_cases hlt : i < s
  · rw [if_pos hlt, if_pos (by omega)]
  · by_cases e : i = s
    · subst e; rw [if_neg hlt, if_pos (by omega), h0]
    · rw [if_neg hlt, if_neg (by omega)]
theorem codeW_zero {ls : List Nat} {s : Nat} (h : ls[s]? = some 0) : codeW ls s = 0 := by
  unfold codeW code
  simp [List.getD_eq_getElem?_getD, h]
theorem codeW_pos {ls : List Nat} {s x : Nat} (h : ls[s]? = some x) (hx : x ≠ 0) : codeW ls s = (fst ls x + cnt (ls.take s) x) % 65536 := by
  unfold codeW code
  simp [List.getD_eq_getElem?_getD, h, hx]
def Fsts (f : Nat → Nat) (l : Nat) (arr : Array Value) : Prop := arr.size = 17 ∧ ∀ j, j ≤ l → arr[j]? = some (.int .i64 (f j : Nat))
theorem Fsts.set {f : Nat → Nat} {l : Nat} {arr : Array Value} (h : Fsts f l arr) (hl : l < 16) {v : Nat} (hv : v = f (l + 1)) : Fsts f (l + 1) (arr.setIfInBounds (l + 1) (.int .i64 (v : Nat))) := by
  refine ⟨by rw [Array.size_setIfInBounds]; exact h.1, fun j hj => ?_⟩
  rw [Array.getElem?_setIfInBounds]
  by_cases e : l + 1 = j
  · subst e
    rw [if_pos rfl, if_pos (by have := h.1; omega), hv]
  · rw [if_neg e]
    exact h.2 j (by omega)
theorem Fsts.bump {f g : Nat → Nat} {arr : Array Value} (h : Fsts f 16 arr) {x v : Nat} (hx : x ≤ 16) (hv : v = g x) (ho : ∀ j, j ≠ x → g j = f j) : Fsts g 16 (arr.setIfInBounds x (.int .i64 (v : Nat))) := by
  refine ⟨by rw [Array.size_setIfInBounds]; exact h.1, fun j hj => ?_⟩
  rw [Array.getElem?_setIfInBounds]
  by_cases e : x = j
  · subst e
    rw [if_pos rfl, if_pos (by have := h.1; omega), hv]
  · rw [if_neg e, h.2 j hj, ho j (Ne.symm e)]
theorem Fsts.zero (ls : List Nat) : Fsts (fst ls) 1 #[.int .i64 0, .int .i64 0, .int .i64 0, .int .i64 0, .int .i64 0, .int .i64 0, .int .i64 0, .int .i64 0, .int .i64 0, .int .i64 0, .int .i64 0, .int .i64 0, .int .i64 0, .int .i64 0, .int .i64 0, .int .i64 0, .int .i64 0] := by
  refine ⟨rfl, fun j hj => ?_⟩
  have : j = 0 ∨ j = 1 := by omega
  rcases this with rfl | rfl
  · rfl
  · simp [fst, cn]
theorem wrap_u16 (v : Nat) : IntKind.u16.wrap (v : Int) = ((v % 65536 : Nat) : Int) := by
  rw [IntKind.wrap_u16]
  omega
theorem info_u16 : (Tryz.prog.info? 190).map (fun i => (i.zero, i.size, i.bytes)) = some (some (.int .u16 0), 1, 2) := by kernel_rfl
theorem make_u16 (n : Nat) (hn : n ≤ 8388608) (w : World) : (Instr.makeSlice 182 (.int .i64 (n : Int)) (.int .i64 (n : Int))).run Tryz.prog w =
    .ok (.slice (some ⟨w.heap.size, 0, none⟩) n n) (w.alloc (.cells (madeCells #[.int .u16 0] n) 190)) := by
  obtain ⟨i0, hi, hz0, hz1, hz2⟩ := info_parts info_u16
  have h := run_make (P := Tryz.prog) w 182 190 i0 (.int .u16 0) Tryz.underlying182 hi hz0 .i64 .i64 (n : Int) (n : Int) (by omega) (Int.le_refl _) (by rw [hz2]; omega) (by omega)
  simp only [Int.toNat_natCast] at h
  simpa [hz1, Value.cells] using h
def CodesPost (ls : List Nat) (n : Nat) (w : World) (e : Ending) (w' : World) : Prop :=
  ∃ (g : Nat) (arr : Array Value), e = .returned (.tuple #[.slice (some ⟨g, 0, none⟩) n n, .int .i64 0]) ∧ Blk w' g 190 arr ∧ Wds ls n n arr ∧ w.heap.size ≤ g ∧ Below w.heap.size w w'
set_option maxHeartbeats 1000000 in
set_option maxRecDepth 100000 in
theorem codes_any (w : World) (A : Option Addr) (n c : Nat) (ls : List Nat) (hn : ls.length = n) (hok : okB ls = true) (ha : Row w w.heap.size A n 1 (numF .u8 ls)) :
    Calls Tryz.prog 268 #[.slice A n c] w (CodesPost ls n w) := by
  have hgood : goodB ls = true := by
    cases hg : goodB ls
    · rw [okB_good hg] at hok; cases hok
    · rfl
  obtain ⟨hlen, hsm⟩ := good_of hgood
  rw [hn] at hlen
  have C := check_any w A n c ls hn (by omega) ha
  have hE : checkE ls = 0 := by unfold checkE; rw [hok]; rfl
  rw [hE] at C
  have C1 := Lib.hid C
  have C2 := Lib.hid (fun wx (h : Row wx wx.heap.size A n 1 (numF .u8 ls)) => count_any wx A n c ls hn (by omega) h)
  have HN := Lib.hid hn
  have HG := Lib.hid hgood
  have HSM := Lib.hid hsm
  have hmk := make_u16 n (by omega)
  have hfl := fun l (h : l ≤ 16) => fst_le ls l
  have HFL : Hid (∀ l, l ≤ 16 → fst ls l ≤ 39321600) := by
    show ∀ l, l ≤ 16 → fst ls l ≤ 39321600
    intro l hl
    have h1 := fst_le ls l
    have h2 : 2 ^ (l + 1) ≤ 2 ^ 17 := Nat.pow_le_pow_right (by omega) (by omega)
    have h3 : 2 ^ (l + 1) * ls.length ≤ 2 ^ 17 * 300 := Nat.mul_le_mul h2 (by omega)
    omega
  clear C hE hok hgood hsm hn hfl
  go_enter Tryz.func268, Tryz.ntmps268
  go_wp2_with fail
  refine C1.out.mono ?_
  rintro e w1 ⟨rfl, hb1⟩
  have z1 := hb1.size
  go_wp2_with fail
  refine (C2.out _ ((ha.below hb1).mono z1)).mono ?_
  rintro e w2 ⟨arr, f, rfl, hc, hf, hg, hb2⟩
  rw [hg HG.out] at hc
  rw [HG.out]
  have z2 := hb2.size
  have hbel2 : Below w.heap.size w w2 := bel_step hb2 z1 hb1
  have hsz : arr.size = 16 := hc.1
  have bl0 : Blk (w2.alloc (.cells #[.int .i64 0, .int .i64 0, .int .i64 0, .int .i64 0, .int .i64 0, .int .i64 0, .int .i64 0, .int .i64 0, .int .i64 0, .int .i64 0, .int .i64 0, .int .i64 0, .int .i64 0, .int .i64 0, .int .i64 0, .int .i64 0] 361)) w2.heap.size 361 _ := Blk.made _ _ _
  have bl1 := blk_over0 (arr := arr) bl0 (by rw [hsz]; rfl)
  have hth : (w2.alloc (.cells #[.int .i64 0, .int .i64 0, .int .i64 0, .int .i64 0, .int .i64 0, .int .i64 0, .int .i64 0, .int .i64 0, .int .i64 0, .int .i64 0, .int .i64 0, .int .i64 0, .int .i64 0, .int .i64 0, .int .i64 0, .int .i64 0] 361)).there w2.heap.size 0 arr.size := by
    rw [hsz]; exact there_blk bl0
  have hinf : (Tryz.prog.info? 361).map (·.size) = some arr.size := by rw [hsz]; exact info_counts
  have bel1 : Below w.heap.size w ((w2.alloc (.cells #[.int .i64 0, .int .i64 0, .int .i64 0, .int .i64 0, .int .i64 0, .int .i64 0, .int .i64 0, .int .i64 0, .int .i64 0, .int .i64 0, .int .i64 0, .int .i64 0, .int .i64 0, .int .i64 0, .int .i64 0, .int .i64 0] 361)).setCells w2.heap.size 0 arr.toList) :=
    bel_setCells (by omega) _ _ _ (bel_alloc (by omega) hbel2)
  have HONE := Lib.hid hc.one
  have HINF := Lib.hid hinf
  have HC := Lib.hid hc
  clear hsz hinf hc hf hg bl0 C1 C2
  go_upto_region 5 with (refine wpList_store_mid rfl 361 (.tmp 5) (.tmp 20) rfl w2.heap.size 0 arr (by rfl) (by rfl) hth HINF.out HONE.out ?_)
  have hz1 := bl1.lt
  clear hth
  generalize (w2.alloc (.cells #[.int .i64 0, .int .i64 0, .int .i64 0, .int .i64 0, .int .i64 0, .int .i64 0, .int .i64 0, .int .i64 0, .int .i64 0, .int .i64 0, .int .i64 0, .int .i64 0, .int .i64 0, .int .i64 0, .int .i64 0, .int .i64 0] 361)).setCells w2.heap.size 0 arr.toList = w3 at *
  have hz3 := bel1.size
  go_wp2_with fail
  go_loopw [8] (fun i wr => ∃ (l : Nat) (fa : Array Value), 1 ≤ l ∧ l ≤ 16 ∧ i = .int .i64 l ∧ Blk wr w2.heap.size 361 arr ∧ Blk wr w3.heap.size 365 fa ∧ Hid (Fsts (fst ls) l fa) ∧ Below w.heap.size w wr) (fun i _ => 16 - (intOf i).toNat)
  case atStart => exact ⟨1, _, by omega, by omega, rfl, bl1.alloc _, Blk.made _ _ _, Fsts.zero ls, bel_alloc hz3 bel1⟩
  case round =>
    obtain ⟨l, fa, hl1, hl2, rfl, blN, blF, hF, rbel⟩ := hrel
    by_cases hlt : l < 16
    · have c1 := blF.cell l
      rw [hF.out.2 l (by omega)] at c1
      have c2 := blN.cell l
      rw [HC.out.2 l (by omega)] at c2
      have c3 := blF.cell (l + 1)
      rw [Array.getElem?_eq_getElem (by have := hF.out.1; omega)] at c3
      generalize fa[l + 1]'(by have := hF.out.1; omega) = old at c3
      have f3 := blF.frozen (l + 1)
      have b1 := HFL.out l (by omega)
      have b2 := cn_le ls l
      have hfs : fst ls (l + 1) = 2 * (fst ls l + cn ls l) := rfl
      have HFS := Lib.hid hfs
      rw [HN.out] at b2
      clear hfs
      generalize fst ls l = F at *
      generalize cn ls l = K at *
      have x0 : (0 : Int) ≤ (l : Int) := by omega
      have x1 : (l : Int) < 16 := by omega
      have x2 : (l : Int) < 17 := by omega
      have x3 : (0 : Int) ≤ (l : Int) + 1 := by omega
      have x4 : (l : Int) + 1 < 17 := by omega
      have x5 : Hid (((l : Int) + 1).toNat = l + 1) := by show _ = _; omega
      have s1 : Hid (IntKind.i64.wrap ((l : Int) + 1) = (l : Int) + 1) := IntWalk.i64_in _ (by omega)
      have s2 : Hid (IntKind.i64.wrap ((F : Int) + (K : Int)) = (F : Int) + (K : Int)) := IntWalk.i64_in _ (by omega)
      go_wp2_with fail
      have t1 := s1.out
      have t2 := s2.out
      have t3 := x5.out
      go_region
      all_goals clear t1 t2 t3
      all_goals go_wp2_with fail
      all_goals
        go_roundw
        case rel =>
          go_light
          have e : ((F : Int) + (K : Int)) * 2 = ((fst ls (l + 1) : Nat) : Int) := by rw [HFS.out]; omega
          rw [e]
          exact ⟨l + 1, _, by omega, by omega, by go_num, (blN.far (p := ⟨w3.heap.size, l + 1, none⟩) (show w2.heap.size ≠ w3.heap.size by omega) _).drew, (blF.set _ _).drew, hF.out.set hlt rfl, (bel_set (p := ⟨w3.heap.size, l + 1, none⟩) hz3 rbel).drew⟩
        case measure => go_light; simp [intOf]; omega
    · obtain rfl : l = 16 := by omega
      go_wp2_with fail
      have hbr := rbel.size
      have hgl := blF.lt
      obtain ⟨wo, rfl⟩ : ∃ wo : World, wo = wr := ⟨_, rfl⟩
      have blF' := blF.alloc (.cells (madeCells #[.int .u16 0] n) 190)
      have blO' : Blk (wo.alloc (.cells (madeCells #[.int .u16 0] n) 190)) wo.heap.size 190 _ := Blk.made _ _ _
      have belO := bel_alloc (o := .cells (madeCells #[.int .u16 0] n) 190) hbr rbel
      have hF0 : Fsts (fun j => fst ls j + cn (ls.take 0) j) 16 fa := by
        refine ⟨hF.out.1, fun j hj => ?_⟩
        rw [hF.out.2 j hj]
        simp [cn, cnt_nil]
      have HF0 := Lib.hid hF0
      clear hF0 blF rbel hF
      go_loopw [42] (fun i wr => ∃ (s : Nat) (fb ds : Array Value), s ≤ n ∧ i = .int .i64 s ∧ Blk wr w3.heap.size 365 fb ∧ Blk wr wo.heap.size 190 ds ∧ Hid (Fsts (fun j => fst ls j + cn (ls.take s) j) 16 fb) ∧ Hid (Wds ls n s ds) ∧ Below w.heap.size w wr) (fun i _ => n - (intOf i).toNat)
      case atStart => exact ⟨0, fa, _, by omega, rfl, blF', blO', HF0, Wds.start ls n, belO⟩
      case round =>
        clear blF' blO' belO HF0
        obtain ⟨s, fb, ds, hs, rfl, blF, blO, hF, hW, rbel⟩ := hrel
        by_cases hlt : s < n
        · obtain ⟨b, off, x, rfl, hbb, hx, c0⟩ := num_cell (ha.below rbel) HN.out hlt
          have hx15 := HSM.out x (List.mem_of_getElem? hx)
          have x0 : (0 : Int) ≤ (s : Int) := by omega
          have x1 : (s : Int) < (n : Int) := by omega
          have htk := take_snoc hx
          by_cases hx0 : x = 0
          · subst hx0
            have hcn : ∀ j, cn (ls.take (s + 1)) j = cn (ls.take s) j := by
              intro j
              rw [htk]
              unfold cn
              split
              · rfl
              · rw [cnt_snoc, if_neg (by omega)]; rfl
            have HCN := Lib.hid hcn
            have HZ := Lib.hid (codeW_zero hx)
            clear hx htk hcn
            go_wp2_with fail
            go_roundw
            case rel =>
              go_light
              exact ⟨s + 1, fb, ds, by omega, by go_num, blF, blO, by show Fsts _ 16 fb; simp only [HCN.out]; exact hF.out, hW.out.skip HZ.out, rbel⟩
            case measure => go_light; simp [intOf]; omega
          · have hcn : ∀ j, cn (ls.take (s + 1)) j = cn (ls.take s) j + if x = j then 1 else 0 := by
              intro j
              rw [htk]
              unfold cn
              split
              · rename_i h; subst h; rw [if_neg hx0]
              · rw [cnt_snoc]
            have hcx : cn (ls.take s) x = cnt (ls.take s) x := by unfold cn; rw [if_neg hx0]
            have hcw := codeW_pos hx hx0
            rw [← hcx] at hcw
            have c1 : wr.cell? ⟨w3.heap.size, x, none⟩ = some (.int .i64 ((fst ls x + cn (ls.take s) x : Nat) : Int)) := (blF.cell x).trans (hF.out.2 x (by omega))
            have f1 := blF.frozen x
            have c2 := blO.cell s
            rw [Array.getElem?_eq_getElem (by have := hW.out.1; omega)] at c2
            generalize ds[s]'(by have := hW.out.1; omega) = old at c2
            have f2 := blO.frozen s
            have b1 := HFL.out x (by omega)
            have b2 := cn_le (ls.take s) x
            rw [List.length_take] at b2
            have hnext : Fsts (fun j => fst ls j + cn (ls.take (s + 1)) j) 16 (fb.setIfInBounds x (.int .i64 ((fst ls x + cn (ls.take s) x + 1 : Nat) : Int))) := by
              refine hF.out.bump (by omega) ?_ fun j hj => ?_
              · simp only [hcn, if_pos]; omega
              · simp only [hcn]; rw [if_neg (Ne.symm hj)]; rfl
            have bv : fst ls x + cn (ls.take s) x ≤ 39321900 := by have := HN.out; omega
            clear b1 b2
            generalize fst ls x + cn (ls.take s) x = v at *
            have HV : Hid (((v % 65536 : Nat) : Int) = (codeW ls s : Nat)) := by show _ = _; rw [hcw]
            have HNX := Lib.hid hnext
            have x3 : (0 : Int) ≤ (x : Int) := by omega
            have x4 : (x : Int) < 17 := by omega
            have xp : 0 < x := by omega
            clear hx htk hcn hcx hcw hnext hx0
            go_wp2_with fail
            go_roundw
            case rel =>
              go_light
              rw [wrap_u16 v, HV.out]
              exact ⟨s + 1, _, _, by omega, by go_num, (blF.far (p := ⟨wo.heap.size, s, none⟩) (show w3.heap.size ≠ wo.heap.size by omega) _).set _ _, (blO.set _ _).far (p := ⟨w3.heap.size, x, none⟩) (show wo.heap.size ≠ w3.heap.size by omega) _, HNX, hW.out.set hlt rfl,
                bel_set (p := ⟨w3.heap.size, x, none⟩) hz3 (bel_set (p := ⟨wo.heap.size, s, none⟩) hbr rbel)⟩
            case measure => go_light; simp [intOf]; omega
        · obtain rfl : s = n := by omega
          go_wp2_with fail
          go_ret2
          go_light
          exact ⟨wo.heap.size, ds, rfl, blO, hW.out, by omega, rbel⟩
end Go.Proofs.YtcafklmbehoggaaGreatDoor.Canon
namespace Go.Proofs.YtcafklmbehoggaaGreatDoor.Canon
open Go.RowKit Go.Proofs.YtcafklmbehoggaaGreatDoor.Mem
end Go.Proofs.YtcafklmbehoggaaGreatDoor.Canon
namespace Go.Proofs.YtcafklmbehoggaaGreatDoor.Own
open Go.RowKit Go.Proofs.YtcafklmbehoggaaGreatDoor.Mem
theorem own_kept {w w' : World} {base : Nat} {e : TypeId} {s n : Nat} {v : Value} {xs : List Value} (h : w.ownsRow base e s v n xs) (hk : ∀ g, v.ownBlock = some g → w'.heap[g]? = w.heap[g]?) :
    w'.ownsRow base e s v n xs := by
  refine ⟨h.1, ?_⟩
  rcases h.2 with h0 | ⟨g, cap, cur, rfl, hb, hg, rest⟩
  · exact .inl h0
  · exact .inr ⟨g, cap, cur, rfl, hb, (hk g rfl).trans hg, rest⟩
theorem own_blk {w : World} {base : Nat} {e t : TypeId} {s n g : Nat} {v : Value} {xs : List Value} {cs : Array Value} (h : w.ownsRow base e s v n xs) (hb : Blk w g t cs) (hne : e ≠ t) : v.ownBlock ≠ some g := by
  intro hv
  rcases h.2 with ⟨rfl, _⟩ | ⟨g', cap, cur, rfl, _, hg, _⟩
  · simp [Value.ownBlock] at hv
  · simp [Value.ownBlock] at hv
    subst hv
    exact Blk.apart (t := e) hg hb hne rfl
theorem own_apart {w : World} {base base' : Nat} {e e' : TypeId} {s s' n n' : Nat} {v v' : Value} {xs xs' : List Value} (h : w.ownsRow base e s v n xs) (h' : w.ownsRow base' e' s' v' n' xs') (hne : e ≠ e') :
    v.ownBlock = none ∨ v.ownBlock ≠ v'.ownBlock := by
  rcases h.2 with ⟨rfl, _⟩ | ⟨g, cap, cur, rfl, _, hg, _⟩
  · exact .inl rfl
  · refine .inr fun hv => ?_
    exact own_blk h' (g := g) (t := e) hg (Ne.symm hne) hv.symm
theorem own_shape1 {w : World} {base : Nat} {e : TypeId} {s n : Nat} {v : Value} {xs : List Value} (h : w.ownsRow base e s v (n + 1) xs) : ∃ g cap, v = .slice (some ⟨g, 0, none⟩) (n + 1) cap := by
  rcases h.2 with ⟨_, h0⟩ | ⟨g, cap, cur, rfl, _⟩
  · omega
  · exact ⟨g, cap, rfl⟩
theorem own_wf {w : World} {base : Nat} {e : TypeId} {s n : Nat} {A : Option Addr} {c : Nat} {xs : List Value} (h : w.ownsRow base e s (.slice A n c) n xs) : Wf A n c := by
  rcases h.2 with ⟨hv, hx⟩ | ⟨g, cap, cur, hv, _, _, h1, _⟩
  · injection hv with e1 e2 e3
    subst e1 e2 e3
    exact Wf.nil
  · injection hv with e1 e2 e3
    subst e1 e3
    exact Wf.some h1
end Go.Proofs.YtcafklmbehoggaaGreatDoor.Own
namespace Go.Proofs.YtcafklmbehoggaaGreatDoor.Own
open Go.RowKit Go.Proofs.YtcafklmbehoggaaGreatDoor.Mem
structure Kept (K : Nat → Prop) (a w : World) : Prop where
  os : w.os = a.os
  tape : w.tape = a.tape
  output : w.output = a.output
  size : a.heap.size ≤ w.heap.size
  block : ∀ k, K k → w.heap[k]? = a.heap[k]?
section
variable {K : Nat → Prop} {a b c w w' : World}
theorem Kept.refl (K : Nat → Prop) (a : World) : Kept K a a := ⟨rfl, rfl, rfl, Nat.le_refl _, fun _ _ => rfl⟩
theorem Kept.trans (h : Kept K a b) (k : Kept K b c) : Kept K a c :=
  ⟨k.os.trans h.os, k.tape.trans h.tape, k.output.trans h.output, Nat.le_trans h.size k.size, fun i hi => (k.block i hi).trans (h.block i hi)⟩
theorem Kept.drew (h : Kept K a w) : Kept K a w.drew := ⟨h.os, h.tape, h.output, h.size, h.block⟩
theorem Kept.drewN (h : Kept K a w) (n : Nat) : Kept K a (w.drewN n) := ⟨h.os, h.tape, h.output, h.size, h.block⟩
theorem Kept.set (h : Kept K a w) {p : Addr} (hp : ¬ K p.block) (u : Value) : Kept K a (w.setCell p u) :=
  have hb := (Below.refl 0 w).setCell (p := p) (Nat.zero_le _) u
  ⟨hb.os.trans h.os, hb.tape.trans h.tape, hb.output.trans h.output, Nat.le_trans h.size hb.size, fun k hk => (Below.heap_setCell w p u k (fun e => hp (e ▸ hk))).trans (h.block k hk)⟩
theorem Kept.alloc (h : Kept K a w) (hK : ∀ k, K k → k < w.heap.size) (o : Obj) : Kept K a (w.alloc o) :=
  have hb := (Below.refl 0 w).alloc (Nat.zero_le _) o
  ⟨hb.os.trans h.os, hb.tape.trans h.tape, hb.output.trans h.output, Nat.le_trans h.size hb.size, fun k hk => (Below.heap_alloc w o k (hK k hk)).trans (h.block k hk)⟩
theorem Kept.grown (h : Kept K a w) {row : Option Nat} (hg : w.grownBy w' row) (hK : ∀ k, K k → k < w.heap.size) (hr : ∀ k, row = some k → ¬ K k) : Kept K a w' :=
  ⟨hg.os.trans h.os, hg.tape.trans h.tape, hg.output.trans h.output, Nat.le_trans h.size hg.size, fun k hk => (hg.block k (hK k hk) (fun e => hr k e.symm hk)).trans (h.block k hk)⟩
theorem Kept.of_below {B : Nat} (h : Below B a w) (hK : ∀ k, K k → k < B) : Kept K a w := ⟨h.os, h.tape, h.output, h.size, fun k hk => h.block k (hK k hk)⟩
theorem Kept.below {B : Nat} (h : Kept K a w) (hK : ∀ k, k < B → K k) : Below B a w := ⟨h.os, h.tape, h.output, h.size, fun k hk => h.block k (hK k hk)⟩
theorem Kept.lt (h : Kept K a w) (hK : ∀ k, K k → k < a.heap.size) : ∀ k, K k → k < w.heap.size := fun k hk => Nat.lt_of_lt_of_le (hK k hk) h.size
end
theorem own_mono {w : World} {base base' : Nat} {e : TypeId} {s n : Nat} {v : Value} {xs : List Value} (h : w.ownsRow base e s v n xs) (hb : base' ≤ base) : w.ownsRow base' e s v n xs := by
  refine ⟨h.1, ?_⟩
  rcases h.2 with h0 | ⟨g, cap, cur, rfl, hg, rest⟩
  · exact .inl h0
  · exact .inr ⟨g, cap, cur, rfl, Nat.le_trans hb hg, rest⟩
theorem set_list (l : List Value) (i : Nat) (u : Value) : l.toArray.setIfInBounds i u = (l.set i u).toArray := by simp
end Go.Proofs.YtcafklmbehoggaaGreatDoor.Own
