/-
  The contracts of functions of Go's library that the walks call, laid at this seat's program by the kit's tool, in plain words. A record's terms: sorted, each once; the walk of words.Terms. The walks of package toks' Split and Join and of the reference's, with what they call.
-/
import Derived.Test.YtcafklmbehoggaaGreatDoorZBodyNone11
import Derived.Test.YtcafklmbehoggaaGreatDoorZBodyNone1
import Derived.Shelf.Small.Bits
import Derived.Shelf.Strconv.Itoa0
import Derived.Shelf.Sort.Plain
import Derived.Shelf.Bits.Mul64
import Derived.Shelf.Slices.CompactS
import Derived.Shelf.Slices.Cells
import Derived.Shelf.Slices.In.SortNone
import Derived.Test.YtcafklmbehoggaaGreatDoorProg
import Derived.Sort.OwnSorted
import Derived.Sort.Grow
import Derived.Lib.OwnBridge
import Derived.Lib.SlicesCompact
import Derived.WalkKit
import Derived.ProofKit
import Derived.BigQuiet
import Derived.BigGuardPart
import Derived.Deep.QuietTactic
import Derived.Lib.Hide
import Derived.Deep.Light
namespace Go.Proofs
open Go.Shelf
def Tryz.lays125_ren : Go.Shelf.Ren := ⟨fun | 125 => 199 | 128 => 236 | 129 => 237 | n => n, fun | 46 => 173 | 3 => 3 | 51 => 124 | 53 => 62 | 4 => 4 | 5 => 5 | 9 => 9 | n => n, fun | n => n⟩
theorem Tryz.lays125 : Go.Proofs.Lays.n125 Tryz.prog Tryz.lays125_ren := {
  mixed := by kernel_rfl
  f125 := Tryz.func199.trans (congrArg some (by kernel_rfl))
  f128 := Tryz.func236.trans (congrArg some (by kernel_rfl))
  f129 := Tryz.func237.trans (congrArg some (by kernel_rfl))
  t3 := Tryz.underlying3
  a3 := Tryz.isAgg3
  z3 := Tryz.sizeOf3
  v3 := Tryz.zeroValue3
  t4 := Tryz.underlying4
  a4 := Tryz.isAgg4
  z4 := Tryz.sizeOf4
  v4 := Tryz.zeroValue4
  t5 := Tryz.underlying5
  a5 := Tryz.isAgg5
  z5 := Tryz.sizeOf5
  v5 := Tryz.zeroValue5
  t9 := Tryz.underlying9
  a9 := Tryz.isAgg9
  z9 := Tryz.sizeOf9
  v9 := Tryz.zeroValue9
  t46 := Tryz.underlying173
  a46 := Tryz.isAgg173
  z46 := Tryz.sizeOf173
  v46 := Tryz.zeroValue173
  t51 := Tryz.underlying124
  a51 := Tryz.isAgg124
  z51 := Tryz.sizeOf124
  v51 := Tryz.zeroValue124
  t53 := Tryz.underlying62
  a53 := Tryz.isAgg62
  z53 := Tryz.sizeOf62
  v53 := Tryz.zeroValue62 }
theorem Tryz.bits_Len (x : Int) (w : World) (h0 : 0 ≤ x) (h1 : x ≤ 18446744073709551615) :
    Calls Tryz.prog 199 #[.int .u64 x] w fun e w' => e = .returned (.int .i64 (Lib.bitLen x.toNat)) ∧ w' = w := Any.bits_Len Tryz.lays125 x w h0 h1
def Tryz.lays190_ren : Go.Shelf.Ren := ⟨fun | 190 => 151 | 125 => 199 | 258 => 203 | 128 => 236 | 129 => 237 | 302 => 238 | 303 => 239 | 304 => 240 | 305 => 241 | 306 => 242 | 307 => 243 | 308 => 244 | 309 => 245 | 310 => 246 | 333 => 270 | 329 => 271 | 330 => 272 | 334 => 273 | 335 => 274 | 336 => 275 | 344 => 289 | n => n, fun | 31 => 48 | 9 => 9 | 3 => 3 | 46 => 173 | 0 => 0 | 51 => 124 | 53 => 62 | 4 => 4 | 183 => 312 | 182 => 311 | 131 => 36 | 5 => 5 | 218 => 341 | 222 => 344 | 228 => 367 | 229 => 199 | n => n, fun | n => n⟩
theorem Tryz.lays190 : Go.Proofs.Lays.n190 Tryz.prog Tryz.lays190_ren := {
  mixed := by kernel_rfl
  f125 := Tryz.func199.trans (congrArg some (by kernel_rfl))
  f128 := Tryz.func236.trans (congrArg some (by kernel_rfl))
  f129 := Tryz.func237.trans (congrArg some (by kernel_rfl))
  f190 := Tryz.func151.trans (congrArg some (by kernel_rfl))
  f258 := Tryz.func203.trans (congrArg some (by kernel_rfl))
  f302 := Tryz.func238.trans (congrArg some (by kernel_rfl))
  f303 := Tryz.func239.trans (congrArg some (by kernel_rfl))
  f304 := Tryz.func240.trans (congrArg some (by kernel_rfl))
  f305 := Tryz.func241.trans (congrArg some (by kernel_rfl))
  f306 := Tryz.func242.trans (congrArg some (by kernel_rfl))
  f307 := Tryz.func243.trans (congrArg some (by kernel_rfl))
  f308 := Tryz.func244.trans (congrArg some (by kernel_rfl))
  f309 := Tryz.func245.trans (congrArg some (by kernel_rfl))
  f310 := Tryz.func246.trans (congrArg some (by kernel_rfl))
  f329 := Tryz.func271.trans (congrArg some (by kernel_rfl))
  f330 := Tryz.func272.trans (congrArg some (by kernel_rfl))
  f333 := Tryz.func270.trans (congrArg some (by kernel_rfl))
  f334 := Tryz.func273.trans (congrArg some (by kernel_rfl))
  f335 := Tryz.func274.trans (congrArg some (by kernel_rfl))
  f336 := Tryz.func275.trans (congrArg some (by kernel_rfl))
  f344 := Tryz.func289.trans (congrArg some (by kernel_rfl))
  t0 := Tryz.underlying0
  a0 := Tryz.isAgg0
  z0 := Tryz.sizeOf0
  v0 := Tryz.zeroValue0
  t3 := Tryz.underlying3
  a3 := Tryz.isAgg3
  z3 := Tryz.sizeOf3
  v3 := Tryz.zeroValue3
  t4 := Tryz.underlying4
  a4 := Tryz.isAgg4
  z4 := Tryz.sizeOf4
  v4 := Tryz.zeroValue4
  t5 := Tryz.underlying5
  a5 := Tryz.isAgg5
  z5 := Tryz.sizeOf5
  v5 := Tryz.zeroValue5
  t9 := Tryz.underlying9
  a9 := Tryz.isAgg9
  z9 := Tryz.sizeOf9
  v9 := Tryz.zeroValue9
  t31 := Tryz.underlying48
  a31 := Tryz.isAgg48
  z31 := Tryz.sizeOf48
  v31 := Tryz.zeroValue48
  t46 := Tryz.underlying173
  a46 := Tryz.isAgg173
  z46 := Tryz.sizeOf173
  v46 := Tryz.zeroValue173
  t51 := Tryz.underlying124
  a51 := Tryz.isAgg124
  z51 := Tryz.sizeOf124
  v51 := Tryz.zeroValue124
  t53 := Tryz.underlying62
  a53 := Tryz.isAgg62
  z53 := Tryz.sizeOf62
  v53 := Tryz.zeroValue62
  t131 := Tryz.underlying36
  a131 := Tryz.isAgg36
  z131 := Tryz.sizeOf36
  v131 := Tryz.zeroValue36
  t182 := Tryz.underlying311
  a182 := Tryz.isAgg311
  z182 := Tryz.sizeOf311
  v182 := Tryz.zeroValue311
  t183 := Tryz.underlying312
  a183 := Tryz.isAgg312
  z183 := Tryz.sizeOf312
  v183 := Tryz.zeroValue312
  t218 := Tryz.underlying341
  a218 := Tryz.isAgg341
  z218 := Tryz.sizeOf341
  v218 := Tryz.zeroValue341
  t222 := Tryz.underlying344
  a222 := Tryz.isAgg344
  z222 := Tryz.sizeOf344
  v222 := Tryz.zeroValue344
  t228 := Tryz.underlying367
  a228 := Tryz.isAgg367
  z228 := Tryz.sizeOf367
  v228 := Tryz.zeroValue367
  t229 := Tryz.underlying199
  a229 := Tryz.isAgg199
  z229 := Tryz.sizeOf199
  v229 := Tryz.zeroValue199 }
open Go.Sort Go.RowKit in
theorem Tryz.slices_Sort_string (blk off cap : Nat) (ss : List (List UInt8)) (w : World) (hH : Holds encStr w blk off ss.toArray) (hblk : blk < w.heap.size) (hsz : ss.length < 4611686018427387904) :
    Calls Tryz.prog 151 #[.slice (some ⟨blk, off, none⟩) ss.length cap] w fun e w' =>
      e = .returned (.tuple #[]) ∧ ∃ n os, w' = grow (putRow encStr (Sort.ahead w n) blk off (ss.mergeSort fun x y => decide (x ≤ y)).toArray) os := Any.slices_Sort_string Tryz.lays190 blk off cap ss w hH hblk hsz
def Tryz.lays194_ren : Go.Shelf.Ren := ⟨fun | 194 => 152 | n => n, fun | 31 => 48 | 9 => 9 | 3 => 3 | 4 => 4 | 0 => 0 | n => n, fun | n => n⟩
theorem Tryz.lays194 : Go.Proofs.Lays.n194 Tryz.prog Tryz.lays194_ren := {
  mixed := by kernel_rfl
  f194 := Tryz.func152.trans (congrArg some (by kernel_rfl))
  t0 := Tryz.underlying0
  a0 := Tryz.isAgg0
  z0 := Tryz.sizeOf0
  v0 := Tryz.zeroValue0
  t3 := Tryz.underlying3
  a3 := Tryz.isAgg3
  z3 := Tryz.sizeOf3
  v3 := Tryz.zeroValue3
  t4 := Tryz.underlying4
  a4 := Tryz.isAgg4
  z4 := Tryz.sizeOf4
  v4 := Tryz.zeroValue4
  t9 := Tryz.underlying9
  a9 := Tryz.isAgg9
  z9 := Tryz.sizeOf9
  v9 := Tryz.zeroValue9
  t31 := Tryz.underlying48
  a31 := Tryz.isAgg48
  z31 := Tryz.sizeOf48
  v31 := Tryz.zeroValue48 }
open Go.RowKit Go.Lib Go.Sort in
theorem Tryz.slices_Compact_string (blk off cap : Nat) (zs : List (List UInt8)) (w : World) (hH : Holds encStr w blk off zs.toArray) (hsz : zs.length ≤ 9223372036854775807) (hcap : zs.length ≤ cap) :
    Calls Tryz.prog 152 #[.slice (some ⟨blk, off, none⟩) zs.length cap] w fun e w' => e = .returned (.slice (some ⟨blk, off, none⟩) (Lib.compact zs).length cap) ∧ ∃ q, w' = putRow encStr (Sort.ahead w q) blk off (Lib.compact zs ++ List.replicate (zs.length - (Lib.compact zs).length) []).toArray := Any.slices_Compact_string Tryz.lays194 blk off cap zs w hH hsz hcap
open Go.RowKit Go.Lib Go.Sort in
theorem Tryz.slices_Compact_string_empty (a : Option Addr) (cap : Nat) (w : World) :
    Calls Tryz.prog 152 #[.slice a 0 cap] w fun e w' => e = .returned (.slice a 0 cap) ∧ w' = w := Any.slices_Compact_string_empty Tryz.lays194 a cap w
open Go.RowKit Go.Sort in
theorem Tryz.slices_Sort_string_none (p : Option Addr) (cap : Nat) (w : World) :
    Calls Tryz.prog 151 #[.slice p 0 cap] w fun e w' => e = .returned (.tuple #[]) ∧ w' = w := Any.slices_Sort_string_none Tryz.lays190 p cap w
end Go.Proofs
namespace Go.Proofs.YtcafklmbehoggaaGreatDoor.Idx
open Go.RowKit Go.Proofs.YtcafklmbehoggaaGreatDoor.Mem Go.Proofs.YtcafklmbehoggaaGreatDoor.Own Go.Proofs.YtcafklmbehoggaaGreatDoor.Canon Go.Proofs.YtcafklmbehoggaaGreatDoor.Sift Go.Sort
theorem compact_mem {zs : List Str} {u : Str} : u ∈ Lib.compact zs ↔ u ∈ zs := by
  unfold Lib.compact Lib.compactUpTo
  rw [List.mem_map]
  constructor
  · rintro ⟨i, hi, rfl⟩
    have hi := (List.mem_filter.1 hi).1
    rw [List.mem_range] at hi
    rw [getElem!_pos zs.toArray i (by simpa using hi)]
    simp
  · intro hu
    obtain ⟨j, hj, rfl⟩ := List.getElem_of_mem hu
    clear hu
    induction j with
    | zero => exact ⟨0, List.mem_filter.2 ⟨List.mem_range.2 hj, by simp [Lib.keeps]⟩, by rw [getElem!_pos zs.toArray 0 (by simpa using hj)]; simp⟩
    | succ j ih =>
      have e1 : zs.toArray[j + 1]! = zs[j + 1] := by rw [getElem!_pos zs.toArray (j + 1) (by simpa using hj)]; simp
      have e0 : zs.toArray[j]! = zs[j] := by rw [getElem!_pos zs.toArray j (by simp; omega)]; simp
      by_cases h : zs[j + 1] = zs[j]
      · obtain ⟨i, h1, h2⟩ := ih (by omega)
        exact ⟨i, h1, h2.trans h.symm⟩
      · refine ⟨j + 1, List.mem_filter.2 ⟨List.mem_range.2 hj, ?_⟩, e1⟩
        unfold Lib.keeps
        rw [decide_eq_true_eq]
        right
        rw [Nat.add_sub_cancel, e1, e0]
        exact h
theorem compact_rising {zs : List Str} (h : zs.Pairwise (· ≤ ·)) : Rising (Lib.compact zs) := by
  have hp := List.pairwise_iff_getElem.1 h
  unfold Rising Lib.compact Lib.compactUpTo
  rw [List.pairwise_map]
  refine List.Pairwise.imp_of_mem (R := (· < ·)) ?_ (List.Pairwise.filter _ List.pairwise_lt_range)
  intro i j hi hj hij
  obtain ⟨hj1, hj2⟩ := List.mem_filter.1 hj
  rw [List.mem_range] at hj1
  have e0 : zs.toArray[i]! = zs[i] := by rw [getElem!_pos zs.toArray i (by simp; omega)]; simp
  have e1 : zs.toArray[j]! = zs[j] := by rw [getElem!_pos zs.toArray j (by simpa using hj1)]; simp
  have e2 : zs.toArray[j - 1]! = zs[j - 1] := by rw [getElem!_pos zs.toArray (j - 1) (by simp; omega)]; simp
  unfold Lib.keeps at hj2
  rw [decide_eq_true_eq, e1, e2] at hj2
  have hne : zs[j] ≠ zs[j - 1] := hj2.resolve_left (by omega)
  have hle := hp (j - 1) j (by omega) hj1 (by omega)
  have hlt : zs[j - 1] < zs[j] := (slt_tri zs[j - 1] zs[j]).elim id fun k => k.elim (fun k => absurd k.symm hne) (fun k => absurd k hle)
  rw [e0, e1]
  by_cases hi1 : i = j - 1
  · subst hi1; exact hlt
  · have h2 := hp i (j - 1) (by omega) (by omega) (by omega)
    rcases slt_tri zs[i] zs[j - 1] with k | k | k
    · exact slt_trans k hlt
    · rw [k]; exact hlt
    · exact absurd k h2
def sortS (l : List Str) : List Str := l.mergeSort fun x y => decide (x ≤ y)
theorem sortS_le (l : List Str) : (sortS l).Pairwise (· ≤ ·) := by
  have h := List.pairwise_mergeSort (le := fun (x y : Str) => decide (x ≤ y)) (fun a b c h1 h2 => by
    simp only [decide_eq_true_eq] at h1 h2 ⊢
    exact List.le_trans h1 h2) (fun a b => by
    simp only [Bool.or_eq_true, decide_eq_true_eq]
    exact List.le_total a b) l
  exact h.imp fun h => of_decide_eq_true h
theorem sortS_mem {l : List Str} {u : Str} : u ∈ sortS l ↔ u ∈ l := List.mem_mergeSort
theorem sorted_once (l : List Str) : Lib.compact (sortS l) = putAll [] l :=
  rising_ext (compact_rising (sortS_le l)) (putAll_rising l List.Pairwise.nil) fun s => by rw [compact_mem, sortS_mem, putAll_mem]; simp
theorem strL_enc (l : List Str) : l.map encStr = strL l := rfl
theorem sort_own {w : World} {base n c : Nat} {A : Option Addr} {ss : List Str} (h : w.ownsRow base 9 1 (.slice A n c) n (strL ss)) (hn : n ≤ 1000000) :
    Calls Tryz.prog 151 #[.slice A n c] w fun e w' => e = .returned (.tuple #[]) ∧ w'.ownsRow base 9 1 (.slice A n c) n (strL (sortS ss)) ∧ w.grownBy w' (Value.slice A n c).ownBlock := by
  rcases h.2 with ⟨hv, h0⟩ | ⟨g, cap, cur, hv, hbase, hb, h1, h2, h3, h4⟩
  · injection hv with e1 e2 e3
    subst e1 e2 e3
    have hs : ss = [] := by
      have := h.1
      simpa [strL] using this
    subst hs
    refine (Tryz.slices_Sort_string_none none 0 w).mono ?_
    rintro e w' ⟨rfl, rfl⟩
    refine ⟨rfl, ?_, World.grownBy.refl _ _⟩
    rw [show sortS [] = [] by simp [sortS]]
    exact World.ownsRow_nil _ _ _ _
  · injection hv with e1 e2 e3
    subst e1 e3
    obtain ⟨g', cap', hA, hbg, hgl, hncap, hcm, hlen, hH⟩ := Lib.holds_of_ownsRow (enc := encStr) (zs := ss) h (by simp)
    injection hA with hA1 hA2 hA3
    injection hA1 with hA1
    injection hA1 with hA1
    subst hA1 hA3
    have hD := Tryz.slices_Sort_string g 0 c ss w hH hgl (by omega)
    rw [hlen] at hD
    refine hD.mono ?_
    rintro e w' ⟨rfl, nn, os, rfl⟩
    have hl2 : (sortS ss).length = ss.length := List.length_mergeSort ss
    subst hlen
    exact ⟨rfl, ownsRow_sorted (n := nn) (os := os) (ts := sortS ss) hl2 hbase hb h1 h2 h3, grownBy_sorted _⟩
theorem compact_own {w : World} {base n c : Nat} {A : Option Addr} {ss : List Str} (h : w.ownsRow base 9 1 (.slice A n c) n (strL ss)) (hn : n ≤ 1000000) :
    Calls Tryz.prog 152 #[.slice A n c] w fun e w' => e = .returned (.slice A (Lib.compact ss).length c) ∧ w'.ownsRow base 9 1 (.slice A (Lib.compact ss).length c) (Lib.compact ss).length (strL (Lib.compact ss)) ∧ ∀ a, Below base a w → Below base a w' := by
  rcases h.2 with ⟨hv, h0⟩ | ⟨g, cap, cur, hv, hbase, hb, h1, h2, h3, h4⟩
  · injection hv with e1 e2 e3
    subst e1 e2 e3
    have hs : ss = [] := by
      have := h.1
      simpa [strL] using this
    subst hs
    refine (Tryz.slices_Compact_string_empty none 0 w).mono ?_
    rintro e w' ⟨rfl, rfl⟩
    exact ⟨rfl, World.ownsRow_nil _ _ _ _, fun a h => h⟩
  · injection hv with e1 e2 e3
    subst e1 e3
    obtain ⟨g', cap', hA, hbg, hgl, hncap, hcm, hlen, hH⟩ := Lib.holds_of_ownsRow (enc := encStr) (zs := ss) h (by simp)
    injection hA with hA1 hA2 hA3
    injection hA1 with hA1
    injection hA1 with hA1
    subst hA1 hA3
    have hD := Tryz.slices_Compact_string g 0 c ss w hH (by omega) (by omega)
    rw [hlen] at hD
    refine hD.mono ?_
    rintro e w' ⟨rfl, q, rfl⟩
    have hle := Lib.compact_length_le ss
    have hc := Lib.ownsRow_putRow (enc := encStr) (q := q) (k := (Lib.compact ss).length) (ys := Lib.compact ss ++ List.replicate (n - (Lib.compact ss).length) []) h (by simp; omega) (by omega)
    rw [List.take_left] at hc
    exact ⟨rfl, hc, fun a h => Lib.below_putRow h hbase⟩
def TermsPost (ts : List Str) (w : World) (e : Ending) (w' : World) : Prop :=
  ∃ v, e = .returned v ∧ w'.ownsRow w.heap.size 9 1 v ts.length (strL ts) ∧ Below w.heap.size w w'
theorem split_len : ∀ (l row : List UInt8), (split row l).length ≤ row.length + l.length
  | [], row => by rw [split]; have := tell_length row; simpa using this
  | c :: t, row => by
    rw [split]
    split
    · have := split_len t (row ++ [smallB c])
      simp at this ⊢
      omega
    · have h1 := split_len t []
      have h2 := tell_length row
      rw [List.length_append, List.length_cons]
      simp at h1
      omega
theorem words_len (l : List UInt8) : (words l).length ≤ l.length := by have := split_len l []; simpa [words] using this
set_option maxHeartbeats 1000000 in
set_option maxRecDepth 100000 in
theorem sterms_any (w : World) (tm lv : Int) (so tx : ByteArray) (hs : so.size ≤ 50000) (ht : tx.size ≤ 50000) :
    Calls Tryz.prog 90 #[.agg #[.int .u64 tm, .int .u8 lv, .string so, .string tx]] w (TermsPost (terms tx.data.toList so.data.toList) w) := by
  have D1 : Hid (∀ (B : Nat) (a wx : World) (bo : Nat), Below B a wx → B ≤ a.heap.size → Blk wx bo 48 #[.slice none 0 0] → B ≤ bo → Calls Tryz.prog 148 #[.string tx, addT1 bo] wx (TSplitPost idS [] tx B a bo)) := fun B a wx bo hb ha ho hl =>
    tsplit1_any B a wx bo tx [] (.slice none 0 0) (by omega) (by simp) ht hb ha ho (World.ownsRow_nil _ _ _ _) hl
  have D2 : Hid (∀ (B : Nat) (a wx : World) (bo : Nat) (ws0 : List Str) (v0 : Value), ws0.length ≤ 50000 → Below B a wx → B ≤ a.heap.size → Blk wx bo 48 #[v0] → wx.ownsRow B 9 1 v0 ws0.length (strL ws0) → B ≤ bo → Calls Tryz.prog 148 #[.string so, addT2 bo] wx (TSplitPost atS ws0 so B a bo)) := fun B a wx bo ws0 v0 h0 hb ha ho hw hl =>
    tsplit2_any B a wx bo so ws0 v0 (by omega) h0 hs hb ha ho hw hl
  have hT : rowT tx.data.toList so.data.toList = (words tx.data.toList).map idS ++ (words so.data.toList).map atS := by
    unfold rowT
    rw [show (words tx.data.toList).map idS = words tx.data.toList from List.map_id' _]
    rfl
  have hW1 : ((words tx.data.toList).map idS).length ≤ 50000 := by
    have := words_len tx.data.toList
    have h2 := Lib.size_eq tx
    rw [List.length_map]
    omega
  have hW2 : ((words so.data.toList).map atS).length ≤ 50000 := by
    have := words_len so.data.toList
    have h2 := Lib.size_eq so
    rw [List.length_map]
    omega
  have hTE : terms tx.data.toList so.data.toList = Lib.compact (sortS ((words tx.data.toList).map idS ++ (words so.data.toList).map atS)) := by rw [sorted_once, ← hT]; rfl
  unfold TermsPost
  rw [hTE]
  unfold TSplitPost at D1 D2
  clear hT hTE hs ht
  generalize (words tx.data.toList).map idS = W1 at *
  generalize (words so.data.toList).map atS = W2 at *
  unfold addT1 at D1
  unfold addT2 at D2
  obtain ⟨WS, hWS⟩ : ∃ WS, WS = W1 ++ W2 := ⟨_, rfl⟩
  rw [← hWS]
  have HWS := Lib.hid hWS
  clear hWS
  go_enter Tryz.func90, Tryz.ntmps90
  go_wp2_with fail
  have hb0 : Below w.heap.size w (w.alloc (.cells #[.int .u64 tm, .int .u8 lv, .string so, .string tx] 66)) := bel_alloc0 (Below.refl _ _)
  have hbr : Blk (w.alloc (.cells #[.int .u64 tm, .int .u8 lv, .string so, .string tx] 66)) w.heap.size 66 #[.int .u64 tm, .int .u8 lv, .string so, .string tx] := Blk.made _ _ _
  have hza : (w.alloc (.cells #[.int .u64 tm, .int .u8 lv, .string so, .string tx] 66)).heap.size = w.heap.size + 1 := by simp
  generalize w.alloc (.cells #[.int .u64 tm, .int .u8 lv, .string so, .string tx] 66) = wa at *
  have hb1 : Below wa.heap.size wa (wa.alloc (.cells #[.slice none 0 0] 48)) := bel_alloc0 (Below.refl _ _)
  have hbo : Blk (wa.alloc (.cells #[.slice none 0 0] 48)) wa.heap.size 48 #[.slice none 0 0] := Blk.made _ _ _
  rw [← hza]
  have E1 := Lib.hid (D1.out wa.heap.size wa _ wa.heap.size hb1 (Nat.le_refl _) hbo (Nat.le_refl _))
  have HB0 := Lib.hid hb0
  have HBR := Lib.hid hbr
  clear D1 hb1 hbo hb0 hbr hza
  obtain ⟨B, hB⟩ : ∃ B, B = wa.heap.size := ⟨_, rfl⟩
  have hB2 : B ≤ wa.heap.size := by omega
  rw [← hB] at E1 ⊢
  have HWB : Hid (w.heap.size < B) := by show _ < _; rw [hB]; exact HBR.out.lt
  have HBE := Lib.hid hB
  clear hB
  refine E1.out.mono ?_
  rintro e w1 ⟨rfl, hb1, v1, hbo1, hw1⟩
  have HW1 : Hid (w1.ownsRow B 9 1 v1 W1.length (strL W1)) := hw1
  have HBO1 := Lib.hid hbo1
  have HB1 := Lib.hid hb1
  have E2 := Lib.hid (D2.out B wa w1 B W1 v1 hW1 hb1 hB2 hbo1 hw1 (Nat.le_refl _))
  have c2 : w1.cell? ⟨w.heap.size, 2, none⟩ = some (.string so) := (HB1.out.cell (p := ⟨w.heap.size, 2, none⟩) HWB.out).trans (HBR.out.cell 2)
  clear E1 D2 hb1 hbo1 hw1
  go_wp2_with fail
  refine E2.out.mono ?_
  rintro e w2 ⟨rfl, hb2, v2, hbo2, hw2⟩
  obtain ⟨A2, c3, rfl⟩ := own_shape hw2
  have k0 := hbo2.cell 0
  simp only [List.getElem?_toArray, List.getElem?_cons_zero] at k0
  have hwl : (W1 ++ W2).length ≤ 1000000 := by rw [List.length_append]; omega
  rw [← HWS.out] at hwl k0 hbo2 hw2
  have E3 := Lib.hid (sort_own hw2 hwl)
  have HBO2 := Lib.hid hbo2
  have HB2 := Lib.hid hb2
  have HW2 := Lib.hid hw2
  obtain ⟨n, hn⟩ : ∃ n, n = WS.length := ⟨_, rfl⟩
  rw [← hn] at k0 E3 HW2 hwl HBO2
  have HN := Lib.hid hn
  clear E2 c2 hb2 hbo2 hw2 HW1 HBO1 HB1 hn
  go_wp2_with fail
  refine E3.out.mono ?_
  rintro e w3 ⟨rfl, hw3, hg3⟩
  have hbo3 := HBO2.out.grown hg3 (fun e => own_blk HW2.out HBO2.out (by decide) e.symm)
  have k3 := hbo3.cell 0
  simp only [List.getElem?_toArray, List.getElem?_cons_zero] at k3
  have HB3 : Hid (Below B wa w3) := HB2.out.grown hg3 (Nat.le_trans hB2 HB2.out.size) (fun y hy => (World.ownsRow.lt HW2.out y hy).1)
  have E4 := Lib.hid (compact_own hw3 hwl)
  clear E3 hw3 hg3 hbo3 k0 HB2 HW2 HBO2
  go_wp2_with fail
  refine E4.out.mono ?_
  rintro e w4 ⟨rfl, hw4, hb4⟩
  have HB4 : Hid (Below w.heap.size w w4) := HB0.out.trans ((hb4 wa HB3.out).mono (Nat.le_of_lt HWB.out))
  have HW4 := Lib.hid (own_mono hw4 (Nat.le_of_lt HWB.out))
  clear E4 hw4 hb4
  go_wp2_with fail
  go_ret
  exact ⟨_, rfl, HW4.out, HB4.out⟩
end Go.Proofs.YtcafklmbehoggaaGreatDoor.Idx
namespace Go.Proofs.YtcafklmbehoggaaGreatDoor.Toks
open Go.RowKit Go.Proofs.YtcafklmbehoggaaGreatDoor.Mem
theorem lz_may (t : Tk) (w : World) :
    Calls Tryz.prog 262 #[t.val] w fun e w' => e = .returned (.bool (mayB t.lit t.len t.dist)) ∧ Below w.heap.size w w' := by
  obtain ⟨lit, len, dist⟩ := t
  unfold Tk.val
  go_enter Tryz.func262, Tryz.ntmps262
  go_wp2
  all_goals
    go_ret
    refine ⟨ret_bool ?_, (Below.refl _ _).alloc (Nat.le_refl _) _⟩
    go_light
    first | (simp_all [mayB]; done) | (simp_all [mayB]; omega) | (subst_vars; simp_all [mayB]; rw [Bool.eq_iff_iff]; simp)
theorem ret_two {a b c d : Int} (h1 : a = b) (h2 : c = d) : Ending.returned (.tuple #[.int .i64 a, .int .i64 c]) = .returned (.tuple #[.int .i64 b, .int .i64 d]) := by rw [h1, h2]
theorem pw_wrap (b : Int) (h2 : b ≤ 60) : wrap64 (2 ^ b.toNat) = pw b ∧ pw b ≤ 1152921504606846976 := by
  have hm := pw_mono b 60 h2
  rw [show pw 60 = 1152921504606846976 from by decide] at hm
  have hp := pw_pos b
  have e : (2 : Int) ^ b.toNat = pw b := by unfold pw; simp
  rw [e]
  exact ⟨IntWalk.wrap64_in _ ⟨by omega, by omega⟩, hm⟩
theorem bitLen_lg (v : Int) (h : 1 ≤ v) (h2 : v ≤ 4611686018427387903) : ((Lib.bitLen v.toNat : Nat) : Int) = lg v + 1 := by
  unfold lg Lib.bitLen
  have key : ∀ (f n : Nat), 1 ≤ n → n < 2 ^ f → Lib.bitLenAux f n = Nat.log2 n + 1 := by
    intro f
    induction f with
    | zero => intro n h1 h2; simp at h2; omega
    | succ f ih =>
      intro n h1 h2
      rw [Lib.bitLenAux, if_neg (by omega)]
      rw [Nat.log2_def]
      by_cases hn : 2 ≤ n
      · rw [if_pos hn, ih (n / 2) (by omega) (by rw [Nat.pow_succ] at h2; omega)]
        omega
      · have : n = 1 := by omega
        subst this
        simp
        cases f <;> simp [Lib.bitLenAux]
  rw [key 64 v.toNat (by omega) (by omega)]
  omega
theorem bits_len (v : Int) (w : World) (h1 : 1 ≤ v) (h2 : v ≤ 4611686018427387903) :
    Calls Tryz.prog 199 #[.int .u64 v] w fun e w' => e = .returned (.int .i64 (lg v + 1)) ∧ w = w' :=
  (Tryz.bits_Len v w (by omega) (by omega)).mono fun e w' ⟨he, hw⟩ => ⟨by rw [he, bitLen_lg v h1 h2], hw.symm⟩
theorem toks_class (v : Int) (w : World) (h1 : 1 ≤ v) (h2 : v ≤ 1152921504606846975) :
    Calls Tryz.prog 263 #[.int .i64 v] w fun e w' => e = .returned (.tuple #[.int .i64 (lg v), .int .i64 (v - pw (lg v))]) ∧ Below w.heap.size w w' := by
  have hl := lg_nonneg v
  have hl2 : lg v < 60 := lg_lt v 60 (by omega) h1 (by rw [show pw 60 = 1152921504606846976 from by decide]; omega)
  obtain ⟨p1, p2⟩ := pw_wrap (lg v) (by omega)
  have p3 := pw_pos (lg v)
  have HP := Lib.hid p1
  clear p1
  go_enter Tryz.func263, Tryz.ntmps263
  go_wp2_with (go_at_call 199; refine (bits_len _ _ (by omega) (by omega)).mono ?_; rintro e w' ⟨rfl, rfl⟩)
  go_quiet (fail)
  go_wp2
  go_ret2
  refine ⟨?_, below_drewN (Below.refl _ _) _⟩
  refine ret_two rfl ?_
  show wrap64 (v - wrap64 (2 ^ (lg v).toNat)) = _
  rw [HP.out]
  exact IntWalk.wrap64_in _ ⟨by omega, by omega⟩
theorem bcell {W w1 : World} (hb : Below W.heap.size W w1) : (∀ b o, b < W.heap.size → w1.cell? ⟨b, o, none⟩ = W.cell? ⟨b, o, none⟩) ∧ (∀ b o, b < W.heap.size → w1.frozen? ⟨b, o, none⟩ = W.frozen? ⟨b, o, none⟩) :=
  ⟨fun b o h => hb.cell (p := ⟨b, o, none⟩) h, fun b o h => hb.frozen (p := ⟨b, o, none⟩) h⟩
theorem Pc.val_mk (a b c d : Int) : Pc.val ⟨a, b, c, d⟩ = .agg #[.int .i64 a, .int .i64 b, .int .i64 c, .int .i64 d] := rfl
theorem Tk.val_mk (a b c : Int) : Tk.val ⟨a, b, c⟩ = .agg #[.int .u8 a, .int .i64 b, .int .i64 c] := rfl
theorem split_no {t : Tk} (h : mayB t.lit t.len t.dist = false) : splitP t = ⟨0, 0, 0, 0⟩ ∧ splitE t = 7 := by
  unfold splitP splitE; rw [if_neg (by simp [h]), if_neg (by simp [h])]; exact ⟨rfl, rfl⟩
theorem split_lit {t : Tk} (h : mayB t.lit t.len t.dist = true) (hl : t.len = 0) : splitP t = ⟨t.lit, 0, 0, 0⟩ ∧ splitE t = 0 := by
  unfold splitP splitE; rw [if_pos h, if_pos h, if_pos hl]; exact ⟨rfl, rfl⟩
theorem split_match {t : Tk} (h : mayB t.lit t.len t.dist = true) (hl : t.len ≠ 0) :
    splitP t = ⟨257 + lg (t.len - 2), t.len - 2 - pw (lg (t.len - 2)), lg t.dist, t.dist - pw (lg t.dist)⟩ ∧ splitE t = 0 ∧ 3 ≤ t.len ∧ t.len ≤ 257 ∧ 1 ≤ t.dist ∧ t.dist ≤ 4095 := by
  unfold splitP splitE; rw [if_pos h, if_pos h, if_neg hl]
  unfold mayB at h; rw [if_neg hl] at h
  have := of_decide_eq_true h
  exact ⟨rfl, rfl, by omega, by omega, by omega, by omega⟩
theorem toks_split (t : Tk) (w : World) (h0 : 0 ≤ t.lit) (h1 : t.lit ≤ 255) :
    Calls Tryz.prog 229 #[t.val] w fun e w' => e = .returned (.tuple #[(splitP t).val, .int .i64 (splitE t)]) ∧ Below w.heap.size w w' := by
  have hmc := fun w => lz_may t w
  cases hm : mayB t.lit t.len t.dist
  · rw [hm] at hmc
    obtain ⟨hs, he⟩ := split_no hm
    rw [hs, he]
    have HM := Lib.hid hmc
    clear hs he hm hmc
    obtain ⟨lit, len, dist⟩ := t
    rw [Pc.val_mk]
    rw [Tk.val_mk] at *
    go_enter Tryz.func229, Tryz.ntmps229
    go_wp2_with (go_at_call 262; refine (HM.out _).mono ?_; rintro e w' ⟨rfl, hb⟩; obtain ⟨hc, hf⟩ := bcell hb)
    refine bodyPost_ret (v := .tuple #[.agg #[.int .i64 0, .int .i64 0, .int .i64 0, .int .i64 0], .int .i64 7]) (by simp [results, Tryz.results229, go_sem, hc]) rfl ⟨rfl, ?_⟩; (repeat (first | (with_reducible exact Below.refl _ _) | (with_reducible assumption) | (with_reducible refine Below.drew ?_) | (with_reducible refine below_drewN ?_ _) | ((with_reducible refine bel_set ?_ ?_); (focus (first | (simp; done) | (simp; omega) | omega | (simp at *; omega)))) | (with_reducible refine bel_alloc0 ?_) | (with_reducible refine bel_step0 (by assumption) ?_) | ((with_reducible refine bel_alloc ?_ ?_); (focus (first | (simp; done) | (simp; omega) | omega | (simp at *; omega)))) | ((with_reducible refine bel_step (by assumption) ?_ ?_); (focus (first | (simp; done) | (simp; omega) | omega | (simp at *; omega))))))
  · rw [hm] at hmc
    by_cases hl : t.len = 0
    · obtain ⟨hs, he⟩ := split_lit hm hl
      rw [hs, he]
      have HM := Lib.hid hmc
      clear hs he hm hmc
      obtain ⟨lit, len, dist⟩ := t
      simp only at hl h0 h1
      subst hl
      rw [Pc.val_mk]
      rw [Tk.val_mk] at *
      go_enter Tryz.func229, Tryz.ntmps229
      go_wp2_with (go_at_call 262; refine (HM.out _).mono ?_; rintro e w' ⟨rfl, hb⟩; obtain ⟨hc, hf⟩ := bcell hb)
      refine bodyPost_ret (v := .tuple #[.agg #[.int .i64 lit, .int .i64 0, .int .i64 0, .int .i64 0], .int .i64 0]) (by simp [results, Tryz.results229, go_sem, hc]) rfl ⟨rfl, ?_⟩; (repeat (first | (with_reducible exact Below.refl _ _) | (with_reducible assumption) | (with_reducible refine Below.drew ?_) | (with_reducible refine below_drewN ?_ _) | ((with_reducible refine bel_set ?_ ?_); (focus (first | (simp; done) | (simp; omega) | omega | (simp at *; omega)))) | (with_reducible refine bel_alloc0 ?_) | (with_reducible refine bel_step0 (by assumption) ?_) | ((with_reducible refine bel_alloc ?_ ?_); (focus (first | (simp; done) | (simp; omega) | omega | (simp at *; omega)))) | ((with_reducible refine bel_step (by assumption) ?_ ?_); (focus (first | (simp; done) | (simp; omega) | omega | (simp at *; omega))))))
    · obtain ⟨hs, he, a1, a2, a3, a4⟩ := split_match hm hl
      rw [hs, he]
      have HM := Lib.hid hmc
      clear hs he hm hmc
      have c1 := fun w => toks_class (t.len - 2) w (by omega) (by omega)
      have c2 := fun w => toks_class t.dist w (by omega) (by omega)
      obtain ⟨lit, len, dist⟩ := t
      simp only at hl h0 h1 a1 a2 a3 a4 c1 c2
      obtain ⟨x1, hx1⟩ : ∃ x, x = lg (len - 2) := ⟨_, rfl⟩
      have b1 : 0 ≤ x1 := by rw [hx1]; exact lg_nonneg _
      have b2 : x1 < 8 := by rw [hx1]; exact lg_lt _ 8 (by omega) (by omega) (by rw [pw_8]; omega)
      simp only [← hx1] at c1 ⊢
      obtain ⟨x2, hx2⟩ : ∃ x, x = len - 2 - pw x1 := ⟨_, rfl⟩
      obtain ⟨y1, hy1⟩ : ∃ x, x = lg dist := ⟨_, rfl⟩
      simp only [← hx2, ← hy1] at c1 c2 ⊢
      obtain ⟨y2, hy2⟩ : ∃ x, x = dist - pw y1 := ⟨_, rfl⟩
      simp only [← hy2] at c2 ⊢
      have C1 := Lib.hid c1
      have C2 := Lib.hid c2
      clear c1 c2 hx1 hx2 hy1 hy2
      rw [Pc.val_mk]
      rw [Tk.val_mk] at *
      go_enter Tryz.func229, Tryz.ntmps229
      go_wp2_with (go_at_call 262; refine (HM.out _).mono ?_; rintro e w' ⟨rfl, hb⟩; obtain ⟨hc, hf⟩ := bcell hb; have hz : w.heap.size + 1 < w'.heap.size := (by have := hb.size; simp at this; omega); have hy : w.heap.size < w'.heap.size := (by omega))
      refine (C1.out _).mono ?_
      rintro e w2 ⟨rfl, hb2⟩
      obtain ⟨hc2, hf2⟩ := bcell hb2
      have hz2 : w.heap.size + 1 < w2.heap.size := by have := hb2.size; omega
      have hy2 : w.heap.size < w2.heap.size := by omega
      go_wp2_with fail
      refine (C2.out _).mono ?_
      rintro e w3 ⟨rfl, hb3⟩
      obtain ⟨hc3, hf3⟩ := bcell hb3
      go_wp2
      refine bodyPost_ret (v := .tuple #[.agg #[.int .i64 (257 + x1), .int .i64 x2, .int .i64 y1, .int .i64 y2], .int .i64 0]) (by simp [results, Tryz.results229, go_sem, hc, hc2, hc3, hz, hz2]) rfl ⟨rfl, ?_⟩; (repeat (first | (with_reducible exact Below.refl _ _) | (with_reducible assumption) | (with_reducible refine Below.drew ?_) | (with_reducible refine below_drewN ?_ _) | ((with_reducible refine bel_set ?_ ?_); (focus (first | (simp; done) | (simp; omega) | omega | (simp at *; omega)))) | (with_reducible refine bel_alloc0 ?_) | (with_reducible refine bel_step0 (by assumption) ?_) | ((with_reducible refine bel_alloc ?_ ?_); (focus (first | (simp; done) | (simp; omega) | omega | (simp at *; omega)))) | ((with_reducible refine bel_step (by assumption) ?_ ?_); (focus (first | (simp; done) | (simp; omega) | omega | (simp at *; omega))))))
end Go.Proofs.YtcafklmbehoggaaGreatDoor.Toks
