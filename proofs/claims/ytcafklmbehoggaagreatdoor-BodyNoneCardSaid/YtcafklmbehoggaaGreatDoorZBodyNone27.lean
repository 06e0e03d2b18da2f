/-
  The contracts of maps.Keys and slices.Sorted that the walks call, laid at this seat's program by the kit's tool, in plain words. The map of the lists under way: what each text's list is; its step; its keys, sorted. No walk.
-/
import Derived.Test.YtcafklmbehoggaaGreatDoorZBodyNone13
import Derived.Shelf.SlIter.Nil
import Derived.Shelf.SortM.Plain
import Derived.Shelf.SortM.SortNone
import Derived.Ground.GgzProg
import Derived.Ground.SlgmProg
import Derived.Test.YtcafklmbehoggaaGreatDoorProg
import Derived.Maps.OwnSet
import Derived.Sort.KeysCollected
namespace Go.Proofs
open Go.Shelf
def Tryz.keys92_ren : Go.Shelf.Ren := ⟨fun | 7 => 92 | 10 => 154 | n => n, fun | 23 => 129 | 26 => 9 | 3 => 42 | 28 => 133 | 0 => 0 | 27 => 132 | 33 => 196 | 4 => 4 | n => n, fun | n => n⟩
theorem Tryz.keys92 : Go.Proofs.SlLaysZ.n7 Tryz.prog Tryz.keys92_ren := {
  mixed := by kernel_rfl
  f7 := ⟨Tryz.f92.name, by decide, Tryz.func92.trans (congrArg some (by kernel_rfl))⟩
  f10 := ⟨Tryz.f154.name, by decide, Tryz.func154.trans (congrArg some (by kernel_rfl))⟩
  t0 := Tryz.underlying0
  a0 := Tryz.isAgg0
  z0 := Tryz.sizeOf0
  v0 := Tryz.zeroValue0
  t4 := Tryz.underlying4
  a4 := Tryz.isAgg4
  z4 := Tryz.sizeOf4
  v4 := Tryz.zeroValue4
  t23 := Tryz.underlying129
  a23 := Tryz.isAgg129
  z23 := Tryz.sizeOf129
  v23 := Tryz.zeroValue129
  t26 := Tryz.underlying9
  a26 := Tryz.isAgg9
  z26 := Tryz.sizeOf9
  v26 := Tryz.zeroValue9
  t27 := Tryz.underlying132
  a27 := Tryz.isAgg132
  z27 := Tryz.sizeOf132
  v27 := Tryz.zeroValue132
  t28 := Tryz.underlying133
  a28 := Tryz.isAgg133
  z28 := Tryz.sizeOf133
  v28 := Tryz.zeroValue133
  t33 := Tryz.underlying196
  a33 := Tryz.isAgg196
  z33 := Tryz.sizeOf196
  v33 := Tryz.zeroValue196 }
def Tryz.sorted91_ren : Go.Shelf.Ren := ⟨fun | 6 => 91 | 8 => 153 | 9 => 151 | 11 => 204 | 13 => 199 | 12 => 203 | 23 => 236 | 24 => 237 | 14 => 238 | 15 => 239 | 16 => 240 | 17 => 241 | 18 => 242 | 19 => 243 | 20 => 244 | 21 => 245 | 22 => 246 | 25 => 270 | 26 => 271 | 27 => 272 | 28 => 273 | 29 => 274 | 30 => 275 | 31 => 289 | n => n, fun | 26 => 9 | 28 => 133 | 24 => 48 | 0 => 0 | 3 => 3 | 37 => 173 | 48 => 124 | 50 => 62 | 4 => 4 | 40 => 312 | 39 => 311 | 45 => 36 | 5 => 5 | 9 => 9 | 51 => 341 | 55 => 344 | 57 => 367 | 58 => 199 | 33 => 196 | n => n, fun | n => n⟩
theorem Tryz.sorted91 : Go.Proofs.SlLaysZ.n6 Tryz.prog Tryz.sorted91_ren := {
  mixed := by kernel_rfl
  f6 := ⟨Tryz.f91.name, by decide, Tryz.func91.trans (congrArg some (by kernel_rfl))⟩
  f8 := ⟨Tryz.f153.name, by decide, Tryz.func153.trans (congrArg some (by kernel_rfl))⟩
  f11 := ⟨Tryz.f204.name, by decide, Tryz.func204.trans (congrArg some (by kernel_rfl))⟩
  t0 := Tryz.underlying0
  a0 := Tryz.isAgg0
  z0 := Tryz.sizeOf0
  v0 := Tryz.zeroValue0
  t24 := Tryz.underlying48
  a24 := Tryz.isAgg48
  z24 := Tryz.sizeOf48
  v24 := Tryz.zeroValue48
  t26 := Tryz.underlying9
  a26 := Tryz.isAgg9
  z26 := Tryz.sizeOf9
  v26 := Tryz.zeroValue9
  t28 := Tryz.underlying133
  a28 := Tryz.isAgg133
  z28 := Tryz.sizeOf133
  v28 := Tryz.zeroValue133
  i26 := by kernel_rfl }
def Tryz.sort151_ren : Go.Shelf.Ren := ⟨fun | 6 => 151 | 8 => 199 | 9 => 203 | 19 => 236 | 20 => 237 | 21 => 238 | 22 => 239 | 23 => 240 | 24 => 241 | 25 => 242 | 26 => 243 | 27 => 244 | 28 => 245 | 29 => 246 | 36 => 270 | 31 => 271 | 32 => 272 | 37 => 273 | 38 => 274 | 39 => 275 | 41 => 289 | n => n, fun | 27 => 48 | 29 => 9 | 3 => 3 | 32 => 173 | 26 => 48 | 0 => 0 | 44 => 124 | 46 => 62 | 4 => 4 | 36 => 312 | 35 => 311 | 41 => 36 | 5 => 5 | 9 => 9 | 53 => 341 | 57 => 344 | 63 => 367 | 64 => 199 | n => n, fun | n => n⟩
theorem Tryz.sort151 : Go.Proofs.SlLaysM.n6 Tryz.prog Tryz.sort151_ren := {
  mixed := by kernel_rfl
  f6 := ⟨Tryz.f151.name, by decide, Tryz.func151.trans (congrArg some (by kernel_rfl))⟩
  f8 := Tryz.func199.trans (congrArg some (by kernel_rfl))
  f9 := ⟨Tryz.f203.name, by decide, Tryz.func203.trans (congrArg some (by kernel_rfl))⟩
  f19 := Tryz.func236.trans (congrArg some (by kernel_rfl))
  f20 := Tryz.func237.trans (congrArg some (by kernel_rfl))
  f21 := ⟨Tryz.f238.name, by decide, Tryz.func238.trans (congrArg some (by kernel_rfl))⟩
  f22 := ⟨Tryz.f239.name, by decide, Tryz.func239.trans (congrArg some (by kernel_rfl))⟩
  f23 := ⟨Tryz.f240.name, by decide, Tryz.func240.trans (congrArg some (by kernel_rfl))⟩
  f24 := ⟨Tryz.f241.name, by decide, Tryz.func241.trans (congrArg some (by kernel_rfl))⟩
  f25 := ⟨Tryz.f242.name, by decide, Tryz.func242.trans (congrArg some (by kernel_rfl))⟩
  f26 := ⟨Tryz.f243.name, by decide, Tryz.func243.trans (congrArg some (by kernel_rfl))⟩
  f27 := ⟨Tryz.f244.name, by decide, Tryz.func244.trans (congrArg some (by kernel_rfl))⟩
  f28 := ⟨Tryz.f245.name, by decide, Tryz.func245.trans (congrArg some (by kernel_rfl))⟩
  f29 := ⟨Tryz.f246.name, by decide, Tryz.func246.trans (congrArg some (by kernel_rfl))⟩
  f31 := Tryz.func271.trans (congrArg some (by kernel_rfl))
  f32 := Tryz.func272.trans (congrArg some (by kernel_rfl))
  f36 := ⟨Tryz.f270.name, by decide, Tryz.func270.trans (congrArg some (by kernel_rfl))⟩
  f37 := ⟨Tryz.f273.name, by decide, Tryz.func273.trans (congrArg some (by kernel_rfl))⟩
  f38 := ⟨Tryz.f274.name, by decide, Tryz.func274.trans (congrArg some (by kernel_rfl))⟩
  f39 := ⟨Tryz.f275.name, by decide, Tryz.func275.trans (congrArg some (by kernel_rfl))⟩
  f41 := ⟨Tryz.f289.name, by decide, Tryz.func289.trans (congrArg some (by kernel_rfl))⟩
  t0 := Tryz.underlying0
  a0 := Tryz.isAgg0
  z0 := Tryz.sizeOf0
  v0 := Tryz.zeroValue0
  t3 := Tryz.underlying3
  a3 := Tryz.isAgg3
  z3 := Tryz.sizeOf3
  v3 := Tryz.zeroValue3
  t4 := Tryz.underlying4
  a4 := Tryz.isAgg4
  z4 := Tryz.sizeOf4
  v4 := Tryz.zeroValue4
  t5 := Tryz.underlying5
  a5 := Tryz.isAgg5
  z5 := Tryz.sizeOf5
  v5 := Tryz.zeroValue5
  t9 := Tryz.underlying9
  a9 := Tryz.isAgg9
  z9 := Tryz.sizeOf9
  v9 := Tryz.zeroValue9
  t26 := Tryz.underlying48
  a26 := Tryz.isAgg48
  z26 := Tryz.sizeOf48
  v26 := Tryz.zeroValue48
  t27 := Tryz.underlying48
  a27 := Tryz.isAgg48
  z27 := Tryz.sizeOf48
  v27 := Tryz.zeroValue48
  t29 := Tryz.underlying9
  a29 := Tryz.isAgg9
  z29 := Tryz.sizeOf9
  v29 := Tryz.zeroValue9
  t32 := Tryz.underlying173
  a32 := Tryz.isAgg173
  z32 := Tryz.sizeOf173
  v32 := Tryz.zeroValue173
  t35 := Tryz.underlying311
  a35 := Tryz.isAgg311
  z35 := Tryz.sizeOf311
  v35 := Tryz.zeroValue311
  t36 := Tryz.underlying312
  a36 := Tryz.isAgg312
  z36 := Tryz.sizeOf312
  v36 := Tryz.zeroValue312
  t41 := Tryz.underlying36
  a41 := Tryz.isAgg36
  z41 := Tryz.sizeOf36
  v41 := Tryz.zeroValue36
  t44 := Tryz.underlying124
  a44 := Tryz.isAgg124
  z44 := Tryz.sizeOf124
  v44 := Tryz.zeroValue124
  t46 := Tryz.underlying62
  a46 := Tryz.isAgg62
  z46 := Tryz.sizeOf62
  v46 := Tryz.zeroValue62
  t53 := Tryz.underlying341
  a53 := Tryz.isAgg341
  z53 := Tryz.sizeOf341
  v53 := Tryz.zeroValue341
  t57 := Tryz.underlying344
  a57 := Tryz.isAgg344
  z57 := Tryz.sizeOf344
  v57 := Tryz.zeroValue344
  t63 := Tryz.underlying367
  a63 := Tryz.isAgg367
  z63 := Tryz.sizeOf367
  v63 := Tryz.zeroValue367
  t64 := Tryz.underlying199
  a64 := Tryz.isAgg199
  z64 := Tryz.sizeOf199
  v64 := Tryz.zeroValue199 }
open Go.RowKit Go.Maps Go.Sort Go.Shelf
theorem Tryz.sorts91 (m : Nat) : AnyZ.SortsIn Tryz.prog Tryz.sorted91_ren Fence.wide m :=
  ⟨fun blk off cap ss W hH hblk hsz => callsIn_wide.2 (AnyM.slices_Sort_string Tryz.sort151 blk off cap ss W hH hblk hsz),
   fun p cap W => callsIn_wide.2 (AnyM.slices_Sort_string_none Tryz.sort151 p cap W)⟩
theorem Tryz.maps_Keys_92 (mb : Option Nat) (W : World) : CallsIn Fence.wide 5 Tryz.prog 92 #[.map mb] W fun e w' => e = .returned (.func (.func 154) #[] #[.pointer (some ⟨W.heap.size, 0, none⟩)]) ∧ w' = W.alloc (.cells #[.map mb] 129) :=
  AnyZ.keys_in Tryz.keys92 Fence.wide 5 trivial rfl mb W
set_option maxHeartbeats 1000000 in
theorem Tryz.slices_Sorted_keys_91_92 {H : Type} (b nn : Nat) (D0 : DataW H) (R : Value → Option (DataW H × List MemPlace)) (w : World) (hown : w.ownsMap Tryz.prog 9 R b nn D0) (hmax : Maps.size D0 ≤ maxLen) (hbytes : Maps.size D0 * 16 ≤ 140737488355328) :
    CallsIn Fence.wide 5 Tryz.prog 91 #[.func (.func 154) #[] #[.pointer (some ⟨w.heap.size, 0, none⟩)]] (w.alloc (.cells #[.map (some b)] 129)) fun e w' => ∃ (v : Value) (ss : List (List UInt8)), e = .returned v ∧ ss.Perm (strKeys D0) ∧
      w'.ownsRow (w.alloc (.cells #[.map (some b)] 129)).heap.size 9 1 v ss.length ((ss.mergeSort (fun x y => decide (x ≤ y))).map encStr) ∧ (v = .slice none 0 0 ↔ ss = []) ∧ Below (w.alloc (.cells #[.map (some b)] 129)).heap.size (w.alloc (.cells #[.map (some b)] 129)) w' := by
  have hbl := hown.lt
  have hseq : SeqGives Fence.wide 2 Tryz.prog 154 #[.pointer (some ⟨w.heap.size, 0, none⟩)] encStr (fun ss => ss.Perm (strKeys D0)) (Maps.size D0) (w.alloc (.cells #[.map (some b)] 129)) :=
    AnyZ.keys_gives (ρ := Tryz.keys92_ren) { Tryz.keys92 with } Fence.wide _ trivial rfl (by omega) w.heap.size b nn D0 _ (by simp) (by simp) (by
      obtain ⟨es, clock, hb, Ft, hs, hD⟩ := hown
      exact ⟨es, clock, (Below.heap_alloc _ _ b hbl).trans hb, Ft, hs, hD⟩)
  exact AnyZ.sorted_in Tryz.sorted91 Fence.wide 5 trivial trivial trivial trivial rfl (by omega) (Tryz.sorts91 _) (enters_of Tryz.func151 (by kernel_rfl) rfl) 154 #[.pointer (some ⟨w.heap.size, 0, none⟩)] trivial (enters_of Tryz.func154 (by kernel_rfl) rfl) _ _ hmax hbytes _ hseq
end Go.Proofs
namespace Go.Proofs.YtcafklmbehoggaaGreatDoor.Idx
open Go.RowKit Go.Maps Go.Proofs.YtcafklmbehoggaaGreatDoor.Mem Go.Proofs.YtcafklmbehoggaaGreatDoor.Own Go.Proofs.YtcafklmbehoggaaGreatDoor.Canon Go.Proofs.YtcafklmbehoggaaGreatDoor.Sift
def heldR (v : Value) : Option (DataW Value × List MemPlace) := some (.held v, [])
def zeroS : DataW Value := .held (.slice none 0 0)
theorem keyStr (s : Str) (hs : s.length ≤ maxLen) : keyOf Tryz.prog 9 (.string (bs s)) = some (.string s) := by
  have h : (⟨s.toArray⟩ : ByteArray).size ≤ maxLen := by have := bs_size s; unfold bs at this; omega
  simp [keyOf, mapKey, Tryz.underlying9, h, bs]
theorem keyStr_lit (s : Str) (hs : s.length ≤ maxLen) : WideAt.IsKeyLit (.string s) := (string_keyed Tryz.underlying9).key (keyStr s hs)
structure MI (w : World) (mb m base : Nat) (D : DataW Value) (I : Str → List Nat) (V : Str → Value) : Prop where
  map : w.ownsMap Tryz.prog 9 heldR mb m D
  isMap : IsMap D
  has : ∀ s, Maps.has D (.string s) = decide (I s ≠ [])
  at_ : ∀ s, D.atKey (.string s) zeroS = .held (V s)
  row : ∀ s, w.ownsRow base 3 1 (V s) (I s).length (numL .i64 (I s))
  apart : ∀ s s' g, s ≠ s' → (V s).ownBlock = some g → (V s').ownBlock ≠ some g
  long : ∀ s, I s ≠ [] → s.length ≤ 25
theorem MI.start (w : World) (base : Nat) : MI (w.alloc (.map #[] 0)) w.heap.size 0 base (.map []) (fun _ => []) (fun _ => .slice none 0 0) :=
  ⟨World.ownsMap_made _ _ _ _, isMap_empty, fun s => rfl, fun s => rfl, fun s => World.ownsRow_nil _ _ _ _, (fun s s' g _ h => by cases h), fun s h => absurd rfl h⟩
section
variable {w w' : World} {mb m base : Nat} {D : DataW Value} {I : Str → List Nat} {V : Str → Value}
theorem MI.kept (h : MI w mb m base D I V) (hm : w'.heap[mb]? = w.heap[mb]?) (hr : ∀ s b, (V s).ownBlock = some b → w'.heap[b]? = w.heap[b]?) : MI w' mb m base D I V :=
  ⟨(by obtain ⟨es, clock, h1, h2, h3, h4⟩ := h.map; exact ⟨es, clock, hm.trans h1, h2, h3, h4⟩), h.isMap, h.has, h.at_, fun s => own_kept (h.row s) (hr s), h.apart, h.long⟩
theorem MI.step (h : MI w mb m base D I V) (hb : Below w.heap.size w w') : MI w' mb m base D I V :=
  h.kept (hb.block _ h.map.lt) fun s b hs => hb.block _ (World.ownsRow.lt (h.row s) b hs).2
theorem MI.look (h : MI w mb m base D I V) (s : Str) (hs : s.length ≤ maxLen) : (Instr.lookup 129 (.map (some mb)) (.string (bs s)) false).run Tryz.prog w = .ok (V s) w := by
  obtain ⟨v, ps, h1, h2⟩ := h.map.lookup (string_keyed Tryz.underlying9) Tryz.underlying129 (z := .slice none 0 0) (Tryz.zeroValue42 w) (zd := zeroS) (zp := []) rfl (keyStr s hs)
  rw [h.at_ s] at h2
  simp only [heldR, Option.some.injEq, Prod.mk.injEq, DataW.held.injEq] at h2
  rw [h1, h2.1]
theorem map_ne {g : Nat} {base' n' s' : Nat} {e : TypeId} {v : Value} {xs : List Value} (h : MI w mb m base D I V) (ho : w.ownsRow base' e s' v n' xs) (hg : v.ownBlock = some g) : g ≠ mb := by
  obtain ⟨es, clock, h1, _⟩ := h.map
  rcases ho.2 with ⟨hv, _⟩ | ⟨g', cap, cur, hv, _, h2, _⟩
  · rw [hv] at hg; cases hg
  · rw [hv] at hg
    have hgg : g' = g := by simpa [Value.ownBlock] using hg
    rw [← hgg]
    intro e
    rw [e, h1] at h2
    cases h2
end
theorem MI.put {w w2 w4 w5 : World} {mb m base i : Nat} {D : DataW Value} {I : Str → List Nat} {V : Str → Value} {t : Str} {v4 : Value} (h : MI w mb m base D I V) (ht : t.length ≤ 25)
    (hb2 : Below w.heap.size w w2) (hg : w2.grownBy w4 (V t).ownBlock) (hown : w4.ownsRow base 3 1 v4 ((I t).length + 1) (numL .i64 (I t) ++ [.int .i64 (i : Nat)]))
    (hat : v4.ownBlock = (V t).ownBlock ∨ ∃ x, v4.ownBlock = some x ∧ w2.heap.size ≤ x)
    (hm5 : w5.ownsMap Tryz.prog 9 heldR mb (m + 1) (D.put (.string t) (.held v4))) (hg5 : w4.grownBy w5 (some mb)) :
    MI w5 mb (m + 1) base (D.put (.string t) (.held v4)) (fun s => if s = t then I s ++ [i] else I s) (fun s => if s = t then v4 else V s) := by
  have hk := keyStr_lit t (by unfold maxLen; omega)
  have hblk : ∀ s b, s ≠ t → (V s).ownBlock = some b → w4.heap[b]? = w.heap[b]? ∧ b ≠ mb ∧ b < w2.heap.size := fun s b hs hv => by
    have hl := (World.ownsRow.lt (h.row s) b hv).2
    have hl2 : b < w2.heap.size := Nat.lt_of_lt_of_le hl hb2.size
    exact ⟨(hg.block b hl2 (fun e => h.apart s t b hs hv e.symm)).trans (hb2.block b hl), map_ne h (h.row s) hv, hl2⟩
  refine ⟨hm5, h.isMap.put _ _, fun s => ?_, fun s => ?_, fun s => ?_, fun s s' g hne => ?_, fun s => ?_⟩
  · by_cases hs : s = t
    · subst hs
      rw [has_put_same h.isMap hk, if_pos rfl]
      simp
    · rw [has_put_other (by intro e; injection e with e; exact hs e), h.has, if_neg hs]
  · by_cases hs : s = t
    · subst hs
      rw [if_pos rfl]
      exact atKey_put_same h.isMap hk _ _
    · rw [atKey_put_other (by intro e; injection e with e; exact hs e), h.at_, if_neg hs]
  · by_cases hs : s = t
    · subst hs
      simp only [if_true]
      rw [List.length_append, show numL .i64 (I s ++ [i]) = numL .i64 (I s) ++ [.int .i64 (i : Nat)] by simp [numL]]
      refine own_kept hown fun b hb => hg5.block b (World.ownsRow.lt hown b hb).2 fun e => ?_
      have hmb : w4.heap[mb]? = w.heap[mb]? := by
        have hl := h.map.lt
        refine (hg.block mb (Nat.lt_of_lt_of_le hl hb2.size) fun e => ?_).trans (hb2.block mb hl)
        exact map_ne h (h.row s) e.symm rfl
      injection e with e
      subst e
      obtain ⟨es, clock, h1, _⟩ := h.map
      rcases hown.2 with ⟨hv, _⟩ | ⟨g', cap, cur, hv, _, h2, _⟩
      · rw [hv] at hb; cases hb
      · rw [hv] at hb
        have hgg : g' = b := by simpa [Value.ownBlock] using hb
        rw [hgg, hmb, h1] at h2
        cases h2
    · simp only [if_neg hs]
      refine own_kept (h.row s) fun b hb => ?_
      obtain ⟨h1, h2, h3⟩ := hblk s b hs hb
      exact (hg5.block b (Nat.lt_of_lt_of_le h3 hg.size) (fun e => h2 (Option.some.inj e))).trans h1
  · by_cases hs : s = t
    · subst hs
      simp only [if_true, if_neg (fun e : s' = s => hne e.symm)]
      intro hv hv'
      rcases hat with e | ⟨x, hx, hxl⟩
      · rw [e] at hv
        exact h.apart s s' g hne hv hv'
      · rw [hx] at hv
        injection hv with hv
        have := (World.ownsRow.lt (h.row s') g hv').2
        have := hb2.size
        omega
    · simp only [if_neg hs]
      by_cases hs' : s' = t
      · subst hs'
        simp only [if_true]
        intro hv hv'
        rcases hat with e | ⟨x, hx, hxl⟩
        · rw [e] at hv'
          exact h.apart s s' g hne hv hv'
        · rw [hx] at hv'
          injection hv' with hv'
          have := (World.ownsRow.lt (h.row s) g hv).2
          have := hb2.size
          omega
      · simp only [if_neg hs']
        exact h.apart s s' g hne
  · by_cases hs : s = t
    · subst hs; exact fun _ => ht
    · simp only [if_neg hs]; exact h.long s
theorem MI.keys {w : World} {mb m base : Nat} {D : DataW Value} {I : Str → List Nat} {V : Str → Value} (h : MI w mb m base D I V) {ss ts : List Str} (hp : ss.Perm (strKeys D)) (hr : Rising ts) (hm : ∀ s, s ∈ ts ↔ I s ≠ []) : sortS ss = ts := by
  have hnd : ts.Nodup := List.Pairwise.imp (fun {a b} (hab : a < b) => (fun e : a = b => slt_irrefl a (by rw [← e] at hab; exact hab))) hr
  have hc : Collected D (fun _ => false) ts := ⟨hnd, fun s => by rw [hm, h.has]; simp⟩
  have hpt := hc.perm h.map (string_keyed Tryz.underlying9) Tryz.underlying9 (fun _ => rfl)
  have hst : ss.Perm ts := hp.trans hpt.symm
  have hnd2 : (sortS ss).Nodup := (((List.mergeSort_perm ss _).trans hst).nodup_iff).2 hnd
  exact rising_ext (of_sorted (sortS_le ss) (List.Sublist.refl _) hnd2) hr fun s => by rw [sortS_mem]; exact hst.mem_iff
end Go.Proofs.YtcafklmbehoggaaGreatDoor.Idx
