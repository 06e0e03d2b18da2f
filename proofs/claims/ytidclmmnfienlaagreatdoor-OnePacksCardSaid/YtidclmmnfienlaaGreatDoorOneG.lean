/-
  Small steps of an archive of version 1: its mark, its flag; the plain form of its bytes.
  The walk of one.Pack.
  The reference's frames of a log: firkinref21.Frames.
  The reference's archive of version 1: firkinref21.Join and Pack.
  Archives of version 1, packed: all ways of one.Pack and of the reference's Pack; the example; the walk of the law OnePacks.
-/
import Derived.Test.YtidclmmnfienlaaGreatDoorRecsG
import Derived.Test.YtidclmmnfienlaaGreatDoorBlockW
import Derived.Lib.SmallJoins
import Derived.Test.YtidclmmnfienlaaGreatDoorCrcAll
import Derived.Deep.DeepCutAuto
import Derived.Test.YtidclmmnfienlaaGreatDoorRefFW
import Derived.Test.YtidclmmnfienlaaGreatDoorRefSame

namespace Go.Proofs.YtidclmmnfienlaaGreatDoor.One
open Go.RowKit Go.Proofs.YtidclmmnfienlaaGreatDoor.Mem Go.Proofs.YtidclmmnfienlaaGreatDoor.Own Go.Proofs.YtidclmmnfienlaaGreatDoor.Canon Go.Proofs.YtidclmmnfienlaaGreatDoor.NumPut Go.Proofs.YtidclmmnfienlaaGreatDoor.Crc
open Go.Proofs.YtidclmmnfienlaaGreatDoor.Recs Go.Proofs.YtidclmmnfienlaaGreatDoor.Opts
open Go.Proofs.YtidclmmnfienlaaGreatDoor.Block (frameB WPost part_own write_any)

def markB (v : Nat) : List Nat := [70, 73, 82, 75, v]
def flagN (b : Bool) : Nat := if b = true then 1 else 0
def headO (o : Opt) (n g : Nat) : List Nat := markB 1 ++ (numB o.block.toNat ++ ([flagN o.plain] ++ (numB n ++ (numB g ++ []))))
/-- The blocks' frames. -/
def framesP (pl : Bool) : List Nat → List Rec → List (List Nat)
  | [], _ => []
  | c :: t, l => frameB (bytesB true (l.take c)) pl :: framesP pl t (l.drop c)
def countsO (o : Opt) (l : List Rec) : List Nat := groupsP o.block.toNat (lensB true l)
def bodyO (o : Opt) (l : List Rec) : List Nat := headO o l.length (countsO o l).length ++ (framesP o.plain (countsO o l) l).flatten
def packB (o : Opt) (l : List Rec) : List Nat := bodyO o l ++ tailN (sumN (bodyO o l))

/-! ### Groups take all records -/
theorem goG_sum (S : Nat) : ∀ (t : List Nat) (h c : Nat), (goG S h c t).sum = c + t.length
  | [], _, c => by simp [goG]
  | x :: t, h, c => by
    rw [goG]
    split
    · rw [List.sum_cons, goG_sum S t]; simp; omega
    · rw [goG_sum S t]; simp; omega
theorem goG_pos (S : Nat) : ∀ (t : List Nat) (h c : Nat), 1 ≤ c → ∀ x ∈ goG S h c t, 1 ≤ x
  | [], _, c, hc, x, hx => by rw [goG, List.mem_singleton] at hx; omega
  | y :: t, h, c, hc, x, hx => by
    rw [goG] at hx
    split at hx
    · rcases List.mem_cons.1 hx with rfl | hx
      · exact hc
      · exact goG_pos S t _ 1 (by omega) x hx
    · exact goG_pos S t _ (c + 1) (by omega) x hx
theorem groups_sum (S : Nat) (l : List Nat) : (groupsP S l).sum = l.length := by
  cases l with
  | nil => rfl
  | cons x t => rw [groupsP, goG_sum]; simp; omega
theorem groups_pos (S : Nat) (l : List Nat) : ∀ x ∈ groupsP S l, 1 ≤ x := by
  cases l with
  | nil => intro x hx; cases hx
  | cons y t => exact goG_pos S t y 1 (by omega)
theorem pos_length : ∀ {l : List Nat}, (∀ x ∈ l, 1 ≤ x) → l.length ≤ l.sum
  | [], _ => by simp
  | x :: l, h => by
    have h1 := h x (by simp)
    have h2 := pos_length (l := l) (fun y hy => h y (by simp [hy]))
    rw [List.length_cons, List.sum_cons]
    omega
theorem lensB_length (wh : Bool) (l : List Rec) : (lensB wh l).length = l.length := by unfold lensB; rw [List.length_map]
theorem counts_sum (o : Opt) (l : List Rec) : (countsO o l).sum = l.length := by unfold countsO; rw [groups_sum, lensB_length]
theorem counts_len (o : Opt) (l : List Rec) : (countsO o l).length ≤ l.length := by
  have := pos_length (groups_pos o.block.toNat (lensB true l))
  rw [groups_sum, lensB_length] at this
  exact this

/-! ### Walks -/
/-- An append onto any row of bytes that has no room: a new row. -/
theorem run_app_new8 {P : Program} (w : World) (t ty e : TypeId) (i : TypeInfo) (ht : P.underlying t = some (.slice e)) (hi : P.info? e = some i) (hz : i.zero = some (.int .u8 0)) (hsize : i.size = 1) (hby : i.bytes = 1)
    (b : Addr) (n c : Nat) (olds : List Value) (hlo : olds.length = n) (holds : ∀ j v, olds[j]? = some v → w.cell? (b.add j) = some v)
    (a : Addr) (m c2 : Nat) (news : List Value) (hl : news.length = m) (hnews : ∀ j v, news[j]? = some v → w.cell? (a.add j) = some v) (hg : c < n + m) (h63 : n + m ≤ 1000000) :
    ∃ v' w', (Builtin.append_ #[t, t] ty #[.slice (some b) n c, .slice (some a) m c2]).run P w = .ok v' w' ∧ w'.ownsRow w.heap.size e 1 v' (n + m) (olds ++ news) ∧ Below w.heap.size w w' := by
  have hr := run_append_grow (P := P) w t ty e i (.int .u8 0) ht hi hz b n c olds (by rw [hsize]; omega) holds a m c2 news (by rw [hsize]; omega) hnews hg (by omega) (by rw [hby]; exact growslice_fits (by omega) (by omega))
  have hge := grownCap_ge w (n + m) c e
  have hcm : grownCap w (n + m) c e ≤ maxLen := grownCap_le_maxLen w (n + m) c e (by unfold maxLen; omega)
  refine ⟨_, _, hr, ⟨by rw [List.length_append]; omega, .inr ⟨w.heap.size, _, _, rfl, Nat.le_refl _, heap_alloc_new w.drew _, hge, hcm, ?_, ?_⟩⟩, ((Below.refl _ _).drew).alloc (Nat.le_refl _) _⟩
  · have hz1 : (Value.int IntKind.u8 0).cells.size = 1 := rfl
    simp only [Array.size_append, List.size_toArray, size_zeroCells, hz1]
    omega
  · simp only [Array.toList_append, List.append_assoc]
    rw [← List.append_assoc]
    have hlen : (olds ++ news).length = (n + m) * 1 := by rw [List.length_append]; omega
    rw [← hlen]
    exact List.take_left
theorem wpList_app_new8 {P : Program} {w : World} {ops : Array Oper} {rest : List Oper} {o : Oper} {a : Act} {Q : Exit → Act → World → Prop} (hgd : o.guard = none) (s x : Operand) (t : TypeId)
    (ho : o.op = .call { callee := .builtin .append, args := #[s, x], argTypes := #[t, t] }) (e : TypeId) (i : TypeInfo) (ht : P.underlying t = some (.slice e)) (hi : P.info? e = some i) (hz : i.zero = some (.int .u8 0)) (hsize : i.size = 1) (hby : i.bytes = 1)
    (b : Addr) (n c : Nat) (olds : List Value) (hs : a.eval s = .slice (some b) n c) (hlo : olds.length = n) (holds : ∀ j v, olds[j]? = some v → w.cell? (b.add j) = some v)
    (ad : Addr) (m c2 : Nat) (news : List Value) (hx : a.eval x = .slice (some ad) m c2) (hl : news.length = m) (hnews : ∀ j v, news[j]? = some v → w.cell? (ad.add j) = some v) (hg : c < n + m) (h63 : n + m ≤ 1000000)
    (h : ∀ v' w', w'.ownsRow w.heap.size e 1 v' (n + m) (olds ++ news) → Below w.heap.size w w' → wpList P ops Q rest (a.put o.dst v') w') : wpList P ops Q (o :: rest) a w := by
  refine wpList_plain hgd fun K hK => ?_
  obtain ⟨v', w', hr, h2, h3⟩ := run_app_new8 (P := P) w t o.type e i ht hi hz hsize hby b n c olds hlo holds ad m c2 news hl hnews hg h63
  unfold Oper.wp execOp
  simp only [ho, resolve, invoke, builtin, Sem.run_bind, Sem.run_pure, Result.andThen_ok, List.map_toArray, List.map_cons, List.map_nil, hs, hx, hr]
  exact hK _ _ (h v' w' h2 h3)
set_option maxRecDepth 100000 in
theorem mark_any (w : World) :
    Calls Tryz.prog 30 #[.int .i64 1] w fun e w' => ∃ v, e = .returned (.tuple #[v, .int .i64 0]) ∧ w'.ownsRow w.heap.size 5 1 v 5 (numL .u8 (markB 1)) ∧ Below w.heap.size w w' := by
  obtain ⟨j0, hj0, hy0, hy1, hy2⟩ := info_parts info_u8
  have D := Lib.hid (fun wx => within_any wx 1 1 3)
  have hd : decide ((1 : Int) ≤ 1 ∧ (1 : Int) ≤ 3) = true := by decide
  rw [hd] at D
  go_enter Tryz.func30, Tryz.ntmps30
  go_wp2_with fail
  refine (D.out _).mono ?_
  rintro e w1 ⟨rfl, rfl⟩
  clear D hd
  have kc := fun (w : World) (C : Array Value) (n c : Nat) => Lib.run_convert_bytes_const (P := Tryz.prog) w 29 5 C n c Tryz.underlying29 Tryz.underlying5
  have c1 : IntKind.u8.wrap 1 = 1 := rfl
  have HB : Hid (Below w1.heap.size w1 ((w1.alloc (.cells #[.int .u8 70, .int .u8 73, .int .u8 82, .int .u8 75] 5 (4, 5))).alloc (.cells #[.int .u8 1] 5))) := bel_alloc0 (bel_alloc0 (Below.refl _ _))
  have HC : Hid (∀ j v, ([.int .u8 70, .int .u8 73, .int .u8 82, .int .u8 75] : List Value)[j]? = some v → ((w1.alloc (.cells #[.int .u8 70, .int .u8 73, .int .u8 82, .int .u8 75] 5 (4, 5))).alloc (.cells #[.int .u8 1] 5)).cell? ((⟨w1.heap.size, 0, none⟩ : Addr).add j) = some v) := fun j v hj => by
    have e := (bel_alloc0 (Below.refl (w1.alloc (.cells #[.int .u8 70, .int .u8 73, .int .u8 82, .int .u8 75] 5 (4, 5))).heap.size (w1.alloc (.cells #[.int .u8 70, .int .u8 73, .int .u8 82, .int .u8 75] 5 (4, 5)))) (o := (.cells #[.int .u8 1] 5))).cell (p := ⟨w1.heap.size, j, none⟩) (by simp)
    rw [add_none, Nat.zero_add, e, World.cell?_alloc_mark]
    simpa using hj
  have HN : Hid (∀ j v, ([.int .u8 1] : List Value)[j]? = some v → ((w1.alloc (.cells #[.int .u8 70, .int .u8 73, .int .u8 82, .int .u8 75] 5 (4, 5))).alloc (.cells #[.int .u8 1] 5)).cell? ((⟨w1.heap.size + 1, 0, none⟩ : Addr).add j) = some v) := fun j v hj => by
    have hb : Blk ((w1.alloc (.cells #[.int .u8 70, .int .u8 73, .int .u8 82, .int .u8 75] 5 (4, 5))).alloc (.cells #[.int .u8 1] 5)) (w1.heap.size + 1) 5 #[.int .u8 1] := Blk.made_at _ _ _ (by simp)
    rw [add_none, Nat.zero_add, hb.cell]
    simpa using hj
  go_wp2_with (at_builtin; refine wpList_app_new8 rfl (.tmp 8) (.tmp 11) 29 rfl 5 j0 Tryz.underlying29 hj0 hy0 hy1 hy2 ⟨w1.heap.size, 0, none⟩ 4 4 [.int .u8 70, .int .u8 73, .int .u8 82, .int .u8 75] (by rfl) rfl HC.out _ 1 1 [.int .u8 1] (by rfl) rfl HN.out (by omega) (by omega) ?_; intro v4 w4 hown4 hb4)
  go_ret2
  exact ⟨_, rfl, own_mono hown4 HB.out.size, bel_step0 hb4 HB.out⟩
theorem flag_any (w : World) (b : Bool) : Calls Tryz.prog 33 #[.bool b] w fun e w' => e = .returned (.int .u8 (flagN b : Nat)) ∧ w' = w := by
  cases b with
  | true =>
    go_enter Tryz.func33, Tryz.ntmps33
    go_wp2_with fail
    go_ret
    exact ⟨rfl, rfl⟩
  | false =>
    go_enter Tryz.func33, Tryz.ntmps33
    go_wp2_with fail
    go_ret
    exact ⟨rfl, rfl⟩
theorem rflag_any (w : World) (b : Bool) : Calls Tryz.prog 38 #[.bool b] w fun e w' => e = .returned (.int .u8 (flagN b : Nat)) ∧ w' = w := by
  cases b with
  | true =>
    go_enter Tryz.func38, Tryz.ntmps38
    go_wp2_with fail
    go_ret
    exact ⟨rfl, rfl⟩
  | false =>
    go_enter Tryz.func38, Tryz.ntmps38
    go_wp2_with fail
    go_ret
    exact ⟨rfl, rfl⟩
end Go.Proofs.YtidclmmnfienlaaGreatDoor.One

namespace Go.Proofs.YtidclmmnfienlaaGreatDoor.One
open Go.RowKit Go.Proofs.YtidclmmnfienlaaGreatDoor.Mem Go.Proofs.YtidclmmnfienlaaGreatDoor.Own Go.Proofs.YtidclmmnfienlaaGreatDoor.Canon Go.Proofs.YtidclmmnfienlaaGreatDoor.NumPut Go.Proofs.YtidclmmnfienlaaGreatDoor.Crc
open Go.Proofs.YtidclmmnfienlaaGreatDoor.Recs Go.Proofs.YtidclmmnfienlaaGreatDoor.Opts
open Go.Proofs.YtidclmmnfienlaaGreatDoor.Block (frameB WPost part_own part_blk write_any)

def PackPost (o : Opt) (l : List Rec) (w : World) (e : Ending) (w' : World) : Prop :=
  ∃ v, e = .returned (.tuple #[v, .int .i64 0]) ∧ w'.ownsRow w.heap.size 5 1 v (packB o l).length (numL .u8 (packB o l)) ∧ Below w.heap.size w w'
theorem optE_ok {o : Opt} (h : optE o = 0) : 16 ≤ o.block ∧ o.block ≤ 32768 := by
  unfold optE at h
  split at h
  · rename_i h1; exact h1.1
  · cases h
theorem chkE_ok {l : List Rec} (h : chkE l = 0) : ∀ r ∈ l, longB r = false := by
  unfold chkE at h
  split at h
  · cases h
  · split at h
    · cases h
    · rename_i h1
      intro r hr
      cases hb : longB r
      · rfl
      · exact absurd (List.any_eq_true.2 ⟨r, hr, hb⟩) h1
theorem recF_take {l : List Rec} {m i : Nat} (h : i < m) (j : Nat) : recF (l.take m) i j = recF l i j := by
  have e : (l.take m).getD i recd = l.getD i recd := by
    rw [List.getD_eq_getElem?_getD, List.getD_eq_getElem?_getD, List.getElem?_take, if_pos h]
  unfold recF
  rw [e]
theorem recF_drop' (l : List Rec) (k i j : Nat) : recF l (k + i) j = recF (l.drop k) i j := by
  have e : (l.drop k).getD i recd = l.getD (k + i) recd := by
    rw [List.getD_eq_getElem?_getD, List.getD_eq_getElem?_getD, List.getElem?_drop]
  unfold recF
  rw [e]
theorem row_take {w : World} {B n m : Nat} {A : Option Addr} {l : List Rec} (h : Row w B A n 4 (recF l)) (hm : m ≤ n) : Row w B A m 4 (recF (l.take m)) := fun h0 => by
  obtain ⟨b, off, rfl, hb, hc⟩ := h (by omega)
  exact ⟨b, off, rfl, hb, fun i j hi hj => (hc i j (by omega) hj).trans (by rw [recF_take hi])⟩
theorem row_drop {w : World} {B n m c : Nat} {A : Option Addr} {l : List Rec} (h : Row w B A n 4 (recF l)) (hm : m ≤ n) (hc : n ≤ c) : Row w B (cutA A m c 4) (n - m) 4 (recF (l.drop m)) :=
  h.cut m (n - m) (by omega) hc (fun i j _ _ => recF_drop' l m i j)
theorem row_add0 {w : World} {B n : Nat} {A : Option Addr} {l : List Rec} (h : Row w B A n 4 (recF l)) (h0 : 0 < n) : ∀ a, A = some a → a.add 0 = a := by
  intro a ha
  obtain ⟨b, off, rfl, _, _⟩ := h h0
  injection ha with ha
  subst ha
  exact add_none' b off 0
theorem bytesB_le (wh : Bool) {l l' : List Rec} (h : l.Sublist l') : (bytesB wh l).length ≤ (bytesB wh l').length := by
  induction h with
  | slnil => exact Nat.le_refl _
  | cons a _ ih => unfold bytesB at *; rw [List.flatMap_cons, List.length_append]; omega
  | cons_cons a _ ih => unfold bytesB at *; rw [List.flatMap_cons, List.flatMap_cons, List.length_append, List.length_append]; omega
theorem frame_max {bs : List Nat} (plain : Bool) (h : bs.length ≤ 16000) : (frameB bs plain).length ≤ bs.length + 25 := by
  have hb : (Block.fBody bs plain).length ≤ bs.length := by
    unfold Block.fBody
    split
    · rename_i hc
      rw [Bool.and_eq_true] at hc
      have h2 := hc.2
      unfold Block.sqz at h2
      simp at h2
      omega
    · omega
  have h1 := numB_len64 (x := bs.length) (by omega)
  have h2 := numB_len64 (x := (Block.fBody bs plain).length) (by omega)
  unfold frameB Block.fAll Block.fHead
  simp only [List.length_append, List.length_singleton]
  have : (tailN (sumN (([Block.fWay bs plain] ++ numB bs.length ++ numB (Block.fBody bs plain).length) ++ Block.fBody bs plain))).length = 4 := rfl
  omega
theorem bytesB_split (wh : Bool) (l : List Rec) (m : Nat) : (bytesB wh (l.take m)).length + (bytesB wh (l.drop m)).length = (bytesB wh l).length := by
  conv => rhs; rw [← List.take_append_drop m l]
  unfold bytesB
  rw [List.flatMap_append, List.length_append]
theorem frames_u8 (pl : Bool) : ∀ (cs : List Nat) (l : List Rec), (∀ r ∈ l, RecOk r) → ∀ x ∈ (framesP pl cs l).flatten, x ≤ 255
  | [], _, _ => by simp [framesP]
  | c :: t, l, h => by
    intro x hx
    rw [framesP, List.flatten_cons] at hx
    rcases List.mem_append.1 hx with hx | hx
    · have h8 := bytesB_u8 true (l := l.take c) (fun r hr => h r (List.mem_of_mem_take hr))
      generalize bytesB true (l.take c) = bs at *
      unfold frameB Block.fAll Block.fHead at hx
      simp only [List.mem_append, List.mem_singleton] at hx
      rcases hx with (((rfl | hx) | hx) | hx) | hx
      · unfold Block.fWay; split <;> omega
      · exact numB_u8 _ x hx
      · exact numB_u8 _ x hx
      · unfold Block.fBody at hx
        split at hx
        · exact Block.writeO_le3 _ x hx
        · exact h8 x hx
      · have := tail_bytes _ x hx; omega
    · exact frames_u8 pl t _ (fun r hr => h r (List.mem_of_mem_drop hr)) x hx
theorem head_u8 {S n g fl : Nat} (h : fl ≤ 1) : ∀ x ∈ markB 1 ++ (numB S ++ ([fl] ++ (numB n ++ (numB g ++ [])))), x ≤ 255 := by
  intro x hx
  simp only [List.mem_append, List.mem_singleton, List.append_nil] at hx
  rcases hx with hx | hx | rfl | hx | hx
  · revert x; decide
  · exact numB_u8 _ x hx
  · omega
  · exact numB_u8 _ x hx
  · exact numB_u8 _ x hx
set_option maxHeartbeats 4000000 in
set_option maxRecDepth 100000 in
theorem pack_any (w : World) (o : Opt) (A : Option Addr) (n c : Nat) (l : List Rec) (ho : optE o = 0) (hn : l.length = n) (hN : n ≤ 1000) (hc : n ≤ c) (hok : ∀ r ∈ l, RecOk r) (hk : chkE l = 0) (hb : (bytesB true l).length ≤ 16000) (ht : TabAt w) (ha : Row w w.heap.size A n 4 (recF l)) :
    Calls Tryz.prog 12 #[o.val, .slice A n c] w (PackPost o l w) := by
  obtain ⟨j0, hj0, hy0, hy1, hy2⟩ := info_parts info_u8
  have hlong := chkE_ok hk
  obtain ⟨hb1, hb2⟩ := optE_ok ho
  have hgl := counts_len o l
  have hgs := counts_sum o l
  have hgp : ∀ x ∈ countsO o l, 1 ≤ x := groups_pos _ _
  rw [hn] at hgl
  obtain ⟨blk, pl, bu, da, pa, ch⟩ := o
  simp only at hb1 hb2
  obtain ⟨S, rfl⟩ := Int.eq_ofNat_of_zero_le (show 0 ≤ blk by omega)
  have D1 := Lib.hid (fun wx => ocheck_any wx ⟨(S : Nat), pl, bu, da, pa, ch⟩)
  rw [ho] at D1
  have D2 := Lib.hid (fun wx (hx : Below w.heap.size w wx) => rcheck_any wx A n c l hn (by omega) ((ha.below hx).mono hx.size))
  rw [hk] at D2
  have D3 := Lib.hid (fun wx (hx : Below w.heap.size w wx) => groups_any wx S true A n c l (by omega) (by omega) hn (by omega) hok hlong ((ha.below hx).mono hx.size))
  have D4 := Lib.hid (fun wx => mark_any wx)
  have D5 := Lib.hid (fun wx => num64_any wx S (by omega))
  have D6 := Lib.hid (fun wx => num64_any wx n (by omega))
  have D7 := Lib.hid (fun wx => num64_any wx (countsO ⟨(S : Nat), pl, bu, da, pa, ch⟩ l).length (by omega))
  have D8 := Lib.hid (fun wx => flag_any wx pl)
  have hx1 := numB_len64 (x := S) (by omega)
  have hx2 := numB_len64 (x := n) (by omega)
  have hx3 := numB_len64 (x := (countsO ⟨(S : Nat), pl, bu, da, pa, ch⟩ l).length) (by omega)
  unfold GroupsPost at D3
  have hcE : groupsP S (lensB true l) = countsO ⟨(S : Nat), pl, bu, da, pa, ch⟩ l := rfl
  rw [hcE] at D3
  unfold PackPost Opt.val
  unfold Opt.val at D1
  simp only at D1 ⊢
  have HPK : Hid (packB ⟨(S : Nat), pl, bu, da, pa, ch⟩ l = (markB 1 ++ (numB S ++ ([flagN pl] ++ (numB n ++ (numB (countsO ⟨(S : Nat), pl, bu, da, pa, ch⟩ l).length ++ [])))) ++ (framesP pl (countsO ⟨(S : Nat), pl, bu, da, pa, ch⟩ l) l).flatten) ++ tailN (sumN (markB 1 ++ (numB S ++ ([flagN pl] ++ (numB n ++ (numB (countsO ⟨(S : Nat), pl, bu, da, pa, ch⟩ l).length ++ [])))) ++ (framesP pl (countsO ⟨(S : Nat), pl, bu, da, pa, ch⟩ l) l).flatten))) := by
    unfold packB bodyO headO
    rw [hn]
    rfl
  have hF8 := frames_u8 pl (countsO ⟨(S : Nat), pl, bu, da, pa, ch⟩ l) l hok
  have hH8 := head_u8 (S := S) (n := n) (g := (countsO ⟨(S : Nat), pl, bu, da, pa, ch⟩ l).length) (fl := flagN pl) (by unfold flagN; split <;> omega)
  generalize packB ⟨(S : Nat), pl, bu, da, pa, ch⟩ l = PK at *
  generalize countsO ⟨(S : Nat), pl, bu, da, pa, ch⟩ l = G at *
  obtain ⟨g, hg⟩ : ∃ g, g = G.length := ⟨_, rfl⟩
  rw [← hg] at D7 HPK hx3 hgl D3 hH8
  have u1 : IntKind.u64.wrap (S : Int) = (S : Int) := by rw [IntKind.wrap_u64]; omega
  have u2 : IntKind.u64.wrap (n : Int) = (n : Int) := by rw [IntKind.wrap_u64]; omega
  have u3 : IntKind.u64.wrap (g : Int) = (g : Int) := by rw [IntKind.wrap_u64]; omega
  generalize numB S = X1 at *
  generalize numB n = X2 at *
  generalize numB g = X3 at *
  generalize flagN pl = fl at *
  have HGL := Lib.hid hg
  have HGS := Lib.hid hgs
  have HPOS := Lib.hid hgp
  have HF8 := Lib.hid hF8
  have HH8 := Lib.hid hH8
  clear ho hk hcE hg hgs hgp hF8 hH8
  go_enter Tryz.func12, Tryz.ntmps12
  go_wp2_with fail
  have hba : Blk (w.alloc (.cells #[.int .i64 S, .bool pl, .int .i64 bu, .int .i64 da, .int .i64 pa, .int .i64 ch] 23)) w.heap.size 23 #[.int .i64 S, .bool pl, .int .i64 bu, .int .i64 da, .int .i64 pa, .int .i64 ch] := Blk.made _ _ _
  have hbw : Below w.heap.size w (w.alloc (.cells #[.int .i64 S, .bool pl, .int .i64 bu, .int .i64 da, .int .i64 pa, .int .i64 ch] 23)) := bel_alloc0 (Below.refl _ _)
  have hzw : (w.alloc (.cells #[.int .i64 S, .bool pl, .int .i64 bu, .int .i64 da, .int .i64 pa, .int .i64 ch] 23)).heap.size = w.heap.size + 1 := by simp
  generalize w.alloc (.cells #[.int .i64 S, .bool pl, .int .i64 bu, .int .i64 da, .int .i64 pa, .int .i64 ch] 23) = wa at *
  have hzw2 : w.heap.size < wa.heap.size := by omega
  have HBW := Lib.hid hbw
  have HS : Hid (∀ wx, Below wa.heap.size wa wx → wx.cell? ⟨w.heap.size, 0, none⟩ = some (.int .i64 S) ∧ wx.cell? ⟨w.heap.size, 1, none⟩ = some (.bool pl)) := fun wx h => ⟨(hba.step h).cell 0, (hba.step h).cell 1⟩
  have HWA : Hid (∀ wx, Below wa.heap.size wa wx → Below w.heap.size w wx) := fun wx h => hbw.trans (h.mono hbw.size)
  clear hba hbw hzw
  refine (D1.out _).mono ?_
  rintro e w1 ⟨rfl, hb1'⟩
  have B1 := Lib.hid hb1'
  have E2 := Lib.hid (D2.out w1 (HWA.out _ hb1'))
  clear hb1' D1 D2
  go_wp2_with fail
  refine E2.out.mono ?_
  rintro e w2 ⟨rfl, hb2'⟩
  have B2 : Hid (Below wa.heap.size wa w2) := bel_step0 hb2' B1.out
  have E3 := Lib.hid (D3.out w2 (HWA.out _ B2.out))
  have k0 := (HS.out w2 B2.out).1
  clear hb2' E2 D3 B1
  go_wp2_with fail
  refine E3.out.mono ?_
  rintro e w3 ⟨vG, rfl, hoG, hb3⟩
  obtain ⟨AG, cG, rfl⟩ := own_shape hoG
  have B3 : Hid (Below wa.heap.size wa w3) := bel_step0 hb3 B2.out
  have HOG := Lib.hid (own_mono hoG B2.out.size)
  clear hb3 hoG E3 B2 k0
  go_wp2_with fail
  refine (D4.out _).mono ?_
  rintro e w4 ⟨vM, rfl, hoM, hb4⟩
  obtain ⟨AM, cM, rfl⟩ := own_shape hoM
  have B4 : Hid (Below wa.heap.size wa w4) := bel_step0 hb4 B3.out
  have PM : Hid (Part.Ok (⟨AM, cM, markB 1⟩ : Part) w4) := part_own hoM rfl
  have HOG4 : Hid (w4.ownsRow wa.heap.size 3 1 (.slice AG g cG) g (numL .i64 G)) := own_kept HOG.out (fun y hy => hb4.block y (World.ownsRow.lt HOG.out y hy).2)
  have HS4 : Hid (∀ wx, Below w4.heap.size w4 wx → wx.cell? ⟨w.heap.size, 0, none⟩ = some (.int .i64 S) ∧ wx.cell? ⟨w.heap.size, 1, none⟩ = some (.bool pl)) := fun wx h => HS.out wx (bel_step0 h B4.out)
  have hs5 : ∀ a1 a2 a3 a4 a5 a6 a7 a8 a9 b1, sumL [(⟨a1, a2, markB 1⟩ : Part), ⟨a3, a4, X1⟩, ⟨a5, a6, [fl]⟩, ⟨a7, a8, X2⟩, ⟨a9, b1, X3⟩] ≤ 1000000 := fun _ _ _ _ _ _ _ _ _ _ => by simp [sumL, markB]; omega
  clear hoM hb4 D4 B3 HOG
  obtain ⟨H0, hH0⟩ : ∃ H0, H0 = markB 1 ++ (X1 ++ ([fl] ++ (X2 ++ (X3 ++ [])))) := ⟨_, rfl⟩
  obtain ⟨h0, hh0⟩ : ∃ h0, h0 = (markB 1 ++ (X1 ++ ([fl] ++ (X2 ++ (X3 ++ []))))).length := ⟨_, rfl⟩
  have HH0 : Hid (H0 = markB 1 ++ (X1 ++ ([fl] ++ (X2 ++ (X3 ++ [])))) ∧ h0 = (markB 1 ++ (X1 ++ ([fl] ++ (X2 ++ (X3 ++ []))))).length) := ⟨hH0, hh0⟩
  clear hH0 hh0
  go_upto_region 9 with fail
  go_cut [9] (fun v wx => Hid (wx.ownsRow w4.heap.size 5 1 v h0 (numL .u8 H0)) ∧ Hid (Below w4.heap.size w4 wx))
  case first =>
    go_region_held3 (fun wx => wx.cell? ⟨w.heap.size, 0, none⟩ = some (.int .i64 S) ∧ wx.cell? ⟨w.heap.size, 1, none⟩ = some (.bool pl)) (first | exact HS4.out _ ((Below.refl _ _).drew) | (refine HS4.out _ ?_; (repeat (first | (with_reducible exact Below.refl _ _) | (with_reducible assumption) | (with_reducible refine Below.drew ?_) | (with_reducible refine below_drewN ?_ _) | ((with_reducible refine bel_set ?_ ?_); (focus (first | (simp; done) | (simp; omega) | omega | (simp at *; omega)))) | (with_reducible refine bel_alloc0 ?_) | (with_reducible refine bel_step0 (by assumption) ?_) | ((with_reducible refine bel_alloc ?_ ?_); (focus (first | (simp; done) | (simp; omega) | omega | (simp at *; omega)))) | ((with_reducible refine bel_step (by assumption) ?_ ?_); (focus (first | (simp; done) | (simp; omega) | omega | (simp at *; omega)))))))) (first | (go_at_call 32; first | ((with_reducible refine (D5.out _).mono ?_); rintro e wA ⟨vA, rfl, hoA, hbA⟩; obtain ⟨AA, cA, rfl⟩ := own_shape hoA; have PA : Part.Ok (⟨AA, cA, X1⟩ : Part) wA := part_own hoA rfl) | ((with_reducible refine (D6.out _).mono ?_); rintro e wB ⟨vB, rfl, hoB, hbB⟩; obtain ⟨AB, cB, rfl⟩ := own_shape hoB; have PB : Part.Ok (⟨AB, cB, X2⟩ : Part) wB := part_own hoB rfl) | ((with_reducible refine (D7.out _).mono ?_); rintro e wC ⟨vC, rfl, hoC, hbC⟩; obtain ⟨AC, cC, rfl⟩ := own_shape hoC; have PC : Part.Ok (⟨AC, cC, X3⟩ : Part) wC := part_own hoC rfl)) | (go_at_call 33; (with_reducible refine (D8.out _).mono ?_); rintro e wF ⟨rfl, rfl⟩) | (go_at_call 31; (refine (all_any _ _ 5 [(⟨AM, cM, markB 1⟩ : Part), (⟨AA, cA, X1⟩ : Part), (⟨_, 1, [fl]⟩ : Part), (⟨AB, cB, X2⟩ : Part), (⟨AC, cC, X3⟩ : Part)] rfl (by omega) (hs5 _ _ _ _ _ _ _ _ _ _) (fun p hp => by { rcases List.mem_cons.1 hp with rfl | hp; exact PM.out.step (by (repeat (first | (with_reducible exact Below.refl _ _) | (with_reducible assumption) | (with_reducible refine Below.drew ?_) | (with_reducible refine below_drewN ?_ _) | ((with_reducible refine bel_set ?_ ?_); (focus (first | (simp; done) | (simp; omega) | omega | (simp at *; omega)))) | (with_reducible refine bel_alloc0 ?_) | (with_reducible refine bel_step0 (by assumption) ?_) | ((with_reducible refine bel_alloc ?_ ?_); (focus (first | (simp; done) | (simp; omega) | omega | (simp at *; omega)))) | ((with_reducible refine bel_step (by assumption) ?_ ?_); (focus (first | (simp; done) | (simp; omega) | omega | (simp at *; omega))))))); rcases List.mem_cons.1 hp with rfl | hp; exact PA.step (by (repeat (first | (with_reducible exact Below.refl _ _) | (with_reducible assumption) | (with_reducible refine Below.drew ?_) | (with_reducible refine below_drewN ?_ _) | ((with_reducible refine bel_set ?_ ?_); (focus (first | (simp; done) | (simp; omega) | omega | (simp at *; omega)))) | (with_reducible refine bel_alloc0 ?_) | (with_reducible refine bel_step0 (by assumption) ?_) | ((with_reducible refine bel_alloc ?_ ?_); (focus (first | (simp; done) | (simp; omega) | omega | (simp at *; omega)))) | ((with_reducible refine bel_step (by assumption) ?_ ?_); (focus (first | (simp; done) | (simp; omega) | omega | (simp at *; omega))))))); rcases List.mem_cons.1 hp with rfl | hp; exact Part.Ok.step (part_blk (Blk.made _ _ _)) (by (repeat (first | (with_reducible exact Below.refl _ _) | (with_reducible assumption) | (with_reducible refine Below.drew ?_) | (with_reducible refine below_drewN ?_ _) | ((with_reducible refine bel_set ?_ ?_); (focus (first | (simp; done) | (simp; omega) | omega | (simp at *; omega)))) | (with_reducible refine bel_alloc0 ?_) | (with_reducible refine bel_step0 (by assumption) ?_) | ((with_reducible refine bel_alloc ?_ ?_); (focus (first | (simp; done) | (simp; omega) | omega | (simp at *; omega)))) | ((with_reducible refine bel_step (by assumption) ?_ ?_); (focus (first | (simp; done) | (simp; omega) | omega | (simp at *; omega))))))); rcases List.mem_cons.1 hp with rfl | hp; exact PB.step (by (repeat (first | (with_reducible exact Below.refl _ _) | (with_reducible assumption) | (with_reducible refine Below.drew ?_) | (with_reducible refine below_drewN ?_ _) | ((with_reducible refine bel_set ?_ ?_); (focus (first | (simp; done) | (simp; omega) | omega | (simp at *; omega)))) | (with_reducible refine bel_alloc0 ?_) | (with_reducible refine bel_step0 (by assumption) ?_) | ((with_reducible refine bel_alloc ?_ ?_); (focus (first | (simp; done) | (simp; omega) | omega | (simp at *; omega)))) | ((with_reducible refine bel_step (by assumption) ?_ ?_); (focus (first | (simp; done) | (simp; omega) | omega | (simp at *; omega))))))); rcases List.mem_cons.1 hp with rfl | hp; exact PC.step (by (repeat (first | (with_reducible exact Below.refl _ _) | (with_reducible assumption) | (with_reducible refine Below.drew ?_) | (with_reducible refine below_drewN ?_ _) | ((with_reducible refine bel_set ?_ ?_); (focus (first | (simp; done) | (simp; omega) | omega | (simp at *; omega)))) | (with_reducible refine bel_alloc0 ?_) | (with_reducible refine bel_step0 (by assumption) ?_) | ((with_reducible refine bel_alloc ?_ ?_); (focus (first | (simp; done) | (simp; omega) | omega | (simp at *; omega)))) | ((with_reducible refine bel_step (by assumption) ?_ ?_); (focus (first | (simp; done) | (simp; omega) | omega | (simp at *; omega))))))); cases hp }) (by first | exact Blk.made _ _ _ | exact Blk.made_at _ _ _ (by simp) | exact Blk.drew (Blk.made _ _ _) | exact Blk.drew (Blk.made_at _ _ _ (by simp)))).mono ?_); rintro e w7 ⟨v7, rfl, ho7, hb7⟩; obtain ⟨A7, c7, rfl⟩ := own_shape ho7; have B7 : Below w4.heap.size w4 w7 := bel_step0 hb7 (by (repeat (first | (with_reducible exact Below.refl _ _) | (with_reducible assumption) | (with_reducible refine Below.drew ?_) | (with_reducible refine below_drewN ?_ _) | ((with_reducible refine bel_set ?_ ?_); (focus (first | (simp; done) | (simp; omega) | omega | (simp at *; omega)))) | (with_reducible refine bel_alloc0 ?_) | (with_reducible refine bel_step0 (by assumption) ?_) | ((with_reducible refine bel_alloc ?_ ?_); (focus (first | (simp; done) | (simp; omega) | omega | (simp at *; omega)))) | ((with_reducible refine bel_step (by assumption) ?_ ?_); (focus (first | (simp; done) | (simp; omega) | omega | (simp at *; omega)))))))))
    all_goals
      have HO7 : Hid (w7.ownsRow w4.heap.size 5 1 (.slice A7 h0 c7) h0 (numL .u8 H0)) := by
        have h := own_mono ho7 (show w4.heap.size ≤ _ from Below.size (by (repeat (first | (with_reducible exact Below.refl _ _) | (with_reducible assumption) | (with_reducible refine Below.drew ?_) | (with_reducible refine below_drewN ?_ _) | ((with_reducible refine bel_set ?_ ?_); (focus (first | (simp; done) | (simp; omega) | omega | (simp at *; omega)))) | (with_reducible refine bel_alloc0 ?_) | (with_reducible refine bel_step0 (by assumption) ?_) | ((with_reducible refine bel_alloc ?_ ?_); (focus (first | (simp; done) | (simp; omega) | omega | (simp at *; omega)))) | ((with_reducible refine bel_step (by assumption) ?_ ?_); (focus (first | (simp; done) | (simp; omega) | omega | (simp at *; omega))))))))
        simp only [List.flatMap_cons, List.flatMap_nil] at h
        have e1 : (markB 1 ++ (X1 ++ ([fl] ++ (X2 ++ (X3 ++ []))))).length = h0 := HH0.out.2.symm
        rw [e1, ← HH0.out.1] at h
        exact h
      have HB7 := Lib.hid B7
      go_wp2_with fail
      go_meet
      case rel => go_light; exact ⟨Eq.mp (congrArg (fun z => World.ownsRow w7 w4.heap.size 5 1 (.slice A7 z c7) h0 (numL .u8 H0)) (show h0 = _ by rw [HH0.out.2]; simp; try omega)) HO7.out, HB7.out⟩
  case rest =>
    obtain ⟨HO9, HB9⟩ := hcut
    obtain ⟨A9, c9, rfl⟩ := own_shape HO9.out
    have HT := Lib.hid ht
    have HOK := Lib.hid hok
    have HLO := Lib.hid hlong
    have HBW4 : Hid (Below w.heap.size w w4) := HWA.out _ B4.out
    have HRA : Hid (Row w w.heap.size A n 4 (recF l)) := ha
    have HN := Lib.hid hn
    have hh66 : h0 ≤ 66 := by
      have e := HH0.out.2
      simp [markB] at e
      omega
    obtain ⟨BODY, hBODY⟩ : ∃ BODY, BODY = H0 ++ (framesP pl G l).flatten := ⟨_, rfl⟩
    have HBODY := Lib.hid hBODY
    have HBB8 : Hid (∀ x ∈ BODY, x ≤ 255) := fun x hx => by
      rw [hBODY] at hx
      rcases List.mem_append.1 hx with hx | hx
      · rw [HH0.out.1] at hx; exact HH8.out x hx
      · exact HF8.out x hx
    have HSUM : Hid (G.sum = l.length) := HGS.out
    clear ht hok hlong ha hn hBODY
    go_wp2_with fail
    go_loopw [1, 9, 54] (fun sv ov iv wx => ∃ (k q m' c' : Nat) (A' : Option Addr) (l' : List Rec) (OUT : List Nat), k ≤ g ∧ q ≤ 41200 ∧ m' ≤ 1000 ∧ Hid (q + (bytesB true l').length ≤ 16100 + 25 * k) ∧ m' ≤ c' ∧ iv = .int .i64 k ∧ sv = .slice A' m' c' ∧ Hid (l'.length = m') ∧ Hid (OUT.length = q) ∧ Hid (OUT ++ (framesP pl (G.drop k) l').flatten = BODY) ∧ Hid ((G.drop k).sum = m') ∧ Hid ((∀ r ∈ l', RecOk r) ∧ (∀ r ∈ l', longB r = false) ∧ (bytesB true l').length ≤ 16000) ∧ Hid (Row w w.heap.size A' m' 4 (recF l')) ∧ Hid (wx.ownsRow w4.heap.size 5 1 ov q (numL .u8 OUT)) ∧ Hid (Below w4.heap.size w4 wx)) (fun _ _ iv _ => g - (intOf iv).toNat)
    case atStart => exact ⟨0, h0, n, c, A, l, H0, by omega, by omega, by omega, (by show _ ≤ _; omega), hc, rfl, rfl, HN.out, by show _ = _; rw [HH0.out.1, HH0.out.2], HBODY.out.symm, by show _ = _; rw [List.drop_zero, HSUM.out, HN.out], ⟨HOK.out, HLO.out, hb⟩, HRA.out, HO9.out, HB9.out⟩
    case round =>
      have HBODY9 := HBODY
      clear HO9 HB9 HBODY HRA HN
      obtain ⟨k, q, m', c', A', l', OUT, hkg, hq, hm', hqb, hmc, rfl, rfl, HL, HQ, HF, HSM, HP, HR, HO, HB⟩ := hrel
      have hz := HB.out.size
      by_cases hlt : k < g
      · have hkl : k < G.length := by rw [← HGL.out]; exact hlt
        obtain ⟨m, hm⟩ : ∃ m, m = G[k] := ⟨_, rfl⟩
        have hdr : G.drop k = m :: G.drop (k + 1) := by rw [hm]; exact List.drop_eq_getElem_cons hkl
        have hsm := HSM.out
        have hf := HF.out
        rw [hdr] at hsm hf
        rw [List.sum_cons] at hsm
        rw [framesP, List.flatten_cons] at hf
        have hm1 : 1 ≤ m := HPOS.out m (by rw [hm]; exact List.getElem_mem hkl)
        have HOGx : Hid (wr.ownsRow wa.heap.size 3 1 (.slice AG g cG) g (numL .i64 G)) := own_kept HOG4.out (fun y hy => HB.out.block y (World.ownsRow.lt HOG4.out y hy).2)
        obtain ⟨gb, gc, hAG, hgb, _⟩ := HOGx.out.form (by omega)
        injection hAG with e1 e2 e3
        subst e1 e3
        have cg : wr.cell? ⟨gb, k, none⟩ = some (.int .i64 (m : Nat)) := by
          rw [(Lz.own_cells HOGx.out hlt).1]
          simp [numL, List.getElem?_eq_getElem hkl, hm]
        have hml : m ≤ m' := by omega
        have hp := HP.out
        have ks1 := fun wx => run_cuth' (P := Tryz.prog) (t := 24) (s := 4) Tryz.underlying24 (fun _ => by kernel_rfl) A' m' c' .i64 (m : Int) m rfl (by omega) (row_add0 HR.out (by omega)) wx
        have ks2 := fun wx => run_cut (P := Tryz.prog) (t := 24) (s := 4) Tryz.underlying24 (fun _ => by kernel_rfl) A' m' c' .i64 (m : Int) m rfl hml wx
        have hb3 : (bytesB true (l'.take m)).length ≤ 16000 := Nat.le_trans (bytesB_le true (List.take_sublist m l')) hp.2.2
        have hb8 := bytesB_u8 true (l := l'.take m) (fun r hr => hp.1 r (List.mem_of_mem_take hr))
        have E1 := Lib.hid (fun wx (hx : Below w.heap.size w wx) => bytes_any wx true A' m c' (l'.take m) (by rw [List.length_take, HL.out]; omega) (by omega) (fun r hr => hp.1 r (List.mem_of_mem_take hr)) (fun r hr => hp.2.1 r (List.mem_of_mem_take hr)) (by omega) ((row_take (HR.out.below hx) hml).mono hx.size))
        have E2 := Lib.hid (fun wx A2 c2 (hx : Below w.heap.size w wx) (h : wx.ownsRow w4.heap.size 5 1 (.slice A2 (bytesB true (l'.take m)).length c2) (bytesB true (l'.take m)).length (numL .u8 (bytesB true (l'.take m)))) => write_any wx A2 _ c2 _ pl rfl hb3 (fun e => (own_wf h).1 e) hb8 (HT.out.step hx) (Part.Ok.row (part_own h rfl)))
        have hfm := frame_max pl hb3
        unfold BytesPost at E1
        unfold WPost at E2
        have hqb1 := hqb.out
        have hsp := bytesB_split true l' m
        have HF2 := Lib.hid hf
        have HP2 : Hid ((∀ r ∈ l'.drop m, RecOk r) ∧ (∀ r ∈ l'.drop m, longB r = false) ∧ (bytesB true (l'.drop m)).length ≤ 16000) := ⟨fun r hr => hp.1 r (List.mem_of_mem_drop hr), fun r hr => hp.2.1 r (List.mem_of_mem_drop hr), Nat.le_trans (bytesB_le true (List.drop_sublist m l')) hp.2.2⟩
        have HR2 : Hid (Row w w.heap.size (cutA A' m c' 4) (m' - m) 4 (recF (l'.drop m))) := row_drop HR.out hml hmc
        have HL2 : Hid ((l'.drop m).length = m' - m) := by show _ = _; rw [List.length_drop, HL.out]
        have HSM2 : Hid ((G.drop (k + 1)).sum = m' - m) := by show _ = _; omega
        have hwx : Below w.heap.size w wr := HBW4.out.trans (HB.out.mono HBW4.out.size)
        have HWX := Lib.hid hwx
        have x0 : (0 : Int) ≤ (k : Int) := by omega
        have x1 : (k : Int) < (g : Int) := by omega
        have kp := (HS4.out wr HB.out).2
        generalize bytesB true (l'.take m) = BB at *
        generalize frameB BB pl = FF at *
        obtain ⟨bl, hbl⟩ : ∃ bl, bl = BB.length := ⟨_, rfl⟩
        obtain ⟨fl2, hfl⟩ : ∃ fl2, fl2 = FF.length := ⟨_, rfl⟩
        rw [← hbl] at E1 E2 hfm hsp
        rw [← hfl] at E2 hfm
        have HFL := Lib.hid hfl
        have hq2 : q + fl2 ≤ 41200 := by omega
        have HQB2 : Hid (q + fl2 + (bytesB true (l'.drop m)).length ≤ 16100 + 25 * (k + 1)) := by show _ ≤ _; omega
        clear hkl hm hdr hsm hf HSM HF hp HP HR HL hb8 hwx hbl hfl hb3 hqb hqb1 hsp
        go_upto_region 13 with fail
        go_region_held3 (fun wx => wx.cell? ⟨w.heap.size, 1, none⟩ = some (.bool pl)) (first | exact kp | exact kp2 | exact kp3) (first | (go_at_call 34; (with_reducible refine (E1.out _ (Below.drew HWX.out)).mono ?_); rintro e wA ⟨vA, rfl, hoA, hbA⟩; obtain ⟨AA, cA, rfl⟩ := own_shape hoA; have BA : Below w4.heap.size w4 wA := bel_step0 hbA (Below.drew HB.out); have HOA : wA.ownsRow w4.heap.size 5 1 (.slice AA bl cA) bl (numL .u8 BB) := own_mono hoA (by simpa using hz); have BWA : Below w.heap.size w wA := bel_step0 hbA (Below.drew HWX.out); have kp2 := (HS4.out wA BA).2; have kA := hbA) | (go_at_call 16; (with_reducible refine (E2.out _ _ _ BWA HOA).mono ?_); rintro e wB ⟨vB, rfl, hoB, hbB⟩; obtain ⟨AB, cB, rfl⟩ := own_shape hoB; have BB2 : Below w4.heap.size w4 wB := bel_step0 hbB BA; have kp3 := (HS4.out wB BB2).2))
        all_goals
          have HOx : wA.ownsRow w4.heap.size 5 1 u9 q (numL .u8 OUT) := own_kept (HO.out.drew) (fun y hy => kA.block y (by simpa using (World.ownsRow.lt HO.out y hy).2))
          have HOy : Hid (wB.ownsRow w4.heap.size 5 1 u9 q (numL .u8 OUT)) := own_kept HOx (fun y hy => hbB.block y (World.ownsRow.lt HOx y hy).2)
          have HSy : Hid (Src wB AB fl2 cB 1 (numL .u8 FF)) := src_row7 hoB
          have HBy := Lib.hid BB2
          have hzy := BB2.size
          clear hbA hoA BA HOA BWA kp2 kA hbB hoB BB2 kp3 HOx kp E1 E2
          go_wp2_with (at_builtin; refine wpList_app rfl (.tmp 71) (.tmp 72) 29 rfl w4.heap.size 5 j0 _ 1 1 Tryz.underlying29 hj0 hy0 hy1 hy2 rfl (by decide) _ _ _ (by rfl) HOy.out _ _ _ _ (by rfl) HSy.out (numL_one _ _) (by unfold maxLen; omega) (by omega) hzy ?_; intro v8 w8 hown8 hg8 hat8; have HB8 : Hid (Below w4.heap.size w4 w8) := HBy.out.grown hg8 hzy (fun y hy => (World.ownsRow.lt HOy.out y hy).1); have HO8 : Hid (w8.ownsRow w4.heap.size 5 1 v8 (q + fl2) (numL .u8 (OUT ++ FF))) := (by rw [show numL .u8 (OUT ++ FF) = numL .u8 OUT ++ numL .u8 FF by simp [numL]]; exact hown8); clear hown8 hg8 hat8)
          go_roundw
          case measure => go_light; simp [intOf]; omega
          case rel => go_light; exact ⟨k + 1, q + fl2, m' - m, c' - m, cutA A' m c' 4, l'.drop m, OUT ++ FF, by omega, hq2, by omega, HQB2.out, by omega, by first | rfl | go_num, by first | rfl | trivial, HL2.out, by show _ = _; rw [List.length_append, HQ.out, ← HFL.out], by show _ = _; rw [List.append_assoc]; exact HF2.out, HSM2.out, HP2.out, HR2.out, HO8.out, HB8.out⟩
      · obtain rfl : k = g := by omega
        have hf := HF.out
        rw [List.drop_of_length_le (by rw [← HGL.out]; exact Nat.le_refl _), framesP, List.flatten_nil, List.append_nil] at hf
        subst hf
        obtain ⟨A8, c8, rfl⟩ := own_shape HO.out
        have hql : OUT.length ≤ 41200 := by rw [HQ.out]; exact hq
        have P8 : Hid (Part.Ok (⟨A8, c8, OUT⟩ : Part) wr) := part_own HO.out HQ.out
        have HWX : Hid (Below w.heap.size w wr) := HBW4.out.trans (HB.out.mono HBW4.out.size)
        have E8 := Lib.hid (put_any wr A8 q c8 OUT HQ.out (by omega) (by have h := P8.out.nil; rw [HQ.out] at h; exact h) HBB8.out (HT.out.step HWX.out) (by have h := P8.out.row; simp only [HQ.out] at h; exact h))
        unfold PutPost at E8
        clear HF HSM HP HR HL hqb
        go_wp2_with fail
        refine E8.out.mono ?_
        rintro e w8 ⟨v8, rfl, ho8, hb8⟩
        have HO8 := Lib.hid (own_mono ho8 HWX.out.size)
        have HB8 := Lib.hid (bel_step0 hb8 HWX.out)
        clear ho8 hb8 E8
        go_wp2_with fail
        go_ret2
        refine ⟨_, rfl, ?_, HB8.out⟩
        have h := HO8.out
        have e : PK = OUT ++ tailN (sumN OUT) := by rw [HPK.out, ← HH0.out.1, ← HBODY9.out]
        have e2 : (OUT ++ tailN (sumN OUT)).length = OUT.length + 4 := by rw [List.length_append]; rfl
        rw [e, e2, HQ.out]
        rw [HQ.out] at h
        exact h
end Go.Proofs.YtidclmmnfienlaaGreatDoor.One

namespace Go.Proofs.YtidclmmnfienlaaGreatDoor.One
open Go.RowKit Go.Proofs.YtidclmmnfienlaaGreatDoor.Mem Go.Proofs.YtidclmmnfienlaaGreatDoor.Own Go.Proofs.YtidclmmnfienlaaGreatDoor.Canon Go.Proofs.YtidclmmnfienlaaGreatDoor.NumPut Go.Proofs.YtidclmmnfienlaaGreatDoor.Crc
open Go.Proofs.YtidclmmnfienlaaGreatDoor.Recs Go.Proofs.YtidclmmnfienlaaGreatDoor.Opts
open Go.Proofs.YtidclmmnfienlaaGreatDoor.Block (frameB WPost part_own part_blk rwrite_any own_one)

/-- Rows of bytes, each owned. -/
def FrsAt (w : World) (base : Nat) (ps : List Part) : Prop := ∀ p ∈ ps, w.ownsRow base 5 1 p.v p.ls.length (numL .u8 p.ls)
theorem FrsAt.step {w w' : World} {base : Nat} {ps : List Part} (h : FrsAt w base ps) (hb : Below w.heap.size w w') : FrsAt w' base ps := fun p hp => own_kept (h p hp) (fun y hy => hb.block y (World.ownsRow.lt (h p hp) y hy).2)
theorem own_grown {w w' : World} {base base' s s' n n' : Nat} {e e' : TypeId} {v v' : Value} {xs xs' : List Value} (h : w.ownsRow base e s v n xs) (ho : w.ownsRow base' e' s' v' n' xs') (hne : e ≠ e') (hg : w.grownBy w' v'.ownBlock) : w'.ownsRow base e s v n xs :=
  own_kept h (fun y hy => hg.block y (World.ownsRow.lt h y hy).2 (fun e => by
    rcases own_apart h ho hne with h0 | h0
    · rw [h0] at hy; cases hy
    · exact h0 (hy.trans e)))
theorem FrsAt.grown {w w' : World} {base base' n : Nat} {v : Value} {xs : List Value} {ps : List Part} (h : FrsAt w base ps) (ho : w.ownsRow base' 29 1 v n xs) (hg : w.grownBy w' v.ownBlock) : FrsAt w' base ps := fun p hp =>
  own_grown (h p hp) ho (by decide) hg
theorem FrsAt.snoc {w : World} {base : Nat} {ps : List Part} {p : Part} (h : FrsAt w base ps) (hp : w.ownsRow base 5 1 p.v p.ls.length (numL .u8 p.ls)) : FrsAt w base (ps ++ [p]) := fun q hq => by
  rcases List.mem_append.1 hq with hq | hq
  · exact h q hq
  · rw [List.mem_singleton.1 hq]; exact hp
theorem info_fr : (Tryz.prog.info? 29).map (fun i => (i.zero, i.size, i.bytes)) = some (some (.slice none 0 0), 1, 24) := by kernel_rfl
def FramesPost (pl : Bool) (G : List Nat) (l : List Rec) (w : World) (e : Ending) (w' : World) : Prop :=
  ∃ v ps, e = .returned v ∧ w'.ownsRow w.heap.size 29 1 v (framesP pl G l).length (ps.map Part.v) ∧ FrsAt w' w.heap.size ps ∧ ps.map Part.ls = framesP pl G l ∧ Below w.heap.size w w'
theorem frames_length (pl : Bool) : ∀ (cs : List Nat) (l : List Rec), (framesP pl cs l).length = cs.length
  | [], _ => rfl
  | c :: t, l => by rw [framesP, List.length_cons, frames_length pl t, List.length_cons]
set_option maxHeartbeats 4000000 in
set_option maxRecDepth 100000 in
theorem rframes_any (w : World) (o : Opt) (A : Option Addr) (n c : Nat) (l : List Rec) (ho : optE o = 0) (hn : l.length = n) (hN : n ≤ 1000) (hc : n ≤ c) (hok : ∀ r ∈ l, RecOk r) (hk : chkE l = 0) (hb : (bytesB true l).length ≤ 16000) (ht : TabAt w) (ha : Row w w.heap.size A n 4 (recF l)) :
    Calls Tryz.prog 36 #[o.val, .slice A n c] w (FramesPost o.plain (countsO o l) l w) := by
  obtain ⟨j0, hj0, hy0, hy1, hy2⟩ := info_parts info_fr
  have hlong := chkE_ok hk
  obtain ⟨hb1, hb2⟩ := optE_ok ho
  have hgl := counts_len o l
  have hgs := counts_sum o l
  have hgp : ∀ x ∈ countsO o l, 1 ≤ x := groups_pos _ _
  rw [hn] at hgl
  obtain ⟨blk, pl, bu, da, pa, ch⟩ := o
  simp only at hb1 hb2
  obtain ⟨S, rfl⟩ := Int.eq_ofNat_of_zero_le (show 0 ≤ blk by omega)
  have D3 := Lib.hid (fun wx (hx : Below w.heap.size w wx) => rgroups_any wx S true A n c l (by omega) (by omega) hn (by omega) hok hlong ((ha.below hx).mono hx.size))
  unfold GroupsPost at D3
  have hcE : groupsP S (lensB true l) = countsO ⟨(S : Nat), pl, bu, da, pa, ch⟩ l := rfl
  rw [hcE] at D3
  unfold FramesPost Opt.val
  simp only
  generalize countsO ⟨(S : Nat), pl, bu, da, pa, ch⟩ l = G at *
  rw [frames_length]
  obtain ⟨g, hg⟩ : ∃ g, g = G.length := ⟨_, rfl⟩
  rw [← hg] at hgl D3 ⊢
  have HGL := Lib.hid hg
  have HGS := Lib.hid hgs
  have HPOS := Lib.hid hgp
  have HT := Lib.hid ht
  have HOK := Lib.hid hok
  have HLO := Lib.hid hlong
  have HN := Lib.hid hn
  obtain ⟨FR, hFR⟩ : ∃ FR, FR = framesP pl G l := ⟨_, rfl⟩
  have HFR := Lib.hid hFR
  rw [← hFR]
  clear ho hk hcE hg hgs hgp ht hok hlong hFR
  go_enter Tryz.func36, Tryz.ntmps36
  go_wp2_with fail
  have hba : Blk (w.alloc (.cells #[.int .i64 S, .bool pl, .int .i64 bu, .int .i64 da, .int .i64 pa, .int .i64 ch] 23)) w.heap.size 23 #[.int .i64 S, .bool pl, .int .i64 bu, .int .i64 da, .int .i64 pa, .int .i64 ch] := Blk.made _ _ _
  have hbw : Below w.heap.size w (w.alloc (.cells #[.int .i64 S, .bool pl, .int .i64 bu, .int .i64 da, .int .i64 pa, .int .i64 ch] 23)) := bel_alloc0 (Below.refl _ _)
  have hzw : (w.alloc (.cells #[.int .i64 S, .bool pl, .int .i64 bu, .int .i64 da, .int .i64 pa, .int .i64 ch] 23)).heap.size = w.heap.size + 1 := by simp
  generalize w.alloc (.cells #[.int .i64 S, .bool pl, .int .i64 bu, .int .i64 da, .int .i64 pa, .int .i64 ch] 23) = wa at *
  have hzw2 : w.heap.size < wa.heap.size := by omega
  have HS : Hid (∀ wx, Below wa.heap.size wa wx → wx.cell? ⟨w.heap.size, 1, none⟩ = some (.bool pl)) := fun wx h => (hba.step h).cell 1
  have HWA : Hid (∀ wx, Below wa.heap.size wa wx → Below w.heap.size w wx) := fun wx h => hbw.trans (h.mono hbw.size)
  have E3 := Lib.hid (D3.out wa hbw)
  clear hba hbw hzw D3
  refine E3.out.mono ?_
  rintro e w4 ⟨vG, rfl, hoG, hb3⟩
  obtain ⟨AG, cG, rfl⟩ := own_shape hoG
  have B4 : Hid (Below wa.heap.size wa w4) := hb3
  have HOG4 := Lib.hid hoG
  have HS4 : Hid (∀ wx, Below w4.heap.size w4 wx → wx.cell? ⟨w.heap.size, 1, none⟩ = some (.bool pl)) := fun wx h => HS.out wx (bel_step0 h B4.out)
  have HBW4 : Hid (Below w.heap.size w w4) := HWA.out _ B4.out
  clear hb3 hoG E3
  go_wp2_with fail
  go_loopw [6, 7, 8] (fun ov av iv wx => ∃ (k at_ : Nat) (ps : List Part), k ≤ g ∧ at_ ≤ n ∧ iv = .int .i64 k ∧ av = .int .i64 at_ ∧ Hid (ps.map Part.ls ++ framesP pl (G.drop k) (l.drop at_) = FR) ∧ Hid (ps.length = k) ∧ Hid (at_ + (G.drop k).sum = n) ∧ Hid (wx.ownsRow w4.heap.size 29 1 ov k (ps.map Part.v)) ∧ Hid (FrsAt wx w4.heap.size ps) ∧ Hid (Below w4.heap.size w4 wx)) (fun _ _ iv _ => g - (intOf iv).toNat)
  case atStart => exact ⟨0, 0, [], by omega, by omega, rfl, rfl, HFR.out.symm, rfl, by show _ = _; rw [List.drop_zero, HGS.out, HN.out]; omega, World.ownsRow_nil _ _ _ _, (fun p hp => by cases hp), Below.refl _ _⟩
  case round =>
    obtain ⟨k, at_, ps, hkg, hat, rfl, rfl, HF, HPL, HSM, HO, HFS, HB⟩ := hrel
    have hz := HB.out.size
    by_cases hlt : k < g
    · have hkl : k < G.length := by rw [← HGL.out]; exact hlt
      obtain ⟨m, hm⟩ : ∃ m, m = G[k] := ⟨_, rfl⟩
      have hdr : G.drop k = m :: G.drop (k + 1) := by rw [hm]; exact List.drop_eq_getElem_cons hkl
      have hsm := HSM.out
      have hf := HF.out
      rw [hdr] at hsm hf
      rw [List.sum_cons] at hsm
      rw [framesP, List.drop_drop] at hf
      have HOGx : Hid (wr.ownsRow wa.heap.size 3 1 (.slice AG g cG) g (numL .i64 G)) := own_kept HOG4.out (fun y hy => HB.out.block y (World.ownsRow.lt HOG4.out y hy).2)
      obtain ⟨gb, gc, hAG, hgb, _⟩ := HOGx.out.form (by omega)
      injection hAG with e1 e2 e3
      subst e1 e3
      have cg : wr.cell? ⟨gb, k, none⟩ = some (.int .i64 (m : Nat)) := by
        rw [(Lz.own_cells HOGx.out hlt).1]
        simp [numL, List.getElem?_eq_getElem hkl, hm]
      have HCG : Hid (∀ wx, Below wr.heap.size wr wx → wx.cell? ⟨gb, k, none⟩ = some (.int .i64 (m : Nat))) := fun wx h => by
        have h2 : wx.ownsRow wa.heap.size 3 1 (.slice (some ⟨gb, 0, none⟩) g cG) g (numL .i64 G) := own_kept HOGx.out (fun y hy => h.block y (World.ownsRow.lt HOGx.out y hy).2)
        rw [(Lz.own_cells h2 hlt).1]
        simp [numL, List.getElem?_eq_getElem hkl, hm]
      have hml : at_ + m ≤ n := by omega
      have ks := fun wx => run_cut2 (P := Tryz.prog) (t := 24) (s := 4) Tryz.underlying24 (fun _ => by kernel_rfl) A n c .i64 .i64 (at_ : Int) ((at_ + m : Nat) : Int) at_ (at_ + m) rfl rfl (by omega) (by omega) wx
      rw [Nat.add_sub_cancel_left] at ks
      have s1 : IntKind.i64.wrap ((at_ : Int) + (m : Int)) = ((at_ + m : Nat) : Int) := by rw [IntWalk.i64_in _ (by omega)]; omega
      have hsub : ((l.drop at_).take m).Sublist l := (List.take_sublist _ _).trans (List.drop_sublist _ _)
      have hb3 : (bytesB true ((l.drop at_).take m)).length ≤ 16000 := Nat.le_trans (bytesB_le true hsub) hb
      have hb8 := bytesB_u8 true (l := (l.drop at_).take m) (fun r hr => HOK.out r (hsub.subset hr))
      have hrow : Row w w.heap.size (cutA A at_ c 4) m 4 (recF ((l.drop at_).take m)) := ha.cut at_ m hml hc (fun i j hi _ => by rw [recF_drop', recF_take hi])
      have E1 := Lib.hid (fun wx (hx : Below w.heap.size w wx) => rbytes_any wx true (cutA A at_ c 4) m (c - at_) ((l.drop at_).take m) (by rw [List.length_take, List.length_drop, HN.out]; omega) (by omega) (fun r hr => HOK.out r (hsub.subset hr)) (fun r hr => HLO.out r (hsub.subset hr)) (by omega) ((hrow.below hx).mono hx.size))
      have E2 := Lib.hid (fun wx A2 c2 (hx : Below w.heap.size w wx) (h : wx.ownsRow w4.heap.size 5 1 (.slice A2 (bytesB true ((l.drop at_).take m)).length c2) (bytesB true ((l.drop at_).take m)).length (numL .u8 (bytesB true ((l.drop at_).take m)))) => rwrite_any wx A2 _ c2 _ pl rfl hb3 (fun e => (own_wf h).1 e) hb8 (HT.out.step hx) (Part.Ok.row (part_own h rfl)))
      unfold BytesPost at E1
      unfold WPost at E2
      have HF2 := Lib.hid hf
      have HSM2 : Hid (at_ + m + (G.drop (k + 1)).sum = n) := by show _ = _; omega
      have hwx : Below w.heap.size w wr := HBW4.out.trans (HB.out.mono HBW4.out.size)
      have HWX := Lib.hid hwx
      have x0 : (0 : Int) ≤ (k : Int) := by omega
      have x1 : (k : Int) < (g : Int) := by omega
      have kp := HS4.out wr HB.out
      generalize bytesB true ((l.drop at_).take m) = BB at *
      generalize frameB BB pl = FF at *
      obtain ⟨bl, hbl⟩ : ∃ bl, bl = BB.length := ⟨_, rfl⟩
      rw [← hbl] at E1 E2
      generalize cutA A at_ c 4 = AC at *
      generalize c - at_ = cc at *
      obtain ⟨am, ham⟩ : ∃ am, am = at_ + m := ⟨_, rfl⟩
      rw [← ham] at ks s1 hml HSM2 HF2
      have HAM := Lib.hid ham
      clear hkl hm hdr hsm hf HSM HF hb8 hwx hbl hb3 hrow hsub ham
      go_upto_region 7 with fail
      go_region_held3 (fun wx => wx.cell? ⟨w.heap.size, 1, none⟩ = some (.bool pl) ∧ wx.cell? ⟨gb, k, none⟩ = some (.int .i64 (m : Nat))) (first | exact ⟨kp, cg⟩ | exact kp2 | exact kp3) (first | (go_at_call 70; (with_reducible refine (E1.out _ (Below.drew HWX.out)).mono ?_); rintro e wA ⟨vA, rfl, hoA, hbA⟩; obtain ⟨AA, cA, rfl⟩ := own_shape hoA; have BA : Below w4.heap.size w4 wA := bel_step0 hbA (Below.drew HB.out); have HOA : wA.ownsRow w4.heap.size 5 1 (.slice AA bl cA) bl (numL .u8 BB) := own_mono hoA (by simpa using hz); have BWA : Below w.heap.size w wA := bel_step0 hbA (Below.drew HWX.out); have BRA : Below wr.heap.size wr wA := bel_step0 hbA (Below.drew (Below.refl _ _)); have kp2 : wA.cell? ⟨w.heap.size, 1, none⟩ = some (.bool pl) ∧ wA.cell? ⟨gb, k, none⟩ = some (.int .i64 (m : Nat)) := ⟨HS4.out wA BA, HCG.out wA BRA⟩) | (go_at_call 69; (with_reducible refine (E2.out _ _ _ BWA HOA).mono ?_); rintro e wB ⟨vB, rfl, hoB, hbB⟩; obtain ⟨AB, cB, rfl⟩ := own_shape hoB; have BB2 : Below w4.heap.size w4 wB := bel_step0 hbB BA; have BRB : Below wr.heap.size wr wB := bel_step0 hbB BRA; have kp3 : wB.cell? ⟨w.heap.size, 1, none⟩ = some (.bool pl) ∧ wB.cell? ⟨gb, k, none⟩ = some (.int .i64 (m : Nat)) := ⟨HS4.out wB BB2, HCG.out wB BRB⟩))
      all_goals
        have cg2 := kp3.2
        have HOy : Hid (wB.ownsRow w4.heap.size 29 1 u6 k (ps.map Part.v)) := own_kept HO.out (fun y hy => BRB.block y (World.ownsRow.lt HO.out y hy).2)
        have HFy : Hid (FrsAt wB w4.heap.size ps) := HFS.out.step BRB
        have HPy : Hid (wB.ownsRow w4.heap.size 5 1 (.slice AB FF.length cB) FF.length (numL .u8 FF)) := own_mono hoB (by have := BA.size; omega)
        have HBy := Lib.hid BB2
        have hzy := BB2.size
        have HGy : Hid (wB.ownsRow wa.heap.size 3 1 (.slice (some ⟨gb, 0, none⟩) g cG) g (numL .i64 G)) := own_kept HOGx.out (fun y hy => BRB.block y (World.ownsRow.lt HOGx.out y hy).2)
        obtain ⟨fl2, hfl⟩ : ∃ fl2, fl2 = FF.length := ⟨_, rfl⟩
        rw [← hfl] at HPy ⊢
        have HFL := Lib.hid hfl
        have HCM : Hid ((numL .i64 G)[k]? = some (.int .i64 (m : Nat))) := by
          have h := (Lz.own_cells HGy.out hlt).1
          rw [cg2] at h
          exact h.symm
        clear hbA hoA BA HOA BWA BRA kp2 hbB hoB BB2 BRB kp3 kp cg cg2 E1 E2 HCG hfl
        go_wp2_with (at_builtin; refine wpList_app rfl (.tmp 37) (.tmp 39) 64 rfl w4.heap.size 29 j0 _ 1 24 Tryz.underlying64 hj0 hy0 hy1 hy2 rfl (by decide) _ _ _ (by rfl) (HOy.out.alloc _) _ 1 1 [.slice AB fl2 cB] (by rfl) (Src.of_blk (g := wB.heap.size) (Blk.made _ _ _) 1 1 1 rfl) (by intro u hu; simp at hu; rcases hu with rfl; rfl) (by unfold maxLen; omega) (by omega) (by simp; omega) ?_; intro v8 w8 hown8 hg8 hat8; have HB8 : Hid (Below w4.heap.size w4 w8) := Below.grown (HBy.out.alloc hzy _) hg8 (by simp; omega) (fun y hy => (World.ownsRow.lt HOy.out y hy).1); have HO8 : Hid (w8.ownsRow w4.heap.size 29 1 v8 (k + 1) (ps.map Part.v ++ [.slice AB fl2 cB])) := hown8; have HG8 : w8.ownsRow wa.heap.size 3 1 (.slice (some ⟨gb, 0, none⟩) g cG) g (numL .i64 G) := own_grown (HGy.out.alloc _) (HOy.out.alloc _) (by decide) hg8; have cg8 : w8.cell? ⟨gb, k, none⟩ = some (.int .i64 (m : Nat)) := (Lz.own_cells HG8 hlt).1.trans HCM.out; have HP8 : Hid (w8.ownsRow w4.heap.size 5 1 (.slice AB fl2 cB) fl2 (numL .u8 FF)) := own_grown (HPy.out.alloc _) (HOy.out.alloc _) (by decide) hg8; have HF8 : Hid (FrsAt w8 w4.heap.size ps) := FrsAt.grown (HFy.out.step (bel_alloc0 (Below.refl _ _))) (HOy.out.alloc _) hg8; clear hown8 hg8 hat8 HG8)
        go_roundw
        case measure => go_light; simp [intOf]; omega
        case rel => go_light; exact ⟨k + 1, am, ps ++ [⟨AB, cB, FF⟩], by omega, hml, by first | rfl | go_num, by first | rfl | go_num, by show _ = _; rw [List.map_append, List.append_assoc]; exact HF2.out, by show _ = _; rw [List.length_append, HPL.out]; rfl, HSM2.out, by show World.ownsRow _ _ _ _ _ _ _; rw [List.map_append]; show World.ownsRow _ _ _ _ _ _ (ps.map Part.v ++ [.slice AB FF.length cB]); rw [← HFL.out]; exact HO8.out, HF8.out.snoc (by show World.ownsRow _ _ _ _ (.slice AB FF.length cB) FF.length (numL .u8 FF); rw [← HFL.out]; exact HP8.out), HB8.out⟩
    · obtain rfl : k = g := by omega
      have hf := HF.out
      rw [List.drop_of_length_le (by rw [← HGL.out]; exact Nat.le_refl _), framesP, List.append_nil] at hf
      have HF2 := Lib.hid hf
      have HWX : Hid (Below w.heap.size w wr) := HBW4.out.trans (HB.out.mono HBW4.out.size)
      clear hf HF
      go_wp2_with fail
      go_ret
      exact ⟨_, ps, rfl, own_mono HO.out HBW4.out.size, (fun p hp => own_mono (HFS.out p hp) HBW4.out.size), HF2.out, HWX.out⟩
end Go.Proofs.YtidclmmnfienlaaGreatDoor.One

namespace Go.Proofs.YtidclmmnfienlaaGreatDoor.One
open Go.RowKit Go.Proofs.YtidclmmnfienlaaGreatDoor.Mem Go.Proofs.YtidclmmnfienlaaGreatDoor.Own Go.Proofs.YtidclmmnfienlaaGreatDoor.Canon Go.Proofs.YtidclmmnfienlaaGreatDoor.NumPut Go.Proofs.YtidclmmnfienlaaGreatDoor.Crc
open Go.Proofs.YtidclmmnfienlaaGreatDoor.Recs Go.Proofs.YtidclmmnfienlaaGreatDoor.Opts
open Go.Proofs.YtidclmmnfienlaaGreatDoor.Block (frameB part_own)

theorem own_new {w : World} {base n : Nat} {cs : Array Value} (hb : base ≤ w.heap.size) (hn : cs.size = n) (hm : n ≤ maxLen) : (w.alloc (.cells cs 5)).ownsRow base 5 1 (.slice (some ⟨w.heap.size, 0, none⟩) n n) n cs.toList :=
  ⟨by simpa using hn, .inr ⟨w.heap.size, n, cs, rfl, hb, heap_alloc_new w _, Nat.le_refl _, hm, by omega, by rw [Nat.mul_one, ← hn, ← Array.length_toList, List.take_length]⟩⟩
def joinB (S fl n g : Nat) (fs : List (List Nat)) : List Nat := markB 1 ++ (numB S ++ ([fl] ++ (numB n ++ (numB g ++ [])))) ++ fs.flatten
theorem flat_le {fs : List (List Nat)} {x : List Nat} (h : x ∈ fs) : x.length ≤ fs.flatten.length := by
  induction fs with
  | nil => cases h
  | cons y t ih =>
    rw [List.flatten_cons, List.length_append]
    rcases List.mem_cons.1 h with rfl | h
    · omega
    · have := ih h; omega
set_option maxHeartbeats 4000000 in
set_option maxRecDepth 100000 in
theorem rjoin_any (w : World) (S fl n g base : Nat) (AF : Option Addr) (cF : Nat) (ps : List Part) (hS : S ≤ 1000000) (hf1 : fl ≤ 1) (hn : n ≤ 1000000) (hg : g ≤ 1000000) (hpl : ps.length = g) (hT : (ps.map Part.ls).flatten.length ≤ 45000) (h8 : ∀ x ∈ (ps.map Part.ls).flatten, x ≤ 255)
    (ho : w.ownsRow base 29 1 (.slice AF g cF) g (ps.map Part.v)) (hfs : FrsAt w base ps) :
    Calls Tryz.prog 37 #[.int .i64 S, .int .u8 fl, .int .i64 n, .int .i64 g, .slice AF g cF] w fun e w' => ∃ v, e = .returned v ∧ w'.ownsRow w.heap.size 5 1 v (joinB S fl n g (ps.map Part.ls) ++ tailN (sumN (joinB S fl n g (ps.map Part.ls)))).length (numL .u8 (joinB S fl n g (ps.map Part.ls) ++ tailN (sumN (joinB S fl n g (ps.map Part.ls))))) ∧ Below w.heap.size w w' := by
  obtain ⟨j0, hj0, hy0, hy1, hy2⟩ := info_parts info_u8
  have D1 := Lib.hid (fun wx => rnum64_any wx S (by omega))
  have D2 := Lib.hid (fun wx => rnum64_any wx n (by omega))
  have D3 := Lib.hid (fun wx => rnum64_any wx g (by omega))
  have l1 := numB_len64 (x := S) (by omega)
  have l2 := numB_len64 (x := n) (by omega)
  have l3 := numB_len64 (x := g) (by omega)
  have u1 : IntKind.u64.wrap (S : Int) = (S : Int) := by rw [IntKind.wrap_u64]; omega
  have u2 : IntKind.u64.wrap (n : Int) = (n : Int) := by rw [IntKind.wrap_u64]; omega
  have u3 : IntKind.u64.wrap (g : Int) = (g : Int) := by rw [IntKind.wrap_u64]; omega
  have hJ8 : ∀ x ∈ joinB S fl n g (ps.map Part.ls), x ≤ 255 := fun x hx => by
    unfold joinB at hx
    rcases List.mem_append.1 hx with hx | hx
    · exact head_u8 hf1 x hx
    · exact h8 x hx
  have hJ : joinB S fl n g (ps.map Part.ls) = markB 1 ++ (numB S ++ ([fl] ++ (numB n ++ (numB g ++ [])))) ++ (ps.map Part.ls).flatten := rfl
  generalize joinB S fl n g (ps.map Part.ls) = J at *
  generalize numB S = X1 at *
  generalize numB n = X2 at *
  generalize numB g = X3 at *
  have hJl : J.length ≤ 50000 := by
    rw [hJ]
    simp [markB]
    have := hT
    simp at this
    omega
  obtain ⟨jl, hjl⟩ : ∃ jl, jl = J.length := ⟨_, rfl⟩
  have HJL := Lib.hid hjl
  have HJ8 := Lib.hid hJ8
  have HPL := Lib.hid hpl
  have HT := Lib.hid hT
  have HO := Lib.hid ho
  have HFS := Lib.hid hfs
  have hjl5 : jl ≤ 50000 := by omega
  obtain ⟨x1, hx1⟩ : ∃ x1, x1 = X1.length := ⟨_, rfl⟩
  obtain ⟨x2, hx2⟩ : ∃ x2, x2 = X2.length := ⟨_, rfl⟩
  obtain ⟨x3, hx3⟩ : ∃ x3, x3 = X3.length := ⟨_, rfl⟩
  rw [← hx1] at D1 l1
  rw [← hx2] at D2 l2
  rw [← hx3] at D3 l3
  have HX1 := Lib.hid hx1
  have HX2 := Lib.hid hx2
  have HX3 := Lib.hid hx3
  have HJ := Lib.hid hJ
  clear hJ8 h8 hpl hT ho hfs hJl hjl hx1 hx2 hx3 hJ
  go_enter Tryz.func37, Tryz.ntmps37
  go_wp2_with fail
  have hom : (w.alloc (.cells #[.int .u8 70, .int .u8 73, .int .u8 82, .int .u8 75, .int .u8 1] 5)).ownsRow w.heap.size 5 1 (.slice (some ⟨w.heap.size, 0, none⟩) 5 5) 5 (numL .u8 (markB 1)) := own_new (Nat.le_refl _) rfl (by unfold maxLen; omega)
  have hbw : Below w.heap.size w (w.alloc (.cells #[.int .u8 70, .int .u8 73, .int .u8 82, .int .u8 75, .int .u8 1] 5)) := bel_alloc0 (Below.refl _ _)
  generalize w.alloc (.cells #[.int .u8 70, .int .u8 73, .int .u8 82, .int .u8 75, .int .u8 1] 5) = wa at *
  refine (D1.out _).mono ?_
  rintro e w1 ⟨v1, rfl, ho1, hb1⟩
  obtain ⟨A1, c1, rfl⟩ := own_shape ho1
  have HS1 : Hid (Src w1 A1 x1 c1 1 (numL .u8 X1)) := src_row7 ho1
  have HB1 : Hid (Below w.heap.size w w1) := bel_step0 hb1 hbw
  have HO1 : Hid (w1.ownsRow w.heap.size 5 1 (.slice (some ⟨w.heap.size, 0, none⟩) 5 5) 5 (numL .u8 (markB 1))) := own_kept hom (fun y hy => hb1.block y (World.ownsRow.lt hom y hy).2)
  have hz1 := HB1.out.size
  clear ho1 hb1 hom hbw D1
  go_wp2_with (first | (at_builtin; refine wpList_app rfl (.tmp 14) (.tmp 17) 29 rfl w.heap.size 5 j0 _ 1 1 Tryz.underlying29 hj0 hy0 hy1 hy2 rfl (by decide) _ _ _ (by rfl) HO1.out _ _ _ _ (by rfl) HS1.out (numL_one _ _) (by unfold maxLen; omega) (by omega) hz1 ?_; intro v2 w2 hown2 hg2 hat2; have HB2 : Hid (Below w.heap.size w w2) := HB1.out.grown hg2 hz1 (fun y hy => (World.ownsRow.lt HO1.out y hy).1); have HO2 : Hid (w2.ownsRow w.heap.size 5 1 v2 (5 + x1) (numL .u8 (markB 1) ++ numL .u8 X1)) := hown2; have hz2 := HB2.out.size; clear hown2 hg2 hat2 HO1 HS1 HB1 hz1) | (at_builtin; refine wpList_app rfl (.tmp 19) (.tmp 21) 29 rfl w.heap.size 5 j0 _ 1 1 Tryz.underlying29 hj0 hy0 hy1 hy2 rfl (by decide) _ _ _ (by rfl) (HO2.out.alloc _) _ 1 1 [.int .u8 (fl : Nat)] (by rfl) (Src.of_blk (g := w2.heap.size) (Blk.made _ _ _) 1 1 1 rfl) (by intro u hu; simp at hu; rcases hu with rfl; rfl) (by unfold maxLen; omega) (by omega) (by simp; omega) ?_; intro v3 w3 hown3 hg3 hat3; have HB3 : Hid (Below w.heap.size w w3) := (HB2.out.alloc hz2 _).grown hg3 (by simp; omega) (fun y hy => (World.ownsRow.lt HO2.out y hy).1); have HO3 : Hid (w3.ownsRow w.heap.size 5 1 v3 (5 + x1 + 1) (numL .u8 (markB 1) ++ numL .u8 X1 ++ [.int .u8 (fl : Nat)])) := hown3; clear hown3 hg3 hat3 HO2 HB2 hz2))
  refine (D2.out _).mono ?_
  rintro e w4 ⟨v4, rfl, ho4, hb4⟩
  obtain ⟨A4, c4, rfl⟩ := own_shape ho4
  have HS4 : Hid (Src w4 A4 x2 c4 1 (numL .u8 X2)) := src_row7 ho4
  have HB4 : Hid (Below w.heap.size w w4) := bel_step0 hb4 HB3.out
  have HO4 : Hid (w4.ownsRow w.heap.size 5 1 v3 (5 + x1 + 1) (numL .u8 (markB 1) ++ numL .u8 X1 ++ [.int .u8 (fl : Nat)])) := own_kept HO3.out (fun y hy => hb4.block y (World.ownsRow.lt HO3.out y hy).2)
  have hz4 := HB4.out.size
  clear ho4 hb4 HO3 HB3 D2
  go_wp2_with (at_builtin; refine wpList_app rfl (.tmp 23) (.tmp 26) 29 rfl w.heap.size 5 j0 _ 1 1 Tryz.underlying29 hj0 hy0 hy1 hy2 rfl (by decide) _ _ _ (by rfl) HO4.out _ _ _ _ (by rfl) HS4.out (numL_one _ _) (by unfold maxLen; omega) (by omega) hz4 ?_; intro v5 w5 hown5 hg5 hat5; have HB5 : Hid (Below w.heap.size w w5) := HB4.out.grown hg5 hz4 (fun y hy => (World.ownsRow.lt HO4.out y hy).1); have HO5 : Hid (w5.ownsRow w.heap.size 5 1 v5 (5 + x1 + 1 + x2) (numL .u8 (markB 1) ++ numL .u8 X1 ++ [.int .u8 (fl : Nat)] ++ numL .u8 X2)) := hown5; clear hown5 hg5 hat5 HO4 HS4 HB4 hz4)
  refine (D3.out _).mono ?_
  rintro e w6 ⟨v6, rfl, ho6, hb6⟩
  obtain ⟨A6, c6, rfl⟩ := own_shape ho6
  have HS6 : Hid (Src w6 A6 x3 c6 1 (numL .u8 X3)) := src_row7 ho6
  have HB6 : Hid (Below w.heap.size w w6) := bel_step0 hb6 HB5.out
  have HO6 : Hid (w6.ownsRow w.heap.size 5 1 v5 (5 + x1 + 1 + x2) (numL .u8 (markB 1) ++ numL .u8 X1 ++ [.int .u8 (fl : Nat)] ++ numL .u8 X2)) := own_kept HO5.out (fun y hy => hb6.block y (World.ownsRow.lt HO5.out y hy).2)
  have hz6 := HB6.out.size
  clear ho6 hb6 HO5 HB5 D3
  go_wp2_with (at_builtin; refine wpList_app rfl (.tmp 28) (.tmp 31) 29 rfl w.heap.size 5 j0 _ 1 1 Tryz.underlying29 hj0 hy0 hy1 hy2 rfl (by decide) _ _ _ (by rfl) HO6.out _ _ _ _ (by rfl) HS6.out (numL_one _ _) (by unfold maxLen; omega) (by omega) hz6 ?_; intro v7 w7 hown7 hg7 hat7; have HB7 : Hid (Below w.heap.size w w7) := HB6.out.grown hg7 hz6 (fun y hy => (World.ownsRow.lt HO6.out y hy).1); have HO7 : Hid (w7.ownsRow w.heap.size 5 1 v7 (5 + x1 + 1 + x2 + x3) (numL .u8 (markB 1) ++ numL .u8 X1 ++ [.int .u8 (fl : Nat)] ++ numL .u8 X2 ++ numL .u8 X3)) := hown7; clear hown7 hg7 hat7 HO6 HS6 HB6 hz6)
  obtain ⟨H0, hH0⟩ : ∃ H0, H0 = markB 1 ++ (X1 ++ ([fl] ++ (X2 ++ (X3 ++ [])))) := ⟨_, rfl⟩
  have HO8 : Hid (w7.ownsRow w.heap.size 5 1 v7 (5 + x1 + 1 + x2 + x3) (numL .u8 H0)) := by
    rw [hH0, show numL .u8 (markB 1 ++ (X1 ++ ([fl] ++ (X2 ++ (X3 ++ []))))) = numL .u8 (markB 1) ++ numL .u8 X1 ++ [.int .u8 (fl : Nat)] ++ numL .u8 X2 ++ numL .u8 X3 by simp [numL]]
    exact HO7.out
  have HHL : Hid (H0.length = 5 + x1 + 1 + x2 + x3) := by show _ = _; rw [hH0, HX1.out, HX2.out, HX3.out]; simp [markB]; omega
  have HJ0 : Hid (H0 ++ ((ps.map Part.ls).drop 0).flatten = J) := by show _ = _; rw [HJ.out, hH0, List.drop_zero]
  clear HO7 hH0 HX1 HX2 HX3 HJ
  go_loopw [11, 12] (fun ov iv wx => ∃ (k q : Nat) (OUT : List Nat), k ≤ g ∧ q ≤ 50000 ∧ iv = .int .i64 k ∧ Hid (OUT.length = q) ∧ Hid (OUT ++ ((ps.map Part.ls).drop k).flatten = J) ∧ Hid (wx.ownsRow w.heap.size 5 1 ov q (numL .u8 OUT)) ∧ Hid (Below w.heap.size w wx)) (fun _ iv _ => g - (intOf iv).toNat)
  case atStart => exact ⟨0, 5 + x1 + 1 + x2 + x3, H0, by omega, by omega, rfl, HHL.out, HJ0.out, HO8.out, HB7.out⟩
  case round =>
    clear HO8 HB7 HHL HJ0
    obtain ⟨k, q, OUT, hk, hq, rfl, HQ, HF, HOx, HB⟩ := hrel
    have hz := HB.out.size
    by_cases hlt : k < g
    · have hkl : k < ps.length := by rw [HPL.out]; exact hlt
      have hdr : (ps.map Part.ls).drop k = (ps[k]).ls :: (ps.map Part.ls).drop (k + 1) := by
        rw [List.drop_eq_getElem_cons (by rw [List.length_map]; exact hkl), List.getElem_map]
      have hf := HF.out
      rw [hdr, List.flatten_cons] at hf
      have HOw : Hid (wr.ownsRow base 29 1 (.slice AF g cF) g (ps.map Part.v)) := own_kept HO.out (fun y hy => HB.out.block y (World.ownsRow.lt HO.out y hy).2)
      obtain ⟨gf, gc, hAF, hgb, _⟩ := HOw.out.form (by omega)
      injection hAF with e1 e2 e3
      subst e1 e3
      have hpk : (ps.map Part.v)[k]? = some (ps[k]).v := by rw [List.getElem?_map, List.getElem?_eq_getElem hkl]; rfl
      have cg : wr.cell? ⟨gf, k, none⟩ = some (ps[k]).v := (Lz.own_cells HOw.out hlt).1.trans hpk
      have hpo := (HFS.out.step (by have := HB.out; exact ⟨this.os, this.tape, this.output, this.size, fun y hy => this.block y hy⟩ : Below w.heap.size w wr)) ps[k] (List.getElem_mem hkl)
      have hbl : (ps[k]).ls.length ≤ 45000 := Nat.le_trans (flat_le (List.mem_map.2 ⟨ps[k], List.getElem_mem hkl, rfl⟩)) HT.out
      have hql : q + (ps[k]).ls.length ≤ 50000 := by
        have e := congrArg List.length hf
        rw [List.length_append, List.length_append, HQ.out, ← HJL.out] at e
        omega
      generalize ps[k] = p at *
      obtain ⟨pA, pc, pls⟩ := p
      simp only [Part.v] at cg hpo hql hf hbl
      have HS9 : Hid (Src wr pA pls.length pc 1 (numL .u8 pls)) := src_row7 hpo
      obtain ⟨pl, hpl⟩ : ∃ pl, pl = pls.length := ⟨_, rfl⟩
      rw [← hpl] at cg HS9 hql hbl
      have HPLS := Lib.hid hpl
      have HF2 := Lib.hid hf
      have x0 : (0 : Int) ≤ (k : Int) := by omega
      have x1' : (k : Int) < (g : Int) := by omega
      clear hkl hdr hf HF hpk hpo hpl
      go_wp2_with (at_builtin; refine wpList_app rfl (.tmp 39) (.tmp 43) 29 rfl w.heap.size 5 j0 _ 1 1 Tryz.underlying29 hj0 hy0 hy1 hy2 rfl (by decide) _ _ _ (by rfl) HOx.out _ _ _ _ (by rfl) HS9.out (numL_one _ _) (by unfold maxLen; omega) (by omega) hz ?_; intro v8 w8 hown8 hg8 hat8)
      have HB8 : Hid (Below w.heap.size w w8) := HB.out.grown hg8 hz (fun y hy => (World.ownsRow.lt HOx.out y hy).1)
      have HO9 : Hid (w8.ownsRow w.heap.size 5 1 v8 (q + pl) (numL .u8 (OUT ++ pls))) := by rw [show numL .u8 (OUT ++ pls) = numL .u8 OUT ++ numL .u8 pls by simp [numL]]; exact hown8
      clear hown8 hg8 hat8
      go_roundw
      case measure => go_light; simp [intOf]; omega
      case rel => go_light; exact ⟨k + 1, q + pl, OUT ++ pls, by omega, hql, by first | rfl | go_num, by show _ = _; rw [List.length_append, HQ.out, HPLS.out], by show _ = _; rw [List.append_assoc]; exact HF2.out, HO9.out, HB8.out⟩
    · obtain rfl : k = g := by omega
      have hf := HF.out
      rw [List.drop_of_length_le (by rw [List.length_map, HPL.out]; exact Nat.le_refl _), List.flatten_nil, List.append_nil] at hf
      subst hf
      obtain ⟨A8, c8, rfl⟩ := own_shape HOx.out
      have P8 : Hid (Part.Ok (⟨A8, c8, OUT⟩ : Part) wr) := part_own HOx.out HQ.out
      have E8 := Lib.hid (rput_any wr A8 q c8 OUT HQ.out (by omega) (by have h := P8.out.nil; rw [HQ.out] at h; exact h) HJ8.out (by have h := P8.out.row; simp only [HQ.out] at h; exact h))
      unfold PutPost at E8
      clear HF
      go_wp2_with fail
      refine E8.out.mono ?_
      rintro e w8 ⟨v8, rfl, ho8, hb8⟩
      have HO9 := Lib.hid (own_mono ho8 HB.out.size)
      have HB8 := Lib.hid (bel_step0 hb8 HB.out)
      clear ho8 hb8 E8
      go_wp2_with fail
      go_ret
      refine ⟨_, rfl, ?_, HB8.out⟩
      have h := HO9.out
      have e2 : (OUT ++ tailN (sumN OUT)).length = OUT.length + 4 := by rw [List.length_append]; rfl
      rw [e2, HQ.out]
      rw [HQ.out] at h
      exact h
end Go.Proofs.YtidclmmnfienlaaGreatDoor.One

namespace Go.Proofs.YtidclmmnfienlaaGreatDoor.One
open Go.RowKit Go.Proofs.YtidclmmnfienlaaGreatDoor.Mem Go.Proofs.YtidclmmnfienlaaGreatDoor.Own Go.Proofs.YtidclmmnfienlaaGreatDoor.Canon Go.Proofs.YtidclmmnfienlaaGreatDoor.NumPut Go.Proofs.YtidclmmnfienlaaGreatDoor.Crc
open Go.Proofs.YtidclmmnfienlaaGreatDoor.Recs Go.Proofs.YtidclmmnfienlaaGreatDoor.Opts
open Go.Proofs.YtidclmmnfienlaaGreatDoor.Block (frameB part_own)

def packE (o : Opt) (l : List Rec) : Int := if optE o ≠ 0 then optE o else if chkE l ≠ 0 then chkE l else 0
def packR (o : Opt) (l : List Rec) : List Nat := if packE o l = 0 then packB o l else []
def PacksPost (o : Opt) (l : List Rec) (w : World) (e : Ending) (w' : World) : Prop :=
  ∃ v, e = .returned (.tuple #[v, .int .i64 (packE o l)]) ∧ w'.ownsRow w.heap.size 5 1 v (packR o l).length (numL .u8 (packR o l)) ∧ Below w.heap.size w w'
theorem chkE_six {l : List Rec} (h : chkE l ≠ 0) : chkE l = 6 := by
  unfold chkE at h ⊢
  split
  · rfl
  · split
    · rfl
    · split
      · rfl
      · rename_i h1 h2 h3
        rw [if_neg h1, if_neg h2, if_neg h3] at h
        exact absurd rfl h
theorem optE_nine {o : Opt} (h : optE o ≠ 0) : optE o = 9 := by
  unfold optE at h ⊢
  split
  · rename_i h1
    rw [if_pos h1] at h
    exact absurd rfl h
  · rfl
set_option maxHeartbeats 1000000 in
set_option maxRecDepth 100000 in
theorem packs_any (w : World) (o : Opt) (A : Option Addr) (n c : Nat) (l : List Rec) (hn : l.length = n) (hN : n ≤ 9223372036854775807) (hc : n ≤ c) (hok : ∀ r ∈ l, RecOk r) (hcd : chkE l = 0 → n ≤ 1000 ∧ (bytesB true l).length ≤ 16000) (ht : TabAt w) (ha : Row w w.heap.size A n 4 (recF l)) :
    Calls Tryz.prog 12 #[o.val, .slice A n c] w (PacksPost o l w) := by
  by_cases ho : optE o = 0
  · by_cases hk : chkE l = 0
    · obtain ⟨h1, h2⟩ := hcd hk
      have hE : packE o l = 0 := by unfold packE; rw [if_neg (by simp [ho]), if_neg (by simp [hk])]
      have hR : packR o l = packB o l := if_pos hE
      unfold PacksPost
      rw [hE, hR]
      exact pack_any w o A n c l ho hn h1 hc hok hk h2 ht ha
    · have h6 := chkE_six hk
      have hE : packE o l = 6 := by unfold packE; rw [if_neg (by simp [ho]), if_pos hk, h6]
      have hR : packR o l = [] := if_neg (by rw [hE]; simp)
      have D1 := Lib.hid (fun wx => ocheck_any wx o)
      rw [ho] at D1
      have D2 := Lib.hid (fun wx (hx : Below w.heap.size w wx) => rcheck_any wx A n c l hn hN ((ha.below hx).mono hx.size))
      rw [h6] at D2
      unfold PacksPost
      rw [hE, hR]
      unfold Opt.val at D1 ⊢
      clear hcd ht ha hok hn hk h6 hE hR ho
      go_enter Tryz.func12, Tryz.ntmps12
      go_wp2_with fail
      refine (D1.out _).mono ?_
      rintro e w1 ⟨rfl, hb1⟩
      have B1 : Hid (Below w.heap.size w w1) := bel_step0 hb1 (bel_alloc0 (Below.refl _ _))
      have E2 := Lib.hid (D2.out w1 B1.out)
      clear hb1 D1 D2
      go_wp2_with fail
      refine E2.out.mono ?_
      rintro e w2 ⟨rfl, hb2⟩
      have B2 : Hid (Below w.heap.size w w2) := bel_step0 hb2 B1.out
      clear hb2 E2 B1
      go_wp2_with fail
      go_ret2
      exact ⟨_, rfl, World.ownsRow_nil _ _ _ _, B2.out⟩
  · have h9 := optE_nine ho
    have hE : packE o l = 9 := by unfold packE; rw [if_pos ho, h9]
    have hR : packR o l = [] := if_neg (by rw [hE]; simp)
    have D1 := Lib.hid (fun wx => ocheck_any wx o)
    rw [h9] at D1
    unfold PacksPost
    rw [hE, hR]
    unfold Opt.val at D1 ⊢
    clear hcd ht ha hok hn hE hR ho h9
    go_enter Tryz.func12, Tryz.ntmps12
    go_wp2_with fail
    refine (D1.out _).mono ?_
    rintro e w1 ⟨rfl, hb1⟩
    have B1 : Hid (Below w.heap.size w w1) := bel_step0 hb1 (bel_alloc0 (Below.refl _ _))
    clear hb1 D1
    go_wp2_with fail
    go_ret2
    exact ⟨_, rfl, World.ownsRow_nil _ _ _ _, B1.out⟩
set_option maxHeartbeats 1000000 in
set_option maxRecDepth 100000 in
theorem rpack_any (w : World) (o : Opt) (A : Option Addr) (n c : Nat) (l : List Rec) (ho : optE o = 0) (hn : l.length = n) (hN : n ≤ 1000) (hc : n ≤ c) (hok : ∀ r ∈ l, RecOk r) (hk : chkE l = 0) (hb : (bytesB true l).length ≤ 16000) (ht : TabAt w) (ha : Row w w.heap.size A n 4 (recF l)) :
    Calls Tryz.prog 13 #[o.val, .slice A n c] w (PackPost o l w) := by
  obtain ⟨hb1, hb2⟩ := optE_ok ho
  have hgl := counts_len o l
  have D1 := Lib.hid (fun wx => rocheck_any wx o)
  rw [ho] at D1
  have D2 := Lib.hid (fun wx (hx : Below w.heap.size w wx) => refcheck_any wx A n c l hn (by omega) ((ha.below hx).mono hx.size))
  rw [hk] at D2
  have D3 := Lib.hid (fun wx (hx : Below w.heap.size w wx) => rframes_any wx o A n c l ho hn hN hc hok hk hb (ht.step hx) ((ha.below hx).mono hx.size))
  have D4 := Lib.hid (fun wx => rflag_any wx o.plain)
  have hflat : ∀ (G : List Nat) (l : List Rec), (∀ r ∈ l, RecOk r) → (bytesB true l).length ≤ 16000 → (framesP o.plain G l).flatten.length ≤ (bytesB true l).length + 25 * G.length := by
    intro G
    induction G with
    | nil => intro l _ _; simp [framesP]
    | cons m t ih =>
      intro l h1 h2
      have hsp := bytesB_split true l m
      have i1 := ih (l.drop m) (fun r hr => h1 r (List.mem_of_mem_drop hr)) (by omega)
      have i2 := frame_max o.plain (bs := bytesB true (l.take m)) (by omega)
      rw [framesP, List.flatten_cons, List.length_append, List.length_cons]
      omega
  have hT := hflat (countsO o l) l hok hb
  have h8 := frames_u8 o.plain (countsO o l) l hok
  have hfl : flagN o.plain ≤ 1 := by unfold flagN; split <;> omega
  have hB : packB o l = joinB o.block.toNat (flagN o.plain) n (countsO o l).length (framesP o.plain (countsO o l) l) ++ tailN (sumN (joinB o.block.toNat (flagN o.plain) n (countsO o l).length (framesP o.plain (countsO o l) l))) := by
    unfold packB bodyO headO joinB
    rw [hn]
  have D5 := Lib.hid (fun wx base AF cF ps (hpl : ps.length = (countsO o l).length) (hls : ps.map Part.ls = framesP o.plain (countsO o l) l) => rjoin_any wx o.block.toNat (flagN o.plain) n (countsO o l).length base AF cF ps (by omega) hfl (by omega) (by omega) hpl (by rw [hls]; omega) (by rw [hls]; exact h8))
  unfold PackPost
  unfold FramesPost at D3
  rw [hB]
  clear hflat hT h8 hB ho hn hok hk hb ht ha hgl
  obtain ⟨blk, pl, bu, da, pa, ch⟩ := o
  simp only at *
  obtain ⟨S, rfl⟩ := Int.eq_ofNat_of_zero_le (show 0 ≤ blk by omega)
  rw [frames_length] at D3
  simp only [Int.toNat_natCast] at D5 ⊢
  generalize framesP pl (countsO ⟨(S : Nat), pl, bu, da, pa, ch⟩ l) l = FR at *
  generalize (countsO ⟨(S : Nat), pl, bu, da, pa, ch⟩ l).length = g at *
  generalize flagN pl = fl at *
  obtain ⟨PKL, hPKL⟩ : ∃ PKL, PKL = joinB S fl n g FR ++ tailN (sumN (joinB S fl n g FR)) := ⟨_, rfl⟩
  have HPKL := Lib.hid hPKL
  rw [← hPKL]
  clear hPKL
  unfold Opt.val at D1 D3 ⊢
  simp only at D1 D3 ⊢
  go_enter Tryz.func13, Tryz.ntmps13
  go_wp2_with fail
  have hba : Blk (w.alloc (.cells #[.int .i64 S, .bool pl, .int .i64 bu, .int .i64 da, .int .i64 pa, .int .i64 ch] 23)) w.heap.size 23 #[.int .i64 S, .bool pl, .int .i64 bu, .int .i64 da, .int .i64 pa, .int .i64 ch] := Blk.made _ _ _
  have hbw : Below w.heap.size w (w.alloc (.cells #[.int .i64 S, .bool pl, .int .i64 bu, .int .i64 da, .int .i64 pa, .int .i64 ch] 23)) := bel_alloc0 (Below.refl _ _)
  have hzw : (w.alloc (.cells #[.int .i64 S, .bool pl, .int .i64 bu, .int .i64 da, .int .i64 pa, .int .i64 ch] 23)).heap.size = w.heap.size + 1 := by simp
  generalize w.alloc (.cells #[.int .i64 S, .bool pl, .int .i64 bu, .int .i64 da, .int .i64 pa, .int .i64 ch] 23) = wa at *
  have hzw2 : w.heap.size < wa.heap.size := by omega
  have HWA : Hid (∀ wx, Below wa.heap.size wa wx → Below w.heap.size w wx) := fun wx h => hbw.trans (h.mono hbw.size)
  have HBA := Lib.hid hba
  clear hba hbw hzw
  refine (D1.out _).mono ?_
  rintro e w1 ⟨rfl, hb1'⟩
  have B1 := Lib.hid hb1'
  have E2 := Lib.hid (D2.out w1 (HWA.out _ hb1'))
  clear hb1' D1 D2
  go_wp2_with fail
  refine E2.out.mono ?_
  rintro e w2 ⟨rfl, hb2'⟩
  have B2 : Hid (Below wa.heap.size wa w2) := bel_step0 hb2' B1.out
  have E3 := Lib.hid (D3.out w2 (HWA.out _ B2.out))
  have HB2b := Lib.hid (HBA.out.step B2.out)
  have k0 := HB2b.out.cell 0
  have k1 := HB2b.out.cell 1
  have k2 := HB2b.out.cell 2
  have k3 := HB2b.out.cell 3
  have k4 := HB2b.out.cell 4
  have k5 := HB2b.out.cell 5
  simp only [List.getElem?_toArray, List.getElem?_cons_zero, List.getElem?_cons_succ] at k0 k1 k2 k3 k4 k5
  clear hb2' E2 D3 B1 HB2b
  go_wp2_with fail
  refine E3.out.mono ?_
  rintro e w3 ⟨vF, ps, rfl, hoF, hfs, hls, hb3⟩
  obtain ⟨AF, cF, rfl⟩ := own_shape hoF
  have B3 : Hid (Below wa.heap.size wa w3) := bel_step0 hb3 B2.out
  have hpl : ps.length = g := by
    have h := hoF.1
    rw [List.length_map, Nat.mul_one] at h
    exact h
  have HLS := Lib.hid hls
  have E5 := Lib.hid (fun wx => D5.out wx w2.heap.size AF cF ps hpl hls)
  rw [HLS.out, ← HPKL.out] at E5
  have HOF := Lib.hid hoF
  have HFS := Lib.hid hfs
  have HB3b := Lib.hid (HBA.out.step B3.out)
  have k0 := HB3b.out.cell 0
  have k1 := HB3b.out.cell 1
  simp only [List.getElem?_toArray, List.getElem?_cons_zero, List.getElem?_cons_succ] at k0 k1
  have HBW3 := Lib.hid (HWA.out _ B3.out)
  have E6 := Lib.hid (fun wx (h : Below w3.heap.size w3 wx) => E5.out wx (own_kept HOF.out (fun y hy => h.block y (World.ownsRow.lt HOF.out y hy).2)) (HFS.out.step h))
  clear hb3 hoF hfs hls hpl E3 B2 k2 k3 k4 k5 D5 E5
  go_upto_region 7 with fail
  go_region_held3 (fun wx => wx.cell? ⟨w.heap.size, 0, none⟩ = some (.int .i64 S) ∧ wx.cell? ⟨w.heap.size, 1, none⟩ = some (.bool pl)) (first | exact ⟨k0, k1⟩ | exact k9) (first | (go_at_call 38; (with_reducible refine (D4.out _).mono ?_); rintro e wF ⟨rfl, rfl⟩) | (go_at_call 37; (refine (E6.out _ (Below.drew (Below.refl _ _))).mono ?_); rintro e w7 ⟨v7, rfl, ho7, hb7⟩; obtain ⟨A7, c7, rfl⟩ := own_shape ho7; have B7 : Below w3.heap.size w3 w7 := bel_step0 hb7 (by (repeat (first | (with_reducible exact Below.refl _ _) | (with_reducible assumption) | (with_reducible refine Below.drew ?_) | (with_reducible refine below_drewN ?_ _) | ((with_reducible refine bel_set ?_ ?_); (focus (first | (simp; done) | (simp; omega) | omega | (simp at *; omega)))) | (with_reducible refine bel_alloc0 ?_) | (with_reducible refine bel_step0 (by assumption) ?_) | ((with_reducible refine bel_alloc ?_ ?_); (focus (first | (simp; done) | (simp; omega) | omega | (simp at *; omega)))) | ((with_reducible refine bel_step (by assumption) ?_ ?_); (focus (first | (simp; done) | (simp; omega) | omega | (simp at *; omega))))))); have k9 : w7.cell? ⟨w.heap.size, 0, none⟩ = some (.int .i64 S) ∧ w7.cell? ⟨w.heap.size, 1, none⟩ = some (.bool pl) := ⟨(HB3b.out.step B7).cell 0, (HB3b.out.step B7).cell 1⟩))
  all_goals
    have HO7 := Lib.hid (own_mono ho7 (show w.heap.size ≤ _ by have := HBW3.out.size; first | omega | (simp; omega)))
    have HB7 : Hid (Below w.heap.size w w7) := HBW3.out.trans (B7.mono HBW3.out.size)
    clear ho7 hb7 B7 k9 k0 k1
    go_wp2_with fail
    go_ret2
    exact ⟨_, rfl, HO7.out, HB7.out⟩
theorem weight_nonneg : ∀ l : List Rec, 0 ≤ weight l
  | [] => by simp [weight_nil]
  | r :: l => by
    have ih := weight_nonneg l
    have e : weight (r :: l) = weigh r + weight l := by
      simp only [weight, List.map_cons, List.foldl_cons]
      rw [foldl_add]
      omega
    rw [e]
    unfold weigh
    omega
theorem bytes_great {l : List Rec} {n : Nat} (hn : l.length = n) (hok : ∀ r ∈ l, RecOk r) (hk : chkE l = 0) (h1 : (n : Int) ≤ 60) (h2 : weight l ≤ 4000) : (bytesB true l).length ≤ 16000 := by
  have := bytesB_len true hok (chkE_ok hk)
  rw [hn] at this
  omega
set_option maxHeartbeats 1000000 in
set_option maxRecDepth 100000 in
theorem rpacks_any (w : World) (o : Opt) (A : Option Addr) (n c : Nat) (l : List Rec) (hn : l.length = n) (hN : n ≤ 9223372036854775807) (hc : n ≤ c) (hok : ∀ r ∈ l, RecOk r) (hcd : chkE l = 0 → n ≤ 1000 ∧ (bytesB true l).length ≤ 16000) (ht : TabAt w) (ha : Row w w.heap.size A n 4 (recF l)) :
    Calls Tryz.prog 13 #[o.val, .slice A n c] w (PacksPost o l w) := by
  by_cases ho : optE o = 0
  · by_cases hk : chkE l = 0
    · obtain ⟨h1, h2⟩ := hcd hk
      have hE : packE o l = 0 := by unfold packE; rw [if_neg (by simp [ho]), if_neg (by simp [hk])]
      have hR : packR o l = packB o l := if_pos hE
      unfold PacksPost
      rw [hE, hR]
      exact rpack_any w o A n c l ho hn h1 hc hok hk h2 ht ha
    · have h6 := chkE_six hk
      have hE : packE o l = 6 := by unfold packE; rw [if_neg (by simp [ho]), if_pos hk, h6]
      have hR : packR o l = [] := if_neg (by rw [hE]; simp)
      have D1 := Lib.hid (fun wx => rocheck_any wx o)
      rw [ho] at D1
      have D2 := Lib.hid (fun wx (hx : Below w.heap.size w wx) => refcheck_any wx A n c l hn hN ((ha.below hx).mono hx.size))
      rw [h6] at D2
      unfold PacksPost
      rw [hE, hR]
      unfold Opt.val at D1 ⊢
      clear hcd ht ha hok hn hk h6 hE hR ho
      go_enter Tryz.func13, Tryz.ntmps13
      go_wp2_with fail
      refine (D1.out _).mono ?_
      rintro e w1 ⟨rfl, hb1⟩
      have B1 : Hid (Below w.heap.size w w1) := bel_step0 hb1 (bel_alloc0 (Below.refl _ _))
      have E2 := Lib.hid (D2.out w1 B1.out)
      clear hb1 D1 D2
      go_wp2_with fail
      refine E2.out.mono ?_
      rintro e w2 ⟨rfl, hb2⟩
      have B2 : Hid (Below w.heap.size w w2) := bel_step0 hb2 B1.out
      clear hb2 E2 B1
      go_wp2_with fail
      go_ret2
      exact ⟨_, rfl, World.ownsRow_nil _ _ _ _, B2.out⟩
  · have h9 := optE_nine ho
    have hE : packE o l = 9 := by unfold packE; rw [if_pos ho, h9]
    have hR : packR o l = [] := if_neg (by rw [hE]; simp)
    have D1 := Lib.hid (fun wx => rocheck_any wx o)
    rw [h9] at D1
    unfold PacksPost
    rw [hE, hR]
    unfold Opt.val at D1 ⊢
    clear hcd ht ha hok hn hE hR ho h9
    go_enter Tryz.func13, Tryz.ntmps13
    go_wp2_with fail
    refine (D1.out _).mono ?_
    rintro e w1 ⟨rfl, hb1⟩
    have B1 : Hid (Below w.heap.size w w1) := bel_step0 hb1 (bel_alloc0 (Below.refl _ _))
    clear hb1 D1
    go_wp2_with fail
    go_ret2
    exact ⟨_, rfl, World.ownsRow_nil _ _ _ _, B1.out⟩
/-- The example's archive. -/
def exO : Opt := ⟨16, false, 0, 0, 0, 0⟩
theorem ex_body : bodyO exO [] = [70, 73, 82, 75, 1, 16, 0, 0, 0] := by
  unfold bodyO headO countsO
  simp [lensB, groupsP, framesP, markB, flagN, exO, numB_low]
theorem packB_u8 {o : Opt} {l : List Rec} (hok : ∀ r ∈ l, RecOk r) : ∀ x ∈ packB o l, x ≤ 255 := by
  intro x hx
  unfold packB at hx
  rcases List.mem_append.1 hx with hx | hx
  · unfold bodyO headO at hx
    rcases List.mem_append.1 hx with hx | hx
    · exact head_u8 (by unfold flagN; split <;> omega) x hx
    · exact frames_u8 _ _ _ hok x hx
  · have := tail_bytes _ x hx; omega
theorem packR_u8 {o : Opt} {l : List Rec} (hok : ∀ r ∈ l, RecOk r) : ∀ x ∈ packR o l, x ≤ 255 := by
  unfold packR
  split
  · exact packB_u8 hok
  · intro x hx; cases hx
set_option maxHeartbeats 1000000 in
set_option maxRecDepth 100000 in
theorem alive21 (w : World) (ht : TabAt w) : Calls Tryz.prog 9 #[] w fun e w' => e = .returned (.bool true) ∧ Below w.heap.size w w' := by
  have D1 := Lib.hid (pack_any w exO none 0 0 [] (by decide) rfl (by omega) (Nat.le_refl _) (by simp) (by decide) (by simp [bytesB]) ht Row.zero)
  unfold PackPost packB at D1
  rw [ex_body] at D1
  unfold Opt.val exO at D1
  simp only at D1
  have D2 : Hid (∀ wx : World, Calls Tryz.prog 25 #[.slice (some ⟨wx.heap.size, 0, none⟩) 9 9] (wx.alloc (.cells #[.int .u8 70, .int .u8 73, .int .u8 82, .int .u8 75, .int .u8 1, .int .u8 16, .int .u8 0, .int .u8 0, .int .u8 0] 5)) (PutPost [70, 73, 82, 75, 1, 16, 0, 0, 0] (wx.alloc (.cells #[.int .u8 70, .int .u8 73, .int .u8 82, .int .u8 75, .int .u8 1, .int .u8 16, .int .u8 0, .int .u8 0, .int .u8 0] 5)))) := fun wx => by
    have hk3 : Blk (wx.alloc (.cells #[.int .u8 70, .int .u8 73, .int .u8 82, .int .u8 75, .int .u8 1, .int .u8 16, .int .u8 0, .int .u8 0, .int .u8 0] 5)) wx.heap.size 5 #[.int .u8 70, .int .u8 73, .int .u8 82, .int .u8 75, .int .u8 1, .int .u8 16, .int .u8 0, .int .u8 0, .int .u8 0] := Blk.made _ _ _
    exact rput_any _ (some ⟨wx.heap.size, 0, none⟩) 9 9 [70, 73, 82, 75, 1, 16, 0, 0, 0] rfl (by omega) (fun e => by cases e) (by decide) (Row.of_blk hk3 hk3.lt fun i j hi hj => by
      obtain rfl : j = 0 := by omega
      match i, hi with
      | 0, _ => rfl
      | 1, _ => rfl
      | 2, _ => rfl
      | 3, _ => rfl
      | 4, _ => rfl
      | 5, _ => rfl
      | 6, _ => rfl
      | 7, _ => rfl
      | 8, _ => rfl)
  unfold PutPost at D2
  have hl : ([70, 73, 82, 75, 1, 16, 0, 0, 0] ++ tailN (sumN [70, 73, 82, 75, 1, 16, 0, 0, 0])).length = 13 := rfl
  have hF8 : ∀ x ∈ [70, 73, 82, 75, 1, 16, 0, 0, 0] ++ tailN (sumN [70, 73, 82, 75, 1, 16, 0, 0, 0]), x ≤ 255 := fun x hx => by
    rcases List.mem_append.1 hx with h | h
    · revert x; decide
    · have := tail_bytes _ x h; omega
  rw [hl] at D1
  have e9 : ([70, 73, 82, 75, 1, 16, 0, 0, 0] : List Nat).length + 4 = 13 := rfl
  rw [e9] at D2
  generalize [70, 73, 82, 75, 1, 16, 0, 0, 0] ++ tailN (sumN [70, 73, 82, 75, 1, 16, 0, 0, 0]) = F at *
  have DS : Hid (∀ (wx wa : World) Ax cx Ay cy, wa.ownsRow w.heap.size 5 1 (.slice Ax 13 cx) 13 (numL .u8 F) → Below wa.heap.size wa wx → (∃ b, wx.ownsRow b 5 1 (.slice Ay 13 cy) 13 (numL .u8 F)) → Calls Tryz.prog 14 #[.slice Ax 13 cx, .slice Ay 13 cy] wx fun e w' => e = .returned (.bool true) ∧ wx = w') := fun wx wa Ax cx Ay cy hx hb ⟨b, hy⟩ => by
    have P := (part_own hx hl).step hb
    have Q := part_own hy hl
    have p1 := P.row
    have q1 := Q.row
    simp only [hl] at p1 q1
    refine (Huff.same_any wx Ax Ay 13 13 cx cy F F hl hl (fun e => hl.symm.trans (P.nil e).1) (fun e => hl.symm.trans (Q.nil e).1) hF8 hF8 p1 q1).mono ?_
    rintro e w' ⟨rfl, rfl⟩
    exact ⟨by simp, rfl⟩
  clear hl hF8 e9 ht
  go_enter Tryz.func9, Tryz.ntmps9
  go_wp2_with fail
  refine D1.out.mono ?_
  rintro e w1 ⟨v1, rfl, ho1, hb1⟩
  obtain ⟨A1, c1, rfl⟩ := own_shape ho1
  have HO1 := Lib.hid ho1
  have HB1 := Lib.hid hb1
  have E2 := Lib.hid (D2.out w1)
  clear ho1 hb1 D1 D2
  go_wp2_with fail
  refine E2.out.mono ?_
  rintro e w2 ⟨v2, rfl, ho2, hb2⟩
  obtain ⟨A2, c2, rfl⟩ := own_shape ho2
  have HB2 : Hid (Below w1.heap.size w1 w2) := bel_step0 hb2 (bel_alloc0 (Below.refl _ _))
  have E3 := Lib.hid (DS.out w2 w1 A1 c1 A2 c2 HO1.out HB2.out ⟨_, ho2⟩)
  clear ho2 hb2 E2 DS HO1
  go_wp2_with fail
  refine E3.out.mono ?_
  rintro e w3 ⟨rfl, rfl⟩
  go_wp2_with fail
  go_ret
  exact ⟨rfl, bel_step0 HB2.out HB1.out⟩
set_option maxHeartbeats 2000000 in
set_option maxRecDepth 100000 in
theorem law_packs (w : World) (o : Opt) (A : Option Addr) (n c : Nat) (l : List Rec) (hn : l.length = n) (hN : n ≤ 9223372036854775807) (hc : n ≤ c) (hok : ∀ r ∈ l, RecOk r) (ht : TabAt w) (ha : Row w w.heap.size A n 4 (recF l)) :
    Calls Tryz.prog 3 #[o.val, .slice A n c] w fun e w' => e = .returned (.bool true) ∧ Below w.heap.size w w' := by
  have D0 := Lib.hid (fun wx (hx : Below w.heap.size w wx) => alive21 wx (ht.step hx))
  have D1 := Lib.hid (fun wx (hx : Below w.heap.size w wx) => refcheck_any wx A n c l hn hN ((ha.below hx).mono hx.size))
  have D2 := Lib.hid (fun wx (hx : Below w.heap.size w wx) => ref_great wx A n c l 30 1500 (by omega) hn hN ((ha.below hx).mono hx.size))
  have D3 := Lib.hid (fun wx (hx : Below w.heap.size w wx) (hcd : chkE l = 0 → n ≤ 1000 ∧ (bytesB true l).length ≤ 16000) => packs_any wx o A n c l hn hN hc hok hcd (ht.step hx) ((ha.below hx).mono hx.size))
  have D4 := Lib.hid (fun wx (hx : Below w.heap.size w wx) (hcd : chkE l = 0 → n ≤ 1000 ∧ (bytesB true l).length ≤ 16000) => rpacks_any wx o A n c l hn hN hc hok hcd (ht.step hx) ((ha.below hx).mono hx.size))
  have hR8 := packR_u8 (o := o) hok
  have HCD : Hid ((n : Int) ≤ 30 ∧ weight l ≤ 1500 → chkE l = 0 → n ≤ 1000 ∧ (bytesB true l).length ≤ 16000) := fun h hk => ⟨by omega, bytes_great hn hok hk (by omega) (by omega)⟩
  unfold PacksPost at D3 D4
  unfold GreatPost at D2
  generalize packE o l = E at *
  generalize packR o l = R at *
  obtain ⟨L, hL⟩ : ∃ L, L = R.length := ⟨_, rfl⟩
  have HRL : Hid (R.length = L) := hL.symm
  rw [← hL] at D3 D4
  have DS : Hid (∀ (wx : World) Ax cx Ay cy, Part.Ok (⟨Ax, cx, R⟩ : Part) wx → Part.Ok (⟨Ay, cy, R⟩ : Part) wx → Calls Tryz.prog 14 #[.slice Ax L cx, .slice Ay L cy] wx fun e w' => e = .returned (.bool true) ∧ wx = w') := fun wx Ax cx Ay cy P Q => by
    have p1 := P.row
    have q1 := Q.row
    simp only [HRL.out] at p1 q1
    refine (Huff.same_any wx Ax Ay L L cx cy R R hL.symm hL.symm (fun e => hL.trans (P.nil e).1) (fun e => hL.trans (Q.nil e).1) hR8 hR8 p1 q1).mono ?_
    rintro e w' ⟨rfl, rfl⟩
    exact ⟨by simp, rfl⟩
  obtain ⟨S, pl, bu, da, pa, ch⟩ := o
  unfold Opt.val at D3 D4 ⊢
  simp only at D3 D4 ⊢
  have ge : (E == E) = true := by simp
  by_cases hk : chkE l = 0
  · rw [hk] at D1
    have HK := Lib.hid hk
    clear hn hok ht ha hk hR8 hL
    go_enter Tryz.func3, Tryz.ntmps3
    go_wp2_with fail
    have hba : Blk (w.alloc (.cells #[.int .i64 S, .bool pl, .int .i64 bu, .int .i64 da, .int .i64 pa, .int .i64 ch] 23)) w.heap.size 23 #[.int .i64 S, .bool pl, .int .i64 bu, .int .i64 da, .int .i64 pa, .int .i64 ch] := Blk.made _ _ _
    have hbw : Below w.heap.size w (w.alloc (.cells #[.int .i64 S, .bool pl, .int .i64 bu, .int .i64 da, .int .i64 pa, .int .i64 ch] 23)) := bel_alloc0 (Below.refl _ _)
    generalize w.alloc (.cells #[.int .i64 S, .bool pl, .int .i64 bu, .int .i64 da, .int .i64 pa, .int .i64 ch] 23) = wa at *
    have HWA : Hid (∀ wx, Below wa.heap.size wa wx → Below w.heap.size w wx) := fun wx h => hbw.trans (h.mono hbw.size)
    have HBA := Lib.hid hba
    have HBW := Lib.hid hbw
    clear hba hbw
    refine (D0.out wa HBW.out).mono ?_
    rintro e w1 ⟨rfl, hb1⟩
    have B1 : Hid (Below wa.heap.size wa w1) := hb1
    have E1 := Lib.hid (D1.out w1 (HWA.out _ B1.out))
    clear hb1 D0 D1
    go_wp2_with fail
    refine E1.out.mono ?_
    rintro e w2 ⟨rfl, hb2⟩
    have B2 : Hid (Below wa.heap.size wa w2) := bel_step0 hb2 B1.out
    have E2 := Lib.hid (D2.out w2 (HWA.out _ B2.out))
    clear hb2 E1 D2 B1
    go_wp2_with fail
    refine E2.out.mono ?_
    rintro e w5 ⟨gr, rfl, hgr, hb5⟩
    have B5 : Hid (Below wa.heap.size wa w5) := bel_step0 hb5 B2.out
    clear hb5 E2 B2
    cases gr with
    | true =>
      clear hgr
      go_wp2_with fail
      go_ret
      exact ⟨rfl, HWA.out _ B5.out⟩
    | false =>
      have E5 := Lib.hid (D3.out w5 (HWA.out _ B5.out) (HCD.out (hgr rfl)))
      have E6A := Lib.hid (fun wx hx => D4.out wx hx (HCD.out (hgr rfl)))
      clear hgr D3 D4 HCD
      have q5 := Lib.hid (HBA.out.step B5.out)
      have k0 := q5.out.cell 0
      have k1 := q5.out.cell 1
      have k2 := q5.out.cell 2
      have k3 := q5.out.cell 3
      have k4 := q5.out.cell 4
      have k5 := q5.out.cell 5
      simp only [List.getElem?_toArray, List.getElem?_cons_zero, List.getElem?_cons_succ] at k0 k1 k2 k3 k4 k5
      clear q5
      go_wp2_with fail
      refine E5.out.mono ?_
      rintro e w6 ⟨v6, rfl, ho6, hb6⟩
      obtain ⟨A6, c6, rfl⟩ := own_shape ho6
      have B6 : Hid (Below wa.heap.size wa w6) := bel_step0 hb6 B5.out
      have P6 : Hid (Part.Ok (⟨A6, c6, R⟩ : Part) w6) := part_own ho6 HRL.out
      have E6 := Lib.hid (E6A.out w6 (HWA.out _ B6.out))
      clear ho6 hb6 E5 k0 k1 k2 k3 k4 k5 B5 E6A
      have q6 := Lib.hid (HBA.out.step B6.out)
      have k0 := q6.out.cell 0
      have k1 := q6.out.cell 1
      have k2 := q6.out.cell 2
      have k3 := q6.out.cell 3
      have k4 := q6.out.cell 4
      have k5 := q6.out.cell 5
      simp only [List.getElem?_toArray, List.getElem?_cons_zero, List.getElem?_cons_succ] at k0 k1 k2 k3 k4 k5
      clear q6
      go_wp2_with fail
      refine E6.out.mono ?_
      rintro e w7 ⟨v7, rfl, ho7, hb7⟩
      obtain ⟨A7, c7, rfl⟩ := own_shape ho7
      have B7 : Hid (Below wa.heap.size wa w7) := bel_step0 hb7 B6.out
      have P7 : Hid (Part.Ok (⟨A7, c7, R⟩ : Part) w7) := part_own ho7 HRL.out
      have E7 := Lib.hid (DS.out w7 A6 c6 A7 c7 (P6.out.step hb7) P7.out)
      clear ho7 hb7 E6 k0 k1 k2 k3 k4 k5 B6 P6 P7 DS
      go_wp2_with fail
      refine E7.out.mono ?_
      rintro e w8 ⟨rfl, rfl⟩
      go_wp2_with fail
      go_ret
      exact ⟨rfl, HWA.out _ B7.out⟩
  · have h6 := chkE_six hk
    rw [h6] at D1
    have D5 := Lib.hid (fun wx hx => D3.out wx hx (fun h => absurd h hk))
    have E6A := Lib.hid (fun wx hx => D4.out wx hx (fun h => absurd h hk))
    clear hn hok ht ha hk hR8 hL h6 D3 D4 D2 HCD
    go_enter Tryz.func3, Tryz.ntmps3
    go_wp2_with fail
    have hba : Blk (w.alloc (.cells #[.int .i64 S, .bool pl, .int .i64 bu, .int .i64 da, .int .i64 pa, .int .i64 ch] 23)) w.heap.size 23 #[.int .i64 S, .bool pl, .int .i64 bu, .int .i64 da, .int .i64 pa, .int .i64 ch] := Blk.made _ _ _
    have hbw : Below w.heap.size w (w.alloc (.cells #[.int .i64 S, .bool pl, .int .i64 bu, .int .i64 da, .int .i64 pa, .int .i64 ch] 23)) := bel_alloc0 (Below.refl _ _)
    generalize w.alloc (.cells #[.int .i64 S, .bool pl, .int .i64 bu, .int .i64 da, .int .i64 pa, .int .i64 ch] 23) = wa at *
    have HWA : Hid (∀ wx, Below wa.heap.size wa wx → Below w.heap.size w wx) := fun wx h => hbw.trans (h.mono hbw.size)
    have HBA := Lib.hid hba
    have HBW := Lib.hid hbw
    clear hba hbw
    refine (D0.out wa HBW.out).mono ?_
    rintro e w1 ⟨rfl, hb1⟩
    have B1 : Hid (Below wa.heap.size wa w1) := hb1
    have E1 := Lib.hid (D1.out w1 (HWA.out _ B1.out))
    clear hb1 D0 D1
    have q1 := Lib.hid (HBA.out.step B1.out)
    go_wp2_with fail
    refine E1.out.mono ?_
    rintro e w5 ⟨rfl, hb2⟩
    have B5 : Hid (Below wa.heap.size wa w5) := bel_step0 hb2 B1.out
    have E5 := Lib.hid (D5.out w5 (HWA.out _ B5.out))
    clear hb2 E1 B1 D5 q1
    have q5 := Lib.hid (HBA.out.step B5.out)
    have k0 := q5.out.cell 0
    have k1 := q5.out.cell 1
    have k2 := q5.out.cell 2
    have k3 := q5.out.cell 3
    have k4 := q5.out.cell 4
    have k5 := q5.out.cell 5
    simp only [List.getElem?_toArray, List.getElem?_cons_zero, List.getElem?_cons_succ] at k0 k1 k2 k3 k4 k5
    clear q5
    go_wp2_with fail
    refine E5.out.mono ?_
    rintro e w6 ⟨v6, rfl, ho6, hb6⟩
    obtain ⟨A6, c6, rfl⟩ := own_shape ho6
    have B6 : Hid (Below wa.heap.size wa w6) := bel_step0 hb6 B5.out
    have P6 : Hid (Part.Ok (⟨A6, c6, R⟩ : Part) w6) := part_own ho6 HRL.out
    have E6 := Lib.hid (E6A.out w6 (HWA.out _ B6.out))
    clear ho6 hb6 E5 k0 k1 k2 k3 k4 k5 B5 E6A
    have q6 := Lib.hid (HBA.out.step B6.out)
    have k0 := q6.out.cell 0
    have k1 := q6.out.cell 1
    have k2 := q6.out.cell 2
    have k3 := q6.out.cell 3
    have k4 := q6.out.cell 4
    have k5 := q6.out.cell 5
    simp only [List.getElem?_toArray, List.getElem?_cons_zero, List.getElem?_cons_succ] at k0 k1 k2 k3 k4 k5
    clear q6
    go_wp2_with fail
    refine E6.out.mono ?_
    rintro e w7 ⟨v7, rfl, ho7, hb7⟩
    obtain ⟨A7, c7, rfl⟩ := own_shape ho7
    have B7 : Hid (Below wa.heap.size wa w7) := bel_step0 hb7 B6.out
    have P7 : Hid (Part.Ok (⟨A7, c7, R⟩ : Part) w7) := part_own ho7 HRL.out
    have E7 := Lib.hid (DS.out w7 A6 c6 A7 c7 (P6.out.step hb7) P7.out)
    clear ho7 hb7 E6 k0 k1 k2 k3 k4 k5 B6 P6 P7 DS
    go_wp2_with fail
    refine E7.out.mono ?_
    rintro e w8 ⟨rfl, rfl⟩
    go_wp2_with fail
    go_ret
    exact ⟨rfl, HWA.out _ B7.out⟩
end Go.Proofs.YtidclmmnfienlaaGreatDoor.One
