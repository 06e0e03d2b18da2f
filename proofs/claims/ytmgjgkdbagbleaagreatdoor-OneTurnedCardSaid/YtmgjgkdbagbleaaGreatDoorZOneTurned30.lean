/-
  The walks of opts.Marked and the reference's. The walk of one.whole. The walk of the head of an archive of version 1.
-/
import Derived.Test.YtmgjgkdbagbleaaGreatDoorZOneTurned29
import Derived.Test.YtmgjgkdbagbleaaGreatDoorZOneTurned6
import Derived.WideShapes
namespace Go.Proofs.YtmgjgkdbagbleaaGreatDoor.One
open Go.RowKit Go.WideShapes Go.Proofs.YtmgjgkdbagbleaaGreatDoor.Mem Go.Proofs.YtmgjgkdbagbleaaGreatDoor.Own Go.Proofs.YtmgjgkdbagbleaaGreatDoor.Canon Go.Proofs.YtmgjgkdbagbleaaGreatDoor.NumPut Go.Proofs.YtmgjgkdbagbleaaGreatDoor.Nums Go.Proofs.YtmgjgkdbagbleaaGreatDoor.Opts
open Go.Proofs.YtmgjgkdbagbleaaGreatDoor.Crc (row_num_drop row_num_take run_cuth')
def markE (bs : List Nat) : Int := if bs.length < 5 then 1 else if bs.take 4 ≠ [70, 73, 82, 75] then 3 else if bs.getD 4 0 < 1 ∨ 3 < bs.getD 4 0 then 4 else 0
def markV (bs : List Nat) : Nat := if markE bs = 0 then bs.getD 4 0 else 0
theorem marked_few {bs : List Nat} (h : bs.length < 5) : markE bs = 1 ∧ markV bs = 0 := by
  have e : markE bs = 1 := if_pos h
  exact ⟨e, by unfold markV; rw [if_neg (by rw [e]; decide)]⟩
theorem marked_magic {bs : List Nat} (h : ¬ bs.length < 5) (h2 : bs.take 4 ≠ [70, 73, 82, 75]) : markE bs = 3 ∧ markV bs = 0 := by
  have e : markE bs = 3 := by unfold markE; rw [if_neg h, if_pos h2]
  exact ⟨e, by unfold markV; rw [if_neg (by rw [e]; decide)]⟩
theorem marked_version {bs : List Nat} (h : ¬ bs.length < 5) (h2 : bs.take 4 = [70, 73, 82, 75]) (h3 : bs.getD 4 0 < 1 ∨ 3 < bs.getD 4 0) : markE bs = 4 ∧ markV bs = 0 := by
  have e : markE bs = 4 := by unfold markE; rw [if_neg h, if_neg (by simpa using h2), if_pos h3]
  exact ⟨e, by unfold markV; rw [if_neg (by rw [e]; decide)]⟩
theorem marked_ok {bs : List Nat} (h : ¬ bs.length < 5) (h2 : bs.take 4 = [70, 73, 82, 75]) (h3 : ¬ (bs.getD 4 0 < 1 ∨ 3 < bs.getD 4 0)) : markE bs = 0 ∧ markV bs = bs.getD 4 0 := by
  have e : markE bs = 0 := by unfold markE; rw [if_neg h, if_neg (by simpa using h2), if_neg h3]
  exact ⟨e, by unfold markV; rw [if_pos e]⟩
set_option maxHeartbeats 1000000 in
set_option maxRecDepth 100000 in
theorem marked_any (w : World) (A : Option Addr) (n c : Nat) (bs : List Nat) (hn : bs.length = n) (hle : n ≤ 100000) (hcap : n ≤ c) (h8 : ∀ x ∈ bs, x ≤ 255) (ha : Row w w.heap.size A n 1 (numF .u8 bs)) :
    Calls Tryz.prog 112 #[.slice A n c] w fun e w' => e = .returned (.tuple #[.int .i64 (markV bs : Nat), .int .i64 (markE bs)]) ∧ w' = w := by
  by_cases h5 : n < 5
  · obtain ⟨e1, e2⟩ := marked_few (bs := bs) (by omega)
    rw [e1, e2]
    have g1 : decide ((n : Int) ≤ 4) = true := by simp; omega
    have g2 : decide (n ≤ 4) = true := by simp; omega
    clear e1 e2 ha hn
    go_enter Tryz.func112, Tryz.ntmps112
    go_wp2_with fail
    go_ret2
    exact ⟨rfl, rfl⟩
  · have g1 : decide ((n : Int) ≤ 4) = false := by simp; omega
    have g2 : decide (n ≤ 4) = false := by simp; omega
    have i4 : (4 : Int) < (n : Int) := by omega
    have hA : ∀ a, A = some a → a.add 0 = a := by
      obtain ⟨b, off, rfl, _⟩ := ha (by omega)
      intro a h
      injection h with h
      subst h
      rw [add_none', Nat.add_zero]
    have ks := fun wx => run_cuth' (P := Tryz.prog) (t := 22) (s := 1) Tryz.underlying22 (fun _ => by kernel_rfl) A n c .i64 (4 : Int) 4 rfl (by omega) hA wx
    have cv := run_str (c := c) (row_num_take ha (show 4 ≤ n by omega)) (by rw [List.length_take]; omega)
    obtain ⟨b, off, rfl, hb, hc⟩ := ha (by omega)
    have c4 := hc 4 0 (by omega) (by omega)
    simp only [numF, Nat.mul_one, Nat.add_zero] at c4
    have m1 := fun h2 => marked_magic (bs := bs) (by omega) h2
    have m2 := fun h2 h3 => marked_version (bs := bs) (by omega) h2 h3
    have m3 := fun h2 h3 => marked_ok (bs := bs) (by omega) h2 h3
    have ht8 : ∀ x ∈ bs.take 4, x ≤ 255 := fun x hx => h8 x (List.mem_of_mem_take hx)
    have hx4 : bs.getD 4 0 ≤ 255 := by
      rw [List.getD_eq_getElem?_getD, List.getElem?_eq_getElem (show 4 < bs.length by omega)]
      exact h8 _ (List.getElem_mem _)
    generalize bs.getD 4 0 = x4 at *
    generalize bs.take 4 = T at *
    have M1 := Lib.hid m1
    have M2 := Lib.hid m2
    have M3 := Lib.hid m3
    have s1 : IntKind.i64.wrap (x4 : Int) = (x4 : Int) := by rw [IntWalk.i64_in _ (by omega)]
    have DW := Lib.hid (within_any w (x4 : Int) 1 3)
    have H8 := Lib.hid ht8
    clear m1 m2 m3 hc hn h8 ht8 hA
    by_cases hT : T = [70, 73, 82, 75]
    · have gE : ((strN T).toList == ([70, 73, 82, 75] : List UInt8)) = true := by rw [hT, ByteArray.toList_eq]; rfl
      by_cases q4 : x4 < 1 ∨ 3 < x4
      · obtain ⟨e1, e2⟩ := M2.out hT q4
        rw [e1, e2]
        rw [show decide ((1 : Int) ≤ (x4 : Int) ∧ (x4 : Int) ≤ 3) = false by simp; omega] at DW
        clear M1 M2 M3 e1 e2 q4 hT
        go_enter Tryz.func112, Tryz.ntmps112
        go_wp2_with fail
        refine DW.out.mono ?_
        rintro e w1 ⟨rfl, rfl⟩
        go_wp2_with fail
        go_ret2
        exact ⟨rfl, rfl⟩
      · obtain ⟨e1, e2⟩ := M3.out hT q4
        rw [e1, e2]
        rw [show decide ((1 : Int) ≤ (x4 : Int) ∧ (x4 : Int) ≤ 3) = true by simp; omega] at DW
        clear M1 M2 M3 e1 e2 q4 hT
        go_enter Tryz.func112, Tryz.ntmps112
        go_wp2_with fail
        refine DW.out.mono ?_
        rintro e w1 ⟨rfl, rfl⟩
        go_wp2_with fail
        go_ret2
        exact ⟨rfl, rfl⟩
    · obtain ⟨e1, e2⟩ := M1.out hT
      rw [e1, e2]
      have gE : ((strN T).toList == ([70, 73, 82, 75] : List UInt8)) = false := by
        rw [beq_eq_false_iff_ne, ByteArray.toList_eq]
        intro h
        refine hT ?_
        have h2 : strN T = (⟨#[70, 73, 82, 75]⟩ : ByteArray) := bytes_inj h
        have h3 := congrArg sB h2
        rw [sB_strN H8.out] at h3
        exact h3
      clear M1 M2 M3 e1 e2 hT
      go_enter Tryz.func112, Tryz.ntmps112
      go_wp2_with fail
      go_ret2
      exact ⟨rfl, rfl⟩
end Go.Proofs.YtmgjgkdbagbleaaGreatDoor.One
namespace Go.Proofs.YtmgjgkdbagbleaaGreatDoor.One
open Go.RowKit Go.Proofs.YtmgjgkdbagbleaaGreatDoor.Mem Go.Proofs.YtmgjgkdbagbleaaGreatDoor.Own Go.Proofs.YtmgjgkdbagbleaaGreatDoor.Canon Go.Proofs.YtmgjgkdbagbleaaGreatDoor.NumPut Go.Proofs.YtmgjgkdbagbleaaGreatDoor.Nums Go.Proofs.YtmgjgkdbagbleaaGreatDoor.Opts Go.Proofs.YtmgjgkdbagbleaaGreatDoor.Crc
def wholeE (bs : List Nat) : Int := if markE bs ≠ 0 then markE bs else if markV bs ≠ 1 then 4 else if cutE bs ≠ 0 then cutE bs else if (cutO bs).length < 5 then 1 else 0
def wholeO (bs : List Nat) : List Nat := if wholeE bs = 0 then (cutO bs).drop 5 else []
structure Held (w : World) (A : Option Addr) (c : Nat) (ls : List Nat) : Prop where
  row : Row w w.heap.size A ls.length 1 (numF .u8 ls)
  cap : ls.length ≤ c
  none : A = Option.none → ls.length = 0 ∧ c = 0
theorem Held.nil (w : World) : Held w Option.none 0 [] := ⟨Row.zero, Nat.le_refl _, fun _ => ⟨rfl, rfl⟩⟩
theorem Held.step {w w' : World} {A : Option Addr} {c : Nat} {ls : List Nat} (h : Held w A c ls) (hb : Below w.heap.size w w') : Held w' A c ls := ⟨(h.row.below hb).mono hb.size, h.cap, h.none⟩
def WholePost (bs : List Nat) (w : World) (e : Ending) (w' : World) : Prop :=
  ∃ A c, e = .returned (.tuple #[.slice A (wholeO bs).length c, .int .i64 (wholeE bs)]) ∧ Held w' A c (wholeO bs) ∧ Below w.heap.size w w'
theorem cutA_some {A : Option Addr} {k c s : Nat} (h : cutA A k c s = none) : A = none := by
  unfold cutA at h
  split at h
  · exact h
  · cases A with
    | none => rfl
    | some a => cases h
set_option maxHeartbeats 1000000 in
set_option maxRecDepth 100000 in
theorem whole_any (w : World) (A : Option Addr) (n c : Nat) (bs : List Nat) (hn : bs.length = n) (hle : n ≤ 100000) (hcap : n ≤ c) (h8 : ∀ x ∈ bs, x ≤ 255) (ht : TabAt w) (ha : Row w w.heap.size A n 1 (numF .u8 bs)) :
    Calls Tryz.prog 60 #[.slice A n c] w (WholePost bs w) := by
  have D1 := Lib.hid (marked_any w A n c bs hn hle hcap h8 ha)
  have D2 := Lib.hid (cut_any w A n c bs hn hle hcap h8 ht ha)
  unfold CutPost at D2
  unfold WholePost
  by_cases hm : markE bs = 0
  · rw [hm] at D1
    by_cases hv : markV bs = 1
    · rw [hv] at D1
      by_cases hc : cutE bs = 0
      · rw [hc] at D2
        by_cases h5 : (cutO bs).length < 5
        · have eE : wholeE bs = 1 := by unfold wholeE; rw [if_neg (by simpa using hm), if_neg (by simpa using hv), if_neg (by simpa using hc), if_pos h5]
          have eO : wholeO bs = [] := by unfold wholeO; rw [if_neg (by rw [eE]; decide)]
          rw [eE, eO]
          generalize cutO bs = L at *
          have g1 : decide ((L.length : Int) < 5) = true := by simp; omega
          have g2 : decide (L.length < 5) = true := by simp; omega
          clear eE eO hm hv hc h5 ha hn h8
          go_enter Tryz.func60, Tryz.ntmps60
          go_wp2_with fail
          refine D1.out.mono ?_
          rintro e w1 ⟨rfl, rfl⟩
          go_wp2_with fail
          refine D2.out.mono ?_
          rintro e w2 ⟨v, rfl, hown, hb⟩
          obtain ⟨B, d, rfl⟩ := own_shape hown
          have HB := Lib.hid hb
          clear hown hb D1 D2
          go_wp2_with fail
          go_ret2
          exact ⟨_, _, rfl, Held.nil _, HB.out⟩
        · have eE : wholeE bs = 0 := by unfold wholeE; rw [if_neg (by simpa using hm), if_neg (by simpa using hv), if_neg (by simpa using hc), if_neg h5]
          have eO : wholeO bs = (cutO bs).drop 5 := by unfold wholeO; rw [if_pos eE]
          rw [eE, eO]
          generalize cutO bs = L at *
          have g1 : decide ((L.length : Int) < 5) = false := by simp; omega
          have g2 : decide (L.length < 5) = false := by simp; omega
          have ks := fun B d wx => run_cut (P := Tryz.prog) (t := 22) (s := 1) Tryz.underlying22 (fun _ => by kernel_rfl) B L.length d .i64 (5 : Int) 5 rfl (by omega) wx
          have H5 : Hid (5 ≤ L.length) := by show 5 ≤ L.length; omega
          clear eE eO hm hv hc h5 ha hn h8
          go_enter Tryz.func60, Tryz.ntmps60
          go_wp2_with fail
          refine D1.out.mono ?_
          rintro e w1 ⟨rfl, rfl⟩
          go_wp2_with fail
          refine D2.out.mono ?_
          rintro e w2 ⟨v, rfl, hown, hb⟩
          obtain ⟨B, d, rfl⟩ := own_shape hown
          have ks2 := ks B d
          have HB := Lib.hid hb
          have HO := Lib.hid hown
          clear hown hb D1 D2 ks
          go_wp2_with fail
          go_ret2
          have hwf := own_wf HO.out
          refine ⟨cutA B 5 d 1, d - 5, by rw [List.length_drop]; rfl, ⟨?_, ?_, fun e => ?_⟩, HB.out⟩
          · rw [List.length_drop]
            exact row_num_drop (own_row HO.out) H5.out hwf.2
          · rw [List.length_drop]; have := hwf.2; omega
          · have := hwf.1 (cutA_some e)
            have := H5.out
            omega
      · have eE : wholeE bs = cutE bs := by unfold wholeE; rw [if_neg (by simpa using hm), if_neg (by simpa using hv), if_pos hc]
        have eO : wholeO bs = [] := by unfold wholeO; rw [if_neg (by rw [eE]; exact hc)]
        rw [eE, eO]
        generalize cutE bs = E at *
        have g1 : (E != 0) = true := by simpa using hc
        generalize cutO bs = L at *
        clear eE eO hm hv hc ha hn h8
        go_enter Tryz.func60, Tryz.ntmps60
        go_wp2_with fail
        refine D1.out.mono ?_
        rintro e w1 ⟨rfl, rfl⟩
        go_wp2_with fail
        refine D2.out.mono ?_
        rintro e w2 ⟨v, rfl, hown, hb⟩
        obtain ⟨B, d, rfl⟩ := own_shape hown
        have HB := Lib.hid hb
        clear hown hb D1 D2
        go_wp2_with fail
        go_ret2
        exact ⟨_, _, rfl, Held.nil _, HB.out⟩
    · have eE : wholeE bs = 4 := by unfold wholeE; rw [if_neg (by simpa using hm), if_pos hv]
      have eO : wholeO bs = [] := by unfold wholeO; rw [if_neg (by rw [eE]; decide)]
      rw [eE, eO]
      generalize markV bs = V at *
      have g1 : ((V : Int) != 1) = true := by simp; omega
      clear eE eO hm hv ha hn h8 D2
      go_enter Tryz.func60, Tryz.ntmps60
      go_wp2_with fail
      refine D1.out.mono ?_
      rintro e w1 ⟨rfl, rfl⟩
      go_wp2_with fail
      go_ret2
      exact ⟨_, _, rfl, Held.nil _, Below.refl _ _⟩
  · have eE : wholeE bs = markE bs := by unfold wholeE; rw [if_pos hm]
    have eO : wholeO bs = [] := by unfold wholeO; rw [if_neg (by rw [eE]; exact hm)]
    rw [eE, eO]
    generalize markE bs = E at *
    have g1 : (E != 0) = true := by simpa using hm
    generalize markV bs = V at *
    clear eE eO hm ha hn h8 D2
    go_enter Tryz.func60, Tryz.ntmps60
    go_wp2_with fail
    refine D1.out.mono ?_
    rintro e w1 ⟨rfl, rfl⟩
    go_wp2_with fail
    go_ret2
    exact ⟨_, _, rfl, Held.nil _, Below.refl _ _⟩
end Go.Proofs.YtmgjgkdbagbleaaGreatDoor.One
namespace Go.Proofs.YtmgjgkdbagbleaaGreatDoor.One
open Go.RowKit Go.Proofs.YtmgjgkdbagbleaaGreatDoor.Mem Go.Proofs.YtmgjgkdbagbleaaGreatDoor.Own Go.Proofs.YtmgjgkdbagbleaaGreatDoor.Canon Go.Proofs.YtmgjgkdbagbleaaGreatDoor.NumPut Go.Proofs.YtmgjgkdbagbleaaGreatDoor.Nums Go.Proofs.YtmgjgkdbagbleaaGreatDoor.Opts
open Go.Proofs.YtmgjgkdbagbleaaGreatDoor.Recs (cur_other)
def hP (bs : List Nat) : Nat := byteV bs (intA 32768 bs 0 0) (intE 32768 bs 0 0)
def hA2 (bs : List Nat) : Nat := takeA bs (intA 32768 bs 0 0) (intE 32768 bs 0 0) 1
def hE2 (bs : List Nat) : Int := takeE bs (intA 32768 bs 0 0) (intE 32768 bs 0 0) 1
def hE3 (bs : List Nat) : Int := if 1 < hP bs then failE (hE2 bs) 2 else hE2 bs
def hN (bs : List Nat) : Nat := intV 20000 bs (hA2 bs) (hE3 bs)
def hA4 (bs : List Nat) : Nat := intA 20000 bs (hA2 bs) (hE3 bs)
def hE4 (bs : List Nat) : Int := intE 20000 bs (hA2 bs) (hE3 bs)
def hM (bs : List Nat) : Nat := intV (hN bs) bs (hA4 bs) (hE4 bs)
def hA5 (bs : List Nat) : Nat := intA (hN bs) bs (hA4 bs) (hE4 bs)
def hE5 (bs : List Nat) : Int := intE (hN bs) bs (hA4 bs) (hE4 bs)
def hO (bs : List Nat) : Opt := ⟨(intV 32768 bs 0 0 : Nat), decide (hP bs = 1), 0, 0, 0, 0⟩
def headE (bs : List Nat) : Int := if hE5 bs ≠ 0 then hE5 bs else optE (hO bs)
def Apart (g r : Nat) (w : World) (x : Nat) : Prop := x < w.heap.size ∧ x ≠ g ∧ x ≠ r
set_option maxHeartbeats 1000000 in
set_option maxRecDepth 100000 in
theorem head_any (w : World) (r g base : Nat) (bs : List Nat) (A : Option Addr) (c : Nat) (X : Value) (hle : bs.length ≤ 100000) (h8 : ∀ x ∈ bs, x ≤ 255) (h : Cur w g base bs A c 0 0) (hr : Blk w r 95 #[.pointer (some ⟨g, 0, none⟩), X, .int .i64 0, .bool false, .int .i64 0, .int .i64 0, .int .i64 0, .int .i64 0, .int .i64 0, .int .i64 0]) :
    Calls Tryz.prog 62 #[.pointer (some ⟨r, 0, none⟩)] w fun e w' => e = .returned (.int .i64 (headE bs)) ∧ Cur w' g base bs A c (hA5 bs) (hE5 bs) ∧
      Blk w' r 95 #[.pointer (some ⟨g, 0, none⟩), X, .int .i64 (hO bs).block, .bool (hO bs).plain, .int .i64 0, .int .i64 0, .int .i64 0, .int .i64 0, .int .i64 (hN bs : Nat), .int .i64 (hM bs : Nat)] ∧ Kept (Apart g r w) w w' := by
  have hrl := hr.lt
  have hrg : r ≠ g := Blk.apart hr h.blk (by decide)
  have hn2 : hN bs ≤ 20000 := intV_le h8 _ _
  have D1 := Lib.hid (fun wx hx => int_any wx g base bs A c 0 0 32768 hle h8 (by omega) hx)
  have D2 := Lib.hid (fun wx hx => byte_any wx g base bs A c (intA 32768 bs 0 0) (intE 32768 bs 0 0) hle hx)
  have D3 := Lib.hid (fun wx hx => fail_any wx g base bs A c (hA2 bs) (hE2 bs) 2 hx)
  have D4 := Lib.hid (fun wx hx => int_any wx g base bs A c (hA2 bs) (hE3 bs) 20000 hle h8 (by omega) hx)
  have D5 := Lib.hid (fun wx hx => int_any wx g base bs A c (hA4 bs) (hE4 bs) (hN bs) hle h8 (by omega) hx)
  have D6 := Lib.hid (fun wx hx => err_any wx g base bs A c (hA5 bs) (hE5 bs) hx)
  have D7 := Lib.hid (fun wx => ocheck_any wx (hO bs))
  change Hid (∀ wx, _ → Calls _ _ _ _ fun e w' => e = .returned (.int .u8 (hP bs : Nat)) ∧ Cur w' g base bs A c (hA2 bs) (hE2 bs) ∧ Kept (Others g wx) wx w') at D2
  change Hid (∀ wx, _ → Calls _ _ _ _ fun e w' => e = .returned (.int .i64 (hN bs : Nat)) ∧ Cur w' g base bs A c (hA4 bs) (hE4 bs) ∧ Kept (Others g wx) wx w') at D4
  change Hid (∀ wx, _ → Calls _ _ _ _ fun e w' => e = .returned (.int .i64 (hM bs : Nat)) ∧ Cur w' g base bs A c (hA5 bs) (hE5 bs) ∧ Kept (Others g wx) wx w') at D5
  unfold headE
  unfold hO at *
  simp only at *
  unfold Opt.val at D7
  simp only at D7
  have h3 : (1 < hP bs → hE3 bs = failE (hE2 bs) 2) ∧ (¬ 1 < hP bs → hE3 bs = hE2 bs) := ⟨fun h => if_pos h, fun h => if_neg h⟩
  generalize intV 32768 bs 0 0 = v1 at *
  generalize intA 32768 bs 0 0 = a1 at *
  generalize intE 32768 bs 0 0 = e1 at *
  generalize hP bs = p at *
  generalize hA2 bs = a2 at *
  generalize hE2 bs = e2 at *
  generalize hE3 bs = e3 at *
  generalize hN bs = n at *
  generalize hA4 bs = a4 at *
  generalize hE4 bs = e4 at *
  generalize hM bs = m at *
  generalize hA5 bs = a5 at *
  generalize hE5 bs = e5 at *
  obtain ⟨pl, hpl⟩ : ∃ pl, pl = decide (p = 1) := ⟨_, rfl⟩
  rw [← hpl] at D7 ⊢
  have HPL := Lib.hid hpl
  clear hpl
  generalize hOE : optE ⟨(v1 : Int), pl, 0, 0, 0, 0⟩ = oe at *
  have d0 := hr.cell 0
  have d2 := hr.cell 2
  have f2 := hr.frozen 2
  simp only [List.getElem?_toArray, List.getElem?_cons_zero, List.getElem?_cons_succ] at d0 d2
  have H := Lib.hid h
  have HR := Lib.hid hr
  have H3 := Lib.hid h3
  clear h h8 hle hr h3 hOE
  go_enter Tryz.func62, Tryz.ntmps62
  go_wp2_with fail
  refine (D1.out _ H.out).mono ?_
  rintro e w1 ⟨rfl, hc1, hk1⟩
  have br1 : Blk w1 r 95 #[.pointer (some ⟨g, 0, none⟩), X, .int .i64 0, .bool false, .int .i64 0, .int .i64 0, .int .i64 0, .int .i64 0, .int .i64 0, .int .i64 0] := (hk1.block _ ⟨hrl, hrg⟩).trans HR.out
  have HK1 : Hid (Kept (Apart g r w) w w1) := ⟨hk1.os, hk1.tape, hk1.output, hk1.size, fun x hx => hk1.block x ⟨hx.1, hx.2.1⟩⟩
  have x1 := br1.cell 0
  have y1 := br1.cell 2
  have z1 := br1.frozen 2
  simp only [List.getElem?_toArray, List.getElem?_cons_zero, List.getElem?_cons_succ] at x1 y1
  have HC1 := Lib.hid hc1
  have BR1 := Lib.hid br1
  clear hc1 br1 hk1 d0 d2 f2 D1
  go_wp2_with fail
  refine (D2.out _ (cur_other HC1.out BR1.out (by decide) (by decide) 2 (.int .i64 (v1 : Nat)))).mono ?_
  rintro e w2 ⟨rfl, hc2, hk2⟩
  have br2 : Blk w2 r 95 #[.pointer (some ⟨g, 0, none⟩), X, .int .i64 (v1 : Nat), .bool false, .int .i64 0, .int .i64 0, .int .i64 0, .int .i64 0, .int .i64 0, .int .i64 0] := (hk2.block _ ⟨(BR1.out.set 2 (.int .i64 (v1 : Nat))).lt, hrg⟩).trans (BR1.out.set 2 (.int .i64 (v1 : Nat)))
  have HK2 : Hid (Kept (Apart g r w) w w2) := (HK1.out.set (p := ⟨r, 2, none⟩) (fun h => h.2.2 rfl) (.int .i64 (v1 : Nat))).trans ⟨hk2.os, hk2.tape, hk2.output, hk2.size, fun x hx => hk2.block x ⟨by have := hx.1; have := HK1.out.size; simp; omega, hx.2.1⟩⟩
  clear x1 y1 z1
  by_cases hp : 1 < p
  · have g1 : decide ((1 : Int) < (p : Int)) = true := by simp; omega
    have g1' : decide (1 < p) = true := by simp; omega
    have g2 : ((p : Int) == 1) = false := by simp; omega
    have g3 : decide (p = 1) = false := by simp; omega
    obtain rfl : pl = false := HPL.out.trans g3
    obtain rfl := H3.out.1 hp
    have HC2 := Lib.hid hc2
    have BR2 := Lib.hid br2
    have x2 := br2.cell 0
    simp only [List.getElem?_toArray, List.getElem?_cons_zero] at x2
    clear hc2 br2 hk2 hp g3
    go_wp2_with fail
    refine (D3.out _ HC2.out).mono ?_
    rintro e w3 ⟨rfl, hc3, hk3⟩
    have br3 : Blk w3 r 95 #[.pointer (some ⟨g, 0, none⟩), X, .int .i64 (v1 : Nat), .bool false, .int .i64 0, .int .i64 0, .int .i64 0, .int .i64 0, .int .i64 0, .int .i64 0] := (hk3.block _ hrg).trans BR2.out
    have HK3 : Hid (Kept (Apart g r w) w w3) := HK2.out.trans ⟨hk3.os, hk3.tape, hk3.output, hk3.size, fun x hx => hk3.block x hx.2.1⟩
    clear x2 hk3
    have x3 := br3.cell 0
    have y3_3 := br3.cell 3
    have z3_3 := br3.frozen 3
    simp only [List.getElem?_toArray, List.getElem?_cons_zero, List.getElem?_cons_succ] at x3 y3_3
    have HC3 := Lib.hid hc3
    have BR3 := Lib.hid br3
    clear hc3 br3
    go_wp2_with fail
    refine (D4.out _ (cur_other HC3.out BR3.out (by decide) (by decide) 3 (.bool false))).mono ?_
    rintro e w4 ⟨rfl, hc4, hk4⟩
    have br4 : Blk w4 r 95 #[.pointer (some ⟨g, 0, none⟩), X, .int .i64 (v1 : Nat), .bool false, .int .i64 0, .int .i64 0, .int .i64 0, .int .i64 0, .int .i64 0, .int .i64 0] := (hk4.block _ ⟨(BR3.out.set 3 (.bool false)).lt, hrg⟩).trans (BR3.out.set 3 (.bool false))
    have HK4 : Hid (Kept (Apart g r w) w w4) := (HK3.out.set (p := ⟨r, 3, none⟩) (fun h => h.2.2 rfl) (.bool false)).trans ⟨hk4.os, hk4.tape, hk4.output, hk4.size, fun x hx => hk4.block x ⟨by have := hx.1; have := HK3.out.size; simp; omega, hx.2.1⟩⟩
    clear x3 y3_3 z3_3
    have x4 := br4.cell 0
    have y4_8 := br4.cell 8
    have z4_8 := br4.frozen 8
    have y4_9 := br4.cell 9
    have z4_9 := br4.frozen 9
    simp only [List.getElem?_toArray, List.getElem?_cons_zero, List.getElem?_cons_succ] at x4 y4_8 y4_9
    have HC4 := Lib.hid hc4
    have BR4 := Lib.hid br4
    clear hc4 br4
    clear hk4 D4
    go_wp2_with fail
    have br5 : Blk (w4.setCell ⟨r, 8, none⟩ (.int .i64 (n : Nat))) r 95 #[.pointer (some ⟨g, 0, none⟩), X, .int .i64 (v1 : Nat), .bool false, .int .i64 0, .int .i64 0, .int .i64 0, .int .i64 0, .int .i64 (n : Nat), .int .i64 0] := BR4.out.set 8 _
    have hc5 := cur_other HC4.out BR4.out (by decide) (by decide) 8 (.int .i64 (n : Nat))
    have hk5 := HK4.out.set (p := ⟨r, 8, none⟩) (fun h => h.2.2 rfl) (.int .i64 (n : Nat))
    generalize w4.setCell ⟨r, 8, none⟩ (.int .i64 (n : Nat)) = w5 at *
    have x5 := br5.cell 0
    have y5 := br5.cell 8
    have y5_9 := br5.cell 9
    have z5 := br5.frozen 9
    simp only [List.getElem?_toArray, List.getElem?_cons_zero, List.getElem?_cons_succ] at x5 y5 y5_9
    have HC5 := Lib.hid hc5
    have BR5 := Lib.hid br5
    have HK5 := Lib.hid hk5
    have F0 := hc5.drew
    clear hc5 br5 hk5 x4 y4_8 y4_9 z4_8 z4_9 HC4 BR4 HK4
    go_region_held3 (fun wx => wx.cell? ⟨r, 0, none⟩ = some (.pointer (some ⟨g, 0, none⟩)) ∧ wx.cell? ⟨r, 8, none⟩ = some (.int .i64 (n : Nat))) (first | exact ⟨x5, y5⟩ | exact k0 | exact k1) (first | (go_at_call 128; (with_reducible refine (D5.out _ F0).mono ?_); rintro e w6 ⟨rfl, hc6, hk6⟩; have br6 : Blk w6 r 95 #[.pointer (some ⟨g, 0, none⟩), X, .int .i64 (v1 : Nat), .bool false, .int .i64 0, .int .i64 0, .int .i64 0, .int .i64 0, .int .i64 (n : Nat), .int .i64 0] := (hk6.block _ ⟨BR5.out.drew.lt, hrg⟩).trans BR5.out.drew; have k0 : w6.cell? ⟨r, 0, none⟩ = some (.pointer (some ⟨g, 0, none⟩)) ∧ w6.cell? ⟨r, 8, none⟩ = some (.int .i64 (n : Nat)) := ⟨br6.cell 0, br6.cell 8⟩; have q4 : w6.cell? ⟨r, 9, none⟩ = some (.int .i64 0) := br6.cell 9; have qf : w6.frozen? ⟨r, 9, none⟩ = false := br6.frozen 9; have br7 : Blk (w6.setCell ⟨r, 9, none⟩ (.int .i64 (m : Nat))) r 95 #[.pointer (some ⟨g, 0, none⟩), X, .int .i64 (v1 : Nat), .bool false, .int .i64 0, .int .i64 0, .int .i64 0, .int .i64 0, .int .i64 (n : Nat), .int .i64 (m : Nat)] := br6.set 9 _; have k1 : (w6.setCell ⟨r, 9, none⟩ (.int .i64 (m : Nat))).cell? ⟨r, 0, none⟩ = some (.pointer (some ⟨g, 0, none⟩)) ∧ (w6.setCell ⟨r, 9, none⟩ (.int .i64 (m : Nat))).cell? ⟨r, 8, none⟩ = some (.int .i64 (n : Nat)) := ⟨br7.cell 0, br7.cell 8⟩))
    have HK7 : Hid (Kept (Apart g r w) w (w6.setCell ⟨r, 9, none⟩ (.int .i64 (m : Nat)))) := (HK5.out.trans ⟨hk6.os, hk6.tape, hk6.output, hk6.size, fun x hx => hk6.block x ⟨by have := hx.1; have := HK5.out.size; simp; omega, hx.2.1⟩⟩).set (p := ⟨r, 9, none⟩) (fun h => h.2.2 rfl) (.int .i64 (m : Nat))
    have hc7 := cur_other hc6 br6 (by decide) (by decide) 9 (.int .i64 (m : Nat))
    generalize w6.setCell ⟨r, 9, none⟩ (.int .i64 (m : Nat)) = w7 at *
    have HC7 := Lib.hid hc7
    have BR7 := Lib.hid br7
    have x7 := br7.cell 0
    have x72 := br7.cell 2
    have x73 := br7.cell 3
    have x74 := br7.cell 4
    have x75 := br7.cell 5
    have x76 := br7.cell 6
    have x77 := br7.cell 7
    simp only [List.getElem?_toArray, List.getElem?_cons_zero, List.getElem?_cons_succ] at x7 x72 x73 x74 x75 x76 x77
    clear k0 k1 q4 qf hc6 hk6 br6 br7 hc7 F0 HC5 BR5 HK5 D5 x5 y5 y5_9 z5
    go_wp2_with fail
    refine (D6.out _ HC7.out).mono ?_
    rintro e w8 ⟨rfl, rfl⟩
    by_cases he : e5 = 0
    · subst he
      go_wp2_with fail
      refine (D7.out _).mono ?_
      rintro e w9 ⟨rfl, hb9⟩
      have HB9 := Lib.hid hb9
      clear hb9
      go_wp2_with fail
      go_ret
      exact ⟨by first | rfl | simp, HC7.out.step HB9.out, BR7.out.step HB9.out, HK7.out.trans (Kept.of_below HB9.out (fun x hx => Nat.lt_of_lt_of_le hx.1 HK7.out.size))⟩
    · have g8 : (e5 != 0) = true := by simpa using he
      go_wp2_with fail
      go_ret
      exact ⟨by first | rfl | rw [if_pos he] | simp [he], HC7.out, BR7.out, HK7.out⟩
  · obtain rfl := H3.out.2 hp
    clear hk2
    by_cases hp1 : p = 1
    · subst hp1
      clear hp
      obtain rfl : pl = true := HPL.out
      have x2 := br2.cell 0
      have y2_3 := br2.cell 3
      have z2_3 := br2.frozen 3
      simp only [List.getElem?_toArray, List.getElem?_cons_zero, List.getElem?_cons_succ] at x2 y2_3
      have HC2 := Lib.hid hc2
      have BR2 := Lib.hid br2
      clear hc2 br2
      go_wp2_with fail
      refine (D4.out _ (cur_other HC2.out BR2.out (by decide) (by decide) 3 (.bool true))).mono ?_
      rintro e w4 ⟨rfl, hc4, hk4⟩
      have br4 : Blk w4 r 95 #[.pointer (some ⟨g, 0, none⟩), X, .int .i64 (v1 : Nat), .bool true, .int .i64 0, .int .i64 0, .int .i64 0, .int .i64 0, .int .i64 0, .int .i64 0] := (hk4.block _ ⟨(BR2.out.set 3 (.bool true)).lt, hrg⟩).trans (BR2.out.set 3 (.bool true))
      have HK4 : Hid (Kept (Apart g r w) w w4) := (HK2.out.set (p := ⟨r, 3, none⟩) (fun h => h.2.2 rfl) (.bool true)).trans ⟨hk4.os, hk4.tape, hk4.output, hk4.size, fun x hx => hk4.block x ⟨by have := hx.1; have := HK2.out.size; simp; omega, hx.2.1⟩⟩
      clear x2 y2_3 z2_3
      have x4 := br4.cell 0
      have y4_8 := br4.cell 8
      have z4_8 := br4.frozen 8
      have y4_9 := br4.cell 9
      have z4_9 := br4.frozen 9
      simp only [List.getElem?_toArray, List.getElem?_cons_zero, List.getElem?_cons_succ] at x4 y4_8 y4_9
      have HC4 := Lib.hid hc4
      have BR4 := Lib.hid br4
      clear hc4 br4
      clear hk4 D4
      go_wp2_with fail
      have br5 : Blk (w4.setCell ⟨r, 8, none⟩ (.int .i64 (n : Nat))) r 95 #[.pointer (some ⟨g, 0, none⟩), X, .int .i64 (v1 : Nat), .bool true, .int .i64 0, .int .i64 0, .int .i64 0, .int .i64 0, .int .i64 (n : Nat), .int .i64 0] := BR4.out.set 8 _
      have hc5 := cur_other HC4.out BR4.out (by decide) (by decide) 8 (.int .i64 (n : Nat))
      have hk5 := HK4.out.set (p := ⟨r, 8, none⟩) (fun h => h.2.2 rfl) (.int .i64 (n : Nat))
      generalize w4.setCell ⟨r, 8, none⟩ (.int .i64 (n : Nat)) = w5 at *
      have x5 := br5.cell 0
      have y5 := br5.cell 8
      have y5_9 := br5.cell 9
      have z5 := br5.frozen 9
      simp only [List.getElem?_toArray, List.getElem?_cons_zero, List.getElem?_cons_succ] at x5 y5 y5_9
      have HC5 := Lib.hid hc5
      have BR5 := Lib.hid br5
      have HK5 := Lib.hid hk5
      have F0 := hc5.drew
      clear hc5 br5 hk5 x4 y4_8 y4_9 z4_8 z4_9 HC4 BR4 HK4
      go_region_held3 (fun wx => wx.cell? ⟨r, 0, none⟩ = some (.pointer (some ⟨g, 0, none⟩)) ∧ wx.cell? ⟨r, 8, none⟩ = some (.int .i64 (n : Nat))) (first | exact ⟨x5, y5⟩ | exact k0 | exact k1) (first | (go_at_call 128; (with_reducible refine (D5.out _ F0).mono ?_); rintro e w6 ⟨rfl, hc6, hk6⟩; have br6 : Blk w6 r 95 #[.pointer (some ⟨g, 0, none⟩), X, .int .i64 (v1 : Nat), .bool true, .int .i64 0, .int .i64 0, .int .i64 0, .int .i64 0, .int .i64 (n : Nat), .int .i64 0] := (hk6.block _ ⟨BR5.out.drew.lt, hrg⟩).trans BR5.out.drew; have k0 : w6.cell? ⟨r, 0, none⟩ = some (.pointer (some ⟨g, 0, none⟩)) ∧ w6.cell? ⟨r, 8, none⟩ = some (.int .i64 (n : Nat)) := ⟨br6.cell 0, br6.cell 8⟩; have q4 : w6.cell? ⟨r, 9, none⟩ = some (.int .i64 0) := br6.cell 9; have qf : w6.frozen? ⟨r, 9, none⟩ = false := br6.frozen 9; have br7 : Blk (w6.setCell ⟨r, 9, none⟩ (.int .i64 (m : Nat))) r 95 #[.pointer (some ⟨g, 0, none⟩), X, .int .i64 (v1 : Nat), .bool true, .int .i64 0, .int .i64 0, .int .i64 0, .int .i64 0, .int .i64 (n : Nat), .int .i64 (m : Nat)] := br6.set 9 _; have k1 : (w6.setCell ⟨r, 9, none⟩ (.int .i64 (m : Nat))).cell? ⟨r, 0, none⟩ = some (.pointer (some ⟨g, 0, none⟩)) ∧ (w6.setCell ⟨r, 9, none⟩ (.int .i64 (m : Nat))).cell? ⟨r, 8, none⟩ = some (.int .i64 (n : Nat)) := ⟨br7.cell 0, br7.cell 8⟩))
      have HK7 : Hid (Kept (Apart g r w) w (w6.setCell ⟨r, 9, none⟩ (.int .i64 (m : Nat)))) := (HK5.out.trans ⟨hk6.os, hk6.tape, hk6.output, hk6.size, fun x hx => hk6.block x ⟨by have := hx.1; have := HK5.out.size; simp; omega, hx.2.1⟩⟩).set (p := ⟨r, 9, none⟩) (fun h => h.2.2 rfl) (.int .i64 (m : Nat))
      have hc7 := cur_other hc6 br6 (by decide) (by decide) 9 (.int .i64 (m : Nat))
      generalize w6.setCell ⟨r, 9, none⟩ (.int .i64 (m : Nat)) = w7 at *
      have HC7 := Lib.hid hc7
      have BR7 := Lib.hid br7
      have x7 := br7.cell 0
      have x72 := br7.cell 2
      have x73 := br7.cell 3
      have x74 := br7.cell 4
      have x75 := br7.cell 5
      have x76 := br7.cell 6
      have x77 := br7.cell 7
      simp only [List.getElem?_toArray, List.getElem?_cons_zero, List.getElem?_cons_succ] at x7 x72 x73 x74 x75 x76 x77
      clear k0 k1 q4 qf hc6 hk6 br6 br7 hc7 F0 HC5 BR5 HK5 D5 x5 y5 y5_9 z5
      go_wp2_with fail
      refine (D6.out _ HC7.out).mono ?_
      rintro e w8 ⟨rfl, rfl⟩
      by_cases he : e5 = 0
      · subst he
        go_wp2_with fail
        refine (D7.out _).mono ?_
        rintro e w9 ⟨rfl, hb9⟩
        have HB9 := Lib.hid hb9
        clear hb9
        go_wp2_with fail
        go_ret
        exact ⟨by first | rfl | simp, HC7.out.step HB9.out, BR7.out.step HB9.out, HK7.out.trans (Kept.of_below HB9.out (fun x hx => Nat.lt_of_lt_of_le hx.1 HK7.out.size))⟩
      · have g8 : (e5 != 0) = true := by simpa using he
        go_wp2_with fail
        go_ret
        exact ⟨by first | rfl | rw [if_pos he] | simp [he], HC7.out, BR7.out, HK7.out⟩
    · obtain rfl : p = 0 := by omega
      clear hp hp1
      obtain rfl : pl = false := HPL.out
      have x2 := br2.cell 0
      have y2_3 := br2.cell 3
      have z2_3 := br2.frozen 3
      simp only [List.getElem?_toArray, List.getElem?_cons_zero, List.getElem?_cons_succ] at x2 y2_3
      have HC2 := Lib.hid hc2
      have BR2 := Lib.hid br2
      clear hc2 br2
      go_wp2_with fail
      refine (D4.out _ (cur_other HC2.out BR2.out (by decide) (by decide) 3 (.bool false))).mono ?_
      rintro e w4 ⟨rfl, hc4, hk4⟩
      have br4 : Blk w4 r 95 #[.pointer (some ⟨g, 0, none⟩), X, .int .i64 (v1 : Nat), .bool false, .int .i64 0, .int .i64 0, .int .i64 0, .int .i64 0, .int .i64 0, .int .i64 0] := (hk4.block _ ⟨(BR2.out.set 3 (.bool false)).lt, hrg⟩).trans (BR2.out.set 3 (.bool false))
      have HK4 : Hid (Kept (Apart g r w) w w4) := (HK2.out.set (p := ⟨r, 3, none⟩) (fun h => h.2.2 rfl) (.bool false)).trans ⟨hk4.os, hk4.tape, hk4.output, hk4.size, fun x hx => hk4.block x ⟨by have := hx.1; have := HK2.out.size; simp; omega, hx.2.1⟩⟩
      clear x2 y2_3 z2_3
      have x4 := br4.cell 0
      have y4_8 := br4.cell 8
      have z4_8 := br4.frozen 8
      have y4_9 := br4.cell 9
      have z4_9 := br4.frozen 9
      simp only [List.getElem?_toArray, List.getElem?_cons_zero, List.getElem?_cons_succ] at x4 y4_8 y4_9
      have HC4 := Lib.hid hc4
      have BR4 := Lib.hid br4
      clear hc4 br4
      clear hk4 D4
      go_wp2_with fail
      have br5 : Blk (w4.setCell ⟨r, 8, none⟩ (.int .i64 (n : Nat))) r 95 #[.pointer (some ⟨g, 0, none⟩), X, .int .i64 (v1 : Nat), .bool false, .int .i64 0, .int .i64 0, .int .i64 0, .int .i64 0, .int .i64 (n : Nat), .int .i64 0] := BR4.out.set 8 _
      have hc5 := cur_other HC4.out BR4.out (by decide) (by decide) 8 (.int .i64 (n : Nat))
      have hk5 := HK4.out.set (p := ⟨r, 8, none⟩) (fun h => h.2.2 rfl) (.int .i64 (n : Nat))
      generalize w4.setCell ⟨r, 8, none⟩ (.int .i64 (n : Nat)) = w5 at *
      have x5 := br5.cell 0
      have y5 := br5.cell 8
      have y5_9 := br5.cell 9
      have z5 := br5.frozen 9
      simp only [List.getElem?_toArray, List.getElem?_cons_zero, List.getElem?_cons_succ] at x5 y5 y5_9
      have HC5 := Lib.hid hc5
      have BR5 := Lib.hid br5
      have HK5 := Lib.hid hk5
      have F0 := hc5.drew
      clear hc5 br5 hk5 x4 y4_8 y4_9 z4_8 z4_9 HC4 BR4 HK4
      go_region_held3 (fun wx => wx.cell? ⟨r, 0, none⟩ = some (.pointer (some ⟨g, 0, none⟩)) ∧ wx.cell? ⟨r, 8, none⟩ = some (.int .i64 (n : Nat))) (first | exact ⟨x5, y5⟩ | exact k0 | exact k1) (first | (go_at_call 128; (with_reducible refine (D5.out _ F0).mono ?_); rintro e w6 ⟨rfl, hc6, hk6⟩; have br6 : Blk w6 r 95 #[.pointer (some ⟨g, 0, none⟩), X, .int .i64 (v1 : Nat), .bool false, .int .i64 0, .int .i64 0, .int .i64 0, .int .i64 0, .int .i64 (n : Nat), .int .i64 0] := (hk6.block _ ⟨BR5.out.drew.lt, hrg⟩).trans BR5.out.drew; have k0 : w6.cell? ⟨r, 0, none⟩ = some (.pointer (some ⟨g, 0, none⟩)) ∧ w6.cell? ⟨r, 8, none⟩ = some (.int .i64 (n : Nat)) := ⟨br6.cell 0, br6.cell 8⟩; have q4 : w6.cell? ⟨r, 9, none⟩ = some (.int .i64 0) := br6.cell 9; have qf : w6.frozen? ⟨r, 9, none⟩ = false := br6.frozen 9; have br7 : Blk (w6.setCell ⟨r, 9, none⟩ (.int .i64 (m : Nat))) r 95 #[.pointer (some ⟨g, 0, none⟩), X, .int .i64 (v1 : Nat), .bool false, .int .i64 0, .int .i64 0, .int .i64 0, .int .i64 0, .int .i64 (n : Nat), .int .i64 (m : Nat)] := br6.set 9 _; have k1 : (w6.setCell ⟨r, 9, none⟩ (.int .i64 (m : Nat))).cell? ⟨r, 0, none⟩ = some (.pointer (some ⟨g, 0, none⟩)) ∧ (w6.setCell ⟨r, 9, none⟩ (.int .i64 (m : Nat))).cell? ⟨r, 8, none⟩ = some (.int .i64 (n : Nat)) := ⟨br7.cell 0, br7.cell 8⟩))
      have HK7 : Hid (Kept (Apart g r w) w (w6.setCell ⟨r, 9, none⟩ (.int .i64 (m : Nat)))) := (HK5.out.trans ⟨hk6.os, hk6.tape, hk6.output, hk6.size, fun x hx => hk6.block x ⟨by have := hx.1; have := HK5.out.size; simp; omega, hx.2.1⟩⟩).set (p := ⟨r, 9, none⟩) (fun h => h.2.2 rfl) (.int .i64 (m : Nat))
      have hc7 := cur_other hc6 br6 (by decide) (by decide) 9 (.int .i64 (m : Nat))
      generalize w6.setCell ⟨r, 9, none⟩ (.int .i64 (m : Nat)) = w7 at *
      have HC7 := Lib.hid hc7
      have BR7 := Lib.hid br7
      have x7 := br7.cell 0
      have x72 := br7.cell 2
      have x73 := br7.cell 3
      have x74 := br7.cell 4
      have x75 := br7.cell 5
      have x76 := br7.cell 6
      have x77 := br7.cell 7
      simp only [List.getElem?_toArray, List.getElem?_cons_zero, List.getElem?_cons_succ] at x7 x72 x73 x74 x75 x76 x77
      clear k0 k1 q4 qf hc6 hk6 br6 br7 hc7 F0 HC5 BR5 HK5 D5 x5 y5 y5_9 z5
      go_wp2_with fail
      refine (D6.out _ HC7.out).mono ?_
      rintro e w8 ⟨rfl, rfl⟩
      by_cases he : e5 = 0
      · subst he
        go_wp2_with fail
        refine (D7.out _).mono ?_
        rintro e w9 ⟨rfl, hb9⟩
        have HB9 := Lib.hid hb9
        clear hb9
        go_wp2_with fail
        go_ret
        exact ⟨by first | rfl | simp, HC7.out.step HB9.out, BR7.out.step HB9.out, HK7.out.trans (Kept.of_below HB9.out (fun x hx => Nat.lt_of_lt_of_le hx.1 HK7.out.size))⟩
      · have g8 : (e5 != 0) = true := by simpa using he
        go_wp2_with fail
        go_ret
        exact ⟨by first | rfl | rw [if_pos he] | simp [he], HC7.out, BR7.out, HK7.out⟩
end Go.Proofs.YtmgjgkdbagbleaaGreatDoor.One
