/-
  The walks of words.Words, words.split and their two closures.
-/
import Derived.Test.YtloakdiioaodaaaSiftWordsRef
import Derived.Lib.MinMax
import Derived.Deep.RegionHeld3
namespace Go.Proofs.Ytloakdiioaodaaa.Sift
open Go.RowKit Go.Proofs.Ytloakdiioaodaaa.Mem Go.Proofs.Ytloakdiioaodaaa.Own Go.Proofs.Ytloakdiioaodaaa.Canon

section
variable {wx w4 : World} {g base : Nat} {t e : TypeId} {s n : Nat} {v : Value} {xs cs}
theorem blk_over {row : Option Nat} {o : Obj} {p : Addr} (h : Blk wx g t cs) (hg : (wx.alloc o).grownBy w4 row) (hr : row ≠ some g) (hp : g ≠ p.block) (u : Value) : Blk (w4.setCell p u) g t cs :=
  ((h.alloc o).grown hg (fun e => hr e.symm)).far hp u
theorem own_over {row : Option Nat} {o : Obj} {p : Addr} (h : wx.ownsRow base e s v n xs) (hg : (wx.alloc o).grownBy w4 row) (hr : ∀ g, v.ownBlock = some g → row ≠ some g ∧ g ≠ p.block) (u : Value) : (w4.setCell p u).ownsRow base e s v n xs :=
  own_kept h fun b hb => by
    obtain ⟨h1, h2⟩ := hr b hb
    have h3 := (World.ownsRow.lt h b hb).2
    exact (Below.heap_setCell w4 p u b h2).trans ((hg.block b (by simp; omega) (fun e => h1 e.symm)).trans (Below.heap_alloc wx o b h3))
theorem own_set {p : Addr} (h : wx.ownsRow base e s v n xs) (hr : v.ownBlock ≠ some p.block) (u : Value) : (wx.setCell p u).ownsRow base e s v n xs :=
  own_kept h fun b hb => Below.heap_setCell wx p u b (fun e => hr (e ▸ hb))
end

/-- What words.split's two closures work on: the words that were told, the function that is told, the row that is under way. -/
structure WSt (base : Nat) (a w : World) (bo bw br : Nat) (ws : List (List UInt8)) (row : List UInt8) (fv vo vr : Value) : Prop where
  below : Below base a w
  o : Blk w bo 40 #[vo]
  f : Blk w bw 98 #[fv]
  r : Blk w br 30 #[vr]
  oo : w.ownsRow base 9 1 vo ws.length (strL ws)
  ro : w.ownsRow base 5 1 vr row.length (byL row)
  lo : base ≤ bo
  lr : base ≤ br
  la : base ≤ a.heap.size
section
variable {base : Nat} {a w w4 : World} {bo bw br : Nat} {ws : List (List UInt8)} {row : List UInt8} {fv vo vr v4 : Value}
theorem WSt.drew (h : WSt base a w bo bw br ws row fv vo vr) : WSt base a w.drew bo bw br ws row fv vo vr := ⟨h.below.drew, h.o, h.f, h.r, h.oo, h.ro, h.lo, h.lr, h.la⟩
theorem WSt.row_app {o : Obj} (h : WSt base a w bo bw br ws row fv vo vr) (c : UInt8) (own4 : w4.ownsRow base 5 1 v4 (row.length + 1) (byL row ++ [.int .u8 (c.toNat : Nat)])) (hg : (w.alloc o).grownBy w4 vr.ownBlock) :
    WSt base a (w4.setCell ⟨br, 0, none⟩ v4) bo bw br ws (row ++ [c]) fv vo v4 := by
  have hz := h.below.size
  have hb4 : Below base a w4 := (bel_alloc (by have := h.la; omega) h.below).grown hg (by simp; have := h.la; omega) (fun y hy => (World.ownsRow.lt h.ro y hy).1)
  refine ⟨hb4.setCell h.lr _, blk_over h.o hg (own_blk h.ro h.o (by decide)) (Blk.apart h.o h.r (by decide)) _, blk_over h.f hg (own_blk h.ro h.f (by decide)) (Blk.apart h.f h.r (by decide)) _, ?_, own_over h.oo hg (fun g hg2 => ⟨?_, ?_⟩) _, ?_, h.lo, h.lr, h.la⟩
  · exact (((h.r.alloc o).grown hg (fun e => own_blk h.ro h.r (by decide) e.symm))).set 0 v4
  · intro e
    rcases own_apart h.oo h.ro (by decide) with h1 | h1
    · rw [h1] at hg2; cases hg2
    · exact h1 (hg2.trans e.symm)
  · intro e; exact own_blk h.oo h.r (by decide) (hg2.trans (congrArg some e))
  · have hb := (h.r.alloc o).grown hg (fun e => own_blk h.ro h.r (by decide) e.symm)
    rw [List.length_append, byL_snoc]
    exact own_set own4 (own_blk own4 hb (by decide)) _
theorem WSt.word_app {o : Obj} (h : WSt base a w bo bw br ws row fv vo vr) (x : List UInt8) (own4 : w4.ownsRow base 9 1 v4 (ws.length + 1) (strL ws ++ [.string (bs x)])) (hg : (w.alloc o).grownBy w4 vo.ownBlock) :
    WSt base a (w4.setCell ⟨bo, 0, none⟩ v4) bo bw br (ws ++ [x]) row fv v4 vr := by
  have hz := h.below.size
  have hb4 : Below base a w4 := (bel_alloc (by have := h.la; omega) h.below).grown hg (by simp; have := h.la; omega) (fun y hy => (World.ownsRow.lt h.oo y hy).1)
  refine ⟨hb4.setCell h.lo _, ?_, blk_over h.f hg (own_blk h.oo h.f (by decide)) (Blk.apart h.f h.o (by decide)) _, blk_over h.r hg (own_blk h.oo h.r (by decide)) (Blk.apart h.r h.o (by decide)) _, ?_, own_over h.ro hg (fun g hg2 => ⟨?_, ?_⟩) _, h.lo, h.lr, h.la⟩
  · exact (((h.o.alloc o).grown hg (fun e => own_blk h.oo h.o (by decide) e.symm))).set 0 v4
  · have hb := (h.o.alloc o).grown hg (fun e => own_blk h.oo h.o (by decide) e.symm)
    rw [List.length_append, strL_snoc]
    exact own_set own4 (own_blk own4 hb (by decide)) _
  · intro e
    rcases own_apart h.ro h.oo (by decide) with h1 | h1
    · rw [h1] at hg2; cases hg2
    · exact h1 (hg2.trans e.symm)
  · intro e; exact own_blk h.ro h.o (by decide) (hg2.trans (congrArg some e))
/-- row = row[:0] -/
theorem WSt.row_cut {A : Option Addr} {n c : Nat} (h : WSt base a w bo bw br ws row fv vo (.slice A n c)) : WSt base a (w.setCell ⟨br, 0, none⟩ (.slice A 0 c)) bo bw br ws [] fv vo (.slice A 0 c) := by
  refine ⟨h.below.setCell h.lr _, h.o.far (Blk.apart h.o h.r (by decide)) _, h.f.far (Blk.apart h.f h.r (by decide)) _, h.r.set 0 _, own_set h.oo (own_blk h.oo h.r (by decide)) _, ?_, h.lo, h.lr, h.la⟩
  have h2 : w.ownsRow base 5 1 (.slice A 0 c) 0 [] := by
    rcases h.ro.2 with ⟨hv, _⟩ | ⟨g, cap, cur, hv, hg, hh, _, hcp, hcs, _⟩
    · injection hv with e1 e2 e3
      subst e1 e3
      exact World.ownsRow_nil _ _ _ _
    · injection hv with e1 e2 e3
      subst e1 e3
      exact ⟨by simp, .inr ⟨g, c, cur, rfl, hg, hh, Nat.zero_le _, hcp, hcs, by simp⟩⟩
  exact own_set h2 (own_blk h2 h.r (by decide)) _
end

set_option maxRecDepth 100000 in
theorem sadd_any (base : Nat) (a w : World) (bo bw br : Nat) (ws : List (List UInt8)) (row x : List UInt8) (fv vo vr : Value) (hl : ws.length ≤ 100000) (h : WSt base a w bo bw br ws row fv vo vr) :
    Calls Try.prog 47 #[.string (bs x), .pointer (some ⟨bo, 0, none⟩)] w fun e w' => e = .returned (.tuple #[]) ∧ ∃ vo', WSt base a w' bo bw br (ws ++ [x]) row fv vo' vr := by
  obtain ⟨j1, hj1, hz0, hz1, hz2⟩ := info_parts info_str
  obtain ⟨A, c, rfl⟩ := own_shape h.oo
  have c0 := h.o.cell 0
  have f0 := h.o.frozen 0
  simp only [List.getElem?_toArray, List.getElem?_cons_zero] at c0
  have hz := h.below.size
  have hla := h.la
  have H := Lib.hid h
  generalize hn : ws.length = n at *
  have HN := Lib.hid hn
  clear h hn
  go_enter Try.func47, Try.ntmps47
  go_wp2_with (at_builtin; refine wpList_app rfl (.tmp 3) (.tmp 5) 40 rfl base 9 j1 _ 1 16 Try.underlying40 hj1 hz0 hz1 hz2 rfl (by decide) _ _ _ (by rfl) ((HN.out ▸ H.out.oo).alloc _) _ 1 1 [.string (bs x)] (by rfl) (Src.of_blk (Blk.made _ _ _) 1 1 1 rfl) (by intro u hu; simp at hu; rcases hu with rfl; rfl) (by unfold maxLen; omega) (by omega) (by simp; omega) ?_; intro v4 w4 hown4 hg4 hat4; obtain ⟨A4, k4, rfl⟩ := own_shape hown4; have f4 : w4.frozen? ⟨bo, 0, none⟩ = false := (((H.out.o.alloc _).grown hg4 (fun e => own_blk H.out.oo H.out.o (by decide) e.symm))).frozen 0; have c4 : w4.cell? ⟨bo, 0, none⟩ = some (.slice A n c) := (((H.out.o.alloc _).grown hg4 (fun e => own_blk H.out.oo H.out.o (by decide) e.symm))).cell 0)
  refine bodyPost_end (results_none rfl _ _ _) rfl ?_
  exact ⟨rfl, _, H.out.word_app x (HN.out ▸ hown4) hg4⟩

theorem run_cuth {P : Program} {t e : TypeId} {s : Nat} (ht : P.underlying t = some (.slice e)) (hs : ∀ w, (sizeOf e).run P w = .ok s w) (g o len cap : Nat) (kh : IntKind) (h : Int) (m : Nat) (hh : h = m) (hm : m ≤ cap) (w : World) :
    (Instr.slice t (.slice (some ⟨g, o, none⟩) len cap) none (some (.int kh h)) none).run P w = .ok (.slice (some ⟨g, o, none⟩) m cap) w := by
  subst hh
  have he : P.elem t = e := by simp [Program.elem, ht]
  rw [run_slice_h w t (some ⟨g, o, none⟩) len cap (by rw [he]; exact ht) kh (m : Int) (by omega) (by omega), he, hs]
  simp [Result.andThen, sliced, add_none']
/-- string(b[:m]), b a row of the call's own. -/
theorem own_bytes_take {w : World} {base n c m : Nat} {g : Nat} {l : List UInt8} (h : w.ownsRow base 5 1 (.slice (some ⟨g, 0, none⟩) n c) n (byL l)) (hn : l.length = n) (hm : m ≤ n) :
    ∀ wx : World, wx.heap[g]? = w.heap[g]? → (convert 30 9 (.slice (some ⟨g, 0, none⟩) m c)).run Try.prog wx = .ok (.string (bs (l.take m))) wx := by
  intro wx hb
  have hz : (bs (l.take m)).size = m := by rw [bs_size, List.length_take]; omega
  have hby : Lib.Bytes wx g 0 (bs (l.take m)) := by
    intro i hi
    rw [hz] at hi
    have hi' : i < l.length := by omega
    rw [Nat.zero_add, World.cell?_of_block (a := ⟨g, i, none⟩) hb, h.cellAt i (by omega), bs_at (l.take m) i (by rw [hz]; exact hi), List.getElem_take]
    exact byL_get (List.getElem?_eq_getElem hi')
  have kd := Lib.run_convert_whole (P := Try.prog) wx 30 5 9 Try.underlying30 Try.underlying5 Try.underlying9 g 0 (bs (l.take m)) hby c
  rw [hz] at kd
  exact kd
/-- The closure that keeps a word. -/
def addFn (bo : Nat) : Value := .func (.func 47) #[] #[.pointer (some ⟨bo, 0, none⟩)]
theorem own_len {w : World} {base : Nat} {e : TypeId} {s n : Nat} {A : Option Addr} {m c : Nat} {xs : List Value} (h : w.ownsRow base e s (.slice A m c) n xs) : m = n := by
  rcases h.2 with ⟨hv, h0⟩ | ⟨g, cap, cur, hv, _⟩
  · injection hv with _ e2 _; omega
  · injection hv
set_option maxRecDepth 100000 in
theorem stell_nil (base : Nat) (a w : World) (bo bw br : Nat) (ws : List (List UInt8)) (vo vr : Value)
    (h : WSt base a w bo bw br ws [] (addFn bo) vo vr) :
    Calls Try.prog 78 #[.pointer (some ⟨br, 0, none⟩), .pointer (some ⟨bw, 0, none⟩)] w fun e w' => e = .returned (.tuple #[]) ∧ ∃ vo' vr', WSt base a w' bo bw br (ws ++ tell []) [] (addFn bo) vo' vr' := by
  rw [show tell [] = [] from rfl, List.append_nil]
  obtain ⟨A, c, rfl⟩ := own_shape h.ro
  have c0 := h.r.cell 0
  have f0 := h.r.frozen 0
  simp only [List.getElem?_toArray, List.getElem?_cons_zero, List.length_nil] at c0
  have H := Lib.hid h
  clear h
  go_enter Try.func78, Try.ntmps78
  go_wp2_with fail
  refine bodyPost_end (results_none rfl _ _ _) rfl ?_
  exact ⟨rfl, _, _, H.out.row_cut⟩
set_option maxRecDepth 100000 in
theorem stell_word (base : Nat) (a w : World) (bo bw br : Nat) (ws : List (List UInt8)) (row : List UInt8) (vo vr : Value) (hl : ws.length ≤ 100000) (hr : row.length ≤ 100000) (h0 : row ≠ [])
    (h : WSt base a w bo bw br ws row (addFn bo) vo vr) :
    Calls Try.prog 78 #[.pointer (some ⟨br, 0, none⟩), .pointer (some ⟨bw, 0, none⟩)] w fun e w' => e = .returned (.tuple #[]) ∧ ∃ vo' vr', WSt base a w' bo bw br (ws ++ tell row) [] (addFn bo) vo' vr' := by
  have ht : tell row = [row.take 24] := if_neg h0
  rw [ht]
  have hrl : 0 < row.length := List.length_pos_iff.2 h0
  obtain ⟨g, c, rfl⟩ : ∃ g c, vr = .slice (some ⟨g, 0, none⟩) row.length c := by
    obtain ⟨g, c, hv, _⟩ := h.ro.form hrl
    exact ⟨g, c, hv⟩
  have c0 := h.r.cell 0
  have f0 := h.r.frozen 0
  have c1 := h.f.cell 0
  simp only [List.getElem?_toArray, List.getElem?_cons_zero] at c0 c1
  have D := sadd_any base a w.drew bo bw br ws row (row.take 24) _ _ _ hl h.drew
  obtain ⟨M, hM⟩ : ∃ M, M = min row.length 24 := ⟨_, rfl⟩
  have kd := own_bytes_take (m := M) h.ro rfl (by omega) w.drew rfl
  have KD : ∀ (w' : World) base a bo bw br ws fv vo, WSt base a w' bo bw br ws row fv vo (.slice (some ⟨g, 0, none⟩) row.length c) → (convert 30 9 (.slice (some ⟨g, 0, none⟩) M c)).run Try.prog w' = .ok (.string (bs (row.take M))) w' := fun w' _ _ _ _ _ _ _ _ h' => own_bytes_take (m := M) h'.ro rfl (by omega) w' rfl
  have htm : row.take M = row.take 24 := by
    rw [hM]
    by_cases h24 : row.length ≤ 24
    · rw [Nat.min_eq_left h24, List.take_of_length_le (by omega), List.take_of_length_le h24]
    · rw [Nat.min_eq_right (by omega)]
  rw [htm] at kd KD
  have hmn : min (row.length : Int) 24 = (M : Int) := by omega
  have hwf := (own_wf h.ro).2
  have ks := fun wx => run_cuth (P := Try.prog) (t := 30) (s := 1) Try.underlying30 (fun _ => by kernel_rfl) g 0 row.length c .i64 (M : Int) M rfl (by omega) wx
  have H := Lib.hid h
  have D := Lib.hid D
  generalize hn : row.length = n at *
  have g1 : decide (0 < n) = true := by simp; omega
  clear h hn h0 ht hM htm
  unfold addFn at c1
  go_enter Try.func78, Try.ntmps78
  go_upto_region 1 with fail
  go_region_held3 (fun wx => wx.cell? ⟨br, 0, none⟩ = some (.slice (some ⟨g, 0, none⟩) n c) ∧ wx.cell? ⟨bw, 0, none⟩ = some (.func (.func 47) #[] #[.pointer (some ⟨bo, 0, none⟩)]) ∧ (convert 30 9 (.slice (some ⟨g, 0, none⟩) M c)).run Try.prog wx = .ok (.string (bs (row.take 24))) wx) (first | exact ⟨c0, c1, kd⟩ | exact k0) (first | (go_at_call 47; (with_reducible refine D.out.mono ?_); rintro e w' ⟨rfl, vo', h'⟩; have k0 : w'.cell? ⟨br, 0, none⟩ = some (.slice (some ⟨g, 0, none⟩) n c) ∧ w'.cell? ⟨bw, 0, none⟩ = some (.func (.func 47) #[] #[.pointer (some ⟨bo, 0, none⟩)]) ∧ (convert 30 9 (.slice (some ⟨g, 0, none⟩) M c)).run Try.prog w' = .ok (.string (bs (row.take 24))) w' := ⟨h'.r.cell 0, h'.f.cell 0, KD w' _ _ _ _ _ _ _ _ h'⟩))
  obtain ⟨c2, c3, _⟩ := k0
  have f2 := h'.r.frozen 0
  have H' := Lib.hid h'
  clear h' D H c0 f0 c1
  go_wp2_with fail
  refine bodyPost_end (results_none rfl _ _ _) rfl ?_
  exact ⟨rfl, _, _, H'.out.row_cut⟩
theorem stell_any (base : Nat) (a w : World) (bo bw br : Nat) (ws : List (List UInt8)) (row : List UInt8) (vo vr : Value) (hl : ws.length ≤ 100000) (hr : row.length ≤ 100000)
    (h : WSt base a w bo bw br ws row (addFn bo) vo vr) :
    Calls Try.prog 78 #[.pointer (some ⟨br, 0, none⟩), .pointer (some ⟨bw, 0, none⟩)] w fun e w' => e = .returned (.tuple #[]) ∧ ∃ vo' vr', WSt base a w' bo bw br (ws ++ tell row) [] (addFn bo) vo' vr' := by
  by_cases h0 : row = []
  · subst h0; exact stell_nil base a w bo bw br ws vo vr h
  · exact stell_word base a w bo bw br ws row vo vr hl hr h0 h
end Go.Proofs.Ytloakdiioaodaaa.Sift
