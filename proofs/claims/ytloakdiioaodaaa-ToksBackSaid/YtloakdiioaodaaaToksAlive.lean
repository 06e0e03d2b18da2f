/-
  The walk of the example of chapter 11.
-/
import Derived.Test.YtloakdiioaodaaaToksWalks
import Derived.KernelRfl
namespace Go.Proofs.Ytloakdiioaodaaa.Toks
open Go.RowKit Go.Proofs.Ytloakdiioaodaaa.Mem

theorem alive11 (w : World) : Calls Try.prog 12 #[] w fun e w' => e = .returned (.bool true) ∧ Below w.heap.size w w' := by
  have c := fun w => toks_split ⟨0, 10, 6⟩ w (by decide) (by decide)
  rw [show splitP ⟨0, 10, 6⟩ = ⟨260, 0, 2, 2⟩ from by kernel_rfl, show splitE ⟨0, 10, 6⟩ = 0 from by kernel_rfl] at c
  rw [Pc.val_mk, Tk.val_mk] at c
  have C := Lib.hid c
  clear c
  go_enter Try.func12, Try.ntmps12
  go_wp2_with (go_at_call 27; refine (C.out _).mono ?_; rintro e w' ⟨rfl, hb⟩; have hz := hb.size)
  go_ret
  refine ⟨rfl, ?_⟩
  (repeat (first | (with_reducible exact Below.refl _ _) | (with_reducible assumption) | (with_reducible refine Below.drew ?_) | (with_reducible refine below_drewN ?_ _) | ((with_reducible refine bel_set ?_ ?_); (focus (first | (simp; done) | (simp; omega) | omega | (simp at *; omega)))) | (with_reducible refine bel_alloc0 ?_) | (with_reducible refine bel_step0 (by assumption) ?_) | ((with_reducible refine bel_alloc ?_ ?_); (focus (first | (simp; done) | (simp; omega) | omega | (simp at *; omega)))) | ((with_reducible refine bel_step (by assumption) ?_ ?_); (focus (first | (simp; done) | (simp; omega) | omega | (simp at *; omega))))))

end Go.Proofs.Ytloakdiioaodaaa.Toks
