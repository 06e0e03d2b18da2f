/- The table that the r -/
import Derived.Test.YtbgoibedicbkjaaGreatDoorZBodyLogs3
import Derived.Test.YtbgoibedicbkjaaGreatDoorRows
import Derived.LaidMore
import Derived.LaidLaws
import Derived.Lib.LaidTab
import Derived.Stop.Joined
namespace Go.Proofs.YtbgoibedicbkjaaGreatDoor
namespace Door
open Go.ChangeShapes Go.WideShapes Go.ChangeAt Go.RowKit
abbrev I6:List (String×DataW Unit):= [("firkin/crc.shifted",Rows.laid_firkin_crc_shifted)]
theorem gT:Tryz.prog.globalNamed "firkin/crc.shifted"=some 0:=by kernel_rfl
theorem gTy:(Tryz.prog.globals[(0:Nat)]?).map (·.type)=some 275:=by kernel_rfl
theorem c32:Tryz.prog.cellsOf 145=1:=by kernel_rfl
theorem c16:Tryz.prog.cellsOf 275=16:=by kernel_rfl
theorem Ws:(Rows.laid_firkin_crc_shifted:DataW Unit)=Lib.tabData .u32 (Crc.tab.map fun(n:Nat)=>(n:Int)):=by kernel_rfl
theorem Ue{W:World}(h:laidMetH Tryz.prog I6 W):Crc.TabAt W:=by rw[MakeChecks.laidMetH_plain _ _ _ (by kernel_rfl)]at h;unfold I6 at h;rw[Ws]at h;have ht:=Lib.tabIs_of_head gT gTy Tryz.underlying275 Tryz.underlying145 c32 c16 h;intro i hi;have hl:Crc.tab.length=16:=rfl;have:=ht.cell gT i (by rw[BN,hl];exact hi);rw[this];simp[List.getD_eq_getElem?_getD,hl,hi]
theorem Wd(os:Os)(h:Array Value):laidMetH Tryz.prog I6 ((World.doorLaid Tryz.prog 400 os).forCall (fun _ _=>0) ⟨#[],h,[]⟩).memory:=
 laidMetH_of_parts3 (fuel:=8) (laidMet_of_run' 8 (by kernel_rfl) (by kernel_rfl)) (by kernel_rfl) (by kernel_rfl)
theorem VQ(os:Os)(h:Array Value):((World.doorLaid Tryz.prog 400 os).forCall (fun _ _=>0) ⟨#[],h,[]⟩).Shaped Tryz.prog:=
 World.shaped_of_RefB (by kernel_rfl) (by kernel_rfl)
end Door
end Go.Proofs.YtbgoibedicbkjaaGreatDoor
