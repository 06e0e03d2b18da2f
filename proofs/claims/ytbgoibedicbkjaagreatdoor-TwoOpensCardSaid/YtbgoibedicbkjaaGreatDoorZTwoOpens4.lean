/- The table that the rows lay: what it gives the walks; the witness's wo -/
import Derived.Test.YtbgoibedicbkjaaGreatDoorZTwoOpens3
import Derived.Test.YtbgoibedicbkjaaGreatDoorRows
import Derived.LaidMore
import Derived.LaidLaws
import Derived.Lib.LaidTab
import Derived.Stop.Joined
namespace Go.Proofs.YtbgoibedicbkjaaGreatDoor end Go.Proofs.YtbgoibedicbkjaaGreatDoor open Go.Proofs.YtbgoibedicbkjaaGreatDoor
namespace Go.Proofs.YtbgoibedicbkjaaGreatDoor.Door
open Go.ChangeShapes Go.WideShapes Go.ChangeAt Go.RowKit
abbrev ynZ:List (String×DataW Unit):= [("firkin/crc.shifted",Rows.laid_firkin_crc_shifted)]
theorem gT:Tryz.prog.globalNamed "firkin/crc.shifted"=some 0:=by kernel_rfl
theorem gTy:(Tryz.prog.globals[(0:Nat)]?).map (·.type)=some 275:=by kernel_rfl
theorem c32:Tryz.prog.cellsOf 145=1:=by kernel_rfl
theorem c16:Tryz.prog.cellsOf 275=16:=by kernel_rfl
theorem xiZb:(Rows.laid_firkin_crc_shifted:DataW Unit)=Lib.tabData .u32 (Crc.tab.map fun(n:Nat)=>(n:Int)):=by kernel_rfl
theorem klZb{W:World}(h:laidMetH Tryz.prog ynZ W):Crc.TabAt W:=by
 rw[MakeChecks.laidMetH_plain _ _ _ (by kernel_rfl)]at h
 unfold ynZ at h
 rw[xiZb]at h
 have ht:=Lib.tabIs_of_head gT gTy Tryz.underlying275 Tryz.underlying145 c32 c16 h
 intro i hi
 have hl:Crc.tab.length=16:=rfl
 have:=ht.cell gT i (by rw[List.length_map,hl];exact hi)
 rw[this]
 simp[List.getD_eq_getElem?_getD,hl,hi]
theorem yiZb(os:Os)(args:Array Value):laidMetH Tryz.prog ynZ ((World.doorLaid Tryz.prog 400 os).forCall (fun _ _=>0) ⟨#[],args,[]⟩).memory:=
 laidMetH_of_parts3 (fuel:=8) (laidMet_of_run' 8 (by kernel_rfl) (by kernel_rfl)) (by kernel_rfl) (by kernel_rfl)
theorem kyZ(os:Os)(args:Array Value):((World.doorLaid Tryz.prog 400 os).forCall (fun _ _=>0) ⟨#[],args,[]⟩).Shaped Tryz.prog:=
 World.shaped_of_RefB (by kernel_rfl) (by kernel_rfl)
end Go.Proofs.YtbgoibedicbkjaaGreatDoor.Door
