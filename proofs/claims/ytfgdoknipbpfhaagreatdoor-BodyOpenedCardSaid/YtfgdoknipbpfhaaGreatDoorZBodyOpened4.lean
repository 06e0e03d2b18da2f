/- The table that the r -/
import Derived.Test.YtfgdoknipbpfhaaGreatDoorZBodyOpened3
import Derived.Test.YtfgdoknipbpfhaaGreatDoorRows
import Derived.LaidMore
import Derived.LaidLaws
import Derived.Lib.LaidTab
import Derived.Stop.Joined
namespace Go.Proofs.YtfgdoknipbpfhaaGreatDoor
open Go.Proofs.Tryz
namespace Door
open Go.ChangeShapes Go.WideShapes Go.ChangeAt Go.RowKit
abbrev JF:List (String×DataW Unit):= [("firkin/crc.shifted",Rows.laid_firkin_crc_shifted)]
theorem gT:prog.globalNamed "firkin/crc.shifted"=some 0:=mr
theorem gTy:(prog.globals[(0:Nat)]?).map (·.type)=some 310:=mr
theorem c32:prog.cellsOf 149=1:=mr
theorem c16:prog.cellsOf 310=16:=mr
theorem Wk:(Rows.laid_firkin_crc_shifted:DataW Unit)=Lib.tabData .u32 (Crc.tab.map fun(n:Nat)=>(n:Int)):=mr
theorem Yx{W:World}(h:laidMetH prog JF W):Crc.TabAt W:=by rw[MakeChecks.laidMetH_plain _ _ _ mr]at h;unfold JF at h;rw[Wk]at h;have ht:=Lib.tabIs_of_head gT gTy underlying310 underlying149 c32 c16 h;intro i hi;have hl:Crc.tab.length=16:=rfl;have:=ht.cell gT i (by rw[Bc,hl];exact hi);rw[this];simp[List.getD_eq_getElem?_getD,hl,hi]
theorem nP(os:Os)(h:Array Value):laidMetH prog JF ((World.doorLaid prog 400 os).forCall (fun _ _=>0) ⟨#[],h,[]⟩).memory:=
 laidMetH_of_parts3 (fuel:=8) (laidMet_of_run' 8 mr mr) mr mr
theorem Yc(os:Os)(h:Array Value):((World.doorLaid prog 400 os).forCall (fun _ _=>0) ⟨#[],h,[]⟩).Shaped prog:=
 World.shaped_of_RefB mr mr
end Door
end Go.Proofs.YtfgdoknipbpfhaaGreatDoor
