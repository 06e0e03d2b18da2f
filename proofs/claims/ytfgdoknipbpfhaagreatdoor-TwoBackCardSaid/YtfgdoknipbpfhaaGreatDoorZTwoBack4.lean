/- The table that the r -/
import Derived.Test.YtfgdoknipbpfhaaGreatDoorZTwoBack3
import Derived.Test.YtfgdoknipbpfhaaGreatDoorRows
import Derived.LaidMore
import Derived.LaidLaws
import Derived.Lib.LaidTab
import Derived.Stop.Joined
namespace Go.Proofs.YtfgdoknipbpfhaaGreatDoor
open Go.Proofs.Tryz
open Go.ChangeShapes Go.WideShapes Go.ChangeAt Go.RowKit
abbrev Kj:List (String×DataW Unit):= [("firkin/crc.shifted",Rows.laid_firkin_crc_shifted)]
theorem gT:prog.globalNamed "firkin/crc.shifted"=some 0:=my
theorem gTy:(prog.globals[(0:Nat)]?).map (·.type)=some 310:=my
theorem c32:prog.cellsOf 149=1:=my
theorem c16:prog.cellsOf 310=16:=my
theorem Zt:(Rows.laid_firkin_crc_shifted:DataW Unit)=Lib.tabData .u32 (tab.map fun(n:Nat)=>(n:Int)):=my
theorem Y4{W:World}(h:laidMetH prog Kj W):TabAt W:=by rw[MakeChecks.laidMetH_plain _ _ _ my]at h;unfold Kj at h;rw[Zt]at h;have ht:=Lib.tabIs_of_head gT gTy underlying310 underlying149 c32 c16 h;intro i hi;have hl:tab.length=16:=rfl;have:=ht.cell gT i (by rw[Bu,hl];exact hi);rw[this];simp[List.getD_eq_getElem?_getD,hl,hi]
theorem Y9(os:Os)(h:Array Value):laidMetH prog Kj ((World.doorLaid prog 400 os).forCall (fun _ _=>0) ⟨#[],h,[]⟩).memory:=
 laidMetH_of_parts3 (fuel:=8) (laidMet_of_run' 8 my my) my my
theorem X0(os:Os)(h:Array Value):((World.doorLaid prog 400 os).forCall (fun _ _=>0) ⟨#[],h,[]⟩).Shaped prog:=
 World.shaped_of_RefB my my
end Go.Proofs.YtfgdoknipbpfhaaGreatDoor
