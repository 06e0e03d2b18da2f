/- The walk of the head -/
import Derived.Test.YtfgdoknipbpfhaaGreatDoorZBodyIndex32
import Derived.WideShapes
namespace Go.Proofs.YtfgdoknipbpfhaaGreatDoor
namespace One
open Go.RowKit Mem Own Canon NumPut Nums Opts
open Recs (Jo)
def hP(bs:List Nat):Nat:=GQ bs (AR 32768 bs 0 0) (AU 32768 bs 0 0)
def hA2(bs:List Nat):Nat:=takeA bs (AR 32768 bs 0 0) (AU 32768 bs 0 0) 1
def hE2(bs:List Nat):Int:=Cj bs (AR 32768 bs 0 0) (AU 32768 bs 0 0) 1
def hE3(bs:List Nat):Int:=if 1<hP bs then Gq (hE2 bs) 2 else hE2 bs
def hN(bs:List Nat):Nat:=Bh 20000 bs (hA2 bs) (hE3 bs)
def hO(bs:List Nat):Opt:=⟨(Bh 32768 bs 0 0:Nat),decide (hP bs=1),0,0,0,0⟩
end One
end Go.Proofs.YtfgdoknipbpfhaaGreatDoor
