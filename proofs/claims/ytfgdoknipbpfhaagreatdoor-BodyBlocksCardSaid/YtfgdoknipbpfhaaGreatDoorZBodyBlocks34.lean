/- The walk of the head -/
import Derived.Test.YtfgdoknipbpfhaaGreatDoorZBodyBlocks22
import Derived.WideShapes
namespace Go.Proofs.YtfgdoknipbpfhaaGreatDoor
namespace One
open Go.RowKit Mem Own Canon NumPut Nums Opts
open Recs (IZ)
def hP(bs:List Nat):Nat:=Gl bs (zZ 32768 bs 0 0) (AJ 32768 bs 0 0)
def hA2(bs:List Nat):Nat:=takeA bs (zZ 32768 bs 0 0) (AJ 32768 bs 0 0) 1
def hE2(bs:List Nat):Int:=BK bs (zZ 32768 bs 0 0) (AJ 32768 bs 0 0) 1
def hE3(bs:List Nat):Int:=if 1<hP bs then FX (hE2 bs) 2 else hE2 bs
def hN(bs:List Nat):Nat:=AY 20000 bs (hA2 bs) (hE3 bs)
def hO(bs:List Nat):Opt:=⟨(AY 32768 bs 0 0:Nat),decide (hP bs=1),0,0,0,0⟩
end One
end Go.Proofs.YtfgdoknipbpfhaaGreatDoor
