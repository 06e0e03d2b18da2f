/- The walk of the head -/
import Derived.Test.YtfgdoknipbpfhaaGreatDoorZBodyBack22
import Derived.WideShapes
namespace Go.Proofs.YtfgdoknipbpfhaaGreatDoor
namespace One
open Go.RowKit Mem Own Canon NumPut Nums Opts
open Recs (JD)
def hP(bs:List Nat):Nat:=GM bs (AJ 32768 bs 0 0) (AM 32768 bs 0 0)
def hA2(bs:List Nat):Nat:=takeA bs (AJ 32768 bs 0 0) (AM 32768 bs 0 0) 1
def hE2(bs:List Nat):Int:=Ca bs (AJ 32768 bs 0 0) (AM 32768 bs 0 0) 1
def hE3(bs:List Nat):Int:=if 1<hP bs then Gk (hE2 bs) 2 else hE2 bs
def hN(bs:List Nat):Nat:=Bd 20000 bs (hA2 bs) (hE3 bs)
def hO(bs:List Nat):Opt:=⟨(Bd 32768 bs 0 0:Nat),decide (hP bs=1),0,0,0,0⟩
end One
end Go.Proofs.YtfgdoknipbpfhaaGreatDoor
