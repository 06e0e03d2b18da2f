/- The walk of bits' Wr -/
import Derived.Test.YtfgdoknipbpfhaaGreatDoorZBodyIndex17
import Derived.Test.YtfgdoknipbpfhaaGreatDoorZBodyIndex13
namespace Go.Proofs.YtfgdoknipbpfhaaGreatDoor
variable{w:World}{g n:Nat}{l:List Int}{b:Int}
namespace Huff
open Go.RowKit Mem Canon
end Huff
namespace Huff
open Go.RowKit Mem Canon Own
theorem RW.rowOf{K:Nat->Prop}{base c:Nat}{bs:List Bool}{A:Option Addr}(h:RW K w base g bs (.slice A n c)):bs.length=n/\Row w w A n 1 (kZ .u8 (b01 bs)):=by
 have ho:=h.own
 have hn:bs.length=n:=by
  rcases ho.2 with ⟨hv,hx⟩|⟨g,E,cur,hv,_⟩
  ·injection hv with _ e _;exact hx.trans e.symm
  ·injection hv with _ e _;exact e.symm
 rw[hn]at ho;exact⟨hn,Row.of_own ho rfl (fun i j hi hj=>by have e0:j=0:=nB;subst e0;exact numL_get (by rw[UT];omega))⟩
end Huff
namespace Huff
open Go.RowKit Mem Canon Own
open Toks (Tk Pc rZ EQ Bd CountPost)
def Ii(ts:List Tk)(w:World)(e:Ending)(w':World):Prop:=
 ∃v,e= .returned (.tuple #[v, .int .i64 (TW.Ib ts)])/\w'.ownsRow w 5 1 v (TW.G9 ts).length (bZ .u8 (TW.G9 ts))/\Below w w w'
theorem VQ{B:Nat}(h:Blk w g 149 (ints .u32 l))(hg:g<B)(hl:Toks.Within b l)(hn:l.length=n):Row w B (some ⟨g,0,none⟩) n 1 (kZ .u32 (TW.Is l)):=
 Row.of_blk h hg fun i j hi hj=>by
  obtain rfl:j=0:=nB
  rw[EK,Cw,La _ _ _ nB];unfold kZ;rw[TW.Mr,Int.toNat_of_nonneg (hl i).1]
theorem VB(hl:Toks.Within b l)(hb:b<4294967296):∀x∈TW.Is l,x<4294967296:=by intro x hx;unfold TW.Is at hx;obtain⟨y,hy,rfl⟩:=Cl.1 hx;obtain⟨i,hi,rfl⟩:=List.mem_iff_getElem.1 hy;have:=hl i;rw[Aq,AD hi,FV]at this;omega
theorem Zj{ts:List Tk}(h:∀t∈ts,0<=t.lit/\t.lit<=255)(i:Toks.DJ ts=true):∀t∈ts,Bd t.lit t.len t.dist=true/\(TW.lsS ts).getD (rZ t).sym.toNat 0≠0/\(t.len≠0->(TW.lsF ts).getD (rZ t).dist.toNat 0≠0):=by
 intro t ht;unfold Toks.DJ at i;have hm:=EL.1 i t ht;obtain⟨S,D,L,F,j,hS,hD,_⟩:=Toks.MY t (h t ht).1 (h t ht).2 hm;have e1:(rZ t).sym.toNat=S:=by rw[j];rfl
 have e2:(rZ t).dist.toNat=D:=by rw[j];rfl
 exact⟨hm,TW.Oj ht nB,fun h0=>TW.Oe ht h0 nB⟩
end Huff
end Go.Proofs.YtfgdoknipbpfhaaGreatDoor
