/- Plain: the best match by chains of places with the same three bytes. T -/
import Derived.Test.YtbgoibedicbkjaaGreatDoorZTwoOpens1
import Derived.Test.YtbgoibedicbkjaaGreatDoorZTwoOpens3
import Derived.Test.YtbgoibedicbkjaaGreatDoorZTwoOpens2
import Derived.Test.YtbgoibedicbkjaaGreatDoorZTwoOpens12
import Derived.Deep.RegionHeld3
import Derived.Test.YtbgoibedicbkjaaGreatDoorProg
import Derived.Maps.OwnSet
import Derived.DeepKeys4
import Derived.Deep.AppendLies
import Derived.Lib.MinMax
import Derived.Deep.RegionWith
import Derived.Deep.DeepCutAuto
import Derived.Laws.MakeOwn
namespace Go.Proofs.YtbgoibedicbkjaaGreatDoor end Go.Proofs.YtbgoibedicbkjaaGreatDoor open Go.Proofs.YtbgoibedicbkjaaGreatDoor
namespace Go.Proofs.YtbgoibedicbkjaaGreatDoor.Lz
end Go.Proofs.YtbgoibedicbkjaaGreatDoor.Lz
namespace Go.Proofs.YtbgoibedicbkjaaGreatDoor.Lz
open Go.RowKit Mem Own Canon
end Go.Proofs.YtbgoibedicbkjaaGreatDoor.Lz
namespace Go.Proofs.YtbgoibedicbkjaaGreatDoor.Lz
open Go.RowKit Go.Maps Mem Own
end Go.Proofs.YtbgoibedicbkjaaGreatDoor.Lz
namespace Go.Proofs.YtbgoibedicbkjaaGreatDoor.Lz
open Go.RowKit Go.Maps Mem Own Canon
section
variable {w w':World} {cb mb base:Nat} {l:List Nat} {n m:Nat} {D:DataW Unit} {pv:Value} {ps:List Int}
end
theorem rjZb{w:World}{base n g c i:Nat}{e:TypeId}{xs:List Value}(h:w.ownsRow base e 1 (.slice (some ⟨g,0,none⟩) n c) n xs)(u:Value)(_hi:i<n):(w.setCell ⟨g,i,none⟩ u).ownsRow base e 1 (.slice (some ⟨g,0,none⟩) n c) n (xs.set i u):=by
 refine⟨by rw[List.length_set];exact h.1,?_⟩
 rcases h.2 with ⟨hv,_⟩|⟨g',cap,cur,hv,hb,hg,h1,h2,h3,h4⟩
 ·cases hv
 ·injection hv with e1 e2 e3
  injection e1 with e1
  injection e1 with e1
  subst e1 e3
  have hbl:Blk w g e cur:=hg
  refine .inr ⟨g,c,cur.setIfInBounds i u,rfl,hb,hbl.set i u,h1,h2,by simpa using h3,?_⟩
  rw[<-h4]
  simp[List.take_set]
theorem own_cells{w:World}{base n g c i:Nat}{e:TypeId}{xs:List Value}(h:w.ownsRow base e 1 (.slice (some ⟨g,0,none⟩) n c) n xs)(hi:i<n):w.cell? ⟨g,i,none⟩=xs[i]? /\w.frozen? ⟨g,i,none⟩=false/\base<=g:=by
 rcases h.2 with ⟨hv,_⟩|⟨g',cap,cur,hv,hb,hg,h1,h2,h3,h4⟩
 ·cases hv
 ·injection hv with e1 e2 e3
  injection e1 with e1
  injection e1 with e1
  subst e1 e3
  have hbl:Blk w g e cur:=hg
  refine⟨?_,hbl.frozen i,hb⟩
  rw[hbl.cell i,<-h4,List.getElem?_take_of_lt (by omega)]
  simp
end Go.Proofs.YtbgoibedicbkjaaGreatDoor.Lz
namespace Go.Proofs.YtbgoibedicbkjaaGreatDoor.Lz
open Go.RowKit Go.Maps Mem Own Canon
end Go.Proofs.YtbgoibedicbkjaaGreatDoor.Lz
namespace Go.Proofs.YtbgoibedicbkjaaGreatDoor.Lz
open Go.RowKit Go.Maps Mem Own Canon
open Go.Proofs.YtbgoibedicbkjaaGreatDoor.Toks (Tk)
section
variable {w0 w w':World} {cb mb:Nat} {l:List Nat} {at_ k:Nat} {D:DataW Unit} {pv vt:Value} {ts:List Tk}
end
end Go.Proofs.YtbgoibedicbkjaaGreatDoor.Lz
namespace Go.Proofs.YtbgoibedicbkjaaGreatDoor.Lz
open Go.RowKit Mem Own Canon
open Go.Proofs.YtbgoibedicbkjaaGreatDoor.Toks (Tk rmZ)
end Go.Proofs.YtbgoibedicbkjaaGreatDoor.Lz
