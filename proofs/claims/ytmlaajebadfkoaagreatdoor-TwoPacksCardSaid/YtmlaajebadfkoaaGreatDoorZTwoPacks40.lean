/- How an argument that is a slice reads: its elements' cells, as a row.  -/
import Derived.Test.YtmlaajebadfkoaaGreatDoorZTwoPacks1
import Derived.Test.YtmlaajebadfkoaaGreatDoorZTwoPacks3
import Derived.Test.YtmlaajebadfkoaaGreatDoorZTwoPacks28
import Derived.OpenShut
import Derived.Lib.SmallJoins
import Derived.Deep.Slices
import Derived.Deep.Fields
import Derived.ChangeSame
import Derived.Test.YtmlaajebadfkoaaGreatDoorProg
import Derived.KernelRfl
namespace Go.Proofs.YtmlaajebadfkoaaGreatDoor end Go.Proofs.YtmlaajebadfkoaaGreatDoor open Go.Proofs.YtmlaajebadfkoaaGreatDoor
namespace Go.Proofs.YtmlaajebadfkoaaGreatDoor.Open
open Go.ChangeShapes Go.WideShapes Go.RowKit Go.Deep Mem
def bjZ(w:World)(A:Option Addr)(k:Nat):Int:=
 match A with
 |some a=>(match w.cell? ⟨a.block,a.off+k,none⟩with|some (.int _ n)=>n|_=>0)
 |none=>0
def cjZ(w:World)(A:Option Addr)(k:Nat):ByteArray:=
 match A with
 |some a=>(match w.cell? ⟨a.block,a.off+k,none⟩with|some (.string s)=>s|_=>ByteArray.empty)
 |none=>ByteArray.empty
theorem olZ{w:World}{b off k:Nat}{kd:IntKind}{n:Int}(h:w.cell? ⟨b,off+k,none⟩=some (.int kd n)):bjZ w (some ⟨b,off,none⟩) k=n:=by
 simp[bjZ,h]
theorem kwZ{w:World}{b off k:Nat}{s:ByteArray}(h:w.cell? ⟨b,off+k,none⟩=some (.string s)):cjZ w (some ⟨b,off,none⟩) k=s:=by
 simp[cjZ,h]
section
variable {H:Type} {enc:TypeId×Value->H} {P:Program} {w:World} {base:Nat} {spare:Nat->Bool} {held:Bool}
theorem add_none(b off i:Nat):(⟨b,off,none⟩:Addr).add i=⟨b,off+i,none⟩:=by
 unfold Addr.add
 split
 ·simp_all
 ·rfl
theorem rqZb{t e:TypeId}{fs:Array Field}{fuel:Nat}{A:Option Addr}{len cap:Nat}{x:DataW H×List MemPlace}(ht:P.underlying t=some (.slice e))
 (he:P.underlying e=some (.struct fs))(hone:oneCellFields P fs=true)(hC:P.cellsOf e=fs.size)(hpos:0<fs.size)(s:Nat)(hs:fs.size=s)
 (h:DataW.trod enc P w base spare held fuel t [.slice A len cap]=some x):
 len<=cap/\cap<=maxLen/\
 (0<len->∃b off,A=some ⟨b,off,none⟩/\b<w.heap.size/\∀i,i<len->∀ (j:Nat) (f:Field),fs[j]? =some f->
   ∃ (v:Value) (y:DataW H×List MemPlace) (n:Nat),w.cell? ⟨b,off+(i*s+j),none⟩=some v/\DataW.trod enc P w base spare held n f.type [v]=some y):=by
 subst hs
 rcases open_slice ht h with ⟨h0,_⟩|⟨a,len',cap',m,n,D,Pl,hcs,hb,hl,hm,hmm,hx,hi⟩
 ·simp at h0
  obtain⟨rfl,rfl,rfl⟩:=h0
  exact⟨Nat.le_refl _,Nat.zero_le _,fun h=>absurd h (by omega)⟩
 ·simp at hcs
  obtain⟨rfl,rfl,rfl⟩:=hcs
  refine⟨hl,hm,fun hn=> ?_⟩
  have hmlen:len<=m:=by rw[hmm];split<;>omega
  have cellAt:∀i,i<len->∀ (j:Nat) (f:Field),fs[j]? =some f->∃ (v:Value) (y:DataW H×List MemPlace) (n:Nat),w.cell? (a.add (i*fs.size+j))=some v/\DataW.trod enc P w base spare held n f.type [v]=some y:=by
   intro i him j f hj
   obtain⟨cs',hc,ht'⟩:=hi i (by omega)
   rw[hC]at hc
   obtain⟨ys,n',_,_,_,hyl,hf⟩:=DataW.trod_struct he ht'
   obtain⟨_,hcl,hat⟩:=World.cells?_some hc
   obtain⟨ho,hk⟩:=hone_of hone j f hj
   have hjl:j<fs.size:=(Array.getElem?_eq_some_iff.1 hj).1
   have hcell:=hat j hjl
   have h1:=hf j f hj
   have h2:(cs'.drop j).take 1= [cs'[j]'(by omega)]:=by rw[List.drop_eq_getElem_cons (by omega)];rfl
   rw[ho,hk,h2]at h1
   have hys:ys[j]? =some (ys[j]'(by omega)):=List.getElem?_eq_getElem (by omega)
   refine⟨cs'[j]'(by omega),ys[j]'(by omega),n',?_,h1.trans hys⟩
   rw[<-add_add,hcell]
   exact List.getElem?_eq_getElem (by omega)
  obtain⟨b,off,spot⟩:=a
  obtain⟨v0,_,_,hv0,_⟩:=cellAt 0 hn 0 fs[0] (Array.getElem?_eq_getElem hpos)
  have hspot:spot=none:=by
   have:=World.cell?_spot hv0
   simpa[Addr.add]using this
  subst hspot
  refine⟨b,off,rfl,?_,?_⟩
  ·have:=World.block_lt_of_cell? _ _ hv0
   rw[add_none]at this
   exact this
  ·intro i him j f hj
   obtain⟨v,y,n,h1,h2⟩:=cellAt i him j f hj
   rw[add_none]at h1
   exact⟨v,y,n,h1,h2⟩
end
end Go.Proofs.YtmlaajebadfkoaaGreatDoor.Open
namespace Go.Proofs.YtmlaajebadfkoaaGreatDoor.Open
open Go.ChangeShapes Go.WideShapes Go.RowKit Go.Deep Mem Canon
end Go.Proofs.YtmlaajebadfkoaaGreatDoor.Open
namespace Go.Proofs.YtmlaajebadfkoaaGreatDoor.Open
open Go.ChangeShapes Go.WideShapes Go.RowKit Go.Joins Go.Deep Mem Recs Opts
theorem sqZb{H:Type}{enc:TypeId×Value->H}{w:World}{base:Nat}{spare:Nat->Bool}{held:Bool}{fuel:Nat}{A:Option Addr}{len cap:Nat}{x:DataW H×List MemPlace}
 (h:DataW.trod enc Tryz.prog w base spare held fuel 24 [.slice A len cap]=some x):
 ∃la:List Rec,la.length=len/\Row w w.heap.size A len 4 (xbZ la)/\len<=cap/\len<=9223372036854775807/\∀r∈la,ccZ r:=by
 obtain⟨h1,h2,h3⟩:=rqZb Tryz.underlying24 Tryz.underlying72 (by kernel_rfl) (by kernel_rfl) (by decide) 4 rfl h
 refine⟨(List.range len).map fun i=>⟨bjZ w A (i*4),bjZ w A (i*4+1),cjZ w A (i*4+2),cjZ w A (i*4+3)⟩,by simp,?_,h1,by unfold maxLen at h2;omega,?_⟩
 ·intro hn
  obtain⟨b,off,rfl,hb,hc⟩:=h3 hn
  refine⟨b,off,rfl,hb,fun i j hi hj=> ?_⟩
  have hg:((List.range len).map fun i=>(⟨bjZ w (some ⟨b,off,none⟩) (i*4),bjZ w (some ⟨b,off,none⟩) (i*4+1),cjZ w (some ⟨b,off,none⟩) (i*4+2),cjZ w (some ⟨b,off,none⟩) (i*4+3)⟩:Rec)).getD i roZ=
   ⟨bjZ w (some ⟨b,off,none⟩) (i*4),bjZ w (some ⟨b,off,none⟩) (i*4+1),cjZ w (some ⟨b,off,none⟩) (i*4+2),cjZ w (some ⟨b,off,none⟩) (i*4+3)⟩:=by
   simp[List.getD,hi]
  unfold xbZ
  rw[hg]
  match j,hj with
  |0,_=>
   obtain⟨v0,y0,n0,c0,t0⟩:=hc i hi 0 _ rfl
   obtain⟨x0,e0,_,w0⟩:=DataW.trod_int Tryz.underlying56 t0
   simp only[List.cons.injEq,and_true]at e0
   subst e0
   rw[olZ (k:=i*4) c0]
   exact c0
  |1,_=>
   obtain⟨v0,y0,n0,c0,t0⟩:=hc i hi 1 _ rfl
   obtain⟨x0,e0,_,w0⟩:=DataW.trod_int Tryz.underlying5 t0
   simp only[List.cons.injEq,and_true]at e0
   subst e0
   rw[olZ c0]
   exact c0
  |2,_=>
   obtain⟨v0,y0,n0,c0,t0⟩:=hc i hi 2 _ rfl
   obtain⟨x0,e0,_,w0⟩:=DataW.trod_string Tryz.underlying9 t0
   simp only[List.cons.injEq,and_true]at e0
   subst e0
   rw[kwZ c0]
   exact c0
  |3,_=>
   obtain⟨v0,y0,n0,c0,t0⟩:=hc i hi 3 _ rfl
   obtain⟨x0,e0,_,w0⟩:=DataW.trod_string Tryz.underlying9 t0
   simp only[List.cons.injEq,and_true]at e0
   subst e0
   rw[kwZ c0]
   exact c0
 ·intro r hr
  obtain⟨i,hi,rfl⟩:=List.mem_map.1 hr
  have hi:=List.mem_range.1 hi
  obtain⟨b,off,rfl,hb,hc⟩:=h3 (by omega)
  obtain⟨v0,y0,n0,c0,t0⟩:=hc i hi 0 _ rfl
  obtain⟨x0,e0,_,w0⟩:=DataW.trod_int Tryz.underlying56 t0
  simp only[List.cons.injEq,and_true]at e0
  subst e0
  obtain⟨v1,y1,n1,c1,t1⟩:=hc i hi 1 _ rfl
  obtain⟨x1,e1,_,w1⟩:=DataW.trod_int Tryz.underlying5 t1
  simp only[List.cons.injEq,and_true]at e1
  subst e1
  have b0:=bounds_u64 w0
  have b1:=bounds_u8 w1
  show ccZ ⟨_,_,_,_⟩
  unfold ccZ
  simp only
  rw[olZ (k:=i*4) c0,olZ (k:=i*4+1) c1]
  omega
theorem tdZ{α:Type}{l:List α}{n:Nat}(h:l.length=n+1):∃c t,l=c :: t/\t.length=n:=by
 cases l with
 |nil=>cases h
 |cons c t=>exact⟨c,t,rfl,Nat.succ.inj h⟩
theorem srZb{α:Type}{a:Array α}(h:a.size=6):∃c0 c1 c2 c3 c4 c5,a=#[c0,c1,c2,c3,c4,c5]:=by
 obtain⟨l⟩:=a
 obtain⟨c0,t0,rfl,h0⟩:=tdZ (n:=5) h
 obtain⟨c1,t1,rfl,h1⟩:=tdZ h0
 obtain⟨c2,t2,rfl,h2⟩:=tdZ h1
 obtain⟨c3,t3,rfl,h3⟩:=tdZ h2
 obtain⟨c4,t4,rfl,h4⟩:=tdZ h3
 obtain⟨c5,t5,rfl,h5⟩:=tdZ h4
 obtain rfl:=List.length_eq_zero_iff.1 h5
 exact⟨c0,c1,c2,c3,c4,c5,rfl⟩
theorem ylZb{P:Program}{H:Type}{enc:TypeId×Value->H}{w:World}{base:Nat}{spare:Nat->Bool}{held:Bool}{r:Reach}{b0:Nat}{t:TypeId}{f0 f1 f2 f3 f4 f5:Field}{v:Value}{d:DataW H}{p:List MemPlace}(hs:P.underlying t=some (.struct #[f0,f1,f2,f3,f4,f5]))(hone:oneCellFields P #[f0,f1,f2,f3,f4,f5]=true)(hC:P.cellsOf t=6)
 (hv:Value.okWide P w r b0 t v)(h:DataW.Trod enc P w base spare held t v d p):
 ∃ (v0 v1 v2 v3 v4 v5:Value) (y0 y1 y2 y3 y4 y5:DataW H×List MemPlace) (n:Nat),v= .agg #[v0,v1,v2,v3,v4,v5]/\
  DataW.trod enc P w base spare held n f0.type [v0]=some y0/\DataW.trod enc P w base spare held n f1.type [v1]=some y1/\DataW.trod enc P w base spare held n f2.type [v2]=some y2/\DataW.trod enc P w base spare held n f3.type [v3]=some y3/\DataW.trod enc P w base spare held n f4.type [v4]=some y4/\DataW.trod enc P w base spare held n f5.type [v5]=some y5:=by
 obtain⟨cs,rfl,hsz⟩:=okWide_struct hs hv
 obtain⟨c0,c1,c2,c3,c4,c5,rfl⟩:=srZb (hsz.trans hC)
 obtain⟨fuel,hf⟩:=h
 obtain⟨xs,n,_,_,hl,hlen,hf⟩:=DataW.trod_struct hs hf
 obtain⟨y0,t0,rfl,l0⟩:=tdZ (n:=5) hlen
 obtain⟨y1,t1,rfl,l1⟩:=tdZ l0
 obtain⟨y2,t2,rfl,l2⟩:=tdZ l1
 obtain⟨y3,t3,rfl,l3⟩:=tdZ l2
 obtain⟨y4,t4,rfl,l4⟩:=tdZ l3
 obtain⟨y5,t5,rfl,l5⟩:=tdZ l4
 obtain rfl:=List.length_eq_zero_iff.1 l5
 obtain⟨o0,k0⟩:=hone_of hone 0 f0 rfl
 obtain⟨o1,k1⟩:=hone_of hone 1 f1 rfl
 obtain⟨o2,k2⟩:=hone_of hone 2 f2 rfl
 obtain⟨o3,k3⟩:=hone_of hone 3 f3 rfl
 obtain⟨o4,k4⟩:=hone_of hone 4 f4 rfl
 obtain⟨o5,k5⟩:=hone_of hone 5 f5 rfl
 exact⟨c0,c1,c2,c3,c4,c5,y0,y1,y2,y3,y4,y5,n,rfl,by simpa[Value.cells,o0,k0]using hf 0 f0 rfl,by simpa[Value.cells,o1,k1]using hf 1 f1 rfl,by simpa[Value.cells,o2,k2]using hf 2 f2 rfl,by simpa[Value.cells,o3,k3]using hf 3 f3 rfl,by simpa[Value.cells,o4,k4]using hf 4 f4 rfl,by simpa[Value.cells,o5,k5]using hf 5 f5 rfl⟩
set_option maxRecDepth 100000 in
theorem opts{H:Type}{enc:TypeId×Value->H}{w:World}{base b0:Nat}{spare:Nat->Bool}{held:Bool}{r:Reach}{v:Value}{d:DataW H}{p:List MemPlace}
 (hv:Value.okWide Tryz.prog w r b0 23 v)(h:DataW.Trod enc Tryz.prog w base spare held 23 v d p):∃o:Opt,v=o.val:=by
 obtain⟨c0,c1,c2,c3,c4,c5,y0,y1,y2,y3,y4,y5,n,rfl,h0,h1,h2,h3,h4,h5⟩:=ylZb Tryz.underlying23 (by kernel_rfl) (by kernel_rfl) hv h
 obtain⟨x0,e0,_,_⟩:=DataW.trod_int Tryz.underlying3 h0
 obtain⟨x1,e1,_⟩:=DataW.trod_bool Tryz.underlying4 h1
 obtain⟨x2,e2,_,_⟩:=DataW.trod_int Tryz.underlying3 h2
 obtain⟨x3,e3,_,_⟩:=DataW.trod_int Tryz.underlying3 h3
 obtain⟨x4,e4,_,_⟩:=DataW.trod_int Tryz.underlying3 h4
 obtain⟨x5,e5,_,_⟩:=DataW.trod_int Tryz.underlying3 h5
 simp only[List.cons.injEq,and_true]at e0 e1 e2 e3 e4 e5
 subst e0 e1 e2 e3 e4 e5
 exact⟨⟨x0,x1,x2,x3,x4,x5⟩,rfl⟩
end Go.Proofs.YtmlaajebadfkoaaGreatDoor.Open
