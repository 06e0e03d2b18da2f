/- Numbers written: num -/
import Derived.Test.YtfgdoknipbpfhaaGreatDoorZTwoBack3
import Derived.Lib.AppendZeros
namespace Go.Proofs.YtfgdoknipbpfhaaGreatDoor
open Go.Proofs.Tryz
open Go.Lib (hid)
set_option maxHeartbeats 2000000
set_option maxRecDepth 100000
variable{x:Nat}
open Go.RowKit
theorem JO(k:IntKind)(l:List Nat)(x:Nat):dZ k (l++ [x])=dZ k l++ [.int k (x:Nat)]:=su
def fZ(x:Nat):List Nat:=if x<128 then [x]else(x % 128+128) :: fZ (x / 128)
termination_by x
decreasing_by omega
theorem Fp(h:x<128):fZ x= [x]:=by rw[fZ,Ab h]
theorem GW(h:¬x<128):fZ x=(x % 128+128) :: fZ (x / 128):=by rw[fZ,Aa h]
theorem Dc(x:Nat):∀y∈fZ x,y<=255:=by
 induction x using Nat.strongRecOn with
 |_ x ih=>
  by_cases h:x<128
  ·rw[Fp h];intro y hy;simp at hy;omega
  ·rw[GW h];intro y hy;rcases AO.1 hy with rfl|hy
   ·omega
   ·exact ih (x / 128) nj y hy
theorem RO:∀v:Nat,v<256->v |||128=v % 128+128:=ip
theorem a1h{p:Prop}(h:p:=by have G:Hid (w4.ownsRow w 5 1 v4 R.length (dZ .u8 R)):=ny;have J:Hid (Below w w w4):=(aZ HB.out).grown E sj (fun y hy=>(Aj HO.out y hy).1);go_ret;exact⟨_,rfl,G.out,J.out⟩):p:=h
theorem Ac0(w:World)(x:Nat)(hx:x<=100000):
 Calls prog 99 #[.int .u64 x] w fun e w'=>∃v,e= .returned v/\w'.ownsRow w 5 1 v (fZ x).length (dZ .u8 (fZ x))/\Below w w w':=by
 obtain⟨j0,Q,M,L,Y⟩:=info_parts Dh;obtain⟨R,hR⟩:=ii (fZ x);have U:Hid ([]++fZ x=R):=hR.symm;rw[<-hR];clear hR;go_enter func99,ntmps99;go_wp2_with fail;go_loopw [0,3] (fun u v wr=>∃ (X k:Nat) (done:List Nat),u= .int .u64 X/\X+k<=100000/\Hid (done.length=k)/\Hid (done++fZ X=R)/\Hid (wr.ownsRow w 5 1 v k (dZ .u8 done))/\Hid (Below w w wr)) (fun u _ _=>(intOf u).toNat)
 case atStart=>exact⟨x,0,[],rfl,nj,rfl,U.out,AI _ _ _ _,Ae _ _⟩
 case round=>
  obtain⟨X,k,done,rfl,hk,HL,HR,HO,HB⟩:=hrel;clear U;have zb:=HB.out.size;by_cases z:X<128
  ·have g1:=ig ((128:Int)<=X);have aa:=ig (128<=X);have c1:IntKind.u8.wrap (X:Int)=(X:Int):=ql;have j:Hid (done++ [X]=R):=ke;go_wp2_with(at_builtin;refine iZ rfl (.tmp 14) (.tmp 17) 28 rfl w 5 j0 _ 1 1 underlying28 Q M L Y rfl ip _ _ _ nm (HO.out.alloc _) _ 1 1 [.int .u8 (X:Nat)] nm (Src.of_blk (g:=wr.heap.size) (Blk.made _ _ _) 1 1 1 rfl) mp sS nj sj ?_;intro v4 w4 i E N);exact a1h
  ·have g1:=ic ((128:Int)<=X);have aa:=ic (128<=X);have c1:IntKind.u8.wrap (X:Int)=((X % 256:Nat):Int):=ql;have o1:bits .or .u8 ((X % 256:Nat):Int) 128=((X % 128+128:Nat):Int):=rr;have j:Hid ((done++ [X % 128+128])++fZ (X / 128)=R):=ki;obtain⟨b,hb⟩:=ii (X % 128+128);obtain⟨a,ha⟩:=ii (X % 256);rw[<-hb]at o1 j;rw[<-ha]at o1 c1;clear hb ha;go_wp2_with(at_builtin;refine iZ rfl (.tmp 6) (.tmp 10) 28 rfl w 5 j0 _ 1 1 underlying28 Q M L Y rfl ip _ _ _ nm (HO.out.alloc _) _ 1 1 [.int .u8 (b:Nat)] nm (Src.of_blk (g:=wr.heap.size) (Blk.made _ _ _) 1 1 1 rfl) mp sS nj sj ?_;intro v4 w4 i E N);have Z:Hid (w4.ownsRow w 5 1 v4 (k+1) (dZ .u8 (done++ [b]))):=(by rw[JO];exact i);have J:Hid (Below w w w4):=(aZ HB.out).grown E sj (fun y hy=>(Aj HO.out y hy).1);exact⟨⟨X / 128,k+1,done++ [b],Aw _ nj,nj,rO,j.out,Z.out,J.out⟩,sG⟩
theorem a0s{p:Prop}(h:p:=by
  obtain⟨j0,i,h,z,j⟩:=info_parts Dh;by_cases h0:n=0
  ·subst h0;go_enter func185,ntmps185;go_wp2_with fail;go_ret;exact⟨_,rfl,AI _ _ _ _,Ae _ _⟩
  ·have g0:=ig ((n:Int)<0)
   have g1:=ic ((0:Int)<n)
   have E:=ic (0<n)
   have s1:IntKind.i64.wrap (n:Int)=(n:Int):=Ar _ nj;have s2:IntKind.i64.wrap ((n:Int)-0)=(n:Int):=pj
   have hr:=Lib.run_append_nil_zeros (P:=prog) w 28 3 28 5 j0 _ .i64 .i64 underlying28 underlying3 i h n nj nj nj (by rw[j];omega);have hG:=grownCap_le_maxLen w n 0 5 sS;have y:=grownCap_ge w n 0 5;generalize grownCap w n 0 5=G at *;go_enter func185,ntmps185;go_wp2_with(at_builtin;refine Lib.wpList_append_run _ rfl (.tmp 20) (.tmp 21) 28 3 rfl _ _ nm nm _ _ hr ?_);go_ret;refine⟨_,rfl,⟨rX, .inr ⟨w.heap.size,G,_,rfl,Ak _,heap_alloc_new w _,nj,hG,?_,rX⟩⟩,sT⟩;simp[Builtin.zeroCells];omega):p:=h
theorem Xu(w:World)(n:Nat)(hn:n<=1000000):
 Calls prog 185 #[(),n] w fun e w'=>∃v,e= .returned v/\w'.ownsRow w 5 1 v 0 []/\Below w w w':=by
 exact a0s
structure Part where
 A:Option Addr
 c:Nat
 ls:List Nat
def Part.v(p:Part):Value:= .slice p.A p.ls.length p.c
structure Part.Ok (p:Part) (w:World):Prop where
 row:Row w w p.A p.ls.length 1 (jZ .u8 p.ls)
 nil:p.A=none->p.ls.length=0/\p.c=0
theorem Part.Ok.step{p:Part}{w w':World}(h:p.Ok w)(hb:Below w w w'):p.Ok w':=⟨(h.row.below hb).mono hb.size,h.nil⟩
def BN(ps:List Part):Nat:=(ps.flatMap Part.ls).length
theorem a0o{p:Prop}(h:p:=by
  obtain⟨j,s2,rfl,hj,ay,HS,HO,HB⟩:=hrel;clear Y U;by_cases E:j<i
  ·obtain⟨A,n,c,ls,hc,hn,hT,z,J⟩:=ah.out j E;rw[<-show s2=(T j).length from HS.out]at J;have q1:=ic ((j:Int)<i);have aq:=ic (j<i);have y0:(0:Int)<=(j:Int):=nj;have y1:(j:Int)<(i:Int):=nj;have u2:IntKind.i64.wrap ((j:Int)+1)=((j+1:Nat):Int):=pj;have a1:=(HB.out.cell (p:=⟨g,j,none⟩) aa).trans hc;have af:=hid (z _ HB.out);have Q:Hid (s2+n=(T (j+1)).length):=qv;have HT:=hid hT;have hz:=HB.out.size;have aj:Hid (∀u∈dZ .u8 ls,u.oneCell'=true):=fun u hu=>by unfold dZ at hu;obtain⟨x,_,rfl⟩:=CH.1 hu;rfl
   clear z hT hn HS E hc;go_wp2_with(at_builtin;refine iZ rfl (.tmp 31) (.tmp 32) 28 rfl w0 5 j0 _ 1 1 underlying28 ar an al ak rfl ip _ _ _ nm HO.out _ _ _ _ nm af.out aj.out sS nj hz ?_;intro v4 w4 L am aw);have au:Hid (w4.ownsRow w0 5 1 v4 (s2+n) (dZ .u8 (T (j+1)))):=qh;have ai:Hid (Below w0 w0 w4):=HB.out.grown am hz (fun y hy=>(Aj HO.out y hy).1);exact⟨⟨j+1,s2+n,rfl,nj,J,Q.out,au.out,ai.out⟩,sG⟩
  ·obtain rfl:j=i:=by omega
   have q1:=ig ((j:Int)<j);have aq:=ig (j<j);go_wp2_with fail;go_ret;refine⟨_,rfl,?_,HB.out⟩;have h:=HO.out;rw[show s2=(T j).length from HS.out,show T j=R from ac.out]at h;exact h):p:=h
theorem a1a{p:Prop}(h:p:=by
  obtain⟨A,n,c,ls,hc,hn,hT,z,J⟩:=ah.out i E;rw[<-show s=(T i).length from HS.out]at J;have g1:=ic ((i:Int)<m);have av:=ic (i<m);have y0:(0:Int)<=(i:Int):=nj;have y1:(i:Int)<(m:Int):=nj;have s1:IntKind.i64.wrap ((s:Int)+(n:Int))=((s+n:Nat):Int):=pj;have s2:IntKind.i64.wrap ((i:Int)+1)=((i+1:Nat):Int):=pj;have g2:=ig (((s+n:Nat):Int)<0);have Q:Hid (s+n=(T (i+1)).length):=qw;generalize s+n=s' at *;clear z hT hn HS E;go_wp2_with fail;go_roundw
  case measure=>exact jq
  case rel=>exact je):p:=h
theorem a1y{p:Prop}(h:p:=by have e:ps.flatMap Part.ls=(ps.take i).flatMap Part.ls++ps[i].ls++(ps.drop (i+1)).flatMap Part.ls:=(by conv=>lhs;rw[<-ER i ps,I6,Dl G,CD,<-AE]);unfold BN at hs;rw[e]at hs;simp at hs;simp;omega):p:=h
theorem ZI(w:World)(g m:Nat)(ps:List Part)(hm:ps.length=m)(ax:m<=8)(hs:BN ps<=1000000)(ab:∀p∈ps,p.Ok w)(hg:Blk w g 28 (ps.map Part.v).toArray):
 Calls prog 109 #[.slice (some ⟨g,0,none⟩) m m] w fun e w'=>∃v,e= .returned v/\w'.ownsRow w 5 1 v (ps.flatMap Part.ls).length (dZ .u8 (ps.flatMap Part.ls))/\Below w w w':=by
 obtain⟨j0,ar,an,al,ak⟩:=info_parts Dh
 have HP:Hid (∀i,i<m->∃A n c ls,w.cell? ⟨g,i,none⟩=some (.slice A n c)/\List.length ls=n/\(ps.take (i+1)).flatMap Part.ls=(ps.take i).flatMap Part.ls++ls/\(∀wx,Below w w wx->Src wx A n c 1 (dZ .u8 ls))/\((ps.take i).flatMap Part.ls).length+n<=1000000):=fun i hi=>by
  have G:i<ps.length:=nj
  have hp:=ab _ (FM G);refine⟨ps[i].A,ps[i].ls.length,ps[i].c,ps[i].ls,?_,rfl,?_,fun wx hb=>Jz (hp.step hb).row rfl hp.nil,?_⟩
  ·rw[hg.cell i];simp[G,Part.v]
  ·rw[List.take_succ_eq_append_getElem G,I6];simp
  ·exact a1y
 have HE:Hid ((ps.take m).flatMap Part.ls=ps.flatMap Part.ls):=by rw[Cf nj];exact rfl
 have aa:=hg.lt;have H0:Hid ((ps.take 0).flatMap Part.ls= []):=by rw[List.take_zero];exact rfl
 have ae:Hid ((ps.flatMap Part.ls).length<=1000000):=hs;obtain⟨R,hR⟩:=ii (ps.flatMap Part.ls);rw[<-hR]at HE ae ⊢;obtain⟨T,hT⟩:∃T:Nat->List Nat,T=fun i=>(ps.take i).flatMap Part.ls:=⟨_,rfl⟩;have ah:Hid (∀i,i<m->∃A n c ls,w.cell? ⟨g,i,none⟩=some (.slice A n c)/\List.length ls=n/\T (i+1)=T i++ls/\(∀wx,Below w w wx->Src wx A n c 1 (dZ .u8 ls))/\(T i).length+n<=1000000):=by rw[hT];exact HP
 have ac:Hid (T m=R):=by rw[hT];exact HE
 have N:Hid (T 0= []):=by rw[hT];exact H0
 clear HP HE H0 hR hT ab hg hs hm;have az:IntKind.i64.wrap (m:Int)=(m:Int):=Ar _ nj;go_enter func109,ntmps109;go_wp2_with fail;go_loopw [3,11] (fun u v wr=>∃i s:Nat,u= .int .i64 s/\v= .int .i64 i/\i<=m/\Hid (s=(T i).length)/\wr=w) (fun _ v _=>m-(intOf v).toNat)
 case atStart=>exact⟨0,0,rfl,rfl,nj,rn,rfl⟩
 case round=>
  obtain⟨i,s,rfl,rfl,hi,HS,rfl⟩:=hrel;by_cases E:i<m
  ·exact a1a
  ·obtain rfl:i=m:=by omega
   have g1:=ig ((i:Int)<i);have av:=ig (i<i);have ag:s<=1000000:=kq;obtain⟨w0,rfl⟩:=ii wr;have DG:=hid (Xu w0 s ag);clear HS;go_wp2_with fail;refine DG.out.mono ?_;rintro e w2 ⟨v2,rfl,Z,M⟩;have Y:Hid (w2.ownsRow w0 5 1 v2 0 (dZ .u8 [])):=Z;have U:=hid M;have a0:Hid (∀j vv,w0.cell? ⟨g,j,none⟩=some vv->w2.cell? ⟨g,j,none⟩=some vv):=fun j vv h=>(M.cell (p:=⟨g,j,none⟩) aa).trans h;clear DG Z M;go_wp2_with fail;go_loopw [6,27] (fun u v wx=>∃j s:Nat,v= .int .i64 j/\j<=i/\s<=1000000/\Hid (s=(T j).length)/\Hid (wx.ownsRow w0 5 1 u s (dZ .u8 (T j)))/\Hid (Below w0 w0 wx)) (fun _ v _=>i-(intOf v).toNat)
   case atStart=>exact⟨0,0,rfl,nj,nj,rn,by rw[show T 0= [] from N.out];exact Y.out,U.out⟩
   case round=>
    exact a0o
theorem a2j{p:Prop}(h:p:=by go_enter func55,ntmps55;go_wp2_with fail;refine D.out.mono ?_;rintro e w2 ⟨v,rfl,ho,hb⟩;have HO:=hid ho;clear ho;go_wp2_with fail;go_ret;exact⟨_,rfl,HO.out,hb⟩):p:=h
theorem FK(w:World)(g m:Nat)(ps:List Part)(hm:ps.length=m)(i:m<=8)(hs:BN ps<=1000000)(h:∀p∈ps,p.Ok w)(hg:Blk w g 28 (ps.map Part.v).toArray):
 Calls prog 55 #[.slice (some ⟨g,0,none⟩) m m] w fun e w'=>∃v,e= .returned v/\w'.ownsRow w 5 1 v (ps.flatMap Part.ls).length (dZ .u8 (ps.flatMap Part.ls))/\Below w w w':=by
 have D:=hid (ZI w g m ps hm i hs h hg);clear hm hs h hg;exact a2j
def efW(bound n:Nat):Nat:=Nat.log2 (bound / n)
def unary(n:Nat):List Bool:=List.replicate n false++ [true]
def EE:Nat->List Nat->List Bool
 |_,[]=> []
 |was,x :: t=>unary (x-was)++EE x t
def Ed(w:Nat)(ids:List Nat):List Bool:=ids.flatMap fun x=>msb (x % 2 ^ w) w w
def Gf(w:Nat)(ids:List Nat):List Bool:=Ed w ids++EE 0 (ids.map (·/ 2 ^ w))
def efO(bound:Nat)(ids:List Nat):List Nat:=if ids= []then fZ 0 else fZ ids.length++bytesOf (Gf (efW bound ids.length) ids)
theorem Kb(n:Nat):(unary n).length=n+1:=by simp[unary]
theorem Zl(w:Nat)(l:List Nat)(x:Nat):Ed w (l++ [x])=Ed w l++msb (x % 2 ^ w) w w:=by simp[Ed]
theorem Ta:∀ (l:List Nat) (h x:Nat),EE h (l++ [x])=EE h l++unary (x-(l.getLast?.getD h))
 | [],h,x=>by simp[EE]
 |y :: t,h,x=>by
  rw[Ez,EE,Ta t y x,EE,AE];congr 3;cases t with
  |nil=>rfl
  |cons z s=>simp[List.getLast?_cons]
theorem Lv{q:Nat}(h:q≠0):2 ^ Nat.log2 q<=q:=Nat.log2_self_le h
theorem fI(w:World)(n:Nat)(hn:n<=1000000000):
 Calls prog 185 #[(),n] w fun e w'=>∃v,e= .returned v/\w'.ownsRow w 5 1 v 0 []/\Below w w w':=by
 exact a0s
theorem YZ(w:World)(g m mc:Nat)(ps:List Part)(hm:ps.length=m)(ax:m<=2000000)(hs:BN ps<=1000000000)(ab:∀p∈ps,p.Ok w)(aa:g<w.heap.size)(hg:∀i (h:i<ps.length),w.cell? ⟨g,i,none⟩=some ps[i].v):
 Calls prog 109 #[.slice (some ⟨g,0,none⟩) m mc] w fun e w'=>∃v,e= .returned v/\w'.ownsRow w 5 1 v (ps.flatMap Part.ls).length (dZ .u8 (ps.flatMap Part.ls))/\Below w w w':=by
 obtain⟨j0,ar,an,al,ak⟩:=info_parts Dh
 have HP:Hid (∀i,i<m->∃A n c ls,w.cell? ⟨g,i,none⟩=some (.slice A n c)/\List.length ls=n/\(ps.take (i+1)).flatMap Part.ls=(ps.take i).flatMap Part.ls++ls/\(∀wx,Below w w wx->Src wx A n c 1 (dZ .u8 ls))/\((ps.take i).flatMap Part.ls).length+n<=1000000000):=fun i hi=>by
  have G:i<ps.length:=nj
  have hp:=ab _ (FM G);refine⟨ps[i].A,ps[i].ls.length,ps[i].c,ps[i].ls,?_,rfl,?_,fun wx hb=>Jz (hp.step hb).row rfl hp.nil,?_⟩
  ·rw[hg i G];rfl
  ·rw[List.take_succ_eq_append_getElem G,I6];simp
  ·exact a1y
 have HE:Hid ((ps.take m).flatMap Part.ls=ps.flatMap Part.ls):=by rw[Cf nj];exact rfl
 have H0:Hid ((ps.take 0).flatMap Part.ls= []):=by rw[List.take_zero];exact rfl
 have ae:Hid ((ps.flatMap Part.ls).length<=1000000000):=hs;obtain⟨R,hR⟩:=ii (ps.flatMap Part.ls);rw[<-hR]at HE ae ⊢;obtain⟨T,hT⟩:∃T:Nat->List Nat,T=fun i=>(ps.take i).flatMap Part.ls:=⟨_,rfl⟩;have ah:Hid (∀i,i<m->∃A n c ls,w.cell? ⟨g,i,none⟩=some (.slice A n c)/\List.length ls=n/\T (i+1)=T i++ls/\(∀wx,Below w w wx->Src wx A n c 1 (dZ .u8 ls))/\(T i).length+n<=1000000000):=by rw[hT];exact HP
 have ac:Hid (T m=R):=by rw[hT];exact HE
 have N:Hid (T 0= []):=by rw[hT];exact H0
 clear HP HE H0 hR hT ab hg hs hm;have az:IntKind.i64.wrap (m:Int)=(m:Int):=Ar _ nj;go_enter func109,ntmps109;go_wp2_with fail;go_loopw [3,11] (fun u v wr=>∃i s:Nat,u= .int .i64 s/\v= .int .i64 i/\i<=m/\Hid (s=(T i).length)/\wr=w) (fun _ v _=>m-(intOf v).toNat)
 case atStart=>exact⟨0,0,rfl,rfl,nj,rn,rfl⟩
 case round=>
  obtain⟨i,s,rfl,rfl,hi,HS,rfl⟩:=hrel;by_cases E:i<m
  ·exact a1a
  ·obtain rfl:i=m:=by omega
   have g1:=ig ((i:Int)<i);have av:=ig (i<i);have ag:s<=1000000000:=kq;obtain⟨w0,rfl⟩:=ii wr;have DG:=hid (fI w0 s ag);clear HS;go_wp2_with fail;refine DG.out.mono ?_;rintro e w2 ⟨v2,rfl,Z,M⟩;have Y:Hid (w2.ownsRow w0 5 1 v2 0 (dZ .u8 [])):=Z;have U:=hid M;have a0:Hid (∀j vv,w0.cell? ⟨g,j,none⟩=some vv->w2.cell? ⟨g,j,none⟩=some vv):=fun j vv h=>(M.cell (p:=⟨g,j,none⟩) aa).trans h;clear DG Z M;go_wp2_with fail;go_loopw [6,27] (fun u v wx=>∃j s:Nat,v= .int .i64 j/\j<=i/\s<=1000000000/\Hid (s=(T j).length)/\Hid (wx.ownsRow w0 5 1 u s (dZ .u8 (T j)))/\Hid (Below w0 w0 wx)) (fun _ v _=>i-(intOf v).toNat)
   case atStart=>exact⟨0,0,rfl,nj,nj,rn,by rw[show T 0= [] from N.out];exact Y.out,U.out⟩
   case round=>
    exact a0o
theorem Up(w:World)(g m mc:Nat)(ps:List Part)(hm:ps.length=m)(z:m<=2000000)(hs:BN ps<=1000000000)(y:∀p∈ps,p.Ok w)(j:g<w.heap.size)(hg:∀i (h:i<ps.length),w.cell? ⟨g,i,none⟩=some ps[i].v):
 Calls prog 55 #[.slice (some ⟨g,0,none⟩) m mc] w fun e w'=>∃v,e= .returned v/\w'.ownsRow w 5 1 v (ps.flatMap Part.ls).length (dZ .u8 (ps.flatMap Part.ls))/\Below w w w':=by
 have D:=hid (YZ w g m mc ps hm z hs y j hg);clear hm hs y hg j;exact a2j
end Go.Proofs.YtfgdoknipbpfhaaGreatDoor
