import Derived.Test.YtcmncipikdpnbaaGreatDoorUb6
import Derived.Test.YtcmncipikdpnbaaGreatDoorUb10
import Derived.Test.YtcmncipikdpnbaaGreatDoorUb11
import Derived.Sort.Grow
import Derived.Sort.Lot0
import Derived.Shelf.SlSortCmp.Insertion
import Derived.Shelf.SlSortCmp.NoneTotal
import Derived.Deep.LoopGhost
import Derived.Deep.QuietTactic
import Derived.RegionTactic
import Derived.Laws.EntriesVeiled
namespace Go.Proofs.YtcmncipikdpnbaaGreatDoor
section
open Go.RowKit Go.Shelf Go.Sort
def lk (a b:Int):Int:=if a<b then -1 else if b<a then 1 else 0
theorem pL (a b:Int)(W:World):Calls Tryz.prog 151 #[a,b] W fun e w'=>e= .returned (lk a b)/\w'=W:=by
 by_cases h1:a<b
 ·have c:=H (show lk a b= -1 by unfold lk;rw[L7 h1]);rw[c.o]
  go_enter Tryz.func151,Tryz.ntmps151
  go_wp2
  go_ret;exact⟨Z,Z⟩
 by_cases h2:b<a
 ·have c:=H (show lk a b=1 by unfold lk;rw[L5 h1,L7 h2]);rw[c.o]
  go_enter Tryz.func151,Tryz.ntmps151
  go_wp2
  go_ret;exact⟨Z,Z⟩
 have c:=H (show lk a b=0 by unfold lk;rw[L5 h1,L5 h2]);rw[c.o]
 go_enter Tryz.func151,Tryz.ntmps151
 go_wp2
 go_ret;exact⟨Z,Z⟩
def iQ (w w':World):Prop:=∃q os,w'=Sort.grow (w.drewN q) os
theorem iQ.refl (w:World):iQ w w:=⟨0,#[],by rw[Sort.grow_empty];rfl⟩
theorem iQ.alloc {w w':World}(h:iQ w w')(o:Obj):iQ w (w'.alloc o):=by
 obtain⟨q,os,rfl⟩:=h;exact⟨q,os++ #[o],by rw[Sort.alloc_eq_grow,Sort.grow_grow]⟩
theorem iQ.drew {w w':World}(h:iQ w w'):iQ w w'.drew:=by
 obtain⟨q,os,rfl⟩:=h;exact⟨q+1,os,Z⟩
def fI (x:Sp):List Value:=[x.1,x.2]
theorem uE (w:World):(isAgg 149).run Tryz.prog w= .ok true w:=Tryz.isAgg149 w
theorem yE (w:World):(Go.sizeOf 149).run Tryz.prog w= .ok 2 w:=Tryz.sizeOf149 w
theorem gz {N g off n:Nat}{w:World}{d:Array Sp}{os:Array Obj}(a:N<=g)(hs:N<=w.heap.size):RowKit.Below N w (sortWorldK fI 2 w g off n d os):=by
 refine⟨Z,Z,Z,?_,fun k b=> ?_⟩
 ·unfold sortWorldK putRowK;rw[size_grow,size_putRow];show _<=w.heap.size+_;omega
 unfold sortWorldK putRowK;rw[heap_grow_old _ _ (by rw[size_putRow];show k<w.heap.size;omega)];unfold putRow mapBlock;show(w.heap.modify g _)[k]? =_;rw[Array.getElem?_modify,L5 O]
theorem kw {a:Addr}{g off n:Nat}{w:World}{d:Array Sp}{os:Array Obj}{v:Value}(h:w.cell? a=some v)(b:a.block≠g):(sortWorldK fI 2 w g off n d os).cell? a=some v:=by
 have c:=Lj h;unfold sortWorldK;rw[cell?_grow _ _ _ (by unfold putRowK;rw[size_putRow];exact c),cell?_putRowK_other _ _ _ _ _ _ _ b];exact h
theorem oG (a:Option Addr)(cap:Nat)(b:Value)(w:World) :
  Calls Tryz.prog 149 #[.slice a 0 cap,b] w fun e w'=>e= .returned (.tuple #[])/\w=w':=by
 refine Calls.mono (show Calls Tryz.prog 149 _ w _ from AnyF.slices_SortFunc_none sV a cap b w) ?_;rintro e w' ⟨he,hw⟩;exact⟨he,hw.symm⟩
theorem aH.holds {w:World}{base g cap:Nat}{L:List Sp}(h:aH w base (.slice (some ⟨g,0,none⟩) L.length cap) L):HoldsK fI 2 w g 0 L.toArray/\g<w.heap.size:=by
 have a:=(ME h g Z).2;refine⟨?_,a⟩;have f:=N8 h (g:=g) Z
 have i:∀j,w.frozen? ⟨g,j,none⟩=false:=by
  rcases h.2 with⟨e,_⟩ | ⟨q,c,k,e,_,l,_⟩
  ·cases e
  cases e
  intro j;exact LT _ _ _ _ _ l
 intro j m;have b:j<L.length*2:=by simpa using m
 refine⟨?_,i _⟩
 have n:(dM L)[j]? =some ((flatK fI 2 L.toArray)[j]!):=by
  rw[get_flatK _ _ _ _ Jk];have hi:j/2<L.length:=O
  have o:L.toArray[j/2]! =L[j/2]:=by rw[Nd L.toArray (j/2) Jj];simp
  rw[o];obtain⟨d,f2⟩:=ic L (j/2) hi;by_cases p:j%2=0
  ·rw[show j/2*2=j by omega]at d;rw[d,p];rfl
  rw[show j/2*2+1=j by omega]at f2;rw[f2,show j%2=1 by omega];rfl
 have:=f j _ n;rw[Ms]at this;exact this
theorem aH.cases {w:World}{base:Nat}{v:Value}{L:List Sp}(h:aH w base v L):(v= .slice none 0 0/\L=[])\/∃g cap,v= .slice (some ⟨g,0,none⟩) L.length cap/\base<=g/\g<w.heap.size/\L.length<=cap/\cap<=9223372036854775807:=by
 rcases h.2 with⟨rfl,e⟩ | ⟨g,cap,f,i,a,j,b,c,k,d⟩
 ·exact .inl ⟨Z,LR e⟩
 exact .inr ⟨g,cap,i,a,(L6.1 j).1,b,by unfold maxLen at c;omega⟩
end
section
open Go.RowKit Go.Shelf Go.Sort
def CP (x y:Sp):Int:=lk x.1 y.1
theorem lx (x y:Sp):ltOf CP x y=true↔x.1<y.1:=by
 unfold ltOf;rw[Lh];unfold CP lk
 (repeat' split) <;> omega
theorem Cv:SWO (ltOf CP) where
 irrefl x:=by rw[<-Mw,lx];omega
 trans x y z h1 h2:=by rw[lx]at *;omega
 ntrans x y z h1 h2:=by rw[<-Mw,lx]at *;omega
theorem vK (W:World)(x y:Sp) :
  Calls Tryz.prog 157 #[.agg #[x.1,x.2],.agg #[y.1,y.2]] W fun e w'=>e= .returned (CP x y)/\iQ W w':=by
 obtain⟨a,c⟩:=x;obtain⟨b,d⟩:=y;have f:=H (((iQ.refl W).alloc (.cells #[a,c] 149)).alloc (.cells #[b,d] 149))
 go_enter Tryz.func157,Tryz.ntmps157
 go_wp2_with fail;refine(pL a b _).mono ?_;rintro e w' ⟨rfl,rfl⟩;go_wp2;go_ret;exact⟨Z,f.o⟩
theorem vM (g cap base:Nat)(L:List Sp)(w:World)(hlen:L.length<=1099511627776)(o:aH w base (.slice (some ⟨g,0,none⟩) L.length cap) L) :
  Calls Tryz.prog 149 #[.slice (some ⟨g,0,none⟩) L.length cap,.func (.func 157) #[] #[]] w fun e w' =>
   e= .returned (.tuple #[])/\∃f,f.Perm L/\f.Pairwise (fun x y=>x.1<=y.1)/\oB w' w'.heap.size (some ⟨g,0,none⟩) f/\∀N,N<=g->N<=w.heap.size->RowKit.Below N w w':=by
 obtain⟨t,u⟩:=o.holds;have E:∀args w,(callFunc 157 args).run Tryz.prog w= .ok (.enter 157 args) w:=enters_of Tryz.func157 IG Z
 have F:CmpLays Tryz.prog 157 #[] fI 2 CP g 0 L.toArray.size w:=by
  intro m os S G x y;exact vK _ x y
 have p:=AnyQ.slices_SortFunc sV 2 uE yE fI (fun _=>rfl) (fun x v z=>by simp[fI]at z;rcases z with rfl | rfl <;> rfl) CP Cv 157 #[] g 0 cap L.toArray w E F t u (by rw[LG];omega);refine Calls.mono (show Calls Tryz.prog 149 _ w _ from p) ?_;rintro e w' ⟨he,h,n,os,I,hs,rfl⟩;obtain⟨p1,J,q⟩:=I;rw[LG]at J q hs;have p1:h.size=L.length:=by rw[p1,LG]
 have K:h.extract 0 L.length=h:=by rw[<-p1];simp
 have M:L.toArray.extract 0 L.length=L.toArray:=by rw[<-LG];simp
 rw[K,M]at q;have k:h.toList.Perm L:=q;refine⟨he,h.toList,k,?_,⟨by rw[k.length_eq];exact hlen,fun T=>⟨g,0,Z,?_,fun i hi=> ?_⟩⟩,fun N a b=>gz a b⟩
 ·rw[MK];intro i j hi P r;have l:i<h.size:=by simpa using hi
  have s:j<h.size:=by simpa using P
  have:=hs i j (LW _) r O;rw[Nd h i l,Nd h j s,<-Mw,lx]at this;rw[N4,N4];omega
 ·have:=(gz (N:=0) (g:=g) (off:=0) (n:=n) (w:=w) (d:=h) (os:=os) (LW _) (LW _)).size;omega
 have A:HoldsK fI 2 (sortWorldK fI 2 w g 0 n h os) g 0 h:=by
  unfold sortWorldK;refine holdsK_grow _ _ _ _ _ _ _ (by unfold putRowK;rw[size_putRow];exact u) (holdsK_putRowK _ _ _ _ _ _ _ (holdsK_ahead _ _ _ n _ _ _ t) ?_);show h.size=L.toArray.size;rw[p1,LG]
 have l:i<h.size:=Jj
 have e:h[i]! =h.toList[i]:=by rw[Nd h i l,N4]
 have B:=(HoldsK.cell A l (c:=0) O).1;have C:=(HoldsK.cell A l (c:=1) O).1;rw[e]at B C;exact⟨B,C⟩
end
section
open Go.RowKit Go.Shelf
theorem bi (w:World)(o:Obj):Below w.heap.size w (w.alloc o):=(L3 _ w).alloc (L4 _) o
theorem aH.FO {W W':World}{base:Nat}{v:Value}{L:List Sp}(h:aH W base v L)(a:Below W.heap.size W W'):aH W' base v L:=by
 refine h.kept (row:=none) (iU a) ?_
 cases v.ownBlock with
 | none=>exact .inl Z
 | some x=>exact .inr FE
theorem na (A:List Sp)(l:Sp)(m:Int):(dM (A++[l])).set (A.length*2+1) m=dM (A++[(l.1,m)]):=by
 rw[cy,cy,List.set_append_right _ _ (by rw[dd];omega),dd,show A.length*2+1-A.length*2=1 by omega];rfl
theorem aH.setLast {w:World}{base g cap n:Nat}{A:List Sp}{l:Sp}(h:aH w base (.slice (some ⟨g,0,none⟩) n cap) (A++[l]))(m:Int) :
  aH (w.setCell ⟨g,A.length*2+1,none⟩ m) base (.slice (some ⟨g,0,none⟩) n cap) (A++[(l.1,m)]):=by
 rcases h.2 with⟨e,_⟩ | ⟨p,j,b,k,c,o,d,f,i,a⟩
 ·cases e
 cases k
 have hlen:(A++[l]).length=(A++[(l.1,m)]).length:=by rw[La,La];rfl
 refine⟨dd _,.inr ⟨g,cap,b.setIfInBounds (A.length*2+1) m,by rw[<-hlen],c,?_,by rw[<-hlen];exact d,f,?_,?_⟩⟩
 ·rw[LH _ _ _ _ _ _ o]
 ·rw[Array.size_setIfInBounds];exact i
 rw[Array.toList_setIfInBounds,List.take_set,<-hlen,a,na]
theorem qj {A B:List Sp}(h:A.Perm B)(i:Int):ap i A↔ap i B:=by
 unfold ap
 constructor
 ·rintro⟨x,a,g⟩;exact⟨x,h.mem_iff.1 a,g⟩
 rintro⟨x,a,g⟩;exact⟨x,h.mem_iff.2 a,g⟩
theorem oH (low:Int)(L:List Sp):(dJ low L).length<=L.length:=by
 unfold dJ bD;exact L8 (M5 _ _) (by rw[LI];exact L4 _)
abbrev CX := Option Addr × Nat × List Sp
def dQ (a:List CX):List Sp:=a.flatMap fun x=>x.2.2
theorem oI {a:List CX}{j:Nat}(h:j<a.length):dQ (a.take (j+1))=dQ (a.take j)++a[j].2.2:=by
 unfold dQ;rw[Lv h,MA]
 simp
theorem yF {a:List CX}{j k:Nat}(h:j<a.length):(dQ (a.take j)++a[j].2.2.take k).length<=(dQ a).length:=by
 have h1:dQ a=dQ (a.take (j+1))++dQ (a.drop (j+1)):=by
  unfold dQ;rw[<-MA,NP]
 rw[h1,oI h,La,La,La,Le];omega
def jm (C:Nat)(a:List CX)(w:World):Prop:=C<w.heap.size/\∀i (h:i<a.length),w.cell? ⟨C,i,none⟩=some (.slice a[i].1 a[i].2.2.length a[i].2.1)/\oB w w.heap.size a[i].1 a[i].2.2
theorem oJ {a:List Sp}(d:a.Pairwise (fun x y=>x.1<=y.1))(c:∀x∈a,ib x):∀k,k<=a.length->EA (a.take k) ((a.take k).foldl iO [])
 | 0,_=>by rw[Nr];exact EA.start
 | k+1,hk=>by
  have e:=oJ d c k O;have b:k<a.length:=O
  rw[Lv b,N2];refine e.step (c _ (LP b)) (fun y hy=> ?_);obtain⟨i,hi,rfl⟩:=Nj.1 hy;rw[Le]at hi;rw[Nw];exact MK.1 d i k O b O
theorem yG {low:Int}{L a:List Sp}(h0:0<=low)(b:∀x∈L,ib x)(c:a.Pairwise (fun x y=>x.1<=y.1))(hd:a.Perm (dJ low L)):a.foldl iO []=bN low L:=by
 have d:∀x∈a,ib x:=fun x e=>qL h0 b x (hd.mem_iff.1 e);have h:=oJ c d a.length (L4 _);rw[LS]at h;obtain⟨f,g⟩:=cx h0 b;exact fZ h.canon f (fun i=>by rw[h.mem,qj hd,nj,g])
theorem uF:∀(a A:List Sp),(a.foldl iO A).length<=A.length+a.length
 | [],A=>by simp
 | x::a,A=>by
  have h:=uF a (iO A x)
  have h2:(iO A x).length<=A.length+1:=by
   rcases fc A with rfl | ⟨B,l,rfl⟩
   ·show [x].length<=_;simp
   ·unfold iO;rw[show(B++[l]).getLast? =some l by simp];dsimp only;split
    ·rw[NR,La,La];simp
    ·rw[La];simp
  rw[Nk,Lx];omega
theorem yH {w:World}{base:Nat}{v:Value}{L:List Sp}(c:aH w base v L)(hlen:L.length<=1099511627776)(d:base<=w.heap.size) :
  Calls Tryz.prog 149 #[v,.func (.func 157) #[] #[]] w fun e w'=>e= .returned (.tuple #[])/\∃b a cap,v= .slice a b.length cap/\b.Perm L/\b.Pairwise (fun x y=>x.1<=y.1)/\oB w' w'.heap.size a b/\Below base w w':=by
 rcases c.cases with⟨rfl,rfl⟩ | ⟨g,cap,rfl,f,i,-,-⟩
 ·refine(oG none 0 _ w).mono ?_;rintro e w' ⟨he,rfl⟩;exact⟨he,[],none,0,Z,List.Perm.refl _,List.Pairwise.nil,⟨FE,fun h=>absurd h FE⟩,L3 _ _⟩
 refine(vM g cap base L w hlen c).mono ?_;rintro e w' ⟨he,b,h1,h2,j,k⟩;exact⟨he,b,_,cap,by rw[h1.length_eq],h1,h2,j,k base f d⟩
end
section
set_option maxRecDepth 100000
open Go.RowKit Go.Shelf
set_option maxHeartbeats 4000000 in
theorem hU (low:Int) (C m cap:Nat) (I:List CX) (w:World) (hm:m=I.length) (h:jm C I w) (h0:0<=low) (b6:∀x∈dQ I,ib x) (b7:(dQ I).length<=1099511627776) (d2:m<=3) :
  Calls Tryz.prog 124 #[low,.slice (some ⟨C,0,none⟩) m cap] w fun e w'=>∃v,e= .returned v/\aH w' w.heap.size v (bN low (dQ I))/\Below w.heap.size w w':=by
 have HM:=H hm;have HL:=H h;have ac:=H b6;have b9:=H b7;have cX:=h.1;clear hm h b6 b7
 go_enter Tryz.func124,Tryz.ntmps124
 go_wp2_with fail
 go_loopg [5,16] m (fun g av jv wr=>∃(j:Nat),jv=((j:Int):Y)/\g+j=m/\aH wr w.heap.size av (dJ low (dQ (I.take j)))/\Below w.heap.size w wr)
 case atStart=>exact⟨0,Z,Z,aH.nil _ _,L3 _ _⟩
 case round =>
  obtain⟨j,rfl,hg,T,hB⟩:=hrel;have q:=H T;have d:=H hB;have b0:=hB.size;clear T hB;by_cases hj:j<m
  ·have b2:j<I.length:=by rw[<-HM.o];exact hj
   obtain⟨ba,a9⟩:=HL.2 j b2;have ag:=H (oI b2);have X:=H (fun k=>yF (k:=k) b2);have lc:=(d.cell (p:=⟨C,j,none⟩) HL.1).trans ba;have r:=H a9;have d3:(j:Int)<(m:Int):=O
   generalize I[j]=lj at lc r ag X;clear ba a9;obtain⟨la,bx,L⟩:=lj;dsimp only at lc r ag X;have cY:=r.small;go_wp2_with fail;clear lc;obtain⟨wo,rfl⟩:∃wo:World,wo=wr:=⟨_,Z⟩
   go_loopg [5,22] L.length (fun g av kv wr=>∃(k:Nat),kv=((k:Int):Y)/\g+k=L.length/\aH wr w.heap.size av (dJ low (dQ (I.take j)++L.take k))/\Below w.heap.size w wr)
   case atStart=>exact⟨0,Z,Z,by rw[Nr,LM];exact q.o,d.o⟩
   case round =>
    clear q d b0
    skip
    obtain⟨k,rfl,bz,T,hB⟩:=hrel;have q:=H T;have d:=H hB;have b0:=hB.size;clear T hB;by_cases hk:k<L.length
    ·obtain⟨sb,so,rfl,b4,a0⟩:=r.cells O;obtain⟨c0,c1⟩:=a0 k hk;have d0:=(d.cell (p:=⟨sb,_,none⟩) b4).trans c0;have d1:=(d.cell (p:=⟨sb,_,none⟩) b4).trans c1;clear c0 c1 a0;have ak:=H (show dJ low (dQ (I.take j)++L.take (k+1))=dJ low (dQ (I.take j)++L.take k)++one (max L[k].1 low) L[k].2 by rw[Lv hk,<-LK,jc,nh]);have S:(dJ low (dQ (I.take j)++L.take k)).length<=4398046511104:=by have h1:=oH low (dQ (I.take j)++L.take k);have h2:=X.o k;have h3:=b9.o;omega
     have cC:(k:Int)<(L.length:Int):=O
     have bc:=ac.o L[k] (by rw[<-NP (j+1) I];unfold dQ at *;rw[MA];refine LO _ ?_;have:=ag.o;rw[this];exact Mm _ (LP hk));generalize L[k]=x at d0 d1 ak bc;obtain⟨i,f⟩:=x;obtain⟨o1,o2,o3⟩:=bc;dsimp only at d0 d1 ak o1 o2 o3;by_cases hx:max i low<f
     ·have d4:low<f:=by omega
      go_wp2_with (first | (at_builtin;refine bE _ Z _ _ Z w.heap.size _ _ Z ((q.alloc _).alloc _) S (wr.heap.size+1) (max i low,f) Z FE FE IH ?_))
      intro v' w' U J a1;have y:Below w.heap.size wr w':=(((L3 _ wr).alloc O _).alloc IH _).trans (aR J IH (fun b e=>(q.lt b e).1));have bd:aH w' w.heap.size v' (dJ low (dQ (I.take j)++L.take (k+1))):=by rw[ak.o];unfold one;rw[L7 hx];exact U
      have a4:=H bd;replace d:=H (d.trans y);clear U J a1 y bd d0 d1;go_wp2_with fail
      go_roundg (gk-1)
      case measure=>omega
      case rel=>exact⟨k+1,IK,O,a4.o,d.o⟩
     have d5:max i low≥f:=O
     go_wp2_with fail
     go_roundg (gk-1)
     case measure=>omega
     case rel=>exact⟨k+1,IK,O,by rw[ak.o];unfold one;rw[L5 O,LM];exact q.alloc _,d.alloc b0 _⟩
    obtain rfl:k=L.length:=O
    go_wp2_with fail
    go_roundg (m-(j+1))
    case measure=>omega
    case rel=>exact⟨j+1,IK,O,by rw[ag.o];have h:=q.o;rw[LS]at h;exact h,d.o⟩
  obtain rfl:j=m:=O
  have cF:=H (show dJ low (dQ (I.take j))=dJ low (dQ I) by rw[HM.o,LS]);rw[cF.o]at q;have c4:=L8 (oH low (dQ I)) b9.o;go_wp2_with fail;refine(yH q.o c4 b0).mono ?_;rintro e w2⟨rfl,a,da,dc,hv,a6,b8,b3,c2⟩;have r:=H b3;replace d:=H (d.trans c2);have d6:=b3.small;have HP:=H a6;have cL:=H b8;have c5:=d.size;obtain⟨s,c3⟩:∃s,s=w2.heap.size:=⟨_,Z⟩;have a5:w.heap.size<=s:=O
  have aa:s<=w2.heap.size:=O
  rw[<-c3]at r;subst hv;clear a6 b8 b3 c2 q c3;go_wp2_with fail
  go_loopg [10,46] a.length (fun g ov kv wr=>∃(k:Nat),kv=((k:Int):Y)/\g+k=a.length/\aH wr s ov ((a.take k).foldl iO [])/\oB wr s da a/\Below w.heap.size w wr/\s<=wr.heap.size)
  case atStart=>exact⟨0,Z,Z,aH.nil _ _,r.o,d.o,aa⟩
  case round =>
   clear r d c5 aa;obtain⟨k,rfl,bz,T,hS,hB,hN⟩:=hrel;have q:=H T;have r:=H hS;have d:=H hB;clear T hS hB;by_cases hk:k<a.length
   ·obtain⟨sb,so,rfl,b4,a0⟩:=r.cells O;obtain⟨d0,d1⟩:=a0 k hk;have V:=H (show(a.take (k+1)).foldl iO []=iO ((a.take k).foldl iO []) a[k] by rw[Lv hk,N2];rfl);have c6:((a.take k).foldl iO []).length<=k:=by have:=uF (a.take k) [];rw[Le]at this;simp at this;omega
    have cC:(k:Int)<(a.length:Int):=O
    clear a0;generalize a[k]=x at d0 d1 V;generalize (a.take k).foldl iO []=out at q V c6;obtain⟨i,f⟩:=x;dsimp only at d0 d1 V
    rcases fc out with rfl | ⟨A,l,rfl⟩
    ·rcases q.cases with⟨rfl,-⟩ | ⟨E,oc,rfl,-,-,-,-⟩
     focus
      rw[show iO [] (i,f)=[(i,f)]from Z]at V;have S:([]:List Sp).length<=4398046511104:=FE
      go_wp2_with fail;have z:=bi wr (.cells #[i,f] 149);have F:(wr.alloc (.cells #[i,f] 149)).cell? wr.heap.size=some (i:Y):=(At.new (W:=wr) (vs:= #[i,f]) _ Z Z).1;have G:(wr.alloc (.cells #[i,f] 149)).cell? ⟨wr.heap.size,1,none⟩=some (f:Y):=(At.new (W:=wr) (vs:= #[i,f]) _ Z Z).1;have t:(wr.alloc (.cells #[i,f] 149)).heap.size=wr.heap.size+1:=FE
      replace q:=H (q.FO z);replace r:=H (r.below (z.mono hN));replace d:=H (d.trans (z.mono d.size));obtain⟨K,B⟩:∃K,K=wr.heap.size:=⟨_,Z⟩;rw[<-B]at F G t|-;generalize wr.alloc (.cells #[i,f] 149)=W3 at q r d F G t  |-;have N:s<=W3.heap.size:=O
      clear z d0 d1 t B
      go_quiet (fail)
      obtain⟨n,c⟩:∃n,n=W3.drewN nq:=⟨_,Z⟩;rw[<-c];replace q:=H (show aH n s (.slice none 0 0) [] by rw[c];exact q.o)
     rotate_left 1
     focus
      rw[show iO [] (i,f)=[(i,f)]from Z]at V;have S:([]:List Sp).length<=4398046511104:=FE
      go_wp2_with fail;have z:=bi wr (.cells #[i,f] 149);have F:(wr.alloc (.cells #[i,f] 149)).cell? wr.heap.size=some (i:Y):=(At.new (W:=wr) (vs:= #[i,f]) _ Z Z).1;have G:(wr.alloc (.cells #[i,f] 149)).cell? ⟨wr.heap.size,1,none⟩=some (f:Y):=(At.new (W:=wr) (vs:= #[i,f]) _ Z Z).1;have t:(wr.alloc (.cells #[i,f] 149)).heap.size=wr.heap.size+1:=FE
      replace q:=H (q.FO z);replace r:=H (r.below (z.mono hN));replace d:=H (d.trans (z.mono d.size));obtain⟨K,B⟩:∃K,K=wr.heap.size:=⟨_,Z⟩;rw[<-B]at F G t|-;generalize wr.alloc (.cells #[i,f] 149)=W3 at q r d F G t  |-;have N:s<=W3.heap.size:=O
      clear z d0 d1 t B
      go_quiet (fail)
      obtain⟨n,c⟩:∃n,n=W3.drewN nq:=⟨_,Z⟩;rw[<-c];replace q:=H (show aH n s (.slice (some ⟨E,0,none⟩) ([]:List Sp).length oc) [] by rw[c];exact q.o)
     all_goals
      replace r:=H (show oB n s (some ⟨sb,so,none⟩) a by rw[c];exact r.below (show Below s W3 (W3.drewN nq)from⟨Z,Z,Z,L4 _,fun _ _=>rfl⟩));replace d:=H (show Below w.heap.size w n by rw[c];exact⟨d.os,d.tape,d.output,d.size,d.block⟩);replace F:n.cell? K=some (i:Y):=by rw[c];exact F
      replace G:n.cell? ⟨K,1,none⟩=some (f:Y):=by rw[c];exact G
      replace N:s<=n.heap.size:=by rw[c];exact N
      clear c
      skip
      go_wp2_with (first | (at_builtin;refine bE _ Z _ _ Z s _ _ Z (q.alloc _) S n.heap.size (i,f) Z FE FE IH ?_))
      intro v' w' U J a1;have y:Below s n w':=((L3 _ n).alloc N _).trans (aR J IH (fun b e=>(q.lt b e).1));replace r:=H (r.below y);replace d:=H (d.trans (y.mono a5));have a4:=H U;have a7:=L8 N y.size;clear U J a1 y F G;go_wp2_with fail
      go_roundg (gk-1)
      case measure=>omega
      case rel=>exact⟨k+1,IK,O,by rw[V.o];exact a4.o,r.o,d.o,a7⟩
    rcases q.cases with⟨-,h⟩ | ⟨E,oc,rfl,c7,P,-,-⟩
    ·exact absurd h FE
    obtain⟨an,b1⟩:∃an,an=A.length:=⟨_,Z⟩;have be:(A++[l]).length=an+1:=by rw[La,b1];rfl
    have S:(A++[l]).length<=4398046511104:=O
    have cM:an<=1099511627776:=O
    obtain⟨f1,f2⟩:=ic (A++[l]) A.length FE;have M:=N8 (show wr.ownsRow s 149 2 (.slice (some ⟨E,0,none⟩) (A++[l]).length oc) (A++[l]).length (dM (A++[l]))from q.o) (g:=E) Z _ _ f2;rw[Ms,List.getElem_append_right (L4 _),MN]at M;simp only[Nat.sub_self,MC]at M;rw[<-b1]at M
    have am:wr.frozen? ⟨E,an*2+1,none⟩=false:=by
     rcases q.2 with⟨e,_⟩ | ⟨g',c9,d7,e,_,hg,_⟩
     ·cases e
     cases e;exact LT _ _ _ _ _ hg
    have bk:Hid (iO (A++[l]) (i,f)=if i<=l.2 then A++[(l.1,max l.2 f)]else A++[l]++[(i,f)]):=H (by unfold iO;rw[show(A++[l]).getLast? =some l by simp];dsimp only;rw[NR]);rw[bk.o]at V;clear bk f1 f2;rw[be]at q|-;have cS:=H b1;have c8:((an:Int)+1)-1=(an:Int):=O
    clear b1 be;obtain⟨l1,l2⟩:=l;dsimp only at M V;by_cases hx:i<=l2
    ·rw[L7 hx]at V
     skip
     go_wp2_with fail;have z:=bi wr (.cells #[i,f] 149);have F:(wr.alloc (.cells #[i,f] 149)).cell? wr.heap.size=some (i:Y):=(At.new (W:=wr) (vs:= #[i,f]) _ Z Z).1;have G:(wr.alloc (.cells #[i,f] 149)).cell? ⟨wr.heap.size,1,none⟩=some (f:Y):=(At.new (W:=wr) (vs:= #[i,f]) _ Z Z).1;have t:(wr.alloc (.cells #[i,f] 149)).heap.size=wr.heap.size+1:=FE
     replace q:=H (q.FO z);replace r:=H (r.below (z.mono hN));replace d:=H (d.trans (z.mono d.size));have u:=(z.cell (p:=⟨E,an*2+1,none⟩) P).trans M;have aF:=(z.frozen (p:=⟨E,an*2+1,none⟩) P).trans am;clear M am;obtain⟨K,B⟩:∃K,K=wr.heap.size:=⟨_,Z⟩;rw[<-B]at F G t|-;generalize wr.alloc (.cells #[i,f] 149)=W3 at q r d F G t u aF |-;have N:s<=W3.heap.size:=O
     clear z d0 d1 t B
     go_quiet (fail)
     obtain⟨n,c⟩:∃n,n=W3.drewN nq:=⟨_,Z⟩;rw[<-c];replace q:=H (show aH n s (.slice (some ⟨E,0,none⟩) (an+1) oc) (A++[(l1,l2)]) by rw[c];exact q.o);replace r:=H (show oB n s (some ⟨sb,so,none⟩) a by rw[c];exact r.below (show Below s W3 (W3.drewN nq)from⟨Z,Z,Z,L4 _,fun _ _=>rfl⟩));replace d:=H (show Below w.heap.size w n by rw[c];exact⟨d.os,d.tape,d.output,d.size,d.block⟩);replace F:n.cell? K=some (i:Y):=by rw[c];exact F
     replace G:n.cell? ⟨K,1,none⟩=some (f:Y):=by rw[c];exact G
     replace N:s<=n.heap.size:=by rw[c];exact N
     replace u:n.cell? ⟨E,an*2+1,none⟩=some (l2:Y):=by rw[c];exact u
     replace aF:n.frozen? ⟨E,an*2+1,none⟩=false:=by rw[c];exact aF
     clear c;go_wp2_with fail
     go_region
     have U:=q.setLast (max l2 f);rw[<-cS.o]at U;have ax:Below s n ((n.setCell ⟨E,an*2+1,none⟩ (max l2 f:Int)).drew):=(((L3 s n).setCell (p:=⟨E,an*2+1,none⟩) c7 _)).drew;replace r:=H (r.below ax);replace d:=H (d.trans (ax.mono a5));have a7:=L8 N ax.size;have a4:=H (show aH ((n.setCell ⟨E,an*2+1,none⟩ (max l2 f:Int)).drew) s (.slice (some ⟨E,0,none⟩) (an+1) oc) (A++[(l1,max l2 f)])from U);generalize (n.setCell ⟨E,an*2+1,none⟩ (max l2 f:Int)).drew=W5 at r d a4 a7|-;clear U ax F G u aF;go_wp2_with fail
     go_roundg (gk-1)
     case measure=>omega
     case rel=>exact⟨k+1,IK,O,by rw[V.o];exact a4.o,r.o,d.o,a7⟩
    rw[L5 hx]at V;have d8:l2<i:=O
    go_wp2_with fail;have z:=bi wr (.cells #[i,f] 149);have F:(wr.alloc (.cells #[i,f] 149)).cell? wr.heap.size=some (i:Y):=(At.new (W:=wr) (vs:= #[i,f]) _ Z Z).1;have G:(wr.alloc (.cells #[i,f] 149)).cell? ⟨wr.heap.size,1,none⟩=some (f:Y):=(At.new (W:=wr) (vs:= #[i,f]) _ Z Z).1;have t:(wr.alloc (.cells #[i,f] 149)).heap.size=wr.heap.size+1:=FE
    replace q:=H (q.FO z);replace r:=H (r.below (z.mono hN));replace d:=H (d.trans (z.mono d.size));have u:=(z.cell (p:=⟨E,an*2+1,none⟩) P).trans M;have aF:=(z.frozen (p:=⟨E,an*2+1,none⟩) P).trans am;clear M am;obtain⟨K,B⟩:∃K,K=wr.heap.size:=⟨_,Z⟩;rw[<-B]at F G t|-;generalize wr.alloc (.cells #[i,f] 149)=W3 at q r d F G t u aF |-;have N:s<=W3.heap.size:=O
    clear z d0 d1 t B
    go_quiet (fail)
    obtain⟨n,c⟩:∃n,n=W3.drewN nq:=⟨_,Z⟩;rw[<-c];replace q:=H (show aH n s (.slice (some ⟨E,0,none⟩) (an+1) oc) (A++[(l1,l2)]) by rw[c];exact q.o);replace r:=H (show oB n s (some ⟨sb,so,none⟩) a by rw[c];exact r.below (show Below s W3 (W3.drewN nq)from⟨Z,Z,Z,L4 _,fun _ _=>rfl⟩));replace d:=H (show Below w.heap.size w n by rw[c];exact⟨d.os,d.tape,d.output,d.size,d.block⟩);replace F:n.cell? K=some (i:Y):=by rw[c];exact F
    replace G:n.cell? ⟨K,1,none⟩=some (f:Y):=by rw[c];exact G
    replace N:s<=n.heap.size:=by rw[c];exact N
    replace u:n.cell? ⟨E,an*2+1,none⟩=some (l2:Y):=by rw[c];exact u
    replace aF:n.frozen? ⟨E,an*2+1,none⟩=false:=by rw[c];exact aF
    clear c
    go_wp2_with (first | (at_builtin;refine bE _ Z _ _ Z s _ _ Z (q.alloc _) S n.heap.size (i,f) Z FE FE IH ?_))
    intro v' w' U J a1;have y:Below s n w':=((L3 _ n).alloc N _).trans (aR J IH (fun b e=>(q.lt b e).1));replace r:=H (r.below y);replace d:=H (d.trans (y.mono a5));have a4:=H U;have a7:=L8 N y.size;clear U J a1 y F G;go_wp2_with fail
    go_roundg (gk-1)
    case measure=>omega
    case rel=>exact⟨k+1,IK,O,by rw[V.o,LK];exact a4.o,r.o,d.o,a7⟩
   obtain rfl:k=a.length:=O
   have b5:=H (yG h0 ac.o cL.o HP.o);have T:=q.o;rw[LS,b5.o]at T;have a4:=H (T.mono a5);clear T;go_wp2;go_ret;exact⟨_,Z,a4.o,d.o⟩
end
section
set_option maxRecDepth 100000
open Go.RowKit Go.Shelf
theorem jO (W:World) (X B:Nat) (nw:Int) (x:Sp) (c:W.cell? X=some (B:Y)) (d:W.cell? ⟨B,4,none⟩=some (nw:Y)) :
  Calls Tryz.prog 147 #[.agg #[x.1,x.2],X] W fun e w'=>e= .returned (bY nw x)/\w'=(W.alloc (.cells #[x.1,x.2] 149)).drew:=by
 obtain⟨a,b⟩:=x;have m:=Lj c;have f:=Lj d;have g:=(L3 W.heap.size W).alloc (L4 _) (.cells #[a,b] 149);have k:=(g.cell (p:=⟨X,0,none⟩) m).trans c;have l:=(g.cell (p:=⟨B,4,none⟩) f).trans d;have q:=H c;clear g c d;by_cases h1:a<=nw
 ·go_enter Tryz.func147,Tryz.ntmps147
  go_wp2_with fail;have i:(W.alloc (.cells #[a,b] 149)).cell? W.heap.size=some (a:Y):=FE
  have j:(W.alloc (.cells #[a,b] 149)).cell? ⟨W.heap.size,1,none⟩=some (b:Y):=FE
  refine az (fun w':World=>w'.cell? X=some (B:Y)/\w'.cell? ⟨B,4,none⟩=some (nw:Y)/\w'.cell? W.heap.size=some (a:Y)/\w'.cell? ⟨W.heap.size,1,none⟩=some (b:Y)) (⟨k,l,i,j⟩) fun n=>?_;refine aA 0 1 2 3 ?_;refine aA 4 5 6 7 ?_;refine aA 8 9 10 11 ?_;refine aA 12 13 14 15 ?_;refine aQ 16 ?_;refine ay ?_ _;go_wp2;go_ret;refine⟨?_,Z⟩;show Ending.returned (Value.bool (decide (nw<b)))=_
  congr 2
  unfold bY
  apply NO.2
  rw[Lh,Lh];exact⟨fun h=>⟨h1,h⟩,fun h=>h.2⟩
 have h2:nw<a:=O
 go_enter Tryz.func147,Tryz.ntmps147
 go_wp2_with fail;have i:(W.alloc (.cells #[a,b] 149)).cell? W.heap.size=some (a:Y):=FE
 have j:(W.alloc (.cells #[a,b] 149)).cell? ⟨W.heap.size,1,none⟩=some (b:Y):=FE
 refine az (fun w':World=>w'.cell? X=some (B:Y)/\w'.cell? ⟨B,4,none⟩=some (nw:Y)/\w'.cell? W.heap.size=some (a:Y)/\w'.cell? ⟨W.heap.size,1,none⟩=some (b:Y)) (⟨k,l,i,j⟩) fun n=>?_;refine aA 0 1 2 3 ?_;refine aM 4 5 ?_;refine aQ 6 (v:=.bool false) ?_ (hy:=by intro w o;go_simp;(try (rw[Lr];omega)));refine aQ 7 ?_;refine aU 8 ?_;refine aU 9 ?_;refine aU 10 ?_;refine aU 11 ?_;refine aU 12 ?_;refine aU 13 ?_;refine aU 14 ?_;refine aM 15 16 ?_;refine ay ?_ _;go_wp2;go_ret;refine⟨?_,Z⟩;show Ending.returned (Value.bool false)=_
 congr 2
 unfold bY;rw[eq_comm,Lr];dsimp only;omega
def AF (nw:Int)(x y:Sp):Int:=if bY nw x=bY nw y then lk y.1 x.1 else if bY nw x=true then -1 else 1
set_option maxHeartbeats 1000000 in
theorem ql (W:World) (r X B:Nat) (nw:Int) (x y:Sp) (hF:W.cell? r=some (.func (.func 147) #[] #[X])) (S:W.cell? X=some (B:Y)) (T:W.cell? ⟨B,4,none⟩=some (nw:Y)) :
  Calls Tryz.prog 150 #[.agg #[x.1,x.2],.agg #[y.1,y.2],r] W fun e w'=>e= .returned (AF nw x y)/\iQ W w':=by
 obtain⟨d,f⟩:=x;obtain⟨i,j⟩:=y;obtain⟨b,c⟩:∃b,b=(W.alloc (.cells #[d,f] 149)).alloc (.cells #[i,j] 149):=⟨_,Z⟩;have g:Below W.heap.size W b:=by rw[c];exact((L3 _ W).alloc (L4 _) _).alloc FE _
 have m:iQ W b:=by rw[c];exact((iQ.refl W).alloc _).alloc _
 have a2:b.heap.size=W.heap.size+1+1:=by rw[c];simp
 have U:b.cell? W.heap.size=some (d:Y):=by rw[c];simp
 have V:b.cell? ⟨W.heap.size,1,none⟩=some (f:Y):=by rw[c];simp
 have b0:b.cell? ⟨W.heap.size+1,0,none⟩=some (i:Y):=by rw[c];simp
 have b1:b.cell? ⟨W.heap.size+1,1,none⟩=some (j:Y):=by rw[c];simp
 have f0:=(g.cell (p:=⟨r,0,none⟩) (Lj hF)).trans hF;have x0:=(g.cell (p:=⟨X,0,none⟩) (Lj S)).trans S;have n0:=(g.cell (p:=⟨B,4,none⟩) (Lj T)).trans T
 have A:=H (fun(w':World) (h:Below b.heap.size b w')=>show(w'.cell? r=some (.func (.func 147) #[] #[X])/\w'.cell? X=some (B:Y)/\w'.cell? ⟨B,4,none⟩=some (nw:Y))/\w'.cell? W.heap.size=some (d:Y)/\w'.cell? ⟨W.heap.size,1,none⟩=some (f:Y)/\w'.cell? ⟨W.heap.size+1,0,none⟩=some (i:Y)/\w'.cell? ⟨W.heap.size+1,1,none⟩=some (j:Y)from
  ⟨⟨(h.cell (p:=⟨r,0,none⟩) (Lj f0)).trans f0,(h.cell (p:=⟨X,0,none⟩) (Lj x0)).trans x0,(h.cell (p:=⟨B,4,none⟩) (Lj n0)).trans n0⟩,(h.cell (p:=⟨W.heap.size,0,none⟩) (Lj U)).trans U,(h.cell (p:=⟨W.heap.size,1,none⟩) (Lj V)).trans V,(h.cell (p:=⟨W.heap.size+1,0,none⟩) (Lj b0)).trans b0,(h.cell (p:=⟨W.heap.size+1,1,none⟩) (Lj b1)).trans b1⟩)
 have bn:=H c;have C:=H m;clear g m hF S T f0 x0 n0 U V b0 b1 c
 go_enter Tryz.func150,Tryz.ntmps150
 go_wp2_with fail;rw[<-bn.o];refine wp_mono (Q:=mE (fun a' w'=>a'={ tmps:= #[.agg #[d,f],.agg #[i,j],r,W.heap.size,.pointer (some ⟨W.heap.size+1,0,none⟩),(0:Int),(bY nw (d,f)==bY nw (i,j)),.func (.func 147) #[] #[X],.agg #[d,f],(bY nw (d,f)),.func (.func 147) #[] #[X],.agg #[i,j],(bY nw (i,j)),(bY nw (d,f)==bY nw (i,j)),undef,undef,undef,undef,undef,undef,undef,undef,undef],defers:=[] }/\Below b.heap.size b w'/\iQ W w')) ?_ (lN ?_)
 ·refine az (fun w':World=>(w'.cell? r=some (.func (.func 147) #[] #[X])/\w'.cell? X=some (B:Y)/\w'.cell? ⟨B,4,none⟩=some (nw:Y))/\w'.cell? W.heap.size=some (d:Y)/\w'.cell? ⟨W.heap.size,1,none⟩=some (f:Y)/\w'.cell? ⟨W.heap.size+1,0,none⟩=some (i:Y)/\w'.cell? ⟨W.heap.size+1,1,none⟩=some (j:Y)) (A.o _ (L3 _ b).drew) fun q=>?_;refine aQ 0 ?_ (hy:=Jn);refine aQ 1 ?_ (hy:=Jn);refine aQ 3 ?_ (hy:=Jn);refine aQ 4 ?_ (hy:=Jn);refine aZ 2 fun Kq k=> ?_;go_simp;refine(jO _ X B nw (d,f) q.1.2.1 q.1.2.2).mono ?_;rintro e w1⟨rfl,s⟩;have n:Below b.heap.size b w1:=by rw[s];exact(((L3 _ b).drew).alloc (L4 _) _).drew
  have L:iQ W w1:=by rw[s];exact((C.drew).alloc _).drew
  clear s;go_simp;refine k.out _ _ (A.o _ n) ?_;clear k Kq q;refine fun q=>aW ?_;refine aZ 5 fun Kq k=> ?_;go_simp;refine(jO _ X B nw (i,j) q.1.2.1 q.1.2.2).mono ?_;rintro e w2⟨rfl,t⟩;have g:Below b.heap.size b w2:=by rw[t];exact(n.alloc n.size _).drew
  have m:iQ W w2:=by rw[t];exact(L.alloc _).drew
  clear t n L;go_simp;refine k.out _ _ (A.o _ g) ?_;clear k Kq q;refine fun q=>aW ?_;refine aQ 6 ?_ (hy:=Jn);refine aQ 7 ?_ (hy:=Jn);refine ay ?_ _;exact⟨Z,g,m⟩
 rintro a' w3⟨rfl,u,M⟩;obtain⟨⟨c0,c1,c2⟩,c3,c4,c5,c6⟩:=A.o _ u;have bI:=H M;have a3:=u.size;have z:=H (show AF nw (d,f) (i,j)=if bY nw (d,f)=bY nw (i,j)then lk i d else if bY nw (d,f)=true then -1 else 1 from Z);have N:=H (jO w3 X B nw (d,f) c1 c2);clear u M A C bn;generalize bY nw (d,f)=nx at z N|-;generalize bY nw (i,j)=ny at z|-
 cases nx <;> cases ny
 ·go_wp2_with fail;refine(pL _ _ _).mono ?_;rintro e P⟨rfl,rfl⟩;go_wp2;go_ret;refine⟨?_,bI.o⟩;rw[z.o];rfl
 ·go_wp2_with fail;refine N.mono ?_;rintro e P⟨rfl,l⟩;have b6:=H (show iQ W P by rw[l];exact(bI.alloc _).drew);clear l N;go_wp2;go_ret;refine⟨?_,b6.o⟩;rw[z.o];rfl
 ·go_wp2_with fail;refine N.mono ?_;rintro e P⟨rfl,l⟩;have b6:=H (show iQ W P by rw[l];exact(bI.alloc _).drew);clear l N;go_wp2;go_ret;refine⟨?_,b6.o⟩;rw[z.o];rfl
 go_wp2_with fail;refine(pL _ _ _).mono ?_;rintro e P⟨rfl,rfl⟩;go_wp2;go_ret;refine⟨?_,bI.o⟩;rw[z.o];rfl
end
section
open Go.Sort
theorem jn (nw:Int)(x y:Sp):ltOf (AF nw) x y=true↔(bY nw x=bY nw y/\y.1<x.1)\/(bY nw x=true/\bY nw y=false):=by
 unfold ltOf;rw[Lh];unfold AF lk
 cases bY nw x <;> cases bY nw y <;> simp <;> (repeat' split) <;> omega
theorem Cw (nw:Int):SWO (ltOf (AF nw)) where
 irrefl x:=by
  rw[<-Mw,jn];rintro (h | h)
  ·omega
  ·rw[h.1]at h;cases h.2
 trans x y z h1 h2:=by
  rw[jn]at *
  revert h1 h2
  cases bY nw x <;> cases bY nw y <;> cases bY nw z <;> simp <;> omega
 ntrans x y z h1 h2:=by
  rw[<-Mw,jn]at *
  revert h1 h2
  cases bY nw x <;> cases bY nw y <;> cases bY nw z <;> simp <;> omega
theorem iX {α:Type}{R:α->α->Prop}:∀{d c:List α},d.Perm c->d.Pairwise R->c.Pairwise (fun x y=>¬R y x)->d=c
 | [],c,hp,_,_=>(List.nil_perm.1 hp).symm
 | a::t1,[],hp,_,_=>by have:=hp.length_eq;simp at this
 | a::t1,b::t2,hp,h1,h2=>by
  rw[NY]at h1 h2
  have f:a=b:=by
   have g:b∈a::t1:=hp.mem_iff.2 FE;have h:a∈b::t2:=hp.mem_iff.1 FE
   rcases Mi.1 g with e | g
   ·exact e.symm
   ·rcases Mi.1 h with e | h
    ·exact e
    ·exact(h2.1 a h (h1.1 b g)).elim
  subst f;rw[iX ((List.perm_cons a).1 hp) h1.2 h2.2]
theorem ll {e:Int}{bl:List Sp}(h:aJ e bl=true):bl.Pairwise (fun x y=>x.1<x.2/\x.2<y.1)/\∀x∈bl,e<x.1:=by
 induction bl generalizing e with
 | nil=>exact⟨List.Pairwise.nil,fun x b=>by cases b⟩
 | cons x t c =>
  rw[aB]at h;obtain⟨d,a⟩:=c h.2;refine⟨NY.2 ⟨fun y hy=>⟨h.1.2.2.1,a y hy⟩,d⟩,fun y hy=> ?_⟩
  rcases Mi.1 hy with rfl | hy
  ·exact h.1.2.1
  have:=a y hy;omega
theorem nb (nw:Int){e:Int}{bl:List Sp}(h:aJ e bl=true):(eW nw bl).Pairwise (fun x y=>ltOf (AF nw) x y=true):=by
 have d:=(ll h).1;unfold eW;rw[NQ];refine⟨?_,?_,fun x c y hy=> ?_⟩
 ·refine List.Pairwise.imp_of_mem (fun {x y} c hy hxy=> ?_) (d.filter (bY nw));have b:=(LZ.1 c).2;have a:=(LZ.1 hy).2;unfold bY at b a;rw[Lh]at b a;omega
 ·rw[List.pairwise_reverse];refine List.Pairwise.imp_of_mem (fun {x y} c hy hxy=> ?_) (d.filter _);have b:=(LZ.1 c).2;have a:=(LZ.1 hy).2;rw[jn];rw[Bool.not_eq_true']at b a;rw[b,a];exact .inl ⟨Z,O⟩
 rw[jn];have b:=(LZ.1 c).2;have a:=(LZ.1 (List.mem_reverse.1 hy)).2;rw[Bool.not_eq_true']at a;exact .inr ⟨b,a⟩
theorem pM (nw:Int){bl:List Sp}(h:ao bl=true)(a:Array Sp)(g:PermIn 0 bl.length bl.toArray a)(hs:SortedIn (ltOf (AF nw)) 0 bl.length a):a=(eW nw bl).toArray:=by
 obtain⟨p1,n,f⟩:=g;have p1:a.size=bl.length:=by rw[p1,LG]
 have k:a.extract 0 bl.length=a:=by rw[<-p1];simp
 have l:bl.toArray.extract 0 bl.length=bl.toArray:=by rw[<-LG];simp
 rw[k,l]at f
 have b:eW nw bl=a.toList:=by
  refine iX (R:=fun x y=>ltOf (AF nw) x y=true) ((iS nw bl).trans f.symm) (nb nw h) ?_;rw[MK];intro i j hi m c;have d:i<a.size:=Jj
  have e:j<a.size:=by simpa using m
  have:=hs i j (LW _) c O;rw[Nd a i d,Nd a j e]at this;rw[N4,N4,this];exact MX
 rw[b]
end
end Go.Proofs.YtcmncipikdpnbaaGreatDoor

namespace Go.Proofs.YtcmncipikdpnbaaGreatDoor
section
open Go.RowKit Go.Shelf Go.Sort
theorem yI (nw:Int)(g cap:Nat)(L:List Sp)(j X B:Nat)(w:World)(z:ao L=true)(hlen:L.length<=1099511627776)
  (o:HoldsK fI 2 w g 0 L.toArray)(p:g<w.heap.size)
  (hF:w.cell? j=some (.func (.func 147) #[] #[X]))(A:w.cell? X=some (B:Y))(C:w.cell? ⟨B,4,none⟩=some (nw:Y))
  (h1:j≠g)(h2:X≠g)(E:B≠g) :
  Calls Tryz.prog 149 #[.slice (some ⟨g,0,none⟩) L.length cap,.func (.func 150) #[] #[j]] w fun e w' =>
   e= .returned (.tuple #[])/\oB w' w'.heap.size (some ⟨g,0,none⟩) (eW nw L)/\∀N,N<=g->N<=w.heap.size->RowKit.Below N w w':=by
 have F:∀args w,(callFunc 150 args).run Tryz.prog w= .ok (.enter 150 args) w:=enters_of Tryz.func150 IG Z
 have G:CmpLays Tryz.prog 150 #[j] fI 2 (AF nw) g 0 L.toArray.size w:=by
  intro m os J I x y;exact ql _ j X B nw x y (kw hF h1) (kw A h2) (kw C E)
 have k:=AnyQ.slices_SortFunc sV 2 uE yE fI (fun _=>rfl) (fun x v q=>by simp[fI]at q;rcases q with rfl | rfl <;> rfl) (AF nw) (Cw nw) 150 #[j] g 0 cap L.toArray w F G o p (by rw[LG];omega);refine Calls.mono (show Calls Tryz.prog 149 _ w _ from k) ?_;rintro e w' ⟨he,f,n,os,r,hs,rfl⟩;have l:f=(eW nw L).toArray:=pM nw z f (by rw[LG]at r;exact r) (by rw[LG]at hs;exact hs);refine⟨he,⟨by rw[fh];exact hlen,fun K=>⟨g,0,Z,?_,fun i hi=> ?_⟩⟩,fun N a b=>gz a b⟩
 ·have:=(gz (N:=0) (g:=g) (off:=0) (n:=n) (w:=w) (d:=f) (os:=os) (LW _) (LW _)).size;omega
 have s:HoldsK fI 2 (sortWorldK fI 2 w g 0 n f os) g 0 f:=by
  unfold sortWorldK;refine holdsK_grow _ _ _ _ _ _ _ (by unfold putRowK;rw[size_putRow];exact p) (holdsK_putRowK _ _ _ _ _ _ _ (holdsK_ahead _ _ _ n _ _ _ o) ?_);rw[l,LG,LG,fh]
 have h:i<f.size:=by rw[l,LG];exact hi
 have e:f[i]! =(eW nw L)[i]:=by rw[Nd f i h];simp only[l,List.getElem_toArray]
 have t:=(HoldsK.cell s h (c:=0) O).1;have u:=(HoldsK.cell s h (c:=1) O).1;rw[e]at t u;exact⟨t,u⟩
end
section
set_option maxRecDepth 100000
open Go.RowKit Go.Shelf
theorem oB.take {w:World}{n₀:Nat}{a:Option Addr}{L:List Sp}(h:oB w n₀ a L)(k:Nat):oB w n₀ a (L.take k):=by
 refine⟨by have:=h.small;rw[Le];omega,fun c=> ?_⟩;rw[Le]at c;obtain⟨b,off,d,e,f⟩:=h.cells O;refine⟨b,off,d,e,fun i hi=> ?_⟩;rw[Le]at hi;rw[Nw];exact f i O
def Bj (w:World)(L:List Sp)(e:Ending)(w':World):Prop :=
 ∃a b,e= .returned (.slice a L.length b)/\oB w' w'.heap.size a L/\L.length<=b/\(∀c,a=some c->w.heap.size<=c.block/\c=⟨c.block,c.off,none⟩)/\Below w.heap.size w w'
theorem jP (B R lb:Nat) (b:Bx) (w:World) (h:ar B R lb b w) (ok:b.Ok) :
  Calls Tryz.prog 114 #[B] w (Bj w b.rep):=by
 obtain⟨a,n,-,-,-,⟨c3,-⟩,⟨N,-⟩,l,u,q⟩:=h.ats;have E:=h.lt.1;have aC:=H l;have ac:=H ok.canon
 have x:∀w',Below w.heap.size w w'->Calls Tryz.prog 148 #[.slice a b.bl.length n] w' fun e r=>∃v,e= .returned v/\aH r w'.heap.size v b.bl/\Below w'.heap.size w' r:=by
  intro w' y;have b7:=(l.below y).mono y.size
  cases a with
  | none =>
   have s:b.bl=[]:=by
    rcases MV b.bl.length with e | e
    ·exact LR e
    obtain⟨bb,off,e,_⟩:=l.cells e;cases e
   rw[s];refine(oF n w').mono ?_;rintro e r ⟨he,rfl⟩;exact⟨_,he,aH.nil _ _,L3 _ _⟩
  | some A =>
   have:=q.1 A Z;obtain⟨F,off,p⟩:=A
   cases this
   exact mW F off n b.bl w' b7
 have P:=H x;have c7:=H q;clear l q x h ok
 go_enter Tryz.func114,Tryz.ntmps114
 go_wp2_with fail;obtain⟨t,f⟩:∃t,t=(w.alloc (.cells #[B] 79)).alloc (.cells #[.func (.func 147) #[] #[w.heap.size]] 156):=⟨_,Z⟩;have c:Below w.heap.size w t:=by rw[f];exact((L3 _ w).alloc (L4 _) _).alloc FE _
 have a0:t.heap.size=w.heap.size+1+1:=by rw[f];simp
 have S:t.cell? w.heap.size=some (B:Y):=by rw[f];simp
 have hF:t.cell? ⟨w.heap.size+1,0,none⟩=some (.func (.func 147) #[] #[w.heap.size]):=by rw[f];simp
 have T:=(c.cell (p:=⟨B,4,none⟩) E).trans N;rw[<-f];have C:=H c;clear f c3 N;refine(P.o _ c).mono ?_;clear c;rintro e w1⟨v,rfl,d,i⟩;have U:=(i.cell (p:=⟨w.heap.size,0,none⟩) IH).trans S;have V:=(i.cell (p:=⟨w.heap.size+1,0,none⟩) IH).trans hF;have W:=(i.cell (p:=⟨B,4,none⟩) IH).trans T;have G:=H (C.trans (i.mono O));have a1:=i.size;clear S hF T i C P
 rcases aH.cases d with⟨rfl,s⟩ | ⟨g,j,rfl,a2,I,J,a3⟩
 ·have HL:=H s;clear d s;go_wp2_with fail;refine(oG _ _ _ _).mono ?_;rintro e w2⟨rfl,rfl⟩;go_wp2;go_ret;have K:b.rep=[]:=by unfold Bx.rep eW;rw[HL.o];rfl
  exact⟨none,0,by rw[K];rfl,by rw[K];exact⟨FE,fun s=>by simp at s⟩,by rw[K];simp,fun A e=>IU,G.o⟩
 obtain⟨X,-⟩:=d.holds;have z:=aC.small;have bu:=H (yI b.nw g j b.bl (w.heap.size+1) w.heap.size B w1 ac.o z X I V U W O O O);obtain⟨k,L⟩:∃k,k=b.bl.length:=⟨_,Z⟩;have M:=H L;clear X d U V W;rw[<-L]at J u z|-;clear L;go_wp2_with fail;rw[M.o];refine bu.mono ?_;rintro e w2⟨rfl,m,c⟩;rw[<-M.o];have cV:=H m;have C:=H (G.trans (c w.heap.size O O));have HR:=H (show b.rep=(eW b.nw b.bl).take 3 from Z);have bv:=H (show b.rep.length=min k 3 by rw[M.o];exact Bx.Cs b);clear m c bu G;go_wp2;go_ret;refine⟨some ⟨g,0,none⟩,j,?_,?_,by rw[bv.o];omega,fun A e=>(by cases e;exact⟨by show w.heap.size<=g;omega,Z⟩),C.o⟩
 ·show Ending.returned (Value.slice (some ⟨g,0,none⟩) (min (k:Int) 3).toNat j)=_;rw[bv.o,show(min (k:Int) 3).toNat=min k 3 by omega]
 rw[HR.o];exact cV.take 3
end
end Go.Proofs.YtcmncipikdpnbaaGreatDoor
