import Derived.Test.YtclkcmidhhfdmaaGreatDoorUb11
import Derived.Test.YtclkcmidhhfdmaaGreatDoorUb12
import Derived.Sort.Grow
import Derived.Sort.Lot0
import Derived.Shelf.SlSortCmp.Insertion
import Derived.Shelf.SlSortCmp.NoneTotal
import Derived.Deep.LoopGhost
import Derived.Deep.QuietTactic
import Derived.BigQuiet
import Derived.RegionTactic
import Derived.BigRegion
namespace Go.Proofs.YtclkcmidhhfdmaaGreatDoor
open Lib (hid)
section
open Go.RowKit Go.Shelf Go.Sort
def je (a b:Int):Int:=if a<b then -1 else if b<a then 1 else 0
theorem mJ (a b:Int)(W:World):Calls Tryz.prog 183 #[a,b] W fun e w'=>e= .returned (je a b)/\w'=W:=by
 by_cases h1:a<b
 ·have HC:=hid (show je a b= -1 by unfold je;rw[if_pos h1]);rw[HC.o]
  go_enter Tryz.func183,Tryz.ntmps183
  go_wp2
  go_ret;exact⟨rfl,rfl⟩
 by_cases h2:b<a
 ·have HC:=hid (show je a b=1 by unfold je;rw[if_neg h1,if_pos h2]);rw[HC.o]
  go_enter Tryz.func183,Tryz.ntmps183
  go_wp2
  go_ret;exact⟨rfl,rfl⟩
 have HC:=hid (show je a b=0 by unfold je;rw[if_neg h1,if_neg h2]);rw[HC.o]
 go_enter Tryz.func183,Tryz.ntmps183
 go_wp2
 go_ret;exact⟨rfl,rfl⟩
def fw (w w':World):Prop:=∃q os,w'=Sort.grow (w.drewN q) os
theorem fw.refl (w:World):fw w w:=⟨0,#[],by rw[Sort.grow_empty];rfl⟩
theorem fw.alloc {w w':World}(h:fw w w')(o:Obj):fw w (w'.alloc o):=by
 obtain⟨q,os,rfl⟩:=h;exact⟨q,os++ #[o],by rw[Sort.alloc_eq_grow,Sort.grow_grow]⟩
theorem fw.drew {w w':World}(h:fw w w'):fw w w'.drew:=by
 obtain⟨q,os,rfl⟩:=h;exact⟨q+1,os,rfl⟩
def eG (x:Sp):List Value:=[x.1,x.2]
theorem pj (w:World):(isAgg 92).run Tryz.prog w= .ok true w:=Tryz.isAgg92 w
theorem tF (w:World):(Go.sizeOf 92).run Tryz.prog w= .ok 2 w:=Tryz.sizeOf92 w
theorem fX {N g off n:Nat}{w:World}{d:Array Sp}{os:Array Obj}(hg:N<=g)(hs:N<=w.heap.size):RowKit.Below N w (sortWorldK eG 2 w g off n d os):=by
 refine⟨rfl,rfl,rfl,?_,fun k hk=> ?_⟩
 ·unfold sortWorldK putRowK;rw[size_grow,size_putRow];show _<=w.heap.size+_;omega
 unfold sortWorldK putRowK;rw[heap_grow_old _ _ (by rw[size_putRow];show k<w.heap.size;omega)];unfold putRow mapBlock;show(w.heap.modify g _)[k]? =_;rw[Array.getElem?_modify,if_neg (by omega)]
theorem jG {a:Addr}{g off n:Nat}{w:World}{d:Array Sp}{os:Array Obj}{v:Value}(h:w.cell? a=some v)(hne:a.block≠g):(sortWorldK eG 2 w g off n d os).cell? a=some v:=by
 have hb:=block_lt_of_cell h;unfold sortWorldK;rw[cell?_grow _ _ _ (by unfold putRowK;rw[size_putRow];exact hb),cell?_putRowK_other _ _ _ _ _ _ _ hne];exact h
theorem lR (a:Option Addr)(cap:Nat)(fv:Value)(w:World) :
  Calls Tryz.prog 181 #[.slice a 0 cap,fv] w fun e w'=>e= .returned (.tuple #[])/\w=w':=by
 refine Calls.mono (show Calls Tryz.prog 181 _ w _ from AnyF.slices_SortFunc_none ot a cap fv w) ?_;rintro e w' ⟨he,hw⟩;exact⟨he,hw.symm⟩
theorem aG.holds {w:World}{base g cap:Nat}{L:List Sp}(h:aG w base (.slice (some ⟨g,0,none⟩) L.length cap) L):HoldsK eG 2 w g 0 L.toArray/\g<w.heap.size:=by
 have hlt:=(World.ownsRow.lt h g rfl).2;refine⟨?_,hlt⟩;have hc:=World.ownsRow.cells h (g:=g) rfl
 have hf:∀j,w.frozen? ⟨g,j,none⟩=false:=by
  rcases h.2 with⟨e,_⟩ | ⟨g',cap',cur,e,_,hg,_⟩
  ·cases e
  cases e
  intro j;exact frozen_of_row _ _ _ _ _ hg
 intro j hj;have hjl:j<L.length*2:=by simpa using hj
 refine⟨?_,hf _⟩
 have e1:(cd L)[j]? =some ((flatK eG 2 L.toArray)[j]!):=by
  rw[get_flatK _ _ _ _ (by simpa using hjl)];have hi:j/2<L.length:=by omega
  have e2:L.toArray[j/2]! =L[j/2]:=by rw[getElem!_pos L.toArray (j/2) (by simpa using hi)];simp
  rw[e2];obtain⟨f1,f2⟩:=gS L (j/2) hi;by_cases hp:j%2=0
  ·rw[show j/2*2=j by omega]at f1;rw[f1,hp];rfl
  rw[show j/2*2+1=j by omega]at f2;rw[f2,show j%2=1 by omega];rfl
 have:=hc j _ e1;rw[Addr.add_lit]at this;exact this
theorem aG.cases {w:World}{base:Nat}{v:Value}{L:List Sp}(h:aG w base v L):(v= .slice none 0 0/\L=[])\/∃g cap,v= .slice (some ⟨g,0,none⟩) L.length cap/\base<=g/\g<w.heap.size/\L.length<=cap/\cap<=9223372036854775807:=by
 rcases h.2 with⟨rfl,hn⟩ | ⟨g,cap,cur,hv,hbg,hg,hnc,hcm,hcs,htake⟩
 ·exact .inl ⟨rfl,List.eq_nil_of_length_eq_zero hn⟩
 exact .inr ⟨g,cap,hv,hbg,(Array.getElem?_eq_some_iff.1 hg).1,hnc,by unfold maxLen at hcm;omega⟩
end
section
open Go.RowKit Go.Shelf Go.Sort
def xA (x y:Sp):Int:=je x.1 y.1
theorem jp (x y:Sp):ltOf xA x y=true↔x.1<y.1:=by
 unfold ltOf;rw[decide_eq_true_iff];unfold xA je
 (repeat' split) <;> omega
theorem xh:SWO (ltOf xA) where
 irrefl x:=by rw[<-Bool.not_eq_true,jp];omega
 trans x y z h1 h2:=by rw[jp]at *;omega
 ntrans x y z h1 h2:=by rw[<-Bool.not_eq_true,jp]at *;omega
theorem qi (W:World)(x y:Sp) :
  Calls Tryz.prog 188 #[.agg #[x.1,x.2],.agg #[y.1,y.2]] W fun e w'=>e= .returned (xA x y)/\fw W w':=by
 obtain⟨x1,x2⟩:=x;obtain⟨y1,y2⟩:=y;have HG:=hid (((fw.refl W).alloc (.cells #[x1,x2] 92)).alloc (.cells #[y1,y2] 92))
 go_enter Tryz.func188,Tryz.ntmps188
 go_wp2_with fail;refine(mJ x1 y1 _).mono ?_;rintro e w' ⟨rfl,rfl⟩;go_wp2;go_ret;exact⟨rfl,HG.o⟩
theorem qj (g cap base:Nat)(L:List Sp)(w:World)(hlen:L.length<=1099511627776)(hown:aG w base (.slice (some ⟨g,0,none⟩) L.length cap) L) :
  Calls Tryz.prog 181 #[.slice (some ⟨g,0,none⟩) L.length cap,.func (.func 188) #[] #[]] w fun e w' =>
   e= .returned (.tuple #[])/\∃D,D.Perm L/\D.Pairwise (fun x y=>x.1<=y.1)/\SpAt w' w'.heap.size (some ⟨g,0,none⟩) D/\∀N,N<=g->N<=w.heap.size->RowKit.Below N w w':=by
 obtain⟨hH,hg⟩:=hown.holds;have eg:∀args w,(callFunc 188 args).run Tryz.prog w= .ok (.enter 188 args) w:=enters_of Tryz.func188 (by kernel_rfl) rfl
 have ad:CmpLays Tryz.prog 188 #[] eG 2 xA g 0 L.toArray.size w:=by
  intro m os dk hdk x y;exact qi _ x y
 have hcon:=AnyQ.slices_SortFunc ot 2 pj tF eG (fun _=>rfl) (fun x v hv=>by simp[eG]at hv;rcases hv with rfl | rfl <;> rfl) xA xh 188 #[] g 0 cap L.toArray w eg ad hH hg (by rw[List.size_toArray];omega);refine Calls.mono (show Calls Tryz.prog 181 _ w _ from hcon) ?_;rintro e w' ⟨he,d',n,os,hp,hs,rfl⟩;obtain⟨p1,p2,p3⟩:=hp;rw[List.size_toArray]at p2 p3 hs;have p1:d'.size=L.length:=by rw[p1,List.size_toArray]
 have e1:d'.extract 0 L.length=d':=by rw[<-p1];simp
 have e2:L.toArray.extract 0 L.length=L.toArray:=by rw[<-List.size_toArray];simp
 rw[e1,e2]at p3;have hperm:d'.toList.Perm L:=p3;refine⟨he,d'.toList,hperm,?_,⟨by rw[hperm.length_eq];exact hlen,fun hl=>⟨g,0,rfl,?_,fun i hi=> ?_⟩⟩,fun N a b=>fX a b⟩
 ·rw[List.pairwise_iff_getElem];intro i j hi hj hij;have hi':i<d'.size:=by simpa using hi
  have hj':j<d'.size:=by simpa using hj
  have:=hs i j (Nat.zero_le _) hij (by omega);rw[getElem!_pos d' i hi',getElem!_pos d' j hj',<-Bool.not_eq_true,jp]at this;rw[Array.getElem_toList,Array.getElem_toList];omega
 ·have:=(fX (N:=0) (g:=g) (off:=0) (n:=n) (w:=w) (d:=d') (os:=os) (Nat.zero_le _) (Nat.zero_le _)).size;omega
 have hK:HoldsK eG 2 (sortWorldK eG 2 w g 0 n d' os) g 0 d':=by
  unfold sortWorldK;refine holdsK_grow _ _ _ _ _ _ _ (by unfold putRowK;rw[size_putRow];exact hg) (holdsK_putRowK _ _ _ _ _ _ _ (holdsK_ahead _ _ _ n _ _ _ hH) ?_);show d'.size=L.toArray.size;rw[p1,List.size_toArray]
 have hi':i<d'.size:=by simpa using hi
 have e:d'[i]! =d'.toList[i]:=by rw[getElem!_pos d' i hi',Array.getElem_toList]
 have c0:=(HoldsK.cell hK hi' (c:=0) (by omega)).1;have c1:=(HoldsK.cell hK hi' (c:=1) (by omega)).1;rw[e]at c0 c1;exact⟨c0,c1⟩
end
section
open Go.RowKit Go.Shelf
theorem bU (w:World)(o:Obj):Below w.heap.size w (w.alloc o):=(Below.refl _ w).alloc (Nat.le_refl _) o
theorem aG.own2 {W W':World}{base:Nat}{v:Value}{L:List Sp}(h:aG W base v L)(hb:Below W.heap.size W W'):aG W' base v L:=by
 refine h.kept (row:=none) (gD hb) ?_
 cases v.ownBlock with
 | none=>exact .inl rfl
 | some x=>exact .inr (by simp)
theorem kt (A:List Sp)(l:Sp)(m:Int):(cd (A++[l])).set (A.length*2+1) m=cd (A++[(l.1,m)]):=by
 rw[cP,cP,List.set_append_right _ _ (by rw[cy];omega),cy,show A.length*2+1-A.length*2=1 by omega];rfl
theorem aG.setLast {w:World}{base g cap n:Nat}{A:List Sp}{l:Sp}(h:aG w base (.slice (some ⟨g,0,none⟩) n cap) (A++[l]))(m:Int) :
  aG (w.setCell ⟨g,A.length*2+1,none⟩ m) base (.slice (some ⟨g,0,none⟩) n cap) (A++[(l.1,m)]):=by
 rcases h.2 with⟨e,_⟩ | ⟨g',cap',cur,hv,hbg,hg,hnc,hcm,hcs,htake⟩
 ·cases e
 cases hv
 have hlen:(A++[l]).length=(A++[(l.1,m)]).length:=by rw[List.length_append,List.length_append];rfl
 refine⟨cy _,.inr ⟨g,cap,cur.setIfInBounds (A.length*2+1) m,by rw[<-hlen],hbg,?_,by rw[<-hlen];exact hnc,hcm,?_,?_⟩⟩
 ·rw[heap_setCell_same _ _ _ _ _ _ hg]
 ·rw[Array.size_setIfInBounds];exact hcs
 rw[Array.toList_setIfInBounds,List.take_set,<-hlen,htake,kt]
theorem nP {A B:List Sp}(h:A.Perm B)(i:Int):af i A↔af i B:=by
 unfold af
 constructor
 ·rintro⟨x,hx,g⟩;exact⟨x,h.mem_iff.1 hx,g⟩
 rintro⟨x,hx,g⟩;exact⟨x,h.mem_iff.2 hx,g⟩
theorem lS (low:Int)(L:List Sp):(cZ low L).length<=L.length:=by
 unfold cZ aw;exact Nat.le_trans (List.length_filter_le _ _) (by rw[List.length_map];exact Nat.le_refl _)
abbrev xO := Option Addr × Nat × List Sp
def cm (Ls:List xO):List Sp:=Ls.flatMap fun x=>x.2.2
theorem lT {Ls:List xO}{j:Nat}(h:j<Ls.length):cm (Ls.take (j+1))=cm (Ls.take j)++Ls[j].2.2:=by
 unfold cm;rw[List.take_succ_eq_append_getElem h,List.flatMap_append]
 simp
theorem tG {Ls:List xO}{j k:Nat}(h:j<Ls.length):(cm (Ls.take j)++Ls[j].2.2.take k).length<=(cm Ls).length:=by
 have h1:cm Ls=cm (Ls.take (j+1))++cm (Ls.drop (j+1)):=by
  unfold cm;rw[<-List.flatMap_append,List.take_append_drop]
 rw[h1,lT h,List.length_append,List.length_append,List.length_append,List.length_take];omega
def i5 (C:Nat)(Ls:List xO)(w:World):Prop:=C<w.heap.size/\∀i (h:i<Ls.length),w.cell? ⟨C,i,none⟩=some (.slice Ls[i].1 Ls[i].2.2.length Ls[i].2.1)/\SpAt w w.heap.size Ls[i].1 Ls[i].2.2
theorem lU {D:List Sp}(hp:D.Pairwise (fun x y=>x.1<=y.1))(hok:∀x∈D,gb x):∀k,k<=D.length->MrgI (D.take k) ((D.take k).foldl ft [])
 | 0,_=>by rw[List.take_zero];exact MrgI.start
 | k+1,hk=>by
  have ih:=lU hp hok k (by omega);have hkl:k<D.length:=by omega
  rw[List.take_succ_eq_append_getElem hkl,List.foldl_append];refine ih.step (hok _ (List.getElem_mem hkl)) (fun y hy=> ?_);obtain⟨i,hi,rfl⟩:=List.mem_iff_getElem.1 hy;rw[List.length_take]at hi;rw[List.getElem_take];exact List.pairwise_iff_getElem.1 hp i k (by omega) hkl (by omega)
theorem tH {low:Int}{L D:List Sp}(h0:0<=low)(hok:∀x∈L,gb x)(hp:D.Pairwise (fun x y=>x.1<=y.1))(hd:D.Perm (cZ low L)):D.foldl ft []=bF low L:=by
 have ag:∀x∈D,gb x:=fun x hx=>mh h0 hok x (hd.mem_iff.1 hx);have h:=lU hp ag D.length (Nat.le_refl _);rw[List.take_length]at h;obtain⟨m1,m2⟩:=cN h0 hok;exact gh h.canon m1 (fun i=>by rw[h.mem,nP hd,lD,m2])
theorem pl:∀(D A:List Sp),(D.foldl ft A).length<=A.length+D.length
 | [],A=>by simp
 | x::D,A=>by
  have h:=pl D (ft A x)
  have h2:(ft A x).length<=A.length+1:=by
   rcases ed A with rfl | ⟨B,l,rfl⟩
   ·show [x].length<=_;simp
   ·unfold ft;rw[show(B++[l]).getLast? =some l by simp];dsimp only;split
    ·rw[List.dropLast_concat,List.length_append,List.length_append];simp
    ·rw[List.length_append];simp
  rw[List.foldl_cons,List.length_cons];omega
theorem tI {w:World}{base:Nat}{v:Value}{L:List Sp}(hown:aG w base v L)(hlen:L.length<=1099511627776)(hbase:base<=w.heap.size) :
  Calls Tryz.prog 181 #[v,.func (.func 188) #[] #[]] w fun e w'=>e= .returned (.tuple #[])/\∃D a cap,v= .slice a D.length cap/\D.Perm L/\D.Pairwise (fun x y=>x.1<=y.1)/\SpAt w' w'.heap.size a D/\Below base w w':=by
 rcases hown.cases with⟨rfl,rfl⟩ | ⟨g,cap,rfl,hg,hgl,-,-⟩
 ·refine(lR none 0 _ w).mono ?_;rintro e w' ⟨he,rfl⟩;exact⟨he,[],none,0,rfl,List.Perm.refl _,List.Pairwise.nil,⟨by simp,fun h=>absurd h (by simp)⟩,Below.refl _ _⟩
 refine(qj g cap base L w hlen hown).mono ?_;rintro e w' ⟨he,D,h1,h2,h3,h4⟩;exact⟨he,D,_,cap,by rw[h1.length_eq],h1,h2,h3,h4 base hg hbase⟩
end
section
set_option maxRecDepth 100000
open Go.RowKit Go.Shelf
set_option maxHeartbeats 4000000 in
theorem fY (low:Int) (C m cap:Nat) (Ls:List xO) (w:World) (hm:m=Ls.length) (h:i5 C Ls w) (h0:0<=low) (hok:∀x∈cm Ls,gb x) (hsz:(cm Ls).length<=1099511627776) (hm3:m<=3) :
  Calls Tryz.prog 152 #[low,.slice (some ⟨C,0,none⟩) m cap] w fun e w'=>∃v,e= .returned v/\aG w' w.heap.size v (bF low (cm Ls))/\Below w.heap.size w w':=by
 have HM:=hid hm;have HL:=hid h;have am:=hid hok;have ax:=hid hsz;have bc:=h.1;clear hm h hok hsz
 go_enter Tryz.func152,Tryz.ntmps152
 go_wp2_with fail
 go_loopg [5,16] m (fun g av jv wr=>∃(j:Nat),jv=((j:Int):Y)/\g+j=m/\aG wr w.heap.size av (cZ low (cm (Ls.take j)))/\Below w.heap.size w wr)
 case atStart=>exact⟨0,rfl,rfl,aG.nil _ _,Below.refl _ _⟩
 case round =>
  obtain⟨j,rfl,hg,hO,hB⟩:=hrel;have HO:=hid hO;have HB:=hid hB;have hws:=hB.size;clear hO hB;by_cases hj:j<m
  ·have hjl:j<Ls.length:=by rw[<-HM.o];exact hj
   obtain⟨bI,a6⟩:=HL.2 j hjl;have a9:=hid (lT hjl);have HLEN:=hid (fun k=>tG (k:=k) hjl);have lc:=(HB.cell (p:=⟨C,j,none⟩) HL.1).trans bI;have aF:=hid a6;have hjm:(j:Int)<(m:Int):=by omega
   generalize Ls[j]=lj at lc aF a9 HLEN;clear bI a6;obtain⟨la,b4,L⟩:=lj;dsimp only at lc aF a9 HLEN;have bd:=aF.small;go_wp2_with fail;clear lc;obtain⟨wo,rfl⟩:∃wo:World,wo=wr:=⟨_,rfl⟩
   go_loopg [5,22] L.length (fun g av kv wr=>∃(k:Nat),kv=((k:Int):Y)/\g+k=L.length/\aG wr w.heap.size av (cZ low (cm (Ls.take j)++L.take k))/\Below w.heap.size w wr)
   case atStart=>exact⟨0,rfl,rfl,by rw[List.take_zero,List.append_nil];exact HO.o,HB.o⟩
   case round =>
    clear HO HB hws
    skip
    obtain⟨k,rfl,b5,hO,hB⟩:=hrel;have HO:=hid hO;have HB:=hid hB;have hws:=hB.size;clear hO hB;by_cases hk:k<L.length
    ·obtain⟨sb,so,rfl,ak,hcs⟩:=aF.cells (by omega);obtain⟨c0,c1⟩:=hcs k hk;have d0:=(HB.cell (p:=⟨sb,_,none⟩) ak).trans c0;have d1:=(HB.cell (p:=⟨sb,_,none⟩) ak).trans c1;clear c0 c1 hcs;have aa:=hid (show cZ low (cm (Ls.take j)++L.take (k+1))=cZ low (cm (Ls.take j)++L.take k)++one (max L[k].1 low) L[k].2 by rw[List.take_succ_eq_append_getElem hk,<-List.append_assoc,iO,lC]);have hll:(cZ low (cm (Ls.take j)++L.take k)).length<=4398046511104:=by have h1:=lS low (cm (Ls.take j)++L.take k);have h2:=HLEN.o k;have h3:=ax.o;omega
     have b6:(k:Int)<(L.length:Int):=by omega
     have b0:=am.o L[k] (by rw[<-List.take_append_drop (j+1) Ls];unfold cm at *;rw[List.flatMap_append];refine List.mem_append_left _ ?_;have:=a9.o;rw[this];exact List.mem_append_right _ (List.getElem_mem hk));generalize L[k]=x at d0 d1 aa b0;obtain⟨x1,x2⟩:=x;obtain⟨o1,o2,o3⟩:=b0;dsimp only at d0 d1 aa o1 o2 o3;by_cases hx:max x1 low<x2
     ·have hxl:low<x2:=by omega
      go_wp2_with (first | (at_builtin;refine ar _ rfl _ _ rfl w.heap.size _ _ rfl ((HO.alloc _).alloc _) hll (wr.heap.size+1) (max x1 low,x2) rfl (by simp) (by simp) (by simp;omega) ?_))
      intro v' w' ho hgr hbl;have hb':Below w.heap.size wr w':=(((Below.refl _ wr).alloc (by omega) _).alloc (by simp;omega) _).trans (aM hgr (by simp;omega) (fun b e=>(HO.lt b e).1));have b1:aG w' w.heap.size v' (cZ low (cm (Ls.take j)++L.take (k+1))):=by rw[aa.o];unfold one;rw[if_pos hx];exact ho
      have a3:=hid b1;replace HB:=hid (HB.trans hb');clear ho hgr hbl hb' b1 d0 d1;go_wp2_with fail
      go_roundg (gk-1)
      case measure=>omega
      case rel=>exact⟨k+1,by go_num,by omega,a3.o,HB.o⟩
     have hx2:max x1 low≥x2:=by omega
     go_wp2_with fail
     go_roundg (gk-1)
     case measure=>omega
     case rel=>exact⟨k+1,by go_num,by omega,by rw[aa.o];unfold one;rw[if_neg (by omega),List.append_nil];exact HO.alloc _,HB.alloc hws _⟩
    obtain rfl:k=L.length:=by omega
    go_wp2_with fail
    go_roundg (m-(j+1))
    case measure=>omega
    case rel=>exact⟨j+1,by go_num,by omega,by rw[a9.o];have h:=HO.o;rw[List.take_length]at h;exact h,HB.o⟩
  obtain rfl:j=m:=by omega
  have b8:=hid (show cZ low (cm (Ls.take j))=cZ low (cm Ls) by rw[HM.o,List.take_length]);rw[b8.o]at HO;have hcl:=Nat.le_trans (lS low (cm Ls)) ax.o;go_wp2_with fail;refine(tI HO.o hcl hws).mono ?_;rintro e w2⟨rfl,D,da,dc,hv,hperm,hpw,hsp,hb2⟩;have aF:=hid hsp;replace HB:=hid (HB.trans hb2);have hsm:=hsp.small;have HP:=hid hperm;have b9:=hid hpw;have hw2:=HB.size;obtain⟨N2,hN2⟩:∃N2,N2=w2.heap.size:=⟨_,rfl⟩;have a4:w.heap.size<=N2:=by omega
  have a7:N2<=w2.heap.size:=by omega
  rw[<-hN2]at aF;subst hv;clear hperm hpw hsp hb2 HO hN2;go_wp2_with fail
  go_loopg [10,46] D.length (fun g ov kv wr=>∃(k:Nat),kv=((k:Int):Y)/\g+k=D.length/\aG wr N2 ov ((D.take k).foldl ft [])/\SpAt wr N2 da D/\Below w.heap.size w wr/\N2<=wr.heap.size)
  case atStart=>exact⟨0,rfl,rfl,aG.nil _ _,aF.o,HB.o,a7⟩
  case round =>
   clear aF HB hw2 a7;obtain⟨k,rfl,b5,hO,hS,hB,hN⟩:=hrel;have HO:=hid hO;have aF:=hid hS;have HB:=hid hB;clear hO hS hB;by_cases hk:k<D.length
   ·obtain⟨sb,so,rfl,ak,hcs⟩:=aF.cells (by omega);obtain⟨d0,d1⟩:=hcs k hk;have a2:=hid (show(D.take (k+1)).foldl ft []=ft ((D.take k).foldl ft []) D[k] by rw[List.take_succ_eq_append_getElem hk,List.foldl_append];rfl);have hol:((D.take k).foldl ft []).length<=k:=by have:=pl (D.take k) [];rw[List.length_take]at this;simp at this;omega
    have b6:(k:Int)<(D.length:Int):=by omega
    clear hcs;generalize D[k]=x at d0 d1 a2;generalize (D.take k).foldl ft []=out at HO a2 hol;obtain⟨x1,x2⟩:=x;dsimp only at d0 d1 a2
    rcases ed out with rfl | ⟨A,l,rfl⟩
    ·rcases HO.cases with⟨rfl,-⟩ | ⟨og,oc,rfl,-,-,-,-⟩
     focus
      rw[show ft [] (x1,x2)=[(x1,x2)]from rfl]at a2;have hll:([]:List Sp).length<=4398046511104:=by simp
      go_wp2_with fail;have hb:=bU wr (.cells #[x1,x2] 92);have e0:(wr.alloc (.cells #[x1,x2] 92)).cell? wr.heap.size=some (x1:Y):=(At.new (W:=wr) (vs:= #[x1,x2]) _ rfl rfl).1;have e1:(wr.alloc (.cells #[x1,x2] 92)).cell? ⟨wr.heap.size,1,none⟩=some (x2:Y):=(At.new (W:=wr) (vs:= #[x1,x2]) _ rfl rfl).1;have hs3:(wr.alloc (.cells #[x1,x2] 92)).heap.size=wr.heap.size+1:=by simp
      replace HO:=hid (HO.own2 hb);replace aF:=hid (aF.below (hb.mono hN));replace HB:=hid (HB.trans (hb.mono HB.size));obtain⟨N3,hN3⟩:∃N3,N3=wr.heap.size:=⟨_,rfl⟩;rw[<-hN3]at e0 e1 hs3|-;generalize wr.alloc (.cells #[x1,x2] 92)=W3 at HO aF HB e0 e1 hs3  |-;have a1:N2<=W3.heap.size:=by omega
      clear hb d0 d1 hs3 hN3
      go_quiet (fail)
      obtain⟨W4,hW4⟩:∃W4,W4=W3.drewN nq:=⟨_,rfl⟩;rw[<-hW4];replace HO:=hid (show aG W4 N2 (.slice none 0 0) [] by rw[hW4];exact HO.o)
     rotate_left 1
     focus
      rw[show ft [] (x1,x2)=[(x1,x2)]from rfl]at a2;have hll:([]:List Sp).length<=4398046511104:=by simp
      go_wp2_with fail;have hb:=bU wr (.cells #[x1,x2] 92);have e0:(wr.alloc (.cells #[x1,x2] 92)).cell? wr.heap.size=some (x1:Y):=(At.new (W:=wr) (vs:= #[x1,x2]) _ rfl rfl).1;have e1:(wr.alloc (.cells #[x1,x2] 92)).cell? ⟨wr.heap.size,1,none⟩=some (x2:Y):=(At.new (W:=wr) (vs:= #[x1,x2]) _ rfl rfl).1;have hs3:(wr.alloc (.cells #[x1,x2] 92)).heap.size=wr.heap.size+1:=by simp
      replace HO:=hid (HO.own2 hb);replace aF:=hid (aF.below (hb.mono hN));replace HB:=hid (HB.trans (hb.mono HB.size));obtain⟨N3,hN3⟩:∃N3,N3=wr.heap.size:=⟨_,rfl⟩;rw[<-hN3]at e0 e1 hs3|-;generalize wr.alloc (.cells #[x1,x2] 92)=W3 at HO aF HB e0 e1 hs3  |-;have a1:N2<=W3.heap.size:=by omega
      clear hb d0 d1 hs3 hN3
      go_quiet (fail)
      obtain⟨W4,hW4⟩:∃W4,W4=W3.drewN nq:=⟨_,rfl⟩;rw[<-hW4];replace HO:=hid (show aG W4 N2 (.slice (some ⟨og,0,none⟩) ([]:List Sp).length oc) [] by rw[hW4];exact HO.o)
     all_goals
      replace aF:=hid (show SpAt W4 N2 (some ⟨sb,so,none⟩) D by rw[hW4];exact aF.below (show Below N2 W3 (W3.drewN nq)from⟨rfl,rfl,rfl,Nat.le_refl _,fun _ _=>rfl⟩));replace HB:=hid (show Below w.heap.size w W4 by rw[hW4];exact⟨HB.os,HB.tape,HB.output,HB.size,HB.block⟩);replace e0:W4.cell? N3=some (x1:Y):=by rw[hW4];exact e0
      replace e1:W4.cell? ⟨N3,1,none⟩=some (x2:Y):=by rw[hW4];exact e1
      replace a1:N2<=W4.heap.size:=by rw[hW4];exact a1
      clear hW4
      skip
      go_wp2_with (first | (at_builtin;refine ar _ rfl _ _ rfl N2 _ _ rfl (HO.alloc _) hll W4.heap.size (x1,x2) rfl (by simp) (by simp) (by simp;omega) ?_))
      intro v' w' ho hgr hbl;have hb':Below N2 W4 w':=((Below.refl _ W4).alloc a1 _).trans (aM hgr (by simp;omega) (fun b e=>(HO.lt b e).1));replace aF:=hid (aF.below hb');replace HB:=hid (HB.trans (hb'.mono a4));have a3:=hid ho;have a5:=Nat.le_trans a1 hb'.size;clear ho hgr hbl hb' e0 e1;go_wp2_with fail
      go_roundg (gk-1)
      case measure=>omega
      case rel=>exact⟨k+1,by go_num,by omega,by rw[a2.o];exact a3.o,aF.o,HB.o,a5⟩
    rcases HO.cases with⟨-,h⟩ | ⟨og,oc,rfl,hog,hogl,-,-⟩
    ·exact absurd h (by simp)
    obtain⟨an,han⟩:∃an,an=A.length:=⟨_,rfl⟩;have b2:(A++[l]).length=an+1:=by rw[List.length_append,han];rfl
    have hll:(A++[l]).length<=4398046511104:=by omega
    have ba:an<=1099511627776:=by omega
    obtain⟨f1,f2⟩:=gS (A++[l]) A.length (by simp);have hg1:=World.ownsRow.cells (show wr.ownsRow N2 92 2 (.slice (some ⟨og,0,none⟩) (A++[l]).length oc) (A++[l]).length (cd (A++[l]))from HO.o) (g:=og) rfl _ _ f2;rw[Addr.add_lit,List.getElem_append_right (Nat.le_refl _),Nat.zero_add]at hg1;simp only[Nat.sub_self,List.getElem_cons_zero]at hg1;rw[<-han]at hg1
    have ab:wr.frozen? ⟨og,an*2+1,none⟩=false:=by
     rcases HO.2 with⟨e,_⟩ | ⟨g',cap',cur,e,_,hg,_⟩
     ·cases e
     cases e;exact frozen_of_row _ _ _ _ _ hg
    have b3:Hid (ft (A++[l]) (x1,x2)=if x1<=l.2 then A++[(l.1,max l.2 x2)]else A++[l]++[(x1,x2)]):=hid (by unfold ft;rw[show(A++[l]).getLast? =some l by simp];dsimp only;rw[List.dropLast_concat]);rw[b3.o]at a2;clear b3 f1 f2;rw[b2]at HO|-;have bb:=hid han;have hlast:((an:Int)+1)-1=(an:Int):=by omega
    clear han b2;obtain⟨l1,l2⟩:=l;dsimp only at hg1 a2;by_cases hx:x1<=l2
    ·rw[if_pos hx]at a2
     skip
     go_wp2_with fail;have hb:=bU wr (.cells #[x1,x2] 92);have e0:(wr.alloc (.cells #[x1,x2] 92)).cell? wr.heap.size=some (x1:Y):=(At.new (W:=wr) (vs:= #[x1,x2]) _ rfl rfl).1;have e1:(wr.alloc (.cells #[x1,x2] 92)).cell? ⟨wr.heap.size,1,none⟩=some (x2:Y):=(At.new (W:=wr) (vs:= #[x1,x2]) _ rfl rfl).1;have hs3:(wr.alloc (.cells #[x1,x2] 92)).heap.size=wr.heap.size+1:=by simp
     replace HO:=hid (HO.own2 hb);replace aF:=hid (aF.below (hb.mono hN));replace HB:=hid (HB.trans (hb.mono HB.size));have hg1':=(hb.cell (p:=⟨og,an*2+1,none⟩) hogl).trans hg1;have a0:=(hb.frozen (p:=⟨og,an*2+1,none⟩) hogl).trans ab;clear hg1 ab;obtain⟨N3,hN3⟩:∃N3,N3=wr.heap.size:=⟨_,rfl⟩;rw[<-hN3]at e0 e1 hs3|-;generalize wr.alloc (.cells #[x1,x2] 92)=W3 at HO aF HB e0 e1 hs3 hg1' a0 |-;have a1:N2<=W3.heap.size:=by omega
     clear hb d0 d1 hs3 hN3
     go_quiet (fail)
     obtain⟨W4,hW4⟩:∃W4,W4=W3.drewN nq:=⟨_,rfl⟩;rw[<-hW4];replace HO:=hid (show aG W4 N2 (.slice (some ⟨og,0,none⟩) (an+1) oc) (A++[(l1,l2)]) by rw[hW4];exact HO.o);replace aF:=hid (show SpAt W4 N2 (some ⟨sb,so,none⟩) D by rw[hW4];exact aF.below (show Below N2 W3 (W3.drewN nq)from⟨rfl,rfl,rfl,Nat.le_refl _,fun _ _=>rfl⟩));replace HB:=hid (show Below w.heap.size w W4 by rw[hW4];exact⟨HB.os,HB.tape,HB.output,HB.size,HB.block⟩);replace e0:W4.cell? N3=some (x1:Y):=by rw[hW4];exact e0
     replace e1:W4.cell? ⟨N3,1,none⟩=some (x2:Y):=by rw[hW4];exact e1
     replace a1:N2<=W4.heap.size:=by rw[hW4];exact a1
     replace hg1':W4.cell? ⟨og,an*2+1,none⟩=some (l2:Y):=by rw[hW4];exact hg1'
     replace a0:W4.frozen? ⟨og,an*2+1,none⟩=false:=by rw[hW4];exact a0
     clear hW4;go_wp2_with fail
     go_region
     have ho:=HO.setLast (max l2 x2);rw[<-bb.o]at ho;have ac:Below N2 W4 ((W4.setCell ⟨og,an*2+1,none⟩ (max l2 x2:Int)).drew):=(((Below.refl N2 W4).setCell (p:=⟨og,an*2+1,none⟩) hog _)).drew;replace aF:=hid (aF.below ac);replace HB:=hid (HB.trans (ac.mono a4));have a5:=Nat.le_trans a1 ac.size;have a3:=hid (show aG ((W4.setCell ⟨og,an*2+1,none⟩ (max l2 x2:Int)).drew) N2 (.slice (some ⟨og,0,none⟩) (an+1) oc) (A++[(l1,max l2 x2)])from ho);generalize (W4.setCell ⟨og,an*2+1,none⟩ (max l2 x2:Int)).drew=W5 at aF HB a3 a5|-;clear ho ac e0 e1 hg1' a0;go_wp2_with fail
     go_roundg (gk-1)
     case measure=>omega
     case rel=>exact⟨k+1,by go_num,by omega,by rw[a2.o];exact a3.o,aF.o,HB.o,a5⟩
    rw[if_neg hx]at a2;have hx':l2<x1:=by omega
    go_wp2_with fail;have hb:=bU wr (.cells #[x1,x2] 92);have e0:(wr.alloc (.cells #[x1,x2] 92)).cell? wr.heap.size=some (x1:Y):=(At.new (W:=wr) (vs:= #[x1,x2]) _ rfl rfl).1;have e1:(wr.alloc (.cells #[x1,x2] 92)).cell? ⟨wr.heap.size,1,none⟩=some (x2:Y):=(At.new (W:=wr) (vs:= #[x1,x2]) _ rfl rfl).1;have hs3:(wr.alloc (.cells #[x1,x2] 92)).heap.size=wr.heap.size+1:=by simp
    replace HO:=hid (HO.own2 hb);replace aF:=hid (aF.below (hb.mono hN));replace HB:=hid (HB.trans (hb.mono HB.size));have hg1':=(hb.cell (p:=⟨og,an*2+1,none⟩) hogl).trans hg1;have a0:=(hb.frozen (p:=⟨og,an*2+1,none⟩) hogl).trans ab;clear hg1 ab;obtain⟨N3,hN3⟩:∃N3,N3=wr.heap.size:=⟨_,rfl⟩;rw[<-hN3]at e0 e1 hs3|-;generalize wr.alloc (.cells #[x1,x2] 92)=W3 at HO aF HB e0 e1 hs3 hg1' a0 |-;have a1:N2<=W3.heap.size:=by omega
    clear hb d0 d1 hs3 hN3
    go_quiet (fail)
    obtain⟨W4,hW4⟩:∃W4,W4=W3.drewN nq:=⟨_,rfl⟩;rw[<-hW4];replace HO:=hid (show aG W4 N2 (.slice (some ⟨og,0,none⟩) (an+1) oc) (A++[(l1,l2)]) by rw[hW4];exact HO.o);replace aF:=hid (show SpAt W4 N2 (some ⟨sb,so,none⟩) D by rw[hW4];exact aF.below (show Below N2 W3 (W3.drewN nq)from⟨rfl,rfl,rfl,Nat.le_refl _,fun _ _=>rfl⟩));replace HB:=hid (show Below w.heap.size w W4 by rw[hW4];exact⟨HB.os,HB.tape,HB.output,HB.size,HB.block⟩);replace e0:W4.cell? N3=some (x1:Y):=by rw[hW4];exact e0
    replace e1:W4.cell? ⟨N3,1,none⟩=some (x2:Y):=by rw[hW4];exact e1
    replace a1:N2<=W4.heap.size:=by rw[hW4];exact a1
    replace hg1':W4.cell? ⟨og,an*2+1,none⟩=some (l2:Y):=by rw[hW4];exact hg1'
    replace a0:W4.frozen? ⟨og,an*2+1,none⟩=false:=by rw[hW4];exact a0
    clear hW4
    go_wp2_with (first | (at_builtin;refine ar _ rfl _ _ rfl N2 _ _ rfl (HO.alloc _) hll W4.heap.size (x1,x2) rfl (by simp) (by simp) (by simp;omega) ?_))
    intro v' w' ho hgr hbl;have hb':Below N2 W4 w':=((Below.refl _ W4).alloc a1 _).trans (aM hgr (by simp;omega) (fun b e=>(HO.lt b e).1));replace aF:=hid (aF.below hb');replace HB:=hid (HB.trans (hb'.mono a4));have a3:=hid ho;have a5:=Nat.le_trans a1 hb'.size;clear ho hgr hbl hb' e0 e1;go_wp2_with fail
    go_roundg (gk-1)
    case measure=>omega
    case rel=>exact⟨k+1,by go_num,by omega,by rw[a2.o,List.append_assoc];exact a3.o,aF.o,HB.o,a5⟩
   obtain rfl:k=D.length:=by omega
   have al:=hid (tH h0 am.o b9.o HP.o);have hO:=HO.o;rw[List.take_length,al.o]at hO;have a3:=hid (hO.mono a4);clear hO;go_wp2;go_ret;exact⟨_,rfl,a3.o,HB.o⟩
end
end Go.Proofs.YtclkcmidhhfdmaaGreatDoor
