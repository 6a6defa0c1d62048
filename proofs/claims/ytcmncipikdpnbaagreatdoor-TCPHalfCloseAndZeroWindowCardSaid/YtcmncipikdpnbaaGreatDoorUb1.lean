import Derived.Test.YtcmncipikdpnbaaGreatDoorUb0
import Derived.Lib.Hide
namespace Go.Proofs.YtcmncipikdpnbaaGreatDoor
theorem _root_.Go.RowKit.Hid.o {p:Prop}(h:Go.RowKit.Hid p):p:=h
abbrev Sp := Int × Int
def aJ:Int->List Sp->Bool
 | _,[]=>true
 | e,x::l=>decide (0<=x.1/\e<x.1/\x.1<x.2/\x.2<=1099511627776)&&aJ x.2 l
def ao (l:List Sp):Bool:=aJ (-1) l
def cW (l:List Sp)(s:Sp):Bool:=ao l&&ao [s]
def one (a b:Int):List Sp:=if a<b then [(a,b)]else []
def bD (a:List Sp):List Sp:=a.filter fun x=>decide (x.1<x.2)
def bO (t:Int):Int->List Sp->List Sp
 | a,[]=>one a t
 | a,x::l=>if x.2<=a then bO t a l else if t<=x.1 then one a t else one a x.1++bO t x.2 l
def bt (l:List Sp)(s:Sp):List Sp:=if cW l s=true then bO s.2 s.1 l else []
def jF:Sp->List Sp->List Sp
 | s,[]=>[s]
 | s,x::l=>if x.2<s.1 then x::jF s l else if s.2<x.1 then s::x::l else jF (min s.1 x.1,max s.2 x.2) l
def fN (l:List Sp)(s:Sp):List Sp:=if cW l s=true then jF s l else []
def aD:List Sp->Int
 | []=>0
 | x::l=>x.2-x.1+aD l
def dw (l:List Sp):Int:=if ao l=true then aD l else 0
def ap (i:Int)(l:List Sp):Prop:=∃x∈l,x.1<=i/\i<x.2
theorem a8 {i:Int}:¬ap i []:=by rintro⟨x,h,_⟩;cases h
theorem mem_cons {i:Int}{x:Sp}{l:List Sp}:ap i (x::l)↔(x.1<=i/\i<x.2)\/ap i l:=by
 constructor
 ·rintro⟨y,h,g⟩
  rcases Mi.1 h with rfl | h
  ·exact .inl g
  exact .inr ⟨y,h,g⟩
 rintro (g | ⟨y,h,g⟩)
 ·exact⟨x,M4,g⟩
 exact⟨y,Mg _ h,g⟩
theorem mem_append {i:Int}{a b:List Sp}:ap i (a++b)↔ap i a\/ap i b:=by
 induction a with
 | nil=>simp[a8]
 | cons x l c=>rw[LQ,mem_cons,c,mem_cons,or_assoc]
theorem lr {i a b:Int}:ap i (one a b)↔a<=i/\i<b:=by
 unfold one;split
 ·rw[mem_cons];simp[a8]
 constructor
 ·exact fun h=>(a8 h).elim
 omega
theorem aB {e:Int}{x:Sp}{l:List Sp}:aJ e (x::l)=true↔(0<=x.1/\e<x.1/\x.1<x.2/\x.2<=1099511627776)/\aJ x.2 l=true:=by
 show(decide _&&_)=true↔_;rw[Ly,Lh]
theorem eM {e a:Int}{l:List Sp}(h:aJ e l=true)(he:a<=e):aJ a l=true:=by
 cases l with
 | nil=>rfl
 | cons x l=>rw[aB]at h|-;exact⟨O,h.2⟩
theorem jG {e:Int}{l:List Sp}(h:aJ e l=true){i:Int}(hi:ap i l):e<i/\0<=i/\i<1099511627776:=by
 induction l generalizing e with
 | nil=>exact(a8 hi).elim
 | cons x l a =>
  rw[aB]at h
  rcases mem_cons.1 hi with g | g
  ·omega
  have:=a h.2 g;omega
theorem jH {s:Sp}:ao [s]=true↔0<=s.1/\s.1<s.2/\s.2<=1099511627776:=by
 unfold ao;rw[aB];show _/\true=true↔_;simp only[and_true];omega
theorem bm {l:List Sp}{s:Sp}:cW l s=true↔ao l=true/\0<=s.1/\s.1<s.2/\s.2<=1099511627776:=by
 unfold cW;rw[Ly,jH]
theorem uh {e:Int}{s:Sp}{l:List Sp}(hl:aJ e l=true)(hs:0<=s.1/\e<s.1/\s.1<s.2/\s.2<=1099511627776) :
  aJ e (jF s l)=true/\∀i,ap i (jF s l)↔(s.1<=i/\i<s.2)\/ap i l:=by
 induction l generalizing e s with
 | nil =>
  refine⟨aB.2 ⟨hs,Z⟩,fun i=> ?_⟩;show ap i [s]↔_;rw[mem_cons]
 | cons x l d =>
  rw[aB]at hl;show aJ e (if x.2<s.1 then x::jF s l else if s.2<x.1 then s::x::l else jF (min s.1 x.1,max s.2 x.2) l)=true/\∀i,ap i (if x.2<s.1 then x::jF s l else if s.2<x.1 then s::x::l else jF (min s.1 x.1,max s.2 x.2) l)↔_;split
  ·rename_i h1;obtain⟨a,b⟩:=d hl.2 (s:=s) ⟨hs.1,h1,hs.2.2⟩;refine⟨aB.2 ⟨hl.1,a⟩,fun i=> ?_⟩;rw[mem_cons,b,mem_cons]
   constructor
   ·rintro (h | h | h) <;> simp[h]
   rintro (h | h | h) <;> simp[h]
  split
  ·refine⟨aB.2 ⟨hs,aB.2 ⟨⟨hl.1.1,IR,hl.1.2.2⟩,hl.2⟩⟩,fun i=> ?_⟩;rw[mem_cons]
  rename_i h1 h2;have c:aJ e l=true:=eM hl.2 O;obtain⟨a,b⟩:=d c (s:=(min s.1 x.1,max s.2 x.2)) II;refine⟨a,fun i=> ?_⟩;rw[b,mem_cons];dsimp only
  constructor
  ·rintro (h | h)
   ·by_cases g:s.1<=i/\i<s.2
    ·exact .inl g
    exact .inr (.inl O)
   exact .inr (.inr h)
  rintro (h | h | h)
  ·exact .inl O
  ·exact .inl O
  exact .inr h
theorem ia {l:List Sp}{s:Sp}(h:cW l s=true):ao (fN l s)=true/\∀i,ap i (fN l s)↔(s.1<=i/\i<s.2)\/ap i l:=by
 unfold fN;rw[L7 h];obtain⟨a,b⟩:=bm.1 h;exact uh a O
theorem mB {e t a:Int}{l:List Sp}(hl:aJ e l=true)(ha:0<=a)(o:t<=1099511627776)(b:Int)(f:b<a) :
  aJ b (bO t a l)=true/\∀i,ap i (bO t a l)↔(a<=i/\i<t)/\¬ap i l:=by
 induction l generalizing e a b with
 | nil =>
  show aJ b (one a t)=true/\∀i,ap i (one a t)↔_;refine⟨?_,fun i=>by rw[lr];simp[a8]⟩;unfold one;split
  ·exact aB.2 ⟨II,Z⟩
  rfl
 | cons x l n =>
  rw[aB]at hl;show aJ b (if x.2<=a then bO t a l else if t<=x.1 then one a t else one a x.1++bO t x.2 l)=true/\∀i,ap i (if x.2<=a then bO t a l else if t<=x.1 then one a t else one a x.1++bO t x.2 l)↔_;split
  ·rename_i h1;obtain⟨c,d⟩:=n hl.2 ha b f;refine⟨c,fun i=> ?_⟩;rw[d,mem_cons]
   constructor
   ·rintro⟨h,g⟩;exact⟨h,by rintro (k | k);omega;exact g k⟩
   rintro⟨h,g⟩;exact⟨h,fun k=>g (.inr k)⟩
  split
  ·rename_i h1 h2;refine⟨?_,fun i=> ?_⟩
   ·unfold one;split
    ·exact aB.2 ⟨II,Z⟩
    rfl
   rw[lr,mem_cons]
   constructor
   ·intro h;refine⟨h,?_⟩;rintro (k | k)
    ·omega
    have:=jG hl.2 k;omega
   exact fun h=>h.1
  rename_i h1 h2;have j:=fun b f=>n hl.2 (a:=x.2) O b f;refine⟨?_,fun i=> ?_⟩
  ·unfold one;split
   ·rw[List.singleton_append];refine aB.2 ⟨II,(j x.1 O).1⟩
   rw[LD];exact(j b O).1
  rw[mem_append,lr,(j (x.2-1) O).2,mem_cons]
  constructor
  ·rintro (h | ⟨h,g⟩)
   ·refine⟨O,?_⟩;rintro (k | k)
    ·omega
    have:=jG hl.2 k;omega
   refine⟨O,?_⟩;rintro (k | k)
   ·omega
   exact g k
  rintro⟨h,g⟩;by_cases k:i<x.1
  ·exact .inl ⟨h.1,k⟩
  refine .inr ⟨⟨?_,h.2⟩,fun k=>g (.inr k)⟩;by_cases m:x.2<=i
  ·exact m
  exact(g (.inl O)).elim
theorem cj {l:List Sp}{s:Sp}(h:cW l s=true):ao (bt l s)=true/\∀i,ap i (bt l s)↔(s.1<=i/\i<s.2)/\¬ap i l:=by
 unfold bt;rw[L7 h];obtain⟨a,b⟩:=bm.1 h;exact mB a b.1 b.2.2 (-1) O
theorem aN {e:Int}{l:List Sp}(h:aJ e l=true):0<=aD l/\(e<1099511627776->aD l<=1099511627776-e)/\aD l<=1099511627776:=by
 induction l generalizing e with
 | nil=>exact⟨L9 _,fun _=>by show(0:Int)<=_;omega,by show(0:Int)<=_;omega⟩
 | cons x l a =>
  rw[aB]at h;have:=a h.2;show 0<=x.2-x.1+aD l/\(_->x.2-x.1+aD l<=_)/\x.2-x.1+aD l<=_
  cases l with
  | nil=>simp only[aD];omega
  | cons y l=>have h2:=h.2;rw[aB]at h2;omega
theorem bf {e:Int}{L:List Sp}(h:aJ e L=true):L.length<=1099511627776:=by
 have a:∀(L:List Sp) (e:Int),aJ e L=true->(L.length:Int)<=aD L:=by
  intro L
  induction L with
  | nil=>intro _ _;exact L9 _
  | cons x l c =>
   intro e b;rw[aB]at b;have:=c _ b.2;show((l.length+1:Nat):Int)<=x.2-x.1+aD l;omega
 have:=a L e h;have:=(aN h).2.2;omega
structure Sg where
 fp:Int
 tp:Int
 sq:Int
 ak:Int
 syn:Bool
 fin:Bool
 qa:Bool
 has:Bool
 win:Int
 gi:Int
 iu:Bool
 bl:List Sp
 s:List UInt8
structure Sg.Ok (g:Sg):Prop where
 fp:1<=g.fp/\g.fp<=65535
 tp:1<=g.tp/\g.tp<=65535
 sq:0<=g.sq/\g.sq<=4294967295
 ak:0<=g.ak/\g.ak<=4294967295
 has:g.has=false->g.ak=0
 win:0<=g.win/\g.win<=65535
 fl:¬(g.syn=true/\g.fin=true)/\¬(g.syn=true/\g.qa=true)/\¬(g.fin=true/\g.qa=true)
 gi:g.syn=false->g.gi=0/\g.iu=false
 DW:g.syn=true->g.gi=0\/(28<=g.gi/\g.gi<=1024)
 EL:g.bl.length<=3
 Fr:0<g.bl.length->g.has=true
 blk:∀x∈g.bl,(0<=x.1/\x.1<=4294967295)/\(0<=x.2/\x.2<=4294967295)/\x.1≠x.2
 sS:g.syn=true\/g.qa=true->g.s=[]
 Dj:(g.s.length:Int)<=1024-8*g.bl.length
theorem cv {e:Int}{l:List Sp}(h:aJ e l=true){i:Int}(hi:ap i l):e<i:=(jG h hi).1
theorem fZ {d e:Int}{A B:List Sp}(hA:aJ d A=true)(c:aJ e B=true)(h:∀i,ap i A↔ap i B):A=B:=by
 induction A generalizing d e B with
 | nil =>
  cases B with
  | nil=>rfl
  | cons y t =>
   rw[aB]at c;exact(a8 ((h y.1).2 (mem_cons.2 (.inl ⟨L9 _,c.1.2.2.1⟩)))).elim
 | cons x s j =>
  cases B with
  | nil =>
   rw[aB]at hA;exact(a8 ((h x.1).1 (mem_cons.2 (.inl ⟨L9 _,hA.1.2.2.1⟩)))).elim
  | cons y t =>
   rw[aB]at hA c;have f:∀i,ap i s->x.2<i:=fun i hi=>cv hA.2 hi;have g:∀i,ap i t->y.2<i:=fun i hi=>cv c.2 hi;have k:∀i,(x.1<=i/\i<x.2)\/ap i s↔(y.1<=i/\i<y.2)\/ap i t:=fun i=>by rw[<-mem_cons,<-mem_cons];exact h i
   have d:x.1=y.1:=by
    rcases(k x.1).1 (.inl O)with a | a
    ·rcases(k y.1).2 (.inl O)with b | b
     ·omega
     have:=f _ b;omega
    have:=g _ a
    rcases(k y.1).2 (.inl O)with b | b
    ·omega
    have:=f _ b;omega
   have e:x.2=y.2:=by
    rcases(show x.2<y.2\/y.2<x.2\/x.2=y.2 by omega)with a | a | a
    ·rcases(k x.2).2 (.inl O)with b | b
     ·omega
     have:=f _ b;omega
    ·rcases(k y.2).1 (.inl O)with b | b
     ·omega
     have:=g _ b;omega
    exact a
   obtain rfl:x=y:=Prod.ext d e;rw[j hA.2 c.2 (fun i=> ?_)]
   constructor
   ·intro hi;have:=f i hi
    rcases(k i).1 (.inr hi)with b | b
    ·omega
    exact b
   intro hi;have:=g i hi
   rcases(k i).2 (.inr hi)with b | b
   ·omega
   exact b
theorem rx {e:Int}{A B:List Sp}{m:Int}(hA:aJ e A=true)(hm:∀i,ap i A->i<m)(he:e<m)(a:aJ m B=true):aJ e (A++B)=true:=by
 induction A generalizing e with
 | nil=>exact eM a O
 | cons x l b =>
  rw[aB]at hA;rw[LQ,aB];have c:=hm (x.2-1) (mem_cons.2 (.inl O));refine⟨hA.1,?_⟩
  rcases(show x.2<m\/x.2=m by omega)with h | h
  ·exact b hA.2 (fun i hi=>hm i (mem_cons.2 (.inr hi))) h
  cases l with
  | nil=>rw[h];exact a
  | cons y l =>
   have h2:=hA.2;rw[aB]at h2;have:=hm y.1 (mem_cons.2 (.inr (mem_cons.2 (.inl O))));omega
def ib (x:Sp):Prop:=0<=x.1/\x.1<x.2/\x.2<=1099511627776
theorem bX {e:Int}{L:List Sp}(h:aJ e L=true):∀x∈L,ib x:=by
 induction L generalizing e with
 | nil=>intro x a;cases a
 | cons y l b =>
  rw[aB]at h;intro x a
  rcases Mi.1 a with rfl | a
  ·exact⟨h.1.1,h.1.2.2.1,h.1.2.2.2⟩
  exact b h.2 x a
def AI (L:List Sp):List Sp:=L.foldl fN []
theorem ui {L:List Sp}(h:∀x∈L,ib x):ao (AI L)=true/\∀i,ap i (AI L)↔ap i L:=by
 have c:∀(L A:List Sp),(∀x∈L,ib x)->ao A=true->ao (L.foldl fN A)=true/\∀i,ap i (L.foldl fN A)↔ap i A\/ap i L:=by
  intro L
  induction L with
  | nil=>intro A _ hA;exact⟨hA,fun i=>by simp[a8]⟩
  | cons x l d =>
   intro A h hA;have e:=h x M4;have f:cW A x=true:=bm.2 ⟨hA,e⟩;obtain⟨g,j⟩:=ia f;obtain⟨k,m⟩:=d (fN A x) (fun y hy=>h y (Mg _ hy)) g;refine⟨k,fun i=> ?_⟩;show ap i (l.foldl fN (fN A x))↔_;rw[m,j,mem_cons]
   constructor
   ·rintro ((h | h) | h)
    ·exact .inr (.inl h)
    ·exact .inl h
    exact .inr (.inr h)
   rintro (h | h | h)
   ·exact .inl (.inr h)
   ·exact .inl (.inl h)
   exact .inr h
 obtain⟨a,b⟩:=c L [] h Z;exact⟨a,fun i=>by unfold AI;rw[b];simp[a8]⟩
def dJ (low:Int)(L:List Sp):List Sp:=bD (L.map fun x=>(max x.1 low,x.2))
theorem jc (low:Int)(A B:List Sp):dJ low (A++B)=dJ low A++dJ low B:=by unfold dJ bD;rw[LN,Mq]
theorem nh (low:Int)(x:Sp):dJ low [x]=one (max x.1 low) x.2:=by
 unfold dJ bD one;by_cases h:max x.1 low<x.2
 ·simp[h]
 simp[h]
theorem nj {low i:Int}{L:List Sp}:ap i (dJ low L)↔low<=i/\ap i L:=by
 induction L with
 | nil =>
     constructor
     ·intro h;exact(a8 h).elim
     intro h;exact(a8 h.2).elim
 | cons x l a =>
  rw[show x::l=[x]++l from Z,jc,mem_append,mem_append,a,nh,lr,mem_cons]
  constructor
  ·rintro (h | h)
   ·exact⟨O,.inl (.inl ⟨O,h.2⟩)⟩
   exact⟨h.1,.inr h.2⟩
  rintro⟨h,(k | k) | k⟩
  ·exact .inl ⟨O,k.2⟩
  ·exact(a8 k).elim
  exact .inr ⟨h,k⟩
theorem qL {low:Int}{L:List Sp}(h0:0<=low)(h:∀x∈L,ib x):∀x∈dJ low L,ib x:=by
 intro x a;unfold dJ bD at a;obtain⟨h1,h2⟩:=LZ.1 a;obtain⟨y,hy,rfl⟩:=Md.1 h1;have:=h y hy;unfold ib at this|-;dsimp only at h2|-;rw[Lh]at h2;omega
def bN (low:Int)(L:List Sp):List Sp:=AI (dJ low L)
theorem cx {low:Int}{L:List Sp}(h0:0<=low)(h:∀x∈L,ib x):ao (bN low L)=true/\∀i,ap i (bN low L)↔low<=i/\ap i L:=by
 obtain⟨a,b⟩:=ui (qL h0 h);exact⟨a,fun i=>by unfold bN;rw[b,nj]⟩
def iO (out:List Sp)(x:Sp):List Sp :=
 match out.getLast? with
 | none=>[x]
 | some l=>if x.1<=l.2 then out.dropLast++[(l.1,max l.2 x.2)]else out++[x]
structure EA (done:List Sp)(out:List Sp):Prop where
 canon:ao out=true
 mem:∀i,ap i out↔ap i done
 last:∀l,out.getLast? =some l->∃y∈done,l.1<=y.1
theorem iR {e:Int}{A:List Sp}{l:Sp}:aJ e (A++[l])=true↔aJ e A=true/\ib l/\e<l.1/\∀x∈A,x.2<l.1:=by
 induction A generalizing e with
 | nil =>
  rw[LD,aB];unfold ib
  constructor
  ·rintro⟨h,-⟩;exact⟨Z,O,O,fun x a=>by cases a⟩
  rintro⟨-,h,h2,-⟩;exact⟨O,Z⟩
 | cons y s f =>
  rw[LQ,aB,aB,f]
  constructor
  ·rintro⟨h1,h2,c,d,b⟩;refine⟨⟨h1,h2⟩,c,O,fun x a=> ?_⟩
   rcases Mi.1 a with rfl | a
   ·exact d
   exact b x a
  rintro⟨⟨h1,h2⟩,c,d,b⟩;exact⟨h1,h2,c,b y M4,fun x a=>b x (Mg _ a)⟩
theorem gC {i:Int}{A:List Sp}{l:Sp}:ap i (A++[l])↔ap i A\/(l.1<=i/\i<l.2):=by
 rw[mem_append,mem_cons];simp[a8]
theorem fc (out:List Sp):out=[]\/∃A l,out=A++[l]:=by
 rcases List.eq_nil_or_concat out with h | ⟨A,l,h⟩
 ·exact .inl h
 exact .inr ⟨A,l,by rw[h,List.concat_eq_append]⟩
theorem EA.step {done out:List Sp}(h:EA done out){x:Sp}(hx:ib x)(hs:∀y∈done,y.1<=x.1):EA (done++[x]) (iO out x):=by
 rcases fc out with rfl | ⟨A,l,rfl⟩
 ·have g:∀i,¬ap i done:=fun i hi=>a8 ((h.mem i).2 hi);show EA _ [x];refine⟨jH.2 hx,fun i=> ?_,fun l d=> ?_⟩
  ·rw[gC,mem_cons]
   simp[a8,g i]
  simp at d;subst d;exact⟨x,FE,L9 _⟩
 have e:(A++[l]).getLast? =some l:=FE
 unfold iO;rw[e];have j:=iR.1 (show aJ (-1) (A++[l])=true from h.canon);obtain⟨y,hy,m⟩:=h.last l e;have n:l.1<=x.1:=by have:=hs y hy;omega
 unfold ib at hx;obtain⟨o,p,q,f⟩:=j;unfold ib at p;show EA (done++[x]) (if x.1<=l.2 then(A++[l]).dropLast++[(l.1,max l.2 x.2)]else A++[l]++[x]);split
 ·rename_i c;rw[NR];refine⟨iR.2 ⟨o,by unfold ib;dsimp only;omega,q,f⟩,fun i=> ?_,fun r b=> ?_⟩
  ·rw[gC,gC,<-h.mem i,gC];dsimp only
   constructor
   ·rintro (a | a)
    ·exact .inl (.inl a)
    by_cases k:i<l.2
    ·exact .inl (.inr ⟨a.1,k⟩)
    exact .inr O
   rintro ((a | a) | a)
   ·exact .inl a
   ·exact .inr O
   exact .inr O
  simp at b;subst b;exact⟨y,LO _ hy,m⟩
 rename_i c;refine⟨iR.2 ⟨h.canon,by unfold ib;omega,O,fun z hz=> ?_⟩,fun i=> ?_,fun r b=> ?_⟩
 ·rcases LE.1 hz with hz | hz
  ·have:=f z hz;omega
  rw[Lu.1 hz];omega
 ·rw[gC,h.mem i,gC]
 simp at b;subst b;exact⟨x,FE,L9 _⟩
theorem EA.start:EA [] []:=⟨Z,fun i=>NJ,fun l a=>by simp at a⟩
def dx (a b:List Sp):List Sp:=a.flatMap fun x=>bO x.2 x.1 b
theorem uj (a b:List Sp)(x:Sp):dx (a++[x]) b=dx a b++bO x.2 x.1 b:=by unfold dx;rw[MA];simp
theorem gD {e d:Int}{a b:List Sp}(ha:aJ e a=true)(f:aJ d b=true):aJ e (dx a b)=true/\∀i,ap i (dx a b)↔ap i a/\¬ap i b:=by
 induction a generalizing e with
 | nil=>exact⟨Z,fun i=>by unfold dx;simp[a8]⟩
 | cons x l g =>
  rw[aB]at ha;obtain⟨j,m⟩:=g ha.2;obtain⟨g1,c⟩:=mB (t:=x.2) (a:=x.1) f ha.1.1 ha.1.2.2.2 e ha.1.2.1;show aJ e (bO x.2 x.1 b++dx l b)=true/\∀i,ap i (bO x.2 x.1 b++dx l b)↔_;refine⟨rx g1 (fun i hi=>((c i).1 hi).1.2) O j,fun i=> ?_⟩;rw[mem_append,c,m,mem_cons]
  constructor
  ·rintro (⟨h,k⟩ | ⟨h,k⟩)
   ·exact⟨.inl h,k⟩
   exact⟨.inr h,k⟩
  rintro⟨h | h,k⟩
  ·exact .inl ⟨h,k⟩
  exact .inr ⟨h,k⟩
def iP (at':Int)(l:List Sp):List Sp:=l.dropWhile fun x=>decide (x.2<=at')
theorem cB (at':Int)(x:Sp)(l:List Sp):iP at' (x::l)=if x.2<=at' then iP at' l else x::l:=by
 unfold iP;rw[List.dropWhile_cons];by_cases h:x.2<=at' <;> simp[h]
theorem AJ {a b:Int}(h:a<=b)(l:List Sp):iP b (iP a l)=iP b l:=by
 induction l with
 | nil=>rfl
 | cons x l c =>
  rw[cB a];split
  ·rw[c,cB b,L7 O]
  rfl
theorem qM {t a:Int}(l:List Sp):bO t a (iP a l)=bO t a l:=by
 induction l with
 | nil=>rfl
 | cons x l b =>
  rw[cB];split
  ·rename_i h;rw[b];show _=if x.2<=a then bO t a l else _;rw[L7 h]
  rfl
structure Sc where
 fM:Int
 next:Int
 mark:Int
 sk:List Sp
 ag:List Sp
def AK:Sc:=⟨0,0,0,[],[]⟩
structure Sc.Ok (s:Sc):Prop where
 u0:0<=s.fM
 un:s.fM<=s.next
 n40:s.next<=1099511627776
 m0:0<=s.mark
 mn:s.mark<=s.next
 DX:ao s.sk=true
 Fs:ao s.ag=true
 FY:∀i,ap i s.sk->s.fM<=i/\i<s.next
 mag:∀i,ap i s.ag->s.fM<=i/\i<s.next/\¬ap i s.sk
theorem Bc:AK.Ok:=⟨D,D,D,D,D,Z,Z,fun _ h=>(a8 h).elim,fun _ h=>(a8 h).elim⟩
def Sc.BV (s:Sc)(to:Int):Bool:=decide (s.next<=to/\to<=1099511627776)
def Sc.sent (s:Sc)(to:Int):Sc:=if s.BV to=true then { s with next:=to }else s
def Sc.DQ (s:Sc)(to:Int):Int:=if s.BV to=true then 0 else 140
theorem Sc.Ok.sent {s:Sc}(h:s.Ok)(to:Int):(s.sent to).Ok:=by
 unfold Sc.sent;split
 ·rename_i a;unfold Sc.BV at a;rw[Lh]at a;exact⟨h.u0,Lz h.un a.1,a.2,h.m0,Lz h.mn a.1,h.DX,h.Fs,fun i hi=>by have:=h.FY i hi;dsimp only;omega,fun i hi=>by have:=h.mag i hi;exact⟨this.1,II,this.2.2⟩⟩
 exact h
def Sc.Ek (s:Sc)(x:Sp):Bool:=decide (0<=x.1/\x.1<x.2/\x.2<=s.next)
def Sc.Dw (s:Sc)(fM:Int)(l:List Sp):Bool:=decide (0<=fM/\fM<=s.next)&&l.all s.Ek
def Sc.qE (s:Sc)(fM:Int)(l:List Sp):Sc :=
 { s with fM:=max s.fM fM,sk:=bN (max s.fM fM) (s.sk++l),ag:=dx (bN (max s.fM fM) s.ag) (bN (max s.fM fM) (s.sk++l)) }
def Sc.go (s:Sc)(fM:Int)(l:List Sp):Sc:=if s.Dw fM l=true then s.qE fM l else s
def Sc.A2 (s:Sc)(fM:Int)(l:List Sp):Int:=if s.Dw fM l=true then max s.fM fM+aD (s.qE fM l).sk-(s.fM+aD s.sk)else 0
def Sc.wE (s:Sc)(fM:Int)(l:List Sp):Int:=if s.Dw fM l=true then 0 else 140
theorem Sc.zy {s:Sc}{x:Sp}:s.Ek x=true↔0<=x.1/\x.1<x.2/\x.2<=s.next:=by unfold Sc.Ek;rw[Lh]
theorem Sc.D5 {s:Sc}{fM:Int}{l:List Sp}:s.Dw fM l=true↔(0<=fM/\fM<=s.next)/\∀x∈l,s.Ek x=true:=by
 unfold Sc.Dw;rw[Ly,Lh,List.all_eq_true]
theorem Sc.Ok.I3 {s:Sc}(h:s.Ok){l:List Sp}(hl:∀x∈l,s.Ek x=true):∀x∈s.sk++l,ib x:=by
 intro x a
 rcases LE.1 a with a | a
 ·exact bX h.DX x a
 have:=Sc.zy.1 (hl x a);have:=h.n40;unfold ib;omega
theorem Sc.Ok.E3 {s:Sc}(h:s.Ok){fM:Int}{l:List Sp}(a:s.Dw fM l=true):ao (s.qE fM l).sk=true/\∀i,ap i (s.qE fM l).sk↔max s.fM fM<=i/\(ap i s.sk\/ap i l):=by
 obtain⟨h1,h2⟩:=Sc.D5.1 a;have d:=h.u0;obtain⟨b,c⟩:=cx (low:=max s.fM fM) O (h.I3 h2);exact⟨b,fun i=>by show ap i (bN _ _)↔_;rw[c,mem_append]⟩
theorem Sc.Ok.F0 {s:Sc}(h:s.Ok){fM:Int}{l:List Sp}(a:s.Dw fM l=true):ao (s.qE fM l).ag=true/\∀i,ap i (s.qE fM l).ag↔(max s.fM fM<=i/\ap i s.ag)/\¬ap i (s.qE fM l).sk:=by
 have d:=h.u0;obtain⟨b,c⟩:=cx (low:=max s.fM fM) (L:=s.ag) O (bX h.Fs);obtain⟨d1,d2⟩:=gD b (h.E3 a).1;exact⟨d1,fun i=>by refine Iff.trans (d2 i) ?_;rw[c]⟩
theorem Sc.Ok.qE {s:Sc}(h:s.Ok){fM:Int}{l:List Sp}(d:s.Dw fM l=true):(s.qE fM l).Ok:=by
 obtain⟨h1,h2⟩:=Sc.D5.1 d;obtain⟨e,f⟩:=h.E3 d;obtain⟨d1,d2⟩:=h.F0 d;have j:=h.u0;have k:=h.un;refine⟨by show 0<=max s.fM fM;omega,by show max s.fM fM<=s.next;omega,h.n40,h.m0,h.mn,e,d1,fun i hi=> ?_,fun i hi=> ?_⟩
 ·obtain⟨a,b⟩:=(f i).1 hi;refine⟨a,?_⟩
  rcases b with b | b
  ·exact(h.FY i b).2
  obtain⟨x,g,m⟩:=b;have:=Sc.zy.1 (h2 x g);show i<s.next;omega
 obtain⟨⟨a,b⟩,c⟩:=(d2 i).1 hi;exact⟨a,(h.mag i b).2.1,c⟩
theorem Sc.Ok.go {s:Sc}(h:s.Ok)(fM:Int)(l:List Sp):(s.go fM l).Ok:=by
 unfold Sc.go;split
 ·rename_i a;exact h.qE a
 exact h
def Sc.timeout (s:Sc):Sc:={ s with sk:=[],ag:=[],mark:=s.next }
theorem Sc.Ok.timeout {s:Sc}(h:s.Ok):s.timeout.Ok :=
 ⟨h.u0,h.un,h.n40,by have:=h.u0;have:=h.un;show 0<=s.next;omega,L9 _,Z,Z,fun _ h=>(a8 h).elim,fun _ h=>(a8 h).elim⟩
def Sc.mm (s:Sc)(m:Int)(g:Sp):Sp:=if aD (iP g.1 s.sk)/3<m/\(iP g.1 s.sk).length<3 then(g.1,max g.1 (min g.2 s.mark))else g
def Sc.gaps (s:Sc):List Sp:=bt s.sk (s.fM,s.next)
def Sc.lost (s:Sc)(m:Int):List Sp:=if m<1 then []else dx (bD (s.gaps.map (s.mm m))) s.ag
def iw (s:Sc)(m:Int):List Sp->Int
 | []=>0
 | g::l=>(g.2-g.1-((s.mm m g).2-(s.mm m g).1))+iw s m l
def Sc.pipe (s:Sc)(m:Int):Int:=if m<1 then 0 else aD s.ag+iw s m s.gaps
def Sc.BR (s:Sc)(x:Sp):Sc:={ s with ag:=bN s.fM (s.ag++dx (bN s.fM [x]) s.sk) }
def Sc.ret (s:Sc)(x:Sp):Sc:=if s.Ek x=true then s.BR x else s
def Sc.DY (s:Sc)(x:Sp):Int:=if s.Ek x=true then 0 else 140
theorem Sc.Ok.E4 {s:Sc}(h:s.Ok){x:Sp}(hx:s.Ek x=true):(ao (bN s.fM [x])=true/\∀y∈s.ag++dx (bN s.fM [x]) s.sk,ib y)/\ao (s.BR x).ag=true/\∀i,ap i (s.BR x).ag↔ap i s.ag\/(s.fM<=i/\(x.1<=i/\i<x.2)/\¬ap i s.sk):=by
 have h1:=Sc.zy.1 hx;have m:=h.n40;have g:∀y∈[x],ib y:=fun y hy=>by rw[Lu.1 hy];unfold ib;omega
 obtain⟨f,j⟩:=cx (low:=s.fM) h.u0 g;obtain⟨d1,d2⟩:=gD f h.DX
 have e:∀y∈s.ag++dx (bN s.fM [x]) s.sk,ib y:=fun y hy=>by
  rcases LE.1 hy with hy | hy
  ·exact bX h.Fs y hy
  exact bX d1 y hy
 obtain⟨k,l⟩:=cx (low:=s.fM) h.u0 e;refine⟨⟨f,e⟩,k,fun i=> ?_⟩;show ap i (bN _ _)↔_;rw[l,mem_append,d2,j,mem_cons]
 constructor
 ·rintro⟨a,b | ⟨⟨b,c⟩,d⟩⟩
  ·exact .inl b
  rcases c with c | c
  ·exact .inr ⟨a,c,d⟩
  exact(a8 c).elim
 rintro (b | ⟨a,b,c⟩)
 ·exact⟨(h.mag i b).1,.inl b⟩
 exact⟨a,.inr ⟨⟨a,.inl b⟩,c⟩⟩
theorem Sc.Ok.BR {s:Sc}(h:s.Ok){x:Sp}(hx:s.Ek x=true):(s.BR x).Ok:=by
 obtain⟨-,d,e⟩:=h.E4 hx;have h1:=Sc.zy.1 hx;refine⟨h.u0,h.un,h.n40,h.m0,h.mn,h.DX,d,h.FY,fun i hi=> ?_⟩
 rcases(e i).1 hi with b | ⟨a,b,c⟩
 ·exact h.mag i b
 exact⟨a,by show i<s.next;omega,c⟩
theorem Sc.Ok.ret {s:Sc}(h:s.Ok)(x:Sp):(s.ret x).Ok:=by
 unfold Sc.ret;split
 ·rename_i a;exact h.BR a
 exact h
structure Bx where
 ring:List UInt8
 rd:Int
 nx:Int
 bl:List Sp
 nw:Int
def fg (rg:List UInt8)(o:Nat)(cs:List UInt8):List UInt8:=rg.take o++(cs++rg.drop (o+cs.length))
def dK (rg:List UInt8)(off:Nat)(s:List UInt8):List UInt8 :=
 fg (fg rg (off%rg.length) (s.take (min s.length (rg.length-off%rg.length)))) 0 (s.drop (min s.length (rg.length-off%rg.length)))
def fB (s:List UInt8)(off:Int)(g:Sp):List UInt8:=(s.drop (g.1-off).toNat).take (g.2-g.1).toNat
def bp (rg:List UInt8)(off:Int)(s:List UInt8)(gs:List Sp):List UInt8:=gs.foldl (fun r g=>dK r g.1.toNat (fB s off g)) rg
def fC (nx:Int):List Sp->Int
 | []=>nx
 | x::_=>if x.1=nx then x.2 else nx
def gZ (nx:Int):List Sp->List Sp
 | []=>[]
 | x::t=>if x.1=nx then t else x::t
def Bx.lo (b:Bx)(off:Int):Int:=max off b.nx
def Bx.hi (b:Bx)(off:Int)(k:Nat):Int:=min (off+k) (b.rd+b.ring.length)
def Bx.EB (b:Bx)(off:Int)(s:List UInt8)(p:Sp):Bx :=
 { ring:=bp b.ring off s (bt b.bl p),rd:=b.rd,nx:=fC b.nx (fN b.bl p),bl:=gZ b.nx (fN b.bl p),nw:=p.1 }
def Bx.put (b:Bx)(off:Int)(s:List UInt8):Bx :=
 if off<0\/1099511627776<off then b else if b.hi off s.length<=b.lo off then b else b.EB off s (b.lo off,b.hi off s.length)
def Bx.FC (b:Bx)(off:Int)(k:Nat):Int :=
 if off<0\/1099511627776<off then 0 else if b.hi off k<=b.lo off then 0 else dw (bt b.bl (b.lo off,b.hi off k))
def xM (off:Int):Int:=if off<0\/1099511627776<off then 130 else 0
def iM (rg:List UInt8)(rd k:Nat):List UInt8:=((rg.drop (rd%rg.length)).take k)++rg.take (k-(rg.length-rd%rg.length))
def Bx.take (b:Bx)(k:Int):Bx:=if min k (b.nx-b.rd)<=0 then b else { b with rd:=b.rd+min k (b.nx-b.rd) }
def Bx.nB (b:Bx)(k:Int):List UInt8:=if min k (b.nx-b.rd)<=0 then []else iM b.ring b.rd.toNat (min k (b.nx-b.rd)).toNat
def nZ (n:Nat):Bx:=⟨List.replicate n 0,0,0,[],0⟩
structure Bx.Ok (b:Bx):Prop where
 one:1<=b.ring.length
 most:b.ring.length<=8192
 Do:0<=b.rd
 xK:b.rd<=b.nx
 Ck:b.nx<=b.rd+b.ring.length
 small:b.rd+b.ring.length<=1099511627776
 canon:ao b.bl=true
 mem:∀i,ap i b.bl->b.nx<i/\i<b.rd+b.ring.length
theorem dS (rg:List UInt8)(o:Nat)(cs:List UInt8)(h:o+cs.length<=rg.length):(fg rg o cs).length=rg.length:=by
 unfold fg;rw[La,La,Le,Lq];omega
theorem eZ (rg:List UInt8)(off:Nat)(s:List UInt8)(h1:1<=rg.length)(h:s.length<=rg.length):(dK rg off s).length=rg.length:=by
 have b:off%rg.length<rg.length:=Nc _ O;unfold dK;have a:(fg rg (off%rg.length) (s.take (min s.length (rg.length-off%rg.length)))).length=rg.length:=dS _ _ _ IS;rw[dS _ _ _ (by rw[a,Lq];omega),a]
theorem lL (s:List UInt8)(off:Int)(g:Sp):(fB s off g).length<=(g.2-g.1).toNat:=by
 unfold fB;rw[Le];omega
def bY (nw:Int)(x:Sp):Bool:=decide (x.1<=nw/\nw<x.2)
def eW (nw:Int)(bl:List Sp):List Sp:=bl.filter (bY nw)++(bl.filter fun x=> !bY nw x).reverse
theorem iS (nw:Int)(bl:List Sp):(eW nw bl).Perm bl :=
 (List.Perm.append_left _ (List.reverse_perm _)).trans (List.filter_append_perm (bY nw) bl)
theorem fh (nw:Int)(bl:List Sp):(eW nw bl).length=bl.length:=(iS nw bl).length_eq
def Bx.rep (b:Bx):List Sp:=(eW b.nw b.bl).take 3
theorem Bx.G4 {b:Bx}{x:Sp}(h:x∈b.rep):x∈b.bl:=(iS b.nw b.bl).mem_iff.1 (Ni h)
theorem Bx.Cs (b:Bx):b.rep.length=min b.bl.length 3:=by
 unfold Bx.rep;rw[Le,fh,Nat.min_comm]
def Bx.has (b:Bx)(i:Int):Prop:=(0<=i/\i<b.nx)\/ap i b.bl
theorem Bx.Ok.FD {b:Bx}(h:b.Ok):¬b.has b.nx:=by
 rintro (⟨_,g⟩ | g)
 ·omega
 have:=(h.mem _ g).1;omega
theorem uk {nx:Int}{L:List Sp}(a:ao L=true)(b:∀i,ap i L->nx<=i)(h0:0<=nx) :
  ao (gZ nx L)=true/\(∀i,ap i (gZ nx L)->fC nx L<i)/\nx<=fC nx L/\(∀i,((0<=i/\i<fC nx L)\/ap i (gZ nx L))↔((0<=i/\i<nx)\/ap i L))/\(∀i,ap i (gZ nx L)->ap i L)/\(fC nx L=nx\/ap (fC nx L-1) L):=by
 cases L with
 | nil=>exact⟨Z,fun i h=>(a8 h).elim,L9 _,fun i=>NJ,fun _ h=>h,.inl Z⟩
 | cons x t =>
  have c:=a;unfold ao at a;rw[aB]at a;have j:nx<=x.1:=b x.1 (mem_cons.2 (.inl ⟨L9 _,a.1.2.2.1⟩));by_cases e:x.1=nx
  ·have d:fC nx (x::t)=x.2:=by show(if x.1=nx then x.2 else nx)=_;rw[L7 e]
   have f:gZ nx (x::t)=t:=by show(if x.1=nx then t else x::t)=_;rw[L7 e]
   rw[d,f];refine⟨eM a.2 O,fun i hi=>cv a.2 hi,O,fun i=> ?_,fun i hi=>mem_cons.2 (.inr hi),.inr (mem_cons.2 (.inl O))⟩;rw[mem_cons]
   constructor
   ·rintro (h | h)
    ·by_cases g:i<nx
     ·exact .inl ⟨h.1,g⟩
     exact .inr (.inl O)
    exact .inr (.inr h)
   rintro (h | h | h)
   ·exact .inl O
   ·exact .inl O
   exact .inr h
  have d:fC nx (x::t)=nx:=by show(if x.1=nx then x.2 else nx)=_;rw[L5 e]
  have f:gZ nx (x::t)=x::t:=by show(if x.1=nx then t else x::t)=_;rw[L5 e]
  rw[d,f];refine⟨c,fun i hi=> ?_,L9 _,fun i=>NJ,fun i h=>h,.inl Z⟩
  rcases mem_cons.1 hi with h | h
  ·omega
  have:=cv a.2 h;omega
theorem ry {rg:List UInt8}{off:Int}{s:List UInt8}{gs:List Sp}(h1:1<=rg.length)(h:∀g∈gs,(g.2-g.1).toNat<=rg.length):(bp rg off s gs).length=rg.length:=by
 induction gs generalizing rg with
 | nil=>rfl
 | cons g gs a =>
  have e:(dK rg g.1.toNat (fB s off g)).length=rg.length:=eZ _ _ _ h1 (L8 (lL _ _ _) (h g FE));show(bp (dK rg g.1.toNat (fB s off g)) off s gs).length=_;rw[a O (fun x b=>by rw[e];exact h x (by simp[b])),e]
theorem iz {e:Int}{L:List Sp}(h:aJ e L=true){g:Sp}(d:g∈L):g.1<g.2/\ap g.1 L/\ap (g.2-1) L:=by
 induction L generalizing e with
 | nil=>cases d
 | cons x t f =>
  rw[aB]at h
  rcases Mi.1 d with rfl | d
  ·exact⟨h.1.2.2.1,mem_cons.2 (.inl O),mem_cons.2 (.inl O)⟩
  obtain⟨a,b,c⟩:=f h.2 d;exact⟨a,mem_cons.2 (.inr b),mem_cons.2 (.inr c)⟩
theorem Bx.takes {b:Bx}(ok:b.Ok){off:Int}{k:Nat}(h0:0<=off)(a:b.lo off<b.hi off k):cW b.bl (b.lo off,b.hi off k)=true:=by
 refine bm.2 ⟨ok.canon,?_⟩;have:=ok.small;unfold Bx.lo Bx.hi at *;dsimp only;omega
theorem Bx.Dd {b:Bx}(ok:b.Ok){off:Int}(s:List UInt8)(h0:0<=off)(h1:off<=1099511627776) :
  (b.put off s).Ok/\(b.put off s).rd=b.rd/\(b.put off s).ring.length=b.ring.length/\b.nx<=(b.put off s).nx/\∀i,(b.put off s).has i↔b.has i\/(off<=i/\i<off+s.length/\i<b.rd+b.ring.length):=by
 have l:=ok.Do;have m:=ok.xK;unfold Bx.put;rw[L5 O];by_cases a:b.hi off s.length<=b.lo off
 ·rw[L7 a];refine⟨ok,Z,Z,L9 _,fun i=>⟨.inl,?_⟩⟩;rintro (h | h)
  ·exact h
  unfold Bx.lo Bx.hi at a;exact .inl O
 rw[L5 a];have j:=Bx.takes ok h0 (O:b.lo off<b.hi off s.length);obtain⟨n,d⟩:=ia j;obtain⟨o,f⟩:=cj j;dsimp only at d f;have p:b.lo off=max off b.nx:=Z;have q:b.hi off s.length=min (off+s.length) (b.rd+b.ring.length):=Z
 have c:∀i,ap i (fN b.bl (b.lo off,b.hi off s.length))->b.nx<=i/\i<b.rd+b.ring.length:=by
  intro i hi
  rcases(d i).1 hi with h | h
  ·omega
  have:=ok.mem i h;omega
 obtain⟨r,t,k,u,w,x⟩:=uk n (fun i hi=>(c i hi).1) O
 have hlen:(bp b.ring off s (bt b.bl (b.lo off,b.hi off s.length))).length=b.ring.length:=by
  refine ry ok.one (fun g y=> ?_);obtain⟨g1,z,A⟩:=iz o y;have:=(f _).1 z;have:=(f _).1 A;omega
 refine⟨?_,Z,hlen,k,fun i=> ?_⟩
 ·refine⟨by rw[show(b.EB off s (b.lo off,b.hi off s.length)).ring.length=_ from hlen];exact ok.one,by rw[show(b.EB off s (b.lo off,b.hi off s.length)).ring.length=_ from hlen];exact ok.most,l,Lz m k,?_,by rw[show(b.EB off s (b.lo off,b.hi off s.length)).ring.length=_ from hlen];exact ok.small,r,fun i hi=> ?_⟩
  ·rw[show(b.EB off s (b.lo off,b.hi off s.length)).ring.length=_ from hlen];show fC b.nx _<=b.rd+_
   rcases x with e | h
   ·rw[e];exact ok.Ck
   have:=(c _ h).2;omega
  rw[show(b.EB off s (b.lo off,b.hi off s.length)).ring.length=_ from hlen];exact⟨t i hi,(c _ (w i hi)).2⟩
 refine(u i).trans ?_;rw[d];unfold Bx.has
 constructor
 ·rintro (h | h | h)
  ·exact .inl (.inl h)
  ·exact .inr O
  exact .inl (.inr h)
 rintro ((h | h) | h)
 ·exact .inl h
 ·exact .inr (.inr h)
 by_cases g:i<b.nx
 ·exact .inl O
 exact .inr (.inl O)
theorem jd (rg:List UInt8)(o:Nat)(cs:List UInt8)(h:o+cs.length<=rg.length)(p:Nat):(fg rg o cs)[p]? =if p<o then rg[p]? else if p<o+cs.length then cs[p-o]? else rg[p]? :=by
 unfold fg;have a:(rg.take o).length=o:=IS
 by_cases h1:p<o
 ·rw[L7 h1,Mj O,M2 h1]
 rw[L5 h1,Mh O,a];by_cases h2:p<o+cs.length
 ·rw[L7 h2,Mj O]
 rw[L5 h2,Mh O,MW]
 congr 1
 omega
theorem oj {n off j:Nat}(a:j<n):(off+j)%n=if j<n-off%n then off%n+j else j-(n-off%n):=by
 have b:off%n<n:=Nc _ O;rw[Nat.add_mod,Nat.mod_eq_of_lt a];by_cases h:j<n-off%n
 ·rw[L7 h,Nat.mod_eq_of_lt O]
 rw[L5 h,Nat.mod_eq_sub_mod O,Nat.mod_eq_of_lt O];omega
theorem xN (rg:List UInt8)(off:Nat)(s:List UInt8)(h1:1<=rg.length)(hs:s.length<=rg.length){j:Nat}(b:j<s.length):(dK rg off s)[(off+j)%rg.length]? =s[j]? :=by
 have c:off%rg.length<rg.length:=Nc _ O;have a:(fg rg (off%rg.length) (s.take (min s.length (rg.length-off%rg.length)))).length=rg.length:=dS _ _ _ IS;rw[oj O];unfold dK;rw[jd _ _ _ (by rw[a,Lq];omega),jd _ _ _ IS,Lq,Le];by_cases h:j<rg.length-off%rg.length
 ·rw[L7 h,L5 O,L5 O,L5 O,L7 O,M2 O]
  congr 1
  omega
 rw[L5 h,L5 O,L7 O,MW]
 congr 1
 omega
theorem ul (rg:List UInt8)(off:Nat)(s:List UInt8)(h1:1<=rg.length)(hs:s.length<=rg.length){p:Nat}(f:p<rg.length)(a:∀j,j<s.length->(off+j)%rg.length≠p):(dK rg off s)[p]? =rg[p]? :=by
 have g:off%rg.length<rg.length:=Nc _ O;have d:(fg rg (off%rg.length) (s.take (min s.length (rg.length-off%rg.length)))).length=rg.length:=dS _ _ _ IS;have b:∀j,j<s.length->(if j<rg.length-off%rg.length then off%rg.length+j else j-(rg.length-off%rg.length))≠p:=fun j e=>by rw[<-oj O];exact a j e
 unfold dK;rw[jd _ _ _ (by rw[d,Lq];omega),jd _ _ _ IS,Lq,Le];by_cases h:p<s.length-min s.length (rg.length-off%rg.length)
 ·exfalso
  have:=b (rg.length-off%rg.length+p) O;rw[L5 O]at this;omega
 rw[L5 O,L5 O];by_cases c:p<off%rg.length
 ·rw[L7 c]
 rw[L5 c,L5];intro i;have:=b (p-off%rg.length) O;rw[L7 O]at this;omega
theorem AL {n r i j:Nat}(hi:r<=i/\i<r+n)(b:r<=j/\j<r+n)(h:i%n=j%n):i=j:=by
 rcases Nat.le_total i j with a | a
 ·have h1:n∣(j-i):=Nat.dvd_of_mod_eq_zero (Nat.sub_mod_eq_zero_of_mod_eq h.symm)
  rcases MV (j-i)with e | e
  ·omega
  have:=Nat.le_of_dvd e h1;omega
 have h1:n∣(i-j):=Nat.dvd_of_mod_eq_zero (Nat.sub_mod_eq_zero_of_mod_eq h)
 rcases MV (i-j)with e | e
 ·omega
 have:=Nat.le_of_dvd e h1;omega
theorem um {e:Int}{gs:List Sp}(m:aJ e gs=true){off r:Nat}{s:List UInt8}{n:Nat}(h1:1<=n)(d:∀i,ap i gs->(r:Int)<=i/\i<(r:Int)+n/\(off:Int)<=i/\i<(off:Int)+s.length)
  (rg:List UInt8)(c:rg.length=n){i:Nat}(hi:r<=i/\i<r+n) :
  (ap (i:Int) gs->(bp rg off s gs)[i%n]? =s[i-off]?)/\(¬ap (i:Int) gs->(bp rg off s gs)[i%n]? =rg[i%n]?):=by
 induction gs generalizing e rg with
 | nil=>exact⟨fun h=>(a8 h).elim,fun _=>rfl⟩
 | cons g gs w =>
  have o:=m;rw[aB]at m;obtain⟨g1,y,z⟩:=iz o (M4 (a:=g) (l:=gs));have E:=d _ y;have F:=d _ z
  have b:(fB s off g).length=(g.2-g.1).toNat:=by
   unfold fB;rw[Le,Lq];omega
  have p:(dK rg g.1.toNat (fB s off g)).length=n:=by rw[eZ _ _ _ O Jg];exact c
  obtain⟨A,u⟩:=w m.2 (fun x q=>d x (mem_cons.2 (.inr q))) (dK rg g.1.toNat (fB s off g)) p
  have hcut:∀j,j<(fB s off g).length->(fB s off g)[j]? =s[g.1.toNat-off+j]? :=by
   intro j t;unfold fB;rw[b]at t;rw[M2 t,MW]
   congr 1
   omega
  have B:∀(x:Nat),g.1<=(x:Int)/\(x:Int)<g.2->(dK rg g.1.toNat (fB s off g))[x%n]? =s[x-off]? :=by
   intro x q;have:=xN rg g.1.toNat (fB s off g) O Jg (j:=x-g.1.toNat) Jg;rw[show g.1.toNat+(x-g.1.toNat)=x by omega,c,hcut _ Jg]at this;rw[this]
   congr 1
   omega
  have C:¬(g.1<=(i:Int)/\(i:Int)<g.2)->(dK rg g.1.toNat (fB s off g))[i%n]? =rg[i%n]? :=by
   intro q;refine ul rg g.1.toNat (fB s off g) O Jg (by rw[c];exact Nc _ O) (fun j t=> ?_);rw[c,b]at *;intro f;have:=AL (r:=r) (n:=n) (i:=g.1.toNat+j) (j:=i) O hi f;omega
  show(_->(bp (dK rg g.1.toNat (fB s off g)) off s gs)[i%n]? =_)/\(_->(bp (dK rg g.1.toNat (fB s off g)) off s gs)[i%n]? =_);refine⟨fun h=> ?_,fun h=> ?_⟩
  ·by_cases f:ap (i:Int) gs
   ·exact A f
   rw[u f]
   rcases mem_cons.1 h with h | h
   ·exact B i h
   exact(f h).elim
  rw[u (fun k=>h (mem_cons.2 (.inr k)))];exact C (fun k=>h (mem_cons.2 (.inl k)))
theorem Bx.G5 {b:Bx}(ok:b.Ok){off:Nat}(s:List UInt8)(h1:off<=1099511627776){r:Nat}(hr:b.rd=r){i:Nat}(hi:r<=i/\i<r+b.ring.length) :
  (b.has i->(b.put off s).ring[i%b.ring.length]? =b.ring[i%b.ring.length]?)/\(¬b.has i->off<=i/\i<off+s.length->(b.put off s).ring[i%b.ring.length]? =s[i-off]?):=by
 have t:=ok.xK;unfold Bx.put;rw[L5 O];by_cases a:b.hi off s.length<=b.lo off
 ·rw[L7 a];refine⟨fun _=>rfl,fun e f=> ?_⟩
  exfalso
  apply e
  unfold Bx.lo Bx.hi at a;exact .inl O
 rw[L5 a];have j:=Bx.takes ok (off:=off) O (O:b.lo off<b.hi off s.length);obtain⟨l,d⟩:=cj j;dsimp only at d;have m:b.lo off=max (off:Int) b.nx:=Z;have o:b.hi off s.length=min ((off:Int)+s.length) (b.rd+b.ring.length):=Z;have c:=um l (off:=off) (r:=r) (s:=s) (n:=b.ring.length) ok.one (fun x p=>by have:=(d x).1 p;omega) b.ring Z hi;show(_->(bp b.ring off s (bt b.bl (b.lo off,b.hi off s.length)))[i%b.ring.length]? =_)/\(_->_->(bp b.ring off s (bt b.bl (b.lo off,b.hi off s.length)))[i%b.ring.length]? =_);refine⟨fun h=>c.2 (fun k=> ?_),fun h f=>c.1 ((d i).2 ⟨?_,fun k=>h (.inr k)⟩)⟩
 ·obtain⟨u,q⟩:=(d i).1 k
  rcases h with h | h
  ·omega
  exact q h
 have:¬((i:Int)<b.nx):=fun g=>h (.inl ⟨O,g⟩);omega
theorem uo (rg:List UInt8)(rd q:Nat)(h1:1<=rg.length)(c:q<=rg.length){j:Nat}(a:j<q):(iM rg rd q)[j]? =rg[(rd+j)%rg.length]? :=by
 have d:rd%rg.length<rg.length:=Nc _ O;rw[oj O];unfold iM;have b:((rg.drop (rd%rg.length)).take q).length=min q (rg.length-rd%rg.length):=by rw[Le,Lq]
 by_cases h:j<rg.length-rd%rg.length
 ·rw[L7 h,Mj O,M2 a,MW]
 rw[L5 h,Mh O,b,show min q (rg.length-rd%rg.length)=rg.length-rd%rg.length by omega,M2 O]
theorem kg (rg:List UInt8)(rd q:Nat)(h1:1<=rg.length)(a:q<=rg.length):(iM rg rd q).length=q:=by
 have b:rd%rg.length<rg.length:=Nc _ O;unfold iM;rw[La,Le,Lq,Le];omega
def Bx.Str (b:Bx)(S:List UInt8):Prop:=∀i:Nat,b.rd<=i->b.has i->b.ring[i%b.ring.length]? =S[i]?
theorem Bx.has_lt {b:Bx}(ok:b.Ok){i:Int}(h:b.has i):i<b.rd+b.ring.length:=by
 rcases h with h | h
 ·have:=ok.Ck;omega
 exact(ok.mem i h).2
theorem Bx.Str.put {b:Bx}{S:List UInt8}(h:b.Str S)(ok:b.Ok){off:Nat}(s:List UInt8)(h1:off<=1099511627776)(hs:∀i,off<=i->i<off+s.length->s[i-off]? =S[i]?):(b.put off s).Str S:=by
 obtain⟨p1,d,e,n,j⟩:=Bx.Dd ok s (off:=off) O O;obtain⟨r,k⟩:=LY ok.Do;intro i hi f;rw[d]at hi;have c:=Bx.has_lt p1 f;rw[d,e]at c;rw[e];obtain⟨l,m⟩:=Bx.G5 ok s h1 k (i:=i) O;by_cases a:b.has i
 ·rw[l a];exact h i hi a
 rcases(j i).1 f with g | g
 ·exact(a g).elim
 rw[m a O];exact hs i O O
theorem Bx.D6 (b:Bx)(k:Int):(b.take k).nx=b.nx/\(b.take k).bl=b.bl/\(b.take k).ring=b.ring/\∀i,(b.take k).has i↔b.has i:=by
 unfold Bx.take;split
 ·exact⟨Z,Z,Z,fun _=>NJ⟩
 exact⟨Z,Z,Z,fun _=>NJ⟩
theorem Bx.Str.take {b:Bx}{S:List UInt8}(h:b.Str S)(ok:b.Ok){r:Nat}(hr:b.rd=r)(k:Int) :
  ∃q:Nat,(q:Int)=max 0 (min k (b.nx-b.rd))/\(b.take k).rd=b.rd+q/\(b.take k).Str S/\(b.nB k).length=q/\∀j,j<q->(b.nB k)[j]? =S[r+j]? :=by
 have h1:=ok.xK;have h2:=ok.Ck;obtain⟨o,p,f,g⟩:=b.D6 k
 have l:b.rd<=(b.take k).rd->(b.take k).Str S:=by
  intro m i hi n;rw[f];exact h i O ((g i).1 n)
 by_cases hz:min k (b.nx-b.rd)<=0
 ·have a:b.take k=b:=by unfold Bx.take;rw[L7 hz]
  have c:b.nB k=[]:=by unfold Bx.nB;rw[L7 hz]
  refine⟨0,O,Jh,by rw[a];exact h,by rw[c];rfl,fun j d=>by omega⟩
 obtain⟨q,e⟩:=LY (show 0<=min k (b.nx-b.rd) by omega);have a:(b.take k).rd=b.rd+q:=by unfold Bx.take;rw[L5 hz,e];try rfl
 have c:b.nB k=iM b.ring r q:=by unfold Bx.nB;rw[L5 hz,e,hr];try rfl
 refine⟨q,O,a,l O,by rw[c];exact kg _ _ _ ok.one O,fun j d=> ?_⟩;rw[c,uo _ _ _ ok.one O d];exact h (r+j) O (.inl O)
theorem Bx.Ok.take {b:Bx}(ok:b.Ok)(k:Int)(c:(b.take k).rd+b.ring.length<=1099511627776):(b.take k).Ok:=by
 obtain⟨d,e,a,g⟩:=b.D6 k
 have f:b.rd<=(b.take k).rd/\(b.take k).rd<=b.nx:=by
  have:=ok.xK;unfold Bx.take;split
  ·exact⟨L9 _,this⟩
  dsimp only;omega
 refine⟨by rw[a];exact ok.one,by rw[a];exact ok.most,Lz ok.Do f.1,by rw[d];exact f.2,by rw[d,a];have:=ok.Ck;omega,by rw[a];exact c,by rw[e];exact ok.canon,fun i hi=> ?_⟩;rw[d,a];rw[e]at hi;have:=ok.mem i hi;omega
end Go.Proofs.YtcmncipikdpnbaaGreatDoor
