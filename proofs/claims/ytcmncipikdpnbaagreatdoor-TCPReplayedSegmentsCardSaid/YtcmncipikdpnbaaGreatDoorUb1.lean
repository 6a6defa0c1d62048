import Derived.Test.YtcmncipikdpnbaaGreatDoorUb0
import Derived.Lib.Hide
namespace Go.Proofs.YtcmncipikdpnbaaGreatDoor
theorem _root_.Go.RowKit.Hid.o {p:Prop}(h:Go.RowKit.Hid p):p:=h
abbrev Sp := Int × Int
def aJ:Int->List Sp->Bool
 | _,[]=>true
 | e,x::l=>decide (0<=x.1/\e<x.1/\x.1<x.2/\x.2<=1099511627776)&&aJ x.2 l
def aj (l:List Sp):Bool:=aJ (-1) l
def cW (l:List Sp)(s:Sp):Bool:=aj l&&aj [s]
def one (a b:Int):List Sp:=if a<b then [(a,b)]else []
def bC (a:List Sp):List Sp:=a.filter fun x=>decide (x.1<x.2)
def bO (t:Int):Int->List Sp->List Sp
 | a,[]=>one a t
 | a,x::l=>if x.2<=a then bO t a l else if t<=x.1 then one a t else one a x.1++bO t x.2 l
def bs (l:List Sp)(s:Sp):List Sp:=if cW l s=true then bO s.2 s.1 l else []
def jA:Sp->List Sp->List Sp
 | s,[]=>[s]
 | s,x::l=>if x.2<s.1 then x::jA s l else if s.2<x.1 then s::x::l else jA (min s.1 x.1,max s.2 x.2) l
def fJ (l:List Sp)(s:Sp):List Sp:=if cW l s=true then jA s l else []
def aD:List Sp->Int
 | []=>0
 | x::l=>x.2-x.1+aD l
def dq (l:List Sp):Int:=if aj l=true then aD l else 0
def ap (i:Int)(l:List Sp):Prop:=∃x∈l,x.1<=i/\i<x.2
theorem a8 {i:Int}:¬ap i []:=by rintro⟨x,h,_⟩;cases h
theorem mem_cons {i:Int}{x:Sp}{l:List Sp}:ap i (x::l)↔(x.1<=i/\i<x.2)\/ap i l:=by
 constructor
 ·rintro⟨y,h,g⟩
  rcases Mm.1 h with rfl | h
  ·exact .inl g
  exact .inr ⟨y,h,g⟩
 rintro (g | ⟨y,h,g⟩)
 ·exact⟨x,M7,g⟩
 exact⟨y,Mj _ h,g⟩
theorem mem_append {i:Int}{a b:List Sp}:ap i (a++b)↔ap i a\/ap i b:=by
 induction a with
 | nil=>simp[a8]
 | cons x l c=>rw[LT,mem_cons,c,mem_cons,or_assoc]
theorem lf {i a b:Int}:ap i (one a b)↔a<=i/\i<b:=by
 unfold one;split
 ·rw[mem_cons];simp[a8]
 constructor
 ·exact fun h=>(a8 h).elim
 omega
theorem aB {e:Int}{x:Sp}{l:List Sp}:aJ e (x::l)=true↔(0<=x.1/\e<x.1/\x.1<x.2/\x.2<=1099511627776)/\aJ x.2 l=true:=by
 show(decide _&&_)=true↔_;rw[LD,Lj]
theorem eJ {e a:Int}{l:List Sp}(h:aJ e l=true)(he:a<=e):aJ a l=true:=by
 cases l with
 | nil=>rfl
 | cons x l=>rw[aB]at h|-;exact⟨O,h.2⟩
theorem jB {e:Int}{l:List Sp}(h:aJ e l=true){i:Int}(hi:ap i l):e<i/\0<=i/\i<1099511627776:=by
 induction l generalizing e with
 | nil=>exact(a8 hi).elim
 | cons x l a =>
  rw[aB]at h
  rcases mem_cons.1 hi with g | g
  ·omega
  have:=a h.2 g;omega
theorem jC {s:Sp}:aj [s]=true↔0<=s.1/\s.1<s.2/\s.2<=1099511627776:=by
 unfold aj;rw[aB];show _/\true=true↔_;simp only[and_true];omega
theorem bm {l:List Sp}{s:Sp}:cW l s=true↔aj l=true/\0<=s.1/\s.1<s.2/\s.2<=1099511627776:=by
 unfold cW;rw[LD,jC]
theorem uI {e:Int}{s:Sp}{l:List Sp}(c:aJ e l=true)(hs:0<=s.1/\e<s.1/\s.1<s.2/\s.2<=1099511627776) :
  aJ e (jA s l)=true/\∀i,ap i (jA s l)↔(s.1<=i/\i<s.2)\/ap i l:=by
 induction l generalizing e s with
 | nil =>
  refine⟨aB.2 ⟨hs,Z⟩,fun i=> ?_⟩;show ap i [s]↔_;rw[mem_cons]
 | cons x l f =>
  rw[aB]at c;show aJ e (if x.2<s.1 then x::jA s l else if s.2<x.1 then s::x::l else jA (min s.1 x.1,max s.2 x.2) l)=true/\∀i,ap i (if x.2<s.1 then x::jA s l else if s.2<x.1 then s::x::l else jA (min s.1 x.1,max s.2 x.2) l)↔_;split
  ·rename_i h1;obtain⟨a,b⟩:=f c.2 (s:=s) ⟨hs.1,h1,hs.2.2⟩;refine⟨aB.2 ⟨c.1,a⟩,fun i=> ?_⟩;rw[mem_cons,b,mem_cons]
   constructor
   ·rintro (h | h | h) <;> simp[h]
   rintro (h | h | h) <;> simp[h]
  split
  ·refine⟨aB.2 ⟨hs,aB.2 ⟨⟨c.1.1,IW,c.1.2.2⟩,c.2⟩⟩,fun i=> ?_⟩;rw[mem_cons]
  rename_i h1 h2;have d:aJ e l=true:=eJ c.2 O;obtain⟨a,b⟩:=f d (s:=(min s.1 x.1,max s.2 x.2)) IN;refine⟨a,fun i=> ?_⟩;rw[b,mem_cons];dsimp only
  constructor
  ·rintro (h | h)
   ·by_cases g:s.1<=i/\i<s.2
    ·exact .inl g
    exact .inr (.inl O)
   exact .inr (.inr h)
  rintro (h | h | h)
  ·exact .inl O
  ·exact .inl O
  exact .inr h
theorem i6 {l:List Sp}{s:Sp}(h:cW l s=true):aj (fJ l s)=true/\∀i,ap i (fJ l s)↔(s.1<=i/\i<s.2)\/ap i l:=by
 unfold fJ;rw[L9 h];obtain⟨a,b⟩:=bm.1 h;exact uI a O
theorem lu {e t a:Int}{l:List Sp}(n:aJ e l=true)(ha:0<=a)(p:t<=1099511627776)(b:Int)(f:b<a) :
  aJ b (bO t a l)=true/\∀i,ap i (bO t a l)↔(a<=i/\i<t)/\¬ap i l:=by
 induction l generalizing e a b with
 | nil =>
  show aJ b (one a t)=true/\∀i,ap i (one a t)↔_;refine⟨?_,fun i=>by rw[lf];simp[a8]⟩;unfold one;split
  ·exact aB.2 ⟨IN,Z⟩
  rfl
 | cons x l o =>
  rw[aB]at n;show aJ b (if x.2<=a then bO t a l else if t<=x.1 then one a t else one a x.1++bO t x.2 l)=true/\∀i,ap i (if x.2<=a then bO t a l else if t<=x.1 then one a t else one a x.1++bO t x.2 l)↔_;split
  ·rename_i h1;obtain⟨c,d⟩:=o n.2 ha b f;refine⟨c,fun i=> ?_⟩;rw[d,mem_cons]
   constructor
   ·rintro⟨h,g⟩;exact⟨h,by rintro (k | k);omega;exact g k⟩
   rintro⟨h,g⟩;exact⟨h,fun k=>g (.inr k)⟩
  split
  ·rename_i h1 h2;refine⟨?_,fun i=> ?_⟩
   ·unfold one;split
    ·exact aB.2 ⟨IN,Z⟩
    rfl
   rw[lf,mem_cons]
   constructor
   ·intro h;refine⟨h,?_⟩;rintro (k | k)
    ·omega
    have:=jB n.2 k;omega
   exact fun h=>h.1
  rename_i h1 h2;have j:=fun b f=>o n.2 (a:=x.2) O b f;refine⟨?_,fun i=> ?_⟩
  ·unfold one;split
   ·rw[List.singleton_append];refine aB.2 ⟨IN,(j x.1 O).1⟩
   rw[LG];exact(j b O).1
  rw[mem_append,lf,(j (x.2-1) O).2,mem_cons]
  constructor
  ·rintro (h | ⟨h,g⟩)
   ·refine⟨O,?_⟩;rintro (k | k)
    ·omega
    have:=jB n.2 k;omega
   refine⟨O,?_⟩;rintro (k | k)
   ·omega
   exact g k
  rintro⟨h,g⟩;by_cases k:i<x.1
  ·exact .inl ⟨h.1,k⟩
  refine .inr ⟨⟨?_,h.2⟩,fun k=>g (.inr k)⟩;by_cases m:x.2<=i
  ·exact m
  exact(g (.inl O)).elim
theorem cj {l:List Sp}{s:Sp}(h:cW l s=true):aj (bs l s)=true/\∀i,ap i (bs l s)↔(s.1<=i/\i<s.2)/\¬ap i l:=by
 unfold bs;rw[L9 h];obtain⟨a,b⟩:=bm.1 h;exact lu a b.1 b.2.2 (-1) O
theorem aN {e:Int}{l:List Sp}(h:aJ e l=true):0<=aD l/\(e<1099511627776->aD l<=1099511627776-e)/\aD l<=1099511627776:=by
 induction l generalizing e with
 | nil=>exact⟨Lb _,fun _=>by show(0:Int)<=_;omega,by show(0:Int)<=_;omega⟩
 | cons x l a =>
  rw[aB]at h;have:=a h.2;show 0<=x.2-x.1+aD l/\(_->x.2-x.1+aD l<=_)/\x.2-x.1+aD l<=_
  cases l with
  | nil=>simp only[aD];omega
  | cons y l=>have h2:=h.2;rw[aB]at h2;omega
theorem bX {e:Int}{L:List Sp}(h:aJ e L=true):L.length<=1099511627776:=by
 have a:∀(L:List Sp) (e:Int),aJ e L=true->(L.length:Int)<=aD L:=by
  intro L
  induction L with
  | nil=>intro _ _;exact Lb _
  | cons x l c =>
   intro e b;rw[aB]at b;have:=c _ b.2;show((l.length+1:Nat):Int)<=x.2-x.1+aD l;omega
 have:=a L e h;have:=(aN h).2.2;omega
structure Sg where
 fp:Int
 tp:Int
 sq:Int
 ak:Int
 syn:Bool
 fin:Bool
 te:Bool
 has:Bool
 win:Int
 go:Int
 ke:Bool
 bl:List Sp
 s:List UInt8
structure Sg.Ok (g:Sg):Prop where
 fp:1<=g.fp/\g.fp<=65535
 tp:1<=g.tp/\g.tp<=65535
 sq:0<=g.sq/\g.sq<=4294967295
 ak:0<=g.ak/\g.ak<=4294967295
 has:g.has=false->g.ak=0
 win:0<=g.win/\g.win<=65535
 fl:¬(g.syn=true/\g.fin=true)/\¬(g.syn=true/\g.te=true)/\¬(g.fin=true/\g.te=true)
 go:g.syn=false->g.go=0/\g.ke=false
 Ef:g.syn=true->g.go=0\/(28<=g.go/\g.go<=1024)
 F0:g.bl.length<=3
 FI:0<g.bl.length->g.has=true
 blk:∀x∈g.bl,(0<=x.1/\x.1<=4294967295)/\(0<=x.2/\x.2<=4294967295)/\x.1≠x.2
 sS:g.syn=true\/g.te=true->g.s=[]
 DX:(g.s.length:Int)<=1024-8*g.bl.length
def Bc (b:Bool)(n:Nat):Nat:=if b=true then n else 0
def Sg.flag (g:Sg):Nat:=Bc g.syn 1+Bc g.fin 2+Bc g.te 4+Bc g.has 8+Bc g.ke 16
def Bd:List Sp->List UInt8
 | []=>[]
 | x::l=>be 4 x.1.toNat++be 4 x.2.toNat++Bd l
def Sg.head (g:Sg):List UInt8:=be 2 g.fp.toNat++be 2 g.tp.toNat++be 4 g.sq.toNat++be 4 g.ak.toNat++be 1 g.flag++be 1 g.bl.length++be 2 g.win.toNat++be 2 g.go.toNat
def Sg.wr (g:Sg)(sum:Nat):List UInt8:=g.head++be 2 sum++Bd g.bl++g.s
theorem ct {e:Int}{l:List Sp}(h:aJ e l=true){i:Int}(hi:ap i l):e<i:=(jB h hi).1
theorem fW {d e:Int}{A B:List Sp}(hA:aJ d A=true)(c:aJ e B=true)(h:∀i,ap i A↔ap i B):A=B:=by
 induction A generalizing d e B with
 | nil =>
  cases B with
  | nil=>rfl
  | cons y t =>
   rw[aB]at c;exact(a8 ((h y.1).2 (mem_cons.2 (.inl ⟨Lb _,c.1.2.2.1⟩)))).elim
 | cons x s j =>
  cases B with
  | nil =>
   rw[aB]at hA;exact(a8 ((h x.1).1 (mem_cons.2 (.inl ⟨Lb _,hA.1.2.2.1⟩)))).elim
  | cons y t =>
   rw[aB]at hA c;have f:∀i,ap i s->x.2<i:=fun i hi=>ct hA.2 hi;have g:∀i,ap i t->y.2<i:=fun i hi=>ct c.2 hi;have k:∀i,(x.1<=i/\i<x.2)\/ap i s↔(y.1<=i/\i<y.2)\/ap i t:=fun i=>by rw[<-mem_cons,<-mem_cons];exact h i
   have d:x.1=y.1:=by
    rcases(k x.1).1 (.inl O)with a | a
    ·rcases(k y.1).2 (.inl O)with b | b
     ·omega
     have:=f _ b;omega
    have:=g _ a
    rcases(k y.1).2 (.inl O)with b | b
    ·omega
    have:=f _ b;omega
   have e:x.2=y.2:=by
    rcases(show x.2<y.2\/y.2<x.2\/x.2=y.2 by omega)with a | a | a
    ·rcases(k x.2).2 (.inl O)with b | b
     ·omega
     have:=f _ b;omega
    ·rcases(k y.2).1 (.inl O)with b | b
     ·omega
     have:=g _ b;omega
    exact a
   obtain rfl:x=y:=Prod.ext d e;rw[j hA.2 c.2 (fun i=> ?_)]
   constructor
   ·intro hi;have:=f i hi
    rcases(k i).1 (.inr hi)with b | b
    ·omega
    exact b
   intro hi;have:=g i hi
   rcases(k i).2 (.inr hi)with b | b
   ·omega
   exact b
theorem rW {e:Int}{A B:List Sp}{m:Int}(hA:aJ e A=true)(a:∀i,ap i A->i<m)(he:e<m)(b:aJ m B=true):aJ e (A++B)=true:=by
 induction A generalizing e with
 | nil=>exact eJ b O
 | cons x l c =>
  rw[aB]at hA;rw[LT,aB];have d:=a (x.2-1) (mem_cons.2 (.inl O));refine⟨hA.1,?_⟩
  rcases(show x.2<m\/x.2=m by omega)with h | h
  ·exact c hA.2 (fun i hi=>a i (mem_cons.2 (.inr hi))) h
  cases l with
  | nil=>rw[h];exact b
  | cons y l =>
   have h2:=hA.2;rw[aB]at h2;have:=a y.1 (mem_cons.2 (.inr (mem_cons.2 (.inl O))));omega
def i7 (x:Sp):Prop:=0<=x.1/\x.1<x.2/\x.2<=1099511627776
theorem bU {e:Int}{L:List Sp}(h:aJ e L=true):∀x∈L,i7 x:=by
 induction L generalizing e with
 | nil=>intro x a;cases a
 | cons y l b =>
  rw[aB]at h;intro x a
  rcases Mm.1 a with rfl | a
  ·exact⟨h.1.1,h.1.2.2.1,h.1.2.2.2⟩
  exact b h.2 x a
def za (L:List Sp):List Sp:=L.foldl fJ []
theorem uJ {L:List Sp}(h:∀x∈L,i7 x):aj (za L)=true/\∀i,ap i (za L)↔ap i L:=by
 have c:∀(L A:List Sp),(∀x∈L,i7 x)->aj A=true->aj (L.foldl fJ A)=true/\∀i,ap i (L.foldl fJ A)↔ap i A\/ap i L:=by
  intro L
  induction L with
  | nil=>intro A _ hA;exact⟨hA,fun i=>by simp[a8]⟩
  | cons x l d =>
   intro A h hA;have e:=h x M7;have f:cW A x=true:=bm.2 ⟨hA,e⟩;obtain⟨g,j⟩:=i6 f;obtain⟨k,m⟩:=d (fJ A x) (fun y hy=>h y (Mj _ hy)) g;refine⟨k,fun i=> ?_⟩;show ap i (l.foldl fJ (fJ A x))↔_;rw[m,j,mem_cons]
   constructor
   ·rintro ((h | h) | h)
    ·exact .inr (.inl h)
    ·exact .inl h
    exact .inr (.inr h)
   rintro (h | h | h)
   ·exact .inl (.inr h)
   ·exact .inl (.inl h)
   exact .inr h
 obtain⟨a,b⟩:=c L [] h Z;exact⟨a,fun i=>by unfold za;rw[b];simp[a8]⟩
def dG (low:Int)(L:List Sp):List Sp:=bC (L.map fun x=>(max x.1 low,x.2))
theorem jZ (low:Int)(A B:List Sp):dG low (A++B)=dG low A++dG low B:=by unfold dG bC;rw[LQ,Mt]
theorem nV (low:Int)(x:Sp):dG low [x]=one (max x.1 low) x.2:=by
 unfold dG bC one;by_cases h:max x.1 low<x.2
 ·simp[h]
 simp[h]
theorem nW {low i:Int}{L:List Sp}:ap i (dG low L)↔low<=i/\ap i L:=by
 induction L with
 | nil =>
     constructor
     ·intro h;exact(a8 h).elim
     intro h;exact(a8 h.2).elim
 | cons x l a =>
  rw[show x::l=[x]++l from Z,jZ,mem_append,mem_append,a,nV,lf,mem_cons]
  constructor
  ·rintro (h | h)
   ·exact⟨O,.inl (.inl ⟨O,h.2⟩)⟩
   exact⟨h.1,.inr h.2⟩
  rintro⟨h,(k | k) | k⟩
  ·exact .inl ⟨O,k.2⟩
  ·exact(a8 k).elim
  exact .inr ⟨h,k⟩
theorem pr {low:Int}{L:List Sp}(h0:0<=low)(h:∀x∈L,i7 x):∀x∈dG low L,i7 x:=by
 intro x a;unfold dG bC at a;obtain⟨h1,h2⟩:=M3.1 a;obtain⟨y,hy,rfl⟩:=Mg.1 h1;have:=h y hy;unfold i7 at this|-;dsimp only at h2|-;rw[Lj]at h2;omega
def bN (low:Int)(L:List Sp):List Sp:=za (dG low L)
theorem cu {low:Int}{L:List Sp}(h0:0<=low)(h:∀x∈L,i7 x):aj (bN low L)=true/\∀i,ap i (bN low L)↔low<=i/\ap i L:=by
 obtain⟨a,b⟩:=uJ (pr h0 h);exact⟨a,fun i=>by unfold bN;rw[b,nW]⟩
def iJ (out:List Sp)(x:Sp):List Sp :=
 match out.getLast? with
 | none=>[x]
 | some l=>if x.1<=l.2 then out.dropLast++[(l.1,max l.2 x.2)]else out++[x]
structure EQ (done:List Sp)(out:List Sp):Prop where
 canon:aj out=true
 mem:∀i,ap i out↔ap i done
 last:∀l,out.getLast? =some l->∃y∈done,l.1<=y.1
theorem iN {e:Int}{A:List Sp}{l:Sp}:aJ e (A++[l])=true↔aJ e A=true/\i7 l/\e<l.1/\∀x∈A,x.2<l.1:=by
 induction A generalizing e with
 | nil =>
  rw[LG,aB];unfold i7
  constructor
  ·rintro⟨h,-⟩;exact⟨Z,O,O,fun x a=>by cases a⟩
  rintro⟨-,h,h2,-⟩;exact⟨O,Z⟩
 | cons y s f =>
  rw[LT,aB,aB,f]
  constructor
  ·rintro⟨h1,h2,c,d,b⟩;refine⟨⟨h1,h2⟩,c,O,fun x a=> ?_⟩
   rcases Mm.1 a with rfl | a
   ·exact d
   exact b x a
  rintro⟨⟨h1,h2⟩,c,d,b⟩;exact⟨h1,h2,c,b y M7,fun x a=>b x (Mj _ a)⟩
theorem fj {i:Int}{A:List Sp}{l:Sp}:ap i (A++[l])↔ap i A\/(l.1<=i/\i<l.2):=by
 rw[mem_append,mem_cons];simp[a8]
theorem fX (out:List Sp):out=[]\/∃A l,out=A++[l]:=by
 rcases List.eq_nil_or_concat out with h | ⟨A,l,h⟩
 ·exact .inl h
 exact .inr ⟨A,l,by rw[h,List.concat_eq_append]⟩
theorem EQ.step {done out:List Sp}(h:EQ done out){x:Sp}(d:i7 x)(hs:∀y∈done,y.1<=x.1):EQ (done++[x]) (iJ out x):=by
 rcases fX out with rfl | ⟨A,l,rfl⟩
 ·have j:∀i,¬ap i done:=fun i hi=>a8 ((h.mem i).2 hi);show EQ _ [x];refine⟨jC.2 d,fun i=> ?_,fun l e=> ?_⟩
  ·rw[fj,mem_cons]
   simp[a8,j i]
  simp at e;subst e;exact⟨x,IK,Lb _⟩
 have f:(A++[l]).getLast? =some l:=IK
 unfold iJ;rw[f];have m:=iN.1 (show aJ (-1) (A++[l])=true from h.canon);obtain⟨y,hy,n⟩:=h.last l f;have o:l.1<=x.1:=by have:=hs y hy;omega
 unfold i7 at d;obtain⟨p,q,r,g⟩:=m;unfold i7 at q;show EQ (done++[x]) (if x.1<=l.2 then(A++[l]).dropLast++[(l.1,max l.2 x.2)]else A++[l]++[x]);split
 ·rename_i c;rw[NV];refine⟨iN.2 ⟨p,by unfold i7;dsimp only;omega,r,g⟩,fun i=> ?_,fun s b=> ?_⟩
  ·rw[fj,fj,<-h.mem i,fj];dsimp only
   constructor
   ·rintro (a | a)
    ·exact .inl (.inl a)
    by_cases k:i<l.2
    ·exact .inl (.inr ⟨a.1,k⟩)
    exact .inr O
   rintro ((a | a) | a)
   ·exact .inl a
   ·exact .inr O
   exact .inr O
  simp at b;subst b;exact⟨y,LR _ hy,n⟩
 rename_i c;refine⟨iN.2 ⟨h.canon,by unfold i7;omega,O,fun z hz=> ?_⟩,fun i=> ?_,fun s b=> ?_⟩
 ·rcases LH.1 hz with hz | hz
  ·have:=g z hz;omega
  rw[Ly.1 hz];omega
 ·rw[fj,h.mem i,fj]
 simp at b;subst b;exact⟨x,IK,Lb _⟩
theorem EQ.start:EQ [] []:=⟨Z,fun i=>NM,fun l a=>by simp at a⟩
def dr (a b:List Sp):List Sp:=a.flatMap fun x=>bO x.2 x.1 b
theorem uK (a b:List Sp)(x:Sp):dr (a++[x]) b=dr a b++bO x.2 x.1 b:=by unfold dr;rw[MD];simp
theorem fy {e d:Int}{a b:List Sp}(ha:aJ e a=true)(f:aJ d b=true):aJ e (dr a b)=true/\∀i,ap i (dr a b)↔ap i a/\¬ap i b:=by
 induction a generalizing e with
 | nil=>exact⟨Z,fun i=>by unfold dr;simp[a8]⟩
 | cons x l g =>
  rw[aB]at ha;obtain⟨j,m⟩:=g ha.2;obtain⟨g1,c⟩:=lu (t:=x.2) (a:=x.1) f ha.1.1 ha.1.2.2.2 e ha.1.2.1;show aJ e (bO x.2 x.1 b++dr l b)=true/\∀i,ap i (bO x.2 x.1 b++dr l b)↔_;refine⟨rW g1 (fun i hi=>((c i).1 hi).1.2) O j,fun i=> ?_⟩;rw[mem_append,c,m,mem_cons]
  constructor
  ·rintro (⟨h,k⟩ | ⟨h,k⟩)
   ·exact⟨.inl h,k⟩
   exact⟨.inr h,k⟩
  rintro⟨h | h,k⟩
  ·exact .inl ⟨h,k⟩
  exact .inr ⟨h,k⟩
def iK (at':Int)(l:List Sp):List Sp:=l.dropWhile fun x=>decide (x.2<=at')
theorem cA (at':Int)(x:Sp)(l:List Sp):iK at' (x::l)=if x.2<=at' then iK at' l else x::l:=by
 unfold iK;rw[List.dropWhile_cons];by_cases h:x.2<=at' <;> simp[h]
theorem zb {a b:Int}(h:a<=b)(l:List Sp):iK b (iK a l)=iK b l:=by
 induction l with
 | nil=>rfl
 | cons x l c =>
  rw[cA a];split
  ·rw[c,cA b,L9 O]
  rfl
theorem pu {t a:Int}(l:List Sp):bO t a (iK a l)=bO t a l:=by
 induction l with
 | nil=>rfl
 | cons x l b =>
  rw[cA];split
  ·rename_i h;rw[b];show _=if x.2<=a then bO t a l else _;rw[L9 h]
  rfl
structure Sc where
 gi:Int
 next:Int
 mark:Int
 sk:List Sp
 ag:List Sp
def zd:Sc:=⟨0,0,0,[],[]⟩
structure Sc.Ok (s:Sc):Prop where
 u0:0<=s.gi
 un:s.gi<=s.next
 n40:s.next<=1099511627776
 m0:0<=s.mark
 mn:s.mark<=s.next
 Eg:aj s.sk=true
 FJ:aj s.ag=true
 Gg:∀i,ap i s.sk->s.gi<=i/\i<s.next
 mag:∀i,ap i s.ag->s.gi<=i/\i<s.next/\¬ap i s.sk
theorem Aw:zd.Ok:=⟨D,D,D,D,D,Z,Z,fun _ h=>(a8 h).elim,fun _ h=>(a8 h).elim⟩
def Sc.Do (s:Sc)(to:Int):Bool:=decide (s.next<=to/\to<=1099511627776)
def Sc.sent (s:Sc)(to:Int):Sc:=if s.Do to=true then { s with next:=to }else s
def Sc.Ed (s:Sc)(to:Int):Int:=if s.Do to=true then 0 else 140
theorem Sc.Ok.sent {s:Sc}(h:s.Ok)(to:Int):(s.sent to).Ok:=by
 unfold Sc.sent;split
 ·rename_i a;unfold Sc.Do at a;rw[Lj]at a;exact⟨h.u0,LE h.un a.1,a.2,h.m0,LE h.mn a.1,h.Eg,h.FJ,fun i hi=>by have:=h.Gg i hi;dsimp only;omega,fun i hi=>by have:=h.mag i hi;exact⟨this.1,IN,this.2.2⟩⟩
 exact h
def Sc.EH (s:Sc)(x:Sp):Bool:=decide (0<=x.1/\x.1<x.2/\x.2<=s.next)
def Sc.E7 (s:Sc)(gi:Int)(l:List Sp):Bool:=decide (0<=gi/\gi<=s.next)&&l.all s.EH
def Sc.v7 (s:Sc)(gi:Int)(l:List Sp):Sc :=
 { s with gi:=max s.gi gi,sk:=bN (max s.gi gi) (s.sk++l),ag:=dr (bN (max s.gi gi) s.ag) (bN (max s.gi gi) (s.sk++l)) }
def Sc.i1 (s:Sc)(gi:Int)(l:List Sp):Sc:=if s.E7 gi l=true then s.v7 gi l else s
def Sc.Db (s:Sc)(gi:Int)(l:List Sp):Int:=if s.E7 gi l=true then max s.gi gi+aD (s.v7 gi l).sk-(s.gi+aD s.sk)else 0
def Sc.Cp (s:Sc)(gi:Int)(l:List Sp):Int:=if s.E7 gi l=true then 0 else 140
theorem Sc.D7 {s:Sc}{x:Sp}:s.EH x=true↔0<=x.1/\x.1<x.2/\x.2<=s.next:=by unfold Sc.EH;rw[Lj]
theorem Sc.DF {s:Sc}{gi:Int}{l:List Sp}:s.E7 gi l=true↔(0<=gi/\gi<=s.next)/\∀x∈l,s.EH x=true:=by
 unfold Sc.E7;rw[LD,Lj,List.all_eq_true]
theorem Sc.Ok.Ig {s:Sc}(h:s.Ok){l:List Sp}(b:∀x∈l,s.EH x=true):∀x∈s.sk++l,i7 x:=by
 intro x a
 rcases LH.1 a with a | a
 ·exact bU h.Eg x a
 have:=Sc.D7.1 (b x a);have:=h.n40;unfold i7;omega
theorem Sc.Ok.El {s:Sc}(h:s.Ok){gi:Int}{l:List Sp}(a:s.E7 gi l=true):aj (s.v7 gi l).sk=true/\∀i,ap i (s.v7 gi l).sk↔max s.gi gi<=i/\(ap i s.sk\/ap i l):=by
 obtain⟨h1,h2⟩:=Sc.DF.1 a;have d:=h.u0;obtain⟨b,c⟩:=cu (low:=max s.gi gi) O (h.Ig h2);exact⟨b,fun i=>by show ap i (bN _ _)↔_;rw[c,mem_append]⟩
theorem Sc.Ok.Ff {s:Sc}(h:s.Ok){gi:Int}{l:List Sp}(a:s.E7 gi l=true):aj (s.v7 gi l).ag=true/\∀i,ap i (s.v7 gi l).ag↔(max s.gi gi<=i/\ap i s.ag)/\¬ap i (s.v7 gi l).sk:=by
 have d:=h.u0;obtain⟨b,c⟩:=cu (low:=max s.gi gi) (L:=s.ag) O (bU h.FJ);obtain⟨d1,d2⟩:=fy b (h.El a).1;exact⟨d1,fun i=>by refine Iff.trans (d2 i) ?_;rw[c]⟩
theorem Sc.Ok.v7 {s:Sc}(h:s.Ok){gi:Int}{l:List Sp}(d:s.E7 gi l=true):(s.v7 gi l).Ok:=by
 obtain⟨h1,h2⟩:=Sc.DF.1 d;obtain⟨e,f⟩:=h.El d;obtain⟨d1,d2⟩:=h.Ff d;have j:=h.u0;have k:=h.un;refine⟨by show 0<=max s.gi gi;omega,by show max s.gi gi<=s.next;omega,h.n40,h.m0,h.mn,e,d1,fun i hi=> ?_,fun i hi=> ?_⟩
 ·obtain⟨a,b⟩:=(f i).1 hi;refine⟨a,?_⟩
  rcases b with b | b
  ·exact(h.Gg i b).2
  obtain⟨x,g,m⟩:=b;have:=Sc.D7.1 (h2 x g);show i<s.next;omega
 obtain⟨⟨a,b⟩,c⟩:=(d2 i).1 hi;exact⟨a,(h.mag i b).2.1,c⟩
theorem Sc.Ok.i1 {s:Sc}(h:s.Ok)(gi:Int)(l:List Sp):(s.i1 gi l).Ok:=by
 unfold Sc.i1;split
 ·rename_i a;exact h.v7 a
 exact h
def Sc.timeout (s:Sc):Sc:={ s with sk:=[],ag:=[],mark:=s.next }
theorem Sc.Ok.timeout {s:Sc}(h:s.Ok):s.timeout.Ok :=
 ⟨h.u0,h.un,h.n40,by have:=h.u0;have:=h.un;show 0<=s.next;omega,Lb _,Z,Z,fun _ h=>(a8 h).elim,fun _ h=>(a8 h).elim⟩
def Sc.og (s:Sc)(m:Int)(g:Sp):Sp:=if aD (iK g.1 s.sk)/3<m/\(iK g.1 s.sk).length<3 then(g.1,max g.1 (min g.2 s.mark))else g
def Sc.gaps (s:Sc):List Sp:=bs s.sk (s.gi,s.next)
def Sc.lost (s:Sc)(m:Int):List Sp:=if m<1 then []else dr (bC (s.gaps.map (s.og m))) s.ag
def io (s:Sc)(m:Int):List Sp->Int
 | []=>0
 | g::l=>(g.2-g.1-((s.og m g).2-(s.og m g).1))+io s m l
def Sc.pipe (s:Sc)(m:Int):Int:=if m<1 then 0 else aD s.ag+io s m s.gaps
def Sc.Di (s:Sc)(x:Sp):Sc:={ s with ag:=bN s.gi (s.ag++dr (bN s.gi [x]) s.sk) }
def Sc.ret (s:Sc)(x:Sp):Sc:=if s.EH x=true then s.Di x else s
def Sc.Eh (s:Sc)(x:Sp):Int:=if s.EH x=true then 0 else 140
theorem Sc.Ok.Eo {s:Sc}(h:s.Ok){x:Sp}(g:s.EH x=true):(aj (bN s.gi [x])=true/\∀y∈s.ag++dr (bN s.gi [x]) s.sk,i7 y)/\aj (s.Di x).ag=true/\∀i,ap i (s.Di x).ag↔ap i s.ag\/(s.gi<=i/\(x.1<=i/\i<x.2)/\¬ap i s.sk):=by
 have h1:=Sc.D7.1 g;have n:=h.n40;have j:∀y∈[x],i7 y:=fun y hy=>by rw[Ly.1 hy];unfold i7;omega
 obtain⟨f,k⟩:=cu (low:=s.gi) h.u0 j;obtain⟨d1,d2⟩:=fy f h.Eg
 have e:∀y∈s.ag++dr (bN s.gi [x]) s.sk,i7 y:=fun y hy=>by
  rcases LH.1 hy with hy | hy
  ·exact bU h.FJ y hy
  exact bU d1 y hy
 obtain⟨l,m⟩:=cu (low:=s.gi) h.u0 e;refine⟨⟨f,e⟩,l,fun i=> ?_⟩;show ap i (bN _ _)↔_;rw[m,mem_append,d2,k,mem_cons]
 constructor
 ·rintro⟨a,b | ⟨⟨b,c⟩,d⟩⟩
  ·exact .inl b
  rcases c with c | c
  ·exact .inr ⟨a,c,d⟩
  exact(a8 c).elim
 rintro (b | ⟨a,b,c⟩)
 ·exact⟨(h.mag i b).1,.inl b⟩
 exact⟨a,.inr ⟨⟨a,.inl b⟩,c⟩⟩
theorem Sc.Ok.Di {s:Sc}(h:s.Ok){x:Sp}(d:s.EH x=true):(s.Di x).Ok:=by
 obtain⟨-,e,f⟩:=h.Eo d;have h1:=Sc.D7.1 d;refine⟨h.u0,h.un,h.n40,h.m0,h.mn,h.Eg,e,h.Gg,fun i hi=> ?_⟩
 rcases(f i).1 hi with b | ⟨a,b,c⟩
 ·exact h.mag i b
 exact⟨a,by show i<s.next;omega,c⟩
theorem Sc.Ok.ret {s:Sc}(h:s.Ok)(x:Sp):(s.ret x).Ok:=by
 unfold Sc.ret;split
 ·rename_i a;exact h.Di a
 exact h
structure Bx where
 ring:List UInt8
 rd:Int
 nx:Int
 bl:List Sp
 nw:Int
def fY (rg:List UInt8)(o:Nat)(cs:List UInt8):List UInt8:=rg.take o++(cs++rg.drop (o+cs.length))
def dH (rg:List UInt8)(off:Nat)(s:List UInt8):List UInt8 :=
 fY (fY rg (off%rg.length) (s.take (min s.length (rg.length-off%rg.length)))) 0 (s.drop (min s.length (rg.length-off%rg.length)))
def ep (s:List UInt8)(off:Int)(g:Sp):List UInt8:=(s.drop (g.1-off).toNat).take (g.2-g.1).toNat
def bp (rg:List UInt8)(off:Int)(s:List UInt8)(gs:List Sp):List UInt8:=gs.foldl (fun r g=>dH r g.1.toNat (ep s off g)) rg
def ez (nx:Int):List Sp->Int
 | []=>nx
 | x::_=>if x.1=nx then x.2 else nx
def gR (nx:Int):List Sp->List Sp
 | []=>[]
 | x::t=>if x.1=nx then t else x::t
def Bx.lo (b:Bx)(off:Int):Int:=max off b.nx
def Bx.hi (b:Bx)(off:Int)(k:Nat):Int:=min (off+k) (b.rd+b.ring.length)
def Bx.ES (b:Bx)(off:Int)(s:List UInt8)(p:Sp):Bx :=
 { ring:=bp b.ring off s (bs b.bl p),rd:=b.rd,nx:=ez b.nx (fJ b.bl p),bl:=gR b.nx (fJ b.bl p),nw:=p.1 }
def Bx.put (b:Bx)(off:Int)(s:List UInt8):Bx :=
 if off<0\/1099511627776<off then b else if b.hi off s.length<=b.lo off then b else b.ES off s (b.lo off,b.hi off s.length)
def Bx.FR (b:Bx)(off:Int)(k:Nat):Int :=
 if off<0\/1099511627776<off then 0 else if b.hi off k<=b.lo off then 0 else dq (bs b.bl (b.lo off,b.hi off k))
def wW (off:Int):Int:=if off<0\/1099511627776<off then 130 else 0
def iG (rg:List UInt8)(rd k:Nat):List UInt8:=((rg.drop (rd%rg.length)).take k)++rg.take (k-(rg.length-rd%rg.length))
def Bx.take (b:Bx)(k:Int):Bx:=if min k (b.nx-b.rd)<=0 then b else { b with rd:=b.rd+min k (b.nx-b.rd) }
def Bx.ox (b:Bx)(k:Int):List UInt8:=if min k (b.nx-b.rd)<=0 then []else iG b.ring b.rd.toNat (min k (b.nx-b.rd)).toNat
def nM (n:Nat):Bx:=⟨List.replicate n 0,0,0,[],0⟩
structure Bx.Ok (b:Bx):Prop where
 one:1<=b.ring.length
 most:b.ring.length<=8192
 E1:0<=b.rd
 Cv:b.rd<=b.nx
 Du:b.nx<=b.rd+b.ring.length
 small:b.rd+b.ring.length<=1099511627776
 canon:aj b.bl=true
 mem:∀i,ap i b.bl->b.nx<i/\i<b.rd+b.ring.length
theorem dQ (rg:List UInt8)(o:Nat)(cs:List UInt8)(h:o+cs.length<=rg.length):(fY rg o cs).length=rg.length:=by
 unfold fY;rw[Lc,Lc,Lg,Lt];omega
theorem eW (rg:List UInt8)(off:Nat)(s:List UInt8)(h1:1<=rg.length)(h:s.length<=rg.length):(dH rg off s).length=rg.length:=by
 have b:off%rg.length<rg.length:=Ng _ O;unfold dH;have a:(fY rg (off%rg.length) (s.take (min s.length (rg.length-off%rg.length)))).length=rg.length:=dQ _ _ _ IX;rw[dQ _ _ _ (by rw[a,Lt];omega),a]
theorem lD (s:List UInt8)(off:Int)(g:Sp):(ep s off g).length<=(g.2-g.1).toNat:=by
 unfold ep;rw[Lg];omega
def bV (nw:Int)(x:Sp):Bool:=decide (x.1<=nw/\nw<x.2)
def eT (nw:Int)(bl:List Sp):List Sp:=bl.filter (bV nw)++(bl.filter fun x=> !bV nw x).reverse
theorem iO (nw:Int)(bl:List Sp):(eT nw bl).Perm bl :=
 (List.Perm.append_left _ (List.reverse_perm _)).trans (List.filter_append_perm (bV nw) bl)
theorem fZ (nw:Int)(bl:List Sp):(eT nw bl).length=bl.length:=(iO nw bl).length_eq
def Bx.rep (b:Bx):List Sp:=(eT b.nw b.bl).take 3
theorem Bx.Gm {b:Bx}{x:Sp}(h:x∈b.rep):x∈b.bl:=(iO b.nw b.bl).mem_iff.1 (Nl h)
theorem Bx.Dw (b:Bx):b.rep.length=min b.bl.length 3:=by
 unfold Bx.rep;rw[Lg,fZ,Nat.min_comm]
def Bx.has (b:Bx)(i:Int):Prop:=(0<=i/\i<b.nx)\/ap i b.bl
theorem Bx.Ok.FS {b:Bx}(h:b.Ok):¬b.has b.nx:=by
 rintro (⟨_,g⟩ | g)
 ·omega
 have:=(h.mem _ g).1;omega
theorem uL {nx:Int}{L:List Sp}(a:aj L=true)(b:∀i,ap i L->nx<=i)(h0:0<=nx) :
  aj (gR nx L)=true/\(∀i,ap i (gR nx L)->ez nx L<i)/\nx<=ez nx L/\(∀i,((0<=i/\i<ez nx L)\/ap i (gR nx L))↔((0<=i/\i<nx)\/ap i L))/\(∀i,ap i (gR nx L)->ap i L)/\(ez nx L=nx\/ap (ez nx L-1) L):=by
 cases L with
 | nil=>exact⟨Z,fun i h=>(a8 h).elim,Lb _,fun i=>NM,fun _ h=>h,.inl Z⟩
 | cons x t =>
  have c:=a;unfold aj at a;rw[aB]at a;have j:nx<=x.1:=b x.1 (mem_cons.2 (.inl ⟨Lb _,a.1.2.2.1⟩));by_cases e:x.1=nx
  ·have d:ez nx (x::t)=x.2:=by show(if x.1=nx then x.2 else nx)=_;rw[L9 e]
   have f:gR nx (x::t)=t:=by show(if x.1=nx then t else x::t)=_;rw[L9 e]
   rw[d,f];refine⟨eJ a.2 O,fun i hi=>ct a.2 hi,O,fun i=> ?_,fun i hi=>mem_cons.2 (.inr hi),.inr (mem_cons.2 (.inl O))⟩;rw[mem_cons]
   constructor
   ·rintro (h | h)
    ·by_cases g:i<nx
     ·exact .inl ⟨h.1,g⟩
     exact .inr (.inl O)
    exact .inr (.inr h)
   rintro (h | h | h)
   ·exact .inl O
   ·exact .inl O
   exact .inr h
  have d:ez nx (x::t)=nx:=by show(if x.1=nx then x.2 else nx)=_;rw[L7 e]
  have f:gR nx (x::t)=x::t:=by show(if x.1=nx then t else x::t)=_;rw[L7 e]
  rw[d,f];refine⟨c,fun i hi=> ?_,Lb _,fun i=>NM,fun i h=>h,.inl Z⟩
  rcases mem_cons.1 hi with h | h
  ·omega
  have:=ct a.2 h;omega
theorem rX {rg:List UInt8}{off:Int}{s:List UInt8}{gs:List Sp}(h1:1<=rg.length)(h:∀g∈gs,(g.2-g.1).toNat<=rg.length):(bp rg off s gs).length=rg.length:=by
 induction gs generalizing rg with
 | nil=>rfl
 | cons g gs a =>
  have e:(dH rg g.1.toNat (ep s off g)).length=rg.length:=eW _ _ _ h1 (La (lD _ _ _) (h g IK));show(bp (dH rg g.1.toNat (ep s off g)) off s gs).length=_;rw[a O (fun x b=>by rw[e];exact h x (by simp[b])),e]
theorem iu {e:Int}{L:List Sp}(h:aJ e L=true){g:Sp}(d:g∈L):g.1<g.2/\ap g.1 L/\ap (g.2-1) L:=by
 induction L generalizing e with
 | nil=>cases d
 | cons x t f =>
  rw[aB]at h
  rcases Mm.1 d with rfl | d
  ·exact⟨h.1.2.2.1,mem_cons.2 (.inl O),mem_cons.2 (.inl O)⟩
  obtain⟨a,b,c⟩:=f h.2 d;exact⟨a,mem_cons.2 (.inr b),mem_cons.2 (.inr c)⟩
theorem Bx.takes {b:Bx}(ok:b.Ok){off:Int}{k:Nat}(h0:0<=off)(a:b.lo off<b.hi off k):cW b.bl (b.lo off,b.hi off k)=true:=by
 refine bm.2 ⟨ok.canon,?_⟩;have:=ok.small;unfold Bx.lo Bx.hi at *;dsimp only;omega
theorem Bx.DQ {b:Bx}(ok:b.Ok){off:Int}(s:List UInt8)(h0:0<=off)(h1:off<=1099511627776) :
  (b.put off s).Ok/\(b.put off s).rd=b.rd/\(b.put off s).ring.length=b.ring.length/\b.nx<=(b.put off s).nx/\∀i,(b.put off s).has i↔b.has i\/(off<=i/\i<off+s.length/\i<b.rd+b.ring.length):=by
 have l:=ok.E1;have m:=ok.Cv;unfold Bx.put;rw[L7 O];by_cases a:b.hi off s.length<=b.lo off
 ·rw[L9 a];refine⟨ok,Z,Z,Lb _,fun i=>⟨.inl,?_⟩⟩;rintro (h | h)
  ·exact h
  unfold Bx.lo Bx.hi at a;exact .inl O
 rw[L7 a];have j:=Bx.takes ok h0 (O:b.lo off<b.hi off s.length);obtain⟨n,d⟩:=i6 j;obtain⟨o,f⟩:=cj j;dsimp only at d f;have p:b.lo off=max off b.nx:=Z;have q:b.hi off s.length=min (off+s.length) (b.rd+b.ring.length):=Z
 have c:∀i,ap i (fJ b.bl (b.lo off,b.hi off s.length))->b.nx<=i/\i<b.rd+b.ring.length:=by
  intro i hi
  rcases(d i).1 hi with h | h
  ·omega
  have:=ok.mem i h;omega
 obtain⟨r,t,k,u,w,x⟩:=uL n (fun i hi=>(c i hi).1) O
 have hlen:(bp b.ring off s (bs b.bl (b.lo off,b.hi off s.length))).length=b.ring.length:=by
  refine rX ok.one (fun g y=> ?_);obtain⟨g1,z,A⟩:=iu o y;have:=(f _).1 z;have:=(f _).1 A;omega
 refine⟨?_,Z,hlen,k,fun i=> ?_⟩
 ·refine⟨by rw[show(b.ES off s (b.lo off,b.hi off s.length)).ring.length=_ from hlen];exact ok.one,by rw[show(b.ES off s (b.lo off,b.hi off s.length)).ring.length=_ from hlen];exact ok.most,l,LE m k,?_,by rw[show(b.ES off s (b.lo off,b.hi off s.length)).ring.length=_ from hlen];exact ok.small,r,fun i hi=> ?_⟩
  ·rw[show(b.ES off s (b.lo off,b.hi off s.length)).ring.length=_ from hlen];show ez b.nx _<=b.rd+_
   rcases x with e | h
   ·rw[e];exact ok.Du
   have:=(c _ h).2;omega
  rw[show(b.ES off s (b.lo off,b.hi off s.length)).ring.length=_ from hlen];exact⟨t i hi,(c _ (w i hi)).2⟩
 refine(u i).trans ?_;rw[d];unfold Bx.has
 constructor
 ·rintro (h | h | h)
  ·exact .inl (.inl h)
  ·exact .inr O
  exact .inl (.inr h)
 rintro ((h | h) | h)
 ·exact .inl h
 ·exact .inr (.inr h)
 by_cases g:i<b.nx
 ·exact .inl O
 exact .inr (.inl O)
theorem j0 (rg:List UInt8)(o:Nat)(cs:List UInt8)(h:o+cs.length<=rg.length)(p:Nat):(fY rg o cs)[p]? =if p<o then rg[p]? else if p<o+cs.length then cs[p-o]? else rg[p]? :=by
 unfold fY;have a:(rg.take o).length=o:=IX
 by_cases h1:p<o
 ·rw[L9 h1,Mo O,M5 h1]
 rw[L7 h1,Mk O,a];by_cases h2:p<o+cs.length
 ·rw[L9 h2,Mo O]
 rw[L7 h2,Mk O,MZ]
 congr 1
 omega
theorem oS {n off j:Nat}(a:j<n):(off+j)%n=if j<n-off%n then off%n+j else j-(n-off%n):=by
 have b:off%n<n:=Ng _ O;rw[Nat.add_mod,Nat.mod_eq_of_lt a];by_cases h:j<n-off%n
 ·rw[L9 h,Nat.mod_eq_of_lt O]
 rw[L7 h,Nat.mod_eq_sub_mod O,Nat.mod_eq_of_lt O];omega
theorem wX (rg:List UInt8)(off:Nat)(s:List UInt8)(h1:1<=rg.length)(hs:s.length<=rg.length){j:Nat}(b:j<s.length):(dH rg off s)[(off+j)%rg.length]? =s[j]? :=by
 have c:off%rg.length<rg.length:=Ng _ O;have a:(fY rg (off%rg.length) (s.take (min s.length (rg.length-off%rg.length)))).length=rg.length:=dQ _ _ _ IX;rw[oS O];unfold dH;rw[j0 _ _ _ (by rw[a,Lt];omega),j0 _ _ _ IX,Lt,Lg];by_cases h:j<rg.length-off%rg.length
 ·rw[L9 h,L7 O,L7 O,L7 O,L9 O,M5 O]
  congr 1
  omega
 rw[L7 h,L7 O,L9 O,MZ]
 congr 1
 omega
theorem uM (rg:List UInt8)(off:Nat)(s:List UInt8)(h1:1<=rg.length)(hs:s.length<=rg.length){p:Nat}(f:p<rg.length)(a:∀j,j<s.length->(off+j)%rg.length≠p):(dH rg off s)[p]? =rg[p]? :=by
 have g:off%rg.length<rg.length:=Ng _ O;have d:(fY rg (off%rg.length) (s.take (min s.length (rg.length-off%rg.length)))).length=rg.length:=dQ _ _ _ IX;have b:∀j,j<s.length->(if j<rg.length-off%rg.length then off%rg.length+j else j-(rg.length-off%rg.length))≠p:=fun j e=>by rw[<-oS O];exact a j e
 unfold dH;rw[j0 _ _ _ (by rw[d,Lt];omega),j0 _ _ _ IX,Lt,Lg];by_cases h:p<s.length-min s.length (rg.length-off%rg.length)
 ·exfalso
  have:=b (rg.length-off%rg.length+p) O;rw[L7 O]at this;omega
 rw[L7 O,L7 O];by_cases c:p<off%rg.length
 ·rw[L9 c]
 rw[L7 c,L7];intro i;have:=b (p-off%rg.length) O;rw[L9 O]at this;omega
theorem ze {n r i j:Nat}(hi:r<=i/\i<r+n)(b:r<=j/\j<r+n)(h:i%n=j%n):i=j:=by
 rcases Nat.le_total i j with a | a
 ·have h1:n∣(j-i):=Nat.dvd_of_mod_eq_zero (Nat.sub_mod_eq_zero_of_mod_eq h.symm)
  rcases MY (j-i)with e | e
  ·omega
  have:=Nat.le_of_dvd e h1;omega
 have h1:n∣(i-j):=Nat.dvd_of_mod_eq_zero (Nat.sub_mod_eq_zero_of_mod_eq h)
 rcases MY (i-j)with e | e
 ·omega
 have:=Nat.le_of_dvd e h1;omega
theorem uN {e:Int}{gs:List Sp}(m:aJ e gs=true){off r:Nat}{s:List UInt8}{n:Nat}(h1:1<=n)(d:∀i,ap i gs->(r:Int)<=i/\i<(r:Int)+n/\(off:Int)<=i/\i<(off:Int)+s.length)
  (rg:List UInt8)(c:rg.length=n){i:Nat}(hi:r<=i/\i<r+n) :
  (ap (i:Int) gs->(bp rg off s gs)[i%n]? =s[i-off]?)/\(¬ap (i:Int) gs->(bp rg off s gs)[i%n]? =rg[i%n]?):=by
 induction gs generalizing e rg with
 | nil=>exact⟨fun h=>(a8 h).elim,fun _=>rfl⟩
 | cons g gs w =>
  have o:=m;rw[aB]at m;obtain⟨g1,y,z⟩:=iu o (M7 (a:=g) (l:=gs));have E:=d _ y;have F:=d _ z
  have b:(ep s off g).length=(g.2-g.1).toNat:=by
   unfold ep;rw[Lg,Lt];omega
  have p:(dH rg g.1.toNat (ep s off g)).length=n:=by rw[eW _ _ _ O Jn];exact c
  obtain⟨A,u⟩:=w m.2 (fun x q=>d x (mem_cons.2 (.inr q))) (dH rg g.1.toNat (ep s off g)) p
  have hcut:∀j,j<(ep s off g).length->(ep s off g)[j]? =s[g.1.toNat-off+j]? :=by
   intro j t;unfold ep;rw[b]at t;rw[M5 t,MZ]
   congr 1
   omega
  have B:∀(x:Nat),g.1<=(x:Int)/\(x:Int)<g.2->(dH rg g.1.toNat (ep s off g))[x%n]? =s[x-off]? :=by
   intro x q;have:=wX rg g.1.toNat (ep s off g) O Jn (j:=x-g.1.toNat) Jn;rw[show g.1.toNat+(x-g.1.toNat)=x by omega,c,hcut _ Jn]at this;rw[this]
   congr 1
   omega
  have C:¬(g.1<=(i:Int)/\(i:Int)<g.2)->(dH rg g.1.toNat (ep s off g))[i%n]? =rg[i%n]? :=by
   intro q;refine uM rg g.1.toNat (ep s off g) O Jn (by rw[c];exact Ng _ O) (fun j t=> ?_);rw[c,b]at *;intro f;have:=ze (r:=r) (n:=n) (i:=g.1.toNat+j) (j:=i) O hi f;omega
  show(_->(bp (dH rg g.1.toNat (ep s off g)) off s gs)[i%n]? =_)/\(_->(bp (dH rg g.1.toNat (ep s off g)) off s gs)[i%n]? =_);refine⟨fun h=> ?_,fun h=> ?_⟩
  ·by_cases f:ap (i:Int) gs
   ·exact A f
   rw[u f]
   rcases mem_cons.1 h with h | h
   ·exact B i h
   exact(f h).elim
  rw[u (fun k=>h (mem_cons.2 (.inr k)))];exact C (fun k=>h (mem_cons.2 (.inl k)))
theorem Bx.Gn {b:Bx}(ok:b.Ok){off:Nat}(s:List UInt8)(h1:off<=1099511627776){r:Nat}(t:b.rd=r){i:Nat}(hi:r<=i/\i<r+b.ring.length) :
  (b.has i->(b.put off s).ring[i%b.ring.length]? =b.ring[i%b.ring.length]?)/\(¬b.has i->off<=i/\i<off+s.length->(b.put off s).ring[i%b.ring.length]? =s[i-off]?):=by
 have u:=ok.Cv;unfold Bx.put;rw[L7 O];by_cases a:b.hi off s.length<=b.lo off
 ·rw[L9 a];refine⟨fun _=>rfl,fun e f=> ?_⟩
  exfalso
  apply e
  unfold Bx.lo Bx.hi at a;exact .inl O
 rw[L7 a];have j:=Bx.takes ok (off:=off) O (O:b.lo off<b.hi off s.length);obtain⟨l,d⟩:=cj j;dsimp only at d;have m:b.lo off=max (off:Int) b.nx:=Z;have o:b.hi off s.length=min ((off:Int)+s.length) (b.rd+b.ring.length):=Z;have c:=uN l (off:=off) (r:=r) (s:=s) (n:=b.ring.length) ok.one (fun x p=>by have:=(d x).1 p;omega) b.ring Z hi;show(_->(bp b.ring off s (bs b.bl (b.lo off,b.hi off s.length)))[i%b.ring.length]? =_)/\(_->_->(bp b.ring off s (bs b.bl (b.lo off,b.hi off s.length)))[i%b.ring.length]? =_);refine⟨fun h=>c.2 (fun k=> ?_),fun h f=>c.1 ((d i).2 ⟨?_,fun k=>h (.inr k)⟩)⟩
 ·obtain⟨w,q⟩:=(d i).1 k
  rcases h with h | h
  ·omega
  exact q h
 have:¬((i:Int)<b.nx):=fun g=>h (.inl ⟨O,g⟩);omega
theorem uO (rg:List UInt8)(rd q:Nat)(h1:1<=rg.length)(c:q<=rg.length){j:Nat}(a:j<q):(iG rg rd q)[j]? =rg[(rd+j)%rg.length]? :=by
 have d:rd%rg.length<rg.length:=Ng _ O;rw[oS O];unfold iG;have b:((rg.drop (rd%rg.length)).take q).length=min q (rg.length-rd%rg.length):=by rw[Lg,Lt]
 by_cases h:j<rg.length-rd%rg.length
 ·rw[L9 h,Mo O,M5 a,MZ]
 rw[L7 h,Mk O,b,show min q (rg.length-rd%rg.length)=rg.length-rd%rg.length by omega,M5 O]
theorem kT (rg:List UInt8)(rd q:Nat)(h1:1<=rg.length)(a:q<=rg.length):(iG rg rd q).length=q:=by
 have b:rd%rg.length<rg.length:=Ng _ O;unfold iG;rw[Lc,Lg,Lt,Lg];omega
def Bx.Str (b:Bx)(S:List UInt8):Prop:=∀i:Nat,b.rd<=i->b.has i->b.ring[i%b.ring.length]? =S[i]?
theorem Bx.has_lt {b:Bx}(ok:b.Ok){i:Int}(h:b.has i):i<b.rd+b.ring.length:=by
 rcases h with h | h
 ·have:=ok.Du;omega
 exact(ok.mem i h).2
theorem Bx.Str.put {b:Bx}{S:List UInt8}(h:b.Str S)(ok:b.Ok){off:Nat}(s:List UInt8)(h1:off<=1099511627776)(hs:∀i,off<=i->i<off+s.length->s[i-off]? =S[i]?):(b.put off s).Str S:=by
 obtain⟨p1,d,e,n,j⟩:=Bx.DQ ok s (off:=off) O O;obtain⟨r,k⟩:=M2 ok.E1;intro i hi f;rw[d]at hi;have c:=Bx.has_lt p1 f;rw[d,e]at c;rw[e];obtain⟨l,m⟩:=Bx.Gn ok s h1 k (i:=i) O;by_cases a:b.has i
 ·rw[l a];exact h i hi a
 rcases(j i).1 f with g | g
 ·exact(a g).elim
 rw[m a O];exact hs i O O
theorem Bx.DG (b:Bx)(k:Int):(b.take k).nx=b.nx/\(b.take k).bl=b.bl/\(b.take k).ring=b.ring/\∀i,(b.take k).has i↔b.has i:=by
 unfold Bx.take;split
 ·exact⟨Z,Z,Z,fun _=>NM⟩
 exact⟨Z,Z,Z,fun _=>NM⟩
theorem Bx.Str.take {b:Bx}{S:List UInt8}(h:b.Str S)(ok:b.Ok){r:Nat}(f:b.rd=r)(k:Int) :
  ∃q:Nat,(q:Int)=max 0 (min k (b.nx-b.rd))/\(b.take k).rd=b.rd+q/\(b.take k).Str S/\(b.ox k).length=q/\∀j,j<q->(b.ox k)[j]? =S[r+j]? :=by
 have h1:=ok.Cv;have h2:=ok.Du;obtain⟨p,s,g,l⟩:=b.DG k
 have m:b.rd<=(b.take k).rd->(b.take k).Str S:=by
  intro n i hi o;rw[g];exact h i O ((l i).1 o)
 by_cases hz:min k (b.nx-b.rd)<=0
 ·have a:b.take k=b:=by unfold Bx.take;rw[L9 hz]
  have c:b.ox k=[]:=by unfold Bx.ox;rw[L9 hz]
  refine⟨0,O,Jo,by rw[a];exact h,by rw[c];rfl,fun j d=>by omega⟩
 obtain⟨q,e⟩:=M2 (show 0<=min k (b.nx-b.rd) by omega);have a:(b.take k).rd=b.rd+q:=by unfold Bx.take;rw[L7 hz,e];try rfl
 have c:b.ox k=iG b.ring r q:=by unfold Bx.ox;rw[L7 hz,e,f];try rfl
 refine⟨q,O,a,m O,by rw[c];exact kT _ _ _ ok.one O,fun j d=> ?_⟩;rw[c,uO _ _ _ ok.one O d];exact h (r+j) O (.inl O)
theorem Bx.Ok.take {b:Bx}(ok:b.Ok)(k:Int)(c:(b.take k).rd+b.ring.length<=1099511627776):(b.take k).Ok:=by
 obtain⟨d,e,a,g⟩:=b.DG k
 have f:b.rd<=(b.take k).rd/\(b.take k).rd<=b.nx:=by
  have:=ok.Cv;unfold Bx.take;split
  ·exact⟨Lb _,this⟩
  dsimp only;omega
 refine⟨by rw[a];exact ok.one,by rw[a];exact ok.most,LE ok.E1 f.1,by rw[d];exact f.2,by rw[d,a];have:=ok.Du;omega,by rw[a];exact c,by rw[e];exact ok.canon,fun i hi=> ?_⟩;rw[d,a];rw[e]at hi;have:=ok.mem i hi;omega
end Go.Proofs.YtcmncipikdpnbaaGreatDoor
