import Derived.Test.YtclkcmidhhfdmaaGreatDoorUb0
import Derived.Lib.Hide
namespace Go.Proofs.YtclkcmidhhfdmaaGreatDoor
theorem _root_.Go.RowKit.Hid.o {p:Prop}(h:Go.RowKit.Hid p):p:=h
abbrev Sp := Int × Int
def aH:Int->List Sp->Bool
 | _,[]=>true
 | e,x::l=>decide (0<=x.1/\e<x.1/\x.1<x.2/\x.2<=1099511627776)&&aH x.2 l
def ae (l:List Sp):Bool:=aH (-1) l
def cV (l:List Sp)(s:Sp):Bool:=ae l&&ae [s]
def one (a b:Int):List Sp:=if a<b then [(a,b)]else []
def aw (ps:List Sp):List Sp:=ps.filter fun x=>decide (x.1<x.2)
def bL (t:Int):Int->List Sp->List Sp
 | a,[]=>one a t
 | a,x::l=>if x.2<=a then bL t a l else if t<=x.1 then one a t else one a x.1++bL t x.2 l
def bj (l:List Sp)(s:Sp):List Sp:=if cV l s=true then bL s.2 s.1 l else []
def gr:Sp->List Sp->List Sp
 | s,[]=>[s]
 | s,x::l=>if x.2<s.1 then x::gr s l else if s.2<x.1 then s::x::l else gr (min s.1 x.1,max s.2 x.2) l
def eN (l:List Sp)(s:Sp):List Sp:=if cV l s=true then gr s l else []
def aC:List Sp->Int
 | []=>0
 | x::l=>x.2-x.1+aC l
def dH (l:List Sp):Int:=if ae l=true then aC l else 0
def af (i:Int)(l:List Sp):Prop:=∃x∈l,x.1<=i/\i<x.2
theorem aY {i:Int}:¬af i []:=by rintro⟨x,h,_⟩;cases h
theorem mem_cons {i:Int}{x:Sp}{l:List Sp}:af i (x::l)↔(x.1<=i/\i<x.2)\/af i l:=by
 constructor
 ·rintro⟨y,h,g⟩
  rcases List.mem_cons.1 h with rfl | h
  ·exact .inl g
  exact .inr ⟨y,h,g⟩
 rintro (g | ⟨y,h,g⟩)
 ·exact⟨x,List.mem_cons_self,g⟩
 exact⟨y,List.mem_cons_of_mem _ h,g⟩
theorem mem_append {i:Int}{a b:List Sp}:af i (a++b)↔af i a\/af i b:=by
 induction a with
 | nil=>simp[aY]
 | cons x l ih=>rw[List.cons_append,mem_cons,ih,mem_cons,or_assoc]
theorem jj {i a b:Int}:af i (one a b)↔a<=i/\i<b:=by
 unfold one;split
 ·rw[mem_cons];simp[aY]
 constructor
 ·exact fun h=>(aY h).elim
 omega
theorem aA {e:Int}{x:Sp}{l:List Sp}:aH e (x::l)=true↔(0<=x.1/\e<x.1/\x.1<x.2/\x.2<=1099511627776)/\aH x.2 l=true:=by
 show(decide _&&_)=true↔_;rw[Bool.and_eq_true,decide_eq_true_iff]
theorem dV {e e':Int}{l:List Sp}(h:aH e l=true)(he:e'<=e):aH e' l=true:=by
 cases l with
 | nil=>rfl
 | cons x l=>rw[aA]at h|-;exact⟨by omega,h.2⟩
theorem gt {e:Int}{l:List Sp}(h:aH e l=true){i:Int}(hi:af i l):e<i/\0<=i/\i<1099511627776:=by
 induction l generalizing e with
 | nil=>exact(aY hi).elim
 | cons x l ih =>
  rw[aA]at h
  rcases mem_cons.1 hi with g | g
  ·omega
  have:=ih h.2 g;omega
theorem gu {s:Sp}:ae [s]=true↔0<=s.1/\s.1<s.2/\s.2<=1099511627776:=by
 unfold ae;rw[aA];show _/\true=true↔_;simp only[and_true];omega
theorem bY {l:List Sp}{s:Sp}:cV l s=true↔ae l=true/\0<=s.1/\s.1<s.2/\s.2<=1099511627776:=by
 unfold cV;rw[Bool.and_eq_true,gu]
theorem qI {e:Int}{s:Sp}{l:List Sp}(hl:aH e l=true)(hs:0<=s.1/\e<s.1/\s.1<s.2/\s.2<=1099511627776) :
  aH e (gr s l)=true/\∀i,af i (gr s l)↔(s.1<=i/\i<s.2)\/af i l:=by
 induction l generalizing e s with
 | nil =>
  refine⟨aA.2 ⟨hs,rfl⟩,fun i=> ?_⟩;show af i [s]↔_;rw[mem_cons]
 | cons x l ih =>
  rw[aA]at hl;show aH e (if x.2<s.1 then x::gr s l else if s.2<x.1 then s::x::l else gr (min s.1 x.1,max s.2 x.2) l)=true/\∀i,af i (if x.2<s.1 then x::gr s l else if s.2<x.1 then s::x::l else gr (min s.1 x.1,max s.2 x.2) l)↔_;split
  ·rename_i h1;obtain⟨a,b⟩:=ih hl.2 (s:=s) ⟨hs.1,h1,hs.2.2⟩;refine⟨aA.2 ⟨hl.1,a⟩,fun i=> ?_⟩;rw[mem_cons,b,mem_cons]
   constructor
   ·rintro (h | h | h) <;> simp[h]
   rintro (h | h | h) <;> simp[h]
  split
  ·refine⟨aA.2 ⟨hs,aA.2 ⟨⟨hl.1.1,by assumption,hl.1.2.2⟩,hl.2⟩⟩,fun i=> ?_⟩;rw[mem_cons]
  rename_i h1 h2;have hl':aH e l=true:=dV hl.2 (by omega);obtain⟨a,b⟩:=ih hl' (s:=(min s.1 x.1,max s.2 x.2)) (by dsimp only;omega);refine⟨a,fun i=> ?_⟩;rw[b,mem_cons];dsimp only
  constructor
  ·rintro (h | h)
   ·by_cases g:s.1<=i/\i<s.2
    ·exact .inl g
    exact .inr (.inl (by omega))
   exact .inr (.inr h)
  rintro (h | h | h)
  ·exact .inl (by omega)
  ·exact .inl (by omega)
  exact .inr h
theorem gR {l:List Sp}{s:Sp}(h:cV l s=true):ae (eN l s)=true/\∀i,af i (eN l s)↔(s.1<=i/\i<s.2)\/af i l:=by
 unfold eN;rw[if_pos h];obtain⟨a,b⟩:=bY.1 h;exact qI a (by omega)
theorem jr {e t a:Int}{l:List Sp}(hl:aH e l=true)(ha:0<=a)(ht:t<=1099511627776)(e':Int)(he':e'<a) :
  aH e' (bL t a l)=true/\∀i,af i (bL t a l)↔(a<=i/\i<t)/\¬af i l:=by
 induction l generalizing e a e' with
 | nil =>
  show aH e' (one a t)=true/\∀i,af i (one a t)↔_;refine⟨?_,fun i=>by rw[jj];simp[aY]⟩;unfold one;split
  ·exact aA.2 ⟨by dsimp only;omega,rfl⟩
  rfl
 | cons x l ih =>
  rw[aA]at hl;show aH e' (if x.2<=a then bL t a l else if t<=x.1 then one a t else one a x.1++bL t x.2 l)=true/\∀i,af i (if x.2<=a then bL t a l else if t<=x.1 then one a t else one a x.1++bL t x.2 l)↔_;split
  ·rename_i h1;obtain⟨c,d⟩:=ih hl.2 ha e' he';refine⟨c,fun i=> ?_⟩;rw[d,mem_cons]
   constructor
   ·rintro⟨h,g⟩;exact⟨h,by rintro (k | k);omega;exact g k⟩
   rintro⟨h,g⟩;exact⟨h,fun k=>g (.inr k)⟩
  split
  ·rename_i h1 h2;refine⟨?_,fun i=> ?_⟩
   ·unfold one;split
    ·exact aA.2 ⟨by dsimp only;omega,rfl⟩
    rfl
   rw[jj,mem_cons]
   constructor
   ·intro h;refine⟨h,?_⟩;rintro (k | k)
    ·omega
    have:=gt hl.2 k;omega
   exact fun h=>h.1
  rename_i h1 h2;have key:=fun e' he'=>ih hl.2 (a:=x.2) (by omega) e' he';refine⟨?_,fun i=> ?_⟩
  ·unfold one;split
   ·rw[List.singleton_append];refine aA.2 ⟨by dsimp only;omega,(key x.1 (by omega)).1⟩
   rw[List.nil_append];exact(key e' (by omega)).1
  rw[mem_append,jj,(key (x.2-1) (by omega)).2,mem_cons]
  constructor
  ·rintro (h | ⟨h,g⟩)
   ·refine⟨by omega,?_⟩;rintro (k | k)
    ·omega
    have:=gt hl.2 k;omega
   refine⟨by omega,?_⟩;rintro (k | k)
   ·omega
   exact g k
  rintro⟨h,g⟩;by_cases k:i<x.1
  ·exact .inl ⟨h.1,k⟩
  refine .inr ⟨⟨?_,h.2⟩,fun k=>g (.inr k)⟩;by_cases m:x.2<=i
  ·exact m
  exact(g (.inl (by omega))).elim
theorem cE {l:List Sp}{s:Sp}(h:cV l s=true):ae (bj l s)=true/\∀i,af i (bj l s)↔(s.1<=i/\i<s.2)/\¬af i l:=by
 unfold bj;rw[if_pos h];obtain⟨a,b⟩:=bY.1 h;exact jr a b.1 b.2.2 (-1) (by omega)
theorem aL {e:Int}{l:List Sp}(h:aH e l=true):0<=aC l/\(e<1099511627776->aC l<=1099511627776-e)/\aC l<=1099511627776:=by
 induction l generalizing e with
 | nil=>exact⟨Int.le_refl _,fun _=>by show(0:Int)<=_;omega,by show(0:Int)<=_;omega⟩
 | cons x l ih =>
  rw[aA]at h;have:=ih h.2;show 0<=x.2-x.1+aC l/\(_->x.2-x.1+aC l<=_)/\x.2-x.1+aC l<=_
  cases l with
  | nil=>simp only[aC];omega
  | cons y l=>have h2:=h.2;rw[aA]at h2;omega
theorem bR {e:Int}{L:List Sp}(h:aH e L=true):L.length<=1099511627776:=by
 have key:∀(L:List Sp) (e:Int),aH e L=true->(L.length:Int)<=aC L:=by
  intro L
  induction L with
  | nil=>intro _ _;exact Int.le_refl _
  | cons x l ih =>
   intro e hc;rw[aA]at hc;have:=ih _ hc.2;show((l.length+1:Nat):Int)<=x.2-x.1+aC l;omega
 have:=key L e h;have:=(aL h).2.2;omega
structure Sg where
 fp:Int
 tp:Int
 sq:Int
 ak:Int
 syn:Bool
 fin:Bool
 rst:Bool
 has:Bool
 win:Int
 mss:Int
 sacks:Bool
 bl:List Sp
 s:List UInt8
structure Sg.Ok (g:Sg):Prop where
 fp:1<=g.fp/\g.fp<=65535
 tp:1<=g.tp/\g.tp<=65535
 sq:0<=g.sq/\g.sq<=4294967295
 ak:0<=g.ak/\g.ak<=4294967295
 has:g.has=false->g.ak=0
 win:0<=g.win/\g.win<=65535
 fl:¬(g.syn=true/\g.fin=true)/\¬(g.syn=true/\g.rst=true)/\¬(g.fin=true/\g.rst=true)
 mss:g.syn=false->g.mss=0/\g.sacks=false
 mssS:g.syn=true->g.mss=0\/(28<=g.mss/\g.mss<=1024)
 blen:g.bl.length<=3
 bhas:0<g.bl.length->g.has=true
 blk:∀x∈g.bl,(0<=x.1/\x.1<=4294967295)/\(0<=x.2/\x.2<=4294967295)/\x.1≠x.2
 sS:g.syn=true\/g.rst=true->g.s=[]
 slen:(g.s.length:Int)<=1024-8*g.bl.length
def ww (b:Bool)(n:Nat):Nat:=if b=true then n else 0
def Sg.flag (g:Sg):Nat:=ww g.syn 1+ww g.fin 2+ww g.rst 4+ww g.has 8+ww g.sacks 16
theorem Sg.flag_lt (g:Sg):g.flag<32:=by
 unfold Sg.flag ww
 cases g.syn <;> cases g.fin <;> cases g.rst <;> cases g.has <;> cases g.sacks <;> decide
def ks:List Sp->List UInt8
 | []=>[]
 | x::l=>be 4 x.1.toNat++be 4 x.2.toNat++ks l
theorem vt (A B:List Sp):ks (A++B)=ks A++ks B:=by
 induction A with
 | nil=>rfl
 | cons x A ih=>rw[List.cons_append];show _++ks (A++B)=(_++ks A)++ks B;rw[ih,<-List.append_assoc]
theorem mg (L:List Sp):(ks L).length=8*L.length:=by
 induction L with
 | nil=>rfl
 | cons x L ih=>show(be 4 _++be 4 _++ks L).length=_;rw[List.length_append,List.length_append,dr,dr,ih,List.length_cons];omega
def Sg.head (g:Sg):List UInt8:=be 2 g.fp.toNat++be 2 g.tp.toNat++be 4 g.sq.toNat++be 4 g.ak.toNat++be 1 g.flag++be 1 g.bl.length++be 2 g.win.toNat++be 2 g.mss.toNat
theorem Sg.head_length (g:Sg):g.head.length=18:=by
 unfold Sg.head
 simp[dr]
def Sg.wr (g:Sg)(sum:Nat):List UInt8:=g.head++be 2 sum++ks g.bl++g.s
theorem Sg.wr_length (g:Sg)(sum:Nat):(g.wr sum).length=20+8*g.bl.length+g.s.length:=by
 unfold Sg.wr
 simp[dr,Sg.head_length,mg]
 omega
def Sg.psd (g:Sg)(src dst:Nat):List UInt8:=be 4 src++be 4 dst++(be 2 6++be 2 (g.wr 0).length)++g.wr 0
def Sg.encL (g:Sg)(src dst:Nat):List UInt8:=g.wr (rt (g.psd src dst))
theorem xF (l:List UInt8):rt l<65536:=by
 unfold rt;omega
def lu (b:Nat):List Nat->List UInt8
 | []=>[]
 | n::l=>be b n++lu b l
theorem vu (b:Nat)(A B:List Nat):lu b (A++B)=lu b A++lu b B:=by
 induction A with
 | nil=>rfl
 | cons x A ih=>rw[List.cons_append];show _++lu b (A++B)=(_++lu b A)++lu b B;rw[ih,List.append_assoc]
theorem vv (b:Nat)(L:List Nat):(lu b L).length=b*L.length:=by
 induction L with
 | nil=>rfl
 | cons x L ih=>show(be b x++lu b L).length=_;rw[List.length_append,dr,ih,List.length_cons,Nat.mul_add];omega
theorem xg {A B C:List UInt8}{a n:Nat}(ha:A.length=a)(hn:B.length=n):((A++B++C).drop a).take n=B:=by
 subst ha;subst hn;rw[List.append_assoc,List.drop_left,List.take_left]
theorem cK {e:Int}{l:List Sp}(h:aH e l=true){i:Int}(hi:af i l):e<i:=(gt h hi).1
theorem gh {e1 e2:Int}{A B:List Sp}(hA:aH e1 A=true)(hB:aH e2 B=true)(h:∀i,af i A↔af i B):A=B:=by
 induction A generalizing e1 e2 B with
 | nil =>
  cases B with
  | nil=>rfl
  | cons y t =>
   rw[aA]at hB;exact(aY ((h y.1).2 (mem_cons.2 (.inl ⟨Int.le_refl _,hB.1.2.2.1⟩)))).elim
 | cons x s ih =>
  cases B with
  | nil =>
   rw[aA]at hA;exact(aY ((h x.1).1 (mem_cons.2 (.inl ⟨Int.le_refl _,hA.1.2.2.1⟩)))).elim
  | cons y t =>
   rw[aA]at hA hB;have gx:∀i,af i s->x.2<i:=fun i hi=>cK hA.2 hi;have gy:∀i,af i t->y.2<i:=fun i hi=>cK hB.2 hi;have k:∀i,(x.1<=i/\i<x.2)\/af i s↔(y.1<=i/\i<y.2)\/af i t:=fun i=>by rw[<-mem_cons,<-mem_cons];exact h i
   have e1:x.1=y.1:=by
    rcases(k x.1).1 (.inl (by omega))with a | a
    ·rcases(k y.1).2 (.inl (by omega))with b | b
     ·omega
     have:=gx _ b;omega
    have:=gy _ a
    rcases(k y.1).2 (.inl (by omega))with b | b
    ·omega
    have:=gx _ b;omega
   have e2:x.2=y.2:=by
    rcases(show x.2<y.2\/y.2<x.2\/x.2=y.2 by omega)with a | a | a
    ·rcases(k x.2).2 (.inl (by omega))with b | b
     ·omega
     have:=gx _ b;omega
    ·rcases(k y.2).1 (.inl (by omega))with b | b
     ·omega
     have:=gy _ b;omega
    exact a
   obtain rfl:x=y:=Prod.ext e1 e2;rw[ih hA.2 hB.2 (fun i=> ?_)]
   constructor
   ·intro hi;have:=gx i hi
    rcases(k i).1 (.inr hi)with b | b
    ·omega
    exact b
   intro hi;have:=gy i hi
   rcases(k i).2 (.inr hi)with b | b
   ·omega
   exact b
theorem oR {e:Int}{A B:List Sp}{m:Int}(hA:aH e A=true)(hm:∀i,af i A->i<m)(he:e<m)(hB:aH m B=true):aH e (A++B)=true:=by
 induction A generalizing e with
 | nil=>exact dV hB (by omega)
 | cons x l ih =>
  rw[aA]at hA;rw[List.cons_append,aA];have hx:=hm (x.2-1) (mem_cons.2 (.inl (by omega)));refine⟨hA.1,?_⟩
  rcases(show x.2<m\/x.2=m by omega)with h | h
  ·exact ih hA.2 (fun i hi=>hm i (mem_cons.2 (.inr hi))) h
  cases l with
  | nil=>rw[h];exact hB
  | cons y l =>
   have h2:=hA.2;rw[aA]at h2;have:=hm y.1 (mem_cons.2 (.inr (mem_cons.2 (.inl (by omega)))));omega
def gb (x:Sp):Prop:=0<=x.1/\x.1<x.2/\x.2<=1099511627776
theorem bO {e:Int}{L:List Sp}(h:aH e L=true):∀x∈L,gb x:=by
 induction L generalizing e with
 | nil=>intro x hx;cases hx
 | cons y l ih =>
  rw[aA]at h;intro x hx
  rcases List.mem_cons.1 hx with rfl | hx
  ·exact⟨h.1.1,h.1.2.2.1,h.1.2.2.2⟩
  exact ih h.2 x hx
def uh (L:List Sp):List Sp:=L.foldl eN []
theorem qJ {L:List Sp}(h:∀x∈L,gb x):ae (uh L)=true/\∀i,af i (uh L)↔af i L:=by
 have key:∀(L A:List Sp),(∀x∈L,gb x)->ae A=true->ae (L.foldl eN A)=true/\∀i,af i (L.foldl eN A)↔af i A\/af i L:=by
  intro L
  induction L with
  | nil=>intro A _ hA;exact⟨hA,fun i=>by simp[aY]⟩
  | cons x l ih =>
   intro A h hA;have hx:=h x List.mem_cons_self;have ht:cV A x=true:=bY.2 ⟨hA,hx⟩;obtain⟨a1,a2⟩:=gR ht;obtain⟨b1,b2⟩:=ih (eN A x) (fun y hy=>h y (List.mem_cons_of_mem _ hy)) a1;refine⟨b1,fun i=> ?_⟩;show af i (l.foldl eN (eN A x))↔_;rw[b2,a2,mem_cons]
   constructor
   ·rintro ((h | h) | h)
    ·exact .inr (.inl h)
    ·exact .inl h
    exact .inr (.inr h)
   rintro (h | h | h)
   ·exact .inl (.inr h)
   ·exact .inl (.inl h)
   exact .inr h
 obtain⟨a,b⟩:=key L [] h rfl;exact⟨a,fun i=>by unfold uh;rw[b];simp[aY]⟩
def cZ (low:Int)(L:List Sp):List Sp:=aw (L.map fun x=>(max x.1 low,x.2))
theorem iO (low:Int)(A B:List Sp):cZ low (A++B)=cZ low A++cZ low B:=by unfold cZ aw;rw[List.map_append,List.filter_append]
theorem lC (low:Int)(x:Sp):cZ low [x]=one (max x.1 low) x.2:=by
 unfold cZ aw one;by_cases h:max x.1 low<x.2
 ·simp[h]
 simp[h]
theorem lD {low i:Int}{L:List Sp}:af i (cZ low L)↔low<=i/\af i L:=by
 induction L with
 | nil =>
     constructor
     ·intro h;exact(aY h).elim
     intro h;exact(aY h.2).elim
 | cons x l ih =>
  rw[show x::l=[x]++l from rfl,iO,mem_append,mem_append,ih,lC,jj,mem_cons]
  constructor
  ·rintro (h | h)
   ·exact⟨by omega,.inl (.inl ⟨by omega,h.2⟩)⟩
   exact⟨h.1,.inr h.2⟩
  rintro⟨h,(k | k) | k⟩
  ·exact .inl ⟨by omega,k.2⟩
  ·exact(aY k).elim
  exact .inr ⟨h,k⟩
theorem mh {low:Int}{L:List Sp}(h0:0<=low)(h:∀x∈L,gb x):∀x∈cZ low L,gb x:=by
 intro x hx;unfold cZ aw at hx;obtain⟨h1,h2⟩:=List.mem_filter.1 hx;obtain⟨y,hy,rfl⟩:=List.mem_map.1 h1;have:=h y hy;unfold gb at this|-;dsimp only at h2|-;rw[decide_eq_true_iff]at h2;omega
def bF (low:Int)(L:List Sp):List Sp:=uh (cZ low L)
theorem cN {low:Int}{L:List Sp}(h0:0<=low)(h:∀x∈L,gb x):ae (bF low L)=true/\∀i,af i (bF low L)↔low<=i/\af i L:=by
 obtain⟨a,b⟩:=qJ (mh h0 h);exact⟨a,fun i=>by unfold bF;rw[b,lD]⟩
def ft (out:List Sp)(x:Sp):List Sp :=
 match out.getLast? with
 | none=>[x]
 | some l=>if x.1<=l.2 then out.dropLast++[(l.1,max l.2 x.2)]else out++[x]
structure MrgI (done:List Sp)(out:List Sp):Prop where
 canon:ae out=true
 mem:∀i,af i out↔af i done
 last:∀l,out.getLast? =some l->∃y∈done,l.1<=y.1
theorem fz {e:Int}{A:List Sp}{l:Sp}:aH e (A++[l])=true↔aH e A=true/\gb l/\e<l.1/\∀x∈A,x.2<l.1:=by
 induction A generalizing e with
 | nil =>
  rw[List.nil_append,aA];unfold gb
  constructor
  ·rintro⟨h,-⟩;exact⟨rfl,by omega,by omega,fun x hx=>by cases hx⟩
  rintro⟨-,h,h2,-⟩;exact⟨by omega,rfl⟩
 | cons y s ih =>
  rw[List.cons_append,aA,aA,ih]
  constructor
  ·rintro⟨h1,h2,h3,h4,h5⟩;refine⟨⟨h1,h2⟩,h3,by omega,fun x hx=> ?_⟩
   rcases List.mem_cons.1 hx with rfl | hx
   ·exact h4
   exact h5 x hx
  rintro⟨⟨h1,h2⟩,h3,h4,h5⟩;exact⟨h1,h2,h3,h5 y List.mem_cons_self,fun x hx=>h5 x (List.mem_cons_of_mem _ hx)⟩
theorem et {i:Int}{A:List Sp}{l:Sp}:af i (A++[l])↔af i A\/(l.1<=i/\i<l.2):=by
 rw[mem_append,mem_cons];simp[aY]
theorem ed (out:List Sp):out=[]\/∃A l,out=A++[l]:=by
 rcases List.eq_nil_or_concat out with h | ⟨A,l,h⟩
 ·exact .inl h
 exact .inr ⟨A,l,by rw[h,List.concat_eq_append]⟩
theorem MrgI.step {done out:List Sp}(h:MrgI done out){x:Sp}(hx:gb x)(hs:∀y∈done,y.1<=x.1):MrgI (done++[x]) (ft out x):=by
 rcases ed out with rfl | ⟨A,l,rfl⟩
 ·have hd:∀i,¬af i done:=fun i hi=>aY ((h.mem i).2 hi);show MrgI _ [x];refine⟨gu.2 hx,fun i=> ?_,fun l hl=> ?_⟩
  ·rw[et,mem_cons]
   simp[aY,hd i]
  simp at hl;subst hl;exact⟨x,by simp,Int.le_refl _⟩
 have hg:(A++[l]).getLast? =some l:=by simp
 unfold ft;rw[hg];have hc:=fz.1 (show aH (-1) (A++[l])=true from h.canon);obtain⟨y,hy,a6⟩:=h.last l hg;have hlx:l.1<=x.1:=by have:=hs y hy;omega
 unfold gb at hx;obtain⟨c1,c2,c3,c4⟩:=hc;unfold gb at c2;show MrgI (done++[x]) (if x.1<=l.2 then(A++[l]).dropLast++[(l.1,max l.2 x.2)]else A++[l]++[x]);split
 ·rename_i hle;rw[List.dropLast_concat];refine⟨fz.2 ⟨c1,by unfold gb;dsimp only;omega,c3,c4⟩,fun i=> ?_,fun l' hl'=> ?_⟩
  ·rw[et,et,<-h.mem i,et];dsimp only
   constructor
   ·rintro (a | a)
    ·exact .inl (.inl a)
    by_cases k:i<l.2
    ·exact .inl (.inr ⟨a.1,k⟩)
    exact .inr (by omega)
   rintro ((a | a) | a)
   ·exact .inl a
   ·exact .inr (by omega)
   exact .inr (by omega)
  simp at hl';subst hl';exact⟨y,List.mem_append_left _ hy,a6⟩
 rename_i hle;refine⟨fz.2 ⟨h.canon,by unfold gb;omega,by omega,fun z hz=> ?_⟩,fun i=> ?_,fun l' hl'=> ?_⟩
 ·rcases List.mem_append.1 hz with hz | hz
  ·have:=c4 z hz;omega
  rw[List.mem_singleton.1 hz];omega
 ·rw[et,h.mem i,et]
 simp at hl';subst hl';exact⟨x,by simp,Int.le_refl _⟩
theorem MrgI.start:MrgI [] []:=⟨rfl,fun i=>Iff.rfl,fun l hl=>by simp at hl⟩
def dI (a b:List Sp):List Sp:=a.flatMap fun x=>bL x.2 x.1 b
theorem qK (a b:List Sp)(x:Sp):dI (a++[x]) b=dI a b++bL x.2 x.1 b:=by unfold dI;rw[List.flatMap_append];simp
theorem ew {e eb:Int}{a b:List Sp}(ha:aH e a=true)(hb:aH eb b=true):aH e (dI a b)=true/\∀i,af i (dI a b)↔af i a/\¬af i b:=by
 induction a generalizing e with
 | nil=>exact⟨rfl,fun i=>by unfold dI;simp[aY]⟩
 | cons x l ih =>
  rw[aA]at ha;obtain⟨c1,c2⟩:=ih ha.2;obtain⟨g1,g2⟩:=jr (t:=x.2) (a:=x.1) hb ha.1.1 ha.1.2.2.2 e ha.1.2.1;show aH e (bL x.2 x.1 b++dI l b)=true/\∀i,af i (bL x.2 x.1 b++dI l b)↔_;refine⟨oR g1 (fun i hi=>((g2 i).1 hi).1.2) (by omega) c1,fun i=> ?_⟩;rw[mem_append,g2,c2,mem_cons]
  constructor
  ·rintro (⟨h,k⟩ | ⟨h,k⟩)
   ·exact⟨.inl h,k⟩
   exact⟨.inr h,k⟩
  rintro⟨h | h,k⟩
  ·exact .inl ⟨h,k⟩
  exact .inr ⟨h,k⟩
def jb (at':Int)(l:List Sp):List Sp:=l.dropWhile fun x=>decide (x.2<=at')
theorem cG (at':Int)(x:Sp)(l:List Sp):jb at' (x::l)=if x.2<=at' then jb at' l else x::l:=by
 unfold jb;rw[List.dropWhile_cons];by_cases h:x.2<=at' <;> simp[h]
theorem ui {a b:Int}(h:a<=b)(l:List Sp):jb b (jb a l)=jb b l:=by
 induction l with
 | nil=>rfl
 | cons x l ih =>
  rw[cG a];split
  ·rw[ih,cG b,if_pos (by omega)]
  rfl
theorem mi {t a:Int}(l:List Sp):bL t a (jb a l)=bL t a l:=by
 induction l with
 | nil=>rfl
 | cons x l ih =>
  rw[cG];split
  ·rename_i h;rw[ih];show _=if x.2<=a then bL t a l else _;rw[if_pos h]
  rfl
structure Sc where
 una:Int
 next:Int
 mark:Int
 sk:List Sp
 ag:List Sp
def uj:Sc:=⟨0,0,0,[],[]⟩
structure Sc.Ok (s:Sc):Prop where
 u0:0<=s.una
 un:s.una<=s.next
 n40:s.next<=1099511627776
 m0:0<=s.mark
 mn:s.mark<=s.next
 csk:ae s.sk=true
 cag:ae s.ag=true
 msk:∀i,af i s.sk->s.una<=i/\i<s.next
 mag:∀i,af i s.ag->s.una<=i/\i<s.next/\¬af i s.sk
theorem wH:uj.Ok:=⟨by decide,by decide,by decide,by decide,by decide,rfl,rfl,fun _ h=>(aY h).elim,fun _ h=>(aY h).elim⟩
def Sc.sentB (s:Sc)(to:Int):Bool:=decide (s.next<=to/\to<=1099511627776)
def Sc.sent (s:Sc)(to:Int):Sc:=if s.sentB to=true then { s with next:=to }else s
def Sc.sentE (s:Sc)(to:Int):Int:=if s.sentB to=true then 0 else 140
theorem Sc.Ok.sent {s:Sc}(h:s.Ok)(to:Int):(s.sent to).Ok:=by
 unfold Sc.sent;split
 ·rename_i hb;unfold Sc.sentB at hb;rw[decide_eq_true_iff]at hb;exact⟨h.u0,Int.le_trans h.un hb.1,hb.2,h.m0,Int.le_trans h.mn hb.1,h.csk,h.cag,fun i hi=>by have:=h.msk i hi;dsimp only;omega,fun i hi=>by have:=h.mag i hi;exact⟨this.1,by dsimp only;omega,this.2.2⟩⟩
 exact h
def Sc.inB (s:Sc)(x:Sp):Bool:=decide (0<=x.1/\x.1<x.2/\x.2<=s.next)
def Sc.ackB (s:Sc)(una:Int)(l:List Sp):Bool:=decide (0<=una/\una<=s.next)&&l.all s.inB
def Sc.ackS (s:Sc)(una:Int)(l:List Sp):Sc :=
 { s with una:=max s.una una,sk:=bF (max s.una una) (s.sk++l),ag:=dI (bF (max s.una una) s.ag) (bF (max s.una una) (s.sk++l)) }
def Sc.acked (s:Sc)(una:Int)(l:List Sp):Sc:=if s.ackB una l=true then s.ackS una l else s
def Sc.ackN (s:Sc)(una:Int)(l:List Sp):Int:=if s.ackB una l=true then max s.una una+aC (s.ackS una l).sk-(s.una+aC s.sk)else 0
def Sc.ackE (s:Sc)(una:Int)(l:List Sp):Int:=if s.ackB una l=true then 0 else 140
theorem Sc.inB_iff {s:Sc}{x:Sp}:s.inB x=true↔0<=x.1/\x.1<x.2/\x.2<=s.next:=by unfold Sc.inB;rw[decide_eq_true_iff]
theorem Sc.ackB_iff {s:Sc}{una:Int}{l:List Sp}:s.ackB una l=true↔(0<=una/\una<=s.next)/\∀x∈l,s.inB x=true:=by
 unfold Sc.ackB;rw[Bool.and_eq_true,decide_eq_true_iff,List.all_eq_true]
theorem Sc.Ok.okl {s:Sc}(h:s.Ok){l:List Sp}(hl:∀x∈l,s.inB x=true):∀x∈s.sk++l,gb x:=by
 intro x hx
 rcases List.mem_append.1 hx with hx | hx
 ·exact bO h.csk x hx
 have:=Sc.inB_iff.1 (hl x hx);have:=h.n40;unfold gb;omega
theorem Sc.Ok.ack_sk {s:Sc}(h:s.Ok){una:Int}{l:List Sp}(hb:s.ackB una l=true):ae (s.ackS una l).sk=true/\∀i,af i (s.ackS una l).sk↔max s.una una<=i/\(af i s.sk\/af i l):=by
 obtain⟨h1,h2⟩:=Sc.ackB_iff.1 hb;have hu:=h.u0;obtain⟨c1,c2⟩:=cN (low:=max s.una una) (by omega) (h.okl h2);exact⟨c1,fun i=>by show af i (bF _ _)↔_;rw[c2,mem_append]⟩
theorem Sc.Ok.ack_ag {s:Sc}(h:s.Ok){una:Int}{l:List Sp}(hb:s.ackB una l=true):ae (s.ackS una l).ag=true/\∀i,af i (s.ackS una l).ag↔(max s.una una<=i/\af i s.ag)/\¬af i (s.ackS una l).sk:=by
 have hu:=h.u0;obtain⟨c1,c2⟩:=cN (low:=max s.una una) (L:=s.ag) (by omega) (bO h.cag);obtain⟨d1,d2⟩:=ew c1 (h.ack_sk hb).1;exact⟨d1,fun i=>by refine Iff.trans (d2 i) ?_;rw[c2]⟩
theorem Sc.Ok.ackS {s:Sc}(h:s.Ok){una:Int}{l:List Sp}(hb:s.ackB una l=true):(s.ackS una l).Ok:=by
 obtain⟨h1,h2⟩:=Sc.ackB_iff.1 hb;obtain⟨c1,c2⟩:=h.ack_sk hb;obtain⟨d1,d2⟩:=h.ack_ag hb;have hu:=h.u0;have hn:=h.un;refine⟨by show 0<=max s.una una;omega,by show max s.una una<=s.next;omega,h.n40,h.m0,h.mn,c1,d1,fun i hi=> ?_,fun i hi=> ?_⟩
 ·obtain⟨a,b⟩:=(c2 i).1 hi;refine⟨a,?_⟩
  rcases b with b | b
  ·exact(h.msk i b).2
  obtain⟨x,hx,aa⟩:=b;have:=Sc.inB_iff.1 (h2 x hx);show i<s.next;omega
 obtain⟨⟨a,b⟩,c⟩:=(d2 i).1 hi;exact⟨a,(h.mag i b).2.1,c⟩
theorem Sc.Ok.acked {s:Sc}(h:s.Ok)(una:Int)(l:List Sp):(s.acked una l).Ok:=by
 unfold Sc.acked;split
 ·rename_i hb;exact h.ackS hb
 exact h
def Sc.timeout (s:Sc):Sc:={ s with sk:=[],ag:=[],mark:=s.next }
theorem Sc.Ok.timeout {s:Sc}(h:s.Ok):s.timeout.Ok :=
 ⟨h.u0,h.un,h.n40,by have:=h.u0;have:=h.un;show 0<=s.next;omega,Int.le_refl _,rfl,rfl,fun _ h=>(aY h).elim,fun _ h=>(aY h).elim⟩
def Sc.lostOf (s:Sc)(m:Int)(g:Sp):Sp:=if aC (jb g.1 s.sk)/3<m/\(jb g.1 s.sk).length<3 then(g.1,max g.1 (min g.2 s.mark))else g
def Sc.gaps (s:Sc):List Sp:=bj s.sk (s.una,s.next)
def Sc.lost (s:Sc)(m:Int):List Sp:=if m<1 then []else dI (aw (s.gaps.map (s.lostOf m))) s.ag
def iP (s:Sc)(m:Int):List Sp->Int
 | []=>0
 | g::l=>(g.2-g.1-((s.lostOf m g).2-(s.lostOf m g).1))+iP s m l
def Sc.pipe (s:Sc)(m:Int):Int:=if m<1 then 0 else aC s.ag+iP s m s.gaps
def Sc.retS (s:Sc)(x:Sp):Sc:={ s with ag:=bF s.una (s.ag++dI (bF s.una [x]) s.sk) }
def Sc.ret (s:Sc)(x:Sp):Sc:=if s.inB x=true then s.retS x else s
def Sc.retE (s:Sc)(x:Sp):Int:=if s.inB x=true then 0 else 140
theorem Sc.Ok.ret_spec {s:Sc}(h:s.Ok){x:Sp}(hx:s.inB x=true):(ae (bF s.una [x])=true/\∀y∈s.ag++dI (bF s.una [x]) s.sk,gb y)/\ae (s.retS x).ag=true/\∀i,af i (s.retS x).ag↔af i s.ag\/(s.una<=i/\(x.1<=i/\i<x.2)/\¬af i s.sk):=by
 have h1:=Sc.inB_iff.1 hx;have hn:=h.n40;have a7:∀y∈[x],gb y:=fun y hy=>by rw[List.mem_singleton.1 hy];unfold gb;omega
 obtain⟨c1,c2⟩:=cN (low:=s.una) h.u0 a7;obtain⟨d1,d2⟩:=ew c1 h.csk
 have hall:∀y∈s.ag++dI (bF s.una [x]) s.sk,gb y:=fun y hy=>by
  rcases List.mem_append.1 hy with hy | hy
  ·exact bO h.cag y hy
  exact bO d1 y hy
 obtain⟨e1,e2⟩:=cN (low:=s.una) h.u0 hall;refine⟨⟨c1,hall⟩,e1,fun i=> ?_⟩;show af i (bF _ _)↔_;rw[e2,mem_append,d2,c2,mem_cons]
 constructor
 ·rintro⟨a,b | ⟨⟨b,c⟩,d⟩⟩
  ·exact .inl b
  rcases c with c | c
  ·exact .inr ⟨a,c,d⟩
  exact(aY c).elim
 rintro (b | ⟨a,b,c⟩)
 ·exact⟨(h.mag i b).1,.inl b⟩
 exact⟨a,.inr ⟨⟨a,.inl b⟩,c⟩⟩
theorem Sc.Ok.retS {s:Sc}(h:s.Ok){x:Sp}(hx:s.inB x=true):(s.retS x).Ok:=by
 obtain⟨-,e1,e2⟩:=h.ret_spec hx;have h1:=Sc.inB_iff.1 hx;refine⟨h.u0,h.un,h.n40,h.m0,h.mn,h.csk,e1,h.msk,fun i hi=> ?_⟩
 rcases(e2 i).1 hi with b | ⟨a,b,c⟩
 ·exact h.mag i b
 exact⟨a,by show i<s.next;omega,c⟩
theorem Sc.Ok.ret {s:Sc}(h:s.Ok)(x:Sp):(s.ret x).Ok:=by
 unfold Sc.ret;split
 ·rename_i hx;exact h.retS hx
 exact h
structure Bx where
 ring:List UInt8
 rd:Int
 nx:Int
 bl:List Sp
 nw:Int
def ee (rg:List UInt8)(o:Nat)(cs:List UInt8):List UInt8:=rg.take o++(cs++rg.drop (o+cs.length))
def cc (rg:List UInt8)(off:Nat)(s:List UInt8):List UInt8 :=
 ee (ee rg (off%rg.length) (s.take (min s.length (rg.length-off%rg.length)))) 0 (s.drop (min s.length (rg.length-off%rg.length)))
def dx (s:List UInt8)(off:Int)(g:Sp):List UInt8:=(s.drop (g.1-off).toNat).take (g.2-g.1).toNat
def bZ (rg:List UInt8)(off:Int)(s:List UInt8)(gs:List Sp):List UInt8:=gs.foldl (fun r g=>cc r g.1.toNat (dx s off g)) rg
def dy (nx:Int):List Sp->Int
 | []=>nx
 | x::_=>if x.1=nx then x.2 else nx
def fM (nx:Int):List Sp->List Sp
 | []=>[]
 | x::t=>if x.1=nx then t else x::t
def Bx.lo (b:Bx)(off:Int):Int:=max off b.nx
def Bx.hi (b:Bx)(off:Int)(k:Nat):Int:=min (off+k) (b.rd+b.ring.length)
def Bx.putP (b:Bx)(off:Int)(s:List UInt8)(p:Sp):Bx :=
 { ring:=bZ b.ring off s (bj b.bl p),rd:=b.rd,nx:=dy b.nx (eN b.bl p),bl:=fM b.nx (eN b.bl p),nw:=p.1 }
def Bx.put (b:Bx)(off:Int)(s:List UInt8):Bx :=
 if off<0\/1099511627776<off then b else if b.hi off s.length<=b.lo off then b else b.putP off s (b.lo off,b.hi off s.length)
def Bx.putN (b:Bx)(off:Int)(k:Nat):Int :=
 if off<0\/1099511627776<off then 0 else if b.hi off k<=b.lo off then 0 else dH (bj b.bl (b.lo off,b.hi off k))
def rv (off:Int):Int:=if off<0\/1099511627776<off then 130 else 0
def fo (rg:List UInt8)(rd k:Nat):List UInt8:=((rg.drop (rd%rg.length)).take k)++rg.take (k-(rg.length-rd%rg.length))
def Bx.take (b:Bx)(k:Int):Bx:=if min k (b.nx-b.rd)<=0 then b else { b with rd:=b.rd+min k (b.nx-b.rd) }
def Bx.takeS (b:Bx)(k:Int):List UInt8:=if min k (b.nx-b.rd)<=0 then []else fo b.ring b.rd.toNat (min k (b.nx-b.rd)).toNat
def pY (n:Nat):Bx:=⟨List.replicate n 0,0,0,[],0⟩
structure Bx.Ok (b:Bx):Prop where
 one:1<=b.ring.length
 most:b.ring.length<=8192
 rd0:0<=b.rd
 rdnx:b.rd<=b.nx
 nxend:b.nx<=b.rd+b.ring.length
 small:b.rd+b.ring.length<=1099511627776
 canon:ae b.bl=true
 mem:∀i,af i b.bl->b.nx<i/\i<b.rd+b.ring.length
theorem cq (rg:List UInt8)(o:Nat)(cs:List UInt8)(h:o+cs.length<=rg.length):(ee rg o cs).length=rg.length:=by
 unfold ee;rw[List.length_append,List.length_append,List.length_take,List.length_drop];omega
theorem dp (rg:List UInt8)(off:Nat)(s:List UInt8)(h1:1<=rg.length)(h:s.length<=rg.length):(cc rg off s).length=rg.length:=by
 have hm:off%rg.length<rg.length:=Nat.mod_lt _ (by omega);unfold cc;have e1:(ee rg (off%rg.length) (s.take (min s.length (rg.length-off%rg.length)))).length=rg.length:=cq _ _ _ (by rw[List.length_take];omega);rw[cq _ _ _ (by rw[e1,List.length_drop];omega),e1]
theorem jR (s:List UInt8)(off:Int)(g:Sp):(dx s off g).length<=(g.2-g.1).toNat:=by
 unfold dx;rw[List.length_take];omega
def bP (nw:Int)(x:Sp):Bool:=decide (x.1<=nw/\nw<x.2)
def dh (nw:Int)(bl:List Sp):List Sp:=bl.filter (bP nw)++(bl.filter fun x=> !bP nw x).reverse
theorem gA (nw:Int)(bl:List Sp):(dh nw bl).Perm bl :=
 (List.Perm.append_left _ (List.reverse_perm _)).trans (List.filter_append_perm (bP nw) bl)
theorem ef (nw:Int)(bl:List Sp):(dh nw bl).length=bl.length:=(gA nw bl).length_eq
def Bx.rep (b:Bx):List Sp:=(dh b.nw b.bl).take 3
theorem Bx.rep_mem {b:Bx}{x:Sp}(h:x∈b.rep):x∈b.bl:=(gA b.nw b.bl).mem_iff.1 (List.mem_of_mem_take h)
theorem Bx.rep_length (b:Bx):b.rep.length=min b.bl.length 3:=by
 unfold Bx.rep;rw[List.length_take,ef,Nat.min_comm]
def Bx.has (b:Bx)(i:Int):Prop:=(0<=i/\i<b.nx)\/af i b.bl
theorem Bx.Ok.nope {b:Bx}(h:b.Ok):¬b.has b.nx:=by
 rintro (⟨_,g⟩ | g)
 ·omega
 have:=(h.mem _ g).1;omega
theorem qL {nx:Int}{L:List Sp}(hc:ae L=true)(hge:∀i,af i L->nx<=i)(h0:0<=nx) :
  ae (fM nx L)=true/\(∀i,af i (fM nx L)->dy nx L<i)/\nx<=dy nx L/\(∀i,((0<=i/\i<dy nx L)\/af i (fM nx L))↔((0<=i/\i<nx)\/af i L))/\(∀i,af i (fM nx L)->af i L)/\(dy nx L=nx\/af (dy nx L-1) L):=by
 cases L with
 | nil=>exact⟨rfl,fun i h=>(aY h).elim,Int.le_refl _,fun i=>Iff.rfl,fun _ h=>h,.inl rfl⟩
 | cons x t =>
  have hc':=hc;unfold ae at hc;rw[aA]at hc;have hx:nx<=x.1:=hge x.1 (mem_cons.2 (.inl ⟨Int.le_refl _,hc.1.2.2.1⟩));by_cases e:x.1=nx
  ·have e1:dy nx (x::t)=x.2:=by show(if x.1=nx then x.2 else nx)=_;rw[if_pos e]
   have e2:fM nx (x::t)=t:=by show(if x.1=nx then t else x::t)=_;rw[if_pos e]
   rw[e1,e2];refine⟨dV hc.2 (by omega),fun i hi=>cK hc.2 hi,by omega,fun i=> ?_,fun i hi=>mem_cons.2 (.inr hi),.inr (mem_cons.2 (.inl (by omega)))⟩;rw[mem_cons]
   constructor
   ·rintro (h | h)
    ·by_cases g:i<nx
     ·exact .inl ⟨h.1,g⟩
     exact .inr (.inl (by omega))
    exact .inr (.inr h)
   rintro (h | h | h)
   ·exact .inl (by omega)
   ·exact .inl (by omega)
   exact .inr h
  have e1:dy nx (x::t)=nx:=by show(if x.1=nx then x.2 else nx)=_;rw[if_neg e]
  have e2:fM nx (x::t)=x::t:=by show(if x.1=nx then t else x::t)=_;rw[if_neg e]
  rw[e1,e2];refine⟨hc',fun i hi=> ?_,Int.le_refl _,fun i=>Iff.rfl,fun i h=>h,.inl rfl⟩
  rcases mem_cons.1 hi with h | h
  ·omega
  have:=cK hc.2 h;omega
theorem oS {rg:List UInt8}{off:Int}{s:List UInt8}{gs:List Sp}(h1:1<=rg.length)(h:∀g∈gs,(g.2-g.1).toNat<=rg.length):(bZ rg off s gs).length=rg.length:=by
 induction gs generalizing rg with
 | nil=>rfl
 | cons g gs ih =>
  have e:(cc rg g.1.toNat (dx s off g)).length=rg.length:=dp _ _ _ h1 (Nat.le_trans (jR _ _ _) (h g (by simp)));show(bZ (cc rg g.1.toNat (dx s off g)) off s gs).length=_;rw[ih (by omega) (fun x hx=>by rw[e];exact h x (by simp[hx])),e]
theorem gj {e:Int}{L:List Sp}(h:aH e L=true){g:Sp}(hg:g∈L):g.1<g.2/\af g.1 L/\af (g.2-1) L:=by
 induction L generalizing e with
 | nil=>cases hg
 | cons x t ih =>
  rw[aA]at h
  rcases List.mem_cons.1 hg with rfl | hg
  ·exact⟨h.1.2.2.1,mem_cons.2 (.inl (by omega)),mem_cons.2 (.inl (by omega))⟩
  obtain⟨a,b,c⟩:=ih h.2 hg;exact⟨a,mem_cons.2 (.inr b),mem_cons.2 (.inr c)⟩
theorem Bx.takes {b:Bx}(ok:b.Ok){off:Int}{k:Nat}(h0:0<=off)(hlt:b.lo off<b.hi off k):cV b.bl (b.lo off,b.hi off k)=true:=by
 refine bY.2 ⟨ok.canon,?_⟩;have:=ok.small;unfold Bx.lo Bx.hi at *;dsimp only;omega
theorem Bx.put_spec {b:Bx}(ok:b.Ok){off:Int}(s:List UInt8)(h0:0<=off)(h1:off<=1099511627776) :
  (b.put off s).Ok/\(b.put off s).rd=b.rd/\(b.put off s).ring.length=b.ring.length/\b.nx<=(b.put off s).nx/\∀i,(b.put off s).has i↔b.has i\/(off<=i/\i<off+s.length/\i<b.rd+b.ring.length):=by
 have hr:=ok.rd0;have a9:=ok.rdnx;unfold Bx.put;rw[if_neg (by omega)];by_cases hlt:b.hi off s.length<=b.lo off
 ·rw[if_pos hlt];refine⟨ok,rfl,rfl,Int.le_refl _,fun i=>⟨.inl,?_⟩⟩;rintro (h | h)
  ·exact h
  unfold Bx.lo Bx.hi at hlt;exact .inl (by omega)
 rw[if_neg hlt];have ht:=Bx.takes ok h0 (by omega:b.lo off<b.hi off s.length);obtain⟨ac,am⟩:=gR ht;obtain⟨gc,gm⟩:=cE ht;dsimp only at am gm;have hlo:b.lo off=max off b.nx:=rfl;have hhi:b.hi off s.length=min (off+s.length) (b.rd+b.ring.length):=rfl
 have hge:∀i,af i (eN b.bl (b.lo off,b.hi off s.length))->b.nx<=i/\i<b.rd+b.ring.length:=by
  intro i hi
  rcases(am i).1 hi with h | h
  ·omega
  have:=ok.mem i h;omega
 obtain⟨j1,j2,j3,j4,j5,j6⟩:=qL ac (fun i hi=>(hge i hi).1) (by omega)
 have hlen:(bZ b.ring off s (bj b.bl (b.lo off,b.hi off s.length))).length=b.ring.length:=by
  refine oS ok.one (fun g hg=> ?_);obtain⟨g1,g2,g3⟩:=gj gc hg;have:=(gm _).1 g2;have:=(gm _).1 g3;omega
 refine⟨?_,rfl,hlen,j3,fun i=> ?_⟩
 ·refine⟨by rw[show(b.putP off s (b.lo off,b.hi off s.length)).ring.length=_ from hlen];exact ok.one,by rw[show(b.putP off s (b.lo off,b.hi off s.length)).ring.length=_ from hlen];exact ok.most,hr,Int.le_trans a9 j3,?_,by rw[show(b.putP off s (b.lo off,b.hi off s.length)).ring.length=_ from hlen];exact ok.small,j1,fun i hi=> ?_⟩
  ·rw[show(b.putP off s (b.lo off,b.hi off s.length)).ring.length=_ from hlen];show dy b.nx _<=b.rd+_
   rcases j6 with e | h
   ·rw[e];exact ok.nxend
   have:=(hge _ h).2;omega
  rw[show(b.putP off s (b.lo off,b.hi off s.length)).ring.length=_ from hlen];exact⟨j2 i hi,(hge _ (j5 i hi)).2⟩
 refine(j4 i).trans ?_;rw[am];unfold Bx.has
 constructor
 ·rintro (h | h | h)
  ·exact .inl (.inl h)
  ·exact .inr (by omega)
  exact .inl (.inr h)
 rintro ((h | h) | h)
 ·exact .inl h
 ·exact .inr (.inr h)
 by_cases g:i<b.nx
 ·exact .inl (by omega)
 exact .inr (.inl (by omega))
theorem iQ (rg:List UInt8)(o:Nat)(cs:List UInt8)(h:o+cs.length<=rg.length)(p:Nat):(ee rg o cs)[p]? =if p<o then rg[p]? else if p<o+cs.length then cs[p-o]? else rg[p]? :=by
 unfold ee;have hl:(rg.take o).length=o:=by rw[List.length_take];omega
 by_cases h1:p<o
 ·rw[if_pos h1,List.getElem?_append_left (by omega),List.getElem?_take_of_lt h1]
 rw[if_neg h1,List.getElem?_append_right (by omega),hl];by_cases h2:p<o+cs.length
 ·rw[if_pos h2,List.getElem?_append_left (by omega)]
 rw[if_neg h2,List.getElem?_append_right (by omega),List.getElem?_drop]
 congr 1
 omega
theorem lv {n off j:Nat}(hj:j<n):(off+j)%n=if j<n-off%n then off%n+j else j-(n-off%n):=by
 have hm:off%n<n:=Nat.mod_lt _ (by omega);rw[Nat.add_mod,Nat.mod_eq_of_lt hj];by_cases h:j<n-off%n
 ·rw[if_pos h,Nat.mod_eq_of_lt (by omega)]
 rw[if_neg h,Nat.mod_eq_sub_mod (by omega),Nat.mod_eq_of_lt (by omega)];omega
theorem rx (rg:List UInt8)(off:Nat)(s:List UInt8)(h1:1<=rg.length)(hs:s.length<=rg.length){j:Nat}(hj:j<s.length):(cc rg off s)[(off+j)%rg.length]? =s[j]? :=by
 have hm:off%rg.length<rg.length:=Nat.mod_lt _ (by omega);have e1:(ee rg (off%rg.length) (s.take (min s.length (rg.length-off%rg.length)))).length=rg.length:=cq _ _ _ (by rw[List.length_take];omega);rw[lv (by omega)];unfold cc;rw[iQ _ _ _ (by rw[e1,List.length_drop];omega),iQ _ _ _ (by rw[List.length_take];omega),List.length_drop,List.length_take];by_cases h:j<rg.length-off%rg.length
 ·rw[if_pos h,if_neg (by omega),if_neg (by omega),if_neg (by omega),if_pos (by omega),List.getElem?_take_of_lt (by omega)]
  congr 1
  omega
 rw[if_neg h,if_neg (by omega),if_pos (by omega),List.getElem?_drop]
 congr 1
 omega
theorem qM (rg:List UInt8)(off:Nat)(s:List UInt8)(h1:1<=rg.length)(hs:s.length<=rg.length){p:Nat}(hp:p<rg.length)(hno:∀j,j<s.length->(off+j)%rg.length≠p):(cc rg off s)[p]? =rg[p]? :=by
 have hm:off%rg.length<rg.length:=Nat.mod_lt _ (by omega);have e1:(ee rg (off%rg.length) (s.take (min s.length (rg.length-off%rg.length)))).length=rg.length:=cq _ _ _ (by rw[List.length_take];omega);have a5:∀j,j<s.length->(if j<rg.length-off%rg.length then off%rg.length+j else j-(rg.length-off%rg.length))≠p:=fun j hj=>by rw[<-lv (by omega)];exact hno j hj
 unfold cc;rw[iQ _ _ _ (by rw[e1,List.length_drop];omega),iQ _ _ _ (by rw[List.length_take];omega),List.length_drop,List.length_take];by_cases c1:p<s.length-min s.length (rg.length-off%rg.length)
 ·exfalso
  have:=a5 (rg.length-off%rg.length+p) (by omega);rw[if_neg (by omega)]at this;omega
 rw[if_neg (by omega),if_neg (by omega)];by_cases c2:p<off%rg.length
 ·rw[if_pos c2]
 rw[if_neg c2,if_neg];intro c3;have:=a5 (p-off%rg.length) (by omega);rw[if_pos (by omega)]at this;omega
theorem uk {n r i j:Nat}(hi:r<=i/\i<r+n)(hj:r<=j/\j<r+n)(h:i%n=j%n):i=j:=by
 rcases Nat.le_total i j with hle | hle
 ·have h1:n∣(j-i):=Nat.dvd_of_mod_eq_zero (Nat.sub_mod_eq_zero_of_mod_eq h.symm)
  rcases Nat.eq_zero_or_pos (j-i)with e | e
  ·omega
  have:=Nat.le_of_dvd e h1;omega
 have h1:n∣(i-j):=Nat.dvd_of_mod_eq_zero (Nat.sub_mod_eq_zero_of_mod_eq h)
 rcases Nat.eq_zero_or_pos (i-j)with e | e
 ·omega
 have:=Nat.le_of_dvd e h1;omega
theorem qN {e:Int}{gs:List Sp}(hc:aH e gs=true){off r:Nat}{s:List UInt8}{n:Nat}(h1:1<=n)(hin:∀i,af i gs->(r:Int)<=i/\i<(r:Int)+n/\(off:Int)<=i/\i<(off:Int)+s.length)
  (rg:List UInt8)(hrg:rg.length=n){i:Nat}(hi:r<=i/\i<r+n) :
  (af (i:Int) gs->(bZ rg off s gs)[i%n]? =s[i-off]?)/\(¬af (i:Int) gs->(bZ rg off s gs)[i%n]? =rg[i%n]?):=by
 induction gs generalizing e rg with
 | nil=>exact⟨fun h=>(aY h).elim,fun _=>rfl⟩
 | cons g gs ih =>
  have hc':=hc;rw[aA]at hc;obtain⟨g1,g2,g3⟩:=gj hc' (List.mem_cons_self (a:=g) (l:=gs));have m1:=hin _ g2;have m2:=hin _ g3
  have hcl:(dx s off g).length=(g.2-g.1).toNat:=by
   unfold dx;rw[List.length_take,List.length_drop];omega
  have hfl:(cc rg g.1.toNat (dx s off g)).length=n:=by rw[dp _ _ _ (by omega) (by rw[hcl];omega)];exact hrg
  obtain⟨i1,i2⟩:=ih hc.2 (fun x hx=>hin x (mem_cons.2 (.inr hx))) (cc rg g.1.toNat (dx s off g)) hfl
  have hcut:∀j,j<(dx s off g).length->(dx s off g)[j]? =s[g.1.toNat-off+j]? :=by
   intro j hj;unfold dx;rw[hcl]at hj;rw[List.getElem?_take_of_lt hj,List.getElem?_drop]
   congr 1
   omega
  have a0:∀(x:Nat),g.1<=(x:Int)/\(x:Int)<g.2->(cc rg g.1.toNat (dx s off g))[x%n]? =s[x-off]? :=by
   intro x hx;have:=rx rg g.1.toNat (dx s off g) (by omega) (by rw[hcl];omega) (j:=x-g.1.toNat) (by rw[hcl];omega);rw[show g.1.toNat+(x-g.1.toNat)=x by omega,hrg,hcut _ (by rw[hcl];omega)]at this;rw[this]
   congr 1
   omega
  have aF:¬(g.1<=(i:Int)/\(i:Int)<g.2)->(cc rg g.1.toNat (dx s off g))[i%n]? =rg[i%n]? :=by
   intro hx;refine qM rg g.1.toNat (dx s off g) (by omega) (by rw[hcl];omega) (by rw[hrg];exact Nat.mod_lt _ (by omega)) (fun j hj=> ?_);rw[hrg,hcl]at *;intro hm;have:=uk (r:=r) (n:=n) (i:=g.1.toNat+j) (j:=i) (by omega) hi hm;omega
  show(_->(bZ (cc rg g.1.toNat (dx s off g)) off s gs)[i%n]? =_)/\(_->(bZ (cc rg g.1.toNat (dx s off g)) off s gs)[i%n]? =_);refine⟨fun h=> ?_,fun h=> ?_⟩
  ·by_cases hm:af (i:Int) gs
   ·exact i1 hm
   rw[i2 hm]
   rcases mem_cons.1 h with h | h
   ·exact a0 i h
   exact(hm h).elim
  rw[i2 (fun k=>h (mem_cons.2 (.inr k)))];exact aF (fun k=>h (mem_cons.2 (.inl k)))
theorem Bx.put_get {b:Bx}(ok:b.Ok){off:Nat}(s:List UInt8)(h1:off<=1099511627776){r:Nat}(hr:b.rd=r){i:Nat}(hi:r<=i/\i<r+b.ring.length) :
  (b.has i->(b.put off s).ring[i%b.ring.length]? =b.ring[i%b.ring.length]?)/\(¬b.has i->off<=i/\i<off+s.length->(b.put off s).ring[i%b.ring.length]? =s[i-off]?):=by
 have a3:=ok.rdnx;unfold Bx.put;rw[if_neg (by omega)];by_cases hlt:b.hi off s.length<=b.lo off
 ·rw[if_pos hlt];refine⟨fun _=>rfl,fun hn hp=> ?_⟩
  exfalso
  apply hn
  unfold Bx.lo Bx.hi at hlt;exact .inl (by omega)
 rw[if_neg hlt];have ht:=Bx.takes ok (off:=off) (by omega) (by omega:b.lo off<b.hi off s.length);obtain⟨gc,gm⟩:=cE ht;dsimp only at gm;have hlo:b.lo off=max (off:Int) b.nx:=rfl;have hhi:b.hi off s.length=min ((off:Int)+s.length) (b.rd+b.ring.length):=rfl;have key:=qN gc (off:=off) (r:=r) (s:=s) (n:=b.ring.length) ok.one (fun x hx=>by have:=(gm x).1 hx;omega) b.ring rfl hi;show(_->(bZ b.ring off s (bj b.bl (b.lo off,b.hi off s.length)))[i%b.ring.length]? =_)/\(_->_->(bZ b.ring off s (bj b.bl (b.lo off,b.hi off s.length)))[i%b.ring.length]? =_);refine⟨fun h=>key.2 (fun k=> ?_),fun h hp=>key.1 ((gm i).2 ⟨?_,fun k=>h (.inr k)⟩)⟩
 ·obtain⟨k1,k2⟩:=(gm i).1 k
  rcases h with h | h
  ·omega
  exact k2 h
 have:¬((i:Int)<b.nx):=fun g=>h (.inl ⟨by omega,g⟩);omega
theorem qO (rg:List UInt8)(rd q:Nat)(h1:1<=rg.length)(hq:q<=rg.length){j:Nat}(hj:j<q):(fo rg rd q)[j]? =rg[(rd+j)%rg.length]? :=by
 have hm:rd%rg.length<rg.length:=Nat.mod_lt _ (by omega);rw[lv (by omega)];unfold fo;have hl:((rg.drop (rd%rg.length)).take q).length=min q (rg.length-rd%rg.length):=by rw[List.length_take,List.length_drop]
 by_cases h:j<rg.length-rd%rg.length
 ·rw[if_pos h,List.getElem?_append_left (by omega),List.getElem?_take_of_lt hj,List.getElem?_drop]
 rw[if_neg h,List.getElem?_append_right (by omega),hl,show min q (rg.length-rd%rg.length)=rg.length-rd%rg.length by omega,List.getElem?_take_of_lt (by omega)]
theorem lE (rg:List UInt8)(rd q:Nat)(h1:1<=rg.length)(hq:q<=rg.length):(fo rg rd q).length=q:=by
 have hm:rd%rg.length<rg.length:=Nat.mod_lt _ (by omega);unfold fo;rw[List.length_append,List.length_take,List.length_drop,List.length_take];omega
def Bx.Str (b:Bx)(S:List UInt8):Prop:=∀i:Nat,b.rd<=i->b.has i->b.ring[i%b.ring.length]? =S[i]?
theorem Bx.has_lt {b:Bx}(ok:b.Ok){i:Int}(h:b.has i):i<b.rd+b.ring.length:=by
 rcases h with h | h
 ·have:=ok.nxend;omega
 exact(ok.mem i h).2
theorem Bx.Str.put {b:Bx}{S:List UInt8}(h:b.Str S)(ok:b.Ok){off:Nat}(s:List UInt8)(h1:off<=1099511627776)(hs:∀i,off<=i->i<off+s.length->s[i-off]? =S[i]?):(b.put off s).Str S:=by
 obtain⟨p1,p2,p3,p4,p5⟩:=Bx.put_spec ok s (off:=off) (by omega) (by omega);obtain⟨r,hr⟩:=Int.eq_ofNat_of_zero_le ok.rd0;intro i hi hh;rw[p2]at hi;have hlt:=Bx.has_lt p1 hh;rw[p2,p3]at hlt;rw[p3];obtain⟨k1,k2⟩:=Bx.put_get ok s h1 hr (i:=i) (by omega);by_cases hb:b.has i
 ·rw[k1 hb];exact h i hi hb
 rcases(p5 i).1 hh with g | g
 ·exact(hb g).elim
 rw[k2 hb (by omega)];exact hs i (by omega) (by omega)
theorem Bx.take_has (b:Bx)(k:Int):(b.take k).nx=b.nx/\(b.take k).bl=b.bl/\(b.take k).ring=b.ring/\∀i,(b.take k).has i↔b.has i:=by
 unfold Bx.take;split
 ·exact⟨rfl,rfl,rfl,fun _=>Iff.rfl⟩
 exact⟨rfl,rfl,rfl,fun _=>Iff.rfl⟩
theorem Bx.Str.take {b:Bx}{S:List UInt8}(h:b.Str S)(ok:b.Ok){r:Nat}(hr:b.rd=r)(k:Int) :
  ∃q:Nat,(q:Int)=max 0 (min k (b.nx-b.rd))/\(b.take k).rd=b.rd+q/\(b.take k).Str S/\(b.takeS k).length=q/\∀j,j<q->(b.takeS k)[j]? =S[r+j]? :=by
 have h1:=ok.rdnx;have h2:=ok.nxend;obtain⟨t1,t2,t3,t4⟩:=b.take_has k
 have a4:b.rd<=(b.take k).rd->(b.take k).Str S:=by
  intro hle i hi hh;rw[t3];exact h i (by omega) ((t4 i).1 hh)
 by_cases hz:min k (b.nx-b.rd)<=0
 ·have e1:b.take k=b:=by unfold Bx.take;rw[if_pos hz]
  have e2:b.takeS k=[]:=by unfold Bx.takeS;rw[if_pos hz]
  refine⟨0,by omega,by rw[e1];omega,by rw[e1];exact h,by rw[e2];rfl,fun j hj=>by omega⟩
 obtain⟨q,hq⟩:=Int.eq_ofNat_of_zero_le (show 0<=min k (b.nx-b.rd) by omega);have e1:(b.take k).rd=b.rd+q:=by unfold Bx.take;rw[if_neg hz,hq];try rfl
 have e2:b.takeS k=fo b.ring r q:=by unfold Bx.takeS;rw[if_neg hz,hq,hr];try rfl
 refine⟨q,by omega,e1,a4 (by omega),by rw[e2];exact lE _ _ _ ok.one (by omega),fun j hj=> ?_⟩;rw[e2,qO _ _ _ ok.one (by omega) hj];exact h (r+j) (by omega) (.inl (by omega))
theorem Bx.Ok.take {b:Bx}(ok:b.Ok)(k:Int)(hsm:(b.take k).rd+b.ring.length<=1099511627776):(b.take k).Ok:=by
 obtain⟨t1,t2,t3,t4⟩:=b.take_has k
 have a3:b.rd<=(b.take k).rd/\(b.take k).rd<=b.nx:=by
  have:=ok.rdnx;unfold Bx.take;split
  ·exact⟨Int.le_refl _,this⟩
  dsimp only;omega
 refine⟨by rw[t3];exact ok.one,by rw[t3];exact ok.most,Int.le_trans ok.rd0 a3.1,by rw[t1];exact a3.2,by rw[t1,t3];have:=ok.nxend;omega,by rw[t3];exact hsm,by rw[t2];exact ok.canon,fun i hi=> ?_⟩;rw[t1,t3];rw[t2]at hi;have:=ok.mem i hi;omega
end Go.Proofs.YtclkcmidhhfdmaaGreatDoor
