import Derived.Test.YtclkcmidhhfdmaaGreatDoorUb0
import Derived.Lib.Hide
namespace Go.Proofs.YtclkcmidhhfdmaaGreatDoor
theorem _root_.Go.RowKit.Hid.o {p:Prop}(h:Go.RowKit.Hid p):p:=h
abbrev Sp := Int × Int
def aI:Int->List Sp->Bool
 | _,[]=>true
 | e,x::l=>decide (0<=x.1/\e<x.1/\x.1<x.2/\x.2<=1099511627776)&&aI x.2 l
def ah (l:List Sp):Bool:=aI (-1) l
def cr (l:List Sp)(s:Sp):Bool:=ah l&&ah [s]
def one (a b:Int):List Sp:=if a<b then [(a,b)]else []
def bB (ps:List Sp):List Sp:=ps.filter fun x=>decide (x.1<x.2)
def bQ (t:Int):Int->List Sp->List Sp
 | a,[]=>one a t
 | a,x::l=>if x.2<=a then bQ t a l else if t<=x.1 then one a t else one a x.1++bQ t x.2 l
def bw (l:List Sp)(s:Sp):List Sp:=if cr l s=true then bQ s.2 s.1 l else []
def ic:Sp->List Sp->List Sp
 | s,[]=>[s]
 | s,x::l=>if x.2<s.1 then x::ic s l else if s.2<x.1 then s::x::l else ic (min s.1 x.1,max s.2 x.2) l
def et (l:List Sp)(s:Sp):List Sp:=if cr l s=true then ic s l else []
def aD:List Sp->Int
 | []=>0
 | x::l=>x.2-x.1+aD l
def dd (l:List Sp):Int:=if ah l=true then aD l else 0
def af (i:Int)(l:List Sp):Prop:=∃x∈l,x.1<=i/\i<x.2
theorem aZ {i:Int}:¬af i []:=by rintro⟨x,h,_⟩;cases h
theorem mem_cons {i:Int}{x:Sp}{l:List Sp}:af i (x::l)↔(x.1<=i/\i<x.2)\/af i l:=by
 constructor
 ·rintro⟨y,h,g⟩
  rcases List.mem_cons.1 h with rfl | h
  ·exact .inl g
  exact .inr ⟨y,h,g⟩
 rintro (g | ⟨y,h,g⟩)
 ·exact⟨x,List.mem_cons_self,g⟩
 exact⟨y,List.mem_cons_of_mem _ h,g⟩
theorem mem_append {i:Int}{a b:List Sp}:af i (a++b)↔af i a\/af i b:=by
 induction a with
 | nil=>simp[aZ]
 | cons x l ih=>rw[List.cons_append,mem_cons,ih,mem_cons,or_assoc]
theorem ko {i a b:Int}:af i (one a b)↔a<=i/\i<b:=by
 unfold one;split
 ·rw[mem_cons];simp[aZ]
 constructor
 ·exact fun h=>(aZ h).elim
 omega
theorem aB {e:Int}{x:Sp}{l:List Sp}:aI e (x::l)=true↔(0<=x.1/\e<x.1/\x.1<x.2/\x.2<=1099511627776)/\aI x.2 l=true:=by
 show(decide _&&_)=true↔_;rw[Bool.and_eq_true,decide_eq_true_iff]
theorem dw {e e':Int}{l:List Sp}(h:aI e l=true)(he:e'<=e):aI e' l=true:=by
 cases l with
 | nil=>rfl
 | cons x l=>rw[aB]at h|-;exact⟨by omega,h.2⟩
theorem ie {e:Int}{l:List Sp}(h:aI e l=true){i:Int}(hi:af i l):e<i/\0<=i/\i<1099511627776:=by
 induction l generalizing e with
 | nil=>exact(aZ hi).elim
 | cons x l ih =>
  rw[aB]at h
  rcases mem_cons.1 hi with g | g
  ·omega
  have:=ih h.2 g;omega
theorem ig {s:Sp}:ah [s]=true↔0<=s.1/\s.1<s.2/\s.2<=1099511627776:=by
 unfold ah;rw[aB];show _/\true=true↔_;simp only[and_true];omega
theorem bi {l:List Sp}{s:Sp}:cr l s=true↔ah l=true/\0<=s.1/\s.1<s.2/\s.2<=1099511627776:=by
 unfold cr;rw[Bool.and_eq_true,ig]
theorem sL {e:Int}{s:Sp}{l:List Sp}(hl:aI e l=true)(hs:0<=s.1/\e<s.1/\s.1<s.2/\s.2<=1099511627776) :
  aI e (ic s l)=true/\∀i,af i (ic s l)↔(s.1<=i/\i<s.2)\/af i l:=by
 induction l generalizing e s with
 | nil =>
  refine⟨aB.2 ⟨hs,rfl⟩,fun i=> ?_⟩;show af i [s]↔_;rw[mem_cons]
 | cons x l ih =>
  rw[aB]at hl;show aI e (if x.2<s.1 then x::ic s l else if s.2<x.1 then s::x::l else ic (min s.1 x.1,max s.2 x.2) l)=true/\∀i,af i (if x.2<s.1 then x::ic s l else if s.2<x.1 then s::x::l else ic (min s.1 x.1,max s.2 x.2) l)↔_;split
  ·rename_i h1;obtain⟨a,b⟩:=ih hl.2 (s:=s) ⟨hs.1,h1,hs.2.2⟩;refine⟨aB.2 ⟨hl.1,a⟩,fun i=> ?_⟩;rw[mem_cons,b,mem_cons]
   constructor
   ·rintro (h | h | h) <;> simp[h]
   rintro (h | h | h) <;> simp[h]
  split
  ·refine⟨aB.2 ⟨hs,aB.2 ⟨⟨hl.1.1,by assumption,hl.1.2.2⟩,hl.2⟩⟩,fun i=> ?_⟩;rw[mem_cons]
  rename_i h1 h2;have hl':aI e l=true:=dw hl.2 (by omega);obtain⟨a,b⟩:=ih hl' (s:=(min s.1 x.1,max s.2 x.2)) (by dsimp only;omega);refine⟨a,fun i=> ?_⟩;rw[b,mem_cons];dsimp only
  constructor
  ·rintro (h | h)
   ·by_cases g:s.1<=i/\i<s.2
    ·exact .inl g
    exact .inr (.inl (by omega))
   exact .inr (.inr h)
  rintro (h | h | h)
  ·exact .inl (by omega)
  ·exact .inl (by omega)
  exact .inr h
theorem iL {l:List Sp}{s:Sp}(h:cr l s=true):ah (et l s)=true/\∀i,af i (et l s)↔(s.1<=i/\i<s.2)\/af i l:=by
 unfold et;rw[if_pos h];obtain⟨a,b⟩:=bi.1 h;exact sL a (by omega)
theorem lD {e t a:Int}{l:List Sp}(hl:aI e l=true)(ha:0<=a)(ht:t<=1099511627776)(e':Int)(he':e'<a) :
  aI e' (bQ t a l)=true/\∀i,af i (bQ t a l)↔(a<=i/\i<t)/\¬af i l:=by
 induction l generalizing e a e' with
 | nil =>
  show aI e' (one a t)=true/\∀i,af i (one a t)↔_;refine⟨?_,fun i=>by rw[ko];simp[aZ]⟩;unfold one;split
  ·exact aB.2 ⟨by dsimp only;omega,rfl⟩
  rfl
 | cons x l ih =>
  rw[aB]at hl;show aI e' (if x.2<=a then bQ t a l else if t<=x.1 then one a t else one a x.1++bQ t x.2 l)=true/\∀i,af i (if x.2<=a then bQ t a l else if t<=x.1 then one a t else one a x.1++bQ t x.2 l)↔_;split
  ·rename_i h1;obtain⟨c,d⟩:=ih hl.2 ha e' he';refine⟨c,fun i=> ?_⟩;rw[d,mem_cons]
   constructor
   ·rintro⟨h,g⟩;exact⟨h,by rintro (k | k);omega;exact g k⟩
   rintro⟨h,g⟩;exact⟨h,fun k=>g (.inr k)⟩
  split
  ·rename_i h1 h2;refine⟨?_,fun i=> ?_⟩
   ·unfold one;split
    ·exact aB.2 ⟨by dsimp only;omega,rfl⟩
    rfl
   rw[ko,mem_cons]
   constructor
   ·intro h;refine⟨h,?_⟩;rintro (k | k)
    ·omega
    have:=ie hl.2 k;omega
   exact fun h=>h.1
  rename_i h1 h2;have key:=fun e' he'=>ih hl.2 (a:=x.2) (by omega) e' he';refine⟨?_,fun i=> ?_⟩
  ·unfold one;split
   ·rw[List.singleton_append];refine aB.2 ⟨by dsimp only;omega,(key x.1 (by omega)).1⟩
   rw[List.nil_append];exact(key e' (by omega)).1
  rw[mem_append,ko,(key (x.2-1) (by omega)).2,mem_cons]
  constructor
  ·rintro (h | ⟨h,g⟩)
   ·refine⟨by omega,?_⟩;rintro (k | k)
    ·omega
    have:=ie hl.2 k;omega
   refine⟨by omega,?_⟩;rintro (k | k)
   ·omega
   exact g k
  rintro⟨h,g⟩;by_cases k:i<x.1
  ·exact .inl ⟨h.1,k⟩
  refine .inr ⟨⟨?_,h.2⟩,fun k=>g (.inr k)⟩;by_cases m:x.2<=i
  ·exact m
  exact(g (.inl (by omega))).elim
theorem cR {l:List Sp}{s:Sp}(h:cr l s=true):ah (bw l s)=true/\∀i,af i (bw l s)↔(s.1<=i/\i<s.2)/\¬af i l:=by
 unfold bw;rw[if_pos h];obtain⟨a,b⟩:=bi.1 h;exact lD a b.1 b.2.2 (-1) (by omega)
theorem aM {e:Int}{l:List Sp}(h:aI e l=true):0<=aD l/\(e<1099511627776->aD l<=1099511627776-e)/\aD l<=1099511627776:=by
 induction l generalizing e with
 | nil=>exact⟨Int.le_refl _,fun _=>by show(0:Int)<=_;omega,by show(0:Int)<=_;omega⟩
 | cons x l ih =>
  rw[aB]at h;have:=ih h.2;show 0<=x.2-x.1+aD l/\(_->x.2-x.1+aD l<=_)/\x.2-x.1+aD l<=_
  cases l with
  | nil=>simp only[aD];omega
  | cons y l=>have h2:=h.2;rw[aB]at h2;omega
theorem bV {e:Int}{L:List Sp}(h:aI e L=true):L.length<=1099511627776:=by
 have key:∀(L:List Sp) (e:Int),aI e L=true->(L.length:Int)<=aD L:=by
  intro L
  induction L with
  | nil=>intro _ _;exact Int.le_refl _
  | cons x l ih =>
   intro e hc;rw[aB]at hc;have:=ih _ hc.2;show((l.length+1:Nat):Int)<=x.2-x.1+aD l;omega
 have:=key L e h;have:=(aM h).2.2;omega
structure Sg where
 fp:Int
 tp:Int
 sq:Int
 ak:Int
 syn:Bool
 fin:Bool
 rst:Bool
 has:Bool
 win:Int
 mss:Int
 sacks:Bool
 bl:List Sp
 s:List UInt8
structure Sg.Ok (g:Sg):Prop where
 fp:1<=g.fp/\g.fp<=65535
 tp:1<=g.tp/\g.tp<=65535
 sq:0<=g.sq/\g.sq<=4294967295
 ak:0<=g.ak/\g.ak<=4294967295
 has:g.has=false->g.ak=0
 win:0<=g.win/\g.win<=65535
 fl:¬(g.syn=true/\g.fin=true)/\¬(g.syn=true/\g.rst=true)/\¬(g.fin=true/\g.rst=true)
 mss:g.syn=false->g.mss=0/\g.sacks=false
 mssS:g.syn=true->g.mss=0\/(28<=g.mss/\g.mss<=1024)
 blen:g.bl.length<=3
 bhas:0<g.bl.length->g.has=true
 blk:∀x∈g.bl,(0<=x.1/\x.1<=4294967295)/\(0<=x.2/\x.2<=4294967295)/\x.1≠x.2
 sS:g.syn=true\/g.rst=true->g.s=[]
 slen:(g.s.length:Int)<=1024-8*g.bl.length
def AU (b:Bool)(n:Nat):Nat:=if b=true then n else 0
def Sg.flag (g:Sg):Nat:=AU g.syn 1+AU g.fin 2+AU g.rst 4+AU g.has 8+AU g.sacks 16
def AV:List Sp->List UInt8
 | []=>[]
 | x::l=>be 4 x.1.toNat++be 4 x.2.toNat++AV l
def Sg.head (g:Sg):List UInt8:=be 2 g.fp.toNat++be 2 g.tp.toNat++be 4 g.sq.toNat++be 4 g.ak.toNat++be 1 g.flag++be 1 g.bl.length++be 2 g.win.toNat++be 2 g.mss.toNat
def Sg.wr (g:Sg)(sum:Nat):List UInt8:=g.head++be 2 sum++AV g.bl++g.s
theorem cd {e:Int}{l:List Sp}(h:aI e l=true){i:Int}(hi:af i l):e<i:=(ie h hi).1
theorem fJ {e1 e2:Int}{A B:List Sp}(hA:aI e1 A=true)(hB:aI e2 B=true)(h:∀i,af i A↔af i B):A=B:=by
 induction A generalizing e1 e2 B with
 | nil =>
  cases B with
  | nil=>rfl
  | cons y t =>
   rw[aB]at hB;exact(aZ ((h y.1).2 (mem_cons.2 (.inl ⟨Int.le_refl _,hB.1.2.2.1⟩)))).elim
 | cons x s ih =>
  cases B with
  | nil =>
   rw[aB]at hA;exact(aZ ((h x.1).1 (mem_cons.2 (.inl ⟨Int.le_refl _,hA.1.2.2.1⟩)))).elim
  | cons y t =>
   rw[aB]at hA hB;have gx:∀i,af i s->x.2<i:=fun i hi=>cd hA.2 hi;have gy:∀i,af i t->y.2<i:=fun i hi=>cd hB.2 hi;have k:∀i,(x.1<=i/\i<x.2)\/af i s↔(y.1<=i/\i<y.2)\/af i t:=fun i=>by rw[<-mem_cons,<-mem_cons];exact h i
   have e1:x.1=y.1:=by
    rcases(k x.1).1 (.inl (by omega))with a | a
    ·rcases(k y.1).2 (.inl (by omega))with b | b
     ·omega
     have:=gx _ b;omega
    have:=gy _ a
    rcases(k y.1).2 (.inl (by omega))with b | b
    ·omega
    have:=gx _ b;omega
   have e2:x.2=y.2:=by
    rcases(show x.2<y.2\/y.2<x.2\/x.2=y.2 by omega)with a | a | a
    ·rcases(k x.2).2 (.inl (by omega))with b | b
     ·omega
     have:=gx _ b;omega
    ·rcases(k y.2).1 (.inl (by omega))with b | b
     ·omega
     have:=gy _ b;omega
    exact a
   obtain rfl:x=y:=Prod.ext e1 e2;rw[ih hA.2 hB.2 (fun i=> ?_)]
   constructor
   ·intro hi;have:=gx i hi
    rcases(k i).1 (.inr hi)with b | b
    ·omega
    exact b
   intro hi;have:=gy i hi
   rcases(k i).2 (.inr hi)with b | b
   ·omega
   exact b
theorem qP {e:Int}{A B:List Sp}{m:Int}(hA:aI e A=true)(hm:∀i,af i A->i<m)(he:e<m)(hB:aI m B=true):aI e (A++B)=true:=by
 induction A generalizing e with
 | nil=>exact dw hB (by omega)
 | cons x l ih =>
  rw[aB]at hA;rw[List.cons_append,aB];have hx:=hm (x.2-1) (mem_cons.2 (.inl (by omega)));refine⟨hA.1,?_⟩
  rcases(show x.2<m\/x.2=m by omega)with h | h
  ·exact ih hA.2 (fun i hi=>hm i (mem_cons.2 (.inr hi))) h
  cases l with
  | nil=>rw[h];exact hB
  | cons y l =>
   have h2:=hA.2;rw[aB]at h2;have:=hm y.1 (mem_cons.2 (.inr (mem_cons.2 (.inl (by omega)))));omega
def iX (x:Sp):Prop:=0<=x.1/\x.1<x.2/\x.2<=1099511627776
theorem bS {e:Int}{L:List Sp}(h:aI e L=true):∀x∈L,iX x:=by
 induction L generalizing e with
 | nil=>intro x hx;cases hx
 | cons y l ih =>
  rw[aB]at h;intro x hx
  rcases List.mem_cons.1 hx with rfl | hx
  ·exact⟨h.1.1,h.1.2.2.1,h.1.2.2.2⟩
  exact ih h.2 x hx
def xl (L:List Sp):List Sp:=L.foldl et []
theorem sM {L:List Sp}(h:∀x∈L,iX x):ah (xl L)=true/\∀i,af i (xl L)↔af i L:=by
 have key:∀(L A:List Sp),(∀x∈L,iX x)->ah A=true->ah (L.foldl et A)=true/\∀i,af i (L.foldl et A)↔af i A\/af i L:=by
  intro L
  induction L with
  | nil=>intro A _ hA;exact⟨hA,fun i=>by simp[aZ]⟩
  | cons x l ih =>
   intro A h hA;have hx:=h x List.mem_cons_self;have ht:cr A x=true:=bi.2 ⟨hA,hx⟩;obtain⟨a1,a2⟩:=iL ht;obtain⟨b1,b2⟩:=ih (et A x) (fun y hy=>h y (List.mem_cons_of_mem _ hy)) a1;refine⟨b1,fun i=> ?_⟩;show af i (l.foldl et (et A x))↔_;rw[b2,a2,mem_cons]
   constructor
   ·rintro ((h | h) | h)
    ·exact .inr (.inl h)
    ·exact .inl h
    exact .inr (.inr h)
   rintro (h | h | h)
   ·exact .inl (.inr h)
   ·exact .inl (.inl h)
   exact .inr h
 obtain⟨a,b⟩:=key L [] h rfl;exact⟨a,fun i=>by unfold xl;rw[b];simp[aZ]⟩
def cu (low:Int)(L:List Sp):List Sp:=bB (L.map fun x=>(max x.1 low,x.2))
theorem jL (low:Int)(A B:List Sp):cu low (A++B)=cu low A++cu low B:=by unfold cu bB;rw[List.map_append,List.filter_append]
theorem mU (low:Int)(x:Sp):cu low [x]=one (max x.1 low) x.2:=by
 unfold cu bB one;by_cases h:max x.1 low<x.2
 ·simp[h]
 simp[h]
theorem mV {low i:Int}{L:List Sp}:af i (cu low L)↔low<=i/\af i L:=by
 induction L with
 | nil =>
     constructor
     ·intro h;exact(aZ h).elim
     intro h;exact(aZ h.2).elim
 | cons x l ih =>
  rw[show x::l=[x]++l from rfl,jL,mem_append,mem_append,ih,mU,ko,mem_cons]
  constructor
  ·rintro (h | h)
   ·exact⟨by omega,.inl (.inl ⟨by omega,h.2⟩)⟩
   exact⟨h.1,.inr h.2⟩
  rintro⟨h,(k | k) | k⟩
  ·exact .inl ⟨by omega,k.2⟩
  ·exact(aZ k).elim
  exact .inr ⟨h,k⟩
theorem oQ {low:Int}{L:List Sp}(h0:0<=low)(h:∀x∈L,iX x):∀x∈cu low L,iX x:=by
 intro x hx;unfold cu bB at hx;obtain⟨h1,h2⟩:=List.mem_filter.1 hx;obtain⟨y,hy,rfl⟩:=List.mem_map.1 h1;have:=h y hy;unfold iX at this|-;dsimp only at h2|-;rw[decide_eq_true_iff]at h2;omega
def bM (low:Int)(L:List Sp):List Sp:=xl (cu low L)
theorem ce {low:Int}{L:List Sp}(h0:0<=low)(h:∀x∈L,iX x):ah (bM low L)=true/\∀i,af i (bM low L)↔low<=i/\af i L:=by
 obtain⟨a,b⟩:=sM (oQ h0 h);exact⟨a,fun i=>by unfold bM;rw[b,mV]⟩
def gh (out:List Sp)(x:Sp):List Sp :=
 match out.getLast? with
 | none=>[x]
 | some l=>if x.1<=l.2 then out.dropLast++[(l.1,max l.2 x.2)]else out++[x]
structure MrgI (done:List Sp)(out:List Sp):Prop where
 canon:ah out=true
 mem:∀i,af i out↔af i done
 last:∀l,out.getLast? =some l->∃y∈done,l.1<=y.1
theorem gn {e:Int}{A:List Sp}{l:Sp}:aI e (A++[l])=true↔aI e A=true/\iX l/\e<l.1/\∀x∈A,x.2<l.1:=by
 induction A generalizing e with
 | nil =>
  rw[List.nil_append,aB];unfold iX
  constructor
  ·rintro⟨h,-⟩;exact⟨rfl,by omega,by omega,fun x hx=>by cases hx⟩
  rintro⟨-,h,h2,-⟩;exact⟨by omega,rfl⟩
 | cons y s ih =>
  rw[List.cons_append,aB,aB,ih]
  constructor
  ·rintro⟨h1,h2,h3,h4,h5⟩;refine⟨⟨h1,h2⟩,h3,by omega,fun x hx=> ?_⟩
   rcases List.mem_cons.1 hx with rfl | hx
   ·exact h4
   exact h5 x hx
  rintro⟨⟨h1,h2⟩,h3,h4,h5⟩;exact⟨h1,h2,h3,h5 y List.mem_cons_self,fun x hx=>h5 x (List.mem_cons_of_mem _ hx)⟩
theorem fQ {i:Int}{A:List Sp}{l:Sp}:af i (A++[l])↔af i A\/(l.1<=i/\i<l.2):=by
 rw[mem_append,mem_cons];simp[aZ]
theorem fK (out:List Sp):out=[]\/∃A l,out=A++[l]:=by
 rcases List.eq_nil_or_concat out with h | ⟨A,l,h⟩
 ·exact .inl h
 exact .inr ⟨A,l,by rw[h,List.concat_eq_append]⟩
theorem MrgI.step {done out:List Sp}(h:MrgI done out){x:Sp}(hx:iX x)(hs:∀y∈done,y.1<=x.1):MrgI (done++[x]) (gh out x):=by
 rcases fK out with rfl | ⟨A,l,rfl⟩
 ·have hd:∀i,¬af i done:=fun i hi=>aZ ((h.mem i).2 hi);show MrgI _ [x];refine⟨ig.2 hx,fun i=> ?_,fun l hl=> ?_⟩
  ·rw[fQ,mem_cons]
   simp[aZ,hd i]
  simp at hl;subst hl;exact⟨x,by simp,Int.le_refl _⟩
 have hg:(A++[l]).getLast? =some l:=by simp
 unfold gh;rw[hg];have hc:=gn.1 (show aI (-1) (A++[l])=true from h.canon);obtain⟨y,hy,a6⟩:=h.last l hg;have hlx:l.1<=x.1:=by have:=hs y hy;omega
 unfold iX at hx;obtain⟨c1,c2,c3,c4⟩:=hc;unfold iX at c2;show MrgI (done++[x]) (if x.1<=l.2 then(A++[l]).dropLast++[(l.1,max l.2 x.2)]else A++[l]++[x]);split
 ·rename_i hle;rw[List.dropLast_concat];refine⟨gn.2 ⟨c1,by unfold iX;dsimp only;omega,c3,c4⟩,fun i=> ?_,fun l' hl'=> ?_⟩
  ·rw[fQ,fQ,<-h.mem i,fQ];dsimp only
   constructor
   ·rintro (a | a)
    ·exact .inl (.inl a)
    by_cases k:i<l.2
    ·exact .inl (.inr ⟨a.1,k⟩)
    exact .inr (by omega)
   rintro ((a | a) | a)
   ·exact .inl a
   ·exact .inr (by omega)
   exact .inr (by omega)
  simp at hl';subst hl';exact⟨y,List.mem_append_left _ hy,a6⟩
 rename_i hle;refine⟨gn.2 ⟨h.canon,by unfold iX;omega,by omega,fun z hz=> ?_⟩,fun i=> ?_,fun l' hl'=> ?_⟩
 ·rcases List.mem_append.1 hz with hz | hz
  ·have:=c4 z hz;omega
  rw[List.mem_singleton.1 hz];omega
 ·rw[fQ,h.mem i,fQ]
 simp at hl';subst hl';exact⟨x,by simp,Int.le_refl _⟩
theorem MrgI.start:MrgI [] []:=⟨rfl,fun i=>Iff.rfl,fun l hl=>by simp at hl⟩
def de (a b:List Sp):List Sp:=a.flatMap fun x=>bQ x.2 x.1 b
theorem sN (a b:List Sp)(x:Sp):de (a++[x]) b=de a b++bQ x.2 x.1 b:=by unfold de;rw[List.flatMap_append];simp
theorem fR {e eb:Int}{a b:List Sp}(ha:aI e a=true)(hb:aI eb b=true):aI e (de a b)=true/\∀i,af i (de a b)↔af i a/\¬af i b:=by
 induction a generalizing e with
 | nil=>exact⟨rfl,fun i=>by unfold de;simp[aZ]⟩
 | cons x l ih =>
  rw[aB]at ha;obtain⟨c1,c2⟩:=ih ha.2;obtain⟨g1,g2⟩:=lD (t:=x.2) (a:=x.1) hb ha.1.1 ha.1.2.2.2 e ha.1.2.1;show aI e (bQ x.2 x.1 b++de l b)=true/\∀i,af i (bQ x.2 x.1 b++de l b)↔_;refine⟨qP g1 (fun i hi=>((g2 i).1 hi).1.2) (by omega) c1,fun i=> ?_⟩;rw[mem_append,g2,c2,mem_cons]
  constructor
  ·rintro (⟨h,k⟩ | ⟨h,k⟩)
   ·exact⟨.inl h,k⟩
   exact⟨.inr h,k⟩
  rintro⟨h | h,k⟩
  ·exact .inl ⟨h,k⟩
  exact .inr ⟨h,k⟩
def iM (at':Int)(l:List Sp):List Sp:=l.dropWhile fun x=>decide (x.2<=at')
theorem bq (at':Int)(x:Sp)(l:List Sp):iM at' (x::l)=if x.2<=at' then iM at' l else x::l:=by
 unfold iM;rw[List.dropWhile_cons];by_cases h:x.2<=at' <;> simp[h]
theorem xm {a b:Int}(h:a<=b)(l:List Sp):iM b (iM a l)=iM b l:=by
 induction l with
 | nil=>rfl
 | cons x l ih =>
  rw[bq a];split
  ·rw[ih,bq b,if_pos (by omega)]
  rfl
theorem oR {t a:Int}(l:List Sp):bQ t a (iM a l)=bQ t a l:=by
 induction l with
 | nil=>rfl
 | cons x l ih =>
  rw[bq];split
  ·rename_i h;rw[ih];show _=if x.2<=a then bQ t a l else _;rw[if_pos h]
  rfl
structure Sc where
 una:Int
 next:Int
 mark:Int
 sk:List Sp
 ag:List Sp
def xn:Sc:=⟨0,0,0,[],[]⟩
structure Sc.Ok (s:Sc):Prop where
 u0:0<=s.una
 un:s.una<=s.next
 n40:s.next<=1099511627776
 m0:0<=s.mark
 mn:s.mark<=s.next
 csk:ah s.sk=true
 cag:ah s.ag=true
 msk:∀i,af i s.sk->s.una<=i/\i<s.next
 mag:∀i,af i s.ag->s.una<=i/\i<s.next/\¬af i s.sk
theorem zZ:xn.Ok:=⟨by decide,by decide,by decide,by decide,by decide,rfl,rfl,fun _ h=>(aZ h).elim,fun _ h=>(aZ h).elim⟩
def Sc.sentB (s:Sc)(to:Int):Bool:=decide (s.next<=to/\to<=1099511627776)
def Sc.sent (s:Sc)(to:Int):Sc:=if s.sentB to=true then { s with next:=to }else s
def Sc.sentE (s:Sc)(to:Int):Int:=if s.sentB to=true then 0 else 140
theorem Sc.Ok.sent {s:Sc}(h:s.Ok)(to:Int):(s.sent to).Ok:=by
 unfold Sc.sent;split
 ·rename_i hb;unfold Sc.sentB at hb;rw[decide_eq_true_iff]at hb;exact⟨h.u0,Int.le_trans h.un hb.1,hb.2,h.m0,Int.le_trans h.mn hb.1,h.csk,h.cag,fun i hi=>by have:=h.msk i hi;dsimp only;omega,fun i hi=>by have:=h.mag i hi;exact⟨this.1,by dsimp only;omega,this.2.2⟩⟩
 exact h
def Sc.inB (s:Sc)(x:Sp):Bool:=decide (0<=x.1/\x.1<x.2/\x.2<=s.next)
def Sc.ackB (s:Sc)(una:Int)(l:List Sp):Bool:=decide (0<=una/\una<=s.next)&&l.all s.inB
def Sc.ackS (s:Sc)(una:Int)(l:List Sp):Sc :=
 { s with una:=max s.una una,sk:=bM (max s.una una) (s.sk++l),ag:=de (bM (max s.una una) s.ag) (bM (max s.una una) (s.sk++l)) }
def Sc.acked (s:Sc)(una:Int)(l:List Sp):Sc:=if s.ackB una l=true then s.ackS una l else s
def Sc.ackN (s:Sc)(una:Int)(l:List Sp):Int:=if s.ackB una l=true then max s.una una+aD (s.ackS una l).sk-(s.una+aD s.sk)else 0
def Sc.ackE (s:Sc)(una:Int)(l:List Sp):Int:=if s.ackB una l=true then 0 else 140
theorem Sc.inB_iff {s:Sc}{x:Sp}:s.inB x=true↔0<=x.1/\x.1<x.2/\x.2<=s.next:=by unfold Sc.inB;rw[decide_eq_true_iff]
theorem Sc.ackB_iff {s:Sc}{una:Int}{l:List Sp}:s.ackB una l=true↔(0<=una/\una<=s.next)/\∀x∈l,s.inB x=true:=by
 unfold Sc.ackB;rw[Bool.and_eq_true,decide_eq_true_iff,List.all_eq_true]
theorem Sc.Ok.okl {s:Sc}(h:s.Ok){l:List Sp}(hl:∀x∈l,s.inB x=true):∀x∈s.sk++l,iX x:=by
 intro x hx
 rcases List.mem_append.1 hx with hx | hx
 ·exact bS h.csk x hx
 have:=Sc.inB_iff.1 (hl x hx);have:=h.n40;unfold iX;omega
theorem Sc.Ok.ack_sk {s:Sc}(h:s.Ok){una:Int}{l:List Sp}(hb:s.ackB una l=true):ah (s.ackS una l).sk=true/\∀i,af i (s.ackS una l).sk↔max s.una una<=i/\(af i s.sk\/af i l):=by
 obtain⟨h1,h2⟩:=Sc.ackB_iff.1 hb;have hu:=h.u0;obtain⟨c1,c2⟩:=ce (low:=max s.una una) (by omega) (h.okl h2);exact⟨c1,fun i=>by show af i (bM _ _)↔_;rw[c2,mem_append]⟩
theorem Sc.Ok.ack_ag {s:Sc}(h:s.Ok){una:Int}{l:List Sp}(hb:s.ackB una l=true):ah (s.ackS una l).ag=true/\∀i,af i (s.ackS una l).ag↔(max s.una una<=i/\af i s.ag)/\¬af i (s.ackS una l).sk:=by
 have hu:=h.u0;obtain⟨c1,c2⟩:=ce (low:=max s.una una) (L:=s.ag) (by omega) (bS h.cag);obtain⟨d1,d2⟩:=fR c1 (h.ack_sk hb).1;exact⟨d1,fun i=>by refine Iff.trans (d2 i) ?_;rw[c2]⟩
theorem Sc.Ok.ackS {s:Sc}(h:s.Ok){una:Int}{l:List Sp}(hb:s.ackB una l=true):(s.ackS una l).Ok:=by
 obtain⟨h1,h2⟩:=Sc.ackB_iff.1 hb;obtain⟨c1,c2⟩:=h.ack_sk hb;obtain⟨d1,d2⟩:=h.ack_ag hb;have hu:=h.u0;have hn:=h.un;refine⟨by show 0<=max s.una una;omega,by show max s.una una<=s.next;omega,h.n40,h.m0,h.mn,c1,d1,fun i hi=> ?_,fun i hi=> ?_⟩
 ·obtain⟨a,b⟩:=(c2 i).1 hi;refine⟨a,?_⟩
  rcases b with b | b
  ·exact(h.msk i b).2
  obtain⟨x,hx,aa⟩:=b;have:=Sc.inB_iff.1 (h2 x hx);show i<s.next;omega
 obtain⟨⟨a,b⟩,c⟩:=(d2 i).1 hi;exact⟨a,(h.mag i b).2.1,c⟩
theorem Sc.Ok.acked {s:Sc}(h:s.Ok)(una:Int)(l:List Sp):(s.acked una l).Ok:=by
 unfold Sc.acked;split
 ·rename_i hb;exact h.ackS hb
 exact h
def Sc.timeout (s:Sc):Sc:={ s with sk:=[],ag:=[],mark:=s.next }
theorem Sc.Ok.timeout {s:Sc}(h:s.Ok):s.timeout.Ok :=
 ⟨h.u0,h.un,h.n40,by have:=h.u0;have:=h.un;show 0<=s.next;omega,Int.le_refl _,rfl,rfl,fun _ h=>(aZ h).elim,fun _ h=>(aZ h).elim⟩
def Sc.lostOf (s:Sc)(m:Int)(g:Sp):Sp:=if aD (iM g.1 s.sk)/3<m/\(iM g.1 s.sk).length<3 then(g.1,max g.1 (min g.2 s.mark))else g
def Sc.gaps (s:Sc):List Sp:=bw s.sk (s.una,s.next)
def Sc.lost (s:Sc)(m:Int):List Sp:=if m<1 then []else de (bB (s.gaps.map (s.lostOf m))) s.ag
def jM (s:Sc)(m:Int):List Sp->Int
 | []=>0
 | g::l=>(g.2-g.1-((s.lostOf m g).2-(s.lostOf m g).1))+jM s m l
def Sc.pipe (s:Sc)(m:Int):Int:=if m<1 then 0 else aD s.ag+jM s m s.gaps
def Sc.retS (s:Sc)(x:Sp):Sc:={ s with ag:=bM s.una (s.ag++de (bM s.una [x]) s.sk) }
def Sc.ret (s:Sc)(x:Sp):Sc:=if s.inB x=true then s.retS x else s
def Sc.retE (s:Sc)(x:Sp):Int:=if s.inB x=true then 0 else 140
theorem Sc.Ok.ret_spec {s:Sc}(h:s.Ok){x:Sp}(hx:s.inB x=true):(ah (bM s.una [x])=true/\∀y∈s.ag++de (bM s.una [x]) s.sk,iX y)/\ah (s.retS x).ag=true/\∀i,af i (s.retS x).ag↔af i s.ag\/(s.una<=i/\(x.1<=i/\i<x.2)/\¬af i s.sk):=by
 have h1:=Sc.inB_iff.1 hx;have hn:=h.n40;have a7:∀y∈[x],iX y:=fun y hy=>by rw[List.mem_singleton.1 hy];unfold iX;omega
 obtain⟨c1,c2⟩:=ce (low:=s.una) h.u0 a7;obtain⟨d1,d2⟩:=fR c1 h.csk
 have hall:∀y∈s.ag++de (bM s.una [x]) s.sk,iX y:=fun y hy=>by
  rcases List.mem_append.1 hy with hy | hy
  ·exact bS h.cag y hy
  exact bS d1 y hy
 obtain⟨e1,e2⟩:=ce (low:=s.una) h.u0 hall;refine⟨⟨c1,hall⟩,e1,fun i=> ?_⟩;show af i (bM _ _)↔_;rw[e2,mem_append,d2,c2,mem_cons]
 constructor
 ·rintro⟨a,b | ⟨⟨b,c⟩,d⟩⟩
  ·exact .inl b
  rcases c with c | c
  ·exact .inr ⟨a,c,d⟩
  exact(aZ c).elim
 rintro (b | ⟨a,b,c⟩)
 ·exact⟨(h.mag i b).1,.inl b⟩
 exact⟨a,.inr ⟨⟨a,.inl b⟩,c⟩⟩
theorem Sc.Ok.retS {s:Sc}(h:s.Ok){x:Sp}(hx:s.inB x=true):(s.retS x).Ok:=by
 obtain⟨-,e1,e2⟩:=h.ret_spec hx;have h1:=Sc.inB_iff.1 hx;refine⟨h.u0,h.un,h.n40,h.m0,h.mn,h.csk,e1,h.msk,fun i hi=> ?_⟩
 rcases(e2 i).1 hi with b | ⟨a,b,c⟩
 ·exact h.mag i b
 exact⟨a,by show i<s.next;omega,c⟩
theorem Sc.Ok.ret {s:Sc}(h:s.Ok)(x:Sp):(s.ret x).Ok:=by
 unfold Sc.ret;split
 ·rename_i hx;exact h.retS hx
 exact h
structure Bx where
 ring:List UInt8
 rd:Int
 nx:Int
 bl:List Sp
 nw:Int
def fL (rg:List UInt8)(o:Nat)(cs:List UInt8):List UInt8:=rg.take o++(cs++rg.drop (o+cs.length))
def cv (rg:List UInt8)(off:Nat)(s:List UInt8):List UInt8 :=
 fL (fL rg (off%rg.length) (s.take (min s.length (rg.length-off%rg.length)))) 0 (s.drop (min s.length (rg.length-off%rg.length)))
def eV (s:List UInt8)(off:Int)(g:Sp):List UInt8:=(s.drop (g.1-off).toNat).take (g.2-g.1).toNat
def bj (rg:List UInt8)(off:Int)(s:List UInt8)(gs:List Sp):List UInt8:=gs.foldl (fun r g=>cv r g.1.toNat (eV s off g)) rg
def eW (nx:Int):List Sp->Int
 | []=>nx
 | x::_=>if x.1=nx then x.2 else nx
def fy (nx:Int):List Sp->List Sp
 | []=>[]
 | x::t=>if x.1=nx then t else x::t
def Bx.lo (b:Bx)(off:Int):Int:=max off b.nx
def Bx.hi (b:Bx)(off:Int)(k:Nat):Int:=min (off+k) (b.rd+b.ring.length)
def Bx.putP (b:Bx)(off:Int)(s:List UInt8)(p:Sp):Bx :=
 { ring:=bj b.ring off s (bw b.bl p),rd:=b.rd,nx:=eW b.nx (et b.bl p),bl:=fy b.nx (et b.bl p),nw:=p.1 }
def Bx.put (b:Bx)(off:Int)(s:List UInt8):Bx :=
 if off<0\/1099511627776<off then b else if b.hi off s.length<=b.lo off then b else b.putP off s (b.lo off,b.hi off s.length)
def Bx.putN (b:Bx)(off:Int)(k:Nat):Int :=
 if off<0\/1099511627776<off then 0 else if b.hi off k<=b.lo off then 0 else dd (bw b.bl (b.lo off,b.hi off k))
def uT (off:Int):Int:=if off<0\/1099511627776<off then 130 else 0
def ge (rg:List UInt8)(rd k:Nat):List UInt8:=((rg.drop (rd%rg.length)).take k)++rg.take (k-(rg.length-rd%rg.length))
def Bx.take (b:Bx)(k:Int):Bx:=if min k (b.nx-b.rd)<=0 then b else { b with rd:=b.rd+min k (b.nx-b.rd) }
def Bx.takeS (b:Bx)(k:Int):List UInt8:=if min k (b.nx-b.rd)<=0 then []else ge b.ring b.rd.toNat (min k (b.nx-b.rd)).toNat
def rU (n:Nat):Bx:=⟨List.replicate n 0,0,0,[],0⟩
structure Bx.Ok (b:Bx):Prop where
 one:1<=b.ring.length
 most:b.ring.length<=8192
 rd0:0<=b.rd
 rdnx:b.rd<=b.nx
 nxend:b.nx<=b.rd+b.ring.length
 small:b.rd+b.ring.length<=1099511627776
 canon:ah b.bl=true
 mem:∀i,af i b.bl->b.nx<i/\i<b.rd+b.ring.length
theorem dK (rg:List UInt8)(o:Nat)(cs:List UInt8)(h:o+cs.length<=rg.length):(fL rg o cs).length=rg.length:=by
 unfold fL;rw[List.length_append,List.length_append,List.length_take,List.length_drop];omega
theorem eM (rg:List UInt8)(off:Nat)(s:List UInt8)(h1:1<=rg.length)(h:s.length<=rg.length):(cv rg off s).length=rg.length:=by
 have hm:off%rg.length<rg.length:=Nat.mod_lt _ (by omega);unfold cv;have e1:(fL rg (off%rg.length) (s.take (min s.length (rg.length-off%rg.length)))).length=rg.length:=dK _ _ _ (by rw[List.length_take];omega);rw[dK _ _ _ (by rw[e1,List.length_drop];omega),e1]
theorem kM (s:List UInt8)(off:Int)(g:Sp):(eV s off g).length<=(g.2-g.1).toNat:=by
 unfold eV;rw[List.length_take];omega
def bT (nw:Int)(x:Sp):Bool:=decide (x.1<=nw/\nw<x.2)
def eH (nw:Int)(bl:List Sp):List Sp:=bl.filter (bT nw)++(bl.filter fun x=> !bT nw x).reverse
theorem gp (nw:Int)(bl:List Sp):(eH nw bl).Perm bl :=
 (List.Perm.append_left _ (List.reverse_perm _)).trans (List.filter_append_perm (bT nw) bl)
theorem fM (nw:Int)(bl:List Sp):(eH nw bl).length=bl.length:=(gp nw bl).length_eq
def Bx.rep (b:Bx):List Sp:=(eH b.nw b.bl).take 3
theorem Bx.rep_mem {b:Bx}{x:Sp}(h:x∈b.rep):x∈b.bl:=(gp b.nw b.bl).mem_iff.1 (List.mem_of_mem_take h)
theorem Bx.rep_length (b:Bx):b.rep.length=min b.bl.length 3:=by
 unfold Bx.rep;rw[List.length_take,fM,Nat.min_comm]
def Bx.has (b:Bx)(i:Int):Prop:=(0<=i/\i<b.nx)\/af i b.bl
theorem Bx.Ok.nope {b:Bx}(h:b.Ok):¬b.has b.nx:=by
 rintro (⟨_,g⟩ | g)
 ·omega
 have:=(h.mem _ g).1;omega
theorem sO {nx:Int}{L:List Sp}(hc:ah L=true)(hge:∀i,af i L->nx<=i)(h0:0<=nx) :
  ah (fy nx L)=true/\(∀i,af i (fy nx L)->eW nx L<i)/\nx<=eW nx L/\(∀i,((0<=i/\i<eW nx L)\/af i (fy nx L))↔((0<=i/\i<nx)\/af i L))/\(∀i,af i (fy nx L)->af i L)/\(eW nx L=nx\/af (eW nx L-1) L):=by
 cases L with
 | nil=>exact⟨rfl,fun i h=>(aZ h).elim,Int.le_refl _,fun i=>Iff.rfl,fun _ h=>h,.inl rfl⟩
 | cons x t =>
  have hc':=hc;unfold ah at hc;rw[aB]at hc;have hx:nx<=x.1:=hge x.1 (mem_cons.2 (.inl ⟨Int.le_refl _,hc.1.2.2.1⟩));by_cases e:x.1=nx
  ·have e1:eW nx (x::t)=x.2:=by show(if x.1=nx then x.2 else nx)=_;rw[if_pos e]
   have e2:fy nx (x::t)=t:=by show(if x.1=nx then t else x::t)=_;rw[if_pos e]
   rw[e1,e2];refine⟨dw hc.2 (by omega),fun i hi=>cd hc.2 hi,by omega,fun i=> ?_,fun i hi=>mem_cons.2 (.inr hi),.inr (mem_cons.2 (.inl (by omega)))⟩;rw[mem_cons]
   constructor
   ·rintro (h | h)
    ·by_cases g:i<nx
     ·exact .inl ⟨h.1,g⟩
     exact .inr (.inl (by omega))
    exact .inr (.inr h)
   rintro (h | h | h)
   ·exact .inl (by omega)
   ·exact .inl (by omega)
   exact .inr h
  have e1:eW nx (x::t)=nx:=by show(if x.1=nx then x.2 else nx)=_;rw[if_neg e]
  have e2:fy nx (x::t)=x::t:=by show(if x.1=nx then t else x::t)=_;rw[if_neg e]
  rw[e1,e2];refine⟨hc',fun i hi=> ?_,Int.le_refl _,fun i=>Iff.rfl,fun i h=>h,.inl rfl⟩
  rcases mem_cons.1 hi with h | h
  ·omega
  have:=cd hc.2 h;omega
theorem qQ {rg:List UInt8}{off:Int}{s:List UInt8}{gs:List Sp}(h1:1<=rg.length)(h:∀g∈gs,(g.2-g.1).toNat<=rg.length):(bj rg off s gs).length=rg.length:=by
 induction gs generalizing rg with
 | nil=>rfl
 | cons g gs ih =>
  have e:(cv rg g.1.toNat (eV s off g)).length=rg.length:=eM _ _ _ h1 (Nat.le_trans (kM _ _ _) (h g (by simp)));show(bj (cv rg g.1.toNat (eV s off g)) off s gs).length=_;rw[ih (by omega) (fun x hx=>by rw[e];exact h x (by simp[hx])),e]
theorem i6 {e:Int}{L:List Sp}(h:aI e L=true){g:Sp}(hg:g∈L):g.1<g.2/\af g.1 L/\af (g.2-1) L:=by
 induction L generalizing e with
 | nil=>cases hg
 | cons x t ih =>
  rw[aB]at h
  rcases List.mem_cons.1 hg with rfl | hg
  ·exact⟨h.1.2.2.1,mem_cons.2 (.inl (by omega)),mem_cons.2 (.inl (by omega))⟩
  obtain⟨a,b,c⟩:=ih h.2 hg;exact⟨a,mem_cons.2 (.inr b),mem_cons.2 (.inr c)⟩
theorem Bx.takes {b:Bx}(ok:b.Ok){off:Int}{k:Nat}(h0:0<=off)(hlt:b.lo off<b.hi off k):cr b.bl (b.lo off,b.hi off k)=true:=by
 refine bi.2 ⟨ok.canon,?_⟩;have:=ok.small;unfold Bx.lo Bx.hi at *;dsimp only;omega
theorem Bx.put_spec {b:Bx}(ok:b.Ok){off:Int}(s:List UInt8)(h0:0<=off)(h1:off<=1099511627776) :
  (b.put off s).Ok/\(b.put off s).rd=b.rd/\(b.put off s).ring.length=b.ring.length/\b.nx<=(b.put off s).nx/\∀i,(b.put off s).has i↔b.has i\/(off<=i/\i<off+s.length/\i<b.rd+b.ring.length):=by
 have hr:=ok.rd0;have a9:=ok.rdnx;unfold Bx.put;rw[if_neg (by omega)];by_cases hlt:b.hi off s.length<=b.lo off
 ·rw[if_pos hlt];refine⟨ok,rfl,rfl,Int.le_refl _,fun i=>⟨.inl,?_⟩⟩;rintro (h | h)
  ·exact h
  unfold Bx.lo Bx.hi at hlt;exact .inl (by omega)
 rw[if_neg hlt];have ht:=Bx.takes ok h0 (by omega:b.lo off<b.hi off s.length);obtain⟨ac,am⟩:=iL ht;obtain⟨gc,gm⟩:=cR ht;dsimp only at am gm;have hlo:b.lo off=max off b.nx:=rfl;have hhi:b.hi off s.length=min (off+s.length) (b.rd+b.ring.length):=rfl
 have hge:∀i,af i (et b.bl (b.lo off,b.hi off s.length))->b.nx<=i/\i<b.rd+b.ring.length:=by
  intro i hi
  rcases(am i).1 hi with h | h
  ·omega
  have:=ok.mem i h;omega
 obtain⟨j1,j2,j3,j4,j5,j6⟩:=sO ac (fun i hi=>(hge i hi).1) (by omega)
 have hlen:(bj b.ring off s (bw b.bl (b.lo off,b.hi off s.length))).length=b.ring.length:=by
  refine qQ ok.one (fun g hg=> ?_);obtain⟨g1,g2,g3⟩:=i6 gc hg;have:=(gm _).1 g2;have:=(gm _).1 g3;omega
 refine⟨?_,rfl,hlen,j3,fun i=> ?_⟩
 ·refine⟨by rw[show(b.putP off s (b.lo off,b.hi off s.length)).ring.length=_ from hlen];exact ok.one,by rw[show(b.putP off s (b.lo off,b.hi off s.length)).ring.length=_ from hlen];exact ok.most,hr,Int.le_trans a9 j3,?_,by rw[show(b.putP off s (b.lo off,b.hi off s.length)).ring.length=_ from hlen];exact ok.small,j1,fun i hi=> ?_⟩
  ·rw[show(b.putP off s (b.lo off,b.hi off s.length)).ring.length=_ from hlen];show eW b.nx _<=b.rd+_
   rcases j6 with e | h
   ·rw[e];exact ok.nxend
   have:=(hge _ h).2;omega
  rw[show(b.putP off s (b.lo off,b.hi off s.length)).ring.length=_ from hlen];exact⟨j2 i hi,(hge _ (j5 i hi)).2⟩
 refine(j4 i).trans ?_;rw[am];unfold Bx.has
 constructor
 ·rintro (h | h | h)
  ·exact .inl (.inl h)
  ·exact .inr (by omega)
  exact .inl (.inr h)
 rintro ((h | h) | h)
 ·exact .inl h
 ·exact .inr (.inr h)
 by_cases g:i<b.nx
 ·exact .inl (by omega)
 exact .inr (.inl (by omega))
theorem jN (rg:List UInt8)(o:Nat)(cs:List UInt8)(h:o+cs.length<=rg.length)(p:Nat):(fL rg o cs)[p]? =if p<o then rg[p]? else if p<o+cs.length then cs[p-o]? else rg[p]? :=by
 unfold fL;have hl:(rg.take o).length=o:=by rw[List.length_take];omega
 by_cases h1:p<o
 ·rw[if_pos h1,List.getElem?_append_left (by omega),List.getElem?_take_of_lt h1]
 rw[if_neg h1,List.getElem?_append_right (by omega),hl];by_cases h2:p<o+cs.length
 ·rw[if_pos h2,List.getElem?_append_left (by omega)]
 rw[if_neg h2,List.getElem?_append_right (by omega),List.getElem?_drop]
 congr 1
 omega
theorem nQ {n off j:Nat}(hj:j<n):(off+j)%n=if j<n-off%n then off%n+j else j-(n-off%n):=by
 have hm:off%n<n:=Nat.mod_lt _ (by omega);rw[Nat.add_mod,Nat.mod_eq_of_lt hj];by_cases h:j<n-off%n
 ·rw[if_pos h,Nat.mod_eq_of_lt (by omega)]
 rw[if_neg h,Nat.mod_eq_sub_mod (by omega),Nat.mod_eq_of_lt (by omega)];omega
theorem uU (rg:List UInt8)(off:Nat)(s:List UInt8)(h1:1<=rg.length)(hs:s.length<=rg.length){j:Nat}(hj:j<s.length):(cv rg off s)[(off+j)%rg.length]? =s[j]? :=by
 have hm:off%rg.length<rg.length:=Nat.mod_lt _ (by omega);have e1:(fL rg (off%rg.length) (s.take (min s.length (rg.length-off%rg.length)))).length=rg.length:=dK _ _ _ (by rw[List.length_take];omega);rw[nQ (by omega)];unfold cv;rw[jN _ _ _ (by rw[e1,List.length_drop];omega),jN _ _ _ (by rw[List.length_take];omega),List.length_drop,List.length_take];by_cases h:j<rg.length-off%rg.length
 ·rw[if_pos h,if_neg (by omega),if_neg (by omega),if_neg (by omega),if_pos (by omega),List.getElem?_take_of_lt (by omega)]
  congr 1
  omega
 rw[if_neg h,if_neg (by omega),if_pos (by omega),List.getElem?_drop]
 congr 1
 omega
theorem sP (rg:List UInt8)(off:Nat)(s:List UInt8)(h1:1<=rg.length)(hs:s.length<=rg.length){p:Nat}(hp:p<rg.length)(hno:∀j,j<s.length->(off+j)%rg.length≠p):(cv rg off s)[p]? =rg[p]? :=by
 have hm:off%rg.length<rg.length:=Nat.mod_lt _ (by omega);have e1:(fL rg (off%rg.length) (s.take (min s.length (rg.length-off%rg.length)))).length=rg.length:=dK _ _ _ (by rw[List.length_take];omega);have a5:∀j,j<s.length->(if j<rg.length-off%rg.length then off%rg.length+j else j-(rg.length-off%rg.length))≠p:=fun j hj=>by rw[<-nQ (by omega)];exact hno j hj
 unfold cv;rw[jN _ _ _ (by rw[e1,List.length_drop];omega),jN _ _ _ (by rw[List.length_take];omega),List.length_drop,List.length_take];by_cases c1:p<s.length-min s.length (rg.length-off%rg.length)
 ·exfalso
  have:=a5 (rg.length-off%rg.length+p) (by omega);rw[if_neg (by omega)]at this;omega
 rw[if_neg (by omega),if_neg (by omega)];by_cases c2:p<off%rg.length
 ·rw[if_pos c2]
 rw[if_neg c2,if_neg];intro c3;have:=a5 (p-off%rg.length) (by omega);rw[if_pos (by omega)]at this;omega
theorem xp {n r i j:Nat}(hi:r<=i/\i<r+n)(hj:r<=j/\j<r+n)(h:i%n=j%n):i=j:=by
 rcases Nat.le_total i j with hle | hle
 ·have h1:n∣(j-i):=Nat.dvd_of_mod_eq_zero (Nat.sub_mod_eq_zero_of_mod_eq h.symm)
  rcases Nat.eq_zero_or_pos (j-i)with e | e
  ·omega
  have:=Nat.le_of_dvd e h1;omega
 have h1:n∣(i-j):=Nat.dvd_of_mod_eq_zero (Nat.sub_mod_eq_zero_of_mod_eq h)
 rcases Nat.eq_zero_or_pos (i-j)with e | e
 ·omega
 have:=Nat.le_of_dvd e h1;omega
theorem sQ {e:Int}{gs:List Sp}(hc:aI e gs=true){off r:Nat}{s:List UInt8}{n:Nat}(h1:1<=n)(hin:∀i,af i gs->(r:Int)<=i/\i<(r:Int)+n/\(off:Int)<=i/\i<(off:Int)+s.length)
  (rg:List UInt8)(hrg:rg.length=n){i:Nat}(hi:r<=i/\i<r+n) :
  (af (i:Int) gs->(bj rg off s gs)[i%n]? =s[i-off]?)/\(¬af (i:Int) gs->(bj rg off s gs)[i%n]? =rg[i%n]?):=by
 induction gs generalizing e rg with
 | nil=>exact⟨fun h=>(aZ h).elim,fun _=>rfl⟩
 | cons g gs ih =>
  have hc':=hc;rw[aB]at hc;obtain⟨g1,g2,g3⟩:=i6 hc' (List.mem_cons_self (a:=g) (l:=gs));have m1:=hin _ g2;have m2:=hin _ g3
  have hcl:(eV s off g).length=(g.2-g.1).toNat:=by
   unfold eV;rw[List.length_take,List.length_drop];omega
  have hfl:(cv rg g.1.toNat (eV s off g)).length=n:=by rw[eM _ _ _ (by omega) (by rw[hcl];omega)];exact hrg
  obtain⟨i1,i2⟩:=ih hc.2 (fun x hx=>hin x (mem_cons.2 (.inr hx))) (cv rg g.1.toNat (eV s off g)) hfl
  have hcut:∀j,j<(eV s off g).length->(eV s off g)[j]? =s[g.1.toNat-off+j]? :=by
   intro j hj;unfold eV;rw[hcl]at hj;rw[List.getElem?_take_of_lt hj,List.getElem?_drop]
   congr 1
   omega
  have a0:∀(x:Nat),g.1<=(x:Int)/\(x:Int)<g.2->(cv rg g.1.toNat (eV s off g))[x%n]? =s[x-off]? :=by
   intro x hx;have:=uU rg g.1.toNat (eV s off g) (by omega) (by rw[hcl];omega) (j:=x-g.1.toNat) (by rw[hcl];omega);rw[show g.1.toNat+(x-g.1.toNat)=x by omega,hrg,hcut _ (by rw[hcl];omega)]at this;rw[this]
   congr 1
   omega
  have aF:¬(g.1<=(i:Int)/\(i:Int)<g.2)->(cv rg g.1.toNat (eV s off g))[i%n]? =rg[i%n]? :=by
   intro hx;refine sP rg g.1.toNat (eV s off g) (by omega) (by rw[hcl];omega) (by rw[hrg];exact Nat.mod_lt _ (by omega)) (fun j hj=> ?_);rw[hrg,hcl]at *;intro hm;have:=xp (r:=r) (n:=n) (i:=g.1.toNat+j) (j:=i) (by omega) hi hm;omega
  show(_->(bj (cv rg g.1.toNat (eV s off g)) off s gs)[i%n]? =_)/\(_->(bj (cv rg g.1.toNat (eV s off g)) off s gs)[i%n]? =_);refine⟨fun h=> ?_,fun h=> ?_⟩
  ·by_cases hm:af (i:Int) gs
   ·exact i1 hm
   rw[i2 hm]
   rcases mem_cons.1 h with h | h
   ·exact a0 i h
   exact(hm h).elim
  rw[i2 (fun k=>h (mem_cons.2 (.inr k)))];exact aF (fun k=>h (mem_cons.2 (.inl k)))
theorem Bx.put_get {b:Bx}(ok:b.Ok){off:Nat}(s:List UInt8)(h1:off<=1099511627776){r:Nat}(hr:b.rd=r){i:Nat}(hi:r<=i/\i<r+b.ring.length) :
  (b.has i->(b.put off s).ring[i%b.ring.length]? =b.ring[i%b.ring.length]?)/\(¬b.has i->off<=i/\i<off+s.length->(b.put off s).ring[i%b.ring.length]? =s[i-off]?):=by
 have a3:=ok.rdnx;unfold Bx.put;rw[if_neg (by omega)];by_cases hlt:b.hi off s.length<=b.lo off
 ·rw[if_pos hlt];refine⟨fun _=>rfl,fun hn hp=> ?_⟩
  exfalso
  apply hn
  unfold Bx.lo Bx.hi at hlt;exact .inl (by omega)
 rw[if_neg hlt];have ht:=Bx.takes ok (off:=off) (by omega) (by omega:b.lo off<b.hi off s.length);obtain⟨gc,gm⟩:=cR ht;dsimp only at gm;have hlo:b.lo off=max (off:Int) b.nx:=rfl;have hhi:b.hi off s.length=min ((off:Int)+s.length) (b.rd+b.ring.length):=rfl;have key:=sQ gc (off:=off) (r:=r) (s:=s) (n:=b.ring.length) ok.one (fun x hx=>by have:=(gm x).1 hx;omega) b.ring rfl hi;show(_->(bj b.ring off s (bw b.bl (b.lo off,b.hi off s.length)))[i%b.ring.length]? =_)/\(_->_->(bj b.ring off s (bw b.bl (b.lo off,b.hi off s.length)))[i%b.ring.length]? =_);refine⟨fun h=>key.2 (fun k=> ?_),fun h hp=>key.1 ((gm i).2 ⟨?_,fun k=>h (.inr k)⟩)⟩
 ·obtain⟨k1,k2⟩:=(gm i).1 k
  rcases h with h | h
  ·omega
  exact k2 h
 have:¬((i:Int)<b.nx):=fun g=>h (.inl ⟨by omega,g⟩);omega
theorem sR (rg:List UInt8)(rd q:Nat)(h1:1<=rg.length)(hq:q<=rg.length){j:Nat}(hj:j<q):(ge rg rd q)[j]? =rg[(rd+j)%rg.length]? :=by
 have hm:rd%rg.length<rg.length:=Nat.mod_lt _ (by omega);rw[nQ (by omega)];unfold ge;have hl:((rg.drop (rd%rg.length)).take q).length=min q (rg.length-rd%rg.length):=by rw[List.length_take,List.length_drop]
 by_cases h:j<rg.length-rd%rg.length
 ·rw[if_pos h,List.getElem?_append_left (by omega),List.getElem?_take_of_lt hj,List.getElem?_drop]
 rw[if_neg h,List.getElem?_append_right (by omega),hl,show min q (rg.length-rd%rg.length)=rg.length-rd%rg.length by omega,List.getElem?_take_of_lt (by omega)]
theorem mW (rg:List UInt8)(rd q:Nat)(h1:1<=rg.length)(hq:q<=rg.length):(ge rg rd q).length=q:=by
 have hm:rd%rg.length<rg.length:=Nat.mod_lt _ (by omega);unfold ge;rw[List.length_append,List.length_take,List.length_drop,List.length_take];omega
def Bx.Str (b:Bx)(S:List UInt8):Prop:=∀i:Nat,b.rd<=i->b.has i->b.ring[i%b.ring.length]? =S[i]?
theorem Bx.has_lt {b:Bx}(ok:b.Ok){i:Int}(h:b.has i):i<b.rd+b.ring.length:=by
 rcases h with h | h
 ·have:=ok.nxend;omega
 exact(ok.mem i h).2
theorem Bx.Str.put {b:Bx}{S:List UInt8}(h:b.Str S)(ok:b.Ok){off:Nat}(s:List UInt8)(h1:off<=1099511627776)(hs:∀i,off<=i->i<off+s.length->s[i-off]? =S[i]?):(b.put off s).Str S:=by
 obtain⟨p1,p2,p3,p4,p5⟩:=Bx.put_spec ok s (off:=off) (by omega) (by omega);obtain⟨r,hr⟩:=Int.eq_ofNat_of_zero_le ok.rd0;intro i hi hh;rw[p2]at hi;have hlt:=Bx.has_lt p1 hh;rw[p2,p3]at hlt;rw[p3];obtain⟨k1,k2⟩:=Bx.put_get ok s h1 hr (i:=i) (by omega);by_cases hb:b.has i
 ·rw[k1 hb];exact h i hi hb
 rcases(p5 i).1 hh with g | g
 ·exact(hb g).elim
 rw[k2 hb (by omega)];exact hs i (by omega) (by omega)
theorem Bx.take_has (b:Bx)(k:Int):(b.take k).nx=b.nx/\(b.take k).bl=b.bl/\(b.take k).ring=b.ring/\∀i,(b.take k).has i↔b.has i:=by
 unfold Bx.take;split
 ·exact⟨rfl,rfl,rfl,fun _=>Iff.rfl⟩
 exact⟨rfl,rfl,rfl,fun _=>Iff.rfl⟩
theorem Bx.Str.take {b:Bx}{S:List UInt8}(h:b.Str S)(ok:b.Ok){r:Nat}(hr:b.rd=r)(k:Int) :
  ∃q:Nat,(q:Int)=max 0 (min k (b.nx-b.rd))/\(b.take k).rd=b.rd+q/\(b.take k).Str S/\(b.takeS k).length=q/\∀j,j<q->(b.takeS k)[j]? =S[r+j]? :=by
 have h1:=ok.rdnx;have h2:=ok.nxend;obtain⟨t1,t2,t3,t4⟩:=b.take_has k
 have a4:b.rd<=(b.take k).rd->(b.take k).Str S:=by
  intro hle i hi hh;rw[t3];exact h i (by omega) ((t4 i).1 hh)
 by_cases hz:min k (b.nx-b.rd)<=0
 ·have e1:b.take k=b:=by unfold Bx.take;rw[if_pos hz]
  have e2:b.takeS k=[]:=by unfold Bx.takeS;rw[if_pos hz]
  refine⟨0,by omega,by rw[e1];omega,by rw[e1];exact h,by rw[e2];rfl,fun j hj=>by omega⟩
 obtain⟨q,hq⟩:=Int.eq_ofNat_of_zero_le (show 0<=min k (b.nx-b.rd) by omega);have e1:(b.take k).rd=b.rd+q:=by unfold Bx.take;rw[if_neg hz,hq];try rfl
 have e2:b.takeS k=ge b.ring r q:=by unfold Bx.takeS;rw[if_neg hz,hq,hr];try rfl
 refine⟨q,by omega,e1,a4 (by omega),by rw[e2];exact mW _ _ _ ok.one (by omega),fun j hj=> ?_⟩;rw[e2,sR _ _ _ ok.one (by omega) hj];exact h (r+j) (by omega) (.inl (by omega))
theorem Bx.Ok.take {b:Bx}(ok:b.Ok)(k:Int)(hsm:(b.take k).rd+b.ring.length<=1099511627776):(b.take k).Ok:=by
 obtain⟨t1,t2,t3,t4⟩:=b.take_has k
 have a3:b.rd<=(b.take k).rd/\(b.take k).rd<=b.nx:=by
  have:=ok.rdnx;unfold Bx.take;split
  ·exact⟨Int.le_refl _,this⟩
  dsimp only;omega
 refine⟨by rw[t3];exact ok.one,by rw[t3];exact ok.most,Int.le_trans ok.rd0 a3.1,by rw[t1];exact a3.2,by rw[t1,t3];have:=ok.nxend;omega,by rw[t3];exact hsm,by rw[t2];exact ok.canon,fun i hi=> ?_⟩;rw[t1,t3];rw[t2]at hi;have:=ok.mem i hi;omega
end Go.Proofs.YtclkcmidhhfdmaaGreatDoor
