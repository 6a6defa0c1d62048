import Derived.Test.YtclkcmidhhfdmaaGreatDoorKb6
namespace Go.Proofs.YtclkcmidhhfdmaaGreatDoor
section
open Go.RowKit Go.Shelf
theorem gaps_canon (s:Sc):canonB s.gaps=true:=by
 unfold Sc.gaps;by_cases h:takesB s.sk (s.una,s.next)=true
 ·exact (gapsL_spec h).1
 unfold gapsL;rw [if_neg h];rfl
theorem canonF_pair {e:Int} {L:List Sp} (h:canonF e L=true):L.Pairwise fun x y=>x.1<=y.1:=by
 induction L generalizing e with
 | nil=>exact List.Pairwise.nil
 | cons x l ih =>
  rw [canonF_cons] at h;refine List.Pairwise.cons (fun y hy=> ?_) (ih h.2);have:=canonF_gt h.2 (show Mem y.1 l from ⟨y,hy,Int.le_refl _,(canonF_ok h.2 y hy).2.1⟩);omega
theorem gaps_rise (s:Sc) (i j:Nat) (h1:i<=j) (h2:j<s.gaps.length):(s.gaps[i]'(by omega)).1<=s.gaps[j].1:=by
 rcases Nat.lt_or_ge i j with h | h
 ·exact List.pairwise_iff_getElem.1 (canonF_pair (gaps_canon s)) i j (by omega) h2 h
 obtain rfl:i=j:=by omega
 exact Int.le_refl _
theorem gaps_len (s:Sc):s.gaps.length<=1099511627776:=canonF_len (gaps_canon s)
end
noncomputable def crd (P:Int->Prop):Nat->Int
 | 0=>0
 | n+1=>crd P n+ @ite _ (P (n:Int)) (Classical.propDecidable _) 1 0
theorem crd_nonneg (P:Int->Prop) (n:Nat):0<=crd P n:=by
 induction n with
 | zero=>exact Int.le_refl _
 | succ n ih=>show 0<=crd P n+_;split <;> omega
theorem crd_or {P Q R:Int->Prop} {n:Nat} (h:∀ i,P i↔Q i∨R i) (hd:∀ i,Q i->¬ R i):crd P n=crd Q n+crd R n:=by
 induction n with
 | zero=>rfl
 | succ n ih =>
  show crd P n+_=(crd Q n+_)+(crd R n+_);have h1:=h n;have h2:=hd n;by_cases hq:Q n
  ·rw [if_pos (h1.2 (.inl hq)),if_pos hq,if_neg (h2 hq)];omega
  by_cases hr:R n
  ·rw [if_pos (h1.2 (.inr hr)),if_neg hq,if_pos hr];omega
  rw [if_neg (fun hp=>(h1.1 hp).elim hq hr),if_neg hq,if_neg hr];omega
theorem crd_le {P Q:Int->Prop} {n:Nat} (h:∀ i,P i->Q i):crd P n<=crd Q n:=by
 induction n with
 | zero=>exact Int.le_refl _
 | succ n ih =>
  show crd P n+_<=crd Q n+_;by_cases hp:P n
  ·rw [if_pos hp,if_pos (h _ hp)];omega
  rw [if_neg hp];split <;> omega
theorem crd_none {P:Int->Prop} {n:Nat} (h:∀ i,¬ P i):crd P n=0:=by
 induction n with
 | zero=>rfl
 | succ n ih=>show crd P n+_=0;rw [if_neg (h _),ih];rfl
theorem crd_iv {a b:Int} (ha:0<=a) (hab:a<=b):∀ n:Nat,crd (fun i=>a<=i/\i<b) n=max 0 (min b n-a)
 | 0=>by show (0:Int)=_;omega
 | n+1=>by
  have ih:=crd_iv ha hab n;show crd _ n+_=_;by_cases h:a<=(n:Int)/\(n:Int)<b
  ·rw [if_pos h,ih];omega
  ·rw [if_neg h,ih];omega
theorem countF_crd {e:Int} {L:List Sp} (h:canonF e L=true) {n:Nat} (hn:∀ i,Mem i L->i<n):countF L=crd (fun i=>Mem i L) n:=by
 induction L generalizing e with
 | nil=>exact (crd_none fun i=>mem_nil).symm
 | cons x l ih =>
  rw [canonF_cons] at h;have hl:=ih h.2 (fun i hi=>hn i (mem_cons.2 (.inr hi)));have hx:=hn (x.2-1) (mem_cons.2 (.inl (by omega)));rw [crd_or (Q:=fun i=>x.1<=i/\i<x.2) (R:=fun i=>Mem i l) (fun i=>mem_cons) (fun i hi hm=>by have:=canonF_gt h.2 hm;omega),crd_iv (by omega) (by omega),←hl];show x.2-x.1+countF l=_;omega
theorem mem_gaps {s:Sc} (h:s.Ok) {i:Int}:Mem i s.gaps↔(s.una<=i/\i<s.next)/\¬ Mem i s.sk:=by
 have h0:=h.u0;have h1:=h.un;have h2:=h.n40;unfold Sc.gaps;by_cases hlt:s.una<s.next
 ·exact (gapsL_spec (takesB_iff.2 ⟨h.csk,h0,hlt,h2⟩)).2 i
 unfold gapsL;rw [if_neg (by rw [takesB_iff];rintro ⟨_,_,h3,_⟩;exact hlt h3)]
 constructor
 ·intro hm;exact (mem_nil hm).elim
 omega
theorem canonF_lt {e:Int} {L:List Sp} (h:canonF e L=true) {g:Sp} (hg:g∈L):g.1<g.2:=(canonF_ok h g hg).2.1
theorem lostOf_spec (s:Sc) (m:Int) {g:Sp} (hg:g.1<=g.2):(s.lostOf m g).1=g.1/\g.1<=(s.lostOf m g).2/\(s.lostOf m g).2<=g.2:=by
 unfold Sc.lostOf;split
 ·exact ⟨rfl,by dsimp only;omega,by dsimp only;omega⟩
 exact ⟨rfl,hg,Int.le_refl _⟩
def Sc.all (s:Sc) (m:Int):List Sp:=withL (s.gaps.map (s.lostOf m))
theorem withL_cons (x:Sp) (l:List Sp):withL (x::l)=if x.1<x.2 then x::withL l else withL l:=by
 unfold withL;by_cases h:x.1<x.2
 ·rw [if_pos h,List.filter_cons_of_pos (by simpa using h)]
 rw [if_neg h,List.filter_cons_of_neg (by simpa using h)]
theorem withMap_spec {f:Sp->Sp} {e:Int} {L:List Sp} (h:canonF e L=true) (hf:∀ g∈L,(f g).1=g.1/\g.1<=(f g).2/\(f g).2<=g.2) :
  canonF e (withL (L.map f))=true/\(∀ i,Mem i (withL (L.map f))↔∃ g∈L,g.1<=i/\i<(f g).2):=by
 induction L generalizing e with
 | nil=>exact ⟨rfl,fun i=>⟨fun h=>(mem_nil h).elim,fun ⟨_,hg,_⟩=>by cases hg⟩⟩
 | cons x l ih =>
  rw [canonF_cons] at h;obtain ⟨f1,f2,f3⟩:=hf x List.mem_cons_self;obtain ⟨c1,c2⟩:=ih h.2 (fun g hg=>hf g (List.mem_cons_of_mem _ hg));rw [List.map_cons,withL_cons]
  have hm:∀ i,(∃ g∈x::l,g.1<=i/\i<(f g).2)↔(x.1<=i/\i<(f x).2)∨∃ g∈l,g.1<=i/\i<(f g).2:=fun i=>by
   constructor
   ·rintro ⟨g,hg,k⟩
    rcases List.mem_cons.1 hg with rfl | hg
    ·exact .inl k
    exact .inr ⟨g,hg,k⟩
   rintro (k | ⟨g,hg,k⟩)
   ·exact ⟨x,List.mem_cons_self,k⟩
   exact ⟨g,List.mem_cons_of_mem _ hg,k⟩
  split
  ·rename_i hlt;refine ⟨canonF_cons.2 ⟨by omega,canonF_mono c1 f3⟩,fun i=> ?_⟩;rw [mem_cons,c2,hm,f1]
  rename_i hlt;refine ⟨canonF_mono c1 (by omega),fun i=> ?_⟩;rw [c2,hm]
  constructor
  ·exact .inr
  rintro (k | k)
  ·omega
  exact k
theorem all_spec (s:Sc) (m:Int):canonB (s.all m)=true/\∀ i,Mem i (s.all m)↔∃ g∈s.gaps,g.1<=i/\i<(s.lostOf m g).2 :=
 withMap_spec (gaps_canon s) (fun _ hg=>lostOf_spec s m (Int.le_of_lt (canonF_lt (gaps_canon s) hg)))
theorem mem_all_gaps {s:Sc} {m i:Int} (h:Mem i (s.all m)):Mem i s.gaps:=by
 obtain ⟨g,hg,h1,h2⟩:=((all_spec s m).2 i).1 h;have:=lostOf_spec s m (Int.le_of_lt (canonF_lt (gaps_canon s) hg));exact ⟨g,hg,h1,by omega⟩
theorem lost_eq {s:Sc} {m:Int} (hm:1<=m):s.lost m=wthF (s.all m) s.ag:=by unfold Sc.lost;rw [if_neg (by omega)];rfl
theorem lost_spec {s:Sc} (h:s.Ok) {m:Int} (hm:1<=m):canonB (s.lost m)=true/\∀ i,Mem i (s.lost m)↔Mem i (s.all m)/\¬ Mem i s.ag:=by
 rw [lost_eq hm];exact wthF_spec (all_spec s m).1 h.cag
theorem pipF_eq (s:Sc) (m:Int) {e:Int} {L:List Sp} (h:canonF e L=true):pipF s m L=countF L-countF (withL (L.map (s.lostOf m))):=by
 induction L generalizing e with
 | nil=>rfl
 | cons x l ih =>
  have h0:=canonF_cons.1 h;obtain ⟨f1,f2,f3⟩:=lostOf_spec s m (g:=x) (by omega);rw [List.map_cons,withL_cons];show x.2-x.1-((s.lostOf m x).2-(s.lostOf m x).1)+pipF s m l=x.2-x.1+countF l-_;rw [ih h0.2];split
  ·show _=x.2-x.1+countF l-((s.lostOf m x).2-(s.lostOf m x).1+countF (withL (l.map (s.lostOf m))));omega
  omega
theorem pipe_eq (s:Sc) {m:Int} (hm:1<=m):s.pipe m=countF s.ag+(countF s.gaps-countF (s.all m)):=by
 unfold Sc.pipe;rw [if_neg (by omega),pipF_eq s m (gaps_canon s)];rfl
theorem Sc.Ok.nat {s:Sc} (h:s.Ok):((s.next.toNat:Nat):Int)=s.next:=by have:=h.u0;have:=h.un;omega
theorem counts {s:Sc} (h:s.Ok) (m:Int) (hm:1<=m):countF s.sk=crd (fun i=>Mem i s.sk) s.next.toNat/\countF s.ag=crd (fun i=>Mem i s.ag) s.next.toNat/\countF s.gaps=crd (fun i=>Mem i s.gaps) s.next.toNat /\
  countF (s.all m)=crd (fun i=>Mem i (s.all m)) s.next.toNat/\countF (s.lost m)=crd (fun i=>Mem i (s.lost m)) s.next.toNat/\s.next-s.una=countF s.sk+countF s.gaps:=by
 have hn:=h.nat;have h0:=h.u0;have h1:=h.un;have a1:=countF_crd h.csk (n:=s.next.toNat) (fun i hi=>by rw [hn];exact (h.msk i hi).2);have a2:=countF_crd h.cag (n:=s.next.toNat) (fun i hi=>by rw [hn];exact (h.mag i hi).2.1);have a3:=countF_crd (gaps_canon s) (n:=s.next.toNat) (fun i hi=>by rw [hn];exact ((mem_gaps h).1 hi).1.2);have a4:=countF_crd (all_spec s m).1 (n:=s.next.toNat) (fun i hi=>by rw [hn];exact ((mem_gaps h).1 (mem_all_gaps hi)).1.2);have a5:=countF_crd (lost_spec h hm).1 (n:=s.next.toNat) (fun i hi=>by rw [hn];exact ((mem_gaps h).1 (mem_all_gaps (((lost_spec h hm).2 i).1 hi).1)).1.2);refine ⟨a1,a2,a3,a4,a5,?_⟩;have hiv:=crd_iv h0 h1 s.next.toNat;rw [crd_or (Q:=fun i=>Mem i s.sk) (R:=fun i=>Mem i s.gaps) (fun i=> ?_) (fun i hi hg=>((mem_gaps h).1 hg).2 hi),←a1,←a3] at hiv
 ·omega
 rw [mem_gaps h]
 constructor
 ·intro hi;by_cases hs:Mem i s.sk
  ·exact .inl hs
  exact .inr ⟨hi,hs⟩
 rintro (hi | hi)
 ·exact h.msk i hi
 exact hi.1
theorem partition {s:Sc} (h:s.Ok) {m:Int} (hm:1<=m):0<=s.next-s.una-countF s.sk-countF (s.lost m)/\s.next-s.una-countF s.sk-countF (s.lost m)<=s.pipe m/\s.pipe m<=2*(s.next-s.una-countF s.sk-countF (s.lost m)):=by
 obtain ⟨a1,a2,a3,a4,a5,a6⟩:=counts h m hm;rw [pipe_eq s hm];have hl:=(lost_spec h hm).2
 have b1:crd (fun i=>Mem i (s.all m)) s.next.toNat=crd (fun i=>Mem i (s.lost m)) s.next.toNat+crd (fun i=>Mem i (s.all m)/\Mem i s.ag) s.next.toNat:=crd_or (fun i=>by
  rw [hl];by_cases hg:Mem i s.ag
  ·exact ⟨fun k=>.inr ⟨k,hg⟩,fun k=>by rcases k with k | k;exact (k.2 hg).elim;exact k.1⟩
  exact ⟨fun k=>.inl ⟨k,hg⟩,fun k=>by rcases k with k | k;exact k.1;exact k.1⟩) (fun i k k2=>((hl i).1 k).2 k2.2)
 have b2:crd (fun i=>Mem i s.ag) s.next.toNat=crd (fun i=>Mem i s.ag/\¬ Mem i (s.all m)) s.next.toNat+crd (fun i=>Mem i (s.all m)/\Mem i s.ag) s.next.toNat:=crd_or (fun i=>by
  by_cases hg:Mem i (s.all m)
  ·exact ⟨fun k=>.inr ⟨hg,k⟩,fun k=>by rcases k with k | k;exact k.1;exact k.2⟩
  exact ⟨fun k=>.inl ⟨k,hg⟩,fun k=>by rcases k with k | k;exact k.1;exact k.2⟩) (fun i k k2=>k.2 k2.1)
 have b3:crd (fun i=>Mem i s.gaps) s.next.toNat=crd (fun i=>Mem i s.gaps/\¬ Mem i (s.all m)) s.next.toNat+crd (fun i=>Mem i (s.all m)) s.next.toNat:=crd_or (fun i=>by
  by_cases hg:Mem i (s.all m)
  ·exact ⟨fun _=>.inr hg,fun _=>mem_all_gaps hg⟩
  exact ⟨fun k=>.inl ⟨k,hg⟩,fun k=>by rcases k with k | k;exact k.1;exact (hg k).elim⟩) (fun i k k2=>k.2 k2)
 have b4:=crd_le (n:=s.next.toNat) (P:=fun i=>Mem i s.ag/\¬ Mem i (s.all m)) (Q:=fun i=>Mem i s.gaps/\¬ Mem i (s.all m)) (fun i k=>⟨(mem_gaps h).2 ⟨by have:=h.mag i k.1;exact ⟨this.1,this.2.1⟩,(h.mag i k.1).2.2⟩,k.2⟩);have b5:=crd_nonneg (fun i=>Mem i s.ag/\¬ Mem i (s.all m)) s.next.toNat;have b6:=crd_nonneg (fun i=>Mem i (s.all m)/\Mem i s.ag) s.next.toNat;omega
theorem lost_apart {s:Sc} (h:s.Ok) {m:Int} (hm:1<=m) {x:Sp} (hx:x∈s.lost m):okS x/\s.una<=x.1/\x.2<=s.next/\gapsL s.sk x=[x]:=by
 obtain ⟨c,hl⟩:=lost_spec h hm;have hok:=canonF_ok c x hx;have hin:∀ i,x.1<=i->i<x.2->(s.una<=i/\i<s.next)/\¬ Mem i s.sk:=fun i h1 h2=>(mem_gaps h).1 (mem_all_gaps ((hl i).1 ⟨x,hx,h1,h2⟩).1);have hx2:=hok.2.1;have f1:=hin x.1 (Int.le_refl _) hx2;have f2:=hin (x.2-1) (by omega) (by omega);refine ⟨hok,f1.1.1,by omega,?_⟩;obtain ⟨g1,g2⟩:=gapsL_spec (takesB_iff.2 ⟨h.csk,hok⟩);refine canonF_unique g1 (canonB_one.2 hok) (fun i=> ?_);rw [g2,mem_cons]
 constructor
 ·exact fun k=>.inl k.1
 rintro (k | k)
 ·exact ⟨k,(hin i k.1 k.2).2⟩
 exact (mem_nil k).elim
theorem lostOf_congr {s t:Sc} (h1:t.sk=s.sk) (h2:t.mark=s.mark):t.lostOf=s.lostOf:=by funext m g;unfold Sc.lostOf;rw [h1,h2]
theorem all_congr {s t:Sc} (h1:t.sk=s.sk) (h2:t.mark=s.mark) (h3:t.una=s.una) (h4:t.next=s.next) (m:Int):t.all m=s.all m:=by
 unfold Sc.all Sc.gaps;rw [lostOf_congr h1 h2,h1,h3,h4]
theorem ret_lost {s:Sc} (h:s.Ok) {m:Int} (hm:1<=m) {x0:Sp} (hx0:x0∈s.lost m) {x:Sp} (h1:x.1=x0.1) (h2:x.1<x.2) (h3:x.2<=x0.2) :
  s.inB x=true/\countF ((s.retS x).lost m)=countF (s.lost m)-(x.2-x.1)/\(s.retS x).pipe m=s.pipe m+(x.2-x.1):=by
 obtain ⟨c,hl⟩:=lost_spec h hm;obtain ⟨hok,p1,p2,-⟩:=lost_apart h hm hx0;have hu:=h.u0;have hin:s.inB x=true:=Sc.inB_iff.2 ⟨by omega,h2,by omega⟩;have hxm:∀ i,x.1<=i->i<x.2->Mem i (s.lost m):=fun i h1' h2'=>⟨x0,hx0,by omega,by omega⟩;obtain ⟨-,-,hag⟩:=h.ret_spec hin;have hok':=h.retS hin;have hall:(s.retS x).all m=s.all m:=all_congr rfl rfl rfl rfl m;obtain ⟨a1,a2,a3,a4,a5,a6⟩:=counts h m hm;obtain ⟨d1,d2,d3,d4,d5,d6⟩:=counts hok' m hm;rw [show (s.retS x).next=s.next from rfl] at d1 d2 d3 d4 d5;have hn:=h.nat;have hiv:=crd_iv (a:=x.1) (b:=x.2) (by omega) (by omega) s.next.toNat
 have hag2:∀ i,Mem i (s.retS x).ag↔Mem i s.ag∨(x.1<=i/\i<x.2):=fun i=>by
  rw [hag]
  constructor
  ·rintro (k | k)
   ·exact .inl k
   exact .inr k.2.1
  rintro (k | k)
  ·exact .inl k
  exact .inr ⟨by omega,k,((mem_gaps h).1 (mem_all_gaps ((hl i).1 (hxm i k.1 k.2)).1)).2⟩
 have e1:crd (fun i=>Mem i (s.lost m)) s.next.toNat=crd (fun i=>Mem i ((s.retS x).lost m)) s.next.toNat+crd (fun i=>x.1<=i/\i<x.2) s.next.toNat:=crd_or (fun i=>by
  rw [(lost_spec hok' hm).2 i,hall,hag2,hl]
  constructor
  ·intro k;by_cases hx:x.1<=i/\i<x.2
   ·exact .inr hx
   exact .inl ⟨k.1,fun k2=>k2.elim k.2 hx⟩
  rintro (k | k)
  ·exact ⟨k.1,fun k2=>k.2 (.inl k2)⟩
  exact (hl i).1 (hxm i k.1 k.2)) (fun i k k2=>by
  have:=(((lost_spec hok' hm).2 i).1 k).2;rw [hag2] at this;exact this (.inr k2))
 have e2:crd (fun i=>Mem i (s.retS x).ag) s.next.toNat=crd (fun i=>Mem i s.ag) s.next.toNat+crd (fun i=>x.1<=i/\i<x.2) s.next.toNat:=crd_or hag2 (fun i k k2=>((hl i).1 (hxm i k2.1 k2.2)).2 k);refine ⟨hin,by omega,?_⟩;rw [pipe_eq _ hm,pipe_eq _ hm,hall,show (s.retS x).gaps=s.gaps from rfl];omega
section
open Go.RowKit Go.Shelf
def LstAt (lb:Nat) (L:List Sp) (a:Option Addr) (cap:Nat) (W:World):Prop:=SpAt W W.heap.size a L/\L.length<=cap/\(0<L.length->∀ ad,a=some ad->lb<=ad.block)/\(∀ ad,a=some ad->ad=⟨ad.block,ad.off,none⟩)/\(0<L.length->∀ ad,a=some ad->TyB W ad.block 92)
theorem LstAt.below {lb:Nat} {L:List Sp} {a:Option Addr} {cap:Nat} {W W':World} (h:LstAt lb L a cap W) (hb:Below W.heap.size W W'):LstAt lb L a cap W':=⟨(h.1.below hb).mono hb.size,h.2.1,h.2.2.1,h.2.2.2.1,fun hl ad e=>(h.2.2.2.2 hl ad e).of (hb.block _ (h.2.2.2.2 hl ad e).lt)⟩
theorem LstAt.other {lb C:Nat} {L:List Sp} {a:Option Addr} {cap:Nat} {W W':World} (h:LstAt lb L a cap W) (hc:Chg C W W') (hC:C<lb):LstAt lb L a cap W':=by
 refine ⟨⟨h.1.small,fun hl=> ?_⟩,h.2.1,h.2.2.1,h.2.2.2.1,fun hl ad e=>(h.2.2.2.2 hl ad e).of (hc.block _ (h.2.2.2.2 hl ad e).lt (by have:=h.2.2.1 hl ad e;omega))⟩;obtain ⟨b,o,ha,hb,hcs⟩:=h.1.cells hl;have hne:b≠C:=by have:=h.2.2.1 hl _ ha;dsimp only at this;omega
 have hk:=hc.block b hb hne;exact ⟨b,o,ha,Nat.lt_of_lt_of_le hb hc.size,fun i hi=>⟨(World.cell?_of_block (a:=⟨b,_,none⟩) hk).trans (hcs i hi).1,(World.cell?_of_block (a:=⟨b,_,none⟩) hk).trans (hcs i hi).2⟩⟩
theorem LstAt.own {lb base:Nat} {L:List Sp} {a:Option Addr} {n cap:Nat} {W:World} (h:OwnSp W base (.slice a n cap) L) (hs:L.length<=1099511627776) (hb:lb<=base):LstAt lb L a cap W/\n=L.length:=by
 have hty:=h.ty;obtain ⟨a',c',hv,hsp,hc,hap⟩:=h.at hs
 cases hv
 exact ⟨⟨hsp,hc,fun _ ad e=>Nat.le_trans hb (hap ad e).1,fun ad e=>(hap ad e).2.2,fun _=>hty⟩,rfl⟩
theorem LstAt.nil (lb:Nat) (W:World):LstAt lb [] none 0 W:=⟨⟨by simp,fun h=>absurd h (by simp)⟩,by simp,fun h=>absurd h (by simp),(fun ad e=>by cases e),fun h=>absurd h (by simp)⟩
theorem LstAt.set {lb B i:Nat} {L:List Sp} {a:Option Addr} {cap:Nat} {W:World} (h:LstAt lb L a cap W) (hB:B<lb) (v:Value):LstAt lb L a cap (W.setCell ⟨B,i,none⟩ v):=h.other ((Chg.refl B W).setCell i v) hB
theorem LstAt.mono {lb lb':Nat} {L:List Sp} {a:Option Addr} {cap:Nat} {W:World} (h:LstAt lb' L a cap W) (hb:lb<=lb'):LstAt lb L a cap W:=⟨h.1,h.2.1,fun hl ad e=>Nat.le_trans hb (h.2.2.1 hl ad e),h.2.2.2⟩
def InL (B:Nat) (a:Option Addr) (L:List Sp) (W:World):Prop:=SpAt W W.heap.size a L/\(0<L.length->∀ ad,a=some ad->ad.block≠B)
theorem InL.chg {B:Nat} {a:Option Addr} {L:List Sp} {W W':World} (h:InL B a L W) (hc:Chg B W W'):InL B a L W':=by
 refine ⟨⟨h.1.small,fun hl=> ?_⟩,h.2⟩;obtain ⟨b,o,ha,hb,hcs⟩:=h.1.cells hl;have hk:=hc.block b hb (by have:=h.2 hl _ ha;exact this);exact ⟨b,o,ha,Nat.lt_of_lt_of_le hb hc.size,fun i hi=>⟨(World.cell?_of_block (a:=⟨b,_,none⟩) hk).trans (hcs i hi).1,(World.cell?_of_block (a:=⟨b,_,none⟩) hk).trans (hcs i hi).2⟩⟩
theorem cell_chg {B C i:Nat} {v:Value} {w w':World} (h:w.cell? ⟨B,i,none⟩=some v) (hc:Chg C w w') (hne:B≠C):w'.cell? ⟨B,i,none⟩=some v :=
 (World.cell?_of_block (a:=⟨B,i,none⟩) (hc.block B (block_lt_of_cell h) hne)).trans h
theorem at_chg {B C i:Nat} {v:Value} {w w':World} (h:At B i v w) (hc:Chg C w w') (hne:B≠C):At B i v w':=by
 have hb:=hc.block B h.lt hne;exact ⟨(World.cell?_of_block (a:=⟨B,i,none⟩) hb).trans h.1,(World.frozen?_of_block (a:=⟨B,i,none⟩) hb).trans h.2⟩
end
end Go.Proofs.YtclkcmidhhfdmaaGreatDoor
