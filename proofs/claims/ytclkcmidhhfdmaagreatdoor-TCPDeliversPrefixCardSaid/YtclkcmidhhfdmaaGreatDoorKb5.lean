import Derived.Test.YtclkcmidhhfdmaaGreatDoorKb2
import Derived.Test.YtclkcmidhhfdmaaGreatDoorKb4
import Derived.Test.YtclkcmidhhfdmaaGreatDoorChecked
import Derived.RangeFuncNested
import Derived.RangeFuncBound
import Derived.RangeFuncCalls
import Derived.RangeFuncLeaves
import Derived.Shelf.Abstract
import Derived.Shelf.RegionOpen
import Derived.OwnWalkIn
import Derived.TacticsInMore
import Derived.LoopNIn
import Derived.LoopIn
import Derived.Laws.AppendOwn
import Derived.Laws.Append
namespace Go.Proofs.YtclkcmidhhfdmaaGreatDoor
open Lib (hid)
section
open Go.RowKit Go.Shelf
def leaveR (B l:Nat) (r:Loop) (R:Ending->World->Prop) (W:World):Exit->Act->World->Prop
 | .normal,_,W'=>KeepsFrom B W W'/\R (.returned (.bool true)) (W'.putObj l (.loop r))
 | .ret,_,W'=>KeepsFrom B W W'/\R (.returned (.bool false)) (W'.putObj l (.loop { r with state:=.done,pending:=some .ret }))
 | .exit i,_,W'=>KeepsFrom B W W'/\R (.returned (.bool false)) (W'.putObj l (.loop { r with state:=.done,pending:=some (.exit i) }))
 | .goto t,_,W'=>KeepsFrom B W W'/\R (.returned (.bool false)) (W'.putObj l (.loop { r with state:=.done,pending:=some (.goto t) }))
 | .panic _,_,_=>False
 | .outgrown,_,_=>False
theorem yieldAt_of {P:Program} {n B l:Nat} {r:Loop} (hrs:r.state= .ready) (hrp:r.pending=none) {args:Array Value} (hs:args.size=r.params.size) {W:World} (hl:W.heap[l]? =some (.loop r)) (hB:B<=l)
  {R:Ending->World->Prop}
  (h:r.assign.wpIn (Fence.wide.inRound l) n P (Exit.then (fun a' W'=>KeepsFrom B W W'/\r.body.wpIn (Fence.wide.inRound l) n P (leaveR B l r R (W'.putObj l (.loop { r with state:=.busy }))) a' (W'.putObj l (.loop { r with state:=.busy }))) (fun _ _ _=>False))
   { tmps:=(r.params.zip args).foldl (fun t (p,v)=>t.setIfInBounds p v) r.tmps,defers:=[] } W) :
  YieldAt Fence.wide n P l args W R:=by
 refine ⟨r.fn,_,r.assign,r.body,run_yield hl hs,roundIn_of_wpIn trivial (wpIn_mono h ?_)⟩;intro e a' W' he
 cases e with
 | normal =>
  obtain ⟨hk,hb⟩:=he;have hl':=hk.same l _ hB hl rfl;have hlt:=(Array.getElem?_eq_some_iff.1 hl').1;refine ⟨_,run_beginRound hl' hrs,wpIn_mono hb ?_⟩;have hl2:(W'.putObj l (.loop { r with state:=.busy })).heap[l]? =some (.loop { r with state:=.busy }):=World.putObj_heap_same hlt;intro e3 a3 W3 h3
  cases e3 with
  | normal =>
   obtain ⟨hk3,hr3⟩:=h3;refine ⟨_,_,run_endRound none (hk3.same l _ hB hl2 rfl),?_⟩;have e1:({ { r with state:=.busy } with state:=if (none:Option Code).isNone=true then .ready else .done,pending:=none }:Loop)=r:=by cases r;cases hrs;cases hrp;rfl
   rw [e1];exact hr3
  | ret=>exact ⟨_,_,run_endRound (some .ret) (h3.1.same l _ hB hl2 rfl),h3.2⟩
  | exit i=>exact ⟨_,_,run_endRound (some (.exit i)) (h3.1.same l _ hB hl2 rfl),h3.2⟩
  | goto t=>exact ⟨_,_,run_endRound (some (.goto t)) (h3.1.same l _ hB hl2 rfl),h3.2⟩
  | panic c=>exact h3.elim
  | outgrown=>exact h3.elim
 | ret=>exact he.elim
 | exit i=>exact he.elim
 | goto t=>exact he.elim
 | panic c=>exact he.elim
 | outgrown=>exact he.elim
structure SpAt (w:World) (n₀:Nat) (a:Option Addr) (L:List Sp):Prop where
 small:L.length<=1099511627776
 cells:0<L.length->∃ b off,a=some ⟨b,off,none⟩/\b<n₀/\∀ i (h:i<L.length),w.cell? ⟨b,off+i*2,none⟩=some (.int .i64 L[i].1)/\w.cell? ⟨b,off+i*2+1,none⟩=some (.int .i64 L[i].2)
theorem SpAt.below {w w':World} {n₀:Nat} {a:Option Addr} {L:List Sp} (h:SpAt w n₀ a L) (hb:Below n₀ w w'):SpAt w' n₀ a L :=
 ⟨h.small,fun hl=>by
  obtain ⟨b,off,ha,hbl,hc⟩:=h.cells hl;exact ⟨b,off,ha,hbl,fun i hi=>⟨(hb.cell (p:=⟨b,_,none⟩) hbl).trans (hc i hi).1,(hb.cell (p:=⟨b,_,none⟩) hbl).trans (hc i hi).2⟩⟩⟩
theorem SpAt.mono {w:World} {n₀ n₁:Nat} {a:Option Addr} {L:List Sp} (h:SpAt w n₀ a L) (hn:n₀<=n₁):SpAt w n₁ a L :=
 ⟨h.small,fun hl=>by
  obtain ⟨b,off,ha,hbl,hc⟩:=h.cells hl;exact ⟨b,off,ha,Nat.lt_of_lt_of_le hbl hn,hc⟩⟩
end
section
set_option maxRecDepth 100000
open Go.RowKit Go.Shelf
attribute [local go_sem] Oper.semAt_some
set_option maxHeartbeats 2000000 in
theorem each_in (n:Nat) (hn:1<=n) (l n₀:Nat) (a:Option Addr) (cap:Nat) (L:List Sp) (J Jx:Nat->World->Prop)
  (hJ:∀ k A o,J k A->J k (World.alloc A o))
  (hY:∀ k (h:k<L.length) W1,J k W1->YieldAt Fence.wide (n-1) Tryz.prog l #[.int .i64 k,.agg #[.int .i64 L[k].1,.int .i64 L[k].2]] W1 fun e W'=>(e= .returned (.bool true)/\J (k+1) W'/\Below n₀ W1 W')∨(e= .returned (.bool false)/\Jx k W'))
  (W:World) (hc:SpAt W n₀ a L) (hW:n₀<=W.heap.size) (h0:J 0 W) :
  CallsIn Fence.wide n Tryz.prog 187 #[.slice a L.length cap,.func (.yield l) #[] #[]] W fun e W'=>(∃ v,e= .returned v)/\(J L.length W'∨∃ k,k<L.length/\Jx k W'):=by
 refine callsIn_of_wp Tryz.func187 rfl trivial ?_ rfl;simp only [Tryz.ntmps187,List.size_toArray,List.length_cons,List.length_nil,Nat.reduceAdd,Nat.reduceSub,Array.replicate_succ,Array.replicate_zero,List.push_toArray,List.append_toArray,List.nil_append,List.cons_append];have hsm:=hc.small;have HY:=hid hY;have HJ:=hid hJ;clear hY hJ
 gi_wp2
 gi_loopw [8] (fun p wr=>∃ k:Nat,k<=L.length/\p= .int .i64 k/\SpAt wr n₀ a L/\n₀<=wr.heap.size/\J k wr) (fun p _=>L.length-(intOf p).toNat)
 case atStart=>exact ⟨0,Nat.zero_le _,rfl,hc,hW,h0⟩
 case round =>
  clear hc hW h0;obtain ⟨k,hk,rfl,hs,hw,hJk⟩:=hrel;by_cases hlt:k<L.length
  ·obtain ⟨b,off,rfl,hb,hcs⟩:=hs.cells (by omega);obtain ⟨c0,c1⟩:=hcs k hlt;have HS:=hid hs;clear hcs hs;have hlt2:(k:Int)<(L.length:Int):=by omega
   have hJ2:=HJ.out k wr (.cells #[.int .i64 L[k].1,.int .i64 L[k].2] 92) hJk;obtain ⟨fn,tmps,assign,body,hy,hR⟩:=HY.out k hlt _ hJ2;clear hJ2
   gi_wp2
   refine hR.mono ?_;rintro e W3 (⟨rfl,hJ3,hb3⟩ | ⟨rfl,hJx3⟩)
   ·have hb4:=((Below.refl n₀ wr).alloc hw (.cells #[.int .i64 L[k].1,.int .i64 L[k].2] 92)).trans hb3;have hs3:=HS.out.below hb4;have hw3:=Nat.le_trans hw hb4.size;clear hb3 hb4 hy hR
    gi_wp2
    go_roundw
    case rel=>exact ⟨k+1,by omega,by go_num,hs3,hw3,hJ3⟩
    case measure=>simp [intOf];omega
   gi_wp2
   refine bodyPost_ret (results_none rfl _ _ _) rfl ?_;exact ⟨⟨_,rfl⟩,.inr ⟨k,hlt,hJx3⟩⟩
  obtain rfl:k=L.length:=by omega
  gi_wp2
  go_end0
  exact ⟨⟨_,rfl⟩,.inl hJk⟩
def eachPost (B n₀:Nat) (I:Nat->World->Prop) (Ix:Code->Nat->World->Prop) (k:Nat) (W:World):Exit->Act->World->Prop
 | .normal,_,W'=>KeepsFrom B W W'/\Below n₀ W W'/\I (k+1) W'
 | .ret,_,W'=>KeepsFrom B W W'/\Ix .ret k W'
 | .exit i,_,W'=>KeepsFrom B W W'/\Ix (.exit i) k W'
 | .goto t,_,W'=>KeepsFrom B W W'/\Ix (.goto t) k W'
 | .panic _,_,_=>False
 | .outgrown,_,_=>False
theorem wp_each {g:Operand} {ps:Array Tmp} {assign body:Code} {Q:Exit->Act->World->Prop} {a:Act} {w:World} {n n₀:Nat} (hn:2<=n)
  {ad:Option Addr} {cap:Nat} {L:List Sp} (hg:a.eval g= .func (.func 187) #[.slice ad L.length cap] #[]) {p q:Tmp} (hps:ps= #[p,q]) (hc:SpAt w n₀ ad L) (hn₀:n₀<=w.heap.size)
  (I:Nat->World->Prop) (Ix:Code->Nat->World->Prop) (hI:OwnFrom w.heap.size I) (hIx:∀ c,OwnFrom w.heap.size (Ix c)) (h0:I 0 w)
  (hround:∀ l k (h:k<L.length) W,w.heap.size<=l->I k W ->
   assign.wpIn (Fence.wide.inRound l) (n-1-1) Tryz.prog (Exit.then (fun a' W'=>KeepsFrom w.heap.size W W'/\Below n₀ W W'/\∃ Ax:Unit->World->Prop,OwnFrom w.heap.size Ax/\Ax () W'/\∀ W2,Ax () W2->body.wpIn (Fence.wide.inRound l) (n-1-1) Tryz.prog (eachPost w.heap.size n₀ I Ix k W2) a' W2) (fun _ _ _=>False))
    { tmps:=(a.tmps.setIfInBounds p (.int .i64 k)).setIfInBounds q (.agg #[.int .i64 L[k].1,.int .i64 L[k].2]),defers:=[] } W)
  (hdone:∀ (D:Nat) (W:World),w.heap.size<=D->I L.length W->W.heap[D]? =some (.deferred (some []))->Q .normal { a with defers:={ target:=.collected D,args:= #[] }::a.defers } W)
  (hstop:∀ (D:Nat) (c:Code) (k:Nat) (W:World),w.heap.size<=D->k<L.length->Ix c k W->W.heap[D]? =some (.deferred (some []))->c.wpIn Fence.wide n Tryz.prog Q { a with defers:={ target:=.collected D,args:= #[] }::a.defers } W) :
  (Code.rangeFunc g ps assign body).wpIn Fence.wide n Tryz.prog Q a w:=by
 subst hps;refine wpIn_rangeFunc (fun fn hfn=> ?_);obtain ⟨rec,hrec⟩:∃ rec:LoopState->Option Code->Loop,rec=fun st pe=>{ state:=st,pending:=pe,fn:=fn,tmps:=a.tmps,params:= #[p,q],assign:=assign,body:=body,defers:=w.heap.size }:=⟨_,rfl⟩;obtain ⟨W1,hW1⟩:∃ W1,W1=(w.alloc (.deferred (some []))).alloc (.loop (rec .ready none)):=⟨_,rfl⟩;have hz:W1.heap.size=w.heap.size+2:=by rw [hW1];simp
 have hl1:W1.heap[w.heap.size+1]? =some (.loop (rec .ready none)):=by
  have:=World.alloc_heap_new (w.alloc (.deferred (some []))) (.loop (rec .ready none));rw [World.size_alloc] at this;rw [hW1];exact this
 have hd1:W1.heap[w.heap.size]? =some (.deferred (some [])):=by
  rw [hW1];exact (Below.heap_alloc _ _ _ (by simp)).trans (World.alloc_heap_new w _)
 have hb1:Below n₀ w W1:=by rw [hW1];exact ((Below.refl n₀ w).alloc hn₀ _).alloc (by simp;omega) _
 have hI1:I 0 W1:=by rw [hW1];exact hI.alloc _ (hI.alloc _ h0)
 refine ⟨w.heap.size+1,[{ target:=.collected w.heap.size,args:= #[] }],W1,{ target:=.fn (.func 187) #[],args:= #[.slice ad L.length cap,.func (.yield (w.heap.size+1)) #[] #[]] },W1,187,#[.slice ad L.length cap,.func (.yield (w.heap.size+1)) #[] #[]],W1,?_,?_,fun _ _=>trivial,?_,fun _=>by omega,?_⟩
 ·rw [hW1,hrec];exact run_enterLoop_outer _ _ _ _ _
 ·simp only [resolve,hg]
  simp [go_sem]
 ·simp [invoke,go_sem]
 have key:=each_in (n-1) (by omega) (w.heap.size+1) n₀ ad cap L
  (fun k W=>I k W/\W.heap[w.heap.size+1]? =some (.loop (rec .ready none))/\W.heap[w.heap.size]? =some (.deferred (some [])))
  (fun k W=>∃ c,Ix c k W/\W.heap[w.heap.size+1]? =some (.loop (rec .done (some c)))/\W.heap[w.heap.size]? =some (.deferred (some [])))
  (fun k A o h=>⟨hI.alloc _ h.1,(Below.heap_alloc A o _ (Array.getElem?_eq_some_iff.1 h.2.1).1).trans h.2.1,(Below.heap_alloc A o _ (Array.getElem?_eq_some_iff.1 h.2.2).1).trans h.2.2⟩)
  ?_ W1 (hc.below hb1) (by omega) ⟨hI1,hl1,hd1⟩
 ·refine key.mono ?_;rintro e W2 ⟨⟨v,rfl⟩,(⟨hi,hl,hd⟩ | ⟨k,hk,c,hi,hl,hd⟩)⟩
  ·have hrun:=run_endLoop (P:=Tryz.prog) hl (by rw [hrec];simp);have hpd:(rec .ready none).pending=none:=by rw [hrec]
   rw [hpd] at hrun;exact ⟨none,_,hrun,hdone w.heap.size _ (Nat.le_refl _) (hI.putObj _ hi (by omega) hl rfl) ((World.putObj_heap_other (by omega)).trans hd)⟩
  have hrun:=run_endLoop (P:=Tryz.prog) hl (by rw [hrec];simp);have hpd:(rec .done (some c)).pending=some c:=by rw [hrec]
  rw [hpd] at hrun;exact ⟨some c,_,hrun,hstop w.heap.size c k _ (Nat.le_refl _) hk ((hIx c).putObj _ hi (by omega) hl rfl) ((World.putObj_heap_other (by omega)).trans hd)⟩
 rintro k hk W ⟨hi,hl,hd⟩;subst hrec;have hfd:∀ x y:Value,(#[p,q].zip #[x,y]).foldl (fun t (z:Tmp×Value)=>t.setIfInBounds z.1 z.2) a.tmps=(a.tmps.setIfInBounds p x).setIfInBounds q y:=fun x y=>by simp
 refine yieldAt_of (r:={ state:=.ready,pending:=none,fn:=fn,tmps:=a.tmps,params:= #[p,q],assign:=assign,body:=body,defers:=w.heap.size }) (B:=w.heap.size) rfl rfl rfl hl (by omega) (wpIn_mono (a:={ tmps:=_,defers:=[] }) (by dsimp only;rw [hfd];exact hround (w.heap.size+1) k hk W (by omega) hi) ?_);intro e a' W' he
 cases e with
 | normal =>
  obtain ⟨hk1,hb,Ax,hAx,hax,hbd⟩:=he;have hl':=hk1.same _ _ (by omega) hl rfl;have hd':=hk1.same _ _ (Nat.le_refl _) hd rfl;have hlt:=(Array.getElem?_eq_some_iff.1 hl').1;refine ⟨hk1,wpIn_mono (hbd _ (hAx.putObj (s:=()) _ hax (by omega) hl' rfl)) ?_⟩;intro e3 a3 W3 h3;have fin:∀ (W3:World),KeepsFrom w.heap.size (W'.putObj (w.heap.size+1) (.loop { state:=.busy,pending:=none,fn:=fn,tmps:=a.tmps,params:= #[p,q],assign:=assign,body:=body,defers:=w.heap.size })) W3->W3.heap[w.heap.size+1]? =some (.loop { state:=.busy,pending:=none,fn:=fn,tmps:=a.tmps,params:= #[p,q],assign:=assign,body:=body,defers:=w.heap.size })/\W3.heap[w.heap.size]? =some (.deferred (some [])):=fun W3 hk3=>And.intro (hk3.same _ _ (by omega) (World.putObj_heap_same hlt) rfl) (hk3.same _ _ (Nat.le_refl _) ((World.putObj_heap_other (by omega)).trans hd') rfl)
  cases e3 with
  | normal =>
   obtain ⟨hk3,hb3,hi3⟩:=h3;obtain ⟨hl3,hd3⟩:=fin W3 hk3;have hlt3:=(Array.getElem?_eq_some_iff.1 hl3).1;exact ⟨hk3,.inl ⟨rfl,⟨hI.putObj _ hi3 (by omega) hl3 rfl,World.putObj_heap_same hlt3,(World.putObj_heap_other (by omega)).trans hd3⟩,((hb.trans (belowK_b (w:=w) hn₀ _ _ _ _ (by omega) hl' rfl rfl)).trans hb3).trans (belowK_b (w:=w) hn₀ _ _ _ _ (by omega) hl3 rfl rfl)⟩⟩
  | ret =>
   obtain ⟨hl3,hd3⟩:=fin W3 h3.1;exact ⟨h3.1,.inr ⟨rfl,.ret,(hIx _).putObj _ h3.2 (by omega) hl3 rfl,World.putObj_heap_same (Array.getElem?_eq_some_iff.1 hl3).1,(World.putObj_heap_other (by omega)).trans hd3⟩⟩
  | exit i =>
   obtain ⟨hl3,hd3⟩:=fin W3 h3.1;exact ⟨h3.1,.inr ⟨rfl,.exit i,(hIx _).putObj _ h3.2 (by omega) hl3 rfl,World.putObj_heap_same (Array.getElem?_eq_some_iff.1 hl3).1,(World.putObj_heap_other (by omega)).trans hd3⟩⟩
  | goto t =>
   obtain ⟨hl3,hd3⟩:=fin W3 h3.1;exact ⟨h3.1,.inr ⟨rfl,.goto t,(hIx _).putObj _ h3.2 (by omega) hl3 rfl,World.putObj_heap_same (Array.getElem?_eq_some_iff.1 hl3).1,(World.putObj_heap_other (by omega)).trans hd3⟩⟩
  | panic c=>exact h3.elim
  | outgrown=>exact h3.elim
 | ret=>exact he.elim
 | exit i=>exact he.elim
 | goto t=>exact he.elim
 | panic c=>exact he.elim
 | outgrown=>exact he.elim
end
section
open Go.RowKit Go.Shelf
theorem run_append_own2 {P:Program} (w:World) (base:Nat) (t ty e:TypeId) (i:TypeInfo) (z:Value) (size bytes:Nat) (ht:P.underlying t=some (.slice e)) (hi:P.info? e=some i) (hz:i.zero=some z)
  (hsize:i.size=size) (hby:i.bytes=bytes) (hzs:z.cells.size=size) (hsz:0<size)
  (v:Value) (n:Nat) (xs:List Value) (hown:w.ownsRow base e size v n xs)
  (a:Addr) (m c:Nat) (news:List Value) (hl:news.length=m*size) (hnews:∀ j u,news[j]? =some u->w.cell? (a.add j)=some u) (h1:∀ u∈news,u.oneCell'=true)
  (h63:n+m<=maxLen) (hbytes:(n+m)*bytes<=140737488355328) (hbase:base<=w.heap.size) :
  ∃ v' w',(Builtin.append_ #[t,t] ty #[v,.slice (some a) m c]).run P w= .ok v' w'/\w'.ownsRow base e size v' (n+m) (xs++news)/\w.grownBy w' v.ownBlock /\
   (v'.ownBlock=v.ownBlock∨∃ k,v'.ownBlock=some k/\w.heap.size<=k):=by
 obtain ⟨v',w',hr,h2,h3,h4⟩:=run_append_own (P:=P) w base t ty e i z size bytes ht hi hz hsize hby hzs hsz v n xs hown a m c news hl hnews h1 h63 hbytes hbase;refine ⟨v',w',hr,h2,h3,?_⟩;subst hsize;subst hby
 rcases hown.2 with ⟨rfl,rfl⟩ | ⟨g,cap,cur,rfl,hbg,hg,hnc,hcm,hcs,htake⟩
 ·have hx:xs=[]:=List.eq_nil_of_length_eq_zero (by simpa using hown.1);subst hx;obtain ⟨v2,w2,hr2,g2,g3,g4⟩:=run_append_own (P:=P) w w.heap.size t ty e i z i.size i.bytes ht hi hz rfl rfl hzs hsz _ 0 [] (World.ownsRow_nil w _ e i.size) a m c news hl hnews h1 h63 hbytes (Nat.le_refl _);rw [hr] at hr2
  cases hr2
  rcases g2.2 with ⟨rfl,_⟩ | ⟨g,cap,cur,rfl,hbg,_⟩
  ·exact .inl rfl
  exact .inr ⟨g,rfl,hbg⟩
 by_cases hroom:n+m<=cap
 ·have hfit:n*i.size+news.length<=cur.size:=by rw [hl,hcs,←Nat.add_mul];exact Nat.mul_le_mul_right _ hroom
  have hr2:=run_append_room (P:=P) w t ty e i ht hi g n cap cur hg a m c news hl hnews h1 hroom hfit;rw [hr] at hr2
  cases hr2
  exact .inl rfl
 have holds:∀ j u,xs[j]? =some u->w.cell? ((⟨g,0,none⟩:Addr).add j)=some u:=hown.cells (g:=g) rfl;have hr2:=run_append_grow (P:=P) w t ty e i z ht hi hz ⟨g,0,none⟩ n cap xs hown.1 holds a m c news hl hnews (by omega) (by simp only [maxLen] at h63;omega) (growslice_fits (by simp only [maxLen] at h63;omega) hbytes);rw [hr] at hr2
 cases hr2
 exact .inr ⟨w.heap.size,rfl,Nat.le_refl _⟩
def flatV (L:List Sp):List Value:=L.flatMap fun x=>[.int .i64 x.1,.int .i64 x.2]
theorem flatV_append (A B:List Sp):flatV (A++B)=flatV A++flatV B:=List.flatMap_append ..
theorem flatV_cons (x:Sp) (L:List Sp):flatV (x::L)= .int .i64 x.1:: .int .i64 x.2::flatV L:=rfl
theorem flatV_length (L:List Sp):(flatV L).length=L.length*2:=by
 induction L with
 | nil=>rfl
 | cons x L ih=>rw [flatV_cons,List.length_cons,List.length_cons,ih,List.length_cons];omega
theorem flatV_get (L:List Sp) (i:Nat) (h:i<L.length):(flatV L)[i*2]? =some (.int .i64 L[i].1)/\(flatV L)[i*2+1]? =some (.int .i64 L[i].2):=by
 induction L generalizing i with
 | nil=>simp at h
 | cons x L ih =>
  rw [flatV_cons]
  cases i with
  | zero=>exact ⟨rfl,rfl⟩
  | succ i =>
   have:=ih i (by simpa using h);rw [show (i+1)*2=(i*2+1)+1 by omega,show i*2+1+1+1=(i*2+1)+1+1 by omega]
   simpa using this
theorem flatV_one (L:List Sp):∀ u∈flatV L,u.oneCell'=true:=by
 intro u hu;obtain ⟨x,_,h⟩:=List.mem_flatMap.1 hu
 simp at h
 rcases h with rfl | rfl <;> rfl
theorem spanInfo:(Tryz.prog.info? 92).map (fun i=>(i.zero,i.size,i.bytes))=some (some (.agg #[.int .i64 0,.int .i64 0]),2,16):=by kernel_rfl
def OwnSp (w:World) (base:Nat) (v:Value) (L:List Sp):Prop:=w.ownsRow base 92 2 v L.length (flatV L)
theorem OwnSp.nil (w:World) (base:Nat):OwnSp w base (.slice none 0 0) []:=World.ownsRow_nil _ _ _ _
theorem OwnSp.alloc {w:World} {base:Nat} {v:Value} {L:List Sp} (h:OwnSp w base v L) (o:Obj):OwnSp (w.alloc o) base v L:=World.ownsRow.alloc h o
theorem OwnSp.kept {w w':World} {base:Nat} {v:Value} {L:List Sp} (h:OwnSp w base v L) {row:Option Nat} (hg:w.grownBy w' row) (hne:v.ownBlock=none∨v.ownBlock≠row):OwnSp w' base v L:=World.ownsRow.kept h hg hne
theorem OwnSp.lt {w:World} {base:Nat} {v:Value} {L:List Sp} (h:OwnSp w base v L):∀ k,v.ownBlock=some k->base<=k/\k<w.heap.size:=World.ownsRow.lt h
theorem OwnSp.mono {w:World} {base base':Nat} {v:Value} {L:List Sp} (h:OwnSp w base v L) (hb:base'<=base):OwnSp w base' v L:=by
 refine ⟨h.1,?_⟩
 rcases h.2 with h | ⟨g,cap,cur,hv,hbg,r⟩
 ·exact .inl h
 exact .inr ⟨g,cap,cur,hv,Nat.le_trans hb hbg,r⟩
theorem OwnSp.val {w:World} {base:Nat} {v:Value} {L:List Sp} (h:OwnSp w base v L):∃ a cap,v= .slice a L.length cap/\L.length<=cap:=by
 rcases h.2 with ⟨rfl,hn⟩ | ⟨g,cap,cur,hv,hbg,hg,hnc,hcm,hcs,htake⟩
 ·exact ⟨none,0,by rw [hn],by omega⟩
 exact ⟨_,cap,hv,hnc⟩
theorem OwnSp.at {w:World} {base:Nat} {v:Value} {L:List Sp} (h:OwnSp w base v L) (hs:L.length<=1099511627776) :
  ∃ a cap,v= .slice a L.length cap/\SpAt w w.heap.size a L/\L.length<=cap/\∀ ad,a=some ad->base<=ad.block/\v.ownBlock=some ad.block/\ad=⟨ad.block,ad.off,none⟩:=by
 rcases h.2 with ⟨rfl,hn⟩ | ⟨g,cap,cur,hv,hbg,hg,hnc,hcm,hcs,htake⟩
 ·refine ⟨none,0,by rw [hn],⟨hs,fun hl=>by omega⟩,by omega,fun ad e=>by cases e⟩
 refine ⟨some ⟨g,0,none⟩,cap,hv,⟨hs,fun _=>⟨g,0,rfl,(Array.getElem?_eq_some_iff.1 hg).1,fun i hi=> ?_⟩⟩,hnc,fun ad e=>by cases e;exact ⟨hbg,by rw [hv];rfl,rfl⟩⟩;have hc:=World.ownsRow.cells h (g:=g) (by rw [hv];rfl);obtain ⟨f1,f2⟩:=flatV_get L i hi;have c1:=hc _ _ f1;have c2:=hc _ _ f2;rw [Addr.add_lit] at c1 c2;refine ⟨?_,?_⟩
 ·simpa using c1
 simpa [Nat.add_assoc] using c2
def TyB (W:World) (b:Nat) (t:TypeId):Prop:=∃ vs fr,W.heap[b]? =some (.cells vs t fr)
theorem TyB.of {W W':World} {b:Nat} {t:TypeId} (h:TyB W b t) (hk:W'.heap[b]? =W.heap[b]?):TyB W' b t:=by
 obtain ⟨vs,fr,e⟩:=h;exact ⟨vs,fr,hk.trans e⟩
theorem TyB.lt {W:World} {b:Nat} {t:TypeId} (h:TyB W b t):b<W.heap.size:=by
 obtain ⟨vs,fr,e⟩:=h;exact (Array.getElem?_eq_some_iff.1 e).1
theorem TyB.ne {W:World} {b c:Nat} {t u:TypeId} (h:TyB W b t) (k:TyB W c u) (hne:t≠u):b≠c:=by
 rintro rfl;obtain ⟨vs,fr,e⟩:=h;obtain ⟨vs',fr',e'⟩:=k;rw [e] at e'
 cases e'
 exact hne rfl
theorem OwnSp.ty {w:World} {base n cap:Nat} {a:Option Addr} {L:List Sp} (h:OwnSp w base (.slice a n cap) L):∀ ad,a=some ad->TyB w ad.block 92:=by
 rintro ad rfl
 rcases h.2 with ⟨e,_⟩ | ⟨g,cap',cur,hv,_,hg,_⟩
 ·cases e
 cases hv
 exact ⟨_,_,hg⟩
theorem grown_trans {a b c:World} {r r':Option Nat} (h:a.grownBy b r) (k:b.grownBy c r') (hr:r'=r∨∀ k,r'=some k->a.heap.size<=k):a.grownBy c r:=by
 refine ⟨k.os.trans h.os,k.tape.trans h.tape,k.output.trans h.output,Nat.le_trans h.size k.size,fun i hi hne=>(k.block i (Nat.lt_of_lt_of_le hi h.size) ?_).trans (h.block i hi hne)⟩
 rcases hr with rfl | hr
 ·exact hne
 intro e;have:=hr i e.symm;omega
theorem grown_below {a b:World} {r:Option Nat} {N:Nat} (h:a.grownBy b r) (hN:N<=a.heap.size) (hr:∀ k,r=some k->N<=k):Below N a b :=
 ⟨h.os,h.tape,h.output,h.size,fun i hi=>h.block i (by omega) (fun e=>by have:=hr i e.symm;omega)⟩
theorem grown_of_below {a b:World} {r:Option Nat} (h:Below a.heap.size a b):a.grownBy b r :=
 ⟨h.os,h.tape,h.output,h.size,fun i hi _=>h.block i hi⟩
theorem grown_refl (a:World) (r:Option Nat):a.grownBy a r:=⟨rfl,rfl,rfl,Nat.le_refl _,fun _ _ _=>rfl⟩
theorem SpAt.grown {w w':World} {n₀:Nat} {a:Option Addr} {L:List Sp} {r:Option Nat} (h:SpAt w n₀ a L) (hg:w.grownBy w' r) (hn:n₀<=w.heap.size) (hne:0<L.length->∀ ad,a=some ad->r≠some ad.block):SpAt w' n₀ a L :=
 ⟨h.small,fun hl=>by
  obtain ⟨b,off,ha,hbl,hc⟩:=h.cells hl;have hb:=hg.block b (by omega) (fun e=>hne hl _ ha e.symm);exact ⟨b,off,ha,hbl,fun i hi=>⟨(World.cell?_of_block (a:=⟨b,_,none⟩) hb).trans (hc i hi).1,(World.cell?_of_block (a:=⟨b,_,none⟩) hb).trans (hc i hi).2⟩⟩⟩
theorem wpList_append_span (w:World) {ops:Array Oper} {rest:List Oper} {o:Oper} {a:Act} {Q:Exit->Act->World->Prop} (hgd:o.guard=none) (s x:Operand)
  (ho:o.op= .call { callee:=.builtin .append,args:= #[s,x],argTypes:= #[41,41] }) (base:Nat)
  (v:Value) (L:List Sp) (hs:a.eval s=v) (hown:OwnSp w base v L) (hL:L.length<=4398046511104)
  (b:Nat) (y:Sp) (hx:a.eval x= .slice (some ⟨b,0,none⟩) 1 1) (hc0:w.cell? ⟨b,0,none⟩=some (.int .i64 y.1)) (hc1:w.cell? ⟨b,1,none⟩=some (.int .i64 y.2)) (hbase:base<=w.heap.size)
  (h:∀ v' w',OwnSp w' base v' (L++[y])->w.grownBy w' v.ownBlock->(v'.ownBlock=v.ownBlock∨∃ k,v'.ownBlock=some k/\w.heap.size<=k)->wpList Tryz.prog ops Q rest (a.put o.dst v') w'):wpList Tryz.prog ops Q (o::rest) a w:=by
 obtain ⟨i0,hi,hz0,hz1,hz2⟩:=info_parts spanInfo
 obtain ⟨v',w',hr,h2,h3,h4⟩:=run_append_own2 (P:=Tryz.prog) w base 41 o.type 92 i0 _ 2 16 Tryz.underlying41 hi hz0 hz1 hz2 rfl (by decide) v L.length (flatV L) hown ⟨b,0,none⟩ 1 1 [.int .i64 y.1,.int .i64 y.2] rfl
  (by intro j u hj;match j,hj with
   | 0,hj=>simp at hj;subst hj;exact hc0
   | 1,hj=>simp at hj;subst hj;simpa [Addr.add] using hc1) (by intro u hu;simp at hu;rcases hu with rfl | rfl <;> rfl) (by unfold maxLen;omega) (by omega) hbase
 refine wpList_plain hgd fun K hK=> ?_;unfold Oper.wp execOp;simp only [ho,resolve,invoke,builtin,Sem.run_bind,Sem.run_pure,Result.andThen_ok,List.map_toArray,List.map_cons,List.map_nil,hs,hx,hr];refine hK _ _ (h v' w' ?_ h3 h4);show w'.ownsRow _ _ _ _ _ _;rw [List.length_append,flatV_append];exact h2
theorem wpListIn_append_span {F:Fence} {n:Nat} (w:World) {ops:Array Oper} {rest:List Oper} {o:Oper} {a:Act} {Q:Exit->Act->World->Prop} (hgd:o.guard=none) (s x:Operand)
  (ho:o.op= .call { callee:=.builtin .append,args:= #[s,x],argTypes:= #[41,41] }) (base:Nat)
  (v:Value) (L:List Sp) (hs:a.eval s=v) (hown:OwnSp w base v L) (hL:L.length<=4398046511104)
  (b:Nat) (y:Sp) (hx:a.eval x= .slice (some ⟨b,0,none⟩) 1 1) (hc0:w.cell? ⟨b,0,none⟩=some (.int .i64 y.1)) (hc1:w.cell? ⟨b,1,none⟩=some (.int .i64 y.2)) (hbase:base<=w.heap.size)
  (h:∀ v' w',OwnSp w' base v' (L++[y])->w.grownBy w' v.ownBlock->(v'.ownBlock=v.ownBlock∨∃ k,v'.ownBlock=some k/\w.heap.size<=k)->wpListIn F n Tryz.prog ops Q rest (a.put o.dst v') w'):wpListIn F n Tryz.prog ops Q (o::rest) a w:=by
 obtain ⟨i0,hi,hz0,hz1,hz2⟩:=info_parts spanInfo
 obtain ⟨v',w',hr,h2,h3,h4⟩:=run_append_own2 (P:=Tryz.prog) w base 41 o.type 92 i0 _ 2 16 Tryz.underlying41 hi hz0 hz1 hz2 rfl (by decide) v L.length (flatV L) hown ⟨b,0,none⟩ 1 1 [.int .i64 y.1,.int .i64 y.2] rfl
  (by intro j u hj;match j,hj with
   | 0,hj=>simp at hj;subst hj;exact hc0
   | 1,hj=>simp at hj;subst hj;simpa [Addr.add] using hc1) (by intro u hu;simp at hu;rcases hu with rfl | rfl <;> rfl) (by unfold maxLen;omega) (by omega) hbase
 refine wpListIn_plain hgd fun K hK'=> ?_;unfold Oper.wpIn;refine ⟨?_,?_⟩
 ·simp [Oper.about,ho,resolve,Target.leads,Sem.run_pure]
 rw [Oper.semAt_plain F _ _ (by rw [ho];intro c hc';cases hc')]
 simp [execOp,ho,resolve,invoke,builtin,hs,hx,hr,Result.andThen]
 refine hK' _ _ (h v' w' ?_ h3 h4);show w'.ownsRow _ _ _ _ _ _;rw [List.length_append,flatV_append];exact h2
end
section
set_option maxRecDepth 100000
open Go.RowKit Go.Shelf
def okSp (e:Int) (x:Sp):Bool:=decide (0<=x.1/\e<x.1/\x.1<x.2/\x.2<=1099511627776)
theorem set_alloc {w:World} {E:Nat} {u:Value} (v:Value) (o:Obj) (hc:w.cell? ⟨E,0,none⟩=some u) (hf:w.frozen? ⟨E,0,none⟩=false) :
  ((w.setCell ⟨E,0,none⟩ v).alloc o).cell? ⟨E,0,none⟩=some v/\((w.setCell ⟨E,0,none⟩ v).alloc o).frozen? ⟨E,0,none⟩=false/\Chg E w ((w.setCell ⟨E,0,none⟩ v).alloc o):=by
 have hE:E<w.heap.size:=block_lt_of_cell hc;have hb:=(Below.refl (w.setCell ⟨E,0,none⟩ v).heap.size (w.setCell ⟨E,0,none⟩ v)).alloc (Nat.le_refl _) o;have hl:E<(w.setCell ⟨E,0,none⟩ v).heap.size:=by simp [World.setCell];exact hE
 exact ⟨(hb.cell (p:=⟨E,0,none⟩) hl).trans (World.cell?_setCell_same _ _ _ hc),(hb.frozen (p:=⟨E,0,none⟩) hl).trans (by rw [World.frozen?_setCell];exact hf),((Chg.refl E w).setCell 0 v).alloc o⟩
theorem follows_any (w:World) (x:Sp) (E:Nat) (en:Int) (hc:w.cell? ⟨E,0,none⟩=some (.int .i64 en)) (hf:w.frozen? ⟨E,0,none⟩=false) :
  Calls Tryz.prog 210 #[.agg #[.int .i64 x.1,.int .i64 x.2],.pointer (some ⟨E,0,none⟩)] w fun e w'=>e= .returned (.bool (okSp en x))/\w'.cell? ⟨E,0,none⟩=some (.int .i64 x.2)/\w'.frozen? ⟨E,0,none⟩=false/\Chg E w w':=by
 obtain ⟨x1,x2⟩:=x;have hE:=block_lt_of_cell hc;have hne:w.heap.size≠E:=by simp at hE;omega
 have HS:=hid (fun v o=>set_alloc (w:=w) v o hc hf)
 go_enter Tryz.func210,Tryz.ntmps210
 go_wp2_with fail
 ·go_ret;refine ⟨?_,HS.out _ _⟩;show Ending.returned (Value.bool (decide (x2<=1099511627776)))=_
  congr 2
  unfold okSp
  apply Bool.eq_iff_iff.2
  rw [decide_eq_true_iff,decide_eq_true_iff];exact ⟨fun h=>⟨by assumption,by assumption,by assumption,h⟩,fun h=>h.2.2.2⟩
 all_goals
  go_ret;refine ⟨?_,HS.out _ _⟩;show Ending.returned (Value.bool false)=_
  congr 2
  unfold okSp;rw [eq_comm,decide_eq_false_iff_not];dsimp only;omega
theorem canonF_drop {L:List Sp} {k:Nat} (h:k<L.length) (e:Int):canonF e (L.drop k)=(okSp e L[k]&&canonF L[k].2 (L.drop (k+1))):=by
 rw [List.drop_eq_getElem_cons h];rfl
theorem canonical_any (w:World) (n₀:Nat) (a:Option Addr) (cap:Nat) (L:List Sp) (hc:SpAt w n₀ a L) (hn:n₀<=w.heap.size) :
  Calls Tryz.prog 186 #[.slice a L.length cap] w fun e w'=>e= .returned (.bool (canonB L))/\Below w.heap.size w w':=by
 have hsm:=hc.small
 go_enter Tryz.func186,Tryz.ntmps186
 go_wp2_with fail
 go_loopw [10] (fun p wr=>∃ (k:Nat) (e:Int),k<=L.length/\p= .int .i64 k/\wr.cell? ⟨w.heap.size,0,none⟩=some (.int .i64 e)/\wr.frozen? ⟨w.heap.size,0,none⟩=false/\Below w.heap.size w wr/\canonB L=canonF e (L.drop k)) (fun p _=>L.length-(intOf p).toNat)
 case atStart =>
  refine ⟨0,-1,Nat.zero_le _,rfl,?_,?_,(Below.refl _ w).alloc (Nat.le_refl _) _,rfl⟩
  ·simp
  simp
 case round =>
  obtain ⟨k,e,hk,rfl,hce,hfe,hb,hcan⟩:=hrel;have hs:=hc.below (hb.mono hn);have HC:=hid hc;clear hc;by_cases hlt:k<L.length
  ·obtain ⟨b,off,rfl,hbb,hcs⟩:=hs.cells (by omega);obtain ⟨c0,c1⟩:=hcs k hlt;have HB:=hid hb;have HCAN:=hid (hcan.trans (canonF_drop hlt e));have hlt2:(k:Int)<(L.length:Int):=by omega
   have hEl:w.heap.size<wr.heap.size:=block_lt_of_cell hce;have hal:=hid (fun o=>(Below.refl wr.heap.size wr).alloc (Nat.le_refl _) o);have HCE:=hid hce;have HFE:=hid hfe;clear hcs hs hb hcan hce hfe;go_wp2_with fail;refine (follows_any _ L[k] w.heap.size e (((hal.out _).cell (p:=⟨w.heap.size,0,none⟩) hEl).trans HCE.out) (((hal.out _).frozen (p:=⟨w.heap.size,0,none⟩) hEl).trans HFE.out)).mono ?_;rintro e2 w2 ⟨rfl,hc2,hf2,hg2⟩;have hb2:Below w.heap.size w w2:=(HB.out.trans ((hal.out _).mono HB.out.size)).trans (hg2.below (Nat.le_refl _) (by simp;omega));have HB2:=hid hb2;have HC2:=hid hc2;have HF2:=hid hf2;clear HB hal HCE HFE c0 c1 hg2 hb2 hc2 hf2
   cases hok:okSp e L[k] with
   | true =>
    go_wp2_with fail
    go_roundw
    case rel=>exact ⟨k+1,L[k].2,by omega,by go_num,HC2.out,HF2.out,HB2.out,by rw [HCAN.out,hok];rfl⟩
    case measure=>simp [intOf];omega
   | false =>
    go_wp2_with fail;go_ret;exact ⟨by rw [HCAN.out,hok];rfl,HB2.out⟩
  obtain rfl:k=L.length:=by omega
  have HB2:=hid hb;have HCAN:=hid hcan;clear hb hcan hs;go_wp2_with fail;go_ret;refine ⟨?_,HB2.out⟩;rw [HCAN.out,List.drop_length];rfl
theorem of_any (w:World) (v:Value) (a:Option Addr) (n cap:Nat) (hv:v= .slice a n cap):Calls Tryz.prog 185 #[v] w fun e w'=>e= .returned (.agg #[v])/\w'=w.alloc (.cells #[v] 224):=by
 subst hv
 go_enter Tryz.func185,Tryz.ntmps185
 go_wp2
 refine bodyPost_ret (v:=.agg #[.slice a n cap]) ?_ rfl ⟨rfl,rfl⟩
 simp [results,Tryz.results185,go_sem]
theorem field_set (a:Option Addr) (n cap:Nat) (W:World):Sem.run Tryz.prog (Instr.field 224 (.agg #[.slice a n cap]) 0) W= .ok (.slice a n cap) W:=by kernel_rfl
theorem valid_any (w:World) (n₀:Nat) (a:Option Addr) (cap:Nat) (L:List Sp) (hc:SpAt w n₀ a L) (hn:n₀<=w.heap.size) :
  Calls Tryz.prog 234 #[.slice a L.length cap] w fun e w'=>e= .returned (.bool (canonB L))/\Below w.heap.size w w':=by
 have hb:=(Below.refl w.heap.size w).alloc (Nat.le_refl _) (.cells #[.slice a L.length cap] 224);have HB:=hid hb;have HC:=hid (canonical_any _ n₀ a cap L (hc.below (hb.mono hn)) (by have:=hb.size;omega));clear hc hb
 go_enter Tryz.func234,Tryz.ntmps234
 go_wp2_with fail;refine (of_any _ _ _ _ _ rfl).mono ?_;rintro e w1 ⟨rfl,rfl⟩;have hfl:=field_set a L.length cap (w.alloc (.cells #[.slice a L.length cap] 224));go_wp2_with fail;refine HC.out.mono ?_;rintro e w2 ⟨rfl,hb2⟩;have HB2:=hid hb2;clear hb2;go_wp2_with fail;go_ret;exact ⟨rfl,HB.out.trans (HB2.out.mono HB.out.size)⟩
theorem takes_any (w:World) (n₀:Nat) (a:Option Addr) (cap:Nat) (L:List Sp) (s:Sp) (hc:SpAt w n₀ a L) (hn:n₀<=w.heap.size) :
  Calls Tryz.prog 227 #[.agg #[.slice a L.length cap],.agg #[.int .i64 s.1,.int .i64 s.2]] w fun e w'=>e= .returned (.bool (takesB L s))/\Below w.heap.size w w':=by
 obtain ⟨s1,s2⟩:=s;have hb:=((Below.refl w.heap.size w).alloc (Nat.le_refl _) (.cells #[.slice a L.length cap] 224)).alloc (by simp) (.cells #[.int .i64 s1,.int .i64 s2] 92);have HB:=hid hb;have HC:=hid (canonical_any _ n₀ a cap L (hc.below (hb.mono hn)) (by have:=hb.size;omega));clear hc hb
 go_enter Tryz.func227,Tryz.ntmps227
 go_wp2_with fail;refine HC.out.mono ?_;rintro e w2 ⟨rfl,hb2⟩;have c0:=hb2.cell (p:=⟨w.heap.size+1,0,none⟩) (by simp);have c1:=hb2.cell (p:=⟨w.heap.size+1,1,none⟩) (by simp);have HB2:=hid (HB.out.trans (hb2.mono HB.out.size));have hsz:=hb2.size;clear hb2 HC
 cases hcan:canonB L with
 | true =>
  simp at c0 c1 hsz
  go_wp2_with fail;refine (valid_any (w2.alloc _) (w2.heap.size+1) _ _ [(s1,s2)] ⟨by simp,fun _=>⟨w2.heap.size,0,rfl,by omega,fun i hi=> ?_⟩⟩ (by simp)).mono ?_
  ·obtain rfl:i=0:=by simpa using hi
   simp
  rintro e w3 ⟨rfl,hb3⟩;have HB3:=hid hb3;clear hb3;go_wp2_with fail;go_ret;refine ⟨by unfold takesB;rw [hcan];rfl,HB2.out.trans ?_⟩;exact ((Below.refl w.heap.size w2).alloc (by omega) _).trans (HB3.out.mono (by simp;omega))
 | false =>
  go_wp2_with fail;go_ret;exact ⟨by unfold takesB;rw [hcan];rfl,HB2.out⟩
theorem withL_take {ps:List Sp} {k:Nat} (h:k<ps.length):withL (ps.take (k+1))=withL (ps.take k)++(if ps[k].1<ps[k].2 then [ps[k]] else []):=by
 unfold withL;rw [List.take_succ_eq_append_getElem h,List.filter_append]
 congr 1
 by_cases g:ps[k].1<ps[k].2
 ·rw [if_pos g,List.filter_cons_of_pos (by simpa using g)];rfl
 rw [if_neg g,List.filter_cons_of_neg (by simpa using g)];rfl
theorem withL_le (ps:List Sp) (k:Nat):(withL (ps.take k)).length<=ps.length:=by
 unfold withL;exact Nat.le_trans (List.length_filter_le ..) (by rw [List.length_take];omega)
theorem with_any (w:World) (base n₀:Nat) (v:Value) (L:List Sp) (a:Option Addr) (cap:Nat) (ps:List Sp) (hv:OwnSp w base v L) (hL:L.length<=2199023255552) (hbase:base<=w.heap.size)
  (hc:SpAt w n₀ a ps) (hn:n₀<=w.heap.size) (hne:0<ps.length->∀ ad,a=some ad->v.ownBlock≠some ad.block) :
  Calls Tryz.prog 228 #[v,.slice a ps.length cap] w fun e w'=>∃ v',e= .returned v'/\OwnSp w' base v' (L++withL ps)/\w.grownBy w' v.ownBlock/\(v'.ownBlock=v.ownBlock∨∃ k,v'.ownBlock=some k/\w.heap.size<=k):=by
 have hsm:=hc.small;obtain ⟨va,vc,rfl,-⟩:=hv.val
 go_enter Tryz.func228,Tryz.ntmps228
 go_wp2_with fail
 go_loopw [0,9] (fun u p wr=>∃ (k:Nat),k<=ps.length/\p= .int .i64 k/\OwnSp wr base u (L++withL (ps.take k))/\w.grownBy wr (Value.slice va L.length vc).ownBlock/\(u.ownBlock=(Value.slice va L.length vc).ownBlock∨∃ j,u.ownBlock=some j/\w.heap.size<=j)) (fun _ p _=>ps.length-(intOf p).toNat)
 case atStart =>
  exact ⟨0,Nat.zero_le _,rfl,by simpa [withL] using hv,grown_refl _ _,.inl rfl⟩
 case round =>
  clear hv;obtain ⟨k,hk,rfl,hown,hgr,hbl⟩:=hrel;have hs:=hc.grown hgr hn hne;have HC:=hid hc;have hgz:=hgr.size;have hbase2:base<=wr.heap.size:=by omega
  clear hc;by_cases hlt:k<ps.length
  ·obtain ⟨b,off,rfl,hbb,hcs⟩:=hs.cells (by omega);obtain ⟨c0,c1⟩:=hcs k hlt;have HO:=hid hown;have HG:=hid hgr;have HBL:=hid hbl;have HN:=hid hne;have hlt2:(k:Int)<(ps.length:Int):=by omega
   have HWL:=hid (withL_take hlt);have hll:=withL_le ps k;have hll2:(L++withL (ps.take k)).length<=4398046511104:=by rw [List.length_append];omega
   clear hcs hs hown hgr hbl hne;by_cases hx:ps[k].1<ps[k].2
   ·go_wp2_with (first | (at_builtin;refine wpList_append_span _ rfl _ _ rfl base _ _ rfl ((HO.out.alloc _).alloc _) hll2 (wr.heap.size+1) ps[k] rfl (by simp) (by simp) (by simp;omega) ?_))
    intro v' w' ho hg hb;have hg2:wr.grownBy w' u0.ownBlock:=grown_trans (grown_trans (World.grownBy_alloc wr _ _) (World.grownBy_alloc _ _ _) (.inl rfl)) hg (.inl rfl)
    have R:OwnSp w' base v' (L++withL (ps.take (k+1)))/\w.grownBy w' (Value.slice va L.length vc).ownBlock/\(v'.ownBlock=(Value.slice va L.length vc).ownBlock∨∃ j,v'.ownBlock=some j/\w.heap.size<=j):=by
     refine ⟨?_,?_,?_⟩
     ·rw [HWL.out,if_pos hx];exact ho
     ·refine grown_trans HG.out hg2 ?_
      rcases HBL.out with h | ⟨j,h,hj⟩
      ·exact .inl h
      exact .inr (fun i e=>by rw [h] at e;cases e;exact hj)
     rcases hb with h | ⟨j,h,hj⟩
     ·rw [h];exact HBL.out
     exact .inr ⟨j,h,by omega⟩
    have HR:=hid R;clear R ho hg hb hg2;go_wp2_with fail
    go_roundw
    case rel=>exact ⟨k+1,by omega,by go_num,HR.out⟩
    case measure=>simp [intOf];omega
   have hx2:ps[k].2<=ps[k].1:=by omega
   go_wp2_with fail
   go_roundw
   case rel =>
    refine ⟨k+1,by omega,by go_num,?_,grown_trans HG.out (World.grownBy_alloc wr _ _) (.inl rfl),HBL.out⟩;rw [HWL.out,if_neg hx,List.append_nil];exact HO.out.alloc _
   case measure=>simp [intOf];omega
  obtain rfl:k=ps.length:=by omega
  have HO:=hid hown;have HG:=hid hgr;have HBL:=hid hbl;clear hown hgr hbl hs hne;go_wp2_with fail;go_ret;refine ⟨_,rfl,?_,HG.out,HBL.out⟩;have:=HO.out;rw [List.take_length] at this;exact this
end
end Go.Proofs.YtclkcmidhhfdmaaGreatDoor
