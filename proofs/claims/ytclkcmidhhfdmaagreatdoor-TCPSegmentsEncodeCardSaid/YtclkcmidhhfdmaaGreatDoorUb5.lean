import Derived.Test.YtclkcmidhhfdmaaGreatDoorUc
import Derived.Test.YtclkcmidhhfdmaaGreatDoorUb1
import Derived.Test.YtclkcmidhhfdmaaGreatDoorUb4
import Derived.Test.YtclkcmidhhfdmaaGreatDoorChecked
import Derived.RangeFuncNested
import Derived.RangeFuncBound
import Derived.RangeFuncCalls
import Derived.RangeFuncLeaves
import Derived.Shelf.Abstract
import Derived.Shelf.RegionOpen
import Derived.OwnWalkIn
import Derived.TacticsInMore
import Derived.LoopNIn
import Derived.LoopIn
import Derived.Laws.AppendOwn
import Derived.Laws.Append
import Derived.WalkMore
namespace Go.Proofs.YtclkcmidhhfdmaaGreatDoor
open Lib (hid)
section
open Go.RowKit Go.Shelf
def wK (B l:Nat)(r:Loop)(R:Ending->World->Prop)(W:World):Exit->Act->World->Prop
 | .normal,_,W'=>KeepsFrom B W W'/\R (.returned true) (W'.putObj l (.loop r))
 | .ret,_,W'=>KeepsFrom B W W'/\R (.returned false) (W'.putObj l (.loop { r with state:=.done,pending:=some .ret }))
 | .exit i,_,W'=>KeepsFrom B W W'/\R (.returned false) (W'.putObj l (.loop { r with state:=.done,pending:=some (.exit i) }))
 | .goto t,_,W'=>KeepsFrom B W W'/\R (.returned false) (W'.putObj l (.loop { r with state:=.done,pending:=some (.goto t) }))
 | .panic _,_,_=>False
 | .outgrown,_,_=>False
theorem fO {P:Program}{n B l:Nat}{r:Loop}(hrs:r.state= .ready)(hrp:r.pending=none){args:Array Value}(hs:args.size=r.params.size){W:World}(hl:W.heap[l]? =some (.loop r))(hB:B<=l)
  {R:Ending->World->Prop}
  (h:r.assign.wpIn (Fence.wide.inRound l) n P (Exit.then (fun a' W'=>KeepsFrom B W W'/\r.body.wpIn (Fence.wide.inRound l) n P (wK B l r R (W'.putObj l (.loop { r with state:=.busy }))) a' (W'.putObj l (.loop { r with state:=.busy }))) (fun _ _ _=>False))
   { tmps:=(r.params.zip args).foldl (fun t (p,v)=>t.setIfInBounds p v) r.tmps,defers:=[] } W) :
  YieldAt Fence.wide n P l args W R:=by
 refine⟨r.fn,_,r.assign,r.body,run_yield hl hs,roundIn_of_wpIn trivial (wpIn_mono h ?_)⟩;intro e a' W' he
 cases e with
 | normal =>
  obtain⟨hk,hb⟩:=he;have hl':=hk.same l _ hB hl rfl;have hlt:=(Array.getElem?_eq_some_iff.1 hl').1;refine⟨_,run_beginRound hl' hrs,wpIn_mono hb ?_⟩;have hl2:(W'.putObj l (.loop { r with state:=.busy })).heap[l]? =some (.loop { r with state:=.busy }):=World.putObj_heap_same hlt;intro e3 a3 W3 h3
  cases e3 with
  | normal =>
   obtain⟨hk3,hr3⟩:=h3;refine⟨_,_,run_endRound none (hk3.same l _ hB hl2 rfl),?_⟩;have e1:({ { r with state:=.busy }with state:=if(none:Option Code).isNone=true then .ready else .done,pending:=none }:Loop)=r:=by cases r;cases hrs;cases hrp;rfl
   rw[e1];exact hr3
  | ret=>exact⟨_,_,run_endRound (some .ret) (h3.1.same l _ hB hl2 rfl),h3.2⟩
  | exit i=>exact⟨_,_,run_endRound (some (.exit i)) (h3.1.same l _ hB hl2 rfl),h3.2⟩
  | goto t=>exact⟨_,_,run_endRound (some (.goto t)) (h3.1.same l _ hB hl2 rfl),h3.2⟩
  | panic c=>exact h3.elim
  | outgrown=>exact h3.elim
 | ret=>exact he.elim
 | exit i=>exact he.elim
 | goto t=>exact he.elim
 | panic c=>exact he.elim
 | outgrown=>exact he.elim
structure SpAt (w:World)(n₀:Nat)(a:Option Addr)(L:List Sp):Prop where
 small:L.length<=1099511627776
 cells:0<L.length->∃b off,a=some ⟨b,off,none⟩/\b<n₀/\∀i (h:i<L.length),w.cell? ⟨b,off+i*2,none⟩=some (L[i].1:Y)/\w.cell? ⟨b,off+i*2+1,none⟩=some (L[i].2:Y)
theorem SpAt.below {w w':World}{n₀:Nat}{a:Option Addr}{L:List Sp}(h:SpAt w n₀ a L)(hb:Below n₀ w w'):SpAt w' n₀ a L :=
 ⟨h.small,fun hl=>by
  obtain⟨b,off,ha,hbl,hc⟩:=h.cells hl;exact⟨b,off,ha,hbl,fun i hi=>⟨(hb.cell (p:=⟨b,_,none⟩) hbl).trans (hc i hi).1,(hb.cell (p:=⟨b,_,none⟩) hbl).trans (hc i hi).2⟩⟩⟩
theorem SpAt.mono {w:World}{n₀ n₁:Nat}{a:Option Addr}{L:List Sp}(h:SpAt w n₀ a L)(hn:n₀<=n₁):SpAt w n₁ a L :=
 ⟨h.small,fun hl=>by
  obtain⟨b,off,ha,hbl,hc⟩:=h.cells hl;exact⟨b,off,ha,Nat.lt_of_lt_of_le hbl hn,hc⟩⟩
end
section
set_option maxRecDepth 100000
open Go.RowKit Go.Shelf
attribute [local go_sem] Oper.semAt_some
set_option maxHeartbeats 2000000 in
theorem um (n:Nat) (hn:1<=n) (l n₀:Nat) (a:Option Addr) (cap:Nat) (L:List Sp) (J Jx:Nat->World->Prop)
  (hJ:∀k A o,J k A->J k (World.alloc A o))
  (hY:∀k (h:k<L.length) W1,J k W1->YieldAt Fence.wide (n-1) Tryz.prog l #[.int .i64 k,.agg #[L[k].1,L[k].2]] W1 fun e W'=>(e= .returned true/\J (k+1) W'/\Below n₀ W1 W')\/(e= .returned false/\Jx k W'))
  (W:World) (hc:SpAt W n₀ a L) (hW:n₀<=W.heap.size) (h0:J 0 W) :
  CallsIn Fence.wide n Tryz.prog 187 #[.slice a L.length cap,.func (.yield l) #[] #[]] W fun e W'=>(∃v,e= .returned v)/\(J L.length W'\/∃k,k<L.length/\Jx k W'):=by
 refine callsIn_of_wp Tryz.func187 rfl trivial ?_ rfl;simp only[Tryz.ntmps187,List.size_toArray,List.length_cons,List.length_nil,Nat.reduceAdd,Nat.reduceSub,Array.replicate_succ,Array.replicate_zero,List.push_toArray,List.append_toArray,List.nil_append,List.cons_append];have hsm:=hc.small;have HY:=hid hY;have HJ:=hid hJ;clear hY hJ
 gi_wp2
 gi_loopw [8] (fun p wr=>∃k:Nat,k<=L.length/\p= .int .i64 k/\SpAt wr n₀ a L/\n₀<=wr.heap.size/\J k wr) (fun p _=>L.length-(intOf p).toNat)
 case atStart=>exact⟨0,Nat.zero_le _,rfl,hc,hW,h0⟩
 case round =>
  clear hc hW h0;obtain⟨k,hk,rfl,hs,hw,bo⟩:=hrel;by_cases hlt:k<L.length
  ·obtain⟨b,off,rfl,hb,hcs⟩:=hs.cells (by omega);obtain⟨c0,c1⟩:=hcs k hlt;have HS:=hid hs;clear hcs hs;have al:(k:Int)<(L.length:Int):=by omega
   have hJ2:=HJ.o k wr (.cells #[L[k].1,L[k].2] 92) bo;obtain⟨fn,tmps,assign,body,hy,hR⟩:=HY.o k hlt _ hJ2;clear hJ2
   gi_wp2
   refine hR.mono ?_;rintro e W3 (⟨rfl,hJ3,hb3⟩ | ⟨rfl,hJx3⟩)
   ·have hb4:=((Below.refl n₀ wr).alloc hw (.cells #[L[k].1,L[k].2] 92)).trans hb3;have hs3:=HS.below hb4;have hw3:=Nat.le_trans hw hb4.size;clear hb3 hb4 hy hR
    gi_wp2
    go_roundw
    case rel=>exact⟨k+1,by omega,by go_num,hs3,hw3,hJ3⟩
    case measure=>simp[intOf];omega
   gi_wp2
   refine bodyPost_ret (results_none rfl _ _ _) rfl ?_;exact⟨⟨_,rfl⟩,.inr ⟨k,hlt,hJx3⟩⟩
  obtain rfl:k=L.length:=by omega
  gi_wp2
  go_end0
  exact⟨⟨_,rfl⟩,.inl bo⟩
def sD (B n₀:Nat)(I:Nat->World->Prop)(Ix:Code->Nat->World->Prop)(k:Nat)(W:World):Exit->Act->World->Prop
 | .normal,_,W'=>KeepsFrom B W W'/\Below n₀ W W'/\I (k+1) W'
 | .ret,_,W'=>KeepsFrom B W W'/\Ix .ret k W'
 | .exit i,_,W'=>KeepsFrom B W W'/\Ix (.exit i) k W'
 | .goto t,_,W'=>KeepsFrom B W W'/\Ix (.goto t) k W'
 | .panic _,_,_=>False
 | .outgrown,_,_=>False
theorem lx {g:Operand}{ps:Array Tmp}{assign body:Code}{Q:Exit->Act->World->Prop}{a:Act}{w:World}{n n₀:Nat}(hn:2<=n)
  {ad:Option Addr}{cap:Nat}{L:List Sp}(hg:a.eval g= .func (.func 187) #[.slice ad L.length cap] #[]){p q:Tmp}(hps:ps= #[p,q])(hc:SpAt w n₀ ad L)(hn₀:n₀<=w.heap.size)
  (I:Nat->World->Prop)(Ix:Code->Nat->World->Prop)(hI:OwnFrom w.heap.size I)(hIx:∀c,OwnFrom w.heap.size (Ix c))(h0:I 0 w)
  (hround:∀l k (h:k<L.length) W,w.heap.size<=l->I k W ->
   assign.wpIn (Fence.wide.inRound l) (n-1-1) Tryz.prog (Exit.then (fun a' W'=>KeepsFrom w.heap.size W W'/\Below n₀ W W'/\∃Ax:Unit->World->Prop,OwnFrom w.heap.size Ax/\Ax () W'/\∀W2,Ax () W2->body.wpIn (Fence.wide.inRound l) (n-1-1) Tryz.prog (sD w.heap.size n₀ I Ix k W2) a' W2) (fun _ _ _=>False))
    { tmps:=(a.tmps.setIfInBounds p (.int .i64 k)).setIfInBounds q (.agg #[L[k].1,L[k].2]),defers:=[] } W)
  (hdone:∀(D:Nat) (W:World),w.heap.size<=D->I L.length W->W.heap[D]? =some (.deferred (some []))->Q .normal { a with defers:={ target:=.collected D,args:= #[] }::a.defers } W)
  (hstop:∀(D:Nat) (c:Code) (k:Nat) (W:World),w.heap.size<=D->k<L.length->Ix c k W->W.heap[D]? =some (.deferred (some []))->c.wpIn Fence.wide n Tryz.prog Q { a with defers:={ target:=.collected D,args:= #[] }::a.defers } W) :
  (Code.rangeFunc g ps assign body).wpIn Fence.wide n Tryz.prog Q a w:=by
 subst hps;refine wpIn_rangeFunc (fun fn hfn=> ?_);obtain⟨rec,hrec⟩:∃rec:LoopState->Option Code->Loop,rec=fun st pe=>{ state:=st,pending:=pe,fn:=fn,tmps:=a.tmps,params:= #[p,q],assign:=assign,body:=body,defers:=w.heap.size }:=⟨_,rfl⟩;obtain⟨W1,hW1⟩:∃W1,W1=(w.alloc (.deferred (some []))).alloc (.loop (rec .ready none)):=⟨_,rfl⟩;have hz:W1.heap.size=w.heap.size+2:=by rw[hW1];simp
 have cX:W1.heap[w.heap.size+1]? =some (.loop (rec .ready none)):=by
  have:=World.alloc_heap_new (w.alloc (.deferred (some []))) (.loop (rec .ready none));rw[World.size_alloc]at this;rw[hW1];exact this
 have hd1:W1.heap[w.heap.size]? =some (.deferred (some [])):=by
  rw[hW1];exact(Below.heap_alloc _ _ _ (by simp)).trans (World.alloc_heap_new w _)
 have hb1:Below n₀ w W1:=by rw[hW1];exact((Below.refl n₀ w).alloc hn₀ _).alloc (by simp;omega) _
 have cY:I 0 W1:=by rw[hW1];exact hI.alloc _ (hI.alloc _ h0)
 refine⟨w.heap.size+1,[{ target:=.collected w.heap.size,args:= #[] }],W1,{ target:=.fn (.func 187) #[],args:= #[.slice ad L.length cap,.func (.yield (w.heap.size+1)) #[] #[]] },W1,187,#[.slice ad L.length cap,.func (.yield (w.heap.size+1)) #[] #[]],W1,?_,?_,fun _ _=>trivial,?_,fun _=>by omega,?_⟩
 ·rw[hW1,hrec];exact run_enterLoop_outer _ _ _ _ _
 ·simp only[resolve,hg]
  simp[go_sem]
 ·simp[invoke,go_sem]
 have key:=um (n-1) (by omega) (w.heap.size+1) n₀ ad cap L
  (fun k W=>I k W/\W.heap[w.heap.size+1]? =some (.loop (rec .ready none))/\W.heap[w.heap.size]? =some (.deferred (some [])))
  (fun k W=>∃c,Ix c k W/\W.heap[w.heap.size+1]? =some (.loop (rec .done (some c)))/\W.heap[w.heap.size]? =some (.deferred (some [])))
  (fun k A o h=>⟨hI.alloc _ h.1,(Below.heap_alloc A o _ (Array.getElem?_eq_some_iff.1 h.2.1).1).trans h.2.1,(Below.heap_alloc A o _ (Array.getElem?_eq_some_iff.1 h.2.2).1).trans h.2.2⟩)
  ?_ W1 (hc.below hb1) (by omega) ⟨cY,cX,hd1⟩
 ·refine key.mono ?_;rintro e W2⟨⟨v,rfl⟩,(⟨hi,hl,hd⟩ | ⟨k,hk,c,hi,hl,hd⟩)⟩
  ·have hrun:=run_endLoop (P:=Tryz.prog) hl (by rw[hrec];simp);have b8:(rec .ready none).pending=none:=by rw[hrec]
   rw[b8]at hrun;exact⟨none,_,hrun,hdone w.heap.size _ (Nat.le_refl _) (hI.putObj _ hi (by omega) hl rfl) ((World.putObj_heap_other (by omega)).trans hd)⟩
  have hrun:=run_endLoop (P:=Tryz.prog) hl (by rw[hrec];simp);have b8:(rec .done (some c)).pending=some c:=by rw[hrec]
  rw[b8]at hrun;exact⟨some c,_,hrun,hstop w.heap.size c k _ (Nat.le_refl _) hk ((hIx c).putObj _ hi (by omega) hl rfl) ((World.putObj_heap_other (by omega)).trans hd)⟩
 rintro k hk W⟨hi,hl,hd⟩;subst hrec;have c3:∀x y:Value,(#[p,q].zip #[x,y]).foldl (fun t (z:Tmp×Value)=>t.setIfInBounds z.1 z.2) a.tmps=(a.tmps.setIfInBounds p x).setIfInBounds q y:=fun x y=>by simp
 refine fO (r:={ state:=.ready,pending:=none,fn:=fn,tmps:=a.tmps,params:= #[p,q],assign:=assign,body:=body,defers:=w.heap.size }) (B:=w.heap.size) rfl rfl rfl hl (by omega) (wpIn_mono (a:={ tmps:=_,defers:=[] }) (by dsimp only;rw[c3];exact hround (w.heap.size+1) k hk W (by omega) hi) ?_);intro e a' W' he
 cases e with
 | normal =>
  obtain⟨hk1,hb,Ax,c4,c5,c6⟩:=he;have hl':=hk1.same _ _ (by omega) hl rfl;have hd':=hk1.same _ _ (Nat.le_refl _) hd rfl;have hlt:=(Array.getElem?_eq_some_iff.1 hl').1;refine⟨hk1,wpIn_mono (c6 _ (c4.putObj (s:=()) _ c5 (by omega) hl' rfl)) ?_⟩;intro e3 a3 W3 h3;have fin:∀(W3:World),KeepsFrom w.heap.size (W'.putObj (w.heap.size+1) (.loop { state:=.busy,pending:=none,fn:=fn,tmps:=a.tmps,params:= #[p,q],assign:=assign,body:=body,defers:=w.heap.size })) W3->W3.heap[w.heap.size+1]? =some (.loop { state:=.busy,pending:=none,fn:=fn,tmps:=a.tmps,params:= #[p,q],assign:=assign,body:=body,defers:=w.heap.size })/\W3.heap[w.heap.size]? =some (.deferred (some [])):=fun W3 hk3=>And.intro (hk3.same _ _ (by omega) (World.putObj_heap_same hlt) rfl) (hk3.same _ _ (Nat.le_refl _) ((World.putObj_heap_other (by omega)).trans hd') rfl)
  cases e3 with
  | normal =>
   obtain⟨hk3,hb3,c7⟩:=h3;obtain⟨a9,hd3⟩:=fin W3 hk3;have b9:=(Array.getElem?_eq_some_iff.1 a9).1;exact⟨hk3,.inl ⟨rfl,⟨hI.putObj _ c7 (by omega) a9 rfl,World.putObj_heap_same b9,(World.putObj_heap_other (by omega)).trans hd3⟩,((hb.trans (belowK_b (w:=w) hn₀ _ _ _ _ (by omega) hl' rfl rfl)).trans hb3).trans (belowK_b (w:=w) hn₀ _ _ _ _ (by omega) a9 rfl rfl)⟩⟩
  | ret =>
   obtain⟨a9,hd3⟩:=fin W3 h3.1;exact⟨h3.1,.inr ⟨rfl,.ret,(hIx _).putObj _ h3.2 (by omega) a9 rfl,World.putObj_heap_same (Array.getElem?_eq_some_iff.1 a9).1,(World.putObj_heap_other (by omega)).trans hd3⟩⟩
  | exit i =>
   obtain⟨a9,hd3⟩:=fin W3 h3.1;exact⟨h3.1,.inr ⟨rfl,.exit i,(hIx _).putObj _ h3.2 (by omega) a9 rfl,World.putObj_heap_same (Array.getElem?_eq_some_iff.1 a9).1,(World.putObj_heap_other (by omega)).trans hd3⟩⟩
  | goto t =>
   obtain⟨a9,hd3⟩:=fin W3 h3.1;exact⟨h3.1,.inr ⟨rfl,.goto t,(hIx _).putObj _ h3.2 (by omega) a9 rfl,World.putObj_heap_same (Array.getElem?_eq_some_iff.1 a9).1,(World.putObj_heap_other (by omega)).trans hd3⟩⟩
  | panic c=>exact h3.elim
  | outgrown=>exact h3.elim
 | ret=>exact he.elim
 | exit i=>exact he.elim
 | goto t=>exact he.elim
 | panic c=>exact he.elim
 | outgrown=>exact he.elim
end
section
open Go.RowKit Go.Shelf
theorem bS {P:Program}(w:World)(base:Nat)(t ty e:TypeId)(i:TypeInfo)(z:Value)(size bytes:Nat)(ht:P.underlying t=some (.slice e))(hi:P.info? e=some i)(hz:i.zero=some z)
  (hsize:i.size=size)(hby:i.bytes=bytes)(hzs:z.cells.size=size)(hsz:0<size)
  (v:Value)(n:Nat)(xs:List Value)(hown:w.ownsRow base e size v n xs)
  (a:Addr)(m c:Nat)(news:List Value)(hl:news.length=m*size)(hnews:∀j u,news[j]? =some u->w.cell? (a.add j)=some u)(h1:∀u∈news,u.oneCell'=true)
  (h63:n+m<=maxLen)(hbytes:(n+m)*bytes<=140737488355328)(hbase:base<=w.heap.size) :
  ∃v' w',(Builtin.append_ #[t,t] ty #[v,.slice (some a) m c]).run P w= .ok v' w'/\w'.ownsRow base e size v' (n+m) (xs++news)/\w.grownBy w' v.ownBlock /\
   (v'.ownBlock=v.ownBlock\/∃k,v'.ownBlock=some k/\w.heap.size<=k):=by
 obtain⟨v',w',hr,h2,h3,h4⟩:=run_append_own (P:=P) w base t ty e i z size bytes ht hi hz hsize hby hzs hsz v n xs hown a m c news hl hnews h1 h63 hbytes hbase;refine⟨v',w',hr,h2,h3,?_⟩;subst hsize;subst hby
 rcases hown.2 with⟨rfl,rfl⟩ | ⟨g,cap,cur,rfl,hbg,hg,hnc,hcm,hcs,htake⟩
 ·have hx:xs=[]:=List.eq_nil_of_length_eq_zero (by simpa using hown.1);subst hx;obtain⟨v2,w2,hr2,g2,g3,g4⟩:=run_append_own (P:=P) w w.heap.size t ty e i z i.size i.bytes ht hi hz rfl rfl hzs hsz _ 0 [] (World.ownsRow_nil w _ e i.size) a m c news hl hnews h1 h63 hbytes (Nat.le_refl _);rw[hr]at hr2
  cases hr2
  rcases g2.2 with⟨rfl,_⟩ | ⟨g,cap,cur,rfl,hbg,_⟩
  ·exact .inl rfl
  exact .inr ⟨g,rfl,hbg⟩
 by_cases hroom:n+m<=cap
 ·have hfit:n*i.size+news.length<=cur.size:=by rw[hl,hcs,<-Nat.add_mul];exact Nat.mul_le_mul_right _ hroom
  have hr2:=run_append_room (P:=P) w t ty e i ht hi g n cap cur hg a m c news hl hnews h1 hroom hfit;rw[hr]at hr2
  cases hr2
  exact .inl rfl
 have holds:∀j u,xs[j]? =some u->w.cell? ((⟨g,0,none⟩:Addr).add j)=some u:=hown.cells (g:=g) rfl;have hr2:=run_append_grow (P:=P) w t ty e i z ht hi hz ⟨g,0,none⟩ n cap xs hown.1 holds a m c news hl hnews (by omega) (by simp only[maxLen]at h63;omega) (growslice_fits (by simp only[maxLen]at h63;omega) hbytes);rw[hr]at hr2
 cases hr2
 exact .inr ⟨w.heap.size,rfl,Nat.le_refl _⟩
def cd (L:List Sp):List Value:=L.flatMap fun x=>[x.1,x.2]
theorem cP (A B:List Sp):cd (A++B)=cd A++cd B:=List.flatMap_append ..
theorem js (x:Sp)(L:List Sp):cd (x::L)= .int .i64 x.1:: .int .i64 x.2::cd L:=rfl
theorem cy (L:List Sp):(cd L).length=L.length*2:=by
 induction L with
 | nil=>rfl
 | cons x L ih=>rw[js,List.length_cons,List.length_cons,ih,List.length_cons];omega
theorem gS (L:List Sp)(i:Nat)(h:i<L.length):(cd L)[i*2]? =some (L[i].1:Y)/\(cd L)[i*2+1]? =some (L[i].2:Y):=by
 induction L generalizing i with
 | nil=>simp at h
 | cons x L ih =>
  rw[js]
  cases i with
  | zero=>exact⟨rfl,rfl⟩
  | succ i =>
   have:=ih i (by simpa using h);rw[show(i+1)*2=(i*2+1)+1 by omega,show i*2+1+1+1=(i*2+1)+1+1 by omega]
   simpa using this
theorem qR (L:List Sp):∀u∈cd L,u.oneCell'=true:=by
 intro u hu;obtain⟨x,_,h⟩:=List.mem_flatMap.1 hu
 simp at h
 rcases h with rfl | rfl <;> rfl
theorem gC:(Tryz.prog.info? 92).map (fun i=>(i.zero,i.size,i.bytes))=some (some (.agg #[(0:Int),(0:Int)]),2,16):=by kernel_rfl
def aG (w:World)(base:Nat)(v:Value)(L:List Sp):Prop:=w.ownsRow base 92 2 v L.length (cd L)
theorem aG.nil (w:World)(base:Nat):aG w base (.slice none 0 0) []:=World.ownsRow_nil _ _ _ _
theorem aG.alloc {w:World}{base:Nat}{v:Value}{L:List Sp}(h:aG w base v L)(o:Obj):aG (w.alloc o) base v L:=World.ownsRow.alloc h o
theorem aG.kept {w w':World}{base:Nat}{v:Value}{L:List Sp}(h:aG w base v L){row:Option Nat}(hg:w.grownBy w' row)(hne:v.ownBlock=none\/v.ownBlock≠row):aG w' base v L:=World.ownsRow.kept h hg hne
theorem aG.lt {w:World}{base:Nat}{v:Value}{L:List Sp}(h:aG w base v L):∀k,v.ownBlock=some k->base<=k/\k<w.heap.size:=World.ownsRow.lt h
theorem aG.mono {w:World}{base base':Nat}{v:Value}{L:List Sp}(h:aG w base v L)(hb:base'<=base):aG w base' v L:=by
 refine⟨h.1,?_⟩
 rcases h.2 with h | ⟨g,cap,cur,hv,hbg,r⟩
 ·exact .inl h
 exact .inr ⟨g,cap,cur,hv,Nat.le_trans hb hbg,r⟩
theorem aG.val {w:World}{base:Nat}{v:Value}{L:List Sp}(h:aG w base v L):∃a cap,v= .slice a L.length cap/\L.length<=cap:=by
 rcases h.2 with⟨rfl,hn⟩ | ⟨g,cap,cur,hv,hbg,hg,hnc,hcm,hcs,htake⟩
 ·exact⟨none,0,by rw[hn],by omega⟩
 exact⟨_,cap,hv,hnc⟩
theorem aG.at {w:World}{base:Nat}{v:Value}{L:List Sp}(h:aG w base v L)(hs:L.length<=1099511627776) :
  ∃a cap,v= .slice a L.length cap/\SpAt w w.heap.size a L/\L.length<=cap/\∀ad,a=some ad->base<=ad.block/\v.ownBlock=some ad.block/\ad=⟨ad.block,ad.off,none⟩:=by
 rcases h.2 with⟨rfl,hn⟩ | ⟨g,cap,cur,hv,hbg,hg,hnc,hcm,hcs,htake⟩
 ·refine⟨none,0,by rw[hn],⟨hs,fun hl=>by omega⟩,by omega,fun ad e=>by cases e⟩
 refine⟨some ⟨g,0,none⟩,cap,hv,⟨hs,fun _=>⟨g,0,rfl,(Array.getElem?_eq_some_iff.1 hg).1,fun i hi=> ?_⟩⟩,hnc,fun ad e=>by cases e;exact⟨hbg,by rw[hv];rfl,rfl⟩⟩;have hc:=World.ownsRow.cells h (g:=g) (by rw[hv];rfl);obtain⟨f1,f2⟩:=gS L i hi;have c1:=hc _ _ f1;have c2:=hc _ _ f2;rw[Addr.add_lit]at c1 c2;refine⟨?_,?_⟩
 ·simpa using c1
 simpa[Nat.add_assoc]using c2
def cu (W:World)(b:Nat)(t:TypeId):Prop:=∃vs fr,W.heap[b]? =some (.cells vs t fr)
theorem cu.of {W W':World}{b:Nat}{t:TypeId}(h:cu W b t)(hk:W'.heap[b]? =W.heap[b]?):cu W' b t:=by
 obtain⟨vs,fr,e⟩:=h;exact⟨vs,fr,hk.trans e⟩
theorem cu.lt {W:World}{b:Nat}{t:TypeId}(h:cu W b t):b<W.heap.size:=by
 obtain⟨vs,fr,e⟩:=h;exact(Array.getElem?_eq_some_iff.1 e).1
theorem cu.ne {W:World}{b c:Nat}{t u:TypeId}(h:cu W b t)(k:cu W c u)(hne:t≠u):b≠c:=by
 rintro rfl;obtain⟨vs,fr,e⟩:=h;obtain⟨vs',fr',e'⟩:=k;rw[e]at e'
 cases e'
 exact hne rfl
theorem aG.ty {w:World}{base n cap:Nat}{a:Option Addr}{L:List Sp}(h:aG w base (.slice a n cap) L):∀ad,a=some ad->cu w ad.block 92:=by
 rintro ad rfl
 rcases h.2 with⟨e,_⟩ | ⟨g,cap',cur,hv,_,hg,_⟩
 ·cases e
 cases hv
 exact⟨_,_,hg⟩
theorem eQ {a b c:World}{r r':Option Nat}(h:a.grownBy b r)(k:b.grownBy c r')(hr:r'=r\/∀k,r'=some k->a.heap.size<=k):a.grownBy c r:=by
 refine⟨k.os.trans h.os,k.tape.trans h.tape,k.output.trans h.output,Nat.le_trans h.size k.size,fun i hi hne=>(k.block i (Nat.lt_of_lt_of_le hi h.size) ?_).trans (h.block i hi hne)⟩
 rcases hr with rfl | hr
 ·exact hne
 intro e;have:=hr i e.symm;omega
theorem aM {a b:World}{r:Option Nat}{N:Nat}(h:a.grownBy b r)(hN:N<=a.heap.size)(hr:∀k,r=some k->N<=k):Below N a b :=
 ⟨h.os,h.tape,h.output,h.size,fun i hi=>h.block i (by omega) (fun e=>by have:=hr i e.symm;omega)⟩
theorem gD {a b:World}{r:Option Nat}(h:Below a.heap.size a b):a.grownBy b r :=
 ⟨h.os,h.tape,h.output,h.size,fun i hi _=>h.block i hi⟩
theorem oU (a:World)(r:Option Nat):a.grownBy a r:=⟨rfl,rfl,rfl,Nat.le_refl _,fun _ _ _=>rfl⟩
theorem SpAt.grown {w w':World}{n₀:Nat}{a:Option Addr}{L:List Sp}{r:Option Nat}(h:SpAt w n₀ a L)(hg:w.grownBy w' r)(hn:n₀<=w.heap.size)(hne:0<L.length->∀ad,a=some ad->r≠some ad.block):SpAt w' n₀ a L :=
 ⟨h.small,fun hl=>by
  obtain⟨b,off,ha,hbl,hc⟩:=h.cells hl;have hb:=hg.block b (by omega) (fun e=>hne hl _ ha e.symm);exact⟨b,off,ha,hbl,fun i hi=>⟨(World.cell?_of_block (a:=⟨b,_,none⟩) hb).trans (hc i hi).1,(World.cell?_of_block (a:=⟨b,_,none⟩) hb).trans (hc i hi).2⟩⟩⟩
theorem ar (w:World){ops:Array Oper}{rest:List Oper}{o:Oper}{a:Act}{Q:Exit->Act->World->Prop}(hgd:o.guard=none)(s x:Operand)
  (ho:o.op= .call { callee:=.builtin .append,args:= #[s,x],argTypes:= #[41,41] })(base:Nat)
  (v:Value)(L:List Sp)(hs:a.eval s=v)(hown:aG w base v L)(hL:L.length<=4398046511104)
  (b:Nat)(y:Sp)(hx:a.eval x= .slice (some ⟨b,0,none⟩) 1 1)(hc0:w.cell? b=some (y.1:Y))(hc1:w.cell? ⟨b,1,none⟩=some (y.2:Y))(hbase:base<=w.heap.size)
  (h:∀v' w',aG w' base v' (L++[y])->w.grownBy w' v.ownBlock->(v'.ownBlock=v.ownBlock\/∃k,v'.ownBlock=some k/\w.heap.size<=k)->wpList Tryz.prog ops Q rest (a.put o.dst v') w'):wpList Tryz.prog ops Q (o::rest) a w:=by
 obtain⟨i0,hi,hz0,hz1,hz2⟩:=info_parts gC
 obtain⟨v',w',hr,h2,h3,h4⟩:=bS (P:=Tryz.prog) w base 41 o.type 92 i0 _ 2 16 Tryz.underlying41 hi hz0 hz1 hz2 rfl (by decide) v L.length (cd L) hown ⟨b,0,none⟩ 1 1 [y.1,y.2] rfl
  (by intro j u hj;match j,hj with
   | 0,hj=>simp at hj;subst hj;exact hc0
   | 1,hj=>simp at hj;subst hj;simpa[Addr.add]using hc1) (by intro u hu;simp at hu;rcases hu with rfl | rfl <;> rfl) (by unfold maxLen;omega) (by omega) hbase
 refine wpList_plain hgd fun K hK=> ?_;unfold Oper.wp execOp;simp only[ho,resolve,invoke,builtin,Sem.run_bind,Sem.run_pure,Result.andThen_ok,List.map_toArray,List.map_cons,List.map_nil,hs,hx,hr];refine hK _ _ (h v' w' ?_ h3 h4);show w'.ownsRow _ _ _ _ _ _;rw[List.length_append,cP];exact h2
theorem dW {F:Fence}{n:Nat}(w:World){ops:Array Oper}{rest:List Oper}{o:Oper}{a:Act}{Q:Exit->Act->World->Prop}(hgd:o.guard=none)(s x:Operand)
  (ho:o.op= .call { callee:=.builtin .append,args:= #[s,x],argTypes:= #[41,41] })(base:Nat)
  (v:Value)(L:List Sp)(hs:a.eval s=v)(hown:aG w base v L)(hL:L.length<=4398046511104)
  (b:Nat)(y:Sp)(hx:a.eval x= .slice (some ⟨b,0,none⟩) 1 1)(hc0:w.cell? b=some (y.1:Y))(hc1:w.cell? ⟨b,1,none⟩=some (y.2:Y))(hbase:base<=w.heap.size)
  (h:∀v' w',aG w' base v' (L++[y])->w.grownBy w' v.ownBlock->(v'.ownBlock=v.ownBlock\/∃k,v'.ownBlock=some k/\w.heap.size<=k)->wpListIn F n Tryz.prog ops Q rest (a.put o.dst v') w'):wpListIn F n Tryz.prog ops Q (o::rest) a w:=by
 obtain⟨i0,hi,hz0,hz1,hz2⟩:=info_parts gC
 obtain⟨v',w',hr,h2,h3,h4⟩:=bS (P:=Tryz.prog) w base 41 o.type 92 i0 _ 2 16 Tryz.underlying41 hi hz0 hz1 hz2 rfl (by decide) v L.length (cd L) hown ⟨b,0,none⟩ 1 1 [y.1,y.2] rfl
  (by intro j u hj;match j,hj with
   | 0,hj=>simp at hj;subst hj;exact hc0
   | 1,hj=>simp at hj;subst hj;simpa[Addr.add]using hc1) (by intro u hu;simp at hu;rcases hu with rfl | rfl <;> rfl) (by unfold maxLen;omega) (by omega) hbase
 refine wpListIn_plain hgd fun K hK'=> ?_;unfold Oper.wpIn;refine⟨?_,?_⟩
 ·simp[Oper.about,ho,resolve,Target.leads,Sem.run_pure]
 rw[Oper.semAt_plain F _ _ (by rw[ho];intro c hc';cases hc')]
 simp[execOp,ho,resolve,invoke,builtin,hs,hx,hr,Result.andThen]
 refine hK' _ _ (h v' w' ?_ h3 h4);show w'.ownsRow _ _ _ _ _ _;rw[List.length_append,cP];exact h2
end
section
set_option maxRecDepth 100000
open Go.RowKit Go.Shelf
def sE (e:Int)(x:Sp):Bool:=decide (0<=x.1/\e<x.1/\x.1<x.2/\x.2<=1099511627776)
theorem qS {w:World}{E:Nat}{u:Value}(v:Value)(o:Obj)(hc:w.cell? E=some u)(hf:w.frozen? E=false) :
  ((w.setCell E v).alloc o).cell? E=some v/\((w.setCell E v).alloc o).frozen? E=false/\Chg E w ((w.setCell E v).alloc o):=by
 have hE:E<w.heap.size:=block_lt_of_cell hc;have hb:=(Below.refl (w.setCell E v).heap.size (w.setCell E v)).alloc (Nat.le_refl _) o;have hl:E<(w.setCell E v).heap.size:=by simp[World.setCell];exact hE
 exact⟨(hb.cell (p:=⟨E,0,none⟩) hl).trans (World.cell?_setCell_same _ _ _ hc),(hb.frozen (p:=⟨E,0,none⟩) hl).trans (by rw[World.frozen?_setCell];exact hf),((Chg.refl E w).setCell 0 v).alloc o⟩
theorem mq (w:World) (x:Sp) (E:Nat) (en:Int) (hc:w.cell? E=some (en:Y)) (hf:w.frozen? E=false) :
  Calls Tryz.prog 210 #[.agg #[x.1,x.2],E] w fun e w'=>e= .returned (sE en x)/\w'.cell? E=some (x.2:Y)/\w'.frozen? E=false/\Chg E w w':=by
 obtain⟨x1,x2⟩:=x;have hE:=block_lt_of_cell hc;have hne:w.heap.size≠E:=by simp at hE;omega
 have HS:=hid (fun v o=>qS (w:=w) v o hc hf)
 go_enter Tryz.func210,Tryz.ntmps210
 go_wp2_with fail
 ·go_ret;refine⟨?_,HS.o _ _⟩;show Ending.returned (Value.bool (decide (x2<=1099511627776)))=_
  congr 2
  unfold sE
  apply Bool.eq_iff_iff.2
  rw[decide_eq_true_iff,decide_eq_true_iff];exact⟨fun h=>⟨by assumption,by assumption,by assumption,h⟩,fun h=>h.2.2.2⟩
 all_goals
  go_ret;refine⟨?_,HS.o _ _⟩;show Ending.returned (Value.bool false)=_
  congr 2
  unfold sE;rw[eq_comm,decide_eq_false_iff_not];dsimp only;omega
theorem mr {L:List Sp}{k:Nat}(h:k<L.length)(e:Int):aH e (L.drop k)=(sE e L[k]&&aH L[k].2 (L.drop (k+1))):=by
 rw[List.drop_eq_getElem_cons h];rfl
theorem ek (w:World) (n₀:Nat) (a:Option Addr) (cap:Nat) (L:List Sp) (hc:SpAt w n₀ a L) (hn:n₀<=w.heap.size) :
  Calls Tryz.prog 186 #[.slice a L.length cap] w fun e w'=>e= .returned (ae L)/\Below w.heap.size w w':=by
 have hsm:=hc.small
 go_enter Tryz.func186,Tryz.ntmps186
 go_wp2_with fail
 go_loopw [10] (fun p wr=>∃(k:Nat) (e:Int),k<=L.length/\p= .int .i64 k/\wr.cell? w.heap.size=some (e:Y)/\wr.frozen? w.heap.size=false/\Below w.heap.size w wr/\ae L=aH e (L.drop k)) (fun p _=>L.length-(intOf p).toNat)
 case atStart =>
  refine⟨0,-1,Nat.zero_le _,rfl,?_,?_,(Below.refl _ w).alloc (Nat.le_refl _) _,rfl⟩
  ·simp
  simp
 case round =>
  obtain⟨k,e,hk,rfl,hce,bu,hb,aF⟩:=hrel;have hs:=hc.below (hb.mono hn);have HC:=hid hc;clear hc;by_cases hlt:k<L.length
  ·obtain⟨b,off,rfl,hbb,hcs⟩:=hs.cells (by omega);obtain⟨c0,c1⟩:=hcs k hlt;have HB:=hid hb;have aa:=hid (aF.trans (mr hlt e));have al:(k:Int)<(L.length:Int):=by omega
   have bv:w.heap.size<wr.heap.size:=block_lt_of_cell hce;have hal:=hid (fun o=>(Below.refl wr.heap.size wr).alloc (Nat.le_refl _) o);have bx:=hid hce;have cC:=hid bu;clear hcs hs hb aF hce bu;go_wp2_with fail;refine(mq _ L[k] w.heap.size e (((hal.out _).cell (p:=⟨w.heap.size,0,none⟩) bv).trans bx.o) (((hal.out _).frozen (p:=⟨w.heap.size,0,none⟩) bv).trans cC.o)).mono ?_;rintro e2 w2⟨rfl,hc2,hf2,hg2⟩;have hb2:Below w.heap.size w w2:=(HB.trans ((hal.out _).mono HB.size)).trans (hg2.below (Nat.le_refl _) (by simp;omega));have a0:=hid hb2;have c8:=hid hc2;have c9:=hid hf2;clear HB hal bx cC c0 c1 hg2 hb2 hc2 hf2
   cases hok:sE e L[k]with
   | true =>
    go_wp2_with fail
    go_roundw
    case rel=>exact⟨k+1,L[k].2,by omega,by go_num,c8.o,c9.o,a0.o,by rw[aa.o,hok];rfl⟩
    case measure=>simp[intOf];omega
   | false =>
    go_wp2;go_ret;exact⟨by rw[aa.o,hok];rfl,a0.o⟩
  obtain rfl:k=L.length:=by omega
  have a0:=hid hb;have aa:=hid aF;clear hb aF hs;go_wp2;go_ret;refine⟨?_,a0.o⟩;rw[aa.o,List.drop_length];rfl
theorem ly (w:World)(v:Value)(a:Option Addr)(n cap:Nat)(hv:v= .slice a n cap):Calls Tryz.prog 185 #[v] w fun e w'=>e= .returned (.agg #[v])/\w'=w.alloc (.cells #[v] 224):=by
 subst hv
 go_enter Tryz.func185,Tryz.ntmps185
 go_wp2
 refine bodyPost_ret (v:=.agg #[.slice a n cap]) ?_ rfl ⟨rfl,rfl⟩
 simp[results,Tryz.results185,go_sem]
theorem qT (a:Option Addr)(n cap:Nat)(W:World):Sem.run Tryz.prog (Instr.field 224 (.agg #[.slice a n cap]) 0) W= .ok (.slice a n cap) W:=by kernel_rfl
theorem qU (w:World) (n₀:Nat) (a:Option Addr) (cap:Nat) (L:List Sp) (hc:SpAt w n₀ a L) (hn:n₀<=w.heap.size) :
  Calls Tryz.prog 234 #[.slice a L.length cap] w fun e w'=>e= .returned (ae L)/\Below w.heap.size w w':=by
 have hb:=(Below.refl w.heap.size w).alloc (Nat.le_refl _) (.cells #[.slice a L.length cap] 224);have HB:=hid hb;have HC:=hid (ek _ n₀ a cap L (hc.below (hb.mono hn)) (by have:=hb.size;omega));clear hc hb
 go_enter Tryz.func234,Tryz.ntmps234
 go_wp2_with fail;refine(ly _ _ _ _ _ rfl).mono ?_;rintro e w1⟨rfl,rfl⟩;have hfl:=qT a L.length cap (w.alloc (.cells #[.slice a L.length cap] 224));go_wp2_with fail;refine HC.mono ?_;rintro e w2⟨rfl,hb2⟩;have a0:=hid hb2;clear hb2;go_wp2;go_ret;exact⟨rfl,HB.trans (a0.mono HB.size)⟩
theorem lF (w:World) (n₀:Nat) (a:Option Addr) (cap:Nat) (L:List Sp) (s:Sp) (hc:SpAt w n₀ a L) (hn:n₀<=w.heap.size) :
  Calls Tryz.prog 227 #[.agg #[.slice a L.length cap],.agg #[s.1,s.2]] w fun e w'=>e= .returned (cV L s)/\Below w.heap.size w w':=by
 obtain⟨s1,s2⟩:=s;have hb:=((Below.refl w.heap.size w).alloc (Nat.le_refl _) (.cells #[.slice a L.length cap] 224)).alloc (by simp) (.cells #[s1,s2] 92);have HB:=hid hb;have HC:=hid (ek _ n₀ a cap L (hc.below (hb.mono hn)) (by have:=hb.size;omega));clear hc hb
 go_enter Tryz.func227,Tryz.ntmps227
 go_wp2_with fail;refine HC.mono ?_;rintro e w2⟨rfl,hb2⟩;have c0:=hb2.cell (p:=⟨w.heap.size+1,0,none⟩) (by simp);have c1:=hb2.cell (p:=⟨w.heap.size+1,1,none⟩) (by simp);have a0:=hid (HB.trans (hb2.mono HB.size));have hsz:=hb2.size;clear hb2 HC
 cases aF:ae L with
 | true =>
  simp at c0 c1 hsz
  go_wp2_with fail;refine(qU (w2.alloc _) (w2.heap.size+1) _ _ [(s1,s2)] ⟨by simp,fun _=>⟨w2.heap.size,0,rfl,by omega,fun i hi=> ?_⟩⟩ (by simp)).mono ?_
  ·obtain rfl:i=0:=by simpa using hi
   simp
  rintro e w3⟨rfl,hb3⟩;have ab:=hid hb3;clear hb3;go_wp2;go_ret;refine⟨by unfold cV;rw[aF];rfl,a0.trans ?_⟩;exact((Below.refl w.heap.size w2).alloc (by omega) _).trans (ab.mono (by simp;omega))
 | false =>
  go_wp2;go_ret;exact⟨by unfold cV;rw[aF];rfl,a0.o⟩
theorem oV {ps:List Sp}{k:Nat}(h:k<ps.length):aw (ps.take (k+1))=aw (ps.take k)++(if ps[k].1<ps[k].2 then [ps[k]]else []):=by
 unfold aw;rw[List.take_succ_eq_append_getElem h,List.filter_append]
 congr 1
 by_cases g:ps[k].1<ps[k].2
 ·rw[if_pos g,List.filter_cons_of_pos (by simpa using g)];rfl
 rw[if_neg g,List.filter_cons_of_neg (by simpa using g)];rfl
theorem sF (ps:List Sp)(k:Nat):(aw (ps.take k)).length<=ps.length:=by
 unfold aw;exact Nat.le_trans (List.length_filter_le ..) (by rw[List.length_take];omega)
theorem iS (w:World) (base n₀:Nat) (v:Value) (L:List Sp) (a:Option Addr) (cap:Nat) (ps:List Sp) (hv:aG w base v L) (hL:L.length<=2199023255552) (hbase:base<=w.heap.size)
  (hc:SpAt w n₀ a ps) (hn:n₀<=w.heap.size) (hne:0<ps.length->∀ad,a=some ad->v.ownBlock≠some ad.block) :
  Calls Tryz.prog 228 #[v,.slice a ps.length cap] w fun e w'=>∃v',e= .returned v'/\aG w' base v' (L++aw ps)/\w.grownBy w' v.ownBlock/\(v'.ownBlock=v.ownBlock\/∃k,v'.ownBlock=some k/\w.heap.size<=k):=by
 have hsm:=hc.small;obtain⟨va,vc,rfl,-⟩:=hv.val
 go_enter Tryz.func228,Tryz.ntmps228
 go_wp2_with fail
 go_loopw [0,9] (fun u p wr=>∃(k:Nat),k<=ps.length/\p= .int .i64 k/\aG wr base u (L++aw (ps.take k))/\w.grownBy wr (Value.slice va L.length vc).ownBlock/\(u.ownBlock=(Value.slice va L.length vc).ownBlock\/∃j,u.ownBlock=some j/\w.heap.size<=j)) (fun _ p _=>ps.length-(intOf p).toNat)
 case atStart =>
  exact⟨0,Nat.zero_le _,rfl,by simpa[aw]using hv,oU _ _,.inl rfl⟩
 case round =>
  clear hv;obtain⟨k,hk,rfl,hown,hgr,hbl⟩:=hrel;have hs:=hc.grown hgr hn hne;have HC:=hid hc;have ch:=hgr.size;have ba:base<=wr.heap.size:=by omega
  clear hc;by_cases hlt:k<ps.length
  ·obtain⟨b,off,rfl,hbb,hcs⟩:=hs.cells (by omega);obtain⟨c0,c1⟩:=hcs k hlt;have HO:=hid hown;have HG:=hid hgr;have am:=hid hbl;have HN:=hid hne;have al:(k:Int)<(ps.length:Int):=by omega
   have cF:=hid (oV hlt);have hll:=sF ps k;have bb:(L++aw (ps.take k)).length<=4398046511104:=by rw[List.length_append];omega
   clear hcs hs hown hgr hbl hne;by_cases hx:ps[k].1<ps[k].2
   ·go_wp2_with (first | (at_builtin;refine ar _ rfl _ _ rfl base _ _ rfl ((HO.alloc _).alloc _) bb (wr.heap.size+1) ps[k] rfl (by simp) (by simp) (by simp;omega) ?_))
    intro v' w' ho hg hb;have hg2:wr.grownBy w' u0.ownBlock:=eQ (eQ (World.grownBy_alloc wr _ _) (World.grownBy_alloc _ _ _) (.inl rfl)) hg (.inl rfl)
    have R:aG w' base v' (L++aw (ps.take (k+1)))/\w.grownBy w' (Value.slice va L.length vc).ownBlock/\(v'.ownBlock=(Value.slice va L.length vc).ownBlock\/∃j,v'.ownBlock=some j/\w.heap.size<=j):=by
     refine⟨?_,?_,?_⟩
     ·rw[cF.o,if_pos hx];exact ho
     ·refine eQ HG.o hg2 ?_
      rcases am.o with h | ⟨j,h,hj⟩
      ·exact .inl h
      exact .inr (fun i e=>by rw[h]at e;cases e;exact hj)
     rcases hb with h | ⟨j,h,hj⟩
     ·rw[h];exact am.o
     exact .inr ⟨j,h,by omega⟩
    have HR:=hid R;clear R ho hg hb hg2;go_wp2_with fail
    go_roundw
    case rel=>exact⟨k+1,by omega,by go_num,HR.o⟩
    case measure=>simp[intOf];omega
   have hx2:ps[k].2<=ps[k].1:=by omega
   go_wp2_with fail
   go_roundw
   case rel =>
    refine⟨k+1,by omega,by go_num,?_,eQ HG.o (World.grownBy_alloc wr _ _) (.inl rfl),am.o⟩;rw[cF.o,if_neg hx,List.append_nil];exact HO.alloc _
   case measure=>simp[intOf];omega
  obtain rfl:k=ps.length:=by omega
  have HO:=hid hown;have HG:=hid hgr;have am:=hid hbl;clear hown hgr hbl hs hne;go_wp2;go_ret;refine⟨_,rfl,?_,HG.o,am.o⟩;have:=HO.o;rw[List.take_length]at this;exact this
end
section
open Go.RowKit Go.Shelf
def At (B i:Nat)(v:Value)(W:World):Prop:=W.cell? ⟨B,i,none⟩=some v/\W.frozen? ⟨B,i,none⟩=false
theorem At.lt {B i:Nat}{v:Value}{W:World}(h:At B i v W):B<W.heap.size:=block_lt_of_cell h.1
theorem At.own {B i:Nat}{v:Value}{A A':World}{row:Option Nat}(h:At B i v A)(hg:A.grownBy A' row)(hr:∀r,row=some r->∃o:Obj,A.heap[r]? =some o/\o.isCells=false):At B i v A' :=
 ⟨cell_kept h.1 hg hr,(frozen_kept h.1 hg hr).trans h.2⟩
theorem At.grown {B i:Nat}{v:Value}{A A':World}{row:Option Nat}(h:At B i v A)(hg:A.grownBy A' row)(hr:row≠some B):At B i v A':=by
 have hb:=hg.block B h.lt (fun e=>hr e.symm);exact⟨(World.cell?_of_block (a:=⟨B,i,none⟩) hb).trans h.1,(World.frozen?_of_block (a:=⟨B,i,none⟩) hb).trans h.2⟩
theorem At.alloc {B i:Nat}{v:Value}{W:World}(h:At B i v W)(o:Obj):At B i v (W.alloc o):=h.grown (World.grownBy_alloc W o none) (by simp)
theorem At.below {B i:Nat}{v:Value}{W W':World}{N:Nat}(h:At B i v W)(hb:Below N W W')(hN:B<N):At B i v W' :=
 ⟨(hb.cell (p:=⟨B,i,none⟩) hN).trans h.1,(hb.frozen (p:=⟨B,i,none⟩) hN).trans h.2⟩
theorem At.set {B i:Nat}{v:Value}{W:World}(h:At B i v W)(u:Value):At B i u (W.setCell ⟨B,i,none⟩ u) :=
 ⟨World.cell?_setCell_same _ _ _ h.1,by rw[World.frozen?_setCell];exact h.2⟩
theorem At.other {B i:Nat}{v:Value}{W:World}(h:At B i v W)(p:Addr)(u:Value)(hp:p≠⟨B,i,none⟩):At B i v (W.setCell p u) :=
 ⟨by rw[World.cell?_setCell_other _ _ _ _ hp];exact h.1,by rw[World.frozen?_setCell];exact h.2⟩
theorem At.ob {B C i j:Nat}{v:Value}{W:World}(h:At B i v W)(u:Value)(hp:C≠B):At B i v (W.setCell ⟨C,j,none⟩ u):=h.other _ _ (by intro e;cases e;exact hp rfl)
theorem At.new {B:Nat}{W:World}{vs:Array Value}{i:Nat}{v:Value}(t:TypeId)(hB:B=W.heap.size)(hv:vs[i]? =some v):At B i v (W.alloc (.cells vs t)):=by
 subst hB;refine⟨?_,?_⟩
 ·rw[cell_of_row _ _ _ _ _ _ (heap_alloc_new _ _)];exact hv
 simp
theorem aG.row {w:World}{base:Nat}{v:Value}{L:List Sp}(h:aG w base v L){k:Nat}(hk:v.ownBlock=some k):∃o:Obj,w.heap[k]? =some o/\o.isCells=true:=by
 rcases h.2 with⟨rfl,_⟩ | ⟨g,cap,cur,rfl,_,hg,_⟩
 ·cases hk
 cases hk;exact⟨_,hg,rfl⟩
theorem aG.own {A A':World}{base:Nat}{v:Value}{L:List Sp}(h:aG A base v L){row:Option Nat}(hg:A.grownBy A' row)(hr:∀r,row=some r->∃o:Obj,A.heap[r]? =some o/\o.isCells=false):aG A' base v L:=by
 refine h.kept hg ?_
 cases hv:v.ownBlock with
 | none=>exact .inl rfl
 | some k =>
  refine .inr (fun e=> ?_);obtain⟨o,h1,h2⟩:=h.row hv;obtain⟨o',h3,h4⟩:=hr k e.symm;rw[h1]at h3;cases h3;rw[h2]at h4;cases h4
theorem aG.setCell {W:World}{base:Nat}{v:Value}{L:List Sp}(h:aG W base v L)(C j:Nat)(u:Value)(hne:v.ownBlock≠some C):aG (W.setCell ⟨C,j,none⟩ u) base v L:=by
 refine h.kept (row:=some C) ⟨rfl,rfl,rfl,by simp[World.setCell],fun k _ hk=>heap_setCell_other W ⟨C,j,none⟩ k u (fun e=>hk (by rw[e]))⟩ ?_;exact .inr hne
theorem cQ {W W':World}{base:Nat}{v:Value}{L:List Sp}(h:aG W base v L)(hg:W.grownBy W' v.ownBlock):KeepsOthers W W':=by
 refine KeepsOthers.of_grownBy hg ?_;intro j o hj ho;obtain⟨o',h1,h2⟩:=h.row hj;rw[ho]at h1;cases h1;exact h2
theorem jS {W W':World}(h:Below W.heap.size W W'):KeepsOthers W W' :=
 ⟨h.size,fun k o hk _=>by rw[h.block k (Array.getElem?_eq_some_iff.1 hk).1];exact hk⟩
theorem dt {N B:Nat}{w A A':World}{row:Option Nat}(h:Below N w A)(hg:A.grownBy A' row)(hr:∀r,row=some r->B<=r/\∃o:Obj,A.heap[r]? =some o/\o.isCells=false)(hN:N<=w.heap.size)(hB:N<=B):Below N w A' :=
 h.trans (aM hg (Nat.le_trans hN h.size) (fun k e=>Nat.le_trans hB (hr k e).1))
theorem dK {n:Nat}{P:Program}{fn:Func}{R:Ending->World->Prop}{t:Tmp}{tm:Array Value}{D:Nat}{W:World}(h:fn.results= #[.tmp t])(hD:W.heap[D]? =some (.deferred (some [])))
  (hR:R (.returned (tm.getD t undef)) (W.putObj D (.deferred none))):bodyPostM Fence.wide n P fn R .ret { tmps:=tm,defers:=[{ target:=.collected D,args:= #[] }] } W:=by
 refine⟨by simp,.inl ⟨_,_,rfl,run_takeDeferred hD,?_⟩⟩;exact⟨_,results_tmp h tm P _,hR⟩
theorem ez {n:Nat}{P:Program}{fn:Func}{R:Ending->World->Prop}{t:Tmp}{tm:Array Value}{W:World}(h:fn.results= #[.tmp t])
 (hR:R (.returned (tm.getD t undef)) W):bodyPostM Fence.wide n P fn R .ret { tmps:=tm,defers:=[] } W:=⟨_,results_tmp h tm P _,hR⟩
theorem cj {N:Nat}{w W:World}{D:Nat}(h:Below N w W)(hN:N<=w.heap.size)(hND:N<=D):Below N w (W.putObj D (.deferred none)) :=
 h.trans (aM (grownBy_putObj' W D _) (Nat.le_trans hN h.size) (fun k e=>by cases e;exact hND))
def fP (Q:Exit->Act->World->Prop):Exit->Act->World->Prop
 | .panic _,_,_=>False
 | e,a,w=>Q e a w
theorem hU (Q:Exit->Act->World->Prop):∀e a w,fP Q e a w->Q e a w:=by
 intro e a w h
 cases e <;> first | exact h | exact h.elim
def jt (F:Act->World->Prop):Exit->Act->World->Prop
 | .normal,a,w=>F a w
 | _,_,_=>False
theorem jT {F:Act->World->Prop}{Q:Exit->Act->World->Prop}(h:∀a w,F a w->Q .normal a w):∀e a w,jt F e a w->Q e a w:=by
 intro e a w k
 cases e <;> first | exact h _ _ k | exact k.elim
end
section
set_option maxRecDepth 100000
open Go.RowKit Go.Shelf
attribute [local go_sem] Oper.semAt_some
theorem mt {L:List Sp}{k:Nat}(h:k<L.length):aC (L.take (k+1))=aC (L.take k)+(L[k].2-L[k].1):=by
 induction L generalizing k with
 | nil=>simp at h
 | cons x L ih =>
  cases k with
  | zero=>simp[aC]
  | succ k =>
   have:=ih (k:=k) (by simpa using h);simp only[List.take_succ_cons,aC,List.getElem_cons_succ,this];omega
theorem eR {e:Int}{L:List Sp}(h:aH e L=true)(k:Nat):aH e (L.take k)=true:=by
 induction L generalizing e k with
 | nil=>simp;exact h
 | cons x L ih =>
  cases k with
  | zero=>rfl
  | succ k=>rw[aA]at h;rw[List.take_succ_cons,aA];exact⟨h.1,ih h.2 k⟩
theorem dz {e:Int}{L:List Sp}(h:aH e L=true){k:Nat}(hk:k<L.length):0<=L[k].1/\L[k].1<L[k].2/\L[k].2<=1099511627776:=by
 induction L generalizing e k with
 | nil=>simp at hk
 | cons x L ih =>
  rw[aA]at h
  cases k with
  | zero=>exact⟨h.1.1,h.1.2.2⟩
  | succ k=>exact ih h.2 (by simpa using hk)
def wL (S:Nat)(L:List Sp)(w:World)(k:Nat)(W:World):Prop:=At S 0 (aC (L.take k)) W/\Below w.heap.size w W
theorem mu {S:Nat}{L:List Sp}{w:World}{B:Nat}(hB:w.heap.size<=B):OwnFrom B (wL S L w):=fun _ _ _ _ h hg hr=>⟨h.1.own hg (fun r e=>(hr r e).2),dt h.2 hg hr (Nat.le_refl _) hB⟩
set_option maxHeartbeats 1000000 in
theorem du (w:World) (n₀:Nat) (a:Option Addr) (cap:Nat) (L:List Sp) (hc:SpAt w n₀ a L) (hn:n₀<=w.heap.size) :
  Calls Tryz.prog 151 #[.slice a L.length cap] w fun e w'=>e= .returned (dH L)/\Below w.heap.size w w':=by
 have hb:=((Below.refl w.heap.size w).alloc (Nat.le_refl _) (.cells #[.slice a L.length cap] 224)).alloc (by simp) (.cells #[.slice a L.length cap] 224);have HB:=hid hb;have HS:=hid (hc.below (hb.mono hn));have hsm:=hc.small;clear hb hc;refine(callsIn_wide (n:=4)).1 ?_;refine callsIn_of_wp_marks Tryz.func151 rfl trivial ?_ rfl;simp only[Tryz.ntmps151,List.size_toArray,List.length_cons,List.length_nil,Nat.reduceAdd,Nat.reduceSub,Array.replicate_succ,Array.replicate_zero,List.push_toArray,List.append_toArray,List.nil_append,List.cons_append];refine wpIn_wide.2 ?_;go_wp2_with fail;refine(ly _ _ _ _ _ rfl).mono ?_;rintro e w1⟨rfl,rfl⟩;go_wp2_with fail;refine(ek _ n₀ a cap L HS.o (by have:=HB.size;omega)).mono ?_;rintro e w2⟨rfl,hb2⟩;have hz:=hb2.cell (p:=⟨w.heap.size+1,0,none⟩) (by simp);have bc:=hid (HS.below (hb2.mono (by have:=HB.size;omega)));have a0:=hid (HB.trans (hb2.mono HB.size));have hsz:=hb2.size
 simp at hz hsz
 clear hb2 HB HS
 cases aF:ae L with
 | false =>
  go_wp2_with fail;refine ez rfl ⟨?_,a0.o⟩;show Ending.returned (Value.int .i64 0)=_;unfold dH;rw[aF];rfl
 | true =>
  have hz2:(w2.alloc (.cells #[(0:Int)] 3)).cell? ⟨w.heap.size+1,0,none⟩=some (.slice a L.length cap):=(((Below.refl w2.heap.size w2).alloc (Nat.le_refl _) _).cell (p:=⟨w.heap.size+1,0,none⟩) (by show w.heap.size+1<_;omega)).trans hz;go_wp2_with fail;refine(wpIn_wide (n:=4)).1 ?_
  refine lx (n₀:=n₀) (by omega) rfl rfl (bc.below ((Below.refl n₀ w2).alloc (by omega) _)) (by simp;omega)
   (wL w2.heap.size L w) (fun _ _ _=>False) (mu (by simp;omega)) (fun _ _ _ _ _ h _ _=>h.elim) ?start ?round ?done ?stop
  case start=>exact⟨At.new _ rfl rfl,a0.alloc (by omega) _⟩
  case round =>
   intro l k hk W hl hI;have cl:=hI.1.lt;have ca:=hI.2.size;have HI:=hid hI;clear hI
   gi_wp2
   refine⟨(KeepsOthers.alloc _ _).from _,(Below.refl n₀ W).alloc (by omega) _,fun _ W2=>wL w2.heap.size L w k W2/\At W.heap.size 0 L[k].1 W2/\At W.heap.size 1 L[k].2 W2,?_,⟨⟨HI.1.alloc _,HI.2.alloc (by omega) _⟩,At.new _ rfl rfl,At.new _ rfl rfl⟩,?_⟩
   ·intro _ A A' row h hg hr;exact⟨mu (B:=(w2.alloc (.cells #[(0:Int)] 3)).heap.size) (by simp;omega) _ _ _ _ h.1 hg hr,h.2.1.own hg (fun r e=>(hr r e).2),h.2.2.own hg (fun r e=>(hr r e).2)⟩
   rintro W2⟨bd,⟨x0,f0⟩,⟨x1,f1⟩⟩;obtain⟨s0,fs⟩:=bd.1;have cL:=hid bd;have b1:=dz aF hk;have b2:=aL (eR aF k);have b3:=aL (eR aF (k+1));have HT:=hid (mt hk);rw[HT.o]at b3;clear bd f0 f1 HI
   gi_wp2
   refine⟨(KeepsOthers.setCell _ _ _).from _,(Below.refl n₀ W2).setCell (p:=⟨w2.heap.size,0,none⟩) (by show n₀<=w2.heap.size;omega) _,?_,cL.2.setCell (p:=⟨w2.heap.size,0,none⟩) (by show w.heap.size<=w2.heap.size;omega) _⟩;rw[HT.o];exact cL.1.set _
  case done =>
   intro D W hD hI hDf;obtain⟨s0,fs⟩:=hI.1;have HI:=hid hI;have HD:=hid hDf;have an:w.heap.size<=D:=by simp at hD;omega
   clear hI hDf hD;go_wp2_with fail;refine dK rfl HD.o ⟨?_,cj HI.2 (Nat.le_refl _) an⟩;show Ending.returned (Value.int .i64 (aC L))=_;unfold dH;rw[if_pos aF]
  case stop =>
   intro D c k W _ _ h;exact h.elim
end
section
set_option maxRecDepth 100000
open Go.RowKit Go.Shelf
attribute [local go_sem] Oper.semAt_some
theorem fA (a b:Int):aw [(a,b)]=one a b:=by
 unfold aw one;by_cases h:a<b
 ·rw[if_pos h,List.filter_cons_of_pos (by simpa using h)];rfl
 rw[if_neg h,List.filter_cons_of_neg (by simpa using h)];rfl
theorem oW {t at':Int}{L:List Sp}{k:Nat}(h:k<L.length):bL t at' (L.drop k)=if L[k].2<=at' then bL t at' (L.drop (k+1))else if t<=L[k].1 then one at' t else one at' L[k].1++bL t L[k].2 (L.drop (k+1)):=by
 rw[List.drop_eq_getElem_cons h];rfl
theorem wM (a b:Int):(one a b).length<=1:=by unfold one;split <;> simp
def ju (N M:Nat)(s:Sp)(w:World)(outs:List Sp)(v:Value)(t:Int)(W:World):Prop :=
 At N 0 s.1 W/\At N 1 s.2 W/\At M 0 v W/\At (M+1) 0 t W/\aG W (M+2) v outs/\Below N w W
def xG (N M:Nat)(s:Sp)(w:World)(L:List Sp)(k:Nat)(W:World):Prop :=
 ∃outs v t,ju N M s w outs v t W/\outs.length<=k/\bL s.2 s.1 L=outs++bL s.2 t (L.drop k)
def xH (N M:Nat)(s:Sp)(w:World)(L:List Sp)(c:Code)(k:Nat)(W:World):Prop :=
 ∃outs v t,ju N M s w outs v t W/\outs.length<=k/\bL s.2 s.1 L=outs++one t s.2/\c= .exit 0
theorem jw {N M:Nat}{s:Sp}{w:World}{outs:List Sp}{v:Value}{t:Int}{B:Nat}(hN:N<=w.heap.size)(hB:N<=B){A A':World}{row:Option Nat}(h:ju N M s w outs v t A)(hg:A.grownBy A' row)
  (hr:∀r,row=some r->B<=r/\∃o:Obj,A.heap[r]? =some o/\o.isCells=false):ju N M s w outs v t A':=by
 have hr2:=fun r e=>(hr r e).2;obtain⟨h1,h2,h3,h4,h5,h6⟩:=h;exact⟨h1.own hg hr2,h2.own hg hr2,h3.own hg hr2,h4.own hg hr2,h5.own hg hr2,dt h6 hg hr hN hB⟩
theorem sG {N M:Nat}{s:Sp}{w:World}{L:List Sp}{B:Nat}(hN:N<=w.heap.size)(hB:N<=B):OwnFrom B (xG N M s w L):=fun _ _ _ _ ⟨outs,v,t,h,r⟩ hg hr=>⟨outs,v,t,jw hN hB h hg hr,r⟩
theorem sH {N M:Nat}{s:Sp}{w:World}{L:List Sp}{B:Nat}(hN:N<=w.heap.size)(hB:N<=B)(c:Code):OwnFrom B (xH N M s w L c):=fun _ _ _ _ ⟨outs,v,t,h,r⟩ hg hr=>⟨outs,v,t,jw hN hB h hg hr,r⟩
theorem fQ {N M:Nat}{s:Sp}{w:World}{outs:List Sp}{v:Value}{t:Int}{W:World}(h:ju N M s w outs v t W)(hN:N<=W.heap.size)(o:Obj):ju N M s w outs v t (W.alloc o):=by
 obtain⟨h1,h2,h3,h4,h5,h6⟩:=h;exact⟨h1.alloc o,h2.alloc o,h3.alloc o,h4.alloc o,h5.alloc o,h6.alloc hN o⟩
theorem qV {N M:Nat}(hNM:N<M){s:Sp}{w:World}{outs outs':List Sp}{v v':Value}{t:Int}{W W':World}(h:ju N M s w outs v t W)(hg:W.grownBy W' v.ownBlock)(ho:aG W' (M+2) v' outs')(hN:N<=w.heap.size) :
  ju N M s w outs' v' t (W'.setCell M v'):=by
 obtain⟨h1,h2,h3,h4,h5,h6⟩:=h;have hne:∀k,k<M+2->v.ownBlock≠some k:=fun k hk e=>by have:=(h5.lt k e).1;omega
 have be:v'.ownBlock≠some M:=fun e=>by have:=(ho.lt M e).1;omega
 refine⟨(h1.grown hg (hne _ (by omega))).ob _ (by omega),(h2.grown hg (hne _ (by omega))).ob _ (by omega),(h3.grown hg (hne _ (by omega))).set _,(h4.grown hg (hne _ (by omega))).ob _ (by omega),ho.setCell _ _ _ be,?_⟩;refine(h6.trans (aM hg ?_ (fun k e=> ?_))).setCell (p:=⟨M,0,none⟩) (by show N<=M;omega) _
 ·have:=h6.size;omega
 have:=(h5.lt k e).1;omega
theorem uo {N M:Nat}(hNM:N<M){s:Sp}{w:World}{outs:List Sp}{v:Value}{t:Int}{W:World}(h:ju N M s w outs v t W)(u:Int):ju N M s w outs v u (W.setCell ⟨M+1,0,none⟩ u):=by
 obtain⟨h1,h2,h3,h4,h5,h6⟩:=h;have hne:v.ownBlock≠some (M+1):=fun e=>by have:=(h5.lt _ e).1;omega
 exact⟨h1.ob _ (by omega),h2.ob _ (by omega),h3.ob _ (by omega),h4.set _,h5.setCell _ _ _ hne,h6.setCell (p:=⟨M+1,0,none⟩) (by show N<=M+1;omega) _⟩
set_option maxHeartbeats 1000000 in
theorem mv (w:World) (n₀:Nat) (a:Option Addr) (cap:Nat) (L:List Sp) (s:Sp) (hc:SpAt w n₀ a L) (hn:n₀<=w.heap.size) :
  Calls Tryz.prog 213 #[.slice a L.length cap,.agg #[s.1,s.2]] w fun e w'=>∃v,e= .returned v/\aG w' w.heap.size v (bj L s)/\Below w.heap.size w w':=by
 obtain⟨s1,s2⟩:=s;have hb:=(((Below.refl w.heap.size w).alloc (Nat.le_refl _) (.cells #[s1,s2] 92)).alloc (by simp) (.cells #[.slice a L.length cap] 224)).alloc (by simp;omega) (.cells #[.slice a L.length cap] 224);have HB:=hid hb;have HS:=hid (hc.below (hb.mono hn));have hsm:=hc.small;clear hb hc;refine(callsIn_wide (n:=4)).1 ?_;refine callsIn_of_wp_marks Tryz.func213 rfl trivial ?_ rfl;simp only[Tryz.ntmps213,List.size_toArray,List.length_cons,List.length_nil,Nat.reduceAdd,Nat.reduceSub,Array.replicate_succ,Array.replicate_zero,List.push_toArray,List.append_toArray,List.nil_append,List.cons_append];refine wpIn_wide.2 ?_;go_wp2_with fail
 go_step3
 go_wp2_with fail;refine(ly _ _ _ _ _ rfl).mono ?_;rintro e w1⟨rfl,rfl⟩;go_wp2_with fail;refine(lF _ n₀ a cap L (s1,s2) HS.o (by have:=HB.size;omega)).mono ?_;rintro e w2⟨rfl,hb2⟩;have av:At w.heap.size 0 s1 w2:=((((At.new (W:=w) (vs:= #[s1,s2]) 92 rfl rfl).alloc _).alloc _).below hb2 (by simp;omega));have b0:At w.heap.size 1 s2 w2:=((((At.new (W:=w) (vs:= #[s1,s2]) 92 rfl rfl).alloc _).alloc _).below hb2 (by simp;omega));have hz:At (w.heap.size+1+1) 0 (.slice a L.length cap) w2:=((At.new (W:=(w.alloc (.cells #[s1,s2] 92)).alloc (.cells #[.slice a L.length cap] 224)) (vs:= #[.slice a L.length cap]) 224 (by simp) rfl).below hb2 (by simp));have bc:=hid (HS.below (hb2.mono (by have:=HB.size;omega)));have a0:=hid (HB.trans (hb2.mono HB.size));have hsz:=hb2.size
 simp at hsz
 clear hb2 HB HS
 cases htk:cV L (s1,s2)with
 | false =>
  go_wp2_with fail;rw[Exit.noGoto_ret];refine ez rfl ⟨_,rfl,?_,a0.o⟩;unfold bj;rw[htk];exact aG.nil _ _
 | true =>
  have q0:=(av.alloc (.cells #[.slice none 0 0] 41)).1;have q1:=((hz.alloc (.cells #[.slice none 0 0] 41)).alloc (.cells #[s1] 3)).1;go_wp2_with fail
  go_step3
  go_wp2_with fail;refine(wpIn_wide (n:=4)).1 ?_
  refine lx (n₀:=n₀) (by omega) rfl rfl (bc.below (((Below.refl n₀ w2).alloc (by omega) _).alloc (by simp;omega) _)) (by simp;omega)
   (xG w.heap.size w2.heap.size (s1,s2) w L) (xH w.heap.size w2.heap.size (s1,s2) w L) (sG (Nat.le_refl _) (by simp;omega)) (sH (Nat.le_refl _) (by simp;omega)) ?start ?round ?done ?stop
  case start =>
   refine⟨[],.slice none 0 0,s1,⟨(av.alloc _).alloc _,(b0.alloc _).alloc _,(At.new _ rfl rfl).alloc _,At.new _ (by simp) rfl,aG.nil _ _,(a0.alloc (by omega) _).alloc (by simp;omega) _⟩,Nat.zero_le _,rfl⟩
  case round =>
   rintro l k hk W hl⟨outs,v,t,hC,hlen,hgap⟩;have ca:w2.heap.size+1<W.heap.size:=hC.2.2.2.1.lt;have HV:=hid (hC.2.2.2.2.1.lt);have HI:=hid hC;have HG:=hid hgap;have HD:=hid (oW (t:=s2) (at':=t) hk);obtain⟨va,vc,rfl,-⟩:=hC.2.2.2.2.1.at (by omega);clear hC hgap q0 q1 hz av b0
   gi_wp2
   refine⟨(KeepsOthers.alloc _ _).from _,(Below.refl n₀ W).alloc (by omega) _,fun _ W2=>ju w.heap.size w2.heap.size (s1,s2) w outs (.slice va outs.length vc) t W2/\At W.heap.size 0 L[k].1 W2/\At W.heap.size 1 L[k].2 W2,?_,⟨fQ HI.o (by omega) _,At.new _ rfl rfl,At.new _ rfl rfl⟩,?_⟩
   ·intro _ A A' row h hg hr;exact⟨jw (B:=_) (Nat.le_refl _) (by first | omega | (simp;omega)) h.1 hg hr,h.2.1.own hg (fun r e=>(hr r e).2),h.2.2.own hg (fun r e=>(hr r e).2)⟩
   rintro W2⟨hC,⟨x0,f0⟩,⟨x1,f1⟩⟩;obtain⟨⟨d0,e0⟩,⟨d1,e1⟩,⟨d2,e2⟩,⟨d3,e3⟩,-⟩:=id hC;have HC:=hid hC;clear HI hC;by_cases c1:L[k].2<=t
   ·gi_wp2_with fail
    exact⟨KeepsFrom.refl _ _,Below.refl _ _,outs,_,t,HC.o,by omega,by rw[HG.o,HD.o,if_pos c1]⟩
   have cM:=hid (Int.not_le.1 c1);by_cases c2:s2<=L[k].1
   ·gi_wp2_with fail
    exact⟨KeepsFrom.refl _ _,outs,_,t,HC.o,hlen,by rw[HG.o,HD.o,if_neg (Int.not_le.2 cM.o),if_pos c2],rfl⟩
   have cb:=hid (Int.not_le.1 c2)
   gi_wp2_with fail
   have hW2:w2.heap.size+1<W2.heap.size:=HC.2.2.2.1.lt;have a7:=hid (fun o=>fQ HC.o (by omega) o);refine⟨trivial,(CallsIn.inRound l (callsIn_wide.2 (iS (W2.alloc (.cells #[t,L[k].1] 92)) (w2.heap.size+2) (W2.heap.size+1) (.slice va outs.length vc) outs _ _ [(t,L[k].1)] (a7.o _).2.2.2.2.1 (by omega) (by simp;omega) ⟨by simp,fun _=>⟨W2.heap.size,0,rfl,by omega,fun i hi=> ?_⟩⟩ (by simp) ?_))).mono ?_⟩
   ·obtain rfl:i=0:=by simpa using hi
    simp
   ·intro _ ad e
    cases e
    intro e;have:=(HC.2.2.2.2.1.lt _ e).2
    simp at this
   rintro e W3⟨v',rfl,ho,hg,-⟩;rw[fA]at ho;have hol:=wM t L[k].1;obtain⟨cn,cs,hv',-⟩:=ho.at (by rw[List.length_append];omega);have cS:=qV (by omega) (a7.o (.cells #[t,L[k].1] 92)) hg ho (Nat.le_refl _);have hne:∀b,b<w2.heap.size+2\/W.heap.size<=b->(Value.slice va outs.length vc).ownBlock≠some b:=fun b hb e=>by have:=HV.o _ e;omega
   obtain⟨y1,-⟩:=((show At W.heap.size 1 L[k].2 W2 from⟨x1,f1⟩).alloc (.cells #[t,L[k].1] 92)).grown hg (hne _ (by omega));obtain⟨z0,g0⟩:=(a7.o (.cells #[t,L[k].1] 92)).2.2.1.grown hg (hne _ (by omega));obtain⟨z1,g1⟩:=(a7.o (.cells #[t,L[k].1] 92)).2.2.2.1.grown hg (hne _ (by omega));have hk3:=((KeepsOthers.alloc W2 (.cells #[t,L[k].1] 92)).trans (cQ (a7.o _).2.2.2.2.1 hg));have hb3:Below n₀ W2 W3:=((Below.refl n₀ W2).alloc (by omega) _).trans (aM hg (by simp;omega) (fun b e=>by have:=HV.o _ e;omega));have cf:=hid hk3;have ab:=hid hb3;have cg:=hid (uo (by omega) cS L[k].2);have hlen':(outs++one t L[k].1).length<=k+1:=by rw[List.length_append];omega
   clear cS hk3 hb3 hg hne a7 HC HV d0 d1 d2 d3 e0 e1 e2 e3 x0 x1 f0 f1 ho;generalize (outs++one t L[k].1).length=nl at hv';subst hv'
   gi_wp2_with fail
   refine⟨(cf.trans ((KeepsOthers.setCell _ _ _).trans (KeepsOthers.setCell _ _ _))).from _,(ab.setCell (p:=⟨w2.heap.size,0,none⟩) (by show n₀<=w2.heap.size;omega) _).setCell (p:=⟨w2.heap.size+1,0,none⟩) (by show n₀<=w2.heap.size+1;omega) _,_,_,_,cg.o,hlen',?_⟩;rw[HG.o,HD.o,if_neg (Int.not_le.2 cM.o),if_neg (Int.not_le.2 cb.o),List.append_assoc]
  case done =>
   rintro D W hD⟨outs,v,t,hC,hlen,hgap⟩ hDf;rw[List.drop_length]at hgap;have an:w.heap.size<=D:=by simp at hD;omega
   obtain⟨va,vc,rfl,-⟩:=hC.2.2.2.2.1.at (by omega);obtain⟨⟨d0,e0⟩,⟨d1,e1⟩,⟨d2,e2⟩,⟨d3,e3⟩,-⟩:=id hC;have HC:=hid hC;have HG:=hid hgap;have bl:=hid hDf;have a7:=hid (fun o=>fQ hC (by have:=hC.1.lt;omega) o);have hW2:w2.heap.size+1<W.heap.size:=hC.2.2.2.1.lt;clear hC hgap hDf hD q0 q1 hz av b0;go_wp2_with fail;refine(iS (W.alloc (.cells #[t,s2] 92)) (w2.heap.size+2) (W.heap.size+1) (.slice va outs.length vc) outs _ _ [(t,s2)] (a7.o _).2.2.2.2.1 (by omega) (by simp;omega) ⟨by simp,fun _=>⟨W.heap.size,0,rfl,by omega,fun i hi=> ?_⟩⟩ (by simp) ?_).mono ?_
   ·obtain rfl:i=0:=by simpa using hi
    simp
   ·intro _ ad e
    cases e
    intro e;have:=(HC.2.2.2.2.1.lt _ e).2
    simp at this
   rintro e W3⟨v',rfl,ho,hg,-⟩;rw[fA]at ho;have ax:=((KeepsOthers.alloc W (.cells #[t,s2] 92)).trans (cQ (a7.o _).2.2.2.2.1 hg)).same D _ bl.o rfl;have hb3:Below w.heap.size w W3:=(a7.o _).2.2.2.2.2.trans (aM hg (by simp;omega) (fun b e=>by have:=(HC.2.2.2.2.1.lt _ e).1;omega));have bI:=hid ax;have ab:=hid hb3;have HO:=hid ho;clear ax hb3 ho hg d0 d1 d2 d3 e0 e1 e2 e3;go_wp2_with fail;rw[Exit.noGoto_ret];refine dK rfl bI.o ⟨_,rfl,?_,cj ab.o (Nat.le_refl _) an⟩;unfold bj;rw[if_pos htk,HG.o];exact(HO.own (grownBy_putObj' W3 D _) (fun r e=>by cases e;exact⟨_,bI.o,rfl⟩)).mono (by omega)
  case stop =>
   rintro D c k W hD hk⟨outs,v,t,hC,hlen,hgap,rfl⟩ hDf;have an:w.heap.size<=D:=by simp at hD;omega
   obtain⟨va,vc,rfl,-⟩:=hC.2.2.2.2.1.at (by omega);obtain⟨⟨d0,e0⟩,⟨d1,e1⟩,⟨d2,e2⟩,⟨d3,e3⟩,-⟩:=id hC;have HC:=hid hC;have HG:=hid hgap;have bl:=hid hDf;have a7:=hid (fun o=>fQ hC (by have:=hC.1.lt;omega) o);have hW2:w2.heap.size+1<W.heap.size:=hC.2.2.2.1.lt;clear hC hgap hDf hD q0 q1 hz av b0;refine wpIn_wide.2 ?_;go_wp2_with fail;refine(iS (W.alloc (.cells #[t,s2] 92)) (w2.heap.size+2) (W.heap.size+1) (.slice va outs.length vc) outs _ _ [(t,s2)] (a7.o _).2.2.2.2.1 (by omega) (by simp;omega) ⟨by simp,fun _=>⟨W.heap.size,0,rfl,by omega,fun i hi=> ?_⟩⟩ (by simp) ?_).mono ?_
   ·obtain rfl:i=0:=by simpa using hi
    simp
   ·intro _ ad e
    cases e
    intro e;have:=(HC.2.2.2.2.1.lt _ e).2
    simp at this
   rintro e W3⟨v',rfl,ho,hg,-⟩;rw[fA]at ho;have ax:=((KeepsOthers.alloc W (.cells #[t,s2] 92)).trans (cQ (a7.o _).2.2.2.2.1 hg)).same D _ bl.o rfl;have hb3:Below w.heap.size w W3:=(a7.o _).2.2.2.2.2.trans (aM hg (by simp;omega) (fun b e=>by have:=(HC.2.2.2.2.1.lt _ e).1;omega));have bI:=hid ax;have ab:=hid hb3;have HO:=hid ho;clear ax hb3 ho hg d0 d1 d2 d3 e0 e1 e2 e3;go_wp2_with fail;rw[Exit.noGoto_ret];refine dK rfl bI.o ⟨_,rfl,?_,cj ab.o (Nat.le_refl _) an⟩;unfold bj;rw[if_pos htk,HG.o];exact(HO.own (grownBy_putObj' W3 D _) (fun r e=>by cases e;exact⟨_,bI.o,rfl⟩)).mono (by omega)
end
section
open Go.RowKit Go.Shelf
theorem bi (s:Sc):ae s.gaps=true:=by
 unfold Sc.gaps;by_cases h:cV s.sk (s.una,s.next)=true
 ·exact(cE h).1
 unfold bj;rw[if_neg h];rfl
theorem mw {e:Int}{L:List Sp}(h:aH e L=true):L.Pairwise fun x y=>x.1<=y.1:=by
 induction L generalizing e with
 | nil=>exact List.Pairwise.nil
 | cons x l ih =>
  rw[aA]at h;refine List.Pairwise.cons (fun y hy=> ?_) (ih h.2);have:=cK h.2 (show af y.1 l from⟨y,hy,Int.le_refl _,(bO h.2 y hy).2.1⟩);omega
theorem qW (s:Sc)(i j:Nat)(h1:i<=j)(h2:j<s.gaps.length):(s.gaps[i]'(by omega)).1<=s.gaps[j].1:=by
 rcases Nat.lt_or_ge i j with h | h
 ·exact List.pairwise_iff_getElem.1 (mw (bi s)) i j (by omega) h2 h
 obtain rfl:i=j:=by omega
 exact Int.le_refl _
theorem jx (s:Sc):s.gaps.length<=1099511627776:=bR (bi s)
end
noncomputable def eO (P:Int->Prop):Nat->Int
 | 0=>0
 | n+1=>eO P n+ @ite _ (P (n:Int)) (Classical.propDecidable _) 1 0
theorem iA (P:Int->Prop)(n:Nat):0<=eO P n:=by
 induction n with
 | zero=>exact Int.le_refl _
 | succ n ih=>show 0<=eO P n+_;split <;> omega
theorem fR {P Q R:Int->Prop}{n:Nat}(h:∀i,P i↔Q i\/R i)(hd:∀i,Q i->¬R i):eO P n=eO Q n+eO R n:=by
 induction n with
 | zero=>rfl
 | succ n ih =>
  show eO P n+_=(eO Q n+_)+(eO R n+_);have h1:=h n;have h2:=hd n;by_cases hq:Q n
  ·rw[if_pos (h1.2 (.inl hq)),if_pos hq,if_neg (h2 hq)];omega
  by_cases hr:R n
  ·rw[if_pos (h1.2 (.inr hr)),if_neg hq,if_pos hr];omega
  rw[if_neg (fun hp=>(h1.1 hp).elim hq hr),if_neg hq,if_neg hr];omega
theorem sI {P Q:Int->Prop}{n:Nat}(h:∀i,P i->Q i):eO P n<=eO Q n:=by
 induction n with
 | zero=>exact Int.le_refl _
 | succ n ih =>
  show eO P n+_<=eO Q n+_;by_cases hp:P n
  ·rw[if_pos hp,if_pos (h _ hp)];omega
  rw[if_neg hp];split <;> omega
theorem sJ {P:Int->Prop}{n:Nat}(h:∀i,¬P i):eO P n=0:=by
 induction n with
 | zero=>rfl
 | succ n ih=>show eO P n+_=0;rw[if_neg (h _),ih];rfl
theorem jy {a b:Int}(ha:0<=a)(hab:a<=b):∀n:Nat,eO (fun i=>a<=i/\i<b) n=max 0 (min b n-a)
 | 0=>by show(0:Int)=_;omega
 | n+1=>by
  have ih:=jy ha hab n;show eO _ n+_=_;by_cases h:a<=(n:Int)/\(n:Int)<b
  ·rw[if_pos h,ih];omega
  ·rw[if_neg h,ih];omega
theorem ck {e:Int}{L:List Sp}(h:aH e L=true){n:Nat}(hn:∀i,af i L->i<n):aC L=eO (fun i=>af i L) n:=by
 induction L generalizing e with
 | nil=>exact(sJ fun i=>aY).symm
 | cons x l ih =>
  rw[aA]at h;have hl:=ih h.2 (fun i hi=>hn i (mem_cons.2 (.inr hi)));have hx:=hn (x.2-1) (mem_cons.2 (.inl (by omega)));rw[fR (Q:=fun i=>x.1<=i/\i<x.2) (R:=fun i=>af i l) (fun i=>mem_cons) (fun i hi hm=>by have:=cK h.2 hm;omega),jy (by omega) (by omega),<-hl];show x.2-x.1+aC l=_;omega
theorem dX {s:Sc}(h:s.Ok){i:Int}:af i s.gaps↔(s.una<=i/\i<s.next)/\¬af i s.sk:=by
 have h0:=h.u0;have h1:=h.un;have h2:=h.n40;unfold Sc.gaps;by_cases hlt:s.una<s.next
 ·exact(cE (bY.2 ⟨h.csk,h0,hlt,h2⟩)).2 i
 unfold bj;rw[if_neg (by rw[bY];rintro⟨_,_,h3,_⟩;exact hlt h3)]
 constructor
 ·intro hm;exact(aY hm).elim
 omega
theorem lG {e:Int}{L:List Sp}(h:aH e L=true){g:Sp}(hg:g∈L):g.1<g.2:=(bO h g hg).2.1
theorem dY (s:Sc)(m:Int){g:Sp}(hg:g.1<=g.2):(s.lostOf m g).1=g.1/\g.1<=(s.lostOf m g).2/\(s.lostOf m g).2<=g.2:=by
 unfold Sc.lostOf;split
 ·exact⟨rfl,by dsimp only;omega,by dsimp only;omega⟩
 exact⟨rfl,hg,Int.le_refl _⟩
def Sc.all (s:Sc)(m:Int):List Sp:=aw (s.gaps.map (s.lostOf m))
theorem jz (x:Sp)(l:List Sp):aw (x::l)=if x.1<x.2 then x::aw l else aw l:=by
 unfold aw;by_cases h:x.1<x.2
 ·rw[if_pos h,List.filter_cons_of_pos (by simpa using h)]
 rw[if_neg h,List.filter_cons_of_neg (by simpa using h)]
theorem lz {f:Sp->Sp}{e:Int}{L:List Sp}(h:aH e L=true)(hf:∀g∈L,(f g).1=g.1/\g.1<=(f g).2/\(f g).2<=g.2) :
  aH e (aw (L.map f))=true/\(∀i,af i (aw (L.map f))↔∃g∈L,g.1<=i/\i<(f g).2):=by
 induction L generalizing e with
 | nil=>exact⟨rfl,fun i=>⟨fun h=>(aY h).elim,fun⟨_,hg,_⟩=>by cases hg⟩⟩
 | cons x l ih =>
  rw[aA]at h;obtain⟨f1,f2,f3⟩:=hf x List.mem_cons_self;obtain⟨c1,c2⟩:=ih h.2 (fun g hg=>hf g (List.mem_cons_of_mem _ hg));rw[List.map_cons,jz]
  have hm:∀i,(∃g∈x::l,g.1<=i/\i<(f g).2)↔(x.1<=i/\i<(f x).2)\/∃g∈l,g.1<=i/\i<(f g).2:=fun i=>by
   constructor
   ·rintro⟨g,hg,k⟩
    rcases List.mem_cons.1 hg with rfl | hg
    ·exact .inl k
    exact .inr ⟨g,hg,k⟩
   rintro (k | ⟨g,hg,k⟩)
   ·exact⟨x,List.mem_cons_self,k⟩
   exact⟨g,List.mem_cons_of_mem _ hg,k⟩
  split
  ·rename_i hlt;refine⟨aA.2 ⟨by omega,dV c1 f3⟩,fun i=> ?_⟩;rw[mem_cons,c2,hm,f1]
  rename_i hlt;refine⟨dV c1 (by omega),fun i=> ?_⟩;rw[c2,hm]
  constructor
  ·exact .inr
  rintro (k | k)
  ·omega
  exact k
theorem iT (s:Sc)(m:Int):ae (s.all m)=true/\∀i,af i (s.all m)↔∃g∈s.gaps,g.1<=i/\i<(s.lostOf m g).2 :=
 lz (bi s) (fun _ hg=>dY s m (Int.le_of_lt (lG (bi s) hg)))
theorem cz {s:Sc}{m i:Int}(h:af i (s.all m)):af i s.gaps:=by
 obtain⟨g,hg,h1,h2⟩:=((iT s m).2 i).1 h;have:=dY s m (Int.le_of_lt (lG (bi s) hg));exact⟨g,hg,h1,by omega⟩
theorem pb {s:Sc}{m:Int}(hm:1<=m):s.lost m=dI (s.all m) s.ag:=by unfold Sc.lost;rw[if_neg (by omega)];rfl
theorem bq {s:Sc}(h:s.Ok){m:Int}(hm:1<=m):ae (s.lost m)=true/\∀i,af i (s.lost m)↔af i (s.all m)/\¬af i s.ag:=by
 rw[pb hm];exact ew (iT s m).1 h.cag
theorem up (s:Sc)(m:Int){e:Int}{L:List Sp}(h:aH e L=true):iP s m L=aC L-aC (aw (L.map (s.lostOf m))):=by
 induction L generalizing e with
 | nil=>rfl
 | cons x l ih =>
  have h0:=aA.1 h;obtain⟨f1,f2,f3⟩:=dY s m (g:=x) (by omega);rw[List.map_cons,jz];show x.2-x.1-((s.lostOf m x).2-(s.lostOf m x).1)+iP s m l=x.2-x.1+aC l-_;rw[ih h0.2];split
  ·show _=x.2-x.1+aC l-((s.lostOf m x).2-(s.lostOf m x).1+aC (aw (l.map (s.lostOf m))));omega
  omega
theorem iU (s:Sc){m:Int}(hm:1<=m):s.pipe m=aC s.ag+(aC s.gaps-aC (s.all m)):=by
 unfold Sc.pipe;rw[if_neg (by omega),up s m (bi s)];rfl
theorem Sc.Ok.nat {s:Sc}(h:s.Ok):((s.next.toNat:Nat):Int)=s.next:=by have:=h.u0;have:=h.un;omega
theorem oX {s:Sc}(h:s.Ok)(m:Int)(hm:1<=m):aC s.sk=eO (fun i=>af i s.sk) s.next.toNat/\aC s.ag=eO (fun i=>af i s.ag) s.next.toNat/\aC s.gaps=eO (fun i=>af i s.gaps) s.next.toNat /\
  aC (s.all m)=eO (fun i=>af i (s.all m)) s.next.toNat/\aC (s.lost m)=eO (fun i=>af i (s.lost m)) s.next.toNat/\s.next-s.una=aC s.sk+aC s.gaps:=by
 have hn:=h.nat;have h0:=h.u0;have h1:=h.un;have a1:=ck h.csk (n:=s.next.toNat) (fun i hi=>by rw[hn];exact(h.msk i hi).2);have a2:=ck h.cag (n:=s.next.toNat) (fun i hi=>by rw[hn];exact(h.mag i hi).2.1);have a3:=ck (bi s) (n:=s.next.toNat) (fun i hi=>by rw[hn];exact((dX h).1 hi).1.2);have a4:=ck (iT s m).1 (n:=s.next.toNat) (fun i hi=>by rw[hn];exact((dX h).1 (cz hi)).1.2);have a5:=ck (bq h hm).1 (n:=s.next.toNat) (fun i hi=>by rw[hn];exact((dX h).1 (cz (((bq h hm).2 i).1 hi).1)).1.2);refine⟨a1,a2,a3,a4,a5,?_⟩;have cT:=jy h0 h1 s.next.toNat;rw[fR (Q:=fun i=>af i s.sk) (R:=fun i=>af i s.gaps) (fun i=> ?_) (fun i hi hg=>((dX h).1 hg).2 hi),<-a1,<-a3]at cT
 ·omega
 rw[dX h]
 constructor
 ·intro hi;by_cases hs:af i s.sk
  ·exact .inl hs
  exact .inr ⟨hi,hs⟩
 rintro (hi | hi)
 ·exact h.msk i hi
 exact hi.1
theorem lH {s:Sc}(h:s.Ok){m:Int}(hm:1<=m):0<=s.next-s.una-aC s.sk-aC (s.lost m)/\s.next-s.una-aC s.sk-aC (s.lost m)<=s.pipe m/\s.pipe m<=2*(s.next-s.una-aC s.sk-aC (s.lost m)):=by
 obtain⟨a1,a2,a3,a4,a5,a6⟩:=oX h m hm;rw[iU s hm];have hl:=(bq h hm).2
 have b1:eO (fun i=>af i (s.all m)) s.next.toNat=eO (fun i=>af i (s.lost m)) s.next.toNat+eO (fun i=>af i (s.all m)/\af i s.ag) s.next.toNat:=fR (fun i=>by
  rw[hl];by_cases hg:af i s.ag
  ·exact⟨fun k=>.inr ⟨k,hg⟩,fun k=>by rcases k with k | k;exact(k.2 hg).elim;exact k.1⟩
  exact⟨fun k=>.inl ⟨k,hg⟩,fun k=>by rcases k with k | k;exact k.1;exact k.1⟩) (fun i k k2=>((hl i).1 k).2 k2.2)
 have b2:eO (fun i=>af i s.ag) s.next.toNat=eO (fun i=>af i s.ag/\¬af i (s.all m)) s.next.toNat+eO (fun i=>af i (s.all m)/\af i s.ag) s.next.toNat:=fR (fun i=>by
  by_cases hg:af i (s.all m)
  ·exact⟨fun k=>.inr ⟨hg,k⟩,fun k=>by rcases k with k | k;exact k.1;exact k.2⟩
  exact⟨fun k=>.inl ⟨k,hg⟩,fun k=>by rcases k with k | k;exact k.1;exact k.2⟩) (fun i k k2=>k.2 k2.1)
 have b3:eO (fun i=>af i s.gaps) s.next.toNat=eO (fun i=>af i s.gaps/\¬af i (s.all m)) s.next.toNat+eO (fun i=>af i (s.all m)) s.next.toNat:=fR (fun i=>by
  by_cases hg:af i (s.all m)
  ·exact⟨fun _=>.inr hg,fun _=>cz hg⟩
  exact⟨fun k=>.inl ⟨k,hg⟩,fun k=>by rcases k with k | k;exact k.1;exact(hg k).elim⟩) (fun i k k2=>k.2 k2)
 have b4:=sI (n:=s.next.toNat) (P:=fun i=>af i s.ag/\¬af i (s.all m)) (Q:=fun i=>af i s.gaps/\¬af i (s.all m)) (fun i k=>⟨(dX h).2 ⟨by have:=h.mag i k.1;exact⟨this.1,this.2.1⟩,(h.mag i k.1).2.2⟩,k.2⟩);have b5:=iA (fun i=>af i s.ag/\¬af i (s.all m)) s.next.toNat;have b6:=iA (fun i=>af i (s.all m)/\af i s.ag) s.next.toNat;omega
theorem eA {s:Sc}(h:s.Ok){m:Int}(hm:1<=m){x:Sp}(hx:x∈s.lost m):gb x/\s.una<=x.1/\x.2<=s.next/\bj s.sk x=[x]:=by
 obtain⟨c,hl⟩:=bq h hm;have hok:=bO c x hx;have hin:∀i,x.1<=i->i<x.2->(s.una<=i/\i<s.next)/\¬af i s.sk:=fun i h1 h2=>(dX h).1 (cz ((hl i).1 ⟨x,hx,h1,h2⟩).1);have hx2:=hok.2.1;have f1:=hin x.1 (Int.le_refl _) hx2;have f2:=hin (x.2-1) (by omega) (by omega);refine⟨hok,f1.1.1,by omega,?_⟩;obtain⟨g1,g2⟩:=cE (bY.2 ⟨h.csk,hok⟩);refine gh g1 (gu.2 hok) (fun i=> ?_);rw[g2,mem_cons]
 constructor
 ·exact fun k=>.inl k.1
 rintro (k | k)
 ·exact⟨k,(hin i k.1 k.2).2⟩
 exact(aY k).elim
theorem wy {s:Sc}(h:s.Ok){x:Sp}(hx:x∈s.sk):s.una<=x.1/\x.2<=s.next:=by
 have hok:=bO h.csk x hx;have f1:=h.msk x.1 ⟨x,hx,Int.le_refl _,hok.2.1⟩;have f2:=h.msk (x.2-1) ⟨x,hx,by have:=hok.2.1;omega,by omega⟩;omega
theorem mA {s t:Sc}(h1:t.sk=s.sk)(h2:t.mark=s.mark):t.lostOf=s.lostOf:=by funext m g;unfold Sc.lostOf;rw[h1,h2]
theorem lI {s t:Sc}(h1:t.sk=s.sk)(h2:t.mark=s.mark)(h3:t.una=s.una)(h4:t.next=s.next)(m:Int):t.all m=s.all m:=by
 unfold Sc.all Sc.gaps;rw[mA h1 h2,h1,h3,h4]
theorem mx {s:Sc}(h:s.Ok){m:Int}(hm:1<=m){x0:Sp}(hx0:x0∈s.lost m){x:Sp}(h1:x.1=x0.1)(h2:x.1<x.2)(h3:x.2<=x0.2) :
  s.inB x=true/\aC ((s.retS x).lost m)=aC (s.lost m)-(x.2-x.1)/\(s.retS x).pipe m=s.pipe m+(x.2-x.1):=by
 obtain⟨c,hl⟩:=bq h hm;obtain⟨hok,p1,p2,-⟩:=eA h hm hx0;have hu:=h.u0;have hin:s.inB x=true:=Sc.inB_iff.2 ⟨by omega,h2,by omega⟩;have bn:∀i,x.1<=i->i<x.2->af i (s.lost m):=fun i h1' h2'=>⟨x0,hx0,by omega,by omega⟩;obtain⟨-,-,hag⟩:=h.ret_spec hin;have ac:=h.retS hin;have hall:(s.retS x).all m=s.all m:=lI rfl rfl rfl rfl m;obtain⟨a1,a2,a3,a4,a5,a6⟩:=oX h m hm;obtain⟨d1,d2,d3,d4,d5,d6⟩:=oX ac m hm;rw[show(s.retS x).next=s.next from rfl]at d1 d2 d3 d4 d5;have hn:=h.nat;have cT:=jy (a:=x.1) (b:=x.2) (by omega) (by omega) s.next.toNat
 have ak:∀i,af i (s.retS x).ag↔af i s.ag\/(x.1<=i/\i<x.2):=fun i=>by
  rw[hag]
  constructor
  ·rintro (k | k)
   ·exact .inl k
   exact .inr k.2.1
  rintro (k | k)
  ·exact .inl k
  exact .inr ⟨by omega,k,((dX h).1 (cz ((hl i).1 (bn i k.1 k.2)).1)).2⟩
 have e1:eO (fun i=>af i (s.lost m)) s.next.toNat=eO (fun i=>af i ((s.retS x).lost m)) s.next.toNat+eO (fun i=>x.1<=i/\i<x.2) s.next.toNat:=fR (fun i=>by
  rw[(bq ac hm).2 i,hall,ak,hl]
  constructor
  ·intro k;by_cases hx:x.1<=i/\i<x.2
   ·exact .inr hx
   exact .inl ⟨k.1,fun k2=>k2.elim k.2 hx⟩
  rintro (k | k)
  ·exact⟨k.1,fun k2=>k.2 (.inl k2)⟩
  exact(hl i).1 (bn i k.1 k.2)) (fun i k k2=>by
  have:=(((bq ac hm).2 i).1 k).2;rw[ak]at this;exact this (.inr k2))
 have e2:eO (fun i=>af i (s.retS x).ag) s.next.toNat=eO (fun i=>af i s.ag) s.next.toNat+eO (fun i=>x.1<=i/\i<x.2) s.next.toNat:=fR ak (fun i k k2=>((hl i).1 (bn i k2.1 k2.2)).2 k);refine⟨hin,by omega,?_⟩;rw[iU _ hm,iU _ hm,hall,show(s.retS x).gaps=s.gaps from rfl];omega
section
open Go.RowKit Go.Shelf
def ay (lb:Nat)(L:List Sp)(a:Option Addr)(cap:Nat)(W:World):Prop:=SpAt W W.heap.size a L/\L.length<=cap/\(0<L.length->∀ad,a=some ad->lb<=ad.block)/\(∀ad,a=some ad->ad=⟨ad.block,ad.off,none⟩)/\(0<L.length->∀ad,a=some ad->cu W ad.block 92)
theorem ay.below {lb:Nat}{L:List Sp}{a:Option Addr}{cap:Nat}{W W':World}(h:ay lb L a cap W)(hb:Below W.heap.size W W'):ay lb L a cap W':=⟨(h.1.below hb).mono hb.size,h.2.1,h.2.2.1,h.2.2.2.1,fun hl ad e=>(h.2.2.2.2 hl ad e).of (hb.block _ (h.2.2.2.2 hl ad e).lt)⟩
theorem ay.other {lb C:Nat}{L:List Sp}{a:Option Addr}{cap:Nat}{W W':World}(h:ay lb L a cap W)(hc:Chg C W W')(hC:C<lb):ay lb L a cap W':=by
 refine⟨⟨h.1.small,fun hl=> ?_⟩,h.2.1,h.2.2.1,h.2.2.2.1,fun hl ad e=>(h.2.2.2.2 hl ad e).of (hc.block _ (h.2.2.2.2 hl ad e).lt (by have:=h.2.2.1 hl ad e;omega))⟩;obtain⟨b,o,ha,hb,hcs⟩:=h.1.cells hl;have hne:b≠C:=by have:=h.2.2.1 hl _ ha;dsimp only at this;omega
 have hk:=hc.block b hb hne;exact⟨b,o,ha,Nat.lt_of_lt_of_le hb hc.size,fun i hi=>⟨(World.cell?_of_block (a:=⟨b,_,none⟩) hk).trans (hcs i hi).1,(World.cell?_of_block (a:=⟨b,_,none⟩) hk).trans (hcs i hi).2⟩⟩
theorem ay.own {lb base:Nat}{L:List Sp}{a:Option Addr}{n cap:Nat}{W:World}(h:aG W base (.slice a n cap) L)(hs:L.length<=1099511627776)(hb:lb<=base):ay lb L a cap W/\n=L.length:=by
 have hty:=h.ty;obtain⟨a',c',hv,hsp,hc,hap⟩:=h.at hs
 cases hv
 exact⟨⟨hsp,hc,fun _ ad e=>Nat.le_trans hb (hap ad e).1,fun ad e=>(hap ad e).2.2,fun _=>hty⟩,rfl⟩
theorem ay.nil (lb:Nat)(W:World):ay lb [] none 0 W:=⟨⟨by simp,fun h=>absurd h (by simp)⟩,by simp,fun h=>absurd h (by simp),(fun ad e=>by cases e),fun h=>absurd h (by simp)⟩
theorem ay.set {lb B i:Nat}{L:List Sp}{a:Option Addr}{cap:Nat}{W:World}(h:ay lb L a cap W)(hB:B<lb)(v:Value):ay lb L a cap (W.setCell ⟨B,i,none⟩ v):=h.other ((Chg.refl B W).setCell i v) hB
theorem ay.mono {lb lb':Nat}{L:List Sp}{a:Option Addr}{cap:Nat}{W:World}(h:ay lb' L a cap W)(hb:lb<=lb'):ay lb L a cap W:=⟨h.1,h.2.1,fun hl ad e=>Nat.le_trans hb (h.2.2.1 hl ad e),h.2.2.2⟩
def vw (B:Nat)(a:Option Addr)(L:List Sp)(W:World):Prop:=SpAt W W.heap.size a L/\(0<L.length->∀ad,a=some ad->ad.block≠B)
theorem vw.chg {B:Nat}{a:Option Addr}{L:List Sp}{W W':World}(h:vw B a L W)(hc:Chg B W W'):vw B a L W':=by
 refine⟨⟨h.1.small,fun hl=> ?_⟩,h.2⟩;obtain⟨b,o,ha,hb,hcs⟩:=h.1.cells hl;have hk:=hc.block b hb (by have:=h.2 hl _ ha;exact this);exact⟨b,o,ha,Nat.lt_of_lt_of_le hb hc.size,fun i hi=>⟨(World.cell?_of_block (a:=⟨b,_,none⟩) hk).trans (hcs i hi).1,(World.cell?_of_block (a:=⟨b,_,none⟩) hk).trans (hcs i hi).2⟩⟩
theorem bg {B C i:Nat}{v:Value}{w w':World}(h:w.cell? ⟨B,i,none⟩=some v)(hc:Chg C w w')(hne:B≠C):w'.cell? ⟨B,i,none⟩=some v :=
 (World.cell?_of_block (a:=⟨B,i,none⟩) (hc.block B (block_lt_of_cell h) hne)).trans h
theorem mB {B C i:Nat}{v:Value}{w w':World}(h:At B i v w)(hc:Chg C w w')(hne:B≠C):At B i v w':=by
 have hb:=hc.block B h.lt hne;exact⟨(World.cell?_of_block (a:=⟨B,i,none⟩) hb).trans h.1,(World.frozen?_of_block (a:=⟨B,i,none⟩) hb).trans h.2⟩
end
section
open Go.RowKit Go.Shelf
structure WI (N X:Nat)(x1 x2:Int)(w:World)(v:Value)(out:List Sp)(W:World):Prop where
 own:aG W N v out
 x0:At X 0 x1 W
 x1:At X 1 x2 W
 ne:v.ownBlock≠some X
 below:Below N w W
theorem WI.new {N:Nat}{w W:World}{v:Value}{out:List Sp}(h:aG W N v out)(hb:Below N w W)(hN:N<=W.heap.size)(x1 x2:Int):WI N W.heap.size x1 x2 w v out (W.alloc (.cells #[x1,x2] 92)) :=
 ⟨h.alloc _,At.new _ rfl rfl,At.new _ rfl rfl,fun e=>by have:=(h.lt _ e).2;omega,hb.alloc hN _⟩
theorem WI.cells {N X:Nat}{x1 x2:Int}{w:World}{v:Value}{out:List Sp}{W:World}(h:WI N X x1 x2 w v out W):W.cell? X=some (x1:Y)/\W.cell? ⟨X,1,none⟩=some (x2:Y):=⟨h.x0.1,h.x1.1⟩
theorem WI.drewN {N X:Nat}{x1 x2:Int}{w:World}{v:Value}{out:List Sp}{W:World}(h:WI N X x1 x2 w v out W)(n:Nat):WI N X x1 x2 w v out (W.drewN n) :=
 ⟨h.own,h.x0,h.x1,h.ne,⟨h.below.os,h.below.tape,h.below.output,h.below.size,h.below.block⟩⟩
theorem WI.alloc {N X:Nat}{x1 x2:Int}{w:World}{v:Value}{out:List Sp}{W:World}(h:WI N X x1 x2 w v out W)(hN:N<=W.heap.size)(o:Obj):WI N X x1 x2 w v out (W.alloc o) :=
 ⟨h.own.alloc _,h.x0.alloc _,h.x1.alloc _,h.ne,h.below.alloc hN _⟩
theorem WI.app {N X:Nat}{x1 x2:Int}{w:World}{v v':Value}{out out':List Sp}{W W':World}(h:WI N X x1 x2 w v out W)(hN:N<=w.heap.size)(ho:aG W' N v' out')(hg:W.grownBy W' v.ownBlock)(hb:v'.ownBlock=v.ownBlock\/∃k,v'.ownBlock=some k/\W.heap.size<=k):WI N X x1 x2 w v' out' W':=by
 refine⟨ho,h.x0.grown hg h.ne,h.x1.grown hg h.ne,?_,h.below.trans (aM hg (Nat.le_trans hN h.below.size) (fun k e=>(h.own.lt k e).1))⟩
 rcases hb with e | ⟨k,e,hk⟩
 ·rw[e];exact h.ne
 rw[e];intro e2;cases e2;have:=h.x0.lt;omega
theorem WI.set0 {N X:Nat}{x1 x2:Int}{w:World}{v:Value}{out:List Sp}{W:World}(h:WI N X x1 x2 w v out W)(u:Int)(hN:N<=X:=by omega):WI N X u x2 w v out (W.setCell X u) :=
 ⟨h.own.setCell _ _ _ h.ne,h.x0.set _,h.x1.other _ _ (by intro e;cases e),h.ne,h.below.setCell (p:=⟨X,0,none⟩) hN _⟩
theorem WI.set1 {N X:Nat}{x1 x2:Int}{w:World}{v:Value}{out:List Sp}{W:World}(h:WI N X x1 x2 w v out W)(u:Int)(hN:N<=X:=by omega):WI N X x1 u w v out (W.setCell ⟨X,1,none⟩ u) :=
 ⟨h.own.setCell _ _ _ h.ne,h.x0.other _ _ (by intro e;cases e),h.x1.set _,h.ne,h.below.setCell (p:=⟨X,1,none⟩) hN _⟩
theorem mC {e:Int}{L:List Sp}(h:aH e L=true)(k:Nat):aH e (L.take k)=true:=by
 induction L generalizing e k with
 | nil=>rw[List.take_nil];rfl
 | cons x l ih =>
  cases k with
  | zero=>rfl
  | succ k=>rw[aA]at h;rw[List.take_succ_cons,aA];exact⟨h.1,ih h.2 k⟩
theorem oY {W W':World}{r:Option Nat}{B i:Nat}{v:Value}(hg:W.grownBy W' r)(hc:W.cell? ⟨B,i,none⟩=some v)(hr:r≠some B):W'.cell? ⟨B,i,none⟩=some v :=
 (World.cell?_of_block (a:=⟨B,i,none⟩) (hg.block B (block_lt_of_cell hc) (fun e=>hr e.symm))).trans hc
end
end Go.Proofs.YtclkcmidhhfdmaaGreatDoor
