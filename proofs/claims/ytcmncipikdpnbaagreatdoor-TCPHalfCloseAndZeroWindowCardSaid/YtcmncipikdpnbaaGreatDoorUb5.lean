import Derived.Test.YtcmncipikdpnbaaGreatDoorUk
import Derived.Test.YtcmncipikdpnbaaGreatDoorUc
import Derived.Test.YtcmncipikdpnbaaGreatDoorUb1
import Derived.Test.YtcmncipikdpnbaaGreatDoorUb4
import Derived.Test.YtcmncipikdpnbaaGreatDoorChecked
import Derived.RangeFuncNested
import Derived.RangeFuncBound
import Derived.RangeFuncCalls
import Derived.RangeFuncLeaves
import Derived.Shelf.Abstract
import Derived.Shelf.RegionOpen
import Derived.OwnWalkIn
import Derived.TacticsInMore
import Derived.LoopNIn
import Derived.LoopIn
import Derived.Laws.AppendOwn
import Derived.Laws.Append
import Derived.WalkMore
namespace Go.Proofs.YtcmncipikdpnbaaGreatDoor
section
open Go.RowKit Go.Shelf
def Bf (B l:Nat)(r:Loop)(R:Ending->World->Prop)(W:World):Exit->Act->World->Prop
 | .normal,_,W'=>KeepsFrom B W W'/\R (.returned true) (W'.putObj l (.loop r))
 | .ret,_,W'=>KeepsFrom B W W'/\R (.returned false) (W'.putObj l (.loop { r with state:=.done,pending:=some .ret }))
 | .exit i,_,W'=>KeepsFrom B W W'/\R (.returned false) (W'.putObj l (.loop { r with state:=.done,pending:=some (.exit i) }))
 | .goto t,_,W'=>KeepsFrom B W W'/\R (.returned false) (W'.putObj l (.loop { r with state:=.done,pending:=some (.goto t) }))
 | .panic _,_,_=>False
 | .outgrown,_,_=>False
theorem ge {P:Program}{n B l:Nat}{r:Loop}(d:r.state= .ready)(j:r.pending=none){args:Array Value}(hs:args.size=r.params.size){W:World}(hl:W.heap[l]? =some (.loop r))(f:B<=l)
  {R:Ending->World->Prop}
  (h:r.assign.wpIn (Fence.wide.inRound l) n P (Exit.then (fun q W'=>KeepsFrom B W W'/\r.body.wpIn (Fence.wide.inRound l) n P (Bf B l r R (W'.putObj l (.loop { r with state:=.busy }))) q (W'.putObj l (.loop { r with state:=.busy }))) (fun _ _ _=>False))
   { tmps:=(r.params.zip args).foldl (fun t (p,v)=>t.setIfInBounds p v) r.tmps,defers:=[] } W) :
  YieldAt Fence.wide n P l args W R:=by
 refine⟨r.fn,_,r.assign,r.body,run_yield hl hs,roundIn_of_wpIn trivial (N5 h ?_)⟩;intro e q W' he
 cases e with
 | normal =>
  obtain⟨s,u⟩:=he;have g:=s.same l _ f hl Z;have k:=(L6.1 g).1;refine⟨_,run_beginRound g d,N5 u ?_⟩;have a:(W'.putObj l (.loop { r with state:=.busy })).heap[l]? =some (.loop { r with state:=.busy }):=World.putObj_heap_same k;intro w y z b
  cases w with
  | normal =>
   obtain⟨m,o⟩:=b;refine⟨_,_,run_endRound none (m.same l _ f a Z),?_⟩;have x:({ { r with state:=.busy }with state:=if(none:Option Code).isNone=true then .ready else .done,pending:=none }:Loop)=r:=by cases r;cases d;cases j;rfl
   rw[x];exact o
  | ret=>exact⟨_,_,run_endRound (some .ret) (b.1.same l _ f a Z),b.2⟩
  | exit i=>exact⟨_,_,run_endRound (some (.exit i)) (b.1.same l _ f a Z),b.2⟩
  | goto t=>exact⟨_,_,run_endRound (some (.goto t)) (b.1.same l _ f a Z),b.2⟩
  | panic c=>exact b.elim
  | outgrown=>exact b.elim
 | ret=>exact he.elim
 | exit i=>exact he.elim
 | goto t=>exact he.elim
 | panic c=>exact he.elim
 | outgrown=>exact he.elim
structure oB (w:World)(n₀:Nat)(a:Option Addr)(L:List Sp):Prop where
 small:L.length<=1099511627776
 cells:0<L.length->∃b off,a=some ⟨b,off,none⟩/\b<n₀/\∀i (h:i<L.length),w.cell? ⟨b,off+i*2,none⟩=some (L[i].1:Y)/\w.cell? ⟨b,off+i*2+1,none⟩=some (L[i].2:Y)
theorem oB.below {w w':World}{n₀:Nat}{a:Option Addr}{L:List Sp}(h:oB w n₀ a L)(d:Below n₀ w w'):oB w' n₀ a L :=
 ⟨h.small,fun f=>by
  obtain⟨b,off,g,c,e⟩:=h.cells f;exact⟨b,off,g,c,fun i hi=>⟨(d.cell (p:=⟨b,_,none⟩) c).trans (e i hi).1,(d.cell (p:=⟨b,_,none⟩) c).trans (e i hi).2⟩⟩⟩
theorem oB.mono {w:World}{n₀ d:Nat}{a:Option Addr}{L:List Sp}(h:oB w n₀ a L)(e:n₀<=d):oB w d a L :=
 ⟨h.small,fun f=>by
  obtain⟨b,off,g,c,i⟩:=h.cells f;exact⟨b,off,g,Lb c e,i⟩⟩
end
section
set_option maxRecDepth 100000
open Go.RowKit Go.Shelf
attribute [local go_sem] Oper.semAt_some
set_option maxHeartbeats 2000000 in
theorem AN (n:Nat) (K:1<=n) (l n₀:Nat) (a:Option Addr) (cap:Nat) (L:List Sp) (J u:Nat->World->Prop)
  (w:∀k A o,J k A->J k (World.alloc A o))
  (x:∀k (h:k<L.length) W1,J k W1->YieldAt Fence.wide (n-1) Tryz.prog l #[.int .i64 k,.agg #[L[k].1,L[k].2]] W1 fun e W'=>(e= .returned true/\J (k+1) W'/\Below n₀ W1 W')\/(e= .returned false/\u k W'))
  (W:World) (q:oB W n₀ a L) (hW:n₀<=W.heap.size) (h0:J 0 W) :
  CallsIn Fence.wide n Tryz.prog 156 #[.slice a L.length cap,.func (.yield l) #[] #[]] W fun e W'=>(∃v,e= .returned v)/\(J L.length W'\/∃k,k<L.length/\u k W'):=by
 refine NU Tryz.func156 Z trivial ?_ Z;simp only[Tryz.ntmps156,LG,Lx,M1,Nat.reduceAdd,Nat.reduceSub,M8,M7,Mk,Mf,LD,LQ];have E:=q.small;have F:=H x;have G:=H w;clear x w
 gi_wp2
 gi_loopw [8] (fun p wr=>∃k:Nat,k<=L.length/\p= .int .i64 k/\oB wr n₀ a L/\n₀<=wr.heap.size/\J k wr) (fun p _=>L.length-(intOf p).toNat)
 case atStart=>exact⟨0,LW _,Z,q,hW,h0⟩
 case round =>
  clear q hW h0;obtain⟨k,M,rfl,hs,hw,y⟩:=hrel;by_cases c:k<L.length
  ·obtain⟨b,off,rfl,N,f⟩:=hs.cells O;obtain⟨P,S⟩:=f k c;have I:=H hs;clear f hs;have ak:(k:Int)<(L.length:Int):=by omega
   have g:=G.o k wr (.cells #[L[k].1,L[k].2] 149) y;obtain⟨fn,z,m,B,hy,C⟩:=F.o k c _ g;clear g
   gi_wp2
   refine C.mono ?_;rintro e T (⟨rfl,r,i⟩ | ⟨rfl,j⟩)
   ·have d:=((L3 n₀ wr).alloc hw (.cells #[L[k].1,L[k].2] 149)).trans i;have s:=I.below d;have t:=L8 hw d.size;clear i d hy C
    gi_wp2
    go_roundw
    case rel=>exact⟨k+1,O,IK,s,t,r⟩
    case measure=>simp[intOf];omega
   gi_wp2
   refine Lm (LV Z _ _ _) Z ?_;exact⟨⟨_,Z⟩,.inr ⟨k,c,j⟩⟩
  obtain rfl:k=L.length:=O
  gi_wp2
  go_end0
  exact⟨⟨_,Z⟩,.inl y⟩
def xT (B n₀:Nat)(I:Nat->World->Prop)(a:Code->Nat->World->Prop)(k:Nat)(W:World):Exit->Act->World->Prop
 | .normal,_,W'=>KeepsFrom B W W'/\Below n₀ W W'/\I (k+1) W'
 | .ret,_,W'=>KeepsFrom B W W'/\a .ret k W'
 | .exit i,_,W'=>KeepsFrom B W W'/\a (.exit i) k W'
 | .goto t,_,W'=>KeepsFrom B W W'/\a (.goto t) k W'
 | .panic _,_,_=>False
 | .outgrown,_,_=>False
theorem om {g:Operand}{ps:Array Tmp}{assign body:Code}{Q:Exit->Act->World->Prop}{a:Act}{w:World}{n n₀:Nat}(hn:2<=n)
  {ad:Option Addr}{cap:Nat}{L:List Sp}(hg:a.eval g= .func (.func 156) #[.slice ad L.length cap] #[]){p q:Tmp}(a0:ps= #[p,q])(hc:oB w n₀ ad L)(S:n₀<=w.heap.size)
  (I:Nat->World->Prop)(Ix:Code->Nat->World->Prop)(hI:OwnFrom w.heap.size I)(J:∀c,OwnFrom w.heap.size (Ix c))(h0:I 0 w)
  (K:∀l k (h:k<L.length) W,w.heap.size<=l->I k W ->
   assign.wpIn (Fence.wide.inRound l) (n-1-1) Tryz.prog (Exit.then (fun a' W'=>KeepsFrom w.heap.size W W'/\Below n₀ W W'/\∃Ax:Unit->World->Prop,OwnFrom w.heap.size Ax/\Ax () W'/\∀W2,Ax () W2->body.wpIn (Fence.wide.inRound l) (n-1-1) Tryz.prog (xT w.heap.size n₀ I Ix k W2) a' W2) (fun _ _ _=>False))
    { tmps:=(a.tmps.setIfInBounds p (.int .i64 k)).setIfInBounds q (.agg #[L[k].1,L[k].2]),defers:=[] } W)
  (T:∀(b:Nat) (W:World),w.heap.size<=b->I L.length W->W.heap[b]? =some (.deferred (some []))->Q .normal { a with defers:={ target:=.collected b,args:= #[] }::a.defers } W)
  (U:∀(b:Nat) (c:Code) (k:Nat) (W:World),w.heap.size<=b->k<L.length->Ix c k W->W.heap[b]? =some (.deferred (some []))->c.wpIn Fence.wide n Tryz.prog Q { a with defers:={ target:=.collected b,args:= #[] }::a.defers } W) :
  (Code.rangeFunc g ps assign body).wpIn Fence.wide n Tryz.prog Q a w:=by
 subst a0;refine wpIn_rangeFunc (fun fn b1=> ?_);obtain⟨f,d⟩:∃f:LoopState->Option Code->Loop,f=fun st pe=>{ state:=st,pending:=pe,fn:=fn,tmps:=a.tmps,params:= #[p,q],assign:=assign,body:=body,defers:=w.heap.size }:=⟨_,Z⟩;obtain⟨F,u⟩:∃F,F=(w.alloc (.deferred (some []))).alloc (.loop (f .ready none)):=⟨_,Z⟩;have hz:F.heap.size=w.heap.size+2:=by rw[u];simp
 have cL:F.heap[w.heap.size+1]? =some (.loop (f .ready none)):=by
  have:=World.alloc_heap_new (w.alloc (.deferred (some []))) (.loop (f .ready none));rw[LX]at this;rw[u];exact this
 have a1:F.heap[w.heap.size]? =some (.deferred (some [])):=by
  rw[u];exact(Me _ _ _ (by simp)).trans (World.alloc_heap_new w _)
 have a2:Below n₀ w F:=by rw[u];exact((L3 n₀ w).alloc S _).alloc (by simp;omega) _
 have cM:I 0 F:=by rw[u];exact hI.alloc _ (hI.alloc _ h0)
 refine⟨w.heap.size+1,[{ target:=.collected w.heap.size,args:= #[] }],F,{ target:=.fn (.func 156) #[],args:= #[.slice ad L.length cap,.func (.yield (w.heap.size+1)) #[] #[]] },F,156,#[.slice ad L.length cap,.func (.yield (w.heap.size+1)) #[] #[]],F,?_,?_,fun _ _=>trivial,?_,fun _=>by omega,?_⟩
 ·rw[u,d];exact run_enterLoop_outer _ _ _ _ _
 ·simp only[resolve,hg]
  simp[go_sem]
 ·simp[invoke,go_sem]
 have a4:=AN (n-1) (by omega) (w.heap.size+1) n₀ ad cap L
  (fun k W=>I k W/\W.heap[w.heap.size+1]? =some (.loop (f .ready none))/\W.heap[w.heap.size]? =some (.deferred (some [])))
  (fun k W=>∃c,Ix c k W/\W.heap[w.heap.size+1]? =some (.loop (f .done (some c)))/\W.heap[w.heap.size]? =some (.deferred (some [])))
  (fun k A o h=>⟨hI.alloc _ h.1,(Me A o _ (L6.1 h.2.1).1).trans h.2.1,(Me A o _ (L6.1 h.2.2).1).trans h.2.2⟩)
  ?_ F (hc.below a2) (by omega) ⟨cM,cL,a1⟩
 ·refine a4.mono ?_;rintro e W2⟨⟨v,rfl⟩,(⟨hi,N,hd⟩ | ⟨k,hk,c,hi,N,hd⟩)⟩
  ·have j:=run_endLoop (P:=Tryz.prog) N (by rw[d];simp);have b0:(f .ready none).pending=none:=by rw[d]
   rw[b0]at j;exact⟨none,_,j,T w.heap.size _ (L4 _) (hI.putObj _ hi (by omega) N Z) ((World.putObj_heap_other (by omega)).trans hd)⟩
  have j:=run_endLoop (P:=Tryz.prog) N (by rw[d];simp);have b0:(f .done (some c)).pending=some c:=by rw[d]
  rw[b0]at j;exact⟨some c,_,j,U w.heap.size c k _ (L4 _) hk ((J c).putObj _ hi (by omega) N Z) ((World.putObj_heap_other (by omega)).trans hd)⟩
 rintro k hk W⟨hi,N,hd⟩;subst d;have cS:∀x y:Value,(#[p,q].zip #[x,y]).foldl (fun t (z:Tmp×Value)=>t.setIfInBounds z.1 z.2) a.tmps=(a.tmps.setIfInBounds p x).setIfInBounds q y:=fun x y=>by simp
 refine ge (r:={ state:=.ready,pending:=none,fn:=fn,tmps:=a.tmps,params:= #[p,q],assign:=assign,body:=body,defers:=w.heap.size }) (B:=w.heap.size) Z Z Z N (by omega) (N5 (a:={ tmps:=_,defers:=[] }) (by dsimp only;rw[cS];exact K (w.heap.size+1) k hk W (by omega) hi) ?_);intro e a' W' he
 cases e with
 | normal =>
  obtain⟨V,hb,Ax,cT,cV,cX⟩:=he;have X:=V.same _ _ (by omega) N Z;have a5:=V.same _ _ (L4 _) hd Z;have a6:=(L6.1 X).1;refine⟨V,N5 (cX _ (cT.putObj (s:=()) _ cV (by omega) X Z)) ?_⟩;intro e3 a3 M C;have fin:∀(M:World),KeepsFrom w.heap.size (W'.putObj (w.heap.size+1) (.loop { state:=.busy,pending:=none,fn:=fn,tmps:=a.tmps,params:= #[p,q],assign:=assign,body:=body,defers:=w.heap.size })) M->M.heap[w.heap.size+1]? =some (.loop { state:=.busy,pending:=none,fn:=fn,tmps:=a.tmps,params:= #[p,q],assign:=assign,body:=body,defers:=w.heap.size })/\M.heap[w.heap.size]? =some (.deferred (some [])):=fun M G=>And.intro (G.same _ _ (by omega) (World.putObj_heap_same a6) Z) (G.same _ _ (L4 _) ((World.putObj_heap_other (by omega)).trans a5) Z)
  cases e3 with
  | normal =>
   obtain⟨G,a9,cY⟩:=C;obtain⟨E,m⟩:=fin M G;have b7:=(L6.1 E).1;exact⟨G,.inl ⟨Z,⟨hI.putObj _ cY (by omega) E Z,World.putObj_heap_same b7,(World.putObj_heap_other (by omega)).trans m⟩,((hb.trans (belowK_b (w:=w) S _ _ _ _ (by omega) X Z Z)).trans a9).trans (belowK_b (w:=w) S _ _ _ _ (by omega) E Z Z)⟩⟩
  | ret =>
   obtain⟨E,m⟩:=fin M C.1;exact⟨C.1,.inr ⟨Z,.ret,(J _).putObj _ C.2 (by omega) E Z,World.putObj_heap_same (L6.1 E).1,(World.putObj_heap_other (by omega)).trans m⟩⟩
  | exit i =>
   obtain⟨E,m⟩:=fin M C.1;exact⟨C.1,.inr ⟨Z,.exit i,(J _).putObj _ C.2 (by omega) E Z,World.putObj_heap_same (L6.1 E).1,(World.putObj_heap_other (by omega)).trans m⟩⟩
  | goto t =>
   obtain⟨E,m⟩:=fin M C.1;exact⟨C.1,.inr ⟨Z,.goto t,(J _).putObj _ C.2 (by omega) E Z,World.putObj_heap_same (L6.1 E).1,(World.putObj_heap_other (by omega)).trans m⟩⟩
  | panic c=>exact C.elim
  | outgrown=>exact C.elim
 | ret=>exact he.elim
 | exit i=>exact he.elim
 | goto t=>exact he.elim
 | panic c=>exact he.elim
 | outgrown=>exact he.elim
end
section
open Go.RowKit Go.Shelf
theorem bg {P:Program}(w:World)(base:Nat)(t ty e:TypeId)(i:TypeInfo)(z:Value)(size bytes:Nat)(G:P.underlying t=some (.slice e))(hi:P.info? e=some i)(hz:i.zero=some z)
  (o:i.size=size)(A:i.bytes=bytes)(B:z.cells.size=size)(C:0<size)
  (v:Value)(n:Nat)(y:List Value)(h:w.ownsRow base e size v n y)
  (a:Addr)(m c:Nat)(b:List Value)(hl:b.length=m*size)(d:∀j u,b[j]? =some u->w.cell? (a.add j)=some u)(h1:∀u∈b,u.oneCell'=true)
  (q:n+m<=maxLen)(f:(n+m)*bytes<=140737488355328)(s:base<=w.heap.size) :
  ∃v' w',(Builtin.append_ #[t,t] ty #[v,.slice (some a) m c]).run P w= .ok v' w'/\w'.ownsRow base e size v' (n+m) (y++b)/\w.grownBy w' v.ownBlock /\
   (v'.ownBlock=v.ownBlock\/∃k,v'.ownBlock=some k/\w.heap.size<=k):=by
 obtain⟨v',w',I,h2,L,V⟩:=run_append_own (P:=P) w base t ty e i z size bytes G hi hz o A B C v n y h a m c b hl d h1 q f s;refine⟨v',w',I,h2,L,?_⟩;subst o;subst A
 rcases h.2 with⟨rfl,rfl⟩ | ⟨g,r,x,rfl,E,M,N,S,J,K⟩
 ·have T:y=[]:=LR (by simpa using h.1);subst T;obtain⟨W,X,l,U,g3,g4⟩:=run_append_own (P:=P) w w.heap.size t ty e i z i.size i.bytes G hi hz Z Z B C _ 0 [] (Nv w _ e i.size) a m c b hl d h1 q f (L4 _);rw[I]at l
  cases l
  rcases U.2 with⟨rfl,_⟩ | ⟨g,r,x,rfl,E,_⟩
  ·exact .inl Z
  exact .inr ⟨g,Z,E⟩
 by_cases p:n+m<=r
 ·have F:n*i.size+b.length<=x.size:=by rw[hl,J,<-Nat.add_mul];exact Nat.mul_le_mul_right _ p
  have l:=run_append_room (P:=P) w t ty e i G hi g n r x M a m c b hl d h1 p F;rw[I]at l
  cases l
  exact .inl Z
 have holds:∀j u,y[j]? =some u->w.cell? ((⟨g,0,none⟩:Addr).add j)=some u:=h.cells (g:=g) Z;have l:=run_append_grow (P:=P) w t ty e i z G hi hz ⟨g,0,none⟩ n r y h.1 holds a m c b hl d O (by simp only[maxLen]at q;omega) (growslice_fits (by simp only[maxLen]at q;omega) f);rw[I]at l
 cases l
 exact .inr ⟨w.heap.size,Z,L4 _⟩
def dM (L:List Sp):List Value:=L.flatMap fun x=>[x.1,x.2]
theorem cy (A B:List Sp):dM (A++B)=dM A++dM B:=MA ..
theorem mD (x:Sp)(L:List Sp):dM (x::L)= .int .i64 x.1:: .int .i64 x.2::dM L:=rfl
theorem dd (L:List Sp):(dM L).length=L.length*2:=by
 induction L with
 | nil=>rfl
 | cons x L a=>rw[mD,Lx,Lx,a,Lx];omega
theorem ic (L:List Sp)(i:Nat)(h:i<L.length):(dM L)[i*2]? =some (L[i].1:Y)/\(dM L)[i*2+1]? =some (L[i].2:Y):=by
 induction L generalizing i with
 | nil=>simp at h
 | cons x L a =>
  rw[mD]
  cases i with
  | zero=>exact⟨Z,Z⟩
  | succ i =>
   have:=a i IT;rw[show(i+1)*2=(i*2+1)+1 by omega,show i*2+1+1+1=(i*2+1)+1+1 by omega]
   simpa using this
theorem ur (L:List Sp):∀u∈dM L,u.oneCell'=true:=by
 intro u a;obtain⟨x,_,h⟩:=List.mem_flatMap.1 a
 simp at h
 rcases h with rfl | rfl <;> rfl
theorem iT:(Tryz.prog.info? 149).map (fun i=>(i.zero,i.size,i.bytes))=some (some (.agg #[(0:Int),(0:Int)]),2,16):=by kernel_rfl
def aH (w:World)(base:Nat)(v:Value)(L:List Sp):Prop:=w.ownsRow base 149 2 v L.length (dM L)
theorem aH.nil (w:World)(base:Nat):aH w base (.slice none 0 0) []:=Nv _ _ _ _
theorem aH.alloc {w:World}{base:Nat}{v:Value}{L:List Sp}(h:aH w base v L)(o:Obj):aH (w.alloc o) base v L:=World.ownsRow.alloc h o
theorem aH.kept {w w':World}{base:Nat}{v:Value}{L:List Sp}(h:aH w base v L){row:Option Nat}(b:w.grownBy w' row)(a:v.ownBlock=none\/v.ownBlock≠row):aH w' base v L:=World.ownsRow.kept h b a
theorem aH.lt {w:World}{base:Nat}{v:Value}{L:List Sp}(h:aH w base v L):∀k,v.ownBlock=some k->base<=k/\k<w.heap.size:=ME h
theorem aH.mono {w:World}{base a:Nat}{v:Value}{L:List Sp}(h:aH w base v L)(e:a<=base):aH w a v L:=by
 refine⟨h.1,?_⟩
 rcases h.2 with h | ⟨g,b,c,f,d,r⟩
 ·exact .inl h
 exact .inr ⟨g,b,c,f,L8 e d,r⟩
theorem aH.val {w:World}{base:Nat}{v:Value}{L:List Sp}(h:aH w base v L):∃a cap,v= .slice a L.length cap/\L.length<=cap:=by
 rcases h.2 with⟨rfl,d⟩ | ⟨g,cap,e,f,i,l,b,j,k,c⟩
 ·exact⟨none,0,by rw[d],O⟩
 exact⟨_,cap,f,b⟩
theorem aH.at {w:World}{base:Nat}{v:Value}{L:List Sp}(h:aH w base v L)(hs:L.length<=1099511627776) :
  ∃a cap,v= .slice a L.length cap/\oB w w.heap.size a L/\L.length<=cap/\∀b,a=some b->base<=b.block/\v.ownBlock=some b.block/\b=⟨b.block,b.off,none⟩:=by
 rcases h.2 with⟨rfl,n⟩ | ⟨g,cap,o,c,d,p,f,q,r,j⟩
 ·refine⟨none,0,by rw[n],⟨hs,fun t=>by omega⟩,O,fun b e=>by cases e⟩
 refine⟨some ⟨g,0,none⟩,cap,c,⟨hs,fun _=>⟨g,0,Z,(L6.1 p).1,fun i hi=> ?_⟩⟩,f,fun b e=>by cases e;exact⟨d,by rw[c];rfl,Z⟩⟩;have k:=N8 h (g:=g) (by rw[c];rfl);obtain⟨s,f2⟩:=ic L i hi;have l:=k _ _ s;have m:=k _ _ f2;rw[Ms]at l m;refine⟨?_,?_⟩
 ·simpa using l
 simpa[NW]using m
def dX (W:World)(b:Nat)(t:TypeId):Prop:=∃a c,W.heap[b]? =some (.cells a t c)
theorem dX.of {W W':World}{b:Nat}{t:TypeId}(h:dX W b t)(a:W'.heap[b]? =W.heap[b]?):dX W' b t:=by
 obtain⟨c,d,e⟩:=h;exact⟨c,d,a.trans e⟩
theorem dX.lt {W:World}{b:Nat}{t:TypeId}(h:dX W b t):b<W.heap.size:=by
 obtain⟨a,c,e⟩:=h;exact(L6.1 e).1
theorem dX.ne {W:World}{b c:Nat}{t u:TypeId}(h:dX W b t)(k:dX W c u)(a:t≠u):b≠c:=by
 rintro rfl;obtain⟨i,j,e⟩:=h;obtain⟨f,g,d⟩:=k;rw[e]at d
 cases d
 exact a Z
theorem aH.ty {w:World}{base n cap:Nat}{a:Option Addr}{L:List Sp}(h:aH w base (.slice a n cap) L):∀b,a=some b->dX w b.block 149:=by
 rintro b rfl
 rcases h.2 with⟨e,_⟩ | ⟨g,c,d,f,_,i,_⟩
 ·cases e
 cases f
 exact⟨_,_,i⟩
theorem fQ {a b c:World}{r f:Option Nat}(h:a.grownBy b r)(k:b.grownBy c f)(hr:f=r\/∀k,f=some k->a.heap.size<=k):a.grownBy c r:=by
 refine⟨k.os.trans h.os,k.tape.trans h.tape,k.output.trans h.output,L8 h.size k.size,fun i hi d=>(k.block i (Lb hi h.size) ?_).trans (h.block i hi d)⟩
 rcases hr with rfl | hr
 ·exact d
 intro e;have:=hr i e.symm;omega
theorem aR {a b:World}{r:Option Nat}{N:Nat}(h:a.grownBy b r)(c:N<=a.heap.size)(hr:∀k,r=some k->N<=k):Below N a b :=
 ⟨h.os,h.tape,h.output,h.size,fun i hi=>h.block i O (fun e=>by have:=hr i e.symm;omega)⟩
theorem iU {a b:World}{r:Option Nat}(h:Below a.heap.size a b):a.grownBy b r :=
 ⟨h.os,h.tape,h.output,h.size,fun i hi _=>h.block i hi⟩
theorem sB (a:World)(r:Option Nat):a.grownBy a r:=⟨Z,Z,Z,L4 _,fun _ _ _=>rfl⟩
theorem oB.grown {w w':World}{n₀:Nat}{a:Option Addr}{L:List Sp}{r:Option Nat}(h:oB w n₀ a L)(m:w.grownBy w' r)(n:n₀<=w.heap.size)(c:0<L.length->∀f,a=some f->r≠some f.block):oB w' n₀ a L :=
 ⟨h.small,fun g=>by
  obtain⟨b,off,j,d,k⟩:=h.cells g;have l:=m.block b O (fun e=>c g _ j e.symm);exact⟨b,off,j,d,fun i hi=>⟨(Lg (a:=⟨b,_,none⟩) l).trans (k i hi).1,(Lg (a:=⟨b,_,none⟩) l).trans (k i hi).2⟩⟩⟩
theorem bE (w:World){e:Array Oper}{rest:List Oper}{o:Oper}{a:Act}{Q:Exit->Act->World->Prop}(g:o.guard=none)(s x:Operand)
  (ho:o.op= .call { callee:=.builtin .append,args:= #[s,x],argTypes:= #[51,51] })(base:Nat)
  (v:Value)(L:List Sp)(hs:a.eval s=v)(f:aH w base v L)(C:L.length<=4398046511104)
  (b:Nat)(y:Sp)(hx:a.eval x= .slice (some ⟨b,0,none⟩) 1 1)(i:w.cell? b=some (y.1:Y))(l:w.cell? ⟨b,1,none⟩=some (y.2:Y))(c:base<=w.heap.size)
  (h:∀v' w',aH w' base v' (L++[y])->w.grownBy w' v.ownBlock->(v'.ownBlock=v.ownBlock\/∃k,v'.ownBlock=some k/\w.heap.size<=k)->wpList Tryz.prog e Q rest (a.put o.dst v') w'):wpList Tryz.prog e Q (o::rest) a w:=by
 obtain⟨r,hi,m,n,p⟩:=MG iT
 obtain⟨v',w',t,h2,z,A⟩:=bg (P:=Tryz.prog) w base 51 o.type 149 r _ 2 16 Tryz.underlying51 hi m n p Z (by decide) v L.length (dM L) f ⟨b,0,none⟩ 1 1 [y.1,y.2] Z
  (by intro j u d;match j,d with
   | 0,d=>simp at d;subst d;exact i
   | 1,d=>simp at d;subst d;simpa[Addr.add]using l) (by intro u q;simp at q;rcases q with rfl | rfl <;> rfl) (by unfold maxLen;omega) (by omega) c
 refine NC g fun K B=> ?_;unfold Oper.wp execOp;simp only[ho,resolve,invoke,builtin,MU,MT,My,MF,M6,Mp,hs,hx,t];refine B _ _ (h v' w' ?_ z A);show w'.ownsRow _ _ _ _ _ _;rw[La,cy];exact h2
theorem eO {F:Fence}{n:Nat}(w:World){f:Array Oper}{rest:List Oper}{o:Oper}{a:Act}{Q:Exit->Act->World->Prop}(i:o.guard=none)(s x:Operand)
  (ho:o.op= .call { callee:=.builtin .append,args:= #[s,x],argTypes:= #[51,51] })(base:Nat)
  (v:Value)(L:List Sp)(hs:a.eval s=v)(g:aH w base v L)(I:L.length<=4398046511104)
  (b:Nat)(y:Sp)(hx:a.eval x= .slice (some ⟨b,0,none⟩) 1 1)(l:w.cell? b=some (y.1:Y))(m:w.cell? ⟨b,1,none⟩=some (y.2:Y))(d:base<=w.heap.size)
  (h:∀v' w',aH w' base v' (L++[y])->w.grownBy w' v.ownBlock->(v'.ownBlock=v.ownBlock\/∃k,v'.ownBlock=some k/\w.heap.size<=k)->wpListIn F n Tryz.prog f Q rest (a.put o.dst v') w'):wpListIn F n Tryz.prog f Q (o::rest) a w:=by
 obtain⟨B,hi,p,q,r⟩:=MG iT
 obtain⟨v',w',C,h2,E,G⟩:=bg (P:=Tryz.prog) w base 51 o.type 149 B _ 2 16 Tryz.underlying51 hi p q r Z (by decide) v L.length (dM L) g ⟨b,0,none⟩ 1 1 [y.1,y.2] Z
  (by intro j u e;match j,e with
   | 0,e=>simp at e;subst e;exact l
   | 1,e=>simp at e;subst e;simpa[Addr.add]using m) (by intro u A;simp at A;rcases A with rfl | rfl <;> rfl) (by unfold maxLen;omega) (by omega) d
 refine wpListIn_plain i fun K t=> ?_;unfold Oper.wpIn;refine⟨?_,?_⟩
 ·simp[Oper.about,ho,resolve,Target.leads,Sem.run_pure]
 rw[Oper.semAt_plain F _ _ (by rw[ho];intro c z;cases z)]
 simp[execOp,ho,resolve,invoke,builtin,hs,hx,C,Result.andThen]
 refine t _ _ (h v' w' ?_ E G);show w'.ownsRow _ _ _ _ _ _;rw[La,cy];exact h2
end
section
set_option maxRecDepth 100000
open Go.RowKit Go.Shelf
def xU (e:Int)(x:Sp):Bool:=decide (0<=x.1/\e<x.1/\x.1<x.2/\x.2<=1099511627776)
theorem us {w:World}{E:Nat}{u:Value}(v:Value)(o:Obj)(a:w.cell? E=some u)(hf:w.frozen? E=false) :
  ((w.setCell E v).alloc o).cell? E=some v/\((w.setCell E v).alloc o).frozen? E=false/\lh E w ((w.setCell E v).alloc o):=by
 have d:E<w.heap.size:=Lj a;have b:=(L3 (w.setCell E v).heap.size (w.setCell E v)).alloc (L4 _) o;have c:E<(w.setCell E v).heap.size:=by simp[World.setCell];exact d
 exact⟨(b.cell (p:=⟨E,0,none⟩) c).trans (Nx _ _ _ a),(b.frozen (p:=⟨E,0,none⟩) c).trans (by rw[Ng];exact hf),((lh.refl E w).setCell 0 v).alloc o⟩
theorem qO (w:World) (x:Sp) (E:Nat) (a:Int) (b:w.cell? E=some (a:Y)) (hf:w.frozen? E=false) :
  Calls Tryz.prog 178 #[.agg #[x.1,x.2],E] w fun e w'=>e= .returned (xU a x)/\w'.cell? E=some (x.2:Y)/\w'.frozen? E=false/\lh E w w':=by
 obtain⟨i,d⟩:=x;have f:=Lj b;have g:w.heap.size≠E:=by simp at f;omega
 have c:=H (fun v o=>us (w:=w) v o b hf)
 go_enter Tryz.func178,Tryz.ntmps178
 go_wp2_with fail
 ·go_ret;refine⟨?_,c.o _ _⟩;show Ending.returned (Value.bool (decide (d<=1099511627776)))=_
  congr 2
  unfold xU
  apply NO.2
  rw[Lh,Lh];exact⟨fun h=>⟨IR,IR,IR,h⟩,fun h=>h.2.2.2⟩
 all_goals
  go_ret;refine⟨?_,c.o _ _⟩;show Ending.returned (Value.bool false)=_
  congr 2
  unfold xU;rw[eq_comm,Lr];dsimp only;omega
theorem qP {L:List Sp}{k:Nat}(h:k<L.length)(e:Int):aJ e (L.drop k)=(xU e L[k]&&aJ L[k].2 (L.drop (k+1))):=by
 rw[MM h];rfl
theorem fi (w:World) (n₀:Nat) (a:Option Addr) (cap:Nat) (L:List Sp) (n:oB w n₀ a L) (A:n₀<=w.heap.size) :
  Calls Tryz.prog 155 #[.slice a L.length cap] w fun e w'=>e= .returned (ao L)/\Below w.heap.size w w':=by
 have B:=n.small
 go_enter Tryz.func155,Tryz.ntmps155
 go_wp2_with fail
 go_loopw [10] (fun p wr=>∃(k:Nat) (e:Int),k<=L.length/\p= .int .i64 k/\wr.cell? w.heap.size=some (e:Y)/\wr.frozen? w.heap.size=false/\Below w.heap.size w wr/\ao L=aJ e (L.drop k)) (fun p _=>L.length-(intOf p).toNat)
 case atStart =>
  refine⟨0,-1,LW _,Z,?_,?_,(L3 _ w).alloc (L4 _) _,Z⟩
  ·simp
  simp
 case round =>
  obtain⟨k,e,K,rfl,d,u,f,q⟩:=hrel;have hs:=n.below (f.mono A);have M:=H n;clear n;by_cases g:k<L.length
  ·obtain⟨b,off,rfl,C,h⟩:=hs.cells O;obtain⟨E,F⟩:=h k g;have t:=H f;have r:=H (q.trans (qP g e));have ak:(k:Int)<(L.length:Int):=by omega
   have x:w.heap.size<wr.heap.size:=Lj d;have c:=H (fun o=>(L3 wr.heap.size wr).alloc (L4 _) o);have y:=H d;have z:=H u;clear h hs f q d u;go_wp2_with fail;refine(qO _ L[k] w.heap.size e (((c.out _).cell (p:=⟨w.heap.size,0,none⟩) x).trans y.o) (((c.out _).frozen (p:=⟨w.heap.size,0,none⟩) x).trans z.o)).mono ?_;rintro N G⟨rfl,i,j,l⟩;have m:Below w.heap.size w G:=(t.trans ((c.out _).mono t.size)).trans (l.below (L4 _) IH);have s:=H m;have I:=H i;have J:=H j;clear t c y z E F l m i j
   cases hok:xU e L[k]with
   | true =>
    go_wp2_with fail
    go_roundw
    case rel=>exact⟨k+1,L[k].2,O,IK,I.o,J.o,s.o,by rw[r.o,hok];rfl⟩
    case measure=>simp[intOf];omega
   | false =>
    go_wp2;go_ret;exact⟨by rw[r.o,hok];rfl,s.o⟩
  obtain rfl:k=L.length:=O
  have s:=H f;have r:=H q;clear f q hs;go_wp2;go_ret;refine⟨?_,s.o⟩;rw[r.o,Nh];rfl
theorem oo (w:World)(v:Value)(a:Option Addr)(n cap:Nat)(b:v= .slice a n cap):Calls Tryz.prog 154 #[v] w fun e w'=>e= .returned (.agg #[v])/\w'=w.alloc (.cells #[v] 187):=by
 subst b
 go_enter Tryz.func154,Tryz.ntmps154
 go_wp2
 refine Lm (v:=.agg #[.slice a n cap]) ?_ Z ⟨Z,Z⟩
 simp[results,Tryz.results154,go_sem]
theorem ut (a:Option Addr)(n cap:Nat)(W:World):Sem.run Tryz.prog (Instr.field 187 (.agg #[.slice a n cap]) 0) W= .ok (.slice a n cap) W:=by kernel_rfl
theorem uu (w:World) (n₀:Nat) (a:Option Addr) (cap:Nat) (L:List Sp) (d:oB w n₀ a L) (g:n₀<=w.heap.size) :
  Calls Tryz.prog 202 #[.slice a L.length cap] w fun e w'=>e= .returned (ao L)/\Below w.heap.size w w':=by
 have c:=(L3 w.heap.size w).alloc (L4 _) (.cells #[.slice a L.length cap] 187);have f:=H c;have h:=H (fi _ n₀ a cap L (d.below (c.mono g)) (by have:=c.size;omega));clear d c
 go_enter Tryz.func202,Tryz.ntmps202
 go_wp2_with fail;refine(oo _ _ _ _ _ Z).mono ?_;rintro e k⟨rfl,rfl⟩;have i:=ut a L.length cap (w.alloc (.cells #[.slice a L.length cap] 187));go_wp2_with fail;refine h.mono ?_;rintro e l⟨rfl,b⟩;have j:=H b;clear b;go_wp2;go_ret;exact⟨Z,f.trans (j.mono f.size)⟩
theorem nk (w:World) (n₀:Nat) (a:Option Addr) (cap:Nat) (L:List Sp) (s:Sp) (h:oB w n₀ a L) (q:n₀<=w.heap.size) :
  Calls Tryz.prog 195 #[.agg #[.slice a L.length cap],.agg #[s.1,s.2]] w fun e w'=>e= .returned (cW L s)/\Below w.heap.size w w':=by
 obtain⟨j,k⟩:=s;have d:=((L3 w.heap.size w).alloc (L4 _) (.cells #[.slice a L.length cap] 187)).alloc FE (.cells #[j,k] 149);have l:=H d;have m:=H (fi _ n₀ a cap L (h.below (d.mono q)) (by have:=d.size;omega));clear h d
 go_enter Tryz.func195,Tryz.ntmps195
 go_wp2_with fail;refine m.mono ?_;rintro e f⟨rfl,b⟩;have r:=b.cell (p:=⟨w.heap.size+1,0,none⟩) FE;have t:=b.cell (p:=⟨w.heap.size+1,1,none⟩) FE;have n:=H (l.trans (b.mono l.size));have g:=b.size;clear b m
 cases aC:ao L with
 | true =>
  simp at r t g
  go_wp2_with fail;refine(uu (f.alloc _) (f.heap.size+1) _ _ [(j,k)] ⟨FE,fun _=>⟨f.heap.size,0,Z,O,fun i hi=> ?_⟩⟩ FE).mono ?_
  ·obtain rfl:i=0:=by simpa using hi
   simp
  rintro e x⟨rfl,c⟩;have u:=H c;clear c;go_wp2;go_ret;refine⟨by unfold cW;rw[aC];rfl,n.trans ?_⟩;exact((L3 w.heap.size f).alloc O _).trans (u.mono IH)
 | false =>
  go_wp2;go_ret;exact⟨by unfold cW;rw[aC];rfl,n.o⟩
theorem sC {a:List Sp}{k:Nat}(h:k<a.length):bD (a.take (k+1))=bD (a.take k)++(if a[k].1<a[k].2 then [a[k]]else []):=by
 unfold bD;rw[Lv h,Mq]
 congr 1
 by_cases g:a[k].1<a[k].2
 ·rw[L7 g,MQ Ji];rfl
 rw[L5 g,MR Ji];rfl
theorem xV (a:List Sp)(k:Nat):(bD (a.take k)).length<=a.length:=by
 unfold bD;exact L8 (M5 ..) IS
theorem jf (w:World) (base n₀:Nat) (v:Value) (L:List Sp) (a:Option Addr) (cap:Nat) (c:List Sp) (A:aH w base v L) (W:L.length<=2199023255552) (B:base<=w.heap.size)
  (s:oB w n₀ a c) (M:n₀<=w.heap.size) (g:0<c.length->∀C,a=some C->v.ownBlock≠some C.block) :
  Calls Tryz.prog 196 #[v,.slice a c.length cap] w fun e w'=>∃v',e= .returned v'/\aH w' base v' (L++bD c)/\w.grownBy w' v.ownBlock/\(v'.ownBlock=v.ownBlock\/∃k,v'.ownBlock=some k/\w.heap.size<=k):=by
 have N:=s.small;obtain⟨t,x,rfl,-⟩:=A.val
 go_enter Tryz.func196,Tryz.ntmps196
 go_wp2_with fail
 go_loopw [0,9] (fun u p wr=>∃(k:Nat),k<=c.length/\p= .int .i64 k/\aH wr base u (L++bD (c.take k))/\w.grownBy wr (Value.slice t L.length x).ownBlock/\(u.ownBlock=(Value.slice t L.length x).ownBlock\/∃j,u.ownBlock=some j/\w.heap.size<=j)) (fun _ p _=>c.length-(intOf p).toNat)
 case atStart =>
  exact⟨0,LW _,Z,by simpa[bD]using A,sB _ _,.inl Z⟩
 case round =>
  clear A;obtain⟨k,X,rfl,d,f,l⟩:=hrel;have hs:=s.grown f M g;have HC:=H s;have c9:=f.size;have b8:base<=wr.heap.size:=O
  clear s;by_cases m:k<c.length
  ·obtain⟨b,off,rfl,P,n⟩:=hs.cells O;obtain⟨c0,c1⟩:=n k m;have y:=H d;have z:=H f;have q:=H l;have HN:=H g;have ak:(k:Int)<(c.length:Int):=by omega
   have E:=H (sC m);have S:=xV c k;have T:(L++bD (c.take k)).length<=4398046511104:=J7
   clear n hs d f l g;by_cases F:c[k].1<c[k].2
   ·go_wp2_with (first | (at_builtin;refine bE _ Z _ _ Z base _ _ Z ((y.alloc _).alloc _) T (wr.heap.size+1) c[k] Z FE FE IH ?_))
    intro v' w' G I J;have r:wr.grownBy w' u0.ownBlock:=fQ (fQ (Nm wr _ _) (Nm _ _ _) (.inl Z)) I (.inl Z)
    have R:aH w' base v' (L++bD (c.take (k+1)))/\w.grownBy w' (Value.slice t L.length x).ownBlock/\(v'.ownBlock=(Value.slice t L.length x).ownBlock\/∃j,v'.ownBlock=some j/\w.heap.size<=j):=by
     refine⟨?_,?_,?_⟩
     ·rw[E.o,L7 F];exact G
     ·refine fQ z.o r ?_
      rcases q.o with h | ⟨j,h,K⟩
      ·exact .inl h
      exact .inr (fun i e=>by rw[h]at e;cases e;exact K)
     rcases J with h | ⟨j,h,K⟩
     ·rw[h];exact q.o
     exact .inr ⟨j,h,O⟩
    have U:=H R;clear R G I J r;go_wp2_with fail
    go_roundw
    case rel=>exact⟨k+1,O,IK,U.o⟩
    case measure=>simp[intOf];omega
   have V:c[k].2<=c[k].1:=O
   go_wp2_with fail
   go_roundw
   case rel =>
    refine⟨k+1,O,IK,?_,fQ z.o (Nm wr _ _) (.inl Z),q.o⟩;rw[E.o,L5 F,LM];exact y.alloc _
   case measure=>simp[intOf];omega
  obtain rfl:k=c.length:=O
  have y:=H d;have z:=H f;have q:=H l;clear d f l hs g;go_wp2;go_ret;refine⟨_,Z,?_,z.o,q.o⟩;have:=y.o;rw[LS]at this;exact this
end
section
open Go.RowKit Go.Shelf
def At (B i:Nat)(v:Value)(W:World):Prop:=W.cell? ⟨B,i,none⟩=some v/\W.frozen? ⟨B,i,none⟩=false
theorem At.lt {B i:Nat}{v:Value}{W:World}(h:At B i v W):B<W.heap.size:=Lj h.1
theorem At.own {B i:Nat}{v:Value}{A a:World}{row:Option Nat}(h:At B i v A)(b:A.grownBy a row)(hr:∀r,row=some r->∃o:Obj,A.heap[r]? =some o/\o.isCells=false):At B i v a :=
 ⟨cell_kept h.1 b hr,(frozen_kept h.1 b hr).trans h.2⟩
theorem At.grown {B i:Nat}{v:Value}{A b:World}{row:Option Nat}(h:At B i v A)(d:A.grownBy b row)(hr:row≠some B):At B i v b:=by
 have c:=d.block B h.lt (fun e=>hr e.symm);exact⟨(Lg (a:=⟨B,i,none⟩) c).trans h.1,(NF (a:=⟨B,i,none⟩) c).trans h.2⟩
theorem At.alloc {B i:Nat}{v:Value}{W:World}(h:At B i v W)(o:Obj):At B i v (W.alloc o):=h.grown (Nm W o none) FE
theorem At.below {B i:Nat}{v:Value}{W W':World}{N:Nat}(h:At B i v W)(a:Below N W W')(b:B<N):At B i v W' :=
 ⟨(a.cell (p:=⟨B,i,none⟩) b).trans h.1,(a.frozen (p:=⟨B,i,none⟩) b).trans h.2⟩
theorem At.set {B i:Nat}{v:Value}{W:World}(h:At B i v W)(u:Value):At B i u (W.setCell ⟨B,i,none⟩ u) :=
 ⟨Nx _ _ _ h.1,by rw[Ng];exact h.2⟩
theorem At.other {B i:Nat}{v:Value}{W:World}(h:At B i v W)(p:Addr)(u:Value)(a:p≠⟨B,i,none⟩):At B i v (W.setCell p u) :=
 ⟨by rw[LU _ _ _ _ a];exact h.1,by rw[Ng];exact h.2⟩
theorem At.ob {B C i j:Nat}{v:Value}{W:World}(h:At B i v W)(u:Value)(a:C≠B):At B i v (W.setCell ⟨C,j,none⟩ u):=h.other _ _ (by intro e;cases e;exact a Z)
theorem At.new {B:Nat}{W:World}{vs:Array Value}{i:Nat}{v:Value}(t:TypeId)(a:B=W.heap.size)(b:vs[i]? =some v):At B i v (W.alloc (.cells vs t)):=by
 subst a;refine⟨?_,?_⟩
 ·rw[Ln _ _ _ _ _ _ (Lp _ _)];exact b
 simp
theorem aH.row {w:World}{base:Nat}{v:Value}{L:List Sp}(h:aH w base v L){k:Nat}(a:v.ownBlock=some k):∃o:Obj,w.heap[k]? =some o/\o.isCells=true:=by
 rcases h.2 with⟨rfl,_⟩ | ⟨g,b,c,rfl,_,d,_⟩
 ·cases a
 cases a;exact⟨_,d,Z⟩
theorem aH.own {A a:World}{base:Nat}{v:Value}{L:List Sp}(h:aH A base v L){row:Option Nat}(d:A.grownBy a row)(hr:∀r,row=some r->∃o:Obj,A.heap[r]? =some o/\o.isCells=false):aH a base v L:=by
 refine h.kept d ?_
 cases hv:v.ownBlock with
 | none=>exact .inl Z
 | some k =>
  refine .inr (fun e=> ?_);obtain⟨o,h1,h2⟩:=h.row hv;obtain⟨f,b,c⟩:=hr k e.symm;rw[h1]at b;cases b;rw[h2]at c;cases c
theorem aH.setCell {W:World}{base:Nat}{v:Value}{L:List Sp}(h:aH W base v L)(C j:Nat)(u:Value)(a:v.ownBlock≠some C):aH (W.setCell ⟨C,j,none⟩ u) base v L:=by
 refine h.kept (row:=some C) ⟨Z,Z,Z,by simp[World.setCell],fun k _ b=>Ma W ⟨C,j,none⟩ k u (fun e=>b (by rw[e]))⟩ ?_;exact .inr a
theorem cz {W W':World}{base:Nat}{v:Value}{L:List Sp}(h:aH W base v L)(a:W.grownBy W' v.ownBlock):KeepsOthers W W':=by
 refine KeepsOthers.of_grownBy a ?_;intro j o b c;obtain⟨d,h1,h2⟩:=h.row b;rw[c]at h1;cases h1;exact h2
theorem lM {W W':World}(h:Below W.heap.size W W'):KeepsOthers W W' :=
 ⟨h.size,fun k o a _=>by rw[h.block k (L6.1 a).1];exact a⟩
theorem ek {N B:Nat}{w A a:World}{row:Option Nat}(h:Below N w A)(b:A.grownBy a row)(hr:∀r,row=some r->B<=r/\∃o:Obj,A.heap[r]? =some o/\o.isCells=false)(c:N<=w.heap.size)(d:N<=B):Below N w a :=
 h.trans (aR b (L8 c h.size) (fun k e=>L8 d (hr k e).1))
theorem dy {n:Nat}{P:Program}{fn:Func}{R:Ending->World->Prop}{t:Tmp}{tm:Array Value}{a:Nat}{W:World}(h:fn.results= #[.tmp t])(b:W.heap[a]? =some (.deferred (some [])))
  (c:R (.returned (tm.getD t undef)) (W.putObj a (.deferred none))):bodyPostM Fence.wide n P fn R .ret { tmps:=tm,defers:=[{ target:=.collected a,args:= #[] }] } W:=by
 refine⟨FE,.inl ⟨_,_,Z,run_takeDeferred b,?_⟩⟩;exact⟨_,results_tmp h tm P _,c⟩
theorem gH {n:Nat}{P:Program}{fn:Func}{R:Ending->World->Prop}{t:Tmp}{tm:Array Value}{W:World}(h:fn.results= #[.tmp t])
 (a:R (.returned (tm.getD t undef)) W):bodyPostM Fence.wide n P fn R .ret { tmps:=tm,defers:=[] } W:=⟨_,results_tmp h tm P _,a⟩
theorem dO {N:Nat}{w W:World}{a:Nat}(h:Below N w W)(c:N<=w.heap.size)(b:N<=a):Below N w (W.putObj a (.deferred none)) :=
 h.trans (aR (grownBy_putObj' W a _) (L8 c h.size) (fun k e=>by cases e;exact b))
def gf (Q:Exit->Act->World->Prop):Exit->Act->World->Prop
 | .panic _,_,_=>False
 | e,a,w=>Q e a w
theorem jK (Q:Exit->Act->World->Prop):∀e a w,gf Q e a w->Q e a w:=by
 intro e a w h
 cases e <;> first | exact h | exact h.elim
def mE (F:Act->World->Prop):Exit->Act->World->Prop
 | .normal,a,w=>F a w
 | _,_,_=>False
theorem lN {F:Act->World->Prop}{Q:Exit->Act->World->Prop}(h:∀a w,F a w->Q .normal a w):∀e a w,mE F e a w->Q e a w:=by
 intro e a w k
 cases e <;> first | exact h _ _ k | exact k.elim
end
section
set_option maxRecDepth 100000
open Go.RowKit Go.Shelf
attribute [local go_sem] Oper.semAt_some
theorem qQ {L:List Sp}{k:Nat}(h:k<L.length):aD (L.take (k+1))=aD (L.take k)+(L[k].2-L[k].1):=by
 induction L generalizing k with
 | nil=>simp at h
 | cons x L a =>
  cases k with
  | zero=>simp[aD]
  | succ k =>
   have:=a (k:=k) IT;simp only[N9,aD,NG,this];omega
theorem fR {e:Int}{L:List Sp}(h:aJ e L=true)(k:Nat):aJ e (L.take k)=true:=by
 induction L generalizing e k with
 | nil=>simp;exact h
 | cons x L a =>
  cases k with
  | zero=>rfl
  | succ k=>rw[aB]at h;rw[N9,aB];exact⟨h.1,a h.2 k⟩
theorem fD {e:Int}{L:List Sp}(h:aJ e L=true){k:Nat}(a:k<L.length):0<=L[k].1/\L[k].1<L[k].2/\L[k].2<=1099511627776:=by
 induction L generalizing e k with
 | nil=>simp at a
 | cons x L b =>
  rw[aB]at h
  cases k with
  | zero=>exact⟨h.1.1,h.1.2.2⟩
  | succ k=>exact b h.2 Ja
def Bg (S:Nat)(L:List Sp)(w:World)(k:Nat)(W:World):Prop:=At S 0 (aD (L.take k)) W/\Below w.heap.size w W
theorem qR {S:Nat}{L:List Sp}{w:World}{B:Nat}(c:w.heap.size<=B):OwnFrom B (Bg S L w):=fun _ _ _ _ h a b=>⟨h.1.own a (fun r e=>(b r e).2),ek h.2 a b (L4 _) c⟩
set_option maxHeartbeats 1000000 in
theorem ep (w:World) (n₀:Nat) (a:Option Addr) (cap:Nat) (L:List Sp) (s:oB w n₀ a L) (K:n₀<=w.heap.size) :
  Calls Tryz.prog 123 #[.slice a L.length cap] w fun e w'=>e= .returned (dw L)/\Below w.heap.size w w':=by
 have t:=((L3 w.heap.size w).alloc (L4 _) (.cells #[.slice a L.length cap] 187)).alloc FE (.cells #[.slice a L.length cap] 187);have i:=H t;have u:=H (s.below (t.mono K));have M:=s.small;clear t s;refine(MB (n:=4)).1 ?_;refine callsIn_of_wp_marks Tryz.func123 Z trivial ?_ Z;simp only[Tryz.ntmps123,LG,Lx,M1,Nat.reduceAdd,Nat.reduceSub,M8,M7,Mk,Mf,LD,LQ];refine M9.2 ?_;go_wp2_with fail;refine(oo _ _ _ _ _ Z).mono ?_;rintro e w1⟨rfl,rfl⟩;go_wp2_with fail;refine(fi _ n₀ a cap L u.o (by have:=i.size;omega)).mono ?_;rintro e d⟨rfl,f⟩;have hz:=f.cell (p:=⟨w.heap.size+1,0,none⟩) FE;have N:=H (u.below (f.mono (by have:=i.size;omega)));have E:=H (i.trans (f.mono i.size));have x:=f.size
 simp at hz x
 clear f i u
 cases aC:ao L with
 | false =>
  go_wp2_with fail;refine gH Z ⟨?_,E.o⟩;show Ending.returned (Value.int .i64 0)=_;unfold dw;rw[aC];rfl
 | true =>
  have P:(d.alloc (.cells #[(0:Int)] 3)).cell? ⟨w.heap.size+1,0,none⟩=some (.slice a L.length cap):=(((L3 d.heap.size d).alloc (L4 _) _).cell (p:=⟨w.heap.size+1,0,none⟩) (by show w.heap.size+1<_;omega)).trans hz;go_wp2_with fail;refine(M9 (n:=4)).1 ?_
  refine om (n₀:=n₀) O Z Z (N.below ((L3 n₀ d).alloc O _)) IH
   (Bg d.heap.size L w) (fun _ _ _=>False) (qR IH) (fun _ _ _ _ _ h _ _=>h.elim) ?start ?round ?done ?stop
  case start=>exact⟨At.new _ Z Z,E.alloc O _⟩
  case round =>
   intro l k F W hl g;have ca:=g.1.lt;have c5:=g.2.size;have j:=H g;clear g
   gi_wp2
   refine⟨(KeepsOthers.alloc _ _).from _,(L3 n₀ W).alloc O _,fun _ m=>Bg d.heap.size L w k m/\At W.heap.size 0 L[k].1 m/\At W.heap.size 1 L[k].2 m,?_,⟨⟨j.1.alloc _,j.2.alloc O _⟩,At.new _ Z Z,At.new _ Z Z⟩,?_⟩
   ·intro _ A A' row h y z;exact⟨qR (B:=(d.alloc (.cells #[(0:Int)] 3)).heap.size) IH _ _ _ _ h.1 y z,h.2.1.own y (fun r e=>(z r e).2),h.2.2.own y (fun r e=>(z r e).2)⟩
   rintro m⟨C,⟨x0,S⟩,⟨x1,T⟩⟩;obtain⟨U,V⟩:=C.1;have G:=H C;have b1:=fD aC F;have b2:=aN (fR aC k);have X:=aN (fR aC (k+1));have I:=H (qQ F);rw[I.o]at X;clear C S T j
   gi_wp2
   refine⟨(KeepsOthers.setCell _ _ _).from _,(L3 n₀ m).setCell (p:=⟨d.heap.size,0,none⟩) (by show n₀<=d.heap.size;omega) _,?_,G.2.setCell (p:=⟨d.heap.size,0,none⟩) (by show w.heap.size<=d.heap.size;omega) _⟩;rw[I.o];exact G.1.set _
  case done =>
   intro b W J g q;obtain⟨U,V⟩:=g.1;have j:=H g;have HD:=H q;have am:w.heap.size<=b:=by simp at J;omega
   clear g q J;go_wp2_with fail;refine dy Z HD.o ⟨?_,dO j.2 (L4 _) am⟩;show Ending.returned (Value.int .i64 (aD L))=_;unfold dw;rw[L7 aC]
  case stop =>
   intro b c k W _ _ h;exact h.elim
end
section
set_option maxRecDepth 100000
open Go.RowKit Go.Shelf
attribute [local go_sem] Oper.semAt_some
theorem gI (a b:Int):bD [(a,b)]=one a b:=by
 unfold bD one;by_cases h:a<b
 ·rw[L7 h,MQ IT];rfl
 rw[L5 h,MR IT];rfl
theorem sD {t at':Int}{L:List Sp}{k:Nat}(h:k<L.length):bO t at' (L.drop k)=if L[k].2<=at' then bO t at' (L.drop (k+1))else if t<=L[k].1 then one at' t else one at' L[k].1++bO t L[k].2 (L.drop (k+1)):=by
 rw[MM h];rfl
theorem Bh (a b:Int):(one a b).length<=1:=by unfold one;split <;> simp
def mF (N M:Nat)(s:Sp)(w:World)(a:List Sp)(v:Value)(t:Int)(W:World):Prop :=
 At N 0 s.1 W/\At N 1 s.2 W/\At M 0 v W/\At (M+1) 0 t W/\aH W (M+2) v a/\Below N w W
def CR (N M:Nat)(s:Sp)(w:World)(L:List Sp)(k:Nat)(W:World):Prop :=
 ∃a v t,mF N M s w a v t W/\a.length<=k/\bO s.2 s.1 L=a++bO s.2 t (L.drop k)
def CS (N M:Nat)(s:Sp)(w:World)(L:List Sp)(c:Code)(k:Nat)(W:World):Prop :=
 ∃a v t,mF N M s w a v t W/\a.length<=k/\bO s.2 s.1 L=a++one t s.2/\c= .exit 0
theorem mG {N M:Nat}{s:Sp}{w:World}{b:List Sp}{v:Value}{t:Int}{B:Nat}(f:N<=w.heap.size)(g:N<=B){A d:World}{row:Option Nat}(h:mF N M s w b v t A)(c:A.grownBy d row)
  (hr:∀r,row=some r->B<=r/\∃o:Obj,A.heap[r]? =some o/\o.isCells=false):mF N M s w b v t d:=by
 have a:=fun r e=>(hr r e).2;obtain⟨h1,h2,i,j,k,l⟩:=h;exact⟨h1.own c a,h2.own c a,i.own c a,j.own c a,k.own c a,ek l c hr f g⟩
theorem xW {N M:Nat}{s:Sp}{w:World}{L:List Sp}{B:Nat}(a:N<=w.heap.size)(b:N<=B):OwnFrom B (CR N M s w L):=fun _ _ _ _ ⟨outs,v,t,h,r⟩ hg hr=>⟨outs,v,t,mG a b h hg hr,r⟩
theorem xX {N M:Nat}{s:Sp}{w:World}{L:List Sp}{B:Nat}(a:N<=w.heap.size)(b:N<=B)(c:Code):OwnFrom B (CS N M s w L c):=fun _ _ _ _ ⟨outs,v,t,h,r⟩ hg hr=>⟨outs,v,t,mG a b h hg hr,r⟩
theorem gh {N M:Nat}{s:Sp}{w:World}{a:List Sp}{v:Value}{t:Int}{W:World}(h:mF N M s w a v t W)(b:N<=W.heap.size)(o:Obj):mF N M s w a v t (W.alloc o):=by
 obtain⟨h1,h2,c,d,e,f⟩:=h;exact⟨h1.alloc o,h2.alloc o,c.alloc o,d.alloc o,e.alloc o,f.alloc b o⟩
theorem uv {N M:Nat}(i:N<M){s:Sp}{w:World}{c a:List Sp}{v v':Value}{t:Int}{W W':World}(h:mF N M s w c v t W)(d:W.grownBy W' v.ownBlock)(ho:aH W' (M+2) v' a)(n:N<=w.heap.size) :
  mF N M s w a v' t (W'.setCell M v'):=by
 obtain⟨h1,h2,j,l,f,g⟩:=h;have b:∀k,k<M+2->v.ownBlock≠some k:=fun k o e=>by have:=(f.lt k e).1;omega
 have m:v'.ownBlock≠some M:=fun e=>by have:=(ho.lt M e).1;omega
 refine⟨(h1.grown d (b _ O)).ob _ O,(h2.grown d (b _ O)).ob _ O,(j.grown d (b _ O)).set _,(l.grown d (b _ O)).ob _ O,ho.setCell _ _ _ m,?_⟩;refine(g.trans (aR d ?_ (fun k e=> ?_))).setCell (p:=⟨M,0,none⟩) (by show N<=M;omega) _
 ·have:=g.size;omega
 have:=(f.lt k e).1;omega
theorem AO {N M:Nat}(d:N<M){s:Sp}{w:World}{a:List Sp}{v:Value}{t:Int}{W:World}(h:mF N M s w a v t W)(u:Int):mF N M s w a v u (W.setCell ⟨M+1,0,none⟩ u):=by
 obtain⟨h1,h2,f,g,c,i⟩:=h;have b:v.ownBlock≠some (M+1):=fun e=>by have:=(c.lt _ e).1;omega
 exact⟨h1.ob _ O,h2.ob _ O,f.ob _ O,g.set _,c.setCell _ _ _ b,i.setCell (p:=⟨M+1,0,none⟩) (by show N<=M+1;omega) _⟩
set_option maxHeartbeats 1000000 in
theorem qS (w:World) (n₀:Nat) (a:Option Addr) (cap:Nat) (L:List Sp) (s:Sp) (hc:oB w n₀ a L) (hn:n₀<=w.heap.size) :
  Calls Tryz.prog 181 #[.slice a L.length cap,.agg #[s.1,s.2]] w fun e w'=>∃v,e= .returned v/\aH w' w.heap.size v (bt L s)/\Below w.heap.size w w':=by
 obtain⟨C,u⟩:=s;have hb:=(((L3 w.heap.size w).alloc (L4 _) (.cells #[C,u] 149)).alloc FE (.cells #[.slice a L.length cap] 187)).alloc IH (.cells #[.slice a L.length cap] 187);have T:=H hb;have HS:=H (hc.below (hb.mono hn));have a5:=hc.small;clear hb hc;refine(MB (n:=4)).1 ?_;refine callsIn_of_wp_marks Tryz.func181 Z trivial ?_ Z;simp only[Tryz.ntmps181,LG,Lx,M1,Nat.reduceAdd,Nat.reduceSub,M8,M7,Mk,Mf,LD,LQ];refine M9.2 ?_;go_wp2_with fail
 go_step3
 go_wp2_with fail;refine(oo _ _ _ _ _ Z).mono ?_;rintro e w1⟨rfl,rfl⟩;go_wp2_with fail;refine(nk _ n₀ a cap L (C,u) HS.o (by have:=T.size;omega)).mono ?_;rintro e m⟨rfl,y⟩;have an:At w.heap.size 0 C m:=((((At.new (W:=w) (vs:= #[C,u]) 149 Z Z).alloc _).alloc _).below y IH);have bI:At w.heap.size 1 u m:=((((At.new (W:=w) (vs:= #[C,u]) 149 Z Z).alloc _).alloc _).below y IH);have hz:At (w.heap.size+1+1) 0 (.slice a L.length cap) m:=((At.new (W:=(w.alloc (.cells #[C,u] 149)).alloc (.cells #[.slice a L.length cap] 187)) (vs:= #[.slice a L.length cap]) 187 FE Z).below y FE);have ba:=H (HS.below (y.mono (by have:=T.size;omega)));have aF:=H (T.trans (y.mono T.size));have a4:=y.size
 simp at a4
 clear y T HS
 cases htk:cW L (C,u)with
 | false =>
  go_wp2_with fail;rw[Nl];refine gH Z ⟨_,Z,?_,aF.o⟩;unfold bt;rw[htk];exact aH.nil _ _
 | true =>
  have q0:=(an.alloc (.cells #[.slice none 0 0] 51)).1;have q1:=((hz.alloc (.cells #[.slice none 0 0] 51)).alloc (.cells #[C] 3)).1;go_wp2_with fail
  go_step3
  go_wp2_with fail;refine(M9 (n:=4)).1 ?_
  refine om (n₀:=n₀) O Z Z (ba.below (((L3 n₀ m).alloc O _).alloc IH _)) IH
   (CR w.heap.size m.heap.size (C,u) w L) (CS w.heap.size m.heap.size (C,u) w L) (xW (L4 _) IH) (xX (L4 _) IH) ?start ?round ?done ?stop
  case start =>
   refine⟨[],.slice none 0 0,C,⟨(an.alloc _).alloc _,(bI.alloc _).alloc _,(At.new _ Z Z).alloc _,At.new _ FE Z,aH.nil _ _,(aF.alloc O _).alloc IH _⟩,LW _,Z⟩
  case round =>
   rintro l k hk W hl⟨f,v,t,j,hlen,g⟩;have c5:m.heap.size+1<W.heap.size:=j.2.2.2.1.lt;have HV:=H (j.2.2.2.2.1.lt);have HI:=H j;have K:=H g;have HD:=H (sD (t:=u) (at':=t) hk);obtain⟨M,N,rfl,-⟩:=j.2.2.2.2.1.at O;clear j g q0 q1 hz an bI
   gi_wp2
   refine⟨(KeepsOthers.alloc _ _).from _,(L3 n₀ W).alloc O _,fun _ E=>mF w.heap.size m.heap.size (C,u) w f (.slice M f.length N) t E/\At W.heap.size 0 L[k].1 E/\At W.heap.size 1 L[k].2 E,?_,⟨gh HI.o O _,At.new _ Z Z,At.new _ Z Z⟩,?_⟩
   ·intro _ A A' row h q hr;exact⟨mG (B:=_) (L4 _) (by first | omega | (simp;omega)) h.1 q hr,h.2.1.own q (fun r e=>(hr r e).2),h.2.2.own q (fun r e=>(hr r e).2)⟩
   rintro E⟨j,⟨x0,f0⟩,⟨x1,f1⟩⟩;obtain⟨⟨d0,U⟩,⟨d1,V⟩,⟨d2,X⟩,⟨d3,e3⟩,-⟩:=id j;have F:=H j;clear HI j;by_cases c1:L[k].2<=t
   ·gi_wp2_with fail
    exact⟨KeepsFrom.refl _ _,L3 _ _,f,_,t,F.o,O,by rw[K.o,HD.o,L7 c1]⟩
   have bz:=H (NH.1 c1);by_cases c2:u<=L[k].1
   ·gi_wp2_with fail
    exact⟨KeepsFrom.refl _ _,f,_,t,F.o,hlen,by rw[K.o,HD.o,L5 (NH.2 bz.o),L7 c2],Z⟩
   have c6:=H (NH.1 c2)
   gi_wp2_with fail
   have a1:m.heap.size+1<E.heap.size:=F.2.2.2.1.lt;have z:=H (fun o=>gh F.o O o);refine⟨trivial,(CallsIn.inRound l (MB.2 (jf (E.alloc (.cells #[t,L[k].1] 149)) (m.heap.size+2) (E.heap.size+1) (.slice M f.length N) f _ _ [(t,L[k].1)] (z.o _).2.2.2.2.1 O IH ⟨FE,fun _=>⟨E.heap.size,0,Z,O,fun i hi=> ?_⟩⟩ FE ?_))).mono ?_⟩
   ·obtain rfl:i=0:=by simpa using hi
    simp
   ·intro _ ad e
    cases e
    intro e;have:=(F.2.2.2.2.1.lt _ e).2
    simp at this
   rintro e P⟨v',rfl,G,q,-⟩;rw[gI]at G;have a6:=Bh t L[k].1;obtain⟨cb,cf,a2,-⟩:=G.at J7;have cC:=uv O (z.o (.cells #[t,L[k].1] 149)) q G (L4 _);have J:∀b,b<m.heap.size+2\/W.heap.size<=b->(Value.slice M f.length N).ownBlock≠some b:=fun b hb e=>by have:=HV.o _ e;omega
   obtain⟨y1,-⟩:=((show At W.heap.size 1 L[k].2 E from⟨x1,f1⟩).alloc (.cells #[t,L[k].1] 149)).grown q (J _ O);obtain⟨z0,g0⟩:=(z.o (.cells #[t,L[k].1] 149)).2.2.1.grown q (J _ O);obtain⟨z1,g1⟩:=(z.o (.cells #[t,L[k].1] 149)).2.2.2.1.grown q (J _ O);have a3:=((KeepsOthers.alloc E (.cells #[t,L[k].1] 149)).trans (cz (z.o _).2.2.2.2.1 q));have x:Below n₀ E P:=((L3 n₀ E).alloc O _).trans (aR q IH (fun b e=>by have:=HV.o _ e;omega));have c7:=H a3;have aa:=H x;have c8:=H (AO O cC L[k].2);have S:(f++one t L[k].1).length<=k+1:=J7
   clear cC a3 x q J z F HV d0 d1 d2 d3 U V X e3 x0 x1 f0 f1 G;generalize (f++one t L[k].1).length=nl at a2;subst a2
   gi_wp2_with fail
   refine⟨(c7.trans ((KeepsOthers.setCell _ _ _).trans (KeepsOthers.setCell _ _ _))).from _,(aa.setCell (p:=⟨m.heap.size,0,none⟩) (by show n₀<=m.heap.size;omega) _).setCell (p:=⟨m.heap.size+1,0,none⟩) (by show n₀<=m.heap.size+1;omega) _,_,_,_,c8.o,S,?_⟩;rw[K.o,HD.o,L5 (NH.2 bz.o),L5 (NH.2 c6.o),LK]
  case done =>
   rintro d W hD⟨f,v,t,j,hlen,g⟩ I;rw[Nh]at g;have am:w.heap.size<=d:=JL
   obtain⟨M,N,rfl,-⟩:=j.2.2.2.2.1.at O;obtain⟨⟨d0,U⟩,⟨d1,V⟩,⟨d2,X⟩,⟨d3,e3⟩,-⟩:=id j;have F:=H j;have K:=H g;have bd:=H I;have z:=H (fun o=>gh j (by have:=j.1.lt;omega) o);have a1:m.heap.size+1<W.heap.size:=j.2.2.2.1.lt;clear j g I hD q0 q1 hz an bI;go_wp2_with fail;refine(jf (W.alloc (.cells #[t,u] 149)) (m.heap.size+2) (W.heap.size+1) (.slice M f.length N) f _ _ [(t,u)] (z.o _).2.2.2.2.1 O IH ⟨FE,fun _=>⟨W.heap.size,0,Z,O,fun i hi=> ?_⟩⟩ FE ?_).mono ?_
   ·obtain rfl:i=0:=by simpa using hi
    simp
   ·intro _ ad e
    cases e
    intro e;have:=(F.2.2.2.2.1.lt _ e).2
    simp at this
   rintro e P⟨v',rfl,G,q,-⟩;rw[gI]at G;have av:=((KeepsOthers.alloc W (.cells #[t,u] 149)).trans (cz (z.o _).2.2.2.2.1 q)).same d _ bd.o Z;have x:Below w.heap.size w P:=(z.o _).2.2.2.2.2.trans (aR q IH (fun b e=>by have:=(F.2.2.2.2.1.lt _ e).1;omega));have ax:=H av;have aa:=H x;have HO:=H G;clear av x G q d0 d1 d2 d3 U V X e3;go_wp2_with fail;rw[Nl];refine dy Z ax.o ⟨_,Z,?_,dO aa.o (L4 _) am⟩;unfold bt;rw[L7 htk,K.o];exact(HO.own (grownBy_putObj' P d _) (fun r e=>by cases e;exact⟨_,ax.o,Z⟩)).mono O
  case stop =>
   rintro d c k W hD hk⟨f,v,t,j,hlen,g,rfl⟩ I;have am:w.heap.size<=d:=JL
   obtain⟨M,N,rfl,-⟩:=j.2.2.2.2.1.at O;obtain⟨⟨d0,U⟩,⟨d1,V⟩,⟨d2,X⟩,⟨d3,e3⟩,-⟩:=id j;have F:=H j;have K:=H g;have bd:=H I;have z:=H (fun o=>gh j (by have:=j.1.lt;omega) o);have a1:m.heap.size+1<W.heap.size:=j.2.2.2.1.lt;clear j g I hD q0 q1 hz an bI;refine M9.2 ?_;go_wp2_with fail;refine(jf (W.alloc (.cells #[t,u] 149)) (m.heap.size+2) (W.heap.size+1) (.slice M f.length N) f _ _ [(t,u)] (z.o _).2.2.2.2.1 O IH ⟨FE,fun _=>⟨W.heap.size,0,Z,O,fun i hi=> ?_⟩⟩ FE ?_).mono ?_
   ·obtain rfl:i=0:=by simpa using hi
    simp
   ·intro _ ad e
    cases e
    intro e;have:=(F.2.2.2.2.1.lt _ e).2
    simp at this
   rintro e P⟨v',rfl,G,q,-⟩;rw[gI]at G;have av:=((KeepsOthers.alloc W (.cells #[t,u] 149)).trans (cz (z.o _).2.2.2.2.1 q)).same d _ bd.o Z;have x:Below w.heap.size w P:=(z.o _).2.2.2.2.2.trans (aR q IH (fun b e=>by have:=(F.2.2.2.2.1.lt _ e).1;omega));have ax:=H av;have aa:=H x;have HO:=H G;clear av x G q d0 d1 d2 d3 U V X e3;go_wp2_with fail;rw[Nl];refine dy Z ax.o ⟨_,Z,?_,dO aa.o (L4 _) am⟩;unfold bt;rw[L7 htk,K.o];exact(HO.own (grownBy_putObj' P d _) (fun r e=>by cases e;exact⟨_,ax.o,Z⟩)).mono O
end
section
open Go.RowKit Go.Shelf
theorem bq (s:Sc):ao s.gaps=true:=by
 unfold Sc.gaps;by_cases h:cW s.sk (s.fM,s.next)=true
 ·exact(cj h).1
 unfold bt;rw[L5 h];rfl
theorem qT {e:Int}{L:List Sp}(h:aJ e L=true):L.Pairwise fun x y=>x.1<=y.1:=by
 induction L generalizing e with
 | nil=>exact List.Pairwise.nil
 | cons x l a =>
  rw[aB]at h;refine List.Pairwise.cons (fun y hy=> ?_) (a h.2);have:=cv h.2 (show ap y.1 l from⟨y,hy,L9 _,(bX h.2 y hy).2.1⟩);omega
theorem uw (s:Sc)(i j:Nat)(h1:i<=j)(h2:j<s.gaps.length):(s.gaps[i]' O).1<=s.gaps[j].1:=by
 rcases Nat.lt_or_ge i j with h | h
 ·exact MK.1 (qT (bq s)) i j O h2 h
 obtain rfl:i=j:=O
 exact L9 _
theorem mH (s:Sc):s.gaps.length<=1099511627776:=bf (bq s)
end
noncomputable def fO (P:Int->Prop):Nat->Int
 | 0=>0
 | n+1=>fO P n+ @ite _ (P (n:Int)) (Classical.propDecidable _) 1 0
theorem jL (P:Int->Prop)(n:Nat):0<=fO P n:=by
 induction n with
 | zero=>exact L9 _
 | succ n a=>show 0<=fO P n+_;split <;> omega
theorem gn {P Q R:Int->Prop}{n:Nat}(h:∀i,P i↔Q i\/R i)(hd:∀i,Q i->¬R i):fO P n=fO Q n+fO R n:=by
 induction n with
 | zero=>rfl
 | succ n d =>
  show fO P n+_=(fO Q n+_)+(fO R n+_);have h1:=h n;have h2:=hd n;by_cases a:Q n
  ·rw[L7 (h1.2 (.inl a)),L7 a,L5 (h2 a)];omega
  by_cases b:R n
  ·rw[L7 (h1.2 (.inr b)),L5 a,L7 b];omega
  rw[L5 (fun c=>(h1.1 c).elim a b),L5 a,L5 b];omega
theorem xY {P Q:Int->Prop}{n:Nat}(h:∀i,P i->Q i):fO P n<=fO Q n:=by
 induction n with
 | zero=>exact L9 _
 | succ n b =>
  show fO P n+_<=fO Q n+_;by_cases a:P n
  ·rw[L7 a,L7 (h _ a)];omega
  rw[L5 a];split <;> omega
theorem xZ {P:Int->Prop}{n:Nat}(h:∀i,¬P i):fO P n=0:=by
 induction n with
 | zero=>rfl
 | succ n a=>show fO P n+_=0;rw[L5 (h _),a];rfl
theorem mI {a b:Int}(ha:0<=a)(c:a<=b):∀n:Nat,fO (fun i=>a<=i/\i<b) n=max 0 (min b n-a)
 | 0=>by show(0:Int)=_;omega
 | n+1=>by
  have d:=mI ha c n;show fO _ n+_=_;by_cases h:a<=(n:Int)/\(n:Int)<b
  ·rw[L7 h,d];omega
  ·rw[L5 h,d];omega
theorem dP {e:Int}{L:List Sp}(h:aJ e L=true){n:Nat}(a:∀i,ap i L->i<n):aD L=fO (fun i=>ap i L) n:=by
 induction L generalizing e with
 | nil=>exact(xZ fun i=>a8).symm
 | cons x l b =>
  rw[aB]at h;have c:=b h.2 (fun i hi=>a i (mem_cons.2 (.inr hi)));have f:=a (x.2-1) (mem_cons.2 (.inl O));rw[gn (Q:=fun i=>x.1<=i/\i<x.2) (R:=fun i=>ap i l) (fun i=>mem_cons) (fun i hi d=>by have:=cv h.2 d;omega),mI O O,<-c];show x.2-x.1+aD l=_;omega
theorem cm {s:Sc}(h:s.Ok){i:Int}:ap i s.gaps↔(s.fM<=i/\i<s.next)/\¬ap i s.sk:=by
 have h0:=h.u0;have h1:=h.un;have h2:=h.n40;unfold Sc.gaps;by_cases a:s.fM<s.next
 ·exact(cj (bm.2 ⟨h.DX,h0,a,h2⟩)).2 i
 unfold bt;rw[L5 (by rw[bm];rintro⟨_,_,b,_⟩;exact a b)]
 constructor
 ·intro c;exact(a8 c).elim
 omega
theorem kj {e:Int}{L:List Sp}(h:aJ e L=true){g:Sp}(a:g∈L):g.1<g.2:=(bX h g a).2.1
theorem dU (s:Sc)(m:Int){g:Sp}(a:g.1<=g.2):(s.mm m g).1=g.1/\g.1<=(s.mm m g).2/\(s.mm m g).2<=g.2:=by
 unfold Sc.mm;split
 ·exact⟨Z,II,II⟩
 exact⟨Z,a,L9 _⟩
def Sc.all (s:Sc)(m:Int):List Sp:=bD (s.gaps.map (s.mm m))
theorem mJ (x:Sp)(l:List Sp):bD (x::l)=if x.1<x.2 then x::bD l else bD l:=by
 unfold bD;by_cases h:x.1<x.2
 ·rw[L7 h,MQ IT]
 rw[L5 h,MR IT]
theorem oq {f:Sp->Sp}{e:Int}{L:List Sp}(h:aJ e L=true)(hf:∀g∈L,(f g).1=g.1/\g.1<=(f g).2/\(f g).2<=g.2) :
  aJ e (bD (L.map f))=true/\(∀i,ap i (bD (L.map f))↔∃g∈L,g.1<=i/\i<(f g).2):=by
 induction L generalizing e with
 | nil=>exact⟨Z,fun i=>⟨fun h=>(a8 h).elim,fun⟨_,a,_⟩=>by cases a⟩⟩
 | cons x l m =>
  rw[aB]at h;obtain⟨n,f2,f3⟩:=hf x M4;obtain⟨c,d⟩:=m h.2 (fun g a=>hf g (Mg _ a));rw[M6,mJ]
  have j:∀i,(∃g∈x::l,g.1<=i/\i<(f g).2)↔(x.1<=i/\i<(f x).2)\/∃g∈l,g.1<=i/\i<(f g).2:=fun i=>by
   constructor
   ·rintro⟨g,a,k⟩
    rcases Mi.1 a with rfl | a
    ·exact .inl k
    exact .inr ⟨g,a,k⟩
   rintro (k | ⟨g,a,k⟩)
   ·exact⟨x,M4,k⟩
   exact⟨g,Mg _ a,k⟩
  split
  ·rename_i b;refine⟨aB.2 ⟨O,eM c f3⟩,fun i=> ?_⟩;rw[mem_cons,d,j,n]
  rename_i b;refine⟨eM c O,fun i=> ?_⟩;rw[d,j]
  constructor
  ·exact .inr
  rintro (k | k)
  ·omega
  exact k
theorem fE (s:Sc)(m:Int):ao (s.all m)=true/\∀i,ap i (s.all m)↔∃g∈s.gaps,g.1<=i/\i<(s.mm m g).2 :=
 oq (bq s) (fun _ a=>dU s m (Int.le_of_lt (kj (bq s) a)))
theorem de {s:Sc}{m i:Int}(h:ap i (s.all m)):ap i s.gaps:=by
 obtain⟨g,a,h1,h2⟩:=((fE s m).2 i).1 h;have:=dU s m (Int.le_of_lt (kj (bq s) a));exact⟨g,a,h1,O⟩
theorem lu {s:Sc}{m:Int}(hm:1<=m):s.lost m=dx (s.all m) s.ag:=by unfold Sc.lost;rw[L5 O];rfl
theorem bw {s:Sc}(h:s.Ok){m:Int}(hm:1<=m):ao (s.lost m)=true/\∀i,ap i (s.lost m)↔ap i (s.all m)/\¬ap i s.ag:=by
 rw[lu hm];exact gD (fE s m).1 h.Fs
theorem AP (s:Sc)(m:Int){e:Int}{L:List Sp}(h:aJ e L=true):iw s m L=aD L-aD (bD (L.map (s.mm m))):=by
 induction L generalizing e with
 | nil=>rfl
 | cons x l a =>
  have h0:=aB.1 h;obtain⟨b,f2,f3⟩:=dU s m (g:=x) O;rw[M6,mJ];show x.2-x.1-((s.mm m x).2-(s.mm m x).1)+iw s m l=x.2-x.1+aD l-_;rw[a h0.2];split
  ·show _=x.2-x.1+aD l-((s.mm m x).2-(s.mm m x).1+aD (bD (l.map (s.mm m))));omega
  omega
theorem gp (s:Sc){m:Int}(hm:1<=m):s.pipe m=aD s.ag+(aD s.gaps-aD (s.all m)):=by
 unfold Sc.pipe;rw[L5 O,AP s m (bq s)];rfl
theorem Sc.Ok.nat {s:Sc}(h:s.Ok):((s.next.toNat:Nat):Int)=s.next:=by have:=h.u0;have:=h.un;omega
theorem mK {s:Sc}(h:s.Ok)(m:Int)(hm:1<=m):aD s.sk=fO (fun i=>ap i s.sk) s.next.toNat/\aD s.ag=fO (fun i=>ap i s.ag) s.next.toNat/\aD s.gaps=fO (fun i=>ap i s.gaps) s.next.toNat /\
  aD (s.all m)=fO (fun i=>ap i (s.all m)) s.next.toNat/\aD (s.lost m)=fO (fun i=>ap i (s.lost m)) s.next.toNat/\s.next-s.fM=aD s.sk+aD s.gaps:=by
 have a:=h.nat;have h0:=h.u0;have h1:=h.un;have b:=dP h.DX (n:=s.next.toNat) (fun i hi=>by rw[a];exact(h.FY i hi).2);have d:=dP h.Fs (n:=s.next.toNat) (fun i hi=>by rw[a];exact(h.mag i hi).2.1);have c:=dP (bq s) (n:=s.next.toNat) (fun i hi=>by rw[a];exact((cm h).1 hi).1.2);have e:=dP (fE s m).1 (n:=s.next.toNat) (fun i hi=>by rw[a];exact((cm h).1 (de hi)).1.2);have f:=dP (bw h hm).1 (n:=s.next.toNat) (fun i hi=>by rw[a];exact((cm h).1 (de (((bw h hm).2 i).1 hi).1)).1.2);refine⟨b,d,c,e,f,?_⟩;have g:=mI h0 h1 s.next.toNat;rw[gn (Q:=fun i=>ap i s.sk) (R:=fun i=>ap i s.gaps) (fun i=> ?_) (fun i hi j=>((cm h).1 j).2 hi),<-b,<-c]at g
 ·omega
 rw[cm h]
 constructor
 ·intro hi;by_cases hs:ap i s.sk
  ·exact .inl hs
  exact .inr ⟨hi,hs⟩
 rintro (hi | hi)
 ·exact h.FY i hi
 exact hi.1
theorem km {s:Sc}(h:s.Ok){m:Int}(hm:1<=m):0<=s.next-s.fM-aD s.sk-aD (s.lost m)/\s.next-s.fM-aD s.sk-aD (s.lost m)<=s.pipe m/\s.pipe m<=2*(s.next-s.fM-aD s.sk-aD (s.lost m)):=by
 obtain⟨d,e,f,g,j,l⟩:=mK h m hm;rw[gp s hm];have c:=(bw h hm).2
 have o:fO (fun i=>ap i (s.all m)) s.next.toNat=fO (fun i=>ap i (s.lost m)) s.next.toNat+fO (fun i=>ap i (s.all m)/\ap i s.ag) s.next.toNat:=gn (fun i=>by
  rw[c];by_cases a:ap i s.ag
  ·exact⟨fun k=>.inr ⟨k,a⟩,fun k=>by rcases k with k | k;exact(k.2 a).elim;exact k.1⟩
  exact⟨fun k=>.inl ⟨k,a⟩,fun k=>by rcases k with k | k;exact k.1;exact k.1⟩) (fun i k b=>((c i).1 k).2 b.2)
 have p:fO (fun i=>ap i s.ag) s.next.toNat=fO (fun i=>ap i s.ag/\¬ap i (s.all m)) s.next.toNat+fO (fun i=>ap i (s.all m)/\ap i s.ag) s.next.toNat:=gn (fun i=>by
  by_cases a:ap i (s.all m)
  ·exact⟨fun k=>.inr ⟨a,k⟩,fun k=>by rcases k with k | k;exact k.1;exact k.2⟩
  exact⟨fun k=>.inl ⟨k,a⟩,fun k=>by rcases k with k | k;exact k.1;exact k.2⟩) (fun i k b=>k.2 b.1)
 have q:fO (fun i=>ap i s.gaps) s.next.toNat=fO (fun i=>ap i s.gaps/\¬ap i (s.all m)) s.next.toNat+fO (fun i=>ap i (s.all m)) s.next.toNat:=gn (fun i=>by
  by_cases a:ap i (s.all m)
  ·exact⟨fun _=>.inr a,fun _=>de a⟩
  exact⟨fun k=>.inl ⟨k,a⟩,fun k=>by rcases k with k | k;exact k.1;exact(a k).elim⟩) (fun i k b=>k.2 b)
 have r:=xY (n:=s.next.toNat) (P:=fun i=>ap i s.ag/\¬ap i (s.all m)) (Q:=fun i=>ap i s.gaps/\¬ap i (s.all m)) (fun i k=>⟨(cm h).2 ⟨by have:=h.mag i k.1;exact⟨this.1,this.2.1⟩,(h.mag i k.1).2.2⟩,k.2⟩);have t:=jL (fun i=>ap i s.ag/\¬ap i (s.all m)) s.next.toNat;have u:=jL (fun i=>ap i (s.all m)/\ap i s.ag) s.next.toNat;omega
theorem dz {s:Sc}(h:s.Ok){m:Int}(hm:1<=m){x:Sp}(hx:x∈s.lost m):ib x/\s.fM<=x.1/\x.2<=s.next/\bt s.sk x=[x]:=by
 obtain⟨c,e⟩:=bw h hm;have a:=bX c x hx;have b:∀i,x.1<=i->i<x.2->(s.fM<=i/\i<s.next)/\¬ap i s.sk:=fun i h1 h2=>(cm h).1 (de ((e i).1 ⟨x,hx,h1,h2⟩).1);have d:=a.2.1;have f:=b x.1 (L9 _) d;have f2:=b (x.2-1) O O;refine⟨a,f.1.1,O,?_⟩;obtain⟨g1,g⟩:=cj (bm.2 ⟨h.DX,a⟩);refine fZ g1 (jH.2 a) (fun i=> ?_);rw[g,mem_cons]
 constructor
 ·exact fun k=>.inl k.1
 rintro (k | k)
 ·exact⟨k,(b i k.1 k.2).2⟩
 exact(a8 k).elim
theorem ux {s:Sc}(h:s.Ok){x:Sp}(hx:x∈s.sk):s.fM<=x.1/\x.2<=s.next:=by
 have a:=bX h.DX x hx;have b:=h.FY x.1 ⟨x,hx,L9 _,a.2.1⟩;have f2:=h.FY (x.2-1) ⟨x,hx,by have:=a.2.1;omega,O⟩;omega
theorem ou {s t:Sc}(h1:t.sk=s.sk)(h2:t.mark=s.mark):t.mm=s.mm:=by funext m g;unfold Sc.mm;rw[h1,h2]
theorem np {s t:Sc}(h1:t.sk=s.sk)(h2:t.mark=s.mark)(a:t.fM=s.fM)(b:t.next=s.next)(m:Int):t.all m=s.all m:=by
 unfold Sc.all Sc.gaps;rw[ou h1 h2,h1,a,b]
theorem mL {s:Sc}(h:s.Ok){m:Int}(hm:1<=m){j:Sp}(g:j∈s.lost m){x:Sp}(h1:x.1=j.1)(h2:x.1<x.2)(w:x.2<=j.2) :
  s.Ek x=true/\aD ((s.BR x).lost m)=aD (s.lost m)-(x.2-x.1)/\(s.BR x).pipe m=s.pipe m+(x.2-x.1):=by
 obtain⟨c,l⟩:=bw h hm;obtain⟨r,p1,y,-⟩:=dz h hm g;have z:=h.u0;have f:s.Ek x=true:=Sc.zy.2 ⟨O,h2,O⟩;have be:∀i,x.1<=i->i<x.2->ap i (s.lost m):=fun i t u=>⟨j,g,O,O⟩;obtain⟨-,-,n⟩:=h.E4 f;have o:=h.BR f;have d:(s.BR x).all m=s.all m:=np Z Z Z Z m;obtain⟨A,B,C,E,F,G⟩:=mK h m hm;obtain⟨d1,d2,d3,d4,d5,I⟩:=mK o m hm;rw[show(s.BR x).next=s.next from Z]at d1 d2 d3 d4 d5;have J:=h.nat;have K:=mI (a:=x.1) (b:=x.2) O O s.next.toNat
 have p:∀i,ap i (s.BR x).ag↔ap i s.ag\/(x.1<=i/\i<x.2):=fun i=>by
  rw[n]
  constructor
  ·rintro (k | k)
   ·exact .inl k
   exact .inr k.2.1
  rintro (k | k)
  ·exact .inl k
  exact .inr ⟨O,k,((cm h).1 (de ((l i).1 (be i k.1 k.2)).1)).2⟩
 have L:fO (fun i=>ap i (s.lost m)) s.next.toNat=fO (fun i=>ap i ((s.BR x).lost m)) s.next.toNat+fO (fun i=>x.1<=i/\i<x.2) s.next.toNat:=gn (fun i=>by
  rw[(bw o hm).2 i,d,p,l]
  constructor
  ·intro k;by_cases q:x.1<=i/\i<x.2
   ·exact .inr q
   exact .inl ⟨k.1,fun e=>e.elim k.2 q⟩
  rintro (k | k)
  ·exact⟨k.1,fun e=>k.2 (.inl e)⟩
  exact(l i).1 (be i k.1 k.2)) (fun i k e=>by
  have:=(((bw o hm).2 i).1 k).2;rw[p]at this;exact this (.inr e))
 have M:fO (fun i=>ap i (s.BR x).ag) s.next.toNat=fO (fun i=>ap i s.ag) s.next.toNat+fO (fun i=>x.1<=i/\i<x.2) s.next.toNat:=gn p (fun i k e=>((l i).1 (be i e.1 e.2)).2 k);refine⟨f,O,?_⟩;rw[gp _ hm,gp _ hm,d,show(s.BR x).gaps=s.gaps from Z];omega
section
open Go.RowKit Go.Shelf
def bG (lb:Nat)(L:List Sp)(a:Option Addr)(cap:Nat)(W:World):Prop:=oB W W.heap.size a L/\L.length<=cap/\(0<L.length->∀b,a=some b->lb<=b.block)/\(∀b,a=some b->b=⟨b.block,b.off,none⟩)/\(0<L.length->∀b,a=some b->dX W b.block 149)
theorem bG.below {lb:Nat}{L:List Sp}{a:Option Addr}{cap:Nat}{W W':World}(h:bG lb L a cap W)(b:Below W.heap.size W W'):bG lb L a cap W':=⟨(h.1.below b).mono b.size,h.2.1,h.2.2.1,h.2.2.2.1,fun c d e=>(h.2.2.2.2 c d e).of (b.block _ (h.2.2.2.2 c d e).lt)⟩
theorem bG.other {lb C:Nat}{L:List Sp}{a:Option Addr}{cap:Nat}{W W':World}(h:bG lb L a cap W)(f:lh C W W')(n:C<lb):bG lb L a cap W':=by
 refine⟨⟨h.1.small,fun c=> ?_⟩,h.2.1,h.2.2.1,h.2.2.2.1,fun c g e=>(h.2.2.2.2 c g e).of (f.block _ (h.2.2.2.2 c g e).lt (by have:=h.2.2.1 c g e;omega))⟩;obtain⟨b,o,k,l,d⟩:=h.1.cells c;have j:b≠C:=by have:=h.2.2.1 c _ k;dsimp only at this;omega
 have m:=f.block b l j;exact⟨b,o,k,Lb l f.size,fun i hi=>⟨(Lg (a:=⟨b,_,none⟩) m).trans (d i hi).1,(Lg (a:=⟨b,_,none⟩) m).trans (d i hi).2⟩⟩
theorem bG.own {lb base:Nat}{L:List Sp}{a:Option Addr}{n cap:Nat}{W:World}(h:aH W base (.slice a n cap) L)(hs:L.length<=1099511627776)(g:lb<=base):bG lb L a cap W/\n=L.length:=by
 have c:=h.ty;obtain⟨k,l,i,d,j,b⟩:=h.at hs
 cases i
 exact⟨⟨d,j,fun _ f e=>L8 g (b f e).1,fun f e=>(b f e).2.2,fun _=>c⟩,Z⟩
theorem bG.nil (lb:Nat)(W:World):bG lb [] none 0 W:=⟨⟨FE,fun h=>absurd h FE⟩,FE,fun h=>absurd h FE,(fun a e=>by cases e),fun h=>absurd h FE⟩
theorem bG.set {lb B i:Nat}{L:List Sp}{a:Option Addr}{cap:Nat}{W:World}(h:bG lb L a cap W)(b:B<lb)(v:Value):bG lb L a cap (W.setCell ⟨B,i,none⟩ v):=h.other ((lh.refl B W).setCell i v) b
theorem bG.mono {lb b:Nat}{L:List Sp}{a:Option Addr}{cap:Nat}{W:World}(h:bG b L a cap W)(c:lb<=b):bG lb L a cap W:=⟨h.1,h.2.1,fun d f e=>L8 c (h.2.2.1 d f e),h.2.2.2⟩
def BZ (B:Nat)(a:Option Addr)(L:List Sp)(W:World):Prop:=oB W W.heap.size a L/\(0<L.length->∀b,a=some b->b.block≠B)
theorem BZ.BS {B:Nat}{a:Option Addr}{L:List Sp}{W W':World}(h:BZ B a L W)(d:lh B W W'):BZ B a L W':=by
 refine⟨⟨h.1.small,fun e=> ?_⟩,h.2⟩;obtain⟨b,o,f,g,c⟩:=h.1.cells e;have j:=d.block b g (by have:=h.2 e _ f;exact this);exact⟨b,o,f,Lb g d.size,fun i hi=>⟨(Lg (a:=⟨b,_,none⟩) j).trans (c i hi).1,(Lg (a:=⟨b,_,none⟩) j).trans (c i hi).2⟩⟩
theorem cD {B C i:Nat}{v:Value}{w w':World}(h:w.cell? ⟨B,i,none⟩=some v)(c:lh C w w')(b:B≠C):w'.cell? ⟨B,i,none⟩=some v :=
 (Lg (a:=⟨B,i,none⟩) (c.block B (Lj h) b)).trans h
theorem ow {B C i:Nat}{v:Value}{w w':World}(h:At B i v w)(d:lh C w w')(b:B≠C):At B i v w':=by
 have c:=d.block B h.lt b;exact⟨(Lg (a:=⟨B,i,none⟩) c).trans h.1,(NF (a:=⟨B,i,none⟩) c).trans h.2⟩
end
section
open Go.RowKit Go.Shelf
structure WI (N X:Nat)(x1 x2:Int)(w:World)(v:Value)(out:List Sp)(W:World):Prop where
 own:aH W N v out
 x0:At X 0 x1 W
 x1:At X 1 x2 W
 ne:v.ownBlock≠some X
 below:Below N w W
theorem WI.new {N:Nat}{w W:World}{v:Value}{out:List Sp}(h:aH W N v out)(c:Below N w W)(d:N<=W.heap.size)(a b:Int):WI N W.heap.size a b w v out (W.alloc (.cells #[a,b] 149)) :=
 ⟨h.alloc _,At.new _ Z Z,At.new _ Z Z,fun e=>by have:=(h.lt _ e).2;omega,c.alloc d _⟩
theorem WI.cells {N X:Nat}{a b:Int}{w:World}{v:Value}{out:List Sp}{W:World}(h:WI N X a b w v out W):W.cell? X=some (a:Y)/\W.cell? ⟨X,1,none⟩=some (b:Y):=⟨h.x0.1,h.x1.1⟩
theorem WI.drewN {N X:Nat}{a b:Int}{w:World}{v:Value}{out:List Sp}{W:World}(h:WI N X a b w v out W)(n:Nat):WI N X a b w v out (W.drewN n) :=
 ⟨h.own,h.x0,h.x1,h.ne,⟨h.below.os,h.below.tape,h.below.output,h.below.size,h.below.block⟩⟩
theorem WI.alloc {N X:Nat}{a b:Int}{w:World}{v:Value}{out:List Sp}{W:World}(h:WI N X a b w v out W)(c:N<=W.heap.size)(o:Obj):WI N X a b w v out (W.alloc o) :=
 ⟨h.own.alloc _,h.x0.alloc _,h.x1.alloc _,h.ne,h.below.alloc c _⟩
theorem WI.app {N X:Nat}{c d:Int}{w:World}{v v':Value}{out a:List Sp}{W W':World}(h:WI N X c d w v out W)(f:N<=w.heap.size)(ho:aH W' N v' a)(b:W.grownBy W' v.ownBlock)(g:v'.ownBlock=v.ownBlock\/∃k,v'.ownBlock=some k/\W.heap.size<=k):WI N X c d w v' a W':=by
 refine⟨ho,h.x0.grown b h.ne,h.x1.grown b h.ne,?_,h.below.trans (aR b (L8 f h.below.size) (fun k e=>(h.own.lt k e).1))⟩
 rcases g with e | ⟨k,e,j⟩
 ·rw[e];exact h.ne
 rw[e];intro i;cases i;have:=h.x0.lt;omega
theorem oy {e:Int}{L:List Sp}(h:aJ e L=true)(k:Nat):aJ e (L.take k)=true:=by
 induction L generalizing e k with
 | nil=>rw[List.take_nil];rfl
 | cons x l a =>
  cases k with
  | zero=>rfl
  | succ k=>rw[aB]at h;rw[N9,aB];exact⟨h.1,a h.2 k⟩
theorem sE {W W':World}{r:Option Nat}{B i:Nat}{v:Value}(c:W.grownBy W' r)(b:W.cell? ⟨B,i,none⟩=some v)(hr:r≠some B):W'.cell? ⟨B,i,none⟩=some v :=
 (Lg (a:=⟨B,i,none⟩) (c.block B (Lj b) (fun e=>hr e.symm))).trans b
end
end Go.Proofs.YtcmncipikdpnbaaGreatDoor
