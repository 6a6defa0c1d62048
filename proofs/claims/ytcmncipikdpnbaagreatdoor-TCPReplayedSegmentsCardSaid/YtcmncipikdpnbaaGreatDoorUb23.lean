import Derived.Test.YtcmncipikdpnbaaGreatDoorUb22
namespace Go.Proofs.YtcmncipikdpnbaaGreatDoor
section
set_option maxHeartbeats 8000000
set_option maxRecDepth 100000
open Go.RowKit Go.Shelf
attribute [local go_sem] Oper.semAt_some
theorem xx {s:Sc}(ok:s.Ok){m:Int}(a:1<=m):(s.lost m).length<=1099511627776:=by
 have h:=(bt ok a).1;have h1:=aN h;have h2:=rn h;omega
def gG (c:Cn):Prop:=¬(c.sc.pipe c.go<c.cg.win/\c.sc.lost c.go≠[])
theorem vH {σ:Type} (st:σ->Cn) (A:σ->Nat) (n:Nat) (hn:1<=n) (l C:Nat) (f:Fp) (J:σ->World->Prop) (Jx:World->Prop)
  (hJ:∀s W,J s W->kn f (st s) W/\(st s).Ok/\W.cell? C=some (f.C:Y))
  (E:∀s W W',J s W->Below W.heap.size W W'->J s W')
  (hY:∀s x t W,J s W->(st s).sc.pipe (st s).go<(st s).cg.win->(st s).sc.lost (st s).go=x::t->YieldAt Fence.wide (n-1) Tryz.prog l #[.agg #[x.1,(aK (st s).go x).2]] W fun e W' =>
   (e= .returned true/\∃s',A s'<A s/\J s' W')\/(e= .returned false/\Jx W'))
  (w:World) (X:σ) (h0:J X w) :
  CallsIn Fence.wide n Tryz.prog 166 #[.func (.yield l) #[] #[],C] w fun e W'=>(∃v,e= .returned v)/\((∃s,J s W'/\gG (st s))\/Jx W'):=by
 have i:=H hJ;have F:=H E;have HY:=H hY;have ax:=H h0;clear hJ E hY h0;refine NY Tryz.func166 Z trivial ?_ Z;simp only[Tryz.ntmps166,LJ,LC,M4,Nat.reduceAdd,Nat.reduceSub,Mb,Ma,Mp,Mi,LG,LT];refine Mc.2 ?_;go_wp2_with fail
 go_loopg [3] (A X) (fun g pv wr=>∃s,A s=g/\J s wr)
 case atStart=>exact⟨X,Z,ax.o⟩
 case round =>
  clear ax;obtain⟨s,hg,hI⟩:=hrel;have a:=H hI;clear hI;have y:=H (L6 wr.heap.size);have I:=(show(fun W:World=>W.cell? C=some (f.C:Y)/\W.cell? f.C=some (f.S:Y)/\W.cell? ⟨f.C,7,none⟩=some ((st s).go:Y)/\W.cell? ⟨f.C,2,none⟩=some (f.G:Y)) wr from⟨(i.o _ _ a.o).2.2,(i.o _ _ a.o).1.cell 0 _ Z,(i.o _ _ a.o).1.cell 7 _ Z,(i.o _ _ a.o).1.cell 2 _ Z⟩);go_wp2_with fail;refine az (fun W:World=>W.cell? C=some (f.C:Y)/\W.cell? f.C=some (f.S:Y)/\W.cell? ⟨f.C,7,none⟩=some ((st s).go:Y)/\W.cell? ⟨f.C,2,none⟩=some (f.G:Y)) (I) fun u=>?_;clear I;have p:=(L5 wr.heap.size wr).drew;replace a:=H (F.o _ _ _ a.o p);replace y:=H (La y.o p.size);clear p;obtain⟨y0,q⟩:∃y0,y0=wr.drew:=⟨_,Z⟩;rw[<-q]at a y u|-;clear q;refine aA 0 5 11 1 ?_;refine aA 6 12 2 7 ?_;refine aA 13 3 8 14 ?_;refine aM 4 9 ?_;refine aQ 15 ?_;refine aY 10 fun K j=> ?_;go_simp;refine(mQ f.S (f.S+1) (st s).sc (st s).go _ (i.o _ _ a.o).2.1.sc (i.o _ _ a.o).1.sc).mono ?_;rintro e T⟨rfl,p⟩;replace a:=H (F.o _ _ _ a.o p);replace y:=H (La y.o p.size);clear p;go_simp;refine j.out _ _ (⟨(i.o _ _ a.o).2.2,(i.o _ _ a.o).1.cell 0 _ Z,(i.o _ _ a.o).1.cell 7 _ Z,(i.o _ _ a.o).1.cell 2 _ Z⟩) ?_;clear j K u;refine fun u=>aW ?_;refine aY 16 fun K j=> ?_;go_simp;refine(jK f.G (st s).cg _ (i.o _ _ a.o).1.cg).mono ?_;rintro e y2⟨rfl,rfl⟩;go_simp;refine j.out _ _ (⟨(i.o _ _ a.o).2.2,(i.o _ _ a.o).1.cell 0 _ Z,(i.o _ _ a.o).1.cell 7 _ Z,(i.o _ _ a.o).1.cell 2 _ Z⟩) ?_;clear j K u;refine fun u=>aW ?_;refine aQ 17 ?_;refine ay ?_ _;clear u;by_cases hp:(st s).sc.pipe (st s).go<(st s).cg.win
  ·have HP:=H hp;have I:=(show(fun W:World=>W.cell? C=some (f.C:Y)/\W.cell? f.C=some (f.S:Y)/\W.cell? ⟨f.C,7,none⟩=some ((st s).go:Y)) T from⟨(i.o _ _ a.o).2.2,(i.o _ _ a.o).1.cell 0 _ Z,(i.o _ _ a.o).1.cell 7 _ Z⟩);go_wp2_with fail;refine az (fun W:World=>W.cell? C=some (f.C:Y)/\W.cell? f.C=some (f.S:Y)/\W.cell? ⟨f.C,7,none⟩=some ((st s).go:Y)) (I) fun u=>?_;clear I;have p:=(L5 T.heap.size T).drew;replace a:=H (F.o _ _ _ a.o p);replace y:=H (La y.o p.size);clear p;obtain⟨y2,M⟩:∃y2,y2=T.drew:=⟨_,Z⟩;rw[<-M]at a y u|-;clear M;refine aA 0 5 1 6 ?_;refine aA 2 7 3 8 ?_;refine aM 4 9 ?_;refine aY 10 fun K j=> ?_;go_simp;refine(jM f.S (f.S+1) (st s).sc (st s).go _ (i.o _ _ a.o).2.1.sc (i.o _ _ a.o).1.sc).mono ?_;rintro e r⟨v,rfl,hO,p⟩;have a7:=xx (i.o _ _ a.o).2.1.sc (m:=(st s).go) (by have:=(i.o _ _ a.o).2.1.go;omega);obtain⟨la,lc,rfl,N,-,a0⟩:=hO.at a7;replace a:=H (F.o _ _ _ a.o p);replace y:=H (La y.o p.size);clear p;have a9:=H N;clear N a0 hO;go_simp;refine j.out _ _ (⟨(i.o _ _ a.o).2.2,(i.o _ _ a.o).1.cell 0 _ Z,(i.o _ _ a.o).1.cell 7 _ Z⟩) ?_;clear j K u;refine fun u=>aW ?_;refine aQ 11 ?_;refine ay ?_ _;clear u;have bI:=H (i.o _ _ a.o).2.1;have hm:=bI.go;obtain⟨b7,b1⟩:=hm;have aa:=H (fun x (hx:x∈(st s).sc.lost (st s).go)=>(du bI.sc (m:=(st s).go) O hx))
   cases hl:(st s).sc.lost (st s).go with
   | nil =>
    rw[hl]at a9;have HL:=H hl;clear hl a7;go_wp2_with fail;refine Lo (LY Z _ _ _) Z ?_;exact⟨⟨_,Z⟩,.inl ⟨s,a.o,fun h=>h.2 HL.o⟩⟩
   | cons x t =>
    rw[hl]at a9 aa;have HL:=H hl;have b3:((x::t:List Sp).length:Int)=(t.length:Int)+1:=IK
    clear hl a7;obtain⟨b,off,rfl,b5,P⟩:=a9.cells IK;obtain⟨d0,d1⟩:=P 0 IK;clear P;have ab:=(aa.o x IK).1;have b4:=(aa.o x IK).2;simp only[MF,Nr,Nu]at d0 d1;obtain⟨k,z⟩:=x;dsimp only at d0 d1 ab b4;unfold i7 at ab;dsimp only at ab;have c7:=(i.o _ _ a.o).1.cell 7 (st s).go Z;have cC:=(i.o _ _ a.o).2.2;have b6:f.C<r.heap.size:=(i.o _ _ a.o).1.lt;have b8:C<r.heap.size:=Ll cC;have a1:C≠r.heap.size:=O
    have a2:f.C≠r.heap.size:=O
    go_wp2_with fail
    go_region
    have b2:=((L5 r.heap.size r).alloc (L6 _) (.cells #[k,(min z (k+(st s).go):Int)] 149)).drew;have U:=F.o s _ _ a.o b2;have q:=HY.o s (k,z) t _ U HP.o HL.o;unfold aK at q;dsimp only at q;have e0:=(show At r.heap.size 0 k ((r.alloc (.cells #[k,(min z (k+(st s).go):Int)] 149)).drew)from(At.new _ Z rfl:At r.heap.size 0 k (r.alloc (.cells #[k,(min z (k+(st s).go):Int)] 149)))).1;have e1:=(show At r.heap.size 1 (min z (k+(st s).go):Int) ((r.alloc (.cells #[k,(min z (k+(st s).go):Int)] 149)).drew)from(At.new _ Z rfl:At r.heap.size 1 (min z (k+(st s).go):Int) (r.alloc (.cells #[k,(min z (k+(st s).go):Int)] 149)))).1
    go_upto_region 5 with fail
    generalize (r.alloc (.cells #[k,(min z (k+(st s).go):Int)] 149)).drew=w5 at q U e0 e1|-;obtain⟨fn,a5,V,b0,hy,hR⟩:=q;clear b2 d0 d1 c7 cC a1 a2;refine(Mc (n:=n)).1 ?_
    gi_wp2
    refine hR.mono ?_;rintro e w6 (⟨rfl,s',b9,a3⟩ | ⟨rfl,a4⟩)
    ·clear hy hR e0 e1 U
     gi_wp2
     go_wp2_with fail
     go_roundg (A s')
     case measure=>omega
     case rel=>exact⟨s',Z,a3⟩
    clear hy hR e0 e1 U
    gi_wp2
    go_wp2_with fail;refine Lo (LY Z _ _ _) Z ?_;exact⟨⟨_,Z⟩,.inr a4⟩
  have HP:=H hp;go_wp2_with fail
  go_end0
  exact⟨⟨_,Z⟩,.inl ⟨s,a.o,fun h=>absurd h.1 (by have:=HP.o;omega)⟩⟩
end
section
open Go.RowKit Go.Shelf
def xy {σ:Type}(B:Nat)(I:σ->World->Prop)(a:Code->World->Prop)(R:σ->σ->Prop)(s:σ)(W:World):Exit->Act->World->Prop
 | .normal,_,W'=>KeepsFrom B W W'/\∃s',R s' s/\I s' W'
 | .exit i,_,W'=>KeepsFrom B W W'/\a (.exit i) W'
 | _,_,_=>False
theorem AC {σ:Type}{g:Operand}{ps:Array Tmp}{assign body:Code}{Q:Exit->Act->World->Prop}{a:Act}{w:World}{n C:Nat}{f:Fp}(hn:2<=n)(st:σ->Cn)(ms:σ->Nat)
  (hg:a.eval g= .func (.func 166) #[] #[C]){p:Tmp}(a2:ps= #[p])
  (I:σ->World->Prop)(V:Code->World->Prop)(X:OwnFrom w.heap.size I)(N:OwnFrom w.heap.size V)
  (a4:∀s W,I s W->kn f (st s) W/\(st s).Ok/\W.cell? C=some (f.C:Y))(a6:∀s W W',I s W->Below W.heap.size W W'->I s W')
  (s0:σ)(h0:I s0 w)
  (y:∀l s (x:Sp) (t:List Sp) W,w.heap.size<=l->w.heap.size+2<=W.heap.size->I s W->(st s).sc.pipe (st s).go<(st s).cg.win->(st s).sc.lost (st s).go=x::t ->
   assign.wpIn (Fence.wide.inRound l) (n-1-1) Tryz.prog (Exit.then (fun a' W'=>KeepsFrom w.heap.size W W'/\∃Ax:Unit->World->Prop,OwnFrom w.heap.size Ax/\Ax () W'/\∀W2,Ax () W2->body.wpIn (Fence.wide.inRound l) (n-1-1) Tryz.prog (xy w.heap.size I V (fun s' s=>ms s'<ms s) s W2) a' W2) (fun _ _ _=>False))
    { tmps:=a.tmps.setIfInBounds p (.agg #[x.1,(aK (st s).go x).2]),defers:=[] } W)
  (F:∀(b:Nat) (W:World) (s:σ),w.heap.size<=b->I s W->gG (st s)->W.heap[b]? =some (.deferred (some []))->Q .normal { a with defers:={ target:=.collected b,args:= #[] }::a.defers } W)
  (G:∀(b:Nat) (c:Code) (W:World),w.heap.size<=b->V c W->W.heap[b]? =some (.deferred (some []))->c.wpIn Fence.wide n Tryz.prog Q { a with defers:={ target:=.collected b,args:= #[] }::a.defers } W) :
  (Code.rangeFunc g ps assign body).wpIn Fence.wide n Tryz.prog Q a w:=by
 subst a2;refine wpIn_rangeFunc (fun fn b5=> ?_);obtain⟨k,j⟩:∃k:LoopState->Option Code->Loop,k=fun st pe=>{ state:=st,pending:=pe,fn:=fn,tmps:=a.tmps,params:= #[p],assign:=assign,body:=body,defers:=w.heap.size }:=⟨_,Z⟩;obtain⟨u,o⟩:∃u,u=(w.alloc (.deferred (some []))).alloc (.loop (k .ready none)):=⟨_,Z⟩;have hz:u.heap.size=w.heap.size+2:=by rw[o];simp
 have ac:u.heap[w.heap.size+1]? =some (.loop (k .ready none)):=by
  have:=World.alloc_heap_new (w.alloc (.deferred (some []))) (.loop (k .ready none));rw[M1]at this;rw[o];exact this
 have a7:u.heap[w.heap.size]? =some (.deferred (some [])):=by
  rw[o];exact(Mh _ _ _ (by simp)).trans (World.alloc_heap_new w _)
 have ad:I s0 u:=by rw[o];exact X.alloc _ (X.alloc _ h0)
 refine⟨w.heap.size+1,[{ target:=.collected w.heap.size,args:= #[] }],u,{ target:=.fn (.func 166) #[C],args:= #[.func (.yield (w.heap.size+1)) #[] #[]] },u,166,#[.func (.yield (w.heap.size+1)) #[] #[],C],u,?_,?_,fun _ _=>trivial,?_,fun _=>by omega,?_⟩
 ·rw[o,j];exact run_enterLoop_outer _ _ _ _ _
 ·simp only[resolve,hg]
  simp[go_sem]
 ·simp[invoke,go_sem]
 have a9:=vH st ms (n-1) (by omega) (w.heap.size+1) C f
  (fun s W=>I s W/\W.heap[w.heap.size+1]? =some (.loop (k .ready none))/\W.heap[w.heap.size]? =some (.deferred (some [])))
  (fun W=>∃c,V c W/\W.heap[w.heap.size+1]? =some (.loop (k .done (some c)))/\W.heap[w.heap.size]? =some (.deferred (some [])))
  (fun s W h=>a4 s W h.1)
  (fun s W W' h hb=>⟨a6 s W W' h.1 hb,(hb.block _ (L8.1 h.2.1).1).trans h.2.1,(hb.block _ (L8.1 h.2.2).1).trans h.2.2⟩)
  ?_ u s0 ⟨ad,ac,a7⟩
 ·refine a9.mono ?_;rintro e W2⟨⟨v,rfl⟩,(⟨s,⟨hi,A,S⟩,b0⟩ | ⟨c,hi,A,S⟩)⟩
  ·have m:=run_endLoop (P:=Tryz.prog) A (by rw[j];simp);have a5:(k .ready none).pending=none:=by rw[j]
   rw[a5]at m;exact⟨none,_,m,F w.heap.size _ s (L6 _) (X.putObj _ hi (by omega) A Z) b0 ((World.putObj_heap_other (by omega)).trans S)⟩
  have m:=run_endLoop (P:=Tryz.prog) A (by rw[j];simp);have a5:(k .done (some c)).pending=some c:=by rw[j]
  rw[a5]at m;exact⟨some c,_,m,G w.heap.size c _ (L6 _) (N.putObj _ hi (by omega) A Z) ((World.putObj_heap_other (by omega)).trans S)⟩
 rintro s x t W⟨hi,A,S⟩ b1 b2;have ag:w.heap.size+2<=W.heap.size:=by have:=(L8.1 A).1;omega
 subst j;have ak:∀x:Value,(#[p].zip #[x]).foldl (fun t (z:Tmp×Value)=>t.setIfInBounds z.1 z.2) a.tmps=a.tmps.setIfInBounds p x:=fun x=>by simp
 refine gU (r:={ state:=.ready,pending:=none,fn:=fn,tmps:=a.tmps,params:= #[p],assign:=assign,body:=body,defers:=w.heap.size }) (B:=w.heap.size) Z Z Z A (by omega) (N8 (a:={ tmps:=_,defers:=[] }) (by dsimp only;rw[ak];exact y (w.heap.size+1) s x t W (by omega) ag hi b1 b2) ?_);intro e a' W' he
 cases e with
 | normal =>
  obtain⟨J,Ax,al,am,an⟩:=he;have T:=J.same _ _ (by omega) A Z;have b3:=J.same _ _ (L6 _) S Z;have b4:=(L8.1 T).1;refine⟨J,N8 (an _ (al.putObj (s:=()) _ am (by omega) T Z)) ?_⟩;intro e3 a3 K E;have fin:∀(K:World),KeepsFrom w.heap.size (W'.putObj (w.heap.size+1) (.loop { state:=.busy,pending:=none,fn:=fn,tmps:=a.tmps,params:= #[p],assign:=assign,body:=body,defers:=w.heap.size })) K->K.heap[w.heap.size+1]? =some (.loop { state:=.busy,pending:=none,fn:=fn,tmps:=a.tmps,params:= #[p],assign:=assign,body:=body,defers:=w.heap.size })/\K.heap[w.heap.size]? =some (.deferred (some [])):=fun K q=>And.intro (q.same _ _ (by omega) (World.putObj_heap_same b4) Z) (q.same _ _ (L6 _) ((World.putObj_heap_other (by omega)).trans b3) Z)
  cases e3 with
  | normal =>
   obtain⟨q,s',a1,av⟩:=E;obtain⟨U,M⟩:=fin K q;exact⟨q,.inl ⟨Z,s',a1,X.putObj _ av (by omega) U Z,World.putObj_heap_same (L8.1 U).1,(World.putObj_heap_other (by omega)).trans M⟩⟩
  | exit i =>
   obtain⟨U,M⟩:=fin K E.1;exact⟨E.1,.inr ⟨Z,.exit i,N.putObj _ E.2 (by omega) U Z,World.putObj_heap_same (L8.1 U).1,(World.putObj_heap_other (by omega)).trans M⟩⟩
  | ret=>exact E.elim
  | goto t=>exact E.elim
  | panic c=>exact E.elim
  | outgrown=>exact E.elim
 | ret=>exact he.elim
 | exit i=>exact he.elim
 | goto t=>exact he.elim
 | panic c=>exact he.elim
 | outgrown=>exact he.elim
end
section
set_option maxHeartbeats 8000000
set_option maxRecDepth 100000
open Go.RowKit Go.Shelf
attribute [local go_sem] Oper.semAt_some
theorem jr {c:Cn}(ok:c.Ok): -1099511627776<=c.base/\c.base<=1099511627776:=by have:=ok.b0;have:=ok.Ew;omega
theorem js {c:Cn}(ok:c.Ok):c.held.length<=1099511627776:=by have:=ok.hlen;omega
def Br (c:Cn)(v:Int):Prop:=(0<c.allowed/\v=c.allowed)\/(c.allowed<=0/\(c.shut=true/\c.next=c.last)/\v=0)
def xz (c:Cn)(d:Prop):Prop:=d\/(c.allowed<=0/\¬(c.shut=true/\c.next=c.last))
theorem sE {σ:Type} (st:σ->Cn) (z:σ->Nat) (dn:σ->Prop) (n:Nat) (hn:1<=n) (l C:Nat) (f:Fp) (J:σ->World->Prop)
  (V:∀s W,J s W->kn f (st s) W/\(st s).Ok/\W.cell? C=some (f.C:Y))
  (A:∀s W W',J s W->Below W.heap.size W W'->J s W')
  (X:∀s v W,J s W->Br (st s) v->YieldAt Fence.wide (n-1) Tryz.prog l #[.int .i64 v] W fun e W'=>e= .returned true/\∃s',J s' W'/\(0<v->z s'<z s)/\(v=0->dn s'))
  (w:World) (M:σ) (h0:J M w) :
  CallsIn Fence.wide n Tryz.prog 171 #[.func (.yield l) #[] #[],C] w fun e W'=>(∃v,e= .returned v)/\∃s,J s W'/\xz (st s) (dn s):=by
 have i:=H V;have x:=H A;have HY:=H X;have a:=H h0;clear V A X h0;refine NY Tryz.func171 Z trivial ?_ Z;simp only[Tryz.ntmps171,LJ,LC,M4,Nat.reduceAdd,Nat.reduceSub,Mb,Ma,Mp,Mi,LG,LT];refine Mc.2 ?_;have N:=(i.o _ _ a.o).2.2;go_wp2_with fail;refine(jq f (st M) _ (i.o _ _ a.o).1 (i.o _ _ a.o).2.1).mono ?_;rintro e w1⟨rfl,j⟩;replace a:=H (x.o _ _ _ a.o j);clear j;clear N;go_wp2_with fail
 go_loopg [3] (z M) (fun g nv wr=>∃s,z s=g/\nv=((st s).allowed:Y)/\J s wr)
 case atStart=>exact⟨M,Z,Z,a.o⟩
 case round =>
  clear a;obtain⟨s,hg,rfl,hI⟩:=hrel;have a:=H hI;clear hI;by_cases P:0<(st s).allowed
  ·have r:=HY.o s _ _ a.o (.inl ⟨P,Z⟩);obtain⟨fn,E,m,F,hy,G⟩:=r;have y:=H P
   go_upto_region 3 with fail
   refine(Mc (n:=n)).1 ?_
   gi_wp2
   refine G.mono ?_;rintro e w6⟨rfl,s',p,I,-⟩;have I:=I y.o;clear hy G y P a;have a:=H p;clear p;have N:=(i.o _ _ a.o).2.2
   gi_wp2
   go_wp2_with fail;refine(jq f (st s') _ (i.o _ _ a.o).1 (i.o _ _ a.o).2.1).mono ?_;rintro e w7⟨rfl,j⟩;replace a:=H (x.o _ _ _ a.o j);clear j;clear N;go_wp2_with fail
   go_roundg (z s')
   case measure=>omega
   case rel=>exact⟨s',Z,Z,a.o⟩
  cases hsh:(st s).shut with
  | true =>
   have u:=H hsh;clear hsh;have K:=(show(fun W:World=>W.cell? C=some (f.C:Y)/\W.cell? ⟨f.C,9,none⟩=some (true:Y)) wr from⟨(i.o _ _ a.o).2.2,(i.o _ _ a.o).1.cell 9 true (congrArg (fun b=>some (Value.bool b)) u.o)⟩);go_wp2_with fail;refine az (fun W:World=>W.cell? C=some (f.C:Y)/\W.cell? ⟨f.C,9,none⟩=some (true:Y)) (K) fun q=>?_;clear K;have j:=(L5 wr.heap.size wr).drew;replace a:=H (x.o _ _ _ a.o j);clear j;generalize wr.drew=y0 at a q|-;refine aA 0 1 2 3 ?_;refine aA 4 5 6 10 ?_;refine aA 7 11 8 12 ?_;refine aY 9 fun S k=> ?_;go_simp;refine(aZ f (st s) _ (i.o _ _ a.o).1).mono ?_;rintro e T⟨rfl,j⟩;replace a:=H (x.o _ _ _ a.o j);clear j;go_simp;refine k.out _ _ (⟨(i.o _ _ a.o).2.2,(i.o _ _ a.o).1.cell 9 true (congrArg (fun b=>some (Value.bool b)) u.o)⟩) ?_;clear k S q;refine fun q=>aW ?_;refine aY 13 fun S k=> ?_;go_simp;refine(ej f (st s) _ (i.o _ _ a.o).1 (jr (i.o _ _ a.o).2.1) (js (i.o _ _ a.o).2.1)).mono ?_;rintro e y2⟨rfl,rfl⟩;have j:=(L5 T.heap.size T).drew;replace a:=H (x.o _ _ _ a.o j);clear j;generalize T.drew=y2 at a|-;go_simp;refine k.out _ _ (⟨(i.o _ _ a.o).2.2,(i.o _ _ a.o).1.cell 9 true (congrArg (fun b=>some (Value.bool b)) u.o)⟩) ?_;clear k S q;refine fun q=>aW ?_;refine aM 14 15 ?_;refine ay ?_ _;clear q;by_cases he:(st s).next=(st s).last
   ·have hd:((st s).next==(st s).last)=true:=Me.2 he;have r:=HY.o s 0 _ a.o (.inr ⟨O,⟨u.o,he⟩,Z⟩);obtain⟨fn,E,m,F,hy,G⟩:=r;clear he
    go_upto_region 5 with fail
    refine(Mc (n:=n)).1 ?_
    gi_wp2
    refine G.mono ?_;rintro e w6⟨rfl,s',p,-,U⟩;clear hy G
    gi_wp2
    go_wp2_with fail
    go_end0
    exact⟨⟨_,Z⟩,s',p,.inl (U trivial)⟩
   have hd:((st s).next==(st s).last)=false:=Ln.2 he;have HE:=H he;clear he;have y:=H (show ¬0<(st s).allowed by omega);go_wp2_with fail
   go_end0
   exact⟨⟨_,Z⟩,s,a.o,.inr ⟨by have:=y.o;omega,fun h=>HE.o h.2⟩⟩
  | false =>
   have u:=H hsh;clear hsh;have K:=(show(fun W:World=>W.cell? C=some (f.C:Y)/\W.cell? ⟨f.C,9,none⟩=some (false:Y)) wr from⟨(i.o _ _ a.o).2.2,(i.o _ _ a.o).1.cell 9 false (congrArg (fun b=>some (Value.bool b)) u.o)⟩);go_wp2_with fail;refine az (fun W:World=>W.cell? C=some (f.C:Y)/\W.cell? ⟨f.C,9,none⟩=some (false:Y)) (K) fun q=>?_;clear K;have j:=(L5 wr.heap.size wr).drew;replace a:=H (x.o _ _ _ a.o j);clear j;generalize wr.drew=y0 at a q|-;refine aA 0 1 2 3 ?_;refine aM 4 5 ?_;refine aU 6 ?_;refine aU 7 ?_;refine aU 8 ?_;refine aU 9 ?_;refine aU 10 ?_;refine aU 11 ?_;refine aU 12 ?_;refine aU 13 ?_;refine aU 14 ?_;refine aQ 15 ?_;refine ay ?_ _;clear q;have y:=H (show ¬0<(st s).allowed by omega);go_wp2_with fail
   go_end0
   exact⟨⟨_,Z⟩,s,a.o,.inr ⟨by have:=y.o;omega,fun h=>by have:=h.1;rw[u.o]at this;cases this⟩⟩
def vI {σ:Type}(B:Nat)(I:σ->World->Prop)(R:σ->σ->Prop)(s:σ)(W:World):Exit->Act->World->Prop
 | .normal,_,W'=>KeepsFrom B W W'/\∃s',R s' s/\I s' W'
 | _,_,_=>False
theorem yA {σ:Type}{g:Operand}{ps:Array Tmp}{assign body:Code}{Q:Exit->Act->World->Prop}{a:Act}{w:World}{n C:Nat}{f:Fp}(hn:2<=n)(st:σ->Cn)(T:σ->Nat)(dn:σ->Prop)
  (hg:a.eval g= .func (.func 171) #[] #[C]){p:Tmp}(U:ps= #[p])
  (I:σ->World->Prop)(M:OwnFrom w.heap.size I)
  (V:∀s W,I s W->kn f (st s) W/\(st s).Ok/\W.cell? C=some (f.C:Y))(X:∀s W W',I s W->Below W.heap.size W W'->I s W')
  (s0:σ)(h0:I s0 w)
  (u:∀l s (v:Int) W,w.heap.size<=l->w.heap.size+2<=W.heap.size->I s W->Br (st s) v ->
   assign.wpIn (Fence.wide.inRound l) (n-1-1) Tryz.prog (Exit.then (fun a' W'=>KeepsFrom w.heap.size W W'/\∃N:Unit->World->Prop,OwnFrom w.heap.size N/\N () W'/\∀S,N () S->body.wpIn (Fence.wide.inRound l) (n-1-1) Tryz.prog (vI w.heap.size I (fun s' s=>(0<v->T s'<T s)/\(v=0->dn s')) s S) a' S) (fun _ _ _=>False))
    { tmps:=a.tmps.setIfInBounds p v,defers:=[] } W)
  (A:∀(b:Nat) (W:World) (s:σ),w.heap.size<=b->I s W->xz (st s) (dn s)->W.heap[b]? =some (.deferred (some []))->Q .normal { a with defers:={ target:=.collected b,args:= #[] }::a.defers } W) :
  (Code.rangeFunc g ps assign body).wpIn Fence.wide n Tryz.prog Q a w:=by
 subst U;refine wpIn_rangeFunc (fun fn b2=> ?_);obtain⟨j,k⟩:∃j:LoopState->Option Code->Loop,j=fun st pe=>{ state:=st,pending:=pe,fn:=fn,tmps:=a.tmps,params:= #[p],assign:=assign,body:=body,defers:=w.heap.size }:=⟨_,Z⟩;obtain⟨q,m⟩:∃q,q=(w.alloc (.deferred (some []))).alloc (.loop (j .ready none)):=⟨_,Z⟩;have hz:q.heap.size=w.heap.size+2:=by rw[m];simp
 have ac:q.heap[w.heap.size+1]? =some (.loop (j .ready none)):=by
  have:=World.alloc_heap_new (w.alloc (.deferred (some []))) (.loop (j .ready none));rw[M1]at this;rw[m];exact this
 have a2:q.heap[w.heap.size]? =some (.deferred (some [])):=by
  rw[m];exact(Mh _ _ _ (by simp)).trans (World.alloc_heap_new w _)
 have ad:I s0 q:=by rw[m];exact M.alloc _ (M.alloc _ h0)
 refine⟨w.heap.size+1,[{ target:=.collected w.heap.size,args:= #[] }],q,{ target:=.fn (.func 171) #[C],args:= #[.func (.yield (w.heap.size+1)) #[] #[]] },q,171,#[.func (.yield (w.heap.size+1)) #[] #[],C],q,?_,?_,fun _ _=>trivial,?_,fun _=>by omega,?_⟩
 ·rw[m,k];exact run_enterLoop_outer _ _ _ _ _
 ·simp only[resolve,hg]
  simp[go_sem]
 ·simp[invoke,go_sem]
 have a4:=sE st T dn (n-1) (by omega) (w.heap.size+1) C f
  (fun s W=>I s W/\W.heap[w.heap.size+1]? =some (.loop (j .ready none))/\W.heap[w.heap.size]? =some (.deferred (some [])))
  (fun s W h=>V s W h.1)
  (fun s W W' h hb=>⟨X s W W' h.1 hb,(hb.block _ (L8.1 h.2.1).1).trans h.2.1,(hb.block _ (L8.1 h.2.2).1).trans h.2.2⟩)
  ?_ q s0 ⟨ad,ac,a2⟩
 ·refine a4.mono ?_;rintro e S⟨⟨v,rfl⟩,s,⟨hi,F,hd⟩,a6⟩;have y:=run_endLoop (P:=Tryz.prog) F (by rw[k];simp);have a5:(j .ready none).pending=none:=by rw[k]
  rw[a5]at y;exact⟨none,_,y,A w.heap.size _ s (L6 _) (M.putObj _ hi (by omega) F Z) a6 ((World.putObj_heap_other (by omega)).trans hd)⟩
 rintro s v W⟨hi,F,hd⟩ a7;have ag:w.heap.size+2<=W.heap.size:=by have:=(L8.1 F).1;omega
 subst k;have ak:∀x:Value,(#[p].zip #[x]).foldl (fun t (z:Tmp×Value)=>t.setIfInBounds z.1 z.2) a.tmps=a.tmps.setIfInBounds p x:=fun x=>by simp
 refine gU (r:={ state:=.ready,pending:=none,fn:=fn,tmps:=a.tmps,params:= #[p],assign:=assign,body:=body,defers:=w.heap.size }) (B:=w.heap.size) Z Z Z F (by omega) (N8 (a:={ tmps:=_,defers:=[] }) (by dsimp only;rw[ak];exact u (w.heap.size+1) s v W (by omega) ag hi a7) ?_);intro e a' W' he
 cases e with
 | normal =>
  obtain⟨E,N,al,am,an⟩:=he;have K:=E.same _ _ (by omega) F Z;have a9:=E.same _ _ (L6 _) hd Z;have b0:=(L8.1 K).1;refine⟨E,N8 (an _ (al.putObj (s:=()) _ am (by omega) K Z)) ?_⟩;intro e3 a3 G J;have fin:∀(G:World),KeepsFrom w.heap.size (W'.putObj (w.heap.size+1) (.loop { state:=.busy,pending:=none,fn:=fn,tmps:=a.tmps,params:= #[p],assign:=assign,body:=body,defers:=w.heap.size })) G->G.heap[w.heap.size+1]? =some (.loop { state:=.busy,pending:=none,fn:=fn,tmps:=a.tmps,params:= #[p],assign:=assign,body:=body,defers:=w.heap.size })/\G.heap[w.heap.size]? =some (.deferred (some [])):=fun G o=>And.intro (o.same _ _ (by omega) (World.putObj_heap_same b0) Z) (o.same _ _ (L6 _) ((World.putObj_heap_other (by omega)).trans a9) Z)
  cases e3 with
  | normal =>
   obtain⟨o,s',a1,av⟩:=J;obtain⟨a0,b1⟩:=fin G o;exact⟨o,Z,s',⟨M.putObj _ av (by omega) a0 Z,World.putObj_heap_same (L8.1 a0).1,(World.putObj_heap_other (by omega)).trans b1⟩,a1⟩
  | exit i=>exact J.elim
  | ret=>exact J.elim
  | goto t=>exact J.elim
  | panic c=>exact J.elim
  | outgrown=>exact J.elim
 | ret=>exact he.elim
 | exit i=>exact he.elim
 | goto t=>exact he.elim
 | panic c=>exact he.elim
 | outgrown=>exact he.elim
end
section
open Go.RowKit Go.Shelf
theorem ql {n:Nat}{P:Program}{row:String}{args:Array Value}{w:World}{R:Value->World->Prop}(h:Rows P row args w R):RowsIn Fence.wide n P row args w R :=
 fun c cs _=>let ⟨v,w',r,s⟩:=h c cs;⟨v,w',r,stepsIn_wide.2 s⟩
theorem mX {l n:Nat}(b:1<=n){P:Program}{o:Oper}{a:Act}{K:Act->World->Prop}{Q:Exit->Act->World->Prop}{r:Result Next}(h:o.upon P a K Q r):o.uponIn (Fence.wide.inRound l) n P a K Q r:=by
 cases r with
 | ok x w' =>
  cases x with
  | value v=>exact h
  | skip=>exact h
  | defer d=>exact h
  | enter f args=>exact⟨fun _=>b,CallsIn.inRound l (ME.2 h)⟩
  | row row args=>exact⟨fun _=>b,ql h⟩
  | _=>exact h.elim
 | halt x w' =>
  cases x with
  | panic v=>exact h
  | _=>exact h.elim
theorem mY {l n:Nat}(k:1<=n){P:Program}{b:Array Oper}{Q:Exit->Act->World->Prop}{i:Nat}{K j:Act->World->Prop}{a:Act}{w:World}(m:∀o∈b,∀c,o.op≠ .defer c)(e:¬LetsOut Q)
  (g:∀a w,K a w->j a w)(h:wpOp P b Q i K a w):wpOpIn (Fence.wide.inRound l) n P b Q i j a w:=by
 unfold wpOp at h;unfold wpOpIn
 cases ho:b[i]? with
 | none=>rw[ho]at h;exact g _ _ h
 | some o =>
  rw[ho]at h;dsimp only at h|-;by_cases hw:Region.wanted o (yielded b a.tmps)=true
  ·rw[L9 hw]at h|-
   rcases h with h | ⟨-,h⟩
   ·refine Oper.wpIn_mono g ⟨fun _ _=>trivial,?_⟩;rw[Oper.semAt_eq _ _ _ (m o (Array.mem_of_getElem? ho))];exact mX k h
   exact absurd h e
  rw[L7 hw]at h|-;exact⟨fun _ _=>trivial,g _ _ h⟩
theorem gH {l n:Nat}(j:1<=n){P:Program}{k:Region.Mode}{e:Array Oper}{Q:Exit->Act->World->Prop}(m:∀o∈e,∀c,o.op≠ .defer c)(g:¬LetsOut Q) :
  ∀(fuel:Nat) (b:Array Bool) (a:Act) (w:World),wpAny P k e Q fuel b a w->wpAnyIn (Fence.wide.inRound l) n P k e Q fuel b a w
 | 0,_,_,_,h=>h
 | fuel+1,_,_,_,h=>⟨h.1,fun i hi=>mY j m g (fun p w' q=>gH j m g fuel _ p w' q) (h.2 i hi)⟩
def BN (Q:Exit->Act->World->Prop):Exit->Act->World->Prop
 | .normal,a,w=>Q .normal a w
 | _,_,_=>False
def tY (a:Array Oper):Bool:=a.toList.all fun o=>match o.op with | .defer _=>false | _=>true
theorem pM {a:Array Oper}(h:tY a=true):∀o∈a,∀c,o.op≠ .defer c:=by
 intro o b c e;have:=List.all_eq_true.1 h o Jr;rw[e]at this
 cases this
theorem cc {l n id:Nat}(g:1<=n){P:Program}{b:Array Oper}{Q:Exit->Act->World->Prop}{S:World->Prop}{a:Act}{w:World}(i:P.follows .mixedOrders=true)(j:tY b=true)(k:S w.drew)
  (h:S w.drew->wpAnyH P .any b (BN Q) S b.size (Array.replicate b.size false) a w.drew):(Code.region id b true).wpIn (Fence.wide.inRound l) n P Q a w :=
 N8 (Q:=BN Q) (wpIn_region_any i (gH g (pM j) (fun⟨_,_,h⟩=>h) _ _ _ _ (wpAny_of_held _ _ _ _ (h k)))) (fun e a w h=>by cases e <;> first | exact h | exact h.elim)
theorem br {f:Fp}{c:Cn}{W W':World}(h:kn f c W)(i:ot f W W')(B:Nat):KeepsFrom B W W':=by
 refine⟨i.size,fun k o _ g j=> ?_⟩
 have a:∀b t,dW W b t->k≠b:=by
  rintro b t⟨l,m,e⟩ rfl;rw[g]at e
  cases e
  cases j
 rw[i.block k (L8.1 g).1 (a _ _ h.Cx) (a _ _ h.Dh) (a _ _ h.Dm) (a _ _ h.Dn) (a _ _ h.Dp) (a _ _ h.Dq)];exact g
theorem kn.marks {f:Fp}{c:Cn}{W W':World}{row:Option Nat}(h:kn f c W)(g:W.grownBy W' row)(i:∀r,row=some r->dy<=r/\∃o:Obj,W.heap[r]? =some o/\o.isCells=false):kn f c W':=by
 have a:∀b t,dW W b t->W'.heap[b]? =W.heap[b]? :=by
  rintro b t⟨p,q,e⟩;refine g.block b (L8.1 e).1 (fun he=> ?_);obtain⟨-,o,j,l⟩:=i b he.symm;rw[e]at j
  cases j
  cases l
 exact h.keep ⟨g.os,g.tape,g.output,g.size,fun k m=>g.block k (Ld m h.gl.top) (fun e=>by have:=(i k e.symm).1;omega)⟩ g.size (fun b n=>a b _ n) (a _ _ h.Cx) (a _ _ h.Dh) (a _ _ h.Dm) (a _ _ h.Dn) (a _ _ h.Dp) (a _ _ h.Dq)
theorem aL.marks {W W':World}{base:Nat}{v:Value}{L:List Sg}{row:Option Nat}(h:aL W base v L)(g:W.grownBy W' row)(j:∀r,row=some r->∃o:Obj,W.heap[r]? =some o/\o.isCells=false):aL W' base v L:=by
 obtain⟨M,e,h⟩:=h
 have a:∀b t,dW W b t->W'.heap[b]? =W.heap[b]? :=by
  rintro b t⟨n,p,e⟩;refine g.block b (L8.1 e).1 (fun he=> ?_);obtain⟨o,i,l⟩:=j b he.symm;rw[e]at i
  cases i
  cases l
 exact⟨M,e,h.keep g.size (fun b m=>a b _ m) (fun k e=>a k _ (h.ty k e))⟩
theorem ot.marks {f:Fp}{w W W':World}{row:Option Nat}(h:ot f w W)(a:W.grownBy W' row)(b:∀r,row=some r->w.heap.size<=r):ot f w W':=h.grown a b
theorem aL.xs {f:Fp}{c:Cn}{w w':World}{base:Nat}{v:Value}{L:List Sg}(h:aL w base v L)(b:kn f c w)(a:ot f w w'):aL w' base v L:=by
 obtain⟨M,e,h⟩:=h;exact⟨M,e,h.xs b a⟩
end
section
open Go.RowKit Go.Shelf
def Cy (B:Nat)(v:Value)(t:TypeId)(W:World):Prop:=W.heap[B]? =some (.cells #[v] t (0,0))
namespace Cy
variable {B : Nat} {v : Value} {t : TypeId} {W W' : World}
theorem new (w:World)(v:Value)(t:TypeId):Cy w.heap.size v t (w.alloc (.cells #[v] t)):=Ls _ _
theorem ty (h:Cy B v t W):dW W B t:=⟨_,_,h⟩
theorem lt (h:Cy B v t W):B<W.heap.size:=h.ty.lt
theorem cell (h:Cy B v t W):W.cell? B=some v:=by rw[Lq _ _ _ _ _ _ h];rfl
theorem free (h:Cy B v t W):W.frozen? B=false:=LW _ _ _ _ _ h
theorem below (h:Cy B v t W)(a:Below W.heap.size W W'):Cy B v t W':=(a.block B h.lt).trans h
theorem set (h:Cy B v t W)(u:Value):Cy B u t (W.setCell B u):=by
 unfold Cy;rw[LK _ _ _ _ _ _ h];rfl
theorem other (h:Cy B v t W){C:Nat}(a:B≠C)(i:Nat)(u:Value):Cy B v t (W.setCell ⟨C,i,none⟩ u):=(((nF.refl C W).setCell i u).block B h.lt a).trans h
theorem xs {f:Fp}{c:Cn}(h:Cy B v t W)(a:kn f c W)(b:ot f W W')(h1:t≠85)(h2:t≠135)(e:t≠142)(g:t≠132)(i:t≠120)(j:t≠5):Cy B v t W' :=
 (b.block B h.lt (h.ty.ne a.Cx h1) (h.ty.ne a.Dh h2) (h.ty.ne a.Dm e) (h.ty.ne a.Dn g) (h.ty.ne a.Dp i) (h.ty.ne a.Dq j)).trans h
theorem grown (h:Cy B v t W){r:Option Nat}(a:W.grownBy W' r)(b:∀k,r=some k->dW W k 53)(g:t≠53):Cy B v t W' :=
 (a.block B h.lt (fun e=>h.ty.ne (b B e.symm) g Z)).trans h
theorem marks (h:Cy B v t W){row:Option Nat}(b:W.grownBy W' row)(g:∀r,row=some r->∃o:Obj,W.heap[r]? =some o/\o.isCells=false):Cy B v t W':=by
 refine(b.block B h.lt (fun e=> ?_)).trans h;obtain⟨o,a,i⟩:=g B e.symm;rw[h]at a
 cases a
 cases i
end Cy
structure Pd (f:Fp)(now:Int)(w:World)(c:Cn)(L:List Sg)(W:World):Prop where
 cn:kn f c W
 ok:c.Ok
 bc:Cy w.heap.size f.C 32 W
 bn:Cy (w.heap.size+1) now 3 W
 bl:∃v,Cy (w.heap.size+2) v 44 W/\aL W (w.heap.size+3) v L
 ch:ot f w W
 top:dy<=w.heap.size
namespace Pd
variable {f : Fp} {now : Int} {w : World} {c d : Cn} {L : List Sg} {W W' : World}
theorem below (h:Pd f now w c L W)(a:Below W.heap.size W W'):Pd f now w c L W':=by
 obtain⟨v,h1,h2⟩:=h.bl;exact⟨h.cn.below a,h.ok,h.bc.below a,h.bn.below a,⟨v,h1.below a,h2.below a⟩,h.ch.trans (.Da a),h.top⟩
theorem step (h:Pd f now w c L W)(b:kn f d W')(ok:d.Ok)(a:ot f W W'):Pd f now w d L W':=by
 obtain⟨v,h1,h2⟩:=h.bl;exact⟨b,ok,h.bc.xs h.cn a D D D D D D,h.bn.xs h.cn a D D D D D D,⟨v,h1.xs h.cn a D D D D D D,h2.xs h.cn a⟩,h.ch.trans a,h.top⟩
theorem marks (h:Pd f now w c L W){row:Option Nat}(b:W.grownBy W' row)(g:∀r,row=some r->w.heap.size<=r/\∃o:Obj,W.heap[r]? =some o/\o.isCells=false):Pd f now w c L W':=by
 obtain⟨v,h1,h2⟩:=h.bl;have a:=fun r e=>(g r e).2;exact⟨h.cn.marks b (fun r e=>⟨La h.top (g r e).1,(g r e).2⟩),h.ok,h.bc.marks b a,h.bn.marks b a,⟨v,h1.marks b a,h2.marks b a⟩,h.ch.marks b (fun r e=>(g r e).1),h.top⟩
theorem size (h:Pd f now w c L W):w.heap.size+2<W.heap.size:=by
 obtain⟨v,h1,-⟩:=h.bl;exact h1.lt
theorem emit (h:Pd f now w c L W){M:List cP}{v v':Value}{x:cP}(s:M.map (·.1)=L)(j:cI W (w.heap.size+3) v M)(l:cI W' (w.heap.size+3) v' (M++[x]))(b:W.grownBy W' v.ownBlock) :
  Pd f now w c (L++[x.1]) (W'.setCell ⟨w.heap.size+2,0,none⟩ v')/\KeepsFrom (w.heap.size+3) W (W'.setCell ⟨w.heap.size+2,0,none⟩ v'):=by
 obtain⟨u,h1,h2⟩:=h.bl;have a:∀k,v.ownBlock=some k->dW W k 53:=j.ty;have y:∀k,v.ownBlock=some k->dW W k 53/\dy<=k:=fun k e=>⟨j.ty k e,by have:=(j.lt k e).1;have:=h.top;omega⟩;have m:=h1.grown b a D;have n:=h.cn.grown b y;have g:nF (w.heap.size+2) W' (W'.setCell ⟨w.heap.size+2,0,none⟩ v'):=(nF.refl _ _).setCell 0 v';have z:=h.size
 have A:KeepsFrom (w.heap.size+3) W (W'.setCell ⟨w.heap.size+2,0,none⟩ v'):=by
  refine⟨La b.size g.size,fun k o C p q=> ?_⟩;have i:=(L8.1 p).1;rw[g.block k (Ld i b.size) O,b.block k i (fun e=> ?_)]
  ·exact p
  obtain⟨E,F,r⟩:=a k e.symm;rw[p]at r
  cases r
  cases q
 refine⟨⟨n.beside m.ty g (by have:=h.top;omega) D D D D D D D,h.ok,(h.bc.grown b a D).other O _ _,(h.bn.grown b a D).other O _ _,⟨v',m.set v',?_⟩,(h.ch.grown b (fun k e=>by have:=(j.lt k e).1;omega)).GU O _ _,h.top⟩,A⟩;refine⟨M++[x],by rw[LQ,s];rfl,l.keep g.size (aG.Dj g m.ty D) (fun k e=>g.block k (l.lt k e).2 (by have:=(l.lt k e).1;omega))⟩
end Pd
end
section
open Go.RowKit Go.Shelf
def iH (c:Cn):Nat:=(aD (c.sc.lost c.go)).toNat
def zY (c:Cn)(x:Sp):Cn:={ c.tq with sc:=c.sc.ret (aK c.go x),tm:=c.tm.rl }
theorem pN {c:Cn}(ok:c.Ok):0<=aD (c.sc.lost c.go)/\aD (c.sc.lost c.go)<=c.flight/\aD (c.sc.lost c.go)<=1099511627776:=by
 have a:=ok.go;obtain⟨p1,-,-⟩:=kW ok.sc (m:=c.go) O;have b:=aN ok.sc.Eg;have e:=aN (bt ok.sc (m:=c.go) O).1;unfold Cn.flight;omega
theorem jt {c:Cn}(ok:c.Ok):iH c<c.flight.toNat+1:=by
 have:=pN ok;unfold iH;omega
theorem pO {c:Cn}(ok:c.Ok){x:Sp}{t:List Sp}(h:c.sc.lost c.go=x::t) :
  c.sc.Eh (aK c.go x)=0/\iH (zY c x)<iH c/\(zY c x).Ok/\0<=x.1/\x.1<=(aK c.go x).2/\(aK c.go x).2<=1099511627776:=by
 have k:=ok.go;have g:x∈c.sc.lost c.go:=by rw[h];simp
 obtain⟨i,l,n,-⟩:=du ok.sc (m:=c.go) O g;unfold i7 at i;have h0:=ok.sc.u0;have o:=ok.sc.n40;have a:(aK c.go x).2=min x.2 (x.1+c.go):=Z;obtain⟨b,j,-⟩:=mE ok.sc (m:=c.go) O g (x:=aK c.go x) Z (by rw[a];show x.1<_;omega) Jo;have p:=pN ok;refine⟨by unfold Sc.Eh;rw[L9 b],?_,(ok.tq.DH (ok.sc.ret _)).DY (Tm.A3 ok.tm),O,Jo,Jo⟩;unfold iH
 have e:(zY c x).sc.lost (zY c x).go=(c.sc.Di (aK c.go x)).lost c.go:=by
  show(c.sc.ret (aK c.go x)).lost c.go=_;unfold Sc.ret;rw[L9 b]
 rw[e,j];have h1:(aK c.go x).1=x.1:=Z;have h2:=aN (bt (ok.sc.Di b) (m:=c.go) O).1;omega
theorem jS {c:Cn}(ok:c.Ok){x:Sp}{t:List Sp}(b:c.sc.pipe c.go<c.cg.win)(a:c.sc.lost c.go=x::t)(k:Nat)(l:List Sg):oi (k+1) c l=oi k (zY c x) (l++[c.nB x.1 (aK c.go x).2]):=by
 rw[oi,L9 b,a];dsimp only;rw[L9 (pO ok a).1];rfl
theorem jT {c:Cn}(h:gG c)(k:Nat)(l:List Sg):oi k c l=(c,l):=by
 cases k with
 | zero=>rfl
 | succ k =>
  rw[oi];split
  ·rename_i a
   cases hl:c.sc.lost c.go with
   | nil=>rfl
   | cons x t=>exact absurd ⟨a,by rw[hl];simp⟩ h
  rfl
def I1 (f:Fp)(now:Int)(w:World)(C:Nat)(R:Cn×List Sg)(s:Cn×List Sg)(W:World):Prop :=
 Pd f now w s.1 s.2 W/\Cy C f.C 32 W/\s.2.length+iH s.1<=1099511627776/\∃k,iH s.1<k/\oi k s.1 s.2=R
theorem BO {f:Fp}{now:Int}{w:World}{C:Nat}{R:Cn×List Sg}{B:Nat}(g:w.heap.size<=B):OwnFrom B (I1 f now w C R):=fun _ _ _ _ h b a =>
 ⟨h.1.marks b (fun r e=>⟨La g (a r e).1,(a r e).2⟩),h.2.1.marks b (fun r e=>(a r e).2),h.2.2⟩
theorem yB {f:Fp}{now:Int}{w:World}{C:Nat}{R s:Cn×List Sg}{W W':World}(h:I1 f now w C R s W)(a:Below W.heap.size W W'):I1 f now w C R s W':=⟨h.1.below a,h.2.1.below a,h.2.2⟩
def fT (s:Cn×List Sg×Bool):Nat:=s.1.kc.toNat
def iZ (b:Bool):Nat:=if b=true then 0 else 1
def I2 (f:Fp)(now:Int)(w:World)(C:Nat)(R:Cn×List Sg)(s:Cn×List Sg×Bool)(W:World):Prop :=
 Pd f now w s.1 s.2.1 W/\Cy C f.C 32 W/\s.2.1.length+fT s+iZ s.2.2<=1200000000000/\(if s.2.2=true then(s.1,s.2.1)=R/\s.1.next=s.1.last+1 else ∃k,fT s<k/\Cb now (nA now k s.1 s.2.1).1 (nA now k s.1 s.2.1).2=R)
theorem BP {f:Fp}{now:Int}{w:World}{C:Nat}{R:Cn×List Sg}{B:Nat}(g:w.heap.size<=B):OwnFrom B (I2 f now w C R):=fun _ _ _ _ h b a =>
 ⟨h.1.marks b (fun r e=>⟨La g (a r e).1,(a r e).2⟩),h.2.1.marks b (fun r e=>(a r e).2),h.2.2⟩
theorem yC {f:Fp}{now:Int}{w:World}{C:Nat}{R:Cn×List Sg}{s:Cn×List Sg×Bool}{W W':World}(h:I2 f now w C R s W)(a:Below W.heap.size W W'):I2 f now w C R s W':=⟨h.1.below a,h.2.1.below a,h.2.2⟩
theorem yD (f:Fp)(w:World) :
  Calls Tryz.prog 135 #[f.C] w fun e w'=>e= .returned (.func (.func 166) #[] #[w.heap.size])/\w'=w.alloc (.cells #[f.C] 32):=by
 go_enter Tryz.func135,Tryz.ntmps135
 go_wp2
 go_ret;exact⟨Z,Z⟩
theorem vJ (f:Fp)(w:World) :
  Calls Tryz.prog 138 #[f.C] w fun e w'=>e= .returned (.func (.func 171) #[] #[w.heap.size])/\w'=w.alloc (.cells #[f.C] 32):=by
 go_enter Tryz.func138,Tryz.ntmps138
 go_wp2
 go_ret;exact⟨Z,Z⟩
theorem mZ {c:Cn}(ok:c.Ok){now v:Int}(g:Br c v):0<=v/\v<=1000/\(0<v->(c.out now v).kc.toNat<c.kc.toNat):=by
 have m:=ok.go;have i:=ok.Ey
 rcases g with⟨h1,rfl⟩ | ⟨-,-,rfl⟩
 ·refine⟨O,O,fun _=> ?_⟩
  have j:c.allowed<=c.kc:=by
   have:=ok.kc;unfold Cn.allowed;split
   ·omega
   split
   ·omega
   split <;> omega
  have n:=ok.gi;have o:=ok.b1;have a:(c.out now c.allowed).last=c.last:=JF
  have k:c.kc=max 0 (c.last-c.next):=Z;have l:c.next+c.allowed<=c.ms c.allowed/\c.ms c.allowed<=c.next+c.allowed+1:=by unfold Cn.ms;split <;> omega
  have b:(c.out now c.allowed).next=c.ms c.allowed:=by
   show(c.sc.sent (c.ms c.allowed)).next=_;unfold Sc.sent Sc.Do;have e:c.sc.next=c.next:=Z;rw[L9 (Le ⟨O,O⟩)]
  unfold Cn.kc at *;rw[a,b];omega
 exact⟨O,O,fun h=>absurd h D⟩
theorem sF {c:Cn}(h:c.next=c.last+1){v:Int}(a:Br c v):False:=by
 have b:c.allowed<=max 0 c.kc:=by
  unfold Cn.allowed;split
  ·omega
  split
  ·omega
  split <;> omega
 have e:c.kc=max 0 (c.last-c.next):=Z
 rcases a with⟨h1,-⟩ | ⟨-,h2,-⟩ <;> omega
theorem AD {now:Int}{R:Cn×List Sg}{s:Cn×List Sg×Bool}{v:Int}(ok:s.1.Ok)(j:Br s.1 v)(h:if s.2.2=true then(s.1,s.2.1)=R/\s.1.next=s.1.last+1 else ∃k,fT s<k/\Cb now (nA now k s.1 s.2.1).1 (nA now k s.1 s.2.1).2=R) :
  (0<v->fT (s.1.out now v,s.2.1++[s.1.kr v],decide (v=0))<fT s) /\
  (if decide (v=0)=true then(s.1.out now v,s.2.1++[s.1.kr v])=R/\(s.1.out now v).next=(s.1.out now v).last+1 else ∃k,fT (s.1.out now v,s.2.1++[s.1.kr v],decide (v=0))<k/\Cb now (nA now k (s.1.out now v) (s.2.1++[s.1.kr v])).1 (nA now k (s.1.out now v) (s.2.1++[s.1.kr v])).2=R) /\
  (s.2.1++[s.1.kr v]).length+fT (s.1.out now v,s.2.1++[s.1.kr v],decide (v=0))+iZ (decide (v=0))<=s.2.1.length+fT s+iZ s.2.2:=by
 obtain⟨u,f2,f3⟩:=mZ ok (now:=now) j;refine⟨f3,?_⟩;rw[Lc,Mr];by_cases i:s.2.2=true
 ·rw[L9 i]at h;exact(sF h.2 j).elim
 rw[L7 i]at h;obtain⟨k,o,a⟩:=h;obtain⟨l,rfl⟩:∃l,k=l+1:=⟨k-1,O⟩
 rcases j with⟨h1,rfl⟩ | ⟨h1,h2,rfl⟩
 ·rw[L7 IM];have x:=f3 h1;have b:iZ (decide (s.1.allowed=0))=1:=by unfold iZ;rw[L7 IM]
  have m:iZ s.2.2=1:=by unfold iZ;rw[L7 i]
  refine⟨⟨l,by unfold fT at o|-;dsimp only;omega,?_⟩,by rw[b,m];unfold fT;dsimp only;omega⟩;rw[nA,L9 h1]at a;exact a
 rw[L9 IK];rw[nA,L7 O]at a;dsimp only at a;unfold Cb at a;rw[L9 h2]at a;have b:iZ (decide ((0:Int)=0))=0:=Z;have m:iZ s.2.2=1:=by unfold iZ;rw[L7 i]
 have g:(s.1.out now 0).last=s.1.last:=JF
 have y:=ok.gi;have z:=ok.b1;have p:s.1.ms 0=s.1.next+1:=by unfold Cn.ms;rw[L9 ⟨h2.1,O⟩];omega
 have n:(s.1.out now 0).next=s.1.ms 0:=by
  show(s.1.sc.sent (s.1.ms 0)).next=_;unfold Sc.sent Sc.Do;have e:s.1.sc.next=s.1.next:=Z;rw[L9 (Le ⟨O,O⟩)]
 have q:(s.1.out now 0).next=(s.1.out now 0).last+1:=by rw[g,n];omega
 refine⟨⟨a,q⟩,?_⟩;rw[b,m];have r:(s.1.out now 0).kc=max 0 ((s.1.out now 0).last-(s.1.out now 0).next):=Z;unfold fT;dsimp only;omega
theorem AE {now:Int}{R:Cn×List Sg}{s:Cn×List Sg×Bool}(b:xz s.1 (s.2.2=true))(h:if s.2.2=true then(s.1,s.2.1)=R/\s.1.next=s.1.last+1 else ∃k,fT s<k/\Cb now (nA now k s.1 s.2.1).1 (nA now k s.1 s.2.1).2=R):(s.1,s.2.1)=R:=by
 by_cases e:s.2.2=true
 ·rw[L9 e]at h;exact h.1
 rw[L7 e]at h;obtain⟨k,i,a⟩:=h
 rcases b with b | ⟨h1,h2⟩
 ·exact absurd b e
 obtain⟨g,rfl⟩:∃g,k=g+1:=⟨k-1,O⟩;rw[nA,L7 O]at a;dsimp only at a;unfold Cb at a;rw[L7 h2]at a;exact a
end
end Go.Proofs.YtcmncipikdpnbaaGreatDoor
