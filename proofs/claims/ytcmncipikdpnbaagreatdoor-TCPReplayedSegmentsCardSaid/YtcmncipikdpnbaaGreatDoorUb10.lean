import Derived.Test.YtcmncipikdpnbaaGreatDoorUb9
import Derived.Deep.CutBlock
import Derived.Deep.DeepCutAuto
namespace Go.Proofs.YtcmncipikdpnbaaGreatDoor
section
set_option maxRecDepth 100000
open Go.RowKit Go.Shelf
def WB (w:World)(n₀:Nat)(v:Value)(L:List Sp):Prop:=∃a b,v= .slice a L.length b/\sT w n₀ a L/\L.length<=b
theorem WB.tail {w:World}{n₀:Nat}{y:Sp}{t:List Sp}{b o n cap:Nat}(h:WB w n₀ (.slice (some ⟨b,o,none⟩) n cap) (y::t))(_hc1:cap≠1):WB w n₀ (.slice (some ⟨b,o+2,none⟩) t.length (cap-1)) t:=by
 obtain⟨a,f,g,hs,j⟩:=h
 cases g
 obtain⟨l,m,e,k,c⟩:=hs.cells IK
 cases e
 have d:=hs.small;rw[LC]at j d;refine⟨_,_,Z,⟨O,fun p=>⟨b,o+2,Z,k,fun i hi=> ?_⟩⟩,O⟩;have:=c (i+1) Jq;rw[show o+(i+1)*2=o+2+i*2 by omega]at this
 simpa using this
theorem BE {e a:Int}{l:List Sp}(h:aJ e l=true):∀z∈iK a l,a<z.2:=by
 induction l generalizing e with
 | nil=>intro z hz;cases hz
 | cons x l b =>
  rw[aB]at h;rw[cA];split
  ·exact b h.2
  intro z hz
  rcases Mm.1 hz with rfl | hz
  ·omega
  have h1:=bU h.2 z hz;unfold i7 at h1;have:=ct h.2 (show ap z.1 l from⟨z,hz,Lb _,h1.2.1⟩);omega
structure Es (LA LB:List Sp)(k:Nat)(bl:List Sp):Prop where
 canon:∃e,aJ e bl=true
 rest:∀a t:Int,(∀y∈LA.take k,y.1<=a)->bO t a bl=bO t a LB
theorem Es.start {b a:List Sp}{e:Int}(h:aJ e a=true):Es b a 0 a:=⟨⟨e,h⟩,fun _ _ _=>rfl⟩
theorem ue {e:Int}{l:List Sp}(h:aJ e l=true)(a:Int):∃b,aJ b (iK a l)=true:=by
 induction l generalizing e with
 | nil=>exact⟨e,h⟩
 | cons x l c =>
  rw[cA];split
  ·exact c (aB.1 h).2
  exact⟨e,h⟩
theorem Es.step {b j:List Sp}{m:Int}{k:Nat}{bl:List Sp}(h:Es b j k bl)(ha:aJ m b=true)(n:k<b.length):Es b j (k+1) (iK b[k].1 bl)/\bO b[k].2 b[k].1 (iK b[k].1 bl)=bO b[k].2 b[k].1 j:=by
 have p:∀(L:List Sp) (e:Int),aJ e L=true->L.Pairwise (fun x y=>x.1<=y.1):=by
  intro L
  induction L with
  | nil=>intro _ _;exact List.Pairwise.nil
  | cons x l q =>
   intro e g;rw[aB]at g;refine List.Pairwise.cons (fun y hy=> ?_) (q _ g.2);have:=ct g.2 (show ap y.1 l from⟨y,hy,Lb _,(bU g.2 y hy).2.1⟩);omega
 have r:=p b m ha;obtain⟨e,he⟩:=h.canon;have d:∀a t:Int,b[k].1<=a->bO t a (iK b[k].1 bl)=bO t a bl:=fun a t c=>by rw[<-pu (iK b[k].1 bl),zb c,pu]
 have c:∀y∈b.take k,y.1<=b[k].1:=fun y hy=>by
  obtain⟨i,hi,rfl⟩:=Nm.1 hy;rw[Lg]at hi;rw[Nz];exact MN.1 r i k O n O
 refine⟨⟨ue he _,fun a t f=> ?_⟩,?_⟩
 ·have o:=f b[k] (by rw[Lz n];exact Mq _ (List.mem_singleton_self _));rw[d a t o];exact h.rest a t (fun y hy=>LE (c y hy) o)
 rw[d _ _ (Lb _)];exact h.rest _ _ c
set_option maxHeartbeats 4000000 in
theorem iT (w:World) (n₀:Nat) (aa ab:Option Addr) (ca cb:Nat) (f r:List Sp) (ea eb:Int) (hA:sT w n₀ aa f) (U:sT w n₀ ab r) (b3:r.length<=cb) (hn:n₀<=w.heap.size) (V:aJ ea f=true) (P:aJ eb r=true) :
  Calls Tryz.prog 125 #[.slice aa f.length ca,.slice ab r.length cb] w fun e w'=>∃v,e= .returned v/\aH w' w.heap.size v (dr f r)/\Below w.heap.size w w':=by
 have dk:=H hA;have dl:=H U;have b8:=H V;have ch:=H P;have dn:=H (fun k=>oX V k);have dp:=hA.small;have ds:=U.small;clear hA U V P
 go_enter Tryz.func125,Tryz.ntmps125
 go_wp2_with fail
 go_loopg [1,5,13] f.length (fun g bv ov kv wr=>∃(k:Nat) (L:List Sp),kv=((k:Int):Y)/\g+k=f.length/\WB w n₀ bv L/\Es f r k L/\aH wr w.heap.size ov (dr (f.take k) r)/\Below w.heap.size w wr)
 case atStart=>exact⟨0,r,Z,Z,⟨_,_,Z,dl.o,b3⟩,Es.start ch.o,aH.nil _ _,L5 _ _⟩
 case round =>
  obtain⟨k,L,rfl,hg,M,E,hO,hB⟩:=hrel;have F:=H M;have HR:=H E;have HO:=H hO;have HB:=H hB;have m:=hB.size;clear M E hO hB;by_cases hk:k<f.length
  ·obtain⟨sb,so,rfl,en,a2⟩:=dk.cells O;obtain⟨c0,c1⟩:=a2 k hk;have d0:=(HB.cell (p:=⟨sb,_,none⟩) (by show sb<w.heap.size;omega)).trans c0;have d1:=(HB.cell (p:=⟨sb,_,none⟩) (by show sb<w.heap.size;omega)).trans c1;clear c0 c1 a2;have bx:=H (show dr (f.take (k+1)) r=dr (f.take k) r++bO f[k].2 f[k].1 r by rw[Lz hk,uK]);have b4:=H (HR.step b8.o hk);have dv:=H (bU b8.o f[k] (LS hk));have eB:(k:Int)<(f.length:Int):=by omega
   generalize f[k]=x at d0 d1 bx b4 dv;obtain⟨u,j⟩:=x;dsimp only at d0 d1 bx b4
   go_upto_block 2 with fail
   have d:=WI.new HO.o HB.o m u j;clear d0 d1;obtain⟨X,hX⟩:∃X,X=wr.heap.size:=⟨_,Z⟩;have eo:w.heap.size<=X:=O
   rw[<-hX]at d|-;generalize wr.alloc (.cells #[u,j] 149)=W1 at d|-;have c:=H d;clear hX d HO HB m wr
   go_cut [1] (fun bv wx=>WB w n₀ bv (iK u L)/\WI w.heap.size X u j w u5 (dr (f.take k) r) wx)
   case first =>
    go_wp2_with fail
    go_loopg [1] L.length (fun g bv wr=>∃(b2:List Sp),g=b2.length/\iK u b2=iK u L/\WB w n₀ bv b2/\WI w.heap.size X u j w u5 (dr (f.take k) r) wr)
    case atStart=>exact⟨L,Z,Z,F.o,c.o⟩
    case round =>
     clear F c;obtain⟨b2,a5,a6,M,d⟩:=hrel;have F:=H M;have bz:=H a6;have c:=H d;have ci:=H a5;obtain⟨e0,e1⟩:=d.cells;clear M a6 d a5
     cases b2 with
     | nil =>
      obtain⟨ab,cb,rfl,-,-⟩:=F.o;go_wp2_with fail
      go_quiet (fail)
      go_wp2_with fail
      go_meet
      case rel=>exact⟨by rw[<-bz.o];exact F.o,c.drewN nq⟩
     | cons y t =>
      obtain⟨ab,cb,rfl,A,S⟩:=F.o;obtain⟨N,bo,rfl,b6,G⟩:=A.cells IK;obtain⟨p0,p1⟩:=G 0 IK;simp only[Nr,Nu,MF]at p0 p1;have q0:=(c.below.cell (p:=⟨N,_,none⟩) Pm).trans p0;have q1:=(c.below.cell (p:=⟨N,_,none⟩) Pm).trans p1;clear p0 p1 G A;obtain⟨l,n⟩:=y;dsimp only at q0 q1;have cl:((l,n)::t).length=t.length+1:=Z;have eC:=H (WB.tail F.o);rw[cl]at S|-;clear cl;by_cases hy:n<=u
      ·go_wp2_with fail
       go_quiet (fail)
       by_cases a7:cb=1
       ·subst a7;go_wp2_with fail;obtain rfl:t=[]:=LU O
        go_roundg 0
        case measure=>have:=ci.o;simp at this;omega
        case rel=>exact⟨[],Z,by rw[<-bz.o,cA,L9 (by exact hy)],⟨_,_,Z,⟨IK,fun h=>absurd h IK⟩,IK⟩,c.drewN nq⟩
       go_wp2_with fail
       go_roundg t.length
       case measure=>have:=ci.o;rw[LC]at this;omega
       case rel=>exact⟨t,Z,by rw[<-bz.o,cA,L9 (by exact hy)],eC.o a7,c.drewN nq⟩
      go_wp2_with fail
      go_quiet (fail)
      go_wp2_with fail
      go_meet
      case rel=>exact⟨by rw[<-bz.o,cA,L7 (by show ¬n<=u;omega)];exact F.o,c.drewN nq⟩
   case rest =>
    clear c;obtain⟨M,d⟩:=hcut;have c:=H d;obtain⟨e0,e1⟩:=d.cells;have cn:=H (fun(e:Int) (h:aJ e L=true)=>BE (a:=u) h);obtain⟨eL,bc⟩:=HR.canon;have cs:=H (cn.o eL bc);clear cn bc;generalize iK u L=q at M b4 cs;have F:=H M;obtain⟨ab,cb,rfl,A,S⟩:=M;have cw:=H A;have b9:=A.small;clear d A;have b5:=H (show dr (f.take k) r++bO j u q=dr (f.take (k+1)) r by rw[bx.o,b4.2]);have I:=H (bX (fy (dn.o (k+1)) ch.o).1);obtain⟨B,J⟩:∃B,B=dr (f.take (k+1)) r:=⟨_,Z⟩;have ax:=H J.symm;rw[<-J]at b5 I;clear J bx;generalize dr (f.take k) r=Iy at c b5
    go_upto_block 4 with fail
    go_cut [5,8] (fun ov av wx=>∃out b,av= .int .i64 b/\WI w.heap.size X u j w ov out wx/\out++one b j=B)
    case first =>
     go_wp2_with fail
     go_loopg [5,8,35] q.length (fun g ov av iv wr=>∃(i:Nat) (out:List Sp) (b:Int),iv=((i:Int):Y)/\av= .int .i64 b/\g+i=q.length/\WI w.heap.size X u j w ov out wr/\out++bO j b (q.drop i)=B/\(∃e,aJ e (q.drop i)=true)/\∀z∈q.drop i,b<z.2)
     case atStart=>exact⟨0,_,u,Z,Z,Z,c.o,b5.o,b4.1.canon,cs.o⟩
     case round =>
      clear c e0 e1;obtain⟨i,out,b,rfl,rfl,er,d,s,a9,b0⟩:=hrel;have c:=H d;have T:=H s;have bd:=H a9;have a0:=H b0;obtain⟨e0,e1⟩:=d.cells;have m:=d.below.size;clear d s a9 b0;by_cases hi:i<q.length
      ·obtain⟨N,bo,rfl,b6,G⟩:=cw.cells O;obtain⟨p0,p1⟩:=G i hi;have q0:=(c.below.cell (p:=⟨N,_,none⟩) Pm).trans p0;have q1:=(c.below.cell (p:=⟨N,_,none⟩) Pm).trans p1;clear p0 p1 G;have c5:=H (MP hi);have es:(i:Int)<(q.length:Int):=by omega
       generalize q[i]=y at q0 q1 c5;obtain⟨l,n⟩:=y;dsimp only at q0 q1;rw[c5.o]at T bd a0;have eS:b<n:=a0.o _ M7;obtain⟨ey,cF⟩:=bd.o;rw[aB]at cF;have et:l<n:=cF.1.2.2.1;have cM:=H cF.2;clear cF;have c6:=H (show out++(if j<=l then one b j else one b l++bO j n (q.drop (i+1)))=B by have h:=T.o;rw[show bO j b ((l,n)::q.drop (i+1))=if n<=b then bO j b (q.drop (i+1))else if j<=l then one b j else one b l++bO j n (q.drop (i+1))from Z,L7 O]at h;exact h);have dT:=H (show ∀z∈q.drop (i+1),n<z.2 from fun z hz=>by have h1:=bU cM.o z hz;unfold i7 at h1;have:=ct cM.o (show ap z.1 (q.drop (i+1))from⟨z,hz,Lb _,h1.2.1⟩);omega);clear T bd a0 c5;have g1:=(c.alloc m (.cells #[l,n] 149)).x1.1;by_cases h1:j<=l
       ·go_wp2_with fail
        go_meet
        case rel=>exact⟨out,b,Z,c.alloc m _,by have h:=c6.o;rw[L9 h1]at h;exact h⟩
       have a1:out.length<=4398046511104:=by have h:=c6.o;have h2:=I.o;rw[<-h,Lc]at h2;omega
       have d2:=H (show out++one b l++bO j n (q.drop (i+1))=B by have h:=c6.o;rw[L7 O,<-LO]at h;exact h);by_cases h2:b<l
       ·go_wp2_with (first | (at_builtin;refine bD _ Z _ _ Z w.heap.size _ _ Z ((c.own.alloc _).alloc _) a1 (wr.heap.size+1) (b,l) Z IK IK IM ?_))
        intro v' w' ho C K;have d:=((c.alloc m (.cells #[l,n] 149)).alloc IM (.cells #[.int .i64 b,l] 149)).app (L6 _) ho C PN;have cS:=H d
        have eu:w'.cell? ⟨wr.heap.size,1,none⟩=some (n:Y):=by
         refine(rh C (by
          show((wr.alloc (.cells #[l,n] 149)).alloc (.cells #[.int .i64 b,l] 149)).cell? ⟨wr.heap.size,1,none⟩=_;exact(((At.new (W:=wr) (vs:= #[l,n]) 149 (i:=1) Z Z).alloc (.cells #[.int .i64 b,l] 149))).1) ?_)
         intro e;have:=(c.own.lt _ e).2;omega
        clear ho C K d q0 q1 e0 e1 g1;go_wp2_with fail
        go_roundg (gk-1)
        case measure=>omega
        case rel=>exact⟨i+1,_,n,IP,Z,O,cS.o,by have h:=d2.o;unfold one at h;rw[L9 h2]at h;exact h,⟨_,cM.o⟩,dT.o⟩
       have b7:l<=b:=O
       go_wp2_with fail
       go_roundg (gk-1)
       case measure=>omega
       case rel=>exact⟨i+1,_,n,IP,Z,O,c.alloc m _,by have h:=d2.o;unfold one at h;rw[L7 O,LP]at h;exact h,⟨_,cM.o⟩,dT.o⟩
      obtain rfl:i=q.length:=O
      go_wp2_with fail
      go_meet
      case rel=>exact⟨out,b,Z,c.o,by have h:=T.o;rw[Nk]at h;exact h⟩
    case rest =>
     clear c e0 e1 cw;obtain⟨out,b,rfl,d,s⟩:=hcut;have c:=H d;have T:=H s;obtain⟨e0,e1⟩:=d.cells;have m:=d.below.size;clear d s;have a1:out.length<=4398046511104:=by have h:=T.o;have h2:=I.o;rw[<-h,Lc]at h2;omega
     by_cases h2:b<j
     ·go_wp2_with (first | (at_builtin;refine bD _ Z _ _ Z w.heap.size _ _ Z (c.own.alloc _) a1 _ (b,j) Z IK IK IM ?_))
      intro v' w' ho C K;have d:=(c.alloc m (.cells #[.int .i64 b,j] 149)).app (L6 _) ho C PN;have cS:=H d;clear ho C K d e0 e1;go_wp2_with fail
      go_roundg (f.length-(k+1))
      case measure=>omega
      case rel=>exact⟨k+1,q,IP,O,F.o,b4.1,by rw[ax.o];have h:=T.o;unfold one at h;rw[L9 h2]at h;rw[<-h];exact cS.own,cS.below⟩
     have b7:j<=b:=O
     go_wp2_with fail
     go_roundg (f.length-(k+1))
     case measure=>omega
     case rel=>exact⟨k+1,q,IP,O,F.o,b4.1,by rw[ax.o];have h:=T.o;unfold one at h;rw[L7 O,LP]at h;rw[<-h];exact c.own,c.below⟩
  obtain rfl:k=f.length:=O
  have hO:=HO.o;rw[LV]at hO;have e4:=H hO;clear hO;go_wp2;go_ret;exact⟨_,Z,e4.o,HB.o⟩
end
section
open Go.RowKit Go.Shelf
def eG (s:Sc)(a:Option Addr)(sc:Nat)(b:Option Addr)(c:Nat):Array Value:= #[s.gi,s.next,s.mark,.slice a s.sk.length sc,.slice b s.ag.length c]
def bW (B a b:Nat)(s:Sc)(W:World):Prop:=(B<a/\B<b)/\(a<=W.heap.size/\b<=W.heap.size)/\∃c d e f,W.heap[B]? =some (.cells (eG s c d e f) 135 (0,0))/\bG a s.sk c d W/\bG b s.ag e f W
def bL (B lb:Nat)(s:Sc)(W:World):Prop:=bW B lb lb s W
theorem bW.lt {B a b:Nat}{s:Sc}{W:World}(h:bW B a b s W):B<W.heap.size:=Ld h.1.1 h.2.1.1
theorem bW.below {B a b:Nat}{s:Sc}{W W':World}(h:bW B a b s W)(c:Below W.heap.size W W'):bW B a b s W':=by
 have d:=h.lt;obtain⟨h1,⟨h2,e⟩,f,g,i,j,k,l,lg⟩:=h;exact⟨h1,⟨La h2 c.size,La e c.size⟩,f,g,i,j,(c.block B d).trans k,l.below c,lg.below c⟩
theorem bW.other {B C a b:Nat}{s:Sc}{W W':World}(h:bW B a b s W)(c:nF C W W')(d:B≠C)(g:C<a)(e:C<b):bW B a b s W':=by
 have i:=h.lt;obtain⟨h1,⟨h2,j⟩,k,l,m,n,f,o,lg⟩:=h;exact⟨h1,⟨La h2 c.size,La j c.size⟩,k,l,m,n,(c.block B i d).trans f,o.other c g,lg.other c e⟩
theorem bW.ats {B a b:Nat}{s:Sc}{W:World}(h:bW B a b s W):∃d sc e f,At B 0 s.gi W/\At B 1 s.next W/\At B 2 s.mark W/\At B 3 (.slice d s.sk.length sc) W/\At B 4 (.slice e s.ag.length f) W/\bG a s.sk d sc W/\bG b s.ag e f W:=by
 obtain⟨h1,h2,d,sc,e,f,g,j,lg⟩:=h;have c:∀i v,(eG s d sc e f)[i]? =some v->At B i v W:=fun i v k=>⟨by rw[Lq _ _ _ _ _ _ g];exact k,LW _ _ _ _ _ g⟩;exact⟨d,sc,e,f,c 0 _ Z,c 1 _ Z,c 2 _ Z,c 3 _ Z,c 4 _ Z,j,lg⟩
theorem bW.set {B a b:Nat}{s s':Sc}{W:World}(h:bW B a b s W)(i:Nat)(v:Value)(f:s'.sk=s.sk)(g:s'.ag=s.ag)(he:∀c sc d e,(eG s c sc d e).setIfInBounds i v=eG s' c sc d e):bW B a b s' (W.setCell ⟨B,i,none⟩ v):=by
 obtain⟨h1,h2,c,sc,d,e,j,k,lg⟩:=h;refine⟨h1,by simp[World.setCell];exact h2,c,sc,d,e,?_,by rw[f];exact k.set h1.1 v,by rw[g];exact lg.set h1.2 v⟩;rw[LK _ _ _ _ _ _ j,he]
theorem bW.Fy {B c Et b:Nat}{s:Sc}{W:World}(h:bW B c b s W)(d:B<Et)(hs:Et<=W.heap.size){L:List Sp}{a:Option Addr}{cap:Nat}(e:bG Et L a cap W):bW B Et b { s with sk:=L } (W.setCell ⟨B,3,none⟩ (.slice a L.length cap)):=by
 obtain⟨h1,h2,j,k,f,g,i,l,lg⟩:=h;refine⟨⟨d,h1.2⟩,by simp[World.setCell];exact⟨hs,h2.2⟩,a,cap,f,g,?_,e.set d _,lg.set h1.2 _⟩;rw[LK _ _ _ _ _ _ i];rfl
theorem bW.F3 {B b c Eu:Nat}{s:Sc}{W:World}(h:bW B b c s W)(d:B<Eu)(hs:Eu<=W.heap.size){L:List Sp}{a:Option Addr}{cap:Nat}(e:bG Eu L a cap W):bW B b Eu { s with ag:=L } (W.setCell ⟨B,4,none⟩ (.slice a L.length cap)):=by
 obtain⟨h1,h2,f,g,k,l,i,j,lg⟩:=h;refine⟨⟨h1.1,d⟩,by simp[World.setCell];exact⟨h2.1,hs⟩,f,g,a,cap,?_,j.set h1.1 _,e.set d _⟩;rw[LK _ _ _ _ _ _ i];rfl
theorem bW.mono {B a b Et Eu:Nat}{s:Sc}{W:World}(h:bW B Et Eu s W)(h1:a<=Et)(h2:b<=Eu)(e:B<a)(c:B<b):bW B a b s W:=by
 obtain⟨_,d,f,g,i,j,k,l,lg⟩:=h;exact⟨⟨e,c⟩,⟨La h1 d.1,La h2 d.2⟩,f,g,i,j,k,l.mono h1,lg.mono h2⟩
theorem bL.lt {B lb:Nat}{s:Sc}{W:World}(h:bL B lb s W):B<W.heap.size:=bW.lt h
theorem bL.below {B lb:Nat}{s:Sc}{W W':World}(h:bL B lb s W)(a:Below W.heap.size W W'):bL B lb s W':=bW.below h a
theorem bL.other {B C lb:Nat}{s:Sc}{W W':World}(h:bL B lb s W)(c:nF C W W')(a:B≠C)(b:C<lb):bL B lb s W':=bW.other h c a b b
theorem bL.ats {B lb:Nat}{s:Sc}{W:World}(h:bL B lb s W):∃a sc b c,At B 0 s.gi W/\At B 1 s.next W/\At B 2 s.mark W/\At B 3 (.slice a s.sk.length sc) W/\At B 4 (.slice b s.ag.length c) W/\bG lb s.sk a sc W/\bG lb s.ag b c W:=bW.ats h
theorem bL.set {B lb:Nat}{s s':Sc}{W:World}(h:bL B lb s W)(i:Nat)(v:Value)(d:s'.sk=s.sk)(e:s'.ag=s.ag)(he:∀a sc b c,(eG s a sc b c).setIfInBounds i v=eG s' a sc b c):bL B lb s' (W.setCell ⟨B,i,none⟩ v):=bW.set h i v d e he
theorem bL.Fy {B lb:Nat}{s:Sc}{W:World}(h:bL B lb s W){L:List Sp}{a:Option Addr}{cap:Nat}(b:bG lb L a cap W):bL B lb { s with sk:=L } (W.setCell ⟨B,3,none⟩ (.slice a L.length cap)):=bW.Fy h h.1.1 h.2.1.1 b
theorem bL.F3 {B lb:Nat}{s:Sc}{W:World}(h:bL B lb s W){L:List Sp}{a:Option Addr}{cap:Nat}(b:bG lb L a cap W):bL B lb { s with ag:=L } (W.setCell ⟨B,4,none⟩ (.slice a L.length cap)):=bW.F3 h h.1.1 h.2.1.1 b
theorem uf (w:World):Calls Tryz.prog 63 #[] w fun e w'=>e= .returned w.heap.size/\w'=w.alloc (.cells (eG zd none 0 none 0) 135):=by
 go_enter Tryz.func63,Tryz.ntmps63
 go_wp2;go_ret;exact⟨Z,Z⟩
theorem bL.new {w w':World}{lb:Nat}(h:w'=w.alloc (.cells (eG zd none 0 none 0) 135)):w.heap.size<w'.heap.size/\∀W,Below w'.heap.size w' W->w.heap.size<lb->lb<=W.heap.size->bL w.heap.size lb zd W:=by
 subst h;refine⟨IK,fun W c a b=>⟨⟨a,a⟩,⟨b,b⟩,none,0,none,0,(c.block _ IK).trans (Ls _ _),bG.nil _ _,bG.nil _ _⟩⟩
set_option maxHeartbeats 1000000 in
theorem rp (p:Addr) (a:Array Value) (w:World) (R:Value->World->Prop) (h:Calls Tryz.prog 158 a w fun e w'=>∃v,e= .returned v/\R v w') :
  Calls Tryz.prog 144 #[.pointer (some p),(0:Int),.func (.func 158) #[] a] w fun e w'=>∃v,e= .returned v/\R v w':=by
 have c:=H h;clear h
 go_enter Tryz.func144,Tryz.ntmps144
 go_wp2_with fail;refine(c.o).mono ?_;rintro e f⟨v,rfl,b⟩;have d:=H b;clear b;go_wp2;go_ret;exact⟨v,Z,d.o⟩
set_option maxHeartbeats 1000000 in
theorem qJ (p:Addr) (a:Array Value) (w:World) (R:Value->World->Prop) (h:Calls Tryz.prog 145 a w fun e w'=>∃v,e= .returned v/\R v w') :
  Calls Tryz.prog 144 #[.pointer (some p),(0:Int),.func (.func 145) #[] a] w fun e w'=>∃v,e= .returned v/\R v w':=by
 have c:=H h;clear h
 go_enter Tryz.func144,Tryz.ntmps144
 go_wp2_with fail;refine(c.o).mono ?_;rintro e f⟨v,rfl,b⟩;have d:=H b;clear b;go_wp2;go_ret;exact⟨v,Z,d.o⟩
set_option maxHeartbeats 1000000 in
theorem qK (p:Addr) (a:Array Value) (w:World) (R:Value->World->Prop) (h:Calls Tryz.prog 182 a w fun e w'=>∃v,e= .returned v/\R v w') :
  Calls Tryz.prog 144 #[.pointer (some p),(0:Int),.func (.func 182) #[] a] w fun e w'=>∃v,e= .returned v/\R v w':=by
 have c:=H h;clear h
 go_enter Tryz.func144,Tryz.ntmps144
 go_wp2_with fail;refine(c.o).mono ?_;rintro e f⟨v,rfl,b⟩;have d:=H b;clear b;go_wp2;go_ret;exact⟨v,Z,d.o⟩
set_option maxHeartbeats 1000000 in
theorem nR (p:Addr) (a:Array Value) (w:World) (R:Value->World->Prop) (h:Calls Tryz.prog 179 a w fun e w'=>∃v,e= .returned v/\R v w') :
  Calls Tryz.prog 163 #[.pointer (some p),.slice none 0 0,.func (.func 179) #[] a] w fun e w'=>∃v,e= .returned v/\R v w':=by
 have c:=H h;clear h
 go_enter Tryz.func163,Tryz.ntmps163
 go_wp2_with fail;refine(c.o).mono ?_;rintro e f⟨v,rfl,b⟩;have d:=H b;clear b;go_wp2;go_ret;exact⟨v,Z,d.o⟩
set_option maxHeartbeats 1000000 in
theorem qL (p:Addr) (a:Array Value) (w:World) (R:Value->World->Prop) (h:Calls Tryz.prog 164 a w fun e w'=>∃v,e= .returned v/\R v w') :
  Calls Tryz.prog 163 #[.pointer (some p),.slice none 0 0,.func (.func 164) #[] a] w fun e w'=>∃v,e= .returned v/\R v w':=by
 have c:=H h;clear h
 go_enter Tryz.func163,Tryz.ntmps163
 go_wp2_with fail;refine(c.o).mono ?_;rintro e f⟨v,rfl,b⟩;have d:=H b;clear b;go_wp2;go_ret;exact⟨v,Z,d.o⟩
set_option maxHeartbeats 1000000 in
theorem qM (p:Addr) (a:Array Value) (w:World) (R:Value->World->Prop) (h:Calls Tryz.prog 110 a w fun e w'=>∃v,e= .returned v/\R v w') :
  Calls Tryz.prog 109 #[.pointer (some p),(1:Int),.func (.func 110) #[] a] w fun e w'=>∃v,e= .returned v/\R v w':=by
 have c:=H h;clear h
 go_enter Tryz.func109,Tryz.ntmps109
 go_wp2_with fail;refine(c.o).mono ?_;rintro e f⟨v,rfl,b⟩;have d:=H b;clear b;go_wp2;go_ret;exact⟨v,Z,d.o⟩
set_option maxHeartbeats 1000000 in
theorem iU (p:Addr) (a:Array Value) (w:World) (R:Value->World->Prop) (h:Calls Tryz.prog 170 a w fun e w'=>∃v,e= .returned v/\R v w') :
  Calls Tryz.prog 109 #[.pointer (some p),(1:Int),.func (.func 170) #[] a] w fun e w'=>∃v,e= .returned v/\R v w':=by
 have c:=H h;clear h
 go_enter Tryz.func109,Tryz.ntmps109
 go_wp2_with fail;refine(c.o).mono ?_;rintro e f⟨v,rfl,b⟩;have d:=H b;clear b;go_wp2;go_ret;exact⟨v,Z,d.o⟩
end
section
open Go.RowKit Go.Shelf
theorem ug {lb:Nat}{L:List Sp}{a:Option Addr}{cap:Nat}{w:World}(h:bG lb L a cap w) :
  Calls Tryz.prog 148 #[.slice a L.length cap] w fun e w'=>∃v,e= .returned v/\aH w' w.heap.size v L/\Below w.heap.size w w':=by
 cases a with
 | none =>
  have b:L=[]:=by
   rcases MY L.length with e | e
   ·exact LU e
   obtain⟨_,_,e,_⟩:=h.1.cells e;cases e
  subst b;refine(nZ cap w).mono ?_;rintro e w' ⟨he,rfl⟩;exact⟨_,he,aH.nil _ _,L5 _ _⟩
 | some c =>
  have e:=h.2.2.2.1 c Z;rw[e]at h|-;exact mF _ _ cap L w h.1
theorem xO (C B:Nat)(u:Int)(w:World)(a:w.cell? C=some (B:Y))(b:w.cell? B=some (u:Y)) :
  Calls Tryz.prog 158 #[C] w fun e w'=>e= .returned u/\w=w':=by
 go_enter Tryz.func158,Tryz.ntmps158
 go_wp2;go_ret;exact⟨Z,Z⟩
theorem uh (B lb:Nat)(s:Sc)(w:World)(h:bL B lb s w) :
  Calls Tryz.prog 128 #[B] w fun e w'=>e= .returned s.gi/\Below w.heap.size w w':=by
 have a:=bg w (.cells #[B] 74);obtain⟨k,l,m,n,b,c,d,f,g,-,-⟩:=(h.below a).ats;have i:=H (xO w.heap.size B s.gi (w.alloc (.cells #[B] 74)) (At.new (W:=w) (vs:= #[B]) _ Z Z).1 b.1);have j:=H a;clear a b c d f g h
 go_enter Tryz.func128,Tryz.ntmps128
 go_wp2_with fail;refine(rp _ _ _ (fun v w'=>v=(s.gi:Y)/\w.alloc (.cells #[B] 74)=w') (i.mono (by rintro e w' ⟨he,hw⟩;exact⟨_,he,Z,hw⟩))).mono ?_;rintro e p⟨v,rfl,rfl,rfl⟩;go_wp2;go_ret;exact⟨Z,j.o⟩
theorem ui (C B:Nat)(u:Int)(w:World)(a:w.cell? C=some (B:Y))(b:w.cell? ⟨B,1,none⟩=some (u:Y)) :
  Calls Tryz.prog 145 #[C] w fun e w'=>e= .returned u/\w=w':=by
 go_enter Tryz.func145,Tryz.ntmps145
 go_wp2;go_ret;exact⟨Z,Z⟩
theorem rq (B lb:Nat)(s:Sc)(w:World)(h:bL B lb s w) :
  Calls Tryz.prog 100 #[B] w fun e w'=>e= .returned s.next/\Below w.heap.size w w':=by
 have a:=bg w (.cells #[B] 74);obtain⟨k,l,m,n,c,b,d,f,g,-,-⟩:=(h.below a).ats;have i:=H (ui w.heap.size B s.next (w.alloc (.cells #[B] 74)) (At.new (W:=w) (vs:= #[B]) _ Z Z).1 b.1);have j:=H a;clear a c b d f g h
 go_enter Tryz.func100,Tryz.ntmps100
 go_wp2_with fail;refine(qJ _ _ _ (fun v w'=>v=(s.next:Y)/\w.alloc (.cells #[B] 74)=w') (i.mono (by rintro e w' ⟨he,hw⟩;exact⟨_,he,Z,hw⟩))).mono ?_;rintro e p⟨v,rfl,rfl,rfl⟩;go_wp2;go_ret;exact⟨Z,j.o⟩
theorem qN (C B lb:Nat)(s:Sc)(w:World)(d:w.cell? C=some (B:Y))(h:bL B lb s w) :
  Calls Tryz.prog 179 #[C] w fun e w'=>∃v,e= .returned v/\aH w' w.heap.size v s.sk/\Below w.heap.size w w':=by
 obtain⟨j,k,l,m,-,-,-,⟨f,-⟩,-,a,-⟩:=h.ats;have d3:=H (ug a);clear h a
 go_enter Tryz.func179,Tryz.ntmps179
 go_wp2_with fail;refine(d3.o).mono ?_;rintro e n⟨v,rfl,b,c⟩;have g:=H b;have i:=H c;clear b c f d d3;go_wp2;go_ret;exact⟨v,Z,g.o,i.o⟩
theorem oo (B lb:Nat)(s:Sc)(w:World)(h:bL B lb s w) :
  Calls Tryz.prog 159 #[B] w fun e w'=>∃v,e= .returned v/\aH w' w.heap.size v s.sk/\Below w.heap.size w w':=by
 have a:=bg w (.cells #[B] 74);have c:=H (qN w.heap.size B lb s (w.alloc (.cells #[B] 74)) (At.new (W:=w) (vs:= #[B]) _ Z Z).1 (h.below a));have b:=H a;clear a h
 go_enter Tryz.func159,Tryz.ntmps159
 go_wp2_with fail;refine(nR _ _ _ _ c.o).mono ?_;rintro e g⟨v,rfl,d,a⟩;have f:=H (d.mono b.size);have be:=H (b.trans (a.mono b.size));clear d a b c;go_wp2;go_ret;exact⟨v,Z,f.o,be.o⟩
set_option maxHeartbeats 1000000 in
theorem uj (T C B lb:Nat) (s:Sc) (a:Int) (w:World) (f:w.cell? T=some (a:Y)) (g:w.cell? C=some (B:Y)) (h:bL B lb s w) :
  Calls Tryz.prog 110 #[T,C] w fun e w'=>∃v,e= .returned v/\v=(s.Ed a:Y)/\bL B lb (s.sent a) w'/\nF B w w':=by
 obtain⟨i,j,k,l,-,⟨m,n⟩,-,-,-,-,-⟩:=h.ats;have d:=H h;clear h;by_cases h1:s.next<=a
 ·by_cases h2:a<=1099511627776
  ·have b:s.Do a=true:=by unfold Sc.Do;rw[Lj];exact⟨h1,h2⟩
   have c:=H (show s.Ed a=0/\s.sent a={ s with next:=a } by unfold Sc.Ed Sc.sent;rw[L9 b,L9 b];exact⟨Z,Z⟩);clear b
   go_enter Tryz.func110,Tryz.ntmps110
   go_wp2_with fail
   go_quiet (fail)
   go_wp2;go_ret;refine⟨_,Z,by rw[c.1];rfl,?_,?_⟩
   ·rw[c.2];exact(show bL B lb s (w.drewN nq)from d.below ⟨Z,Z,Z,L6 _,fun _ _=>rfl⟩).set 1 _ Z Z (fun _ _ _ _=>rfl)
   exact(show nF B w (w.drewN nq)from⟨Z,Z,Z,L6 _,fun _ _ _=>rfl⟩).setCell 1 _
  have b:s.Do a=false:=by unfold Sc.Do;rw[Lu];omega
  have c:=H (show s.Ed a=140/\s.sent a=s by unfold Sc.Ed Sc.sent;rw[b];exact⟨Z,Z⟩);clear b
  go_enter Tryz.func110,Tryz.ntmps110
  go_wp2_with fail
  go_quiet (fail)
  go_wp2;go_ret;exact⟨_,Z,by rw[c.1];rfl,KG,⟨Z,Z,Z,L6 _,fun _ _ _=>rfl⟩⟩
 have b:s.Do a=false:=by unfold Sc.Do;rw[Lu];omega
 have c:=H (show s.Ed a=140/\s.sent a=s by unfold Sc.Ed Sc.sent;rw[b];exact⟨Z,Z⟩);have o:decide (a<s.next)=true:=by rw[Lj];omega
 clear b
 go_enter Tryz.func110,Tryz.ntmps110
 go_wp2_with fail
 go_quiet (fail)
 go_wp2;go_ret;exact⟨_,Z,by rw[c.1];rfl,KG,⟨Z,Z,Z,L6 _,fun _ _ _=>rfl⟩⟩
set_option maxHeartbeats 1000000 in
theorem gh (B lb:Nat) (s:Sc) (a:Int) (w:World) (h:bL B lb s w) :
  Calls Tryz.prog 67 #[B,a] w fun e w'=>e= .returned (s.Ed a)/\bL B lb (s.sent a) w'/\nF B w w':=by
 have b:=((L5 w.heap.size w).alloc (L6 _) (.cells #[B] 74)).alloc IK (.cells #[a] 3);have c:=H (uj (w.heap.size+1) w.heap.size B lb s a ((w.alloc (.cells #[B] 74)).alloc (.cells #[a] 3)) (At.new (W:=w.alloc (.cells #[B] 74)) (vs:= #[a]) _ IK Z).1 ((At.new (W:=w) (vs:= #[B]) _ Z Z).alloc _).1 (h.below b));have d:=H (nF.of_below (B:=B) b);clear b h
 go_enter Tryz.func67,Tryz.ntmps67
 go_wp2_with fail;refine(qM _ _ _ _ c.o).mono ?_;rintro e k⟨v,rfl,rfl,f,g⟩;have i:=H f;have j:=H (d.trans g);clear f g d c;go_wp2;go_ret;exact⟨Z,i.o,j.o⟩
set_option maxHeartbeats 1000000 in
theorem nS (B lb:Nat) (s:Sc) (w:World) (h:bL B lb s w) :
  Calls Tryz.prog 55 #[B] w fun e w'=>e= .returned (.tuple #[])/\bL B lb s.timeout w'/\nF B w w':=by
 obtain⟨b,c,d,f,-,⟨g,i⟩,⟨j,f2⟩,⟨k,f3⟩,⟨l,m⟩,-,-⟩:=h.ats;have a:=H h;clear h
 go_enter Tryz.func55,Tryz.ntmps55
 go_wp2_with fail
 go_end0
 refine⟨Z,?_,(((nF.refl B w).setCell 3 _).setCell 4 _).setCell 2 _⟩;exact((a.Fy (bG.nil lb w)).F3 (bG.nil lb _)).set 2 _ Z Z (fun _ _ _ _=>rfl)
end
section
set_option maxRecDepth 100000
open Go.RowKit Go.Shelf
theorem jd (B lb:Nat)(s:Sc)(x:Sp)(w:World)(h:bL B lb s w) :
  Calls Tryz.prog 122 #[B,.agg #[x.1,x.2]] w fun e w'=>e= .returned (s.EH x)/\Below w.heap.size w w':=by
 obtain⟨b,c⟩:=x;obtain⟨l,m,n,q,-,⟨i,-⟩,-,-,-,-,-⟩:=h.ats;have k:=h.lt;have f:=bg w (.cells #[b,c] 149);have d1:=(f.cell (p:=⟨B,1,none⟩) k).trans i;have a:=H f;clear h f i;by_cases h1:0<=b
 ·by_cases h2:b<c
  ·by_cases g:c<=s.next
   ·have d:=H (show s.EH (b,c)=true by rw[Sc.D7];exact⟨h1,h2,g⟩);rw[d.o]
    go_enter Tryz.func122,Tryz.ntmps122
    go_wp2_with fail
    go_quiet (fail)
    go_wp2;go_ret;exact⟨Z,⟨a.os,a.tape,a.output,a.size,a.block⟩⟩
   have d:=H (show s.EH (b,c)=false by rw[<-Mz,Sc.D7];rintro⟨-,-,h⟩;exact g h);rw[d.o];have j:decide (c<=s.next)=false:=by rw[Lu];exact g
   go_enter Tryz.func122,Tryz.ntmps122
   go_wp2_with fail
   go_quiet (fail)
   go_wp2;go_ret;exact⟨Z,⟨a.os,a.tape,a.output,a.size,a.block⟩⟩
  have d:=H (show s.EH (b,c)=false by rw[<-Mz,Sc.D7];rintro⟨-,h,-⟩;exact h2 h);rw[d.o];have j:decide (b<c)=false:=by rw[Lu];exact h2
  go_enter Tryz.func122,Tryz.ntmps122
  go_wp2_with fail
  go_quiet (fail)
  go_wp2;go_ret;exact⟨Z,⟨a.os,a.tape,a.output,a.size,a.block⟩⟩
 have d:=H (show s.EH (b,c)=false by rw[<-Mz,Sc.D7];rintro⟨h,-,-⟩;exact h1 h);rw[d.o];have j:decide (0<=b)=false:=by rw[Lu];exact h1
 go_enter Tryz.func122,Tryz.ntmps122
 go_wp2_with fail
 go_quiet (fail)
 go_wp2;go_ret;exact⟨Z,⟨a.os,a.tape,a.output,a.size,a.block⟩⟩
structure Ev (T C L R B Iz IA:Nat)(s:Sc)(gi:Int)(la:Option Addr)(lc:Nat)(ls:List Sp)(w W:World):Prop where
 cT:W.cell? T=some (gi:Y)
 cC:W.cell? C=some (B:Y)
 cL:W.cell? L=some (.slice la ls.length lc)
 r0:∃v,At R 0 v W
 r1:∃v,At R 1 v W
 hs:bW B Iz IA s W
 hl:Ah B la ls W
 Dj:nF B w W
 ne:T≠B/\C≠B/\L≠B/\R≠B
 FO:w.heap.size<=R
theorem Ev.to {T C L R B b c Et Eu:Nat}{s s':Sc}{gi:Int}{d:Option Addr}{e:Nat}{f:List Sp}{w W W':World}(h:Ev T C L R B b c s gi d e f w W)(a:nF B W W')(hs:bW B Et Eu s' W'):Ev T C L R B Et Eu s' gi d e f w W':=by
 obtain⟨i,j,k,g⟩:=h.ne;obtain⟨v0,h0⟩:=h.r0;obtain⟨v1,h1⟩:=h.r1;exact⟨cB h.cT a i,cB h.cC a j,cB h.cL a k,⟨v0,oW h0 a g⟩,⟨v1,oW h1 a g⟩,hs,h.hl.Dj a,h.Dj.trans a,h.ne,h.FO⟩
theorem Ev.below {T C L R B a b:Nat}{s:Sc}{gi:Int}{c:Option Addr}{d:Nat}{e:List Sp}{w W W':World}(h:Ev T C L R B a b s gi c d e w W)(f:Below W.heap.size W W'):Ev T C L R B a b s gi c d e w W':=h.to (nF.of_below f) (h.hs.below f)
theorem Ev.drewN {T C L R B a b:Nat}{s:Sc}{gi:Int}{c:Option Addr}{d:Nat}{e:List Sp}{w W:World}(h:Ev T C L R B a b s gi c d e w W)(n:Nat):Ev T C L R B a b s gi c d e w (W.drewN n):=h.below ⟨Z,Z,Z,L6 _,fun _ _=>rfl⟩
theorem Ev.drew {T C L R B a b:Nat}{s:Sc}{gi:Int}{c:Option Addr}{d:Nat}{e:List Sp}{w W:World}(h:Ev T C L R B a b s gi c d e w W):Ev T C L R B a b s gi c d e w W.drew:=h.below (L5 _ _).drew
theorem Ev.start {T C L B lb:Nat}{s:Sc}{gi:Int}{b:Option Addr}{d:Nat}{c:List Sp}{w:World}(f:w.cell? T=some (gi:Y))(g:w.cell? C=some (B:Y))(h:w.cell? L=some (.slice b c.length d))
  (ne:T≠B/\C≠B/\L≠B)(hs:bL B lb s w)(i:Ah B b c w):Ev T C L w.heap.size B lb lb s gi b d c w (w.alloc (.cells #[(0:Int),(0:Int)] 154)):=by
 have e:=bg w (.cells #[(0:Int),(0:Int)] 154);have a:nF B w (w.alloc (.cells #[(0:Int),(0:Int)] 154)):=nF.of_below e;exact⟨cB f a ne.1,cB g a ne.2.1,cB h a ne.2.2,⟨_,At.new _ Z Z⟩,⟨_,At.new _ Z Z⟩,hs.below e,i.Dj a,a,⟨ne.1,ne.2.1,ne.2.2,by have:=hs.lt;omega⟩,L6 _⟩
theorem lG (W:World)(n:Nat):Below W.heap.size W (W.drewN n):=⟨Z,Z,Z,L6 _,fun _ _=>rfl⟩
set_option maxHeartbeats 4000000 in
theorem rr (T C L B lb:Nat) (s:Sc) (gi:Int) (K:Option Addr) (M:Nat) (f:List Sp) (w:World) (ok:s.Ok) (cT:w.cell? T=some (gi:Y)) (cC:w.cell? C=some (B:Y)) (cL:w.cell? L=some (.slice K f.length M))
  (ne:T≠B/\C≠B/\L≠B) (hs:bL B lb s w) (hl:Ah B K f w) (hlen:(s.sk++f).length<=1099511627776) :
  Calls Tryz.prog 121 #[T,C,L] w fun e w'=>∃v,e= .returned v/\v= .agg #[(s.Db gi f),(s.Cp gi f)]/\((s.i1 gi f=s/\Below w.heap.size w w')\/bL B w.heap.size (s.i1 gi f) w')/\nF B w w':=by
 have ak:=H ok;have e5:=H hlen;have cV:=H (Ev.start cT cC cL ne hs hl);have b6:=H hs;have c7:=H (show B<w.heap.size+1 by have:=hs.lt;omega);have bd:=H (show dq s.sk=aD s.sk by unfold dq;rw[L9 ok.Eg]);have e6:=H (show IntKind.i64.wrap (s.gi+aD s.sk)=s.gi+aD s.sk from LF _ (by have h1:=ok.u0;have h2:=ok.un;have h3:=ok.n40;have h4:=aN ok.Eg;omega));have e7:=H (show C<w.heap.size from Ll cC);clear ok hlen cT cC cL ne hs hl
 go_enter Tryz.func121,Tryz.ntmps121
 go_wp2_with fail;obtain⟨R,hR⟩:∃R,R=w.heap.size:=⟨_,Z⟩;rw[<-hR]at cV c7|-;have I:=H (bg w (.cells #[(0:Int),(0:Int)] 154));generalize w.alloc (.cells #[(0:Int),(0:Int)] 154)=W0 at cV I|-;clear hR;have a:=cV;clear cV;obtain⟨m,q,N,P,⟨c0,f0⟩,⟨c1,f1⟩,-,-,-,-,-⟩:=a.hs.ats;have cT:=a.cT;have cC:=a.cC;obtain⟨v0,r0,q0⟩:=a.r0;obtain⟨v1,r1,q1⟩:=a.r1
 rcases MA gi 0 with hu | hu
 ·have hd:decide (gi<0)=true:=by rw[Lj];omega
  have bI:=H (show s.E7 gi f=false from KH);go_wp2_with fail
  go_quiet (fail)
  go_wp2_with fail;have r:=a.drewN nq;have al:=I.trans ((lG W0 nq).mono I.size);obtain⟨x0,V⟩:=r.r0;obtain⟨x1,X⟩:=r.r1;have d0:=((V.set (0:Int)).other ⟨R,1,none⟩ (140:Int) J0).1;have d1:=((X.other ⟨R,0,none⟩ (0:Int) J0).set (140:Int)).1;have a7:=(al.setCell (p:=⟨R,0,none⟩) r.FO (0:Int)).setCell (p:=⟨R,1,none⟩) r.FO (140:Int);refine Lo (v:=.agg #[(0:Int),(140:Int)]) JQ Z ⟨_,Z,Kb,Or.inl ⟨by simp[Sc.i1,bI.o],a7⟩,nF.of_below a7⟩
 rcases MA s.next gi with hv | hv
 ·have bI:=H (show s.E7 gi f=false from KH);go_wp2_with fail
  go_quiet (fail)
  go_wp2_with fail;have r:=a.drewN nq;have al:=I.trans ((lG W0 nq).mono I.size);obtain⟨x0,V⟩:=r.r0;obtain⟨x1,X⟩:=r.r1;have d0:=((V.set (0:Int)).other ⟨R,1,none⟩ (140:Int) J0).1;have d1:=((X.other ⟨R,0,none⟩ (0:Int) J0).set (140:Int)).1;have a7:=(al.setCell (p:=⟨R,0,none⟩) r.FO (0:Int)).setCell (p:=⟨R,1,none⟩) r.FO (140:Int);refine Lo (v:=.agg #[(0:Int),(140:Int)]) JQ Z ⟨_,Z,Kb,Or.inl ⟨by simp[Sc.i1,bI.o],a7⟩,nF.of_below a7⟩
 go_wp2_with fail
 go_quiet (fail)
 replace a:=H (a.drewN nq);replace I:=H (I.trans ((lG W0 nq).mono I.size));generalize W0.drewN nq=W1 at a I|-;clear c0 f0 c1 f1 cT cC r0 q0 r1 q1;have cL:=a.cL;have e8:=a.hl.1.small;go_wp2_with fail;clear cL
 go_loopg [20] f.length (fun g kv wr=>∃(k:Nat),kv=((k:Int):Y)/\g+k=f.length/\Ev T C L R B lb lb s gi K M f w wr/\Below w.heap.size w wr/\∀x∈f.take k,s.EH x=true)
 case atStart=>exact⟨0,Z,Z,a.o,I.o,fun x hx=>by simp at hx⟩
 case round =>
  clear a I;obtain⟨k,rfl,hg,hE,al,b2⟩:=hrel;have a:=H hE;have c8:=H b2;have I:=H al;clear hE b2 al;by_cases hk:k<f.length
  ·obtain⟨ev,lo,rfl,e9,b3⟩:=a.hl.1.cells O;obtain⟨d0,d1⟩:=b3 k hk;clear b3;have d4:=H (Lz hk);have d5:=H (LS hk);have eB:(k:Int)<(f.length:Int):=by omega
   generalize f[k]=x at d0 d1 d4 d5;obtain⟨x1,x2⟩:=x;dsimp only at d0 d1;have cC:=(a.below (bg wr (.cells #[x1,x2] 149))).cC;go_wp2_with fail;clear d0 d1 cC;replace a:=H (a.below (bg wr (.cells #[x1,x2] 149)));replace I:=H (I.alloc I.size (.cells #[x1,x2] 149));refine(jd B lb s (x1,x2) _ a.hs).mono ?_;rintro e w2⟨rfl,d⟩;replace a:=H (a.below d);replace I:=H (I.trans (d.mono I.size));clear d;have cC:=a.cC;obtain⟨v0,r0,q0⟩:=a.r0;obtain⟨v1,r1,q1⟩:=a.r1
   cases hib:s.EH (x1,x2)with
   | false =>
    have bI:=H (show s.E7 gi f=false by rw[<-Mz,Sc.DF];rintro⟨-,h⟩;have:=h _ d5.o;rw[hib]at this;cases this);clear hib;go_wp2_with fail;have r:=a.o;have al:=I.o;obtain⟨x0,V⟩:=r.r0;obtain⟨x1,X⟩:=r.r1;have d0:=((V.set (0:Int)).other ⟨R,1,none⟩ (140:Int) J0).1;have d1:=((X.other ⟨R,0,none⟩ (0:Int) J0).set (140:Int)).1;have a7:=(al.setCell (p:=⟨R,0,none⟩) r.FO (0:Int)).setCell (p:=⟨R,1,none⟩) r.FO (140:Int);refine Lo (v:=.agg #[(0:Int),(140:Int)]) JQ Z ⟨_,Z,Kb,Or.inl ⟨by simp[Sc.i1,bI.o],a7⟩,nF.of_below a7⟩
   | true =>
    go_wp2_with fail
    go_roundg (gk-1)
    case measure=>omega
    case rel=>exact⟨k+1,IP,O,a.o,I.o,fun y hy=>by rw[d4.o]at hy;rcases LH.1 hy with h | h;exact c8.o y h;rw[Ly.1 h];exact hib⟩
  clear I;obtain rfl:k=f.length:=O
  have a9:=H (show s.E7 gi f=true by rw[Sc.DF];refine⟨⟨hu,hv⟩,?_⟩;have h:=c8.o;rw[LV]at h;exact h);clear c8;go_wp2_with fail;obtain⟨m,q,N,P,J,k1,k2,A,k4,G,bk⟩:=a.hs.ats;refine az (fun W:World=>W.cell? C=some (B:Y)/\W.cell? B=some (s.gi:Y)/\W.cell? ⟨B,3,none⟩=some (.slice m s.sk.length q)) (⟨a.cC,J.1,A.1⟩) fun c=>?_;clear bk;replace a:=H a.drew;obtain⟨y1,a3⟩:∃y1,y1=wr.drew:=⟨_,Z⟩;replace G:sT y1 y1.heap.size m s.sk:=by rw[a3];exact G.1.below (L5 _ _).drew
  rw[<-a3]at a c|-;clear a3 J k1 k2 A k4;refine aA 0 4 1 5 ?_;refine aA 2 6 3 7 ?_;have aF:=c;refine aY 8 fun E b=> ?_;go_simp;refine(eh y1 y1.heap.size m q s.sk G (L6 _)).mono ?_;rintro e y2⟨rfl,d⟩;have b4:y2.cell? C=some (B:Y)/\y2.cell? B=some (s.gi:Y)/\y2.cell? ⟨B,3,none⟩=some (.slice m s.sk.length q):=⟨(d.cell (p:=⟨C,0,none⟩) (Ll aF.1)).trans aF.1,(d.cell (p:=⟨B,0,none⟩) (Ll aF.2.1)).trans aF.2.1,(d.cell (p:=⟨B,3,none⟩) (Ll aF.2.2)).trans aF.2.2⟩;replace a:=H (a.below d);clear d G aF;go_simp;refine b.out _ _ (b4) ?_;clear b E c;refine fun c=>aW ?_
  skip
  refine aQ 9 ?_;rw[bd.o,e6.o];refine aQ 10 ?_;refine ay ?_ _;clear c b4;obtain⟨m,q,N,P,⟨J,g0⟩,⟨k1,-⟩,-,-,-,-,-⟩:=a.hs.ats;have cC:=a.cC;have cT:=a.cT;go_wp2_with fail
  go_region
  replace a:=H (a.to (((nF.refl B y2).setCell 0 (max s.gi gi:Int)).drew) ((a.hs.set (s':={ s with gi:=max s.gi gi }) 0 (max s.gi gi:Int) Z Z (fun _ _ _ _=>rfl)).below (L5 _ _).drew));generalize (y2.setCell B (max s.gi gi:Int)).drew=y3 at a|-;clear J g0 k1 cC cT;obtain⟨u,a1⟩:∃u,u=max s.gi gi:=⟨_,Z⟩;rw[<-a1]at a|-;have b9:=H a1;have c9:=H (show 0<=u by rw[a1];omega);clear a1;go_wp2_with fail;have ec:∃v,At R 0 v y3:=a.r0;obtain⟨vr,d6⟩:=ec;have z:=d6.lt;clear d6 vr;have j:y3.cell? C=some (B:Y)/\y3.cell? B=some (.int .i64 u)/\y3.cell? L=some (.slice K f.length M):=PO
  refine az (fun W:World=>W.cell? C=some (B:Y)/\W.cell? B=some (.int .i64 u)/\W.cell? L=some (.slice K f.length M)) (j) fun c=>?_;clear j;replace a:=H a.drew;replace z:R<y3.drew.heap.size:=z;obtain⟨y4,d7⟩:∃y4,y4=y3.drew:=⟨_,Z⟩;rw[<-d7]at a c z|-;clear d7;refine aA 0 1 5 9 ?_;refine aA 2 6 3 7 ?_;refine aQ 4 ?_;obtain⟨m,q,N,P,-,-,-,⟨A,g3⟩,-,G,-⟩:=a.hs.ats;dsimp only at A G;refine aY 8 fun E b=> ?_;go_simp;refine b.out _ _ (c) ?_;clear b E c;refine fun c=>aW ?_;refine aY 10 fun E b=> ?_;go_simp;have d:=bg y4 (.cells #[.slice m s.sk.length q,.slice K f.length M] 51)
  have F:jb y4.heap.size [(m,q,s.sk),(K,M,f)] (y4.alloc (.cells #[.slice m s.sk.length q,.slice K f.length M] 51)):=⟨IK,fun i hi=>by
   rcases(show i=0\/i=1 by simp at hi;omega)with rfl | rfl
   ·exact⟨(At.new (W:=y4) (vs:= #[.slice m s.sk.length q,.slice K f.length M]) _ Z Z).1,(G.1.below d).mono d.size⟩
   exact⟨(At.new (W:=y4) (vs:= #[.slice m s.sk.length q,.slice K f.length M]) _ Z Z).1,(a.hl.1.below d).mono d.size⟩⟩
  have j:(y4.alloc (.cells #[.slice m s.sk.length q,.slice K f.length M] 51)).cell? C=some (B:Y)/\(y4.alloc (.cells #[.slice m s.sk.length q,.slice K f.length M] 51)).cell? B=some (.int .i64 u)/\(y4.alloc (.cells #[.slice m s.sk.length q,.slice K f.length M] 51)).cell? L=some (.slice K f.length M):=PP
  replace a:=H (a.below d);replace z:=Ld z d.size;generalize y4.alloc (.cells #[.slice m s.sk.length q,.slice K f.length M] 51)=y5 at a F j z|-;have bn:=H F;clear d F G A g3;refine b.out _ _ (j) ?_;clear b E c;refine fun c=>aW ?_;clear j;have an:=H (show dO [(m,q,s.sk),(K,M,f)]=s.sk++f by simp[dO]);refine aY 11 fun E b=> ?_;go_simp;refine(gf u _ 2 2 [(m,q,s.sk),(K,M,f)] y5 Z bn.o c9.o (by rw[an.o];exact ak.Ig (Sc.DF.1 a9.o).2) (by rw[an.o];exact e5.o) O).mono ?_;rintro e y6⟨v,rfl,S,d⟩;rw[an.o,b9.o,show bN (max s.gi gi) (s.sk++f)=(s.v7 gi f).sk from Z]at S;obtain⟨va,vc,rfl,-⟩:=S.val;have a0:=(bG.own S (bX (ak.El a9.o).1) (show R+1<=y5.heap.size by omega)).1;have b7:=H a0;have j:y6.cell? C=some (B:Y)/\y6.cell? B=some (.int .i64 u)/\y6.cell? L=some (.slice K f.length M):=PP
  replace a:=H (a.below d);replace z:=Ld z d.size;clear S d a0 bn an;go_simp;refine b.out _ _ (j) ?_;clear b E c;refine fun c=>aW ?_;clear j;obtain⟨sk,a4⟩:∃sk,sk=(s.v7 gi f).sk:=⟨_,Z⟩;rw[<-a4]at b7|-;have cX:=H a4;clear a4;obtain⟨ed,eg,ei,el,-,-,-,⟨A,g3⟩,-,-,-⟩:=a.hs.ats;refine aM 12 13 ?_;refine aY 14 fun E b=> ?_;go_simp;clear A g3;have l:=(nF.refl B y6).setCell 3 (.slice va sk.length vc);have c2:=a.ne.2.2.2;replace a:=H (a.to l (a.hs.Fy (Et:=R+1) c7.o O b7.o));have ac:=l.size;generalize y6.setCell ⟨B,3,none⟩ (.slice va sk.length vc)=y7 at a l ac|-;replace z:=Ld z ac;have j:y7.cell? C=some (B:Y)/\y7.cell? B=some (.int .i64 u)/\y7.cell? L=some (.slice K f.length M):=PO
  clear l ac b7;refine b.out _ _ (j) ?_;clear b E c;refine fun c=>aW ?_;clear j;refine ay ?_ _;clear c;go_wp2_with fail;obtain⟨m,q,N,P,⟨J,-⟩,-,-,⟨A,-⟩,-,-,-⟩:=a.hs.ats;dsimp only at J A;refine az (fun W:World=>W.cell? C=some (B:Y)/\W.cell? B=some (.int .i64 u)/\W.cell? ⟨B,3,none⟩=some (.slice m sk.length q)) (⟨a.cC,J,A⟩) fun c=>?_;clear J A;replace a:=H a.drew;replace z:R<y7.drew.heap.size:=z;obtain⟨y8,d8⟩:∃y8,y8=y7.drew:=⟨_,Z⟩;rw[<-d8]at a c z|-;clear d8;refine aA 0 1 5 11 ?_;refine aA 2 6 12 3 ?_;refine aA 7 13 4 14 ?_;obtain⟨cf,cg,N,P,-,-,-,⟨A,-⟩,⟨k4,g4⟩,G,bk⟩:=a.hs.ats;dsimp only at A k4 G bk;obtain⟨rfl,rfl⟩:m=cf/\q=cg:=KK
  clear A;refine aY 8 fun E b=> ?_;go_simp;refine b.out _ _ (c) ?_;clear b E c;refine fun c=>aW ?_;refine aY 9 fun E b=> ?_;go_simp;have d:=bg y8 (.cells #[.slice N s.ag.length P] 51)
  have F:jb y8.heap.size [(N,P,s.ag)] (y8.alloc (.cells #[.slice N s.ag.length P] 51)):=⟨IK,fun i hi=>by
   obtain rfl:i=0:=by simp at hi;omega
   exact⟨(At.new (W:=y8) (vs:= #[.slice N s.ag.length P]) _ Z Z).1,(bk.1.below d).mono d.size⟩⟩
  have j:(y8.alloc (.cells #[.slice N s.ag.length P] 51)).cell? C=some (B:Y)/\(y8.alloc (.cells #[.slice N s.ag.length P] 51)).cell? B=some (.int .i64 u)/\(y8.alloc (.cells #[.slice N s.ag.length P] 51)).cell? ⟨B,3,none⟩=some (.slice m sk.length q):=⟨(d.cell (p:=⟨C,0,none⟩) (Ll c.1)).trans c.1,(d.cell (p:=⟨B,0,none⟩) (Ll c.2.1)).trans c.2.1,(d.cell (p:=⟨B,3,none⟩) (Ll c.2.2)).trans c.2.2⟩;replace G:=G.below d;replace a:=H (a.below d);replace z:=Ld z d.size;generalize y8.alloc (.cells #[.slice N s.ag.length P] 51)=y9 at a F j z G|-;have bn:=H F;clear d F bk k4 g4;refine b.out _ _ (j) ?_;clear b E c;refine fun c=>aW ?_;clear j;have an:=H (show dO [(N,P,s.ag)]=s.ag by simp[dO]);have b8:=H (cu (low:=u) (L:=s.ag) c9.o (bU ak.FJ)).1;have cY:=H (show aj sk=true by rw[cX.o];exact(ak.El a9.o).1);refine aY 10 fun E b=> ?_;go_simp;refine(gf u _ 1 1 [(N,P,s.ag)] y9 Z bn.o c9.o (by rw[an.o];exact bU ak.FJ) (by rw[an.o];exact bX ak.FJ) O).mono ?_;rintro e U⟨v,rfl,S,d⟩;rw[an.o]at S;obtain⟨vb,vd,rfl,-⟩:=S.val;have a0:=(bG.own S (bX b8.o) (L6 _)).1;have j:U.cell? C=some (B:Y)/\U.cell? B=some (.int .i64 u)/\U.cell? ⟨B,3,none⟩=some (.slice m sk.length q):=⟨(d.cell (p:=⟨C,0,none⟩) (Ll c.1)).trans c.1,(d.cell (p:=⟨B,0,none⟩) (Ll c.2.1)).trans c.2.1,(d.cell (p:=⟨B,3,none⟩) (Ll c.2.2)).trans c.2.2⟩;replace G:=G.below d;replace a:=H (a.below d);replace z:=Ld z d.size;clear S d bn an;go_simp;refine b.out _ _ (j) ?_;clear b E c;refine fun c=>aW ?_;clear j;refine aY 15 fun E b=> ?_;go_simp;refine(iT U U.heap.size vb m vd q (bN u s.ag) sk _ _ a0.1 G.1 G.2.1 (L6 _) b8.o cY.o).mono ?_;rintro e b0⟨v,rfl,S,d⟩;rw[b9.o,cX.o,show dr (bN (max s.gi gi) s.ag) (s.v7 gi f).sk=(s.v7 gi f).ag from Z]at S;obtain⟨va,vc,rfl,-⟩:=S.val;have b7:=H (bG.own S (bX (ak.Ff a9.o).1) (show R+1<=U.heap.size by omega)).1;have j:b0.cell? C=some (B:Y)/\b0.cell? B=some (.int .i64 u)/\b0.cell? ⟨B,3,none⟩=some (.slice m sk.length q):=⟨(d.cell (p:=⟨C,0,none⟩) (Ll c.1)).trans c.1,(d.cell (p:=⟨B,0,none⟩) (Ll c.2.1)).trans c.2.1,(d.cell (p:=⟨B,3,none⟩) (Ll c.2.2)).trans c.2.2⟩;replace a:=H (a.below d);replace z:=Ld z d.size;clear S d a0 G b8;go_simp;refine b.out _ _ (j) ?_;clear b E c;refine fun c=>aW ?_;clear j;refine aM 16 17 ?_;obtain⟨ag,b1⟩:∃ag,ag=(s.v7 gi f).ag:=⟨_,Z⟩;rw[<-b1]at b7|-;have em:=H b1;clear b1;obtain⟨ed,eg,ei,el,-,-,-,-,⟨k4,g4⟩,-,-⟩:=a.hs.ats;refine aY 18 fun E b=> ?_;go_simp;clear k4 g4;have l:=(nF.refl B b0).setCell 4 (.slice va ag.length vc);have j:(b0.setCell ⟨B,4,none⟩ (.slice va ag.length vc)).cell? C=some (B:Y)/\(b0.setCell ⟨B,4,none⟩ (.slice va ag.length vc)).cell? B=some (.int .i64 u)/\(b0.setCell ⟨B,4,none⟩ (.slice va ag.length vc)).cell? ⟨B,3,none⟩=some (.slice m sk.length q):=⟨cB c.1 l a.ne.2.1,(LX _ _ _ _ J0).trans c.2.1,(LX _ _ _ _ J0).trans c.2.2⟩;replace a:=H (a.to l (a.hs.F3 (Eu:=R+1) c7.o O b7.o));have ac:=l.size;generalize b0.setCell ⟨B,4,none⟩ (.slice va ag.length vc)=Ih at a l ac j|-;replace z:=Ld z ac;clear l ac b7;refine b.out _ _ (j) ?_;clear b E c;refine fun c=>aW ?_;clear j;refine ay ?_ _;clear c;go_wp2_with fail;obtain⟨m,q,N,P,⟨J,-⟩,-,-,⟨A,-⟩,-,-,-⟩:=a.hs.ats;dsimp only at J A;refine az (fun W:World=>W.cell? C=some (B:Y)/\W.cell? B=some (.int .i64 u)/\W.cell? ⟨B,3,none⟩=some (.slice m sk.length q)) (⟨a.cC,J,A⟩) fun c=>?_;clear J A;replace a:=H a.drew;replace z:R<Ih.drew.heap.size:=z;obtain⟨a2,bu⟩:∃a2,a2=Ih.drew:=⟨_,Z⟩;rw[<-bu]at a c z|-;clear bu;refine aA 0 4 10 1 ?_;refine aA 5 2 6 3 ?_;refine aQ 7 ?_;obtain⟨cf,cg,N,P,-,-,-,⟨A,-⟩,-,G,-⟩:=a.hs.ats;dsimp only at A G;obtain⟨rfl,rfl⟩:m=cf/\q=cg:=KK
  clear A;have be:=H (show IntKind.i64.wrap (u+aD sk)=u+aD sk/\IntKind.i64.wrap (u+aD sk-(s.gi+aD s.sk))=u+aD sk-(s.gi+aD s.sk)/\dq sk=aD sk from⟨LF _ (by have h1:=ak.u0;have h2:=ak.un;have h3:=ak.n40;have h4:=aN cY.o;have h5:=b9.o;omega),LF _ (by have h1:=ak.u0;have h2:=ak.un;have h3:=ak.n40;have h4:=aN cY.o;have h5:=b9.o;have h6:=aN ak.Eg;omega),by unfold dq;rw[L9 cY.o]⟩);refine aY 8 fun E b=> ?_;go_simp;refine(eh a2 a2.heap.size m q sk G.1 (L6 _)).mono ?_;rintro e t⟨rfl,d⟩;have j:t.cell? C=some (B:Y)/\t.cell? B=some (.int .i64 u)/\t.cell? ⟨B,3,none⟩=some (.slice m sk.length q):=⟨(d.cell (p:=⟨C,0,none⟩) (Ll c.1)).trans c.1,(d.cell (p:=⟨B,0,none⟩) (Ll c.2.1)).trans c.2.1,(d.cell (p:=⟨B,3,none⟩) (Ll c.2.2)).trans c.2.2⟩;replace a:=H (a.below d);replace z:=Ld z d.size;clear d G;go_simp;refine b.out _ _ (j) ?_;clear b E c;refine fun c=>aW ?_;clear j;refine aQ 9 ?_;rw[be.2.2,be.1];refine aQ 11 ?_;rw[be.2.1];refine aQ 12 ?_;obtain⟨x0,p0,q0⟩:=a.r0;obtain⟨x1,p1,q1⟩:=a.r1;obtain⟨n,hn⟩:∃n,n=u+aD sk-(s.gi+aD s.sk):=⟨_,Z⟩;rw[<-hn];have HN:=H hn;clear hn;refine aY 13 fun E b=> ?_;go_simp;have d9:R≠B:=a.ne.2.2.2;have e0:At R 0 x0 t:=⟨p0,q0⟩;have e1:At R 1 x1 t:=⟨p1,q1⟩;have d0:=((e0.set (.int .i64 n)).other ⟨R,1,none⟩ (0:Int) J0).1;have d1:=((e1.other ⟨R,0,none⟩ (.int .i64 n) J0).set (0:Int)).1;clear p0 q0 p1 q1 e0 e1;have l:nF R t ((t.setCell R (.int .i64 n)).setCell ⟨R,1,none⟩ (0:Int)):=((nF.refl R t).setCell 0 (.int .i64 n)).setCell 1 (0:Int);have da:=a.hs.other l O O O;have b5:nF B w ((t.setCell R (.int .i64 n)).setCell ⟨R,1,none⟩ (0:Int)):=(a.Dj.EU ⟨R,0,none⟩ a.FO (.int .i64 n)).EU ⟨R,1,none⟩ a.FO (0:Int)
  have dc:({ s with gi:=u,sk:=sk,ag:=ag }:Sc)=s.i1 gi f:=by
   unfold Sc.i1;rw[L9 a9.o,b9.o,cX.o,em.o] <;> rfl
  have HZ:=H (show bL B w.heap.size (s.i1 gi f) ((t.setCell R (.int .i64 n)).setCell ⟨R,1,none⟩ (0:Int)) by rw[<-dc];exact da.mono (by have:=a.FO;omega) (by have:=a.FO;omega) b6.lt b6.lt);have di:=H b5;have j:((t.setCell R (.int .i64 n)).setCell ⟨R,1,none⟩ (0:Int)).cell? C=some (B:Y)/\((t.setCell R (.int .i64 n)).setCell ⟨R,1,none⟩ (0:Int)).cell? B=some (.int .i64 u)/\((t.setCell R (.int .i64 n)).setCell ⟨R,1,none⟩ (0:Int)).cell? ⟨B,3,none⟩=some (.slice m sk.length q):=⟨cB c.1 l (by have:=e7.o;have:=a.FO;omega),cB c.2.1 l (Ne.symm d9),cB c.2.2 l (Ne.symm d9)⟩;clear dc da l b5;generalize ((t.setCell R (.int .i64 n)).setCell ⟨R,1,none⟩ (0:Int))=II at d0 d1 HZ di j|-;refine b.out _ _ (j) ?_;clear b E c;refine fun c=>aW ?_;clear j;refine ay ?_ _;clear c;go_wp2_with fail;refine Lo (v:=.agg #[.int .i64 n,(0:Int)]) JQ Z ⟨_,Z,by unfold Sc.Db Sc.Cp;rw[L9 a9.o,L9 a9.o,<-cX.o,<-b9.o,<-HN.o],Or.inr HZ.o,di.o⟩
end
section
open Go.RowKit Go.Shelf
set_option maxHeartbeats 1000000 in
theorem oq (T C L B lb:Nat) (s:Sc) (gi:Int) (l:Option Addr) (r:Nat) (a:List Sp) (w:World) (ok:s.Ok) (t:w.cell? T=some (gi:Y)) (u:w.cell? C=some (B:Y)) (x:w.cell? L=some (.slice l a.length r))
  (ne:T≠B/\C≠B/\L≠B) (hs:bL B lb s w) (y:Ah B l a w) (hlen:(s.sk++a).length<=1099511627776) :
  Calls Tryz.prog 120 #[B,.agg #[(0:Int),(1:Int)],.func (.func 121) #[] #[T,C,L]] w fun e w'=>e= .returned (.agg #[(s.Db gi a),(s.Cp gi a)])/\bL B lb (s.i1 gi a) w'/\nF B w w':=by
 have g:=((L5 w.heap.size w).alloc (L6 _) (.cells #[(0:Int),(1:Int)] 154)).alloc IK (.cells #[(0:Int),(0:Int)] 154);have d:=nF.of_below (B:=B) g;have N:=hs.lt;have z:At (w.heap.size+1) 0 (0:Int) ((w.alloc (.cells #[(0:Int),(1:Int)] 154)).alloc (.cells #[(0:Int),(0:Int)] 154)):=At.new (W:=w.alloc (.cells #[(0:Int),(1:Int)] 154)) (vs:= #[(0:Int),(0:Int)]) _ IK Z;have A:At (w.heap.size+1) 1 (0:Int) ((w.alloc (.cells #[(0:Int),(1:Int)] 154)).alloc (.cells #[(0:Int),(0:Int)] 154)):=At.new (W:=w.alloc (.cells #[(0:Int),(1:Int)] 154)) (vs:= #[(0:Int),(0:Int)]) _ IK Z;have m:=H (rr T C L B lb s gi l r a ((w.alloc (.cells #[(0:Int),(1:Int)] 154)).alloc (.cells #[(0:Int),(0:Int)] 154)) ok (cB t d ne.1) (cB u d ne.2.1) (cB x d ne.2.2) ne (hs.below g) (y.Dj d) hlen);have n:=H d;have h:=H (show At (w.heap.size+1) 0 (0:Int) _/\At (w.heap.size+1) 1 (0:Int) _ from⟨z,A⟩);have i:=H hs;have j:=H g;have q:((w.alloc (.cells #[(0:Int),(1:Int)] 154)).alloc (.cells #[(0:Int),(0:Int)] 154)).heap.size=w.heap.size+2:=IK
 have P:=hs.2.1.1;clear ok t u x ne hs y hlen g d z A
 go_enter Tryz.func120,Tryz.ntmps120
 go_wp2_with fail;generalize (w.alloc (.cells #[(0:Int),(1:Int)] 154)).alloc (.cells #[(0:Int),(0:Int)] 154)=w1 at m n h j q|-;refine(m.o).mono ?_;rintro e f⟨v,rfl,rfl,k,b⟩;have c:w.heap.size+1≠B:=O
 obtain⟨E,F⟩:=oW h.1 b c;obtain⟨G,I⟩:=oW h.2 b c;have J:At (w.heap.size+1) 0 (0:Int) f:=⟨E,F⟩;have K:At (w.heap.size+1) 1 (0:Int) f:=⟨G,I⟩;have M:nF (w.heap.size+1) f ((f.setCell ⟨w.heap.size+1,0,none⟩ (s.Db gi a)).setCell ⟨w.heap.size+1,1,none⟩ (s.Cp gi a)):=((nF.refl _ f).setCell 0 _).setCell 1 _
 have S:=H (show bL B lb (s.i1 gi a) ((f.setCell ⟨w.heap.size+1,0,none⟩ (s.Db gi a)).setCell ⟨w.heap.size+1,1,none⟩ (s.Cp gi a)) by
  rcases k with⟨e,U⟩ | k
  ·rw[e];exact i.below (((j.trans (U.mono j.size)).setCell (p:=⟨w.heap.size+1,0,none⟩) IK _).setCell (p:=⟨w.heap.size+1,1,none⟩) IK _)
  exact(k.other M (Ne.symm c) O).mono O O i.1.1 i.1.1)
 have V:=H (((n.trans b).EU ⟨w.heap.size+1,0,none⟩ IK (s.Db gi a)).EU ⟨w.heap.size+1,1,none⟩ IK (s.Cp gi a));have d0:=((J.set (s.Db gi a)).other ⟨w.heap.size+1,1,none⟩ (s.Cp gi a) J0).1;have d1:=((K.other ⟨w.heap.size+1,0,none⟩ (s.Db gi a) J0).set (s.Cp gi a)).1;clear k M b J K m n h j i;go_wp2_with fail;clear E F G I;exact Lo (v:=.agg #[(s.Db gi a),(s.Cp gi a)]) (by simp[results,Tryz.results120,go_sem,d0,d1]) Z ⟨Z,S.o,V.o⟩
set_option maxHeartbeats 1000000 in
theorem lH (B lb:Nat) (s:Sc) (gi:Int) (b:Option Addr) (d:Nat) (a:List Sp) (w:World) (ok:s.Ok) (hs:bL B lb s w) (r:Ah B b a w) (hlen:(s.sk++a).length<=1099511627776) :
  Calls Tryz.prog 81 #[B,gi,.slice b a.length d] w fun e w'=>e= .returned (.tuple #[(s.Db gi a),(s.Cp gi a)])/\bL B lb (s.i1 gi a) w'/\nF B w w':=by
 have z:=hs.lt;have i:=(L5 w.heap.size w).alloc (L6 _) (.cells #[B] 74);have j:=i.alloc IK (.cells #[gi] 3);have l:=j.alloc IM (.cells #[.slice b a.length d] 51);have m:=((show At w.heap.size 0 B _ from At.new (W:=w) (vs:= #[B]) 74 Z Z).alloc (.cells #[gi] 3)).alloc (.cells #[.slice b a.length d] 51);have t:=(show At (w.heap.size+1) 0 gi _ from At.new (W:=w.alloc (.cells #[B] 74)) (vs:= #[gi]) 3 IK Z).alloc (.cells #[.slice b a.length d] 51);have u:=(show At (w.heap.size+2) 0 (.slice b a.length d) _ from At.new (W:=(w.alloc (.cells #[B] 74)).alloc (.cells #[gi] 3)) (vs:= #[.slice b a.length d]) 51 IK Z);have n:=nF.of_below (B:=B) l;have p:=H (oq (w.heap.size+1) w.heap.size (w.heap.size+2) B lb s gi b d a (((w.alloc (.cells #[B] 74)).alloc (.cells #[gi] 3)).alloc (.cells #[.slice b a.length d] 51)) ok t.1 m.1 u.1 ⟨O,O,O⟩ (hs.below l) (r.Dj n) hlen);have q:=H n;have x:=m.1;clear i j l m t u n hs r ok hlen
 go_enter Tryz.func81,Tryz.ntmps81
 go_wp2_with fail;generalize ((w.alloc (.cells #[B] 74)).alloc (.cells #[gi] 3)).alloc (.cells #[.slice b a.length d] 51)=w1 at p q x|-;refine(p.o).mono ?_;rintro e c⟨rfl,y,k⟩;have g:=H (q.trans k);have h:=H y;clear x y k p q;go_wp2_with fail;have d0:=(show At c.heap.size 0 (s.Db gi a) (c.alloc (.cells #[(s.Db gi a),(s.Cp gi a)] 154))from At.new (W:=c) (vs:= #[(s.Db gi a),(s.Cp gi a)]) 154 Z Z).1;have d1:=(show At c.heap.size 1 (s.Cp gi a) (c.alloc (.cells #[(s.Db gi a),(s.Cp gi a)] 154))from At.new (W:=c) (vs:= #[(s.Db gi a),(s.Cp gi a)]) 154 Z Z).1;have f:=bg c (.cells #[(s.Db gi a),(s.Cp gi a)] 154);replace h:=H (h.below f);replace g:=H (g.trans (nF.of_below f));clear f;generalize (c.alloc (.cells #[(s.Db gi a),(s.Cp gi a)] 154))=w3 at h g d0 d1|-;refine az (fun W:World=>W.cell? c.heap.size=some (s.Db gi a:Y)/\W.cell? ⟨c.heap.size,1,none⟩=some (s.Cp gi a:Y)) (⟨d0,d1⟩) fun A=>?_;refine aA 0 1 2 3 ?_;refine aM 4 5 ?_;refine ay ?_ _;clear A;replace h:=H (h.below (L5 _ _).drew);replace g:=H g.drew;go_wp2_with fail;exact Lo (v:=.tuple #[(s.Db gi a),(s.Cp gi a)]) (by simp[results,Tryz.results81,go_sem]) Z ⟨Z,h.o,g.o⟩
end
end Go.Proofs.YtcmncipikdpnbaaGreatDoor
