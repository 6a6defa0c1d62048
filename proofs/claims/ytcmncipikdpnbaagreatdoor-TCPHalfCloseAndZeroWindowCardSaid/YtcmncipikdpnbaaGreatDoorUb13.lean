import Derived.Test.YtcmncipikdpnbaaGreatDoorUb12
import Derived.Deep.CutBlock
import Derived.Deep.DeepCutAuto
namespace Go.Proofs.YtcmncipikdpnbaaGreatDoor
section
set_option maxRecDepth 100000
open Go.RowKit Go.Shelf
def WB (w:World)(n₀:Nat)(v:Value)(L:List Sp):Prop:=∃a b,v= .slice a L.length b/\oB w n₀ a L/\L.length<=b
theorem WB.tail {w:World}{n₀:Nat}{y:Sp}{t:List Sp}{b o n cap:Nat}(h:WB w n₀ (.slice (some ⟨b,o,none⟩) n cap) (y::t))(_hc1:cap≠1):WB w n₀ (.slice (some ⟨b,o+2,none⟩) t.length (cap-1)) t:=by
 obtain⟨a,f,g,hs,j⟩:=h
 cases g
 obtain⟨l,m,e,k,c⟩:=hs.cells FE
 cases e
 have d:=hs.small;rw[Lx]at j d;refine⟨_,_,Z,⟨O,fun p=>⟨b,o+2,Z,k,fun i hi=> ?_⟩⟩,O⟩;have:=c (i+1) Jj;rw[show o+(i+1)*2=o+2+i*2 by omega]at this
 simpa using this
theorem Bk {e a:Int}{l:List Sp}(h:aJ e l=true):∀z∈iP a l,a<z.2:=by
 induction l generalizing e with
 | nil=>intro z hz;cases hz
 | cons x l b =>
  rw[aB]at h;rw[cB];split
  ·exact b h.2
  intro z hz
  rcases Mi.1 hz with rfl | hz
  ·omega
  have h1:=bX h.2 z hz;unfold ib at h1;have:=cv h.2 (show ap z.1 l from⟨z,hz,L9 _,h1.2.1⟩);omega
structure E9 (LA LB:List Sp)(k:Nat)(bl:List Sp):Prop where
 canon:∃e,aJ e bl=true
 rest:∀a t:Int,(∀y∈LA.take k,y.1<=a)->bO t a bl=bO t a LB
theorem E9.start {b a:List Sp}{e:Int}(h:aJ e a=true):E9 b a 0 a:=⟨⟨e,h⟩,fun _ _ _=>rfl⟩
theorem vN {e:Int}{l:List Sp}(h:aJ e l=true)(a:Int):∃b,aJ b (iP a l)=true:=by
 induction l generalizing e with
 | nil=>exact⟨e,h⟩
 | cons x l c =>
  rw[cB];split
  ·exact c (aB.1 h).2
  exact⟨e,h⟩
theorem E9.step {b j:List Sp}{m:Int}{k:Nat}{bl:List Sp}(h:E9 b j k bl)(ha:aJ m b=true)(n:k<b.length):E9 b j (k+1) (iP b[k].1 bl)/\bO b[k].2 b[k].1 (iP b[k].1 bl)=bO b[k].2 b[k].1 j:=by
 have p:∀(L:List Sp) (e:Int),aJ e L=true->L.Pairwise (fun x y=>x.1<=y.1):=by
  intro L
  induction L with
  | nil=>intro _ _;exact List.Pairwise.nil
  | cons x l q =>
   intro e g;rw[aB]at g;refine List.Pairwise.cons (fun y hy=> ?_) (q _ g.2);have:=cv g.2 (show ap y.1 l from⟨y,hy,L9 _,(bX g.2 y hy).2.1⟩);omega
 have r:=p b m ha;obtain⟨e,he⟩:=h.canon;have d:∀a t:Int,b[k].1<=a->bO t a (iP b[k].1 bl)=bO t a bl:=fun a t c=>by rw[<-qM (iP b[k].1 bl),AJ c,qM]
 have c:∀y∈b.take k,y.1<=b[k].1:=fun y hy=>by
  obtain⟨i,hi,rfl⟩:=Nj.1 hy;rw[Le]at hi;rw[Nw];exact MK.1 r i k O n O
 refine⟨⟨vN he _,fun a t f=> ?_⟩,?_⟩
 ·have o:=f b[k] (by rw[Lv n];exact Mm _ (List.mem_singleton_self _));rw[d a t o];exact h.rest a t (fun y hy=>Lz (c y hy) o)
 rw[d _ _ (L9 _)];exact h.rest _ _ c
set_option maxHeartbeats 4000000 in
theorem iY (w:World) (n₀:Nat) (aa ab:Option Addr) (ca cb:Nat) (f r:List Sp) (ea eb:Int) (hA:oB w n₀ aa f) (U:oB w n₀ ab r) (b3:r.length<=cb) (hn:n₀<=w.heap.size) (V:aJ ea f=true) (P:aJ eb r=true) :
  Calls Tryz.prog 125 #[.slice aa f.length ca,.slice ab r.length cb] w fun e w'=>∃v,e= .returned v/\aH w' w.heap.size v (dx f r)/\Below w.heap.size w w':=by
 have di:=H hA;have dk:=H U;have b8:=H V;have ch:=H P;have dl:=H (fun k=>oy V k);have dn:=hA.small;have dp:=U.small;clear hA U V P
 go_enter Tryz.func125,Tryz.ntmps125
 go_wp2_with fail
 go_loopg [1,5,13] f.length (fun g bv ov kv wr=>∃(k:Nat) (L:List Sp),kv=((k:Int):Y)/\g+k=f.length/\WB w n₀ bv L/\E9 f r k L/\aH wr w.heap.size ov (dx (f.take k) r)/\Below w.heap.size w wr)
 case atStart=>exact⟨0,r,Z,Z,⟨_,_,Z,dk.o,b3⟩,E9.start ch.o,aH.nil _ _,L3 _ _⟩
 case round =>
  obtain⟨k,L,rfl,hg,M,E,hO,hB⟩:=hrel;have F:=H M;have HR:=H E;have HO:=H hO;have HB:=H hB;have m:=hB.size;clear M E hO hB;by_cases hk:k<f.length
  ·obtain⟨sb,so,rfl,em,a2⟩:=di.cells O;obtain⟨c0,c1⟩:=a2 k hk;have d0:=(HB.cell (p:=⟨sb,_,none⟩) (by show sb<w.heap.size;omega)).trans c0;have d1:=(HB.cell (p:=⟨sb,_,none⟩) (by show sb<w.heap.size;omega)).trans c1;clear c0 c1 a2;have bx:=H (show dx (f.take (k+1)) r=dx (f.take k) r++bO f[k].2 f[k].1 r by rw[Lv hk,uj]);have b4:=H (HR.step b8.o hk);have ds:=H (bX b8.o f[k] (LP hk));have dv:(k:Int)<(f.length:Int):=by omega
   generalize f[k]=x at d0 d1 bx b4 ds;obtain⟨u,j⟩:=x;dsimp only at d0 d1 bx b4
   go_upto_block 2 with fail
   have d:=WI.new HO.o HB.o m u j;clear d0 d1;obtain⟨X,hX⟩:∃X,X=wr.heap.size:=⟨_,Z⟩;have en:w.heap.size<=X:=O
   rw[<-hX]at d|-;generalize wr.alloc (.cells #[u,j] 149)=W1 at d|-;have c:=H d;clear hX d HO HB m wr
   go_cut [1] (fun bv wx=>WB w n₀ bv (iP u L)/\WI w.heap.size X u j w u5 (dx (f.take k) r) wx)
   case first =>
    go_wp2_with fail
    go_loopg [1] L.length (fun g bv wr=>∃(b2:List Sp),g=b2.length/\iP u b2=iP u L/\WB w n₀ bv b2/\WI w.heap.size X u j w u5 (dx (f.take k) r) wr)
    case atStart=>exact⟨L,Z,Z,F.o,c.o⟩
    case round =>
     clear F c;obtain⟨b2,a5,a6,M,d⟩:=hrel;have F:=H M;have bz:=H a6;have c:=H d;have ci:=H a5;obtain⟨e0,e1⟩:=d.cells;clear M a6 d a5
     cases b2 with
     | nil =>
      obtain⟨ab,cb,rfl,-,-⟩:=F.o;go_wp2_with fail
      go_quiet (fail)
      go_wp2_with fail
      go_meet
      case rel=>exact⟨by rw[<-bz.o];exact F.o,c.drewN nq⟩
     | cons y t =>
      obtain⟨ab,cb,rfl,A,S⟩:=F.o;obtain⟨N,bo,rfl,b6,G⟩:=A.cells FE;obtain⟨p0,p1⟩:=G 0 FE;simp only[No,Nq,MC]at p0 p1;have q0:=(c.below.cell (p:=⟨N,_,none⟩) JO).trans p0;have q1:=(c.below.cell (p:=⟨N,_,none⟩) JO).trans p1;clear p0 p1 G A;obtain⟨l,n⟩:=y;dsimp only at q0 q1;have cl:((l,n)::t).length=t.length+1:=Z;have eB:=H (WB.tail F.o);rw[cl]at S|-;clear cl;by_cases hy:n<=u
      ·go_wp2_with fail
       go_quiet (fail)
       by_cases a7:cb=1
       ·subst a7;go_wp2_with fail;obtain rfl:t=[]:=LR O
        go_roundg 0
        case measure=>have:=ci.o;simp at this;omega
        case rel=>exact⟨[],Z,by rw[<-bz.o,cB,L7 (by exact hy)],⟨_,_,Z,⟨FE,fun h=>absurd h FE⟩,FE⟩,c.drewN nq⟩
       go_wp2_with fail
       go_roundg t.length
       case measure=>have:=ci.o;rw[Lx]at this;omega
       case rel=>exact⟨t,Z,by rw[<-bz.o,cB,L7 (by exact hy)],eB.o a7,c.drewN nq⟩
      go_wp2_with fail
      go_quiet (fail)
      go_wp2_with fail
      go_meet
      case rel=>exact⟨by rw[<-bz.o,cB,L5 (by show ¬n<=u;omega)];exact F.o,c.drewN nq⟩
   case rest =>
    clear c;obtain⟨M,d⟩:=hcut;have c:=H d;obtain⟨e0,e1⟩:=d.cells;have cn:=H (fun(e:Int) (h:aJ e L=true)=>Bk (a:=u) h);obtain⟨eC,bc⟩:=HR.canon;have cq:=H (cn.o eC bc);clear cn bc;generalize iP u L=q at M b4 cq;have F:=H M;obtain⟨ab,cb,rfl,A,S⟩:=M;have cs:=H A;have b9:=A.small;clear d A;have b5:=H (show dx (f.take k) r++bO j u q=dx (f.take (k+1)) r by rw[bx.o,b4.2]);have I:=H (bf (gD (dl.o (k+1)) ch.o).1);obtain⟨B,J⟩:∃B,B=dx (f.take (k+1)) r:=⟨_,Z⟩;have ax:=H J.symm;rw[<-J]at b5 I;clear J bx;generalize dx (f.take k) r=It at c b5
    go_upto_block 4 with fail
    go_cut [5,8] (fun ov av wx=>∃out b,av= .int .i64 b/\WI w.heap.size X u j w ov out wx/\out++one b j=B)
    case first =>
     go_wp2_with fail
     go_loopg [5,8,35] q.length (fun g ov av iv wr=>∃(i:Nat) (out:List Sp) (b:Int),iv=((i:Int):Y)/\av= .int .i64 b/\g+i=q.length/\WI w.heap.size X u j w ov out wr/\out++bO j b (q.drop i)=B/\(∃e,aJ e (q.drop i)=true)/\∀z∈q.drop i,b<z.2)
     case atStart=>exact⟨0,_,u,Z,Z,Z,c.o,b5.o,b4.1.canon,cq.o⟩
     case round =>
      clear c e0 e1;obtain⟨i,out,b,rfl,rfl,eo,d,s,a9,b0⟩:=hrel;have c:=H d;have T:=H s;have bd:=H a9;have a0:=H b0;obtain⟨e0,e1⟩:=d.cells;have m:=d.below.size;clear d s a9 b0;by_cases hi:i<q.length
      ·obtain⟨N,bo,rfl,b6,G⟩:=cs.cells O;obtain⟨p0,p1⟩:=G i hi;have q0:=(c.below.cell (p:=⟨N,_,none⟩) JO).trans p0;have q1:=(c.below.cell (p:=⟨N,_,none⟩) JO).trans p1;clear p0 p1 G;have c5:=H (MM hi);have er:(i:Int)<(q.length:Int):=by omega
       generalize q[i]=y at q0 q1 c5;obtain⟨l,n⟩:=y;dsimp only at q0 q1;rw[c5.o]at T bd a0;have eL:b<n:=a0.o _ M4;obtain⟨ey,cF⟩:=bd.o;rw[aB]at cF;have es:l<n:=cF.1.2.2.1;have cM:=H cF.2;clear cF;have c6:=H (show out++(if j<=l then one b j else one b l++bO j n (q.drop (i+1)))=B by have h:=T.o;rw[show bO j b ((l,n)::q.drop (i+1))=if n<=b then bO j b (q.drop (i+1))else if j<=l then one b j else one b l++bO j n (q.drop (i+1))from Z,L5 O]at h;exact h);have cw:=H (show ∀z∈q.drop (i+1),n<z.2 from fun z hz=>by have h1:=bX cM.o z hz;unfold ib at h1;have:=cv cM.o (show ap z.1 (q.drop (i+1))from⟨z,hz,L9 _,h1.2.1⟩);omega);clear T bd a0 c5;have g1:=(c.alloc m (.cells #[l,n] 149)).x1.1;by_cases h1:j<=l
       ·go_wp2_with fail
        go_meet
        case rel=>exact⟨out,b,Z,c.alloc m _,by have h:=c6.o;rw[L7 h1]at h;exact h⟩
       have a1:out.length<=4398046511104:=by have h:=c6.o;have h2:=I.o;rw[<-h,La]at h2;omega
       have dT:=H (show out++one b l++bO j n (q.drop (i+1))=B by have h:=c6.o;rw[L5 O,<-LK]at h;exact h);by_cases h2:b<l
       ·go_wp2_with (first | (at_builtin;refine bE _ Z _ _ Z w.heap.size _ _ Z ((c.own.alloc _).alloc _) a1 (wr.heap.size+1) (b,l) Z FE FE IH ?_))
        intro v' w' ho C K;have d:=((c.alloc m (.cells #[l,n] 149)).alloc IH (.cells #[.int .i64 b,l] 149)).app (L4 _) ho C KD;have cS:=H d
        have et:w'.cell? ⟨wr.heap.size,1,none⟩=some (n:Y):=by
         refine(sE C (by
          show((wr.alloc (.cells #[l,n] 149)).alloc (.cells #[.int .i64 b,l] 149)).cell? ⟨wr.heap.size,1,none⟩=_;exact(((At.new (W:=wr) (vs:= #[l,n]) 149 (i:=1) Z Z).alloc (.cells #[.int .i64 b,l] 149))).1) ?_)
         intro e;have:=(c.own.lt _ e).2;omega
        clear ho C K d q0 q1 e0 e1 g1;go_wp2_with fail
        go_roundg (gk-1)
        case measure=>omega
        case rel=>exact⟨i+1,_,n,IK,Z,O,cS.o,by have h:=dT.o;unfold one at h;rw[L7 h2]at h;exact h,⟨_,cM.o⟩,cw.o⟩
       have b7:l<=b:=O
       go_wp2_with fail
       go_roundg (gk-1)
       case measure=>omega
       case rel=>exact⟨i+1,_,n,IK,Z,O,c.alloc m _,by have h:=dT.o;unfold one at h;rw[L5 O,LM]at h;exact h,⟨_,cM.o⟩,cw.o⟩
      obtain rfl:i=q.length:=O
      go_wp2_with fail
      go_meet
      case rel=>exact⟨out,b,Z,c.o,by have h:=T.o;rw[Nh]at h;exact h⟩
    case rest =>
     clear c e0 e1 cs;obtain⟨out,b,rfl,d,s⟩:=hcut;have c:=H d;have T:=H s;obtain⟨e0,e1⟩:=d.cells;have m:=d.below.size;clear d s;have a1:out.length<=4398046511104:=by have h:=T.o;have h2:=I.o;rw[<-h,La]at h2;omega
     by_cases h2:b<j
     ·go_wp2_with (first | (at_builtin;refine bE _ Z _ _ Z w.heap.size _ _ Z (c.own.alloc _) a1 _ (b,j) Z FE FE IH ?_))
      intro v' w' ho C K;have d:=(c.alloc m (.cells #[.int .i64 b,j] 149)).app (L4 _) ho C KD;have cS:=H d;clear ho C K d e0 e1;go_wp2_with fail
      go_roundg (f.length-(k+1))
      case measure=>omega
      case rel=>exact⟨k+1,q,IK,O,F.o,b4.1,by rw[ax.o];have h:=T.o;unfold one at h;rw[L7 h2]at h;rw[<-h];exact cS.own,cS.below⟩
     have b7:j<=b:=O
     go_wp2_with fail
     go_roundg (f.length-(k+1))
     case measure=>omega
     case rel=>exact⟨k+1,q,IK,O,F.o,b4.1,by rw[ax.o];have h:=T.o;unfold one at h;rw[L5 O,LM]at h;rw[<-h];exact c.own,c.below⟩
  obtain rfl:k=f.length:=O
  have hO:=HO.o;rw[LS]at hO;have eS:=H hO;clear hO;go_wp2;go_ret;exact⟨_,Z,eS.o,HB.o⟩
end
section
open Go.RowKit Go.Shelf
def eI (s:Sc)(a:Option Addr)(sc:Nat)(b:Option Addr)(c:Nat):Array Value:= #[s.fM,s.next,s.mark,.slice a s.sk.length sc,.slice b s.ag.length c]
def bZ (B a b:Nat)(s:Sc)(W:World):Prop:=(B<a/\B<b)/\(a<=W.heap.size/\b<=W.heap.size)/\∃c d e f,W.heap[B]? =some (.cells (eI s c d e f) 135 (0,0))/\bG a s.sk c d W/\bG b s.ag e f W
def bK (B lb:Nat)(s:Sc)(W:World):Prop:=bZ B lb lb s W
theorem bZ.lt {B a b:Nat}{s:Sc}{W:World}(h:bZ B a b s W):B<W.heap.size:=Lb h.1.1 h.2.1.1
theorem bZ.below {B a b:Nat}{s:Sc}{W W':World}(h:bZ B a b s W)(c:Below W.heap.size W W'):bZ B a b s W':=by
 have d:=h.lt;obtain⟨h1,⟨h2,e⟩,f,g,i,j,k,l,lg⟩:=h;exact⟨h1,⟨L8 h2 c.size,L8 e c.size⟩,f,g,i,j,(c.block B d).trans k,l.below c,lg.below c⟩
theorem bZ.other {B C a b:Nat}{s:Sc}{W W':World}(h:bZ B a b s W)(c:lh C W W')(d:B≠C)(g:C<a)(e:C<b):bZ B a b s W':=by
 have i:=h.lt;obtain⟨h1,⟨h2,j⟩,k,l,m,n,f,o,lg⟩:=h;exact⟨h1,⟨L8 h2 c.size,L8 j c.size⟩,k,l,m,n,(c.block B i d).trans f,o.other c g,lg.other c e⟩
theorem bZ.ats {B a b:Nat}{s:Sc}{W:World}(h:bZ B a b s W):∃d sc e f,At B 0 s.fM W/\At B 1 s.next W/\At B 2 s.mark W/\At B 3 (.slice d s.sk.length sc) W/\At B 4 (.slice e s.ag.length f) W/\bG a s.sk d sc W/\bG b s.ag e f W:=by
 obtain⟨h1,h2,d,sc,e,f,g,j,lg⟩:=h;have c:∀i v,(eI s d sc e f)[i]? =some v->At B i v W:=fun i v k=>⟨by rw[Ln _ _ _ _ _ _ g];exact k,LT _ _ _ _ _ g⟩;exact⟨d,sc,e,f,c 0 _ Z,c 1 _ Z,c 2 _ Z,c 3 _ Z,c 4 _ Z,j,lg⟩
theorem bZ.set {B a b:Nat}{s s':Sc}{W:World}(h:bZ B a b s W)(i:Nat)(v:Value)(f:s'.sk=s.sk)(g:s'.ag=s.ag)(he:∀c sc d e,(eI s c sc d e).setIfInBounds i v=eI s' c sc d e):bZ B a b s' (W.setCell ⟨B,i,none⟩ v):=by
 obtain⟨h1,h2,c,sc,d,e,j,k,lg⟩:=h;refine⟨h1,by simp[World.setCell];exact h2,c,sc,d,e,?_,by rw[f];exact k.set h1.1 v,by rw[g];exact lg.set h1.2 v⟩;rw[LH _ _ _ _ _ _ j,he]
theorem bZ.Fd {B c Ea b:Nat}{s:Sc}{W:World}(h:bZ B c b s W)(d:B<Ea)(hs:Ea<=W.heap.size){L:List Sp}{a:Option Addr}{cap:Nat}(hl:bG Ea L a cap W):bZ B Ea b { s with sk:=L } (W.setCell ⟨B,3,none⟩ (.slice a L.length cap)):=by
 obtain⟨h1,h2,i,j,e,f,g,k,lg⟩:=h;refine⟨⟨d,h1.2⟩,by simp[World.setCell];exact⟨hs,h2.2⟩,a,cap,e,f,?_,hl.set d _,lg.set h1.2 _⟩;rw[LH _ _ _ _ _ _ g];rfl
theorem bZ.ET {B b c Eb:Nat}{s:Sc}{W:World}(h:bZ B b c s W)(d:B<Eb)(hs:Eb<=W.heap.size){L:List Sp}{a:Option Addr}{cap:Nat}(hl:bG Eb L a cap W):bZ B b Eb { s with ag:=L } (W.setCell ⟨B,4,none⟩ (.slice a L.length cap)):=by
 obtain⟨h1,h2,e,f,j,k,g,i,lg⟩:=h;refine⟨⟨h1.1,d⟩,by simp[World.setCell];exact⟨h2.1,hs⟩,e,f,a,cap,?_,i.set h1.1 _,hl.set d _⟩;rw[LH _ _ _ _ _ _ g];rfl
theorem bZ.mono {B a b Ea Eb:Nat}{s:Sc}{W:World}(h:bZ B Ea Eb s W)(h1:a<=Ea)(h2:b<=Eb)(e:B<a)(c:B<b):bZ B a b s W:=by
 obtain⟨_,d,f,g,i,j,k,l,lg⟩:=h;exact⟨⟨e,c⟩,⟨L8 h1 d.1,L8 h2 d.2⟩,f,g,i,j,k,l.mono h1,lg.mono h2⟩
theorem bK.lt {B lb:Nat}{s:Sc}{W:World}(h:bK B lb s W):B<W.heap.size:=bZ.lt h
theorem bK.below {B lb:Nat}{s:Sc}{W W':World}(h:bK B lb s W)(a:Below W.heap.size W W'):bK B lb s W':=bZ.below h a
theorem bK.other {B C lb:Nat}{s:Sc}{W W':World}(h:bK B lb s W)(c:lh C W W')(a:B≠C)(b:C<lb):bK B lb s W':=bZ.other h c a b b
theorem bK.ats {B lb:Nat}{s:Sc}{W:World}(h:bK B lb s W):∃a sc b c,At B 0 s.fM W/\At B 1 s.next W/\At B 2 s.mark W/\At B 3 (.slice a s.sk.length sc) W/\At B 4 (.slice b s.ag.length c) W/\bG lb s.sk a sc W/\bG lb s.ag b c W:=bZ.ats h
theorem bK.set {B lb:Nat}{s s':Sc}{W:World}(h:bK B lb s W)(i:Nat)(v:Value)(d:s'.sk=s.sk)(e:s'.ag=s.ag)(he:∀a sc b c,(eI s a sc b c).setIfInBounds i v=eI s' a sc b c):bK B lb s' (W.setCell ⟨B,i,none⟩ v):=bZ.set h i v d e he
theorem bK.Fd {B lb:Nat}{s:Sc}{W:World}(h:bK B lb s W){L:List Sp}{a:Option Addr}{cap:Nat}(hl:bG lb L a cap W):bK B lb { s with sk:=L } (W.setCell ⟨B,3,none⟩ (.slice a L.length cap)):=bZ.Fd h h.1.1 h.2.1.1 hl
theorem bK.ET {B lb:Nat}{s:Sc}{W:World}(h:bK B lb s W){L:List Sp}{a:Option Addr}{cap:Nat}(hl:bG lb L a cap W):bK B lb { s with ag:=L } (W.setCell ⟨B,4,none⟩ (.slice a L.length cap)):=bZ.ET h h.1.1 h.2.1.1 hl
theorem vO (w:World):Calls Tryz.prog 63 #[] w fun e w'=>e= .returned w.heap.size/\w'=w.alloc (.cells (eI AK none 0 none 0) 135):=by
 go_enter Tryz.func63,Tryz.ntmps63
 go_wp2;go_ret;exact⟨Z,Z⟩
theorem bK.new {w w':World}{lb:Nat}(h:w'=w.alloc (.cells (eI AK none 0 none 0) 135)):w.heap.size<w'.heap.size/\∀W,Below w'.heap.size w' W->w.heap.size<lb->lb<=W.heap.size->bK w.heap.size lb AK W:=by
 subst h;refine⟨FE,fun W c a b=>⟨⟨a,a⟩,⟨b,b⟩,none,0,none,0,(c.block _ FE).trans (Lp _ _),bG.nil _ _,bG.nil _ _⟩⟩
set_option maxHeartbeats 1000000 in
theorem sW (p:Addr) (a:Array Value) (w:World) (R:Value->World->Prop) (h:Calls Tryz.prog 158 a w fun e w'=>∃v,e= .returned v/\R v w') :
  Calls Tryz.prog 144 #[.pointer (some p),(0:Int),.func (.func 158) #[] a] w fun e w'=>∃v,e= .returned v/\R v w':=by
 have c:=H h;clear h
 go_enter Tryz.func144,Tryz.ntmps144
 go_wp2_with fail;refine(c.o).mono ?_;rintro e f⟨v,rfl,b⟩;have d:=H b;clear b;go_wp2;go_ret;exact⟨v,Z,d.o⟩
set_option maxHeartbeats 1000000 in
theorem qm (p:Addr) (a:Array Value) (w:World) (R:Value->World->Prop) (h:Calls Tryz.prog 145 a w fun e w'=>∃v,e= .returned v/\R v w') :
  Calls Tryz.prog 144 #[.pointer (some p),(0:Int),.func (.func 145) #[] a] w fun e w'=>∃v,e= .returned v/\R v w':=by
 have c:=H h;clear h
 go_enter Tryz.func144,Tryz.ntmps144
 go_wp2_with fail;refine(c.o).mono ?_;rintro e f⟨v,rfl,b⟩;have d:=H b;clear b;go_wp2;go_ret;exact⟨v,Z,d.o⟩
set_option maxHeartbeats 1000000 in
theorem qo (p:Addr) (a:Array Value) (w:World) (R:Value->World->Prop) (h:Calls Tryz.prog 182 a w fun e w'=>∃v,e= .returned v/\R v w') :
  Calls Tryz.prog 144 #[.pointer (some p),(0:Int),.func (.func 182) #[] a] w fun e w'=>∃v,e= .returned v/\R v w':=by
 have c:=H h;clear h
 go_enter Tryz.func144,Tryz.ntmps144
 go_wp2_with fail;refine(c.o).mono ?_;rintro e f⟨v,rfl,b⟩;have d:=H b;clear b;go_wp2;go_ret;exact⟨v,Z,d.o⟩
set_option maxHeartbeats 1000000 in
theorem nc (p:Addr) (a:Array Value) (w:World) (R:Value->World->Prop) (h:Calls Tryz.prog 179 a w fun e w'=>∃v,e= .returned v/\R v w') :
  Calls Tryz.prog 163 #[.pointer (some p),.slice none 0 0,.func (.func 179) #[] a] w fun e w'=>∃v,e= .returned v/\R v w':=by
 have c:=H h;clear h
 go_enter Tryz.func163,Tryz.ntmps163
 go_wp2_with fail;refine(c.o).mono ?_;rintro e f⟨v,rfl,b⟩;have d:=H b;clear b;go_wp2;go_ret;exact⟨v,Z,d.o⟩
set_option maxHeartbeats 1000000 in
theorem qp (p:Addr) (a:Array Value) (w:World) (R:Value->World->Prop) (h:Calls Tryz.prog 164 a w fun e w'=>∃v,e= .returned v/\R v w') :
  Calls Tryz.prog 163 #[.pointer (some p),.slice none 0 0,.func (.func 164) #[] a] w fun e w'=>∃v,e= .returned v/\R v w':=by
 have c:=H h;clear h
 go_enter Tryz.func163,Tryz.ntmps163
 go_wp2_with fail;refine(c.o).mono ?_;rintro e f⟨v,rfl,b⟩;have d:=H b;clear b;go_wp2;go_ret;exact⟨v,Z,d.o⟩
set_option maxHeartbeats 1000000 in
theorem qq (p:Addr) (a:Array Value) (w:World) (R:Value->World->Prop) (h:Calls Tryz.prog 110 a w fun e w'=>∃v,e= .returned v/\R v w') :
  Calls Tryz.prog 109 #[.pointer (some p),(1:Int),.func (.func 110) #[] a] w fun e w'=>∃v,e= .returned v/\R v w':=by
 have c:=H h;clear h
 go_enter Tryz.func109,Tryz.ntmps109
 go_wp2_with fail;refine(c.o).mono ?_;rintro e f⟨v,rfl,b⟩;have d:=H b;clear b;go_wp2;go_ret;exact⟨v,Z,d.o⟩
set_option maxHeartbeats 1000000 in
theorem iZ (p:Addr) (a:Array Value) (w:World) (R:Value->World->Prop) (h:Calls Tryz.prog 170 a w fun e w'=>∃v,e= .returned v/\R v w') :
  Calls Tryz.prog 109 #[.pointer (some p),(1:Int),.func (.func 170) #[] a] w fun e w'=>∃v,e= .returned v/\R v w':=by
 have c:=H h;clear h
 go_enter Tryz.func109,Tryz.ntmps109
 go_wp2_with fail;refine(c.o).mono ?_;rintro e f⟨v,rfl,b⟩;have d:=H b;clear b;go_wp2;go_ret;exact⟨v,Z,d.o⟩
end
section
open Go.RowKit Go.Shelf
theorem vP {lb:Nat}{L:List Sp}{a:Option Addr}{cap:Nat}{w:World}(h:bG lb L a cap w) :
  Calls Tryz.prog 148 #[.slice a L.length cap] w fun e w'=>∃v,e= .returned v/\aH w' w.heap.size v L/\Below w.heap.size w w':=by
 cases a with
 | none =>
  have b:L=[]:=by
   rcases MV L.length with e | e
   ·exact LR e
   obtain⟨_,_,e,_⟩:=h.1.cells e;cases e
  subst b;refine(oF cap w).mono ?_;rintro e w' ⟨he,rfl⟩;exact⟨_,he,aH.nil _ _,L3 _ _⟩
 | some c =>
  have e:=h.2.2.2.1 c Z;rw[e]at h|-;exact mW _ _ cap L w h.1
theorem yJ (C B:Nat)(u:Int)(w:World)(a:w.cell? C=some (B:Y))(b:w.cell? B=some (u:Y)) :
  Calls Tryz.prog 158 #[C] w fun e w'=>e= .returned u/\w=w':=by
 go_enter Tryz.func158,Tryz.ntmps158
 go_wp2;go_ret;exact⟨Z,Z⟩
theorem vQ (B lb:Nat)(s:Sc)(w:World)(h:bK B lb s w) :
  Calls Tryz.prog 128 #[B] w fun e w'=>e= .returned s.fM/\Below w.heap.size w w':=by
 have a:=bi w (.cells #[B] 74);obtain⟨k,l,m,n,b,c,d,f,g,-,-⟩:=(h.below a).ats;have i:=H (yJ w.heap.size B s.fM (w.alloc (.cells #[B] 74)) (At.new (W:=w) (vs:= #[B]) _ Z Z).1 b.1);have j:=H a;clear a b c d f g h
 go_enter Tryz.func128,Tryz.ntmps128
 go_wp2_with fail;refine(sW _ _ _ (fun v w'=>v=(s.fM:Y)/\w.alloc (.cells #[B] 74)=w') (i.mono (by rintro e w' ⟨he,hw⟩;exact⟨_,he,Z,hw⟩))).mono ?_;rintro e p⟨v,rfl,rfl,rfl⟩;go_wp2;go_ret;exact⟨Z,j.o⟩
theorem vR (C B:Nat)(u:Int)(w:World)(a:w.cell? C=some (B:Y))(b:w.cell? ⟨B,1,none⟩=some (u:Y)) :
  Calls Tryz.prog 145 #[C] w fun e w'=>e= .returned u/\w=w':=by
 go_enter Tryz.func145,Tryz.ntmps145
 go_wp2;go_ret;exact⟨Z,Z⟩
theorem sX (B lb:Nat)(s:Sc)(w:World)(h:bK B lb s w) :
  Calls Tryz.prog 100 #[B] w fun e w'=>e= .returned s.next/\Below w.heap.size w w':=by
 have a:=bi w (.cells #[B] 74);obtain⟨k,l,m,n,c,b,d,f,g,-,-⟩:=(h.below a).ats;have i:=H (vR w.heap.size B s.next (w.alloc (.cells #[B] 74)) (At.new (W:=w) (vs:= #[B]) _ Z Z).1 b.1);have j:=H a;clear a c b d f g h
 go_enter Tryz.func100,Tryz.ntmps100
 go_wp2_with fail;refine(qm _ _ _ (fun v w'=>v=(s.next:Y)/\w.alloc (.cells #[B] 74)=w') (i.mono (by rintro e w' ⟨he,hw⟩;exact⟨_,he,Z,hw⟩))).mono ?_;rintro e p⟨v,rfl,rfl,rfl⟩;go_wp2;go_ret;exact⟨Z,j.o⟩
theorem qr (C B lb:Nat)(s:Sc)(w:World)(d:w.cell? C=some (B:Y))(h:bK B lb s w) :
  Calls Tryz.prog 179 #[C] w fun e w'=>∃v,e= .returned v/\aH w' w.heap.size v s.sk/\Below w.heap.size w w':=by
 obtain⟨j,k,l,m,-,-,-,⟨f,-⟩,-,a,-⟩:=h.ats;have d2:=H (vP a);clear h a
 go_enter Tryz.func179,Tryz.ntmps179
 go_wp2_with fail;refine(d2.o).mono ?_;rintro e n⟨v,rfl,b,c⟩;have g:=H b;have i:=H c;clear b c f d d2;go_wp2;go_ret;exact⟨v,Z,g.o,i.o⟩
theorem pN (B lb:Nat)(s:Sc)(w:World)(h:bK B lb s w) :
  Calls Tryz.prog 159 #[B] w fun e w'=>∃v,e= .returned v/\aH w' w.heap.size v s.sk/\Below w.heap.size w w':=by
 have a:=bi w (.cells #[B] 74);have c:=H (qr w.heap.size B lb s (w.alloc (.cells #[B] 74)) (At.new (W:=w) (vs:= #[B]) _ Z Z).1 (h.below a));have b:=H a;clear a h
 go_enter Tryz.func159,Tryz.ntmps159
 go_wp2_with fail;refine(nc _ _ _ _ c.o).mono ?_;rintro e g⟨v,rfl,d,a⟩;have f:=H (d.mono b.size);have be:=H (b.trans (a.mono b.size));clear d a b c;go_wp2;go_ret;exact⟨v,Z,f.o,be.o⟩
set_option maxHeartbeats 1000000 in
theorem vS (T C B lb:Nat) (s:Sc) (a:Int) (w:World) (f:w.cell? T=some (a:Y)) (g:w.cell? C=some (B:Y)) (h:bK B lb s w) :
  Calls Tryz.prog 110 #[T,C] w fun e w'=>∃v,e= .returned v/\v=(s.DQ a:Y)/\bK B lb (s.sent a) w'/\lh B w w':=by
 obtain⟨i,j,k,l,-,⟨m,n⟩,-,-,-,-,-⟩:=h.ats;have d:=H h;clear h;by_cases h1:s.next<=a
 ·by_cases h2:a<=1099511627776
  ·have b:s.BV a=true:=by unfold Sc.BV;rw[Lh];exact⟨h1,h2⟩
   have c:=H (show s.DQ a=0/\s.sent a={ s with next:=a } by unfold Sc.DQ Sc.sent;rw[L7 b,L7 b];exact⟨Z,Z⟩);clear b
   go_enter Tryz.func110,Tryz.ntmps110
   go_wp2_with fail
   go_quiet (fail)
   go_wp2;go_ret;refine⟨_,Z,by rw[c.1];rfl,?_,?_⟩
   ·rw[c.2];exact(show bK B lb s (w.drewN nq)from d.below ⟨Z,Z,Z,L4 _,fun _ _=>rfl⟩).set 1 _ Z Z (fun _ _ _ _=>rfl)
   exact(show lh B w (w.drewN nq)from⟨Z,Z,Z,L4 _,fun _ _ _=>rfl⟩).setCell 1 _
  have b:s.BV a=false:=by unfold Sc.BV;rw[Lr];omega
  have c:=H (show s.DQ a=140/\s.sent a=s by unfold Sc.DQ Sc.sent;rw[b];exact⟨Z,Z⟩);clear b
  go_enter Tryz.func110,Tryz.ntmps110
  go_wp2_with fail
  go_quiet (fail)
  go_wp2;go_ret;exact⟨_,Z,by rw[c.1];rfl,KE,⟨Z,Z,Z,L4 _,fun _ _ _=>rfl⟩⟩
 have b:s.BV a=false:=by unfold Sc.BV;rw[Lr];omega
 have c:=H (show s.DQ a=140/\s.sent a=s by unfold Sc.DQ Sc.sent;rw[b];exact⟨Z,Z⟩);have o:decide (a<s.next)=true:=by rw[Lh];omega
 clear b
 go_enter Tryz.func110,Tryz.ntmps110
 go_wp2_with fail
 go_quiet (fail)
 go_wp2;go_ret;exact⟨_,Z,by rw[c.1];rfl,KE,⟨Z,Z,Z,L4 _,fun _ _ _=>rfl⟩⟩
set_option maxHeartbeats 1000000 in
theorem iA (B lb:Nat) (s:Sc) (a:Int) (w:World) (h:bK B lb s w) :
  Calls Tryz.prog 67 #[B,a] w fun e w'=>e= .returned (s.DQ a)/\bK B lb (s.sent a) w'/\lh B w w':=by
 have b:=((L3 w.heap.size w).alloc (L4 _) (.cells #[B] 74)).alloc FE (.cells #[a] 3);have c:=H (vS (w.heap.size+1) w.heap.size B lb s a ((w.alloc (.cells #[B] 74)).alloc (.cells #[a] 3)) (At.new (W:=w.alloc (.cells #[B] 74)) (vs:= #[a]) _ FE Z).1 ((At.new (W:=w) (vs:= #[B]) _ Z Z).alloc _).1 (h.below b));have d:=H (lh.of_below (B:=B) b);clear b h
 go_enter Tryz.func67,Tryz.ntmps67
 go_wp2_with fail;refine(qq _ _ _ _ c.o).mono ?_;rintro e k⟨v,rfl,rfl,f,g⟩;have i:=H f;have j:=H (d.trans g);clear f g d c;go_wp2;go_ret;exact⟨Z,i.o,j.o⟩
set_option maxHeartbeats 1000000 in
theorem jB (B lb:Nat) (s:Sc) (w:World) (h:bK B lb s w) :
  Calls Tryz.prog 55 #[B] w fun e w'=>e= .returned (.tuple #[])/\bK B lb s.timeout w'/\lh B w w':=by
 obtain⟨b,c,d,f,-,⟨g,i⟩,⟨j,f2⟩,⟨k,f3⟩,⟨l,m⟩,-,-⟩:=h.ats;have a:=H h;clear h
 go_enter Tryz.func55,Tryz.ntmps55
 go_wp2_with fail
 go_end0
 refine⟨Z,?_,(((lh.refl B w).setCell 3 _).setCell 4 _).setCell 2 _⟩;exact((a.Fd (bG.nil lb w)).ET (bG.nil lb _)).set 2 _ Z Z (fun _ _ _ _=>rfl)
end
section
set_option maxRecDepth 100000
open Go.RowKit Go.Shelf
theorem jo (B lb:Nat)(s:Sc)(x:Sp)(w:World)(h:bK B lb s w) :
  Calls Tryz.prog 122 #[B,.agg #[x.1,x.2]] w fun e w'=>e= .returned (s.Ek x)/\Below w.heap.size w w':=by
 obtain⟨b,c⟩:=x;obtain⟨l,m,n,q,-,⟨i,-⟩,-,-,-,-,-⟩:=h.ats;have k:=h.lt;have f:=bi w (.cells #[b,c] 149);have d1:=(f.cell (p:=⟨B,1,none⟩) k).trans i;have a:=H f;clear h f i;by_cases h1:0<=b
 ·by_cases h2:b<c
  ·by_cases g:c<=s.next
   ·have d:=H (show s.Ek (b,c)=true by rw[Sc.zy];exact⟨h1,h2,g⟩);rw[d.o]
    go_enter Tryz.func122,Tryz.ntmps122
    go_wp2_with fail
    go_quiet (fail)
    go_wp2;go_ret;exact⟨Z,⟨a.os,a.tape,a.output,a.size,a.block⟩⟩
   have d:=H (show s.Ek (b,c)=false by rw[<-Mw,Sc.zy];rintro⟨-,-,h⟩;exact g h);rw[d.o];have j:decide (c<=s.next)=false:=by rw[Lr];exact g
   go_enter Tryz.func122,Tryz.ntmps122
   go_wp2_with fail
   go_quiet (fail)
   go_wp2;go_ret;exact⟨Z,⟨a.os,a.tape,a.output,a.size,a.block⟩⟩
  have d:=H (show s.Ek (b,c)=false by rw[<-Mw,Sc.zy];rintro⟨-,h,-⟩;exact h2 h);rw[d.o];have j:decide (b<c)=false:=by rw[Lr];exact h2
  go_enter Tryz.func122,Tryz.ntmps122
  go_wp2_with fail
  go_quiet (fail)
  go_wp2;go_ret;exact⟨Z,⟨a.os,a.tape,a.output,a.size,a.block⟩⟩
 have d:=H (show s.Ek (b,c)=false by rw[<-Mw,Sc.zy];rintro⟨h,-,-⟩;exact h1 h);rw[d.o];have j:decide (0<=b)=false:=by rw[Lr];exact h1
 go_enter Tryz.func122,Tryz.ntmps122
 go_wp2_with fail
 go_quiet (fail)
 go_wp2;go_ret;exact⟨Z,⟨a.os,a.tape,a.output,a.size,a.block⟩⟩
structure Ev (T C L R B Iu Iv:Nat)(s:Sc)(fM:Int)(la:Option Addr)(lc:Nat)(ls:List Sp)(w W:World):Prop where
 cT:W.cell? T=some (fM:Y)
 cC:W.cell? C=some (B:Y)
 cL:W.cell? L=some (.slice la ls.length lc)
 r0:∃v,At R 0 v W
 r1:∃v,At R 1 v W
 hs:bZ B Iu Iv s W
 hl:BZ B la ls W
 BS:lh B w W
 ne:T≠B/\C≠B/\L≠B/\R≠B
 FA:w.heap.size<=R
theorem Ev.to {T C L R B b c Ea Eb:Nat}{s s':Sc}{fM:Int}{d:Option Addr}{e:Nat}{f:List Sp}{w W W':World}(h:Ev T C L R B b c s fM d e f w W)(a:lh B W W')(hs:bZ B Ea Eb s' W'):Ev T C L R B Ea Eb s' fM d e f w W':=by
 obtain⟨i,j,k,g⟩:=h.ne;obtain⟨v0,h0⟩:=h.r0;obtain⟨v1,h1⟩:=h.r1;exact⟨cD h.cT a i,cD h.cC a j,cD h.cL a k,⟨v0,ow h0 a g⟩,⟨v1,ow h1 a g⟩,hs,h.hl.BS a,h.BS.trans a,h.ne,h.FA⟩
theorem Ev.below {T C L R B a b:Nat}{s:Sc}{fM:Int}{c:Option Addr}{d:Nat}{e:List Sp}{w W W':World}(h:Ev T C L R B a b s fM c d e w W)(f:Below W.heap.size W W'):Ev T C L R B a b s fM c d e w W':=h.to (lh.of_below f) (h.hs.below f)
theorem Ev.drewN {T C L R B a b:Nat}{s:Sc}{fM:Int}{c:Option Addr}{d:Nat}{e:List Sp}{w W:World}(h:Ev T C L R B a b s fM c d e w W)(n:Nat):Ev T C L R B a b s fM c d e w (W.drewN n):=h.below ⟨Z,Z,Z,L4 _,fun _ _=>rfl⟩
theorem Ev.drew {T C L R B a b:Nat}{s:Sc}{fM:Int}{c:Option Addr}{d:Nat}{e:List Sp}{w W:World}(h:Ev T C L R B a b s fM c d e w W):Ev T C L R B a b s fM c d e w W.drew:=h.below (L3 _ _).drew
theorem Ev.start {T C L B lb:Nat}{s:Sc}{fM:Int}{b:Option Addr}{d:Nat}{c:List Sp}{w:World}(f:w.cell? T=some (fM:Y))(g:w.cell? C=some (B:Y))(h:w.cell? L=some (.slice b c.length d))
  (ne:T≠B/\C≠B/\L≠B)(hs:bK B lb s w)(hl:BZ B b c w):Ev T C L w.heap.size B lb lb s fM b d c w (w.alloc (.cells #[(0:Int),(0:Int)] 154)):=by
 have e:=bi w (.cells #[(0:Int),(0:Int)] 154);have a:lh B w (w.alloc (.cells #[(0:Int),(0:Int)] 154)):=lh.of_below e;exact⟨cD f a ne.1,cD g a ne.2.1,cD h a ne.2.2,⟨_,At.new _ Z Z⟩,⟨_,At.new _ Z Z⟩,hs.below e,hl.BS a,a,⟨ne.1,ne.2.1,ne.2.2,by have:=hs.lt;omega⟩,L4 _⟩
theorem lP (W:World)(n:Nat):Below W.heap.size W (W.drewN n):=⟨Z,Z,Z,L4 _,fun _ _=>rfl⟩
set_option maxHeartbeats 4000000 in
theorem sY (T C L B lb:Nat) (s:Sc) (fM:Int) (K:Option Addr) (M:Nat) (f:List Sp) (w:World) (ok:s.Ok) (cT:w.cell? T=some (fM:Y)) (cC:w.cell? C=some (B:Y)) (cL:w.cell? L=some (.slice K f.length M))
  (ne:T≠B/\C≠B/\L≠B) (hs:bK B lb s w) (hl:BZ B K f w) (hlen:(s.sk++f).length<=1099511627776) :
  Calls Tryz.prog 121 #[T,C,L] w fun e w'=>∃v,e= .returned v/\v= .agg #[(s.A2 fM f),(s.wE fM f)]/\((s.go fM f=s/\Below w.heap.size w w')\/bK B w.heap.size (s.go fM f) w')/\lh B w w':=by
 have ak:=H ok;have e4:=H hlen;have cV:=H (Ev.start cT cC cL ne hs hl);have b6:=H hs;have c7:=H (show B<w.heap.size+1 by have:=hs.lt;omega);have bd:=H (show dw s.sk=aD s.sk by unfold dw;rw[L7 ok.DX]);have e5:=H (show IntKind.i64.wrap (s.fM+aD s.sk)=s.fM+aD s.sk from LC _ (by have h1:=ok.u0;have h2:=ok.un;have h3:=ok.n40;have h4:=aN ok.DX;omega));have e6:=H (show C<w.heap.size from Lj cC);clear ok hlen cT cC cL ne hs hl
 go_enter Tryz.func121,Tryz.ntmps121
 go_wp2_with fail;obtain⟨R,hR⟩:∃R,R=w.heap.size:=⟨_,Z⟩;rw[<-hR]at cV c7|-;have I:=H (bi w (.cells #[(0:Int),(0:Int)] 154));generalize w.alloc (.cells #[(0:Int),(0:Int)] 154)=W0 at cV I|-;clear hR;have a:=cV;clear cV;obtain⟨m,q,N,P,⟨c0,f0⟩,⟨c1,f1⟩,-,-,-,-,-⟩:=a.hs.ats;have cT:=a.cT;have cC:=a.cC;obtain⟨v0,r0,q0⟩:=a.r0;obtain⟨v1,r1,q1⟩:=a.r1
 rcases Mx fM 0 with hu | hu
 ·have hd:decide (fM<0)=true:=by rw[Lh];omega
  have bI:=H (show s.Dw fM f=false from KF);go_wp2_with fail
  go_quiet (fail)
  go_wp2_with fail;have r:=a.drewN nq;have al:=I.trans ((lP W0 nq).mono I.size);obtain⟨x0,V⟩:=r.r0;obtain⟨x1,X⟩:=r.r1;have d0:=((V.set (0:Int)).other ⟨R,1,none⟩ (140:Int) IW).1;have d1:=((X.other ⟨R,0,none⟩ (0:Int) IW).set (140:Int)).1;have a7:=(al.setCell (p:=⟨R,0,none⟩) r.FA (0:Int)).setCell (p:=⟨R,1,none⟩) r.FA (140:Int);refine Lm (v:=.agg #[(0:Int),(140:Int)]) JP Z ⟨_,Z,Ka,Or.inl ⟨by simp[Sc.go,bI.o],a7⟩,lh.of_below a7⟩
 rcases Mx s.next fM with hv | hv
 ·have bI:=H (show s.Dw fM f=false from KF);go_wp2_with fail
  go_quiet (fail)
  go_wp2_with fail;have r:=a.drewN nq;have al:=I.trans ((lP W0 nq).mono I.size);obtain⟨x0,V⟩:=r.r0;obtain⟨x1,X⟩:=r.r1;have d0:=((V.set (0:Int)).other ⟨R,1,none⟩ (140:Int) IW).1;have d1:=((X.other ⟨R,0,none⟩ (0:Int) IW).set (140:Int)).1;have a7:=(al.setCell (p:=⟨R,0,none⟩) r.FA (0:Int)).setCell (p:=⟨R,1,none⟩) r.FA (140:Int);refine Lm (v:=.agg #[(0:Int),(140:Int)]) JP Z ⟨_,Z,Ka,Or.inl ⟨by simp[Sc.go,bI.o],a7⟩,lh.of_below a7⟩
 go_wp2_with fail
 go_quiet (fail)
 replace a:=H (a.drewN nq);replace I:=H (I.trans ((lP W0 nq).mono I.size));generalize W0.drewN nq=W1 at a I|-;clear c0 f0 c1 f1 cT cC r0 q0 r1 q1;have cL:=a.cL;have e7:=a.hl.1.small;go_wp2_with fail;clear cL
 go_loopg [20] f.length (fun g kv wr=>∃(k:Nat),kv=((k:Int):Y)/\g+k=f.length/\Ev T C L R B lb lb s fM K M f w wr/\Below w.heap.size w wr/\∀x∈f.take k,s.Ek x=true)
 case atStart=>exact⟨0,Z,Z,a.o,I.o,fun x hx=>by simp at hx⟩
 case round =>
  clear a I;obtain⟨k,rfl,hg,hE,al,b2⟩:=hrel;have a:=H hE;have c8:=H b2;have I:=H al;clear hE b2 al;by_cases hk:k<f.length
  ·obtain⟨eu,lo,rfl,e8,b3⟩:=a.hl.1.cells O;obtain⟨d0,d1⟩:=b3 k hk;clear b3;have d3:=H (Lv hk);have d4:=H (LP hk);have dv:(k:Int)<(f.length:Int):=by omega
   generalize f[k]=x at d0 d1 d3 d4;obtain⟨x1,x2⟩:=x;dsimp only at d0 d1;have cC:=(a.below (bi wr (.cells #[x1,x2] 149))).cC;go_wp2_with fail;clear d0 d1 cC;replace a:=H (a.below (bi wr (.cells #[x1,x2] 149)));replace I:=H (I.alloc I.size (.cells #[x1,x2] 149));refine(jo B lb s (x1,x2) _ a.hs).mono ?_;rintro e w2⟨rfl,d⟩;replace a:=H (a.below d);replace I:=H (I.trans (d.mono I.size));clear d;have cC:=a.cC;obtain⟨v0,r0,q0⟩:=a.r0;obtain⟨v1,r1,q1⟩:=a.r1
   cases hib:s.Ek (x1,x2)with
   | false =>
    have bI:=H (show s.Dw fM f=false by rw[<-Mw,Sc.D5];rintro⟨-,h⟩;have:=h _ d4.o;rw[hib]at this;cases this);clear hib;go_wp2_with fail;have r:=a.o;have al:=I.o;obtain⟨x0,V⟩:=r.r0;obtain⟨x1,X⟩:=r.r1;have d0:=((V.set (0:Int)).other ⟨R,1,none⟩ (140:Int) IW).1;have d1:=((X.other ⟨R,0,none⟩ (0:Int) IW).set (140:Int)).1;have a7:=(al.setCell (p:=⟨R,0,none⟩) r.FA (0:Int)).setCell (p:=⟨R,1,none⟩) r.FA (140:Int);refine Lm (v:=.agg #[(0:Int),(140:Int)]) JP Z ⟨_,Z,Ka,Or.inl ⟨by simp[Sc.go,bI.o],a7⟩,lh.of_below a7⟩
   | true =>
    go_wp2_with fail
    go_roundg (gk-1)
    case measure=>omega
    case rel=>exact⟨k+1,IK,O,a.o,I.o,fun y hy=>by rw[d3.o]at hy;rcases LE.1 hy with h | h;exact c8.o y h;rw[Lu.1 h];exact hib⟩
  clear I;obtain rfl:k=f.length:=O
  have a9:=H (show s.Dw fM f=true by rw[Sc.D5];refine⟨⟨hu,hv⟩,?_⟩;have h:=c8.o;rw[LS]at h;exact h);clear c8;go_wp2_with fail;obtain⟨m,q,N,P,J,k1,k2,A,k4,G,bk⟩:=a.hs.ats;refine az (fun W:World=>W.cell? C=some (B:Y)/\W.cell? B=some (s.fM:Y)/\W.cell? ⟨B,3,none⟩=some (.slice m s.sk.length q)) (⟨a.cC,J.1,A.1⟩) fun c=>?_;clear bk;replace a:=H a.drew;obtain⟨y1,a3⟩:∃y1,y1=wr.drew:=⟨_,Z⟩;replace G:oB y1 y1.heap.size m s.sk:=by rw[a3];exact G.1.below (L3 _ _).drew
  rw[<-a3]at a c|-;clear a3 J k1 k2 A k4;refine aA 0 4 1 5 ?_;refine aA 2 6 3 7 ?_;have aF:=c;refine aZ 8 fun E b=> ?_;go_simp;refine(ep y1 y1.heap.size m q s.sk G (L4 _)).mono ?_;rintro e y2⟨rfl,d⟩;have b4:y2.cell? C=some (B:Y)/\y2.cell? B=some (s.fM:Y)/\y2.cell? ⟨B,3,none⟩=some (.slice m s.sk.length q):=⟨(d.cell (p:=⟨C,0,none⟩) (Lj aF.1)).trans aF.1,(d.cell (p:=⟨B,0,none⟩) (Lj aF.2.1)).trans aF.2.1,(d.cell (p:=⟨B,3,none⟩) (Lj aF.2.2)).trans aF.2.2⟩;replace a:=H (a.below d);clear d G aF;go_simp;refine b.out _ _ (b4) ?_;clear b E c;refine fun c=>aW ?_
  skip
  refine aQ 9 ?_;rw[bd.o,e5.o];refine aQ 10 ?_;refine ay ?_ _;clear c b4;obtain⟨m,q,N,P,⟨J,g0⟩,⟨k1,-⟩,-,-,-,-,-⟩:=a.hs.ats;have cC:=a.cC;have cT:=a.cT;go_wp2_with fail
  go_region
  replace a:=H (a.to (((lh.refl B y2).setCell 0 (max s.fM fM:Int)).drew) ((a.hs.set (s':={ s with fM:=max s.fM fM }) 0 (max s.fM fM:Int) Z Z (fun _ _ _ _=>rfl)).below (L3 _ _).drew));generalize (y2.setCell B (max s.fM fM:Int)).drew=y3 at a|-;clear J g0 k1 cC cT;obtain⟨u,a1⟩:∃u,u=max s.fM fM:=⟨_,Z⟩;rw[<-a1]at a|-;have b9:=H a1;have c9:=H (show 0<=u by rw[a1];omega);clear a1;go_wp2_with fail;have e9:∃v,At R 0 v y3:=a.r0;obtain⟨vr,d5⟩:=e9;have z:=d5.lt;clear d5 vr;have j:y3.cell? C=some (B:Y)/\y3.cell? B=some (.int .i64 u)/\y3.cell? L=some (.slice K f.length M):=KG
  refine az (fun W:World=>W.cell? C=some (B:Y)/\W.cell? B=some (.int .i64 u)/\W.cell? L=some (.slice K f.length M)) (j) fun c=>?_;clear j;replace a:=H a.drew;replace z:R<y3.drew.heap.size:=z;obtain⟨y4,d6⟩:∃y4,y4=y3.drew:=⟨_,Z⟩;rw[<-d6]at a c z|-;clear d6;refine aA 0 1 5 9 ?_;refine aA 2 6 3 7 ?_;refine aQ 4 ?_;obtain⟨m,q,N,P,-,-,-,⟨A,g3⟩,-,G,-⟩:=a.hs.ats;dsimp only at A G;refine aZ 8 fun E b=> ?_;go_simp;refine b.out _ _ (c) ?_;clear b E c;refine fun c=>aW ?_;refine aZ 10 fun E b=> ?_;go_simp;have d:=bi y4 (.cells #[.slice m s.sk.length q,.slice K f.length M] 51)
  have F:jm y4.heap.size [(m,q,s.sk),(K,M,f)] (y4.alloc (.cells #[.slice m s.sk.length q,.slice K f.length M] 51)):=⟨FE,fun i hi=>by
   rcases(show i=0\/i=1 by simp at hi;omega)with rfl | rfl
   ·exact⟨(At.new (W:=y4) (vs:= #[.slice m s.sk.length q,.slice K f.length M]) _ Z Z).1,(G.1.below d).mono d.size⟩
   exact⟨(At.new (W:=y4) (vs:= #[.slice m s.sk.length q,.slice K f.length M]) _ Z Z).1,(a.hl.1.below d).mono d.size⟩⟩
  have j:(y4.alloc (.cells #[.slice m s.sk.length q,.slice K f.length M] 51)).cell? C=some (B:Y)/\(y4.alloc (.cells #[.slice m s.sk.length q,.slice K f.length M] 51)).cell? B=some (.int .i64 u)/\(y4.alloc (.cells #[.slice m s.sk.length q,.slice K f.length M] 51)).cell? L=some (.slice K f.length M):=KH
  replace a:=H (a.below d);replace z:=Lb z d.size;generalize y4.alloc (.cells #[.slice m s.sk.length q,.slice K f.length M] 51)=y5 at a F j z|-;have bn:=H F;clear d F G A g3;refine b.out _ _ (j) ?_;clear b E c;refine fun c=>aW ?_;clear j;have an:=H (show dQ [(m,q,s.sk),(K,M,f)]=s.sk++f by simp[dQ]);refine aZ 11 fun E b=> ?_;go_simp;refine(hU u _ 2 2 [(m,q,s.sk),(K,M,f)] y5 Z bn.o c9.o (by rw[an.o];exact ak.I3 (Sc.D5.1 a9.o).2) (by rw[an.o];exact e4.o) O).mono ?_;rintro e y6⟨v,rfl,S,d⟩;rw[an.o,b9.o,show bN (max s.fM fM) (s.sk++f)=(s.qE fM f).sk from Z]at S;obtain⟨va,vc,rfl,-⟩:=S.val;have a0:=(bG.own S (bf (ak.E3 a9.o).1) (show R+1<=y5.heap.size by omega)).1;have b7:=H a0;have j:y6.cell? C=some (B:Y)/\y6.cell? B=some (.int .i64 u)/\y6.cell? L=some (.slice K f.length M):=KH
  replace a:=H (a.below d);replace z:=Lb z d.size;clear S d a0 bn an;go_simp;refine b.out _ _ (j) ?_;clear b E c;refine fun c=>aW ?_;clear j;obtain⟨sk,a4⟩:∃sk,sk=(s.qE fM f).sk:=⟨_,Z⟩;rw[<-a4]at b7|-;have cX:=H a4;clear a4;obtain⟨ec,ed,eg,ei,-,-,-,⟨A,g3⟩,-,-,-⟩:=a.hs.ats;refine aM 12 13 ?_;refine aZ 14 fun E b=> ?_;go_simp;clear A g3;have l:=(lh.refl B y6).setCell 3 (.slice va sk.length vc);have c2:=a.ne.2.2.2;replace a:=H (a.to l (a.hs.Fd (Ea:=R+1) c7.o O b7.o));have ac:=l.size;generalize y6.setCell ⟨B,3,none⟩ (.slice va sk.length vc)=y7 at a l ac|-;replace z:=Lb z ac;have j:y7.cell? C=some (B:Y)/\y7.cell? B=some (.int .i64 u)/\y7.cell? L=some (.slice K f.length M):=KG
  clear l ac b7;refine b.out _ _ (j) ?_;clear b E c;refine fun c=>aW ?_;clear j;refine ay ?_ _;clear c;go_wp2_with fail;obtain⟨m,q,N,P,⟨J,-⟩,-,-,⟨A,-⟩,-,-,-⟩:=a.hs.ats;dsimp only at J A;refine az (fun W:World=>W.cell? C=some (B:Y)/\W.cell? B=some (.int .i64 u)/\W.cell? ⟨B,3,none⟩=some (.slice m sk.length q)) (⟨a.cC,J,A⟩) fun c=>?_;clear J A;replace a:=H a.drew;replace z:R<y7.drew.heap.size:=z;obtain⟨y8,d7⟩:∃y8,y8=y7.drew:=⟨_,Z⟩;rw[<-d7]at a c z|-;clear d7;refine aA 0 1 5 11 ?_;refine aA 2 6 12 3 ?_;refine aA 7 13 4 14 ?_;obtain⟨cf,cg,N,P,-,-,-,⟨A,-⟩,⟨k4,g4⟩,G,bk⟩:=a.hs.ats;dsimp only at A k4 G bk;obtain⟨rfl,rfl⟩:m=cf/\q=cg:=KI
  clear A;refine aZ 8 fun E b=> ?_;go_simp;refine b.out _ _ (c) ?_;clear b E c;refine fun c=>aW ?_;refine aZ 9 fun E b=> ?_;go_simp;have d:=bi y8 (.cells #[.slice N s.ag.length P] 51)
  have F:jm y8.heap.size [(N,P,s.ag)] (y8.alloc (.cells #[.slice N s.ag.length P] 51)):=⟨FE,fun i hi=>by
   obtain rfl:i=0:=by simp at hi;omega
   exact⟨(At.new (W:=y8) (vs:= #[.slice N s.ag.length P]) _ Z Z).1,(bk.1.below d).mono d.size⟩⟩
  have j:(y8.alloc (.cells #[.slice N s.ag.length P] 51)).cell? C=some (B:Y)/\(y8.alloc (.cells #[.slice N s.ag.length P] 51)).cell? B=some (.int .i64 u)/\(y8.alloc (.cells #[.slice N s.ag.length P] 51)).cell? ⟨B,3,none⟩=some (.slice m sk.length q):=⟨(d.cell (p:=⟨C,0,none⟩) (Lj c.1)).trans c.1,(d.cell (p:=⟨B,0,none⟩) (Lj c.2.1)).trans c.2.1,(d.cell (p:=⟨B,3,none⟩) (Lj c.2.2)).trans c.2.2⟩;replace G:=G.below d;replace a:=H (a.below d);replace z:=Lb z d.size;generalize y8.alloc (.cells #[.slice N s.ag.length P] 51)=y9 at a F j z G|-;have bn:=H F;clear d F bk k4 g4;refine b.out _ _ (j) ?_;clear b E c;refine fun c=>aW ?_;clear j;have an:=H (show dQ [(N,P,s.ag)]=s.ag by simp[dQ]);have b8:=H (cx (low:=u) (L:=s.ag) c9.o (bX ak.Fs)).1;have cY:=H (show ao sk=true by rw[cX.o];exact(ak.E3 a9.o).1);refine aZ 10 fun E b=> ?_;go_simp;refine(hU u _ 1 1 [(N,P,s.ag)] y9 Z bn.o c9.o (by rw[an.o];exact bX ak.Fs) (by rw[an.o];exact bf ak.Fs) O).mono ?_;rintro e U⟨v,rfl,S,d⟩;rw[an.o]at S;obtain⟨vb,vd,rfl,-⟩:=S.val;have a0:=(bG.own S (bf b8.o) (L4 _)).1;have j:U.cell? C=some (B:Y)/\U.cell? B=some (.int .i64 u)/\U.cell? ⟨B,3,none⟩=some (.slice m sk.length q):=⟨(d.cell (p:=⟨C,0,none⟩) (Lj c.1)).trans c.1,(d.cell (p:=⟨B,0,none⟩) (Lj c.2.1)).trans c.2.1,(d.cell (p:=⟨B,3,none⟩) (Lj c.2.2)).trans c.2.2⟩;replace G:=G.below d;replace a:=H (a.below d);replace z:=Lb z d.size;clear S d bn an;go_simp;refine b.out _ _ (j) ?_;clear b E c;refine fun c=>aW ?_;clear j;refine aZ 15 fun E b=> ?_;go_simp;refine(iY U U.heap.size vb m vd q (bN u s.ag) sk _ _ a0.1 G.1 G.2.1 (L4 _) b8.o cY.o).mono ?_;rintro e b0⟨v,rfl,S,d⟩;rw[b9.o,cX.o,show dx (bN (max s.fM fM) s.ag) (s.qE fM f).sk=(s.qE fM f).ag from Z]at S;obtain⟨va,vc,rfl,-⟩:=S.val;have b7:=H (bG.own S (bf (ak.F0 a9.o).1) (show R+1<=U.heap.size by omega)).1;have j:b0.cell? C=some (B:Y)/\b0.cell? B=some (.int .i64 u)/\b0.cell? ⟨B,3,none⟩=some (.slice m sk.length q):=⟨(d.cell (p:=⟨C,0,none⟩) (Lj c.1)).trans c.1,(d.cell (p:=⟨B,0,none⟩) (Lj c.2.1)).trans c.2.1,(d.cell (p:=⟨B,3,none⟩) (Lj c.2.2)).trans c.2.2⟩;replace a:=H (a.below d);replace z:=Lb z d.size;clear S d a0 G b8;go_simp;refine b.out _ _ (j) ?_;clear b E c;refine fun c=>aW ?_;clear j;refine aM 16 17 ?_;obtain⟨ag,b1⟩:∃ag,ag=(s.qE fM f).ag:=⟨_,Z⟩;rw[<-b1]at b7|-;have el:=H b1;clear b1;obtain⟨ec,ed,eg,ei,-,-,-,-,⟨k4,g4⟩,-,-⟩:=a.hs.ats;refine aZ 18 fun E b=> ?_;go_simp;clear k4 g4;have l:=(lh.refl B b0).setCell 4 (.slice va ag.length vc);have j:(b0.setCell ⟨B,4,none⟩ (.slice va ag.length vc)).cell? C=some (B:Y)/\(b0.setCell ⟨B,4,none⟩ (.slice va ag.length vc)).cell? B=some (.int .i64 u)/\(b0.setCell ⟨B,4,none⟩ (.slice va ag.length vc)).cell? ⟨B,3,none⟩=some (.slice m sk.length q):=⟨cD c.1 l a.ne.2.1,(LU _ _ _ _ IW).trans c.2.1,(LU _ _ _ _ IW).trans c.2.2⟩;replace a:=H (a.to l (a.hs.ET (Eb:=R+1) c7.o O b7.o));have ac:=l.size;generalize b0.setCell ⟨B,4,none⟩ (.slice va ag.length vc)=I6 at a l ac j|-;replace z:=Lb z ac;clear l ac b7;refine b.out _ _ (j) ?_;clear b E c;refine fun c=>aW ?_;clear j;refine ay ?_ _;clear c;go_wp2_with fail;obtain⟨m,q,N,P,⟨J,-⟩,-,-,⟨A,-⟩,-,-,-⟩:=a.hs.ats;dsimp only at J A;refine az (fun W:World=>W.cell? C=some (B:Y)/\W.cell? B=some (.int .i64 u)/\W.cell? ⟨B,3,none⟩=some (.slice m sk.length q)) (⟨a.cC,J,A⟩) fun c=>?_;clear J A;replace a:=H a.drew;replace z:R<I6.drew.heap.size:=z;obtain⟨a2,bu⟩:∃a2,a2=I6.drew:=⟨_,Z⟩;rw[<-bu]at a c z|-;clear bu;refine aA 0 4 10 1 ?_;refine aA 5 2 6 3 ?_;refine aQ 7 ?_;obtain⟨cf,cg,N,P,-,-,-,⟨A,-⟩,-,G,-⟩:=a.hs.ats;dsimp only at A G;obtain⟨rfl,rfl⟩:m=cf/\q=cg:=KI
  clear A;have be:=H (show IntKind.i64.wrap (u+aD sk)=u+aD sk/\IntKind.i64.wrap (u+aD sk-(s.fM+aD s.sk))=u+aD sk-(s.fM+aD s.sk)/\dw sk=aD sk from⟨LC _ (by have h1:=ak.u0;have h2:=ak.un;have h3:=ak.n40;have h4:=aN cY.o;have h5:=b9.o;omega),LC _ (by have h1:=ak.u0;have h2:=ak.un;have h3:=ak.n40;have h4:=aN cY.o;have h5:=b9.o;have h6:=aN ak.DX;omega),by unfold dw;rw[L7 cY.o]⟩);refine aZ 8 fun E b=> ?_;go_simp;refine(ep a2 a2.heap.size m q sk G.1 (L4 _)).mono ?_;rintro e t⟨rfl,d⟩;have j:t.cell? C=some (B:Y)/\t.cell? B=some (.int .i64 u)/\t.cell? ⟨B,3,none⟩=some (.slice m sk.length q):=⟨(d.cell (p:=⟨C,0,none⟩) (Lj c.1)).trans c.1,(d.cell (p:=⟨B,0,none⟩) (Lj c.2.1)).trans c.2.1,(d.cell (p:=⟨B,3,none⟩) (Lj c.2.2)).trans c.2.2⟩;replace a:=H (a.below d);replace z:=Lb z d.size;clear d G;go_simp;refine b.out _ _ (j) ?_;clear b E c;refine fun c=>aW ?_;clear j;refine aQ 9 ?_;rw[be.2.2,be.1];refine aQ 11 ?_;rw[be.2.1];refine aQ 12 ?_;obtain⟨x0,p0,q0⟩:=a.r0;obtain⟨x1,p1,q1⟩:=a.r1;obtain⟨n,hn⟩:∃n,n=u+aD sk-(s.fM+aD s.sk):=⟨_,Z⟩;rw[<-hn];have HN:=H hn;clear hn;refine aZ 13 fun E b=> ?_;go_simp;have d8:R≠B:=a.ne.2.2.2;have e0:At R 0 x0 t:=⟨p0,q0⟩;have e1:At R 1 x1 t:=⟨p1,q1⟩;have d0:=((e0.set (.int .i64 n)).other ⟨R,1,none⟩ (0:Int) IW).1;have d1:=((e1.other ⟨R,0,none⟩ (.int .i64 n) IW).set (0:Int)).1;clear p0 q0 p1 q1 e0 e1;have l:lh R t ((t.setCell R (.int .i64 n)).setCell ⟨R,1,none⟩ (0:Int)):=((lh.refl R t).setCell 0 (.int .i64 n)).setCell 1 (0:Int);have d9:=a.hs.other l O O O;have b5:lh B w ((t.setCell R (.int .i64 n)).setCell ⟨R,1,none⟩ (0:Int)):=(a.BS.ED ⟨R,0,none⟩ a.FA (.int .i64 n)).ED ⟨R,1,none⟩ a.FA (0:Int)
  have da:({ s with fM:=u,sk:=sk,ag:=ag }:Sc)=s.go fM f:=by
   unfold Sc.go;rw[L7 a9.o,b9.o,cX.o,el.o] <;> rfl
  have HZ:=H (show bK B w.heap.size (s.go fM f) ((t.setCell R (.int .i64 n)).setCell ⟨R,1,none⟩ (0:Int)) by rw[<-da];exact d9.mono (by have:=a.FA;omega) (by have:=a.FA;omega) b6.lt b6.lt);have dc:=H b5;have j:((t.setCell R (.int .i64 n)).setCell ⟨R,1,none⟩ (0:Int)).cell? C=some (B:Y)/\((t.setCell R (.int .i64 n)).setCell ⟨R,1,none⟩ (0:Int)).cell? B=some (.int .i64 u)/\((t.setCell R (.int .i64 n)).setCell ⟨R,1,none⟩ (0:Int)).cell? ⟨B,3,none⟩=some (.slice m sk.length q):=⟨cD c.1 l (by have:=e6.o;have:=a.FA;omega),cD c.2.1 l (Ne.symm d8),cD c.2.2 l (Ne.symm d8)⟩;clear da d9 l b5;generalize ((t.setCell R (.int .i64 n)).setCell ⟨R,1,none⟩ (0:Int))=ID at d0 d1 HZ dc j|-;refine b.out _ _ (j) ?_;clear b E c;refine fun c=>aW ?_;clear j;refine ay ?_ _;clear c;go_wp2_with fail;refine Lm (v:=.agg #[.int .i64 n,(0:Int)]) JP Z ⟨_,Z,by unfold Sc.A2 Sc.wE;rw[L7 a9.o,L7 a9.o,<-cX.o,<-b9.o,<-HN.o],Or.inr HZ.o,dc.o⟩
end
section
open Go.RowKit Go.Shelf
set_option maxHeartbeats 1000000 in
theorem pO (T C L B lb:Nat) (s:Sc) (fM:Int) (l:Option Addr) (r:Nat) (a:List Sp) (w:World) (ok:s.Ok) (t:w.cell? T=some (fM:Y)) (u:w.cell? C=some (B:Y)) (x:w.cell? L=some (.slice l a.length r))
  (ne:T≠B/\C≠B/\L≠B) (hs:bK B lb s w) (hl:BZ B l a w) (hlen:(s.sk++a).length<=1099511627776) :
  Calls Tryz.prog 120 #[B,.agg #[(0:Int),(1:Int)],.func (.func 121) #[] #[T,C,L]] w fun e w'=>e= .returned (.agg #[(s.A2 fM a),(s.wE fM a)])/\bK B lb (s.go fM a) w'/\lh B w w':=by
 have g:=((L3 w.heap.size w).alloc (L4 _) (.cells #[(0:Int),(1:Int)] 154)).alloc FE (.cells #[(0:Int),(0:Int)] 154);have d:=lh.of_below (B:=B) g;have M:=hs.lt;have y:At (w.heap.size+1) 0 (0:Int) ((w.alloc (.cells #[(0:Int),(1:Int)] 154)).alloc (.cells #[(0:Int),(0:Int)] 154)):=At.new (W:=w.alloc (.cells #[(0:Int),(1:Int)] 154)) (vs:= #[(0:Int),(0:Int)]) _ FE Z;have z:At (w.heap.size+1) 1 (0:Int) ((w.alloc (.cells #[(0:Int),(1:Int)] 154)).alloc (.cells #[(0:Int),(0:Int)] 154)):=At.new (W:=w.alloc (.cells #[(0:Int),(1:Int)] 154)) (vs:= #[(0:Int),(0:Int)]) _ FE Z;have m:=H (sY T C L B lb s fM l r a ((w.alloc (.cells #[(0:Int),(1:Int)] 154)).alloc (.cells #[(0:Int),(0:Int)] 154)) ok (cD t d ne.1) (cD u d ne.2.1) (cD x d ne.2.2) ne (hs.below g) (hl.BS d) hlen);have n:=H d;have h:=H (show At (w.heap.size+1) 0 (0:Int) _/\At (w.heap.size+1) 1 (0:Int) _ from⟨y,z⟩);have i:=H hs;have j:=H g;have q:((w.alloc (.cells #[(0:Int),(1:Int)] 154)).alloc (.cells #[(0:Int),(0:Int)] 154)).heap.size=w.heap.size+2:=FE
 have N:=hs.2.1.1;clear ok t u x ne hs hl hlen g d y z
 go_enter Tryz.func120,Tryz.ntmps120
 go_wp2_with fail;generalize (w.alloc (.cells #[(0:Int),(1:Int)] 154)).alloc (.cells #[(0:Int),(0:Int)] 154)=w1 at m n h j q|-;refine(m.o).mono ?_;rintro e f⟨v,rfl,rfl,k,b⟩;have c:w.heap.size+1≠B:=O
 obtain⟨A,E⟩:=ow h.1 b c;obtain⟨F,G⟩:=ow h.2 b c;have I:At (w.heap.size+1) 0 (0:Int) f:=⟨A,E⟩;have J:At (w.heap.size+1) 1 (0:Int) f:=⟨F,G⟩;have K:lh (w.heap.size+1) f ((f.setCell ⟨w.heap.size+1,0,none⟩ (s.A2 fM a)).setCell ⟨w.heap.size+1,1,none⟩ (s.wE fM a)):=((lh.refl _ f).setCell 0 _).setCell 1 _
 have P:=H (show bK B lb (s.go fM a) ((f.setCell ⟨w.heap.size+1,0,none⟩ (s.A2 fM a)).setCell ⟨w.heap.size+1,1,none⟩ (s.wE fM a)) by
  rcases k with⟨e,S⟩ | k
  ·rw[e];exact i.below (((j.trans (S.mono j.size)).setCell (p:=⟨w.heap.size+1,0,none⟩) FE _).setCell (p:=⟨w.heap.size+1,1,none⟩) FE _)
  exact(k.other K (Ne.symm c) O).mono O O i.1.1 i.1.1)
 have U:=H (((n.trans b).ED ⟨w.heap.size+1,0,none⟩ FE (s.A2 fM a)).ED ⟨w.heap.size+1,1,none⟩ FE (s.wE fM a));have d0:=((I.set (s.A2 fM a)).other ⟨w.heap.size+1,1,none⟩ (s.wE fM a) IW).1;have d1:=((J.other ⟨w.heap.size+1,0,none⟩ (s.A2 fM a) IW).set (s.wE fM a)).1;clear k K b I J m n h j i;go_wp2_with fail;clear A E F G;exact Lm (v:=.agg #[(s.A2 fM a),(s.wE fM a)]) (by simp[results,Tryz.results120,go_sem,d0,d1]) Z ⟨Z,P.o,U.o⟩
set_option maxHeartbeats 1000000 in
theorem lQ (B lb:Nat) (s:Sc) (fM:Int) (b:Option Addr) (d:Nat) (a:List Sp) (w:World) (ok:s.Ok) (hs:bK B lb s w) (hl:BZ B b a w) (hlen:(s.sk++a).length<=1099511627776) :
  Calls Tryz.prog 81 #[B,fM,.slice b a.length d] w fun e w'=>e= .returned (.tuple #[(s.A2 fM a),(s.wE fM a)])/\bK B lb (s.go fM a) w'/\lh B w w':=by
 have y:=hs.lt;have i:=(L3 w.heap.size w).alloc (L4 _) (.cells #[B] 74);have j:=i.alloc FE (.cells #[fM] 3);have l:=j.alloc IH (.cells #[.slice b a.length d] 51);have m:=((show At w.heap.size 0 B _ from At.new (W:=w) (vs:= #[B]) 74 Z Z).alloc (.cells #[fM] 3)).alloc (.cells #[.slice b a.length d] 51);have r:=(show At (w.heap.size+1) 0 fM _ from At.new (W:=w.alloc (.cells #[B] 74)) (vs:= #[fM]) 3 FE Z).alloc (.cells #[.slice b a.length d] 51);have t:=(show At (w.heap.size+2) 0 (.slice b a.length d) _ from At.new (W:=(w.alloc (.cells #[B] 74)).alloc (.cells #[fM] 3)) (vs:= #[.slice b a.length d]) 51 FE Z);have n:=lh.of_below (B:=B) l;have p:=H (pO (w.heap.size+1) w.heap.size (w.heap.size+2) B lb s fM b d a (((w.alloc (.cells #[B] 74)).alloc (.cells #[fM] 3)).alloc (.cells #[.slice b a.length d] 51)) ok r.1 m.1 t.1 ⟨O,O,O⟩ (hs.below l) (hl.BS n) hlen);have q:=H n;have u:=m.1;clear i j l m r t n hs hl ok hlen
 go_enter Tryz.func81,Tryz.ntmps81
 go_wp2_with fail;generalize ((w.alloc (.cells #[B] 74)).alloc (.cells #[fM] 3)).alloc (.cells #[.slice b a.length d] 51)=w1 at p q u|-;refine(p.o).mono ?_;rintro e c⟨rfl,x,k⟩;have g:=H (q.trans k);have h:=H x;clear u x k p q;go_wp2_with fail;have d0:=(show At c.heap.size 0 (s.A2 fM a) (c.alloc (.cells #[(s.A2 fM a),(s.wE fM a)] 154))from At.new (W:=c) (vs:= #[(s.A2 fM a),(s.wE fM a)]) 154 Z Z).1;have d1:=(show At c.heap.size 1 (s.wE fM a) (c.alloc (.cells #[(s.A2 fM a),(s.wE fM a)] 154))from At.new (W:=c) (vs:= #[(s.A2 fM a),(s.wE fM a)]) 154 Z Z).1;have f:=bi c (.cells #[(s.A2 fM a),(s.wE fM a)] 154);replace h:=H (h.below f);replace g:=H (g.trans (lh.of_below f));clear f;generalize (c.alloc (.cells #[(s.A2 fM a),(s.wE fM a)] 154))=w3 at h g d0 d1|-;refine az (fun W:World=>W.cell? c.heap.size=some (s.A2 fM a:Y)/\W.cell? ⟨c.heap.size,1,none⟩=some (s.wE fM a:Y)) (⟨d0,d1⟩) fun z=>?_;refine aA 0 1 2 3 ?_;refine aM 4 5 ?_;refine ay ?_ _;clear z;replace h:=H (h.below (L3 _ _).drew);replace g:=H g.drew;go_wp2_with fail;exact Lm (v:=.tuple #[(s.A2 fM a),(s.wE fM a)]) (by simp[results,Tryz.results81,go_sem]) Z ⟨Z,h.o,g.o⟩
end
end Go.Proofs.YtcmncipikdpnbaaGreatDoor
