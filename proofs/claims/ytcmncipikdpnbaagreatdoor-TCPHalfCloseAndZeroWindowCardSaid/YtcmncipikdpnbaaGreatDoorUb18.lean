import Derived.Test.YtcmncipikdpnbaaGreatDoorUb13
namespace Go.Proofs.YtcmncipikdpnbaaGreatDoor
section
set_option maxRecDepth 100000
open Go.RowKit Go.Shelf
theorem qy {e:Int}{L:List Sp}(h:aJ e L=true)(he:e<=1099511627776):e+2*L.length<=1099511627776:=by
 induction L generalizing e with
 | nil=>simp;omega
 | cons x l a =>
  rw[aB]at h;have:=a h.2 h.1.2.2.2;rw[Lx];omega
theorem lS {L:List Sp}(h:ao L=true):2*L.length<=1099511627777:=by
 have:=qy (e:= -1) h O;omega
theorem aS {B i:Nat}{v:Value}{w w':World}(h:w.cell? ⟨B,i,none⟩=some v)(a:Below w.heap.size w w'):w'.cell? ⟨B,i,none⟩=some v :=
 (a.cell (p:=⟨B,i,none⟩) (Lj h)).trans h
structure Er (C X B lb:Nat)(s:Sc)(x1 x2:Int)(w W:World):Prop where
 cC:W.cell? C=some (B:Y)
 x0:W.cell? X=some (x1:Y)
 x1:W.cell? ⟨X,1,none⟩=some (x2:Y)
 hs:bK B lb s W
 BS:lh B w W
 ne:C≠B/\X≠B
theorem Er.below {C X B lb:Nat}{s:Sc}{b c:Int}{w W W':World}(h:Er C X B lb s b c w W)(a:Below W.heap.size W W'):Er C X B lb s b c w W' :=
 ⟨aS h.cC a,aS h.x0 a,aS h.x1 a,h.hs.below a,h.BS.trans (lh.of_below a),h.ne⟩
theorem Er.drew {C X B lb:Nat}{s:Sc}{a b:Int}{w W:World}(h:Er C X B lb s a b w W):Er C X B lb s a b w W.drew:=h.below (L3 _ _).drew
set_option maxHeartbeats 4000000 in
theorem jT (C X B lb:Nat) (s:Sc) (f g:Int) (w:World) (ok:s.Ok) (cC:w.cell? C=some (B:Y)) (h1:w.cell? X=some (f:Y)) (h2:w.cell? ⟨X,1,none⟩=some (g:Y))
  (ne:C≠B/\X≠B) (hs:bK B lb s w) :
  Calls Tryz.prog 170 #[C,X] w fun e w'=>∃v,e= .returned v/\v=(s.DY (f,g):Y)/\bK B lb (s.ret (f,g)) w'/\lh B w w':=by
 have ak:=H ok;have d:=H (⟨cC,h1,h2,hs,lh.refl B w,ne⟩:Er C X B lb s f g w w);clear ok cC h1 h2 ne hs
 go_enter Tryz.func170,Tryz.ntmps170
 have cC:=d.cC;have cX:=d.x0;have cY:=d.x1;go_wp2_with fail;refine(jo B lb s (f,g) _ d.hs).mono ?_;rintro e w2⟨rfl,a⟩;replace d:=H (d.below a);clear a cC cX cY
 cases hib:s.Ek (f,g)with
 | false =>
  go_wp2;go_ret;exact⟨_,Z,by unfold Sc.DY;rw[L5 (by rw[hib];exact Bool.noConfusion)];rfl,by unfold Sc.ret;rw[L5 (by rw[hib];exact Bool.noConfusion)];exact d.hs,d.BS⟩
 | true =>
  have cs:=H hib;clear hib;have S:=H (ak.E4 cs.o);go_wp2_with fail;obtain⟨E,F,n,p,⟨T,-⟩,-,-,⟨U,-⟩,-,-,-⟩:=d.hs.ats;refine az (fun W:World=>W.cell? C=some (B:Y)/\W.cell? X=some (f:Y)/\W.cell? ⟨X,1,none⟩=some (g:Y)/\W.cell? B=some (s.fM:Y)/\W.cell? ⟨B,3,none⟩=some (.slice E s.sk.length F)) (⟨d.cC,d.x0,d.x1,T,U⟩) fun b=>?_;clear T U;replace d:=H d.drew;obtain⟨k,V⟩:∃k,k=w2.drew:=⟨_,Z⟩;rw[<-V]at d b|-;clear V;obtain⟨eo,er,n,p,-,-,-,⟨U,-⟩,-,bI,-⟩:=d.hs.ats;obtain⟨rfl,rfl⟩:E=eo/\F=er:=by have:=b.2.2.2.2.symm.trans U;injection this with e;injection e with e1 e2 e3;exact⟨e1,e3⟩
  clear U;refine aA 0 4 8 1 ?_;refine aA 9 2 10 3 ?_;refine aQ 11 ?_;refine aZ 5 fun l c=> ?_;go_simp;have a:=bi k (.cells #[f,g] 149)
  have hx:=(show oB (k.alloc (.cells #[f,g] 149)) (k.alloc (.cells #[f,g] 149)).heap.size (some ⟨k.heap.size,0,none⟩) [(f,g)]from⟨FE,fun _=>⟨k.heap.size,0,Z,FE,fun i hi=>by
   obtain rfl:i=0:=by simp at hi;omega
   exact⟨(At.new (W:=k) (vs:= #[f,g]) _ Z Z).1,(At.new (W:=k) (vs:= #[f,g]) _ Z Z).1⟩⟩⟩)
  have h:=(show(k.alloc (.cells #[f,g] 149)).cell? C=some (B:Y)/\(k.alloc (.cells #[f,g] 149)).cell? X=some (f:Y)/\(k.alloc (.cells #[f,g] 149)).cell? ⟨X,1,none⟩=some (g:Y)/\(k.alloc (.cells #[f,g] 149)).cell? B=some (s.fM:Y)/\(k.alloc (.cells #[f,g] 149)).cell? ⟨B,3,none⟩=some (.slice E s.sk.length F)from⟨aS b.1 a,aS b.2.1 a,aS b.2.2.1 a,aS b.2.2.2.1 a,aS b.2.2.2.2 a⟩);replace d:=H (d.below a);replace bI:=bI.below a;have G:=a.size;generalize es:k.heap.size=N0 at hx G|-;generalize k.alloc (.cells #[f,g] 149)=y1 at d hx h bI G|-;clear a es;refine c.out _ _ (h) ?_;clear c l b;refine fun b=>aW ?_;clear h;refine aZ 6 fun l c=> ?_;go_simp;have a:=bi y1 (.cells #[.slice (some ⟨N0,0,none⟩) 1 1] 51)
  have j:jm y1.heap.size [(some ⟨N0,0,none⟩,1,[(f,g)])] (y1.alloc (.cells #[.slice (some ⟨N0,0,none⟩) 1 1] 51)):=⟨FE,fun i hi=>by
   obtain rfl:i=0:=by simp at hi;omega
   exact⟨(At.new (W:=y1) (vs:= #[.slice (some ⟨N0,0,none⟩) 1 1]) _ Z Z).1,(hx.below a).mono a.size⟩⟩
  have h:=(show(y1.alloc (.cells #[.slice (some ⟨N0,0,none⟩) 1 1] 51)).cell? C=some (B:Y)/\(y1.alloc (.cells #[.slice (some ⟨N0,0,none⟩) 1 1] 51)).cell? X=some (f:Y)/\(y1.alloc (.cells #[.slice (some ⟨N0,0,none⟩) 1 1] 51)).cell? ⟨X,1,none⟩=some (g:Y)/\(y1.alloc (.cells #[.slice (some ⟨N0,0,none⟩) 1 1] 51)).cell? B=some (s.fM:Y)/\(y1.alloc (.cells #[.slice (some ⟨N0,0,none⟩) 1 1] 51)).cell? ⟨B,3,none⟩=some (.slice E s.sk.length F)from⟨aS b.1 a,aS b.2.1 a,aS b.2.2.1 a,aS b.2.2.2.1 a,aS b.2.2.2.2 a⟩);replace d:=H (d.below a);replace bI:=bI.below a;generalize y1.alloc (.cells #[.slice (some ⟨N0,0,none⟩) 1 1] 51)=y2 at d j h bI|-;have cV:=H j;clear a hx j;refine c.out _ _ (h) ?_;clear c l b;refine fun b=>aW ?_;clear h;have z:=H (show dQ [(some ⟨N0,0,none⟩,1,[(f,g)])]=[(f,g)] by simp[dQ]);refine aZ 7 fun l c=> ?_;go_simp;refine(hU s.fM _ 1 1 [(some ⟨N0,0,none⟩,1,[(f,g)])] y2 Z cV.o ak.u0 (by rw[z.o];intro y hy;rw[Lu.1 hy];have h1:=Sc.zy.1 cs.o;have h2:=ak.n40;unfold ib;dsimp only at h1|-;omega) (by rw[z.o];simp) O).mono ?_;rintro e I⟨v,rfl,m,a⟩;rw[z.o]at m;obtain⟨L,M,rfl,-⟩:=m.val;have q:=(bG.own m (bf S.1.1) (L4 _)).1;have h:=(show I.cell? C=some (B:Y)/\I.cell? X=some (f:Y)/\I.cell? ⟨X,1,none⟩=some (g:Y)/\I.cell? B=some (s.fM:Y)/\I.cell? ⟨B,3,none⟩=some (.slice E s.sk.length F)from⟨aS b.1 a,aS b.2.1 a,aS b.2.2.1 a,aS b.2.2.2.1 a,aS b.2.2.2.2 a⟩);replace d:=H (d.below a);replace bI:=bI.below a;clear m a cV z;go_simp;refine c.out _ _ (h) ?_;clear c l b;refine fun b=>aW ?_;clear h;refine aZ 12 fun l c=> ?_;go_simp;refine(iY I I.heap.size L E M F (bN s.fM [(f,g)]) s.sk _ _ q.1 bI.1 bI.2.1 (L4 _) S.1.1 ak.DX).mono ?_;rintro e N⟨v,rfl,m,a⟩;obtain⟨st,A⟩:∃st,st=dx (bN s.fM [(f,g)]) s.sk:=⟨_,Z⟩;rw[<-A]at m;have dv:=H (show ao st=true by rw[A];exact(gD S.1.1 ak.DX).1);have d5:=H (show(∀y∈s.ag++st,ib y)/\s.BR (f,g)={ s with ag:=bN s.fM (s.ag++st) } by rw[A];exact⟨S.1.2,Z⟩);obtain⟨t,u,rfl,-⟩:=m.val;have r:=(bG.own m (bf dv.o) (L4 _)).1;have h:=(show N.cell? C=some (B:Y)/\N.cell? X=some (f:Y)/\N.cell? ⟨X,1,none⟩=some (g:Y)/\N.cell? B=some (s.fM:Y)/\N.cell? ⟨B,3,none⟩=some (.slice E s.sk.length F)from⟨aS b.1 a,aS b.2.1 a,aS b.2.2.1 a,aS b.2.2.2.1 a,aS b.2.2.2.2 a⟩);replace d:=H (d.below a);clear m a q bI A;go_simp;refine c.out _ _ (h) ?_;clear c l b;refine fun b=>aW ?_;clear h;refine aQ 13 ?_;refine ay ?_ _;clear b;go_wp2_with fail;obtain⟨-,-,-,-,⟨T,-⟩,-,-,-,-,-,-⟩:=d.hs.ats;refine az (fun W:World=>W.cell? C=some (B:Y)/\W.cell? B=some (s.fM:Y)) (⟨d.cC,T⟩) fun b=>?_;clear T;replace d:=H d.drew;replace r:=r.below (L3 _ _).drew;obtain⟨x,eB⟩:∃x,x=N.drew:=⟨_,Z⟩;rw[<-eB]at d b r|-;clear eB;obtain⟨E,F,n,p,-,-,-,-,⟨k4,g4⟩,-,eC⟩:=d.hs.ats;refine aA 0 1 5 9 ?_;refine aA 2 6 3 7 ?_;refine aQ 4 ?_;refine aZ 8 fun l c=> ?_;go_simp;refine c.out _ _ (b) ?_;clear c l b;refine fun b=>aW ?_;refine aZ 10 fun l c=> ?_;go_simp;have a:=bi x (.cells #[.slice n s.ag.length p,.slice t st.length u] 51)
  have j:jm x.heap.size [(n,p,s.ag),(t,u,st)] (x.alloc (.cells #[.slice n s.ag.length p,.slice t st.length u] 51)):=⟨FE,fun i hi=>by
   rcases(show i=0\/i=1 by simp at hi;omega)with rfl | rfl
   ·exact⟨(At.new (W:=x) (vs:= #[.slice n s.ag.length p,.slice t st.length u]) _ Z Z).1,(eC.1.below a).mono a.size⟩
   exact⟨(At.new (W:=x) (vs:= #[.slice n s.ag.length p,.slice t st.length u]) _ Z Z).1,(r.1.below a).mono a.size⟩⟩
  have h:=(show(x.alloc (.cells #[.slice n s.ag.length p,.slice t st.length u] 51)).cell? C=some (B:Y)/\(x.alloc (.cells #[.slice n s.ag.length p,.slice t st.length u] 51)).cell? B=some (s.fM:Y)from⟨aS b.1 a,aS b.2 a⟩);replace d:=H (d.below a);generalize x.alloc (.cells #[.slice n s.ag.length p,.slice t st.length u] 51)=y6 at d j h|-;have cV:=H j;clear a j eC r k4 g4;refine c.out _ _ (h) ?_;clear c l b;refine fun b=>aW ?_;clear h;have z:=H (show dQ [(n,p,s.ag),(t,u,st)]=s.ag++st by simp[dQ]);refine aZ 11 fun l c=> ?_;go_simp;refine(hU s.fM _ 2 2 [(n,p,s.ag),(t,u,st)] y6 Z cV.o ak.u0 (by rw[z.o];exact d5.1) (by rw[z.o,La];have h1:=lS ak.Fs;have h2:=lS dv.o;omega) O).mono ?_;rintro e P⟨v,rfl,m,a⟩;rw[z.o]at m;obtain⟨L,M,rfl,-⟩:=m.val;obtain⟨ag,J⟩:∃ag,ag=bN s.fM (s.ag++st):=⟨_,Z⟩;rw[<-J]at m|-;have eL:=H (show ao ag=true/\s.BR (f,g)={ s with ag:=ag } by rw[J];refine⟨?_,d5.2⟩;have:=S.2.1;rw[d5.2]at this;exact this);have q:=(bG.own m (bf eL.1) (show lb<=y6.heap.size by have:=d.hs.2.1.1;omega)).1;have aa:=H q;have h:=(show P.cell? C=some (B:Y)/\P.cell? B=some (s.fM:Y)from⟨aS b.1 a,aS b.2 a⟩);replace d:=H (d.below a);clear m a q cV z J;go_simp;refine c.out _ _ (h) ?_;clear c l b;refine fun b=>aW ?_;clear h;refine aM 12 13 ?_;obtain⟨fl,fm,fo,fp,-,-,-,-,⟨k4,g4⟩,-,-⟩:=d.hs.ats;refine aZ 14 fun l c=> ?_;go_simp;clear k4 g4;have K:=(lh.refl B P).setCell 4 (.slice L ag.length M);have h:=(show(P.setCell ⟨B,4,none⟩ (.slice L ag.length M)).cell? C=some (B:Y)/\(P.setCell ⟨B,4,none⟩ (.slice L ag.length M)).cell? B=some (s.fM:Y)from⟨cD b.1 K d.ne.1,(LU _ _ _ _ IW).trans b.2⟩);have HF:=H (d.hs.ET aa.o);have eS:=H (d.BS.trans K);generalize (P.setCell ⟨B,4,none⟩ (.slice L ag.length M))=y8 at HF eS h|-;clear K aa;refine c.out _ _ (h) ?_;clear c l b;refine fun b=>aW ?_;clear h;refine ay ?_ _;clear b
  skip
  go_wp2;go_ret;exact⟨_,Z,by unfold Sc.DY;rw[L7 cs.o];rfl,by unfold Sc.ret;rw[L7 cs.o,eL.2];exact HF.o,eS.o⟩
set_option maxHeartbeats 1000000 in
theorem iy (B lb:Nat) (s:Sc) (a b:Int) (w:World) (ok:s.Ok) (hs:bK B lb s w) :
  Calls Tryz.prog 137 #[B,.agg #[a,b]] w fun e w'=>e= .returned (s.DY (a,b))/\bK B lb (s.ret (a,b)) w'/\lh B w w':=by
 have n:=hs.lt;have c:=(L3 w.heap.size w).alloc (L4 _) (.cells #[B] 74);have f:=c.alloc FE (.cells #[a,b] 149);have g:=(show At w.heap.size 0 B _ from At.new (W:=w) (vs:= #[B]) 74 Z Z).alloc (.cells #[a,b] 149);have h:=(show At (w.heap.size+1) 0 a _ from At.new (W:=w.alloc (.cells #[B] 74)) (vs:= #[a,b]) 149 FE Z);have i:=(show At (w.heap.size+1) 1 b _ from At.new (W:=w.alloc (.cells #[B] 74)) (vs:= #[a,b]) 149 FE Z);have j:=lh.of_below (B:=B) f;have k:=H (jT w.heap.size (w.heap.size+1) B lb s a b ((w.alloc (.cells #[B] 74)).alloc (.cells #[a,b] 149)) ok g.1 h.1 i.1 ⟨O,O⟩ (hs.below f));have l:=H j;clear c f g h i j hs ok
 go_enter Tryz.func137,Tryz.ntmps137
 go_wp2_with fail;refine(iZ _ _ _ _ k.o).mono ?_;rintro e r⟨v,rfl,rfl,m,d⟩;have p:=H (l.trans d);have q:=H m;clear m d k l;go_wp2;go_ret;exact⟨Z,q.o,p.o⟩
end
section
set_option maxRecDepth 100000
open Go.RowKit Go.Shelf
structure Gv (n₀ C M B:Nat)(s:Sc)(m:Int)(sa:Option Addr)(sc:Nat)(W:World):Prop where
 cC:W.cell? C=some (B:Y)
 cM:W.cell? M=some (m:Y)
 c0:W.cell? B=some (s.fM:Y)
 c1:W.cell? ⟨B,1,none⟩=some (s.next:Y)
 c2:W.cell? ⟨B,2,none⟩=some (s.mark:Y)
 c3:W.cell? ⟨B,3,none⟩=some (.slice sa s.sk.length sc)
 ls:oB W n₀ sa s.sk
 cap:s.sk.length<=sc
 lt:B<n₀
 hz:n₀<=W.heap.size
theorem bQ {n₀ B i:Nat}{v:Value}{w w':World}(h:w.cell? ⟨B,i,none⟩=some v)(a:B<n₀)(b:Below n₀ w w'):w'.cell? ⟨B,i,none⟩=some v :=
 (b.cell (p:=⟨B,i,none⟩) a).trans h
theorem Gv.next {n₀ C M B:Nat}{s:Sc}{m:Int}{b:Option Addr}{sc:Nat}{W W':World}(h:Gv n₀ C M B s m b sc W)(a:Below n₀ W W')(c:W'.cell? C=some (B:Y))(d:W'.cell? M=some (m:Y)):Gv n₀ C M B s m b sc W' :=
 ⟨c,d,bQ h.c0 h.lt a,bQ h.c1 h.lt a,bQ h.c2 h.lt a,bQ h.c3 h.lt a,h.ls.below a,h.cap,h.lt,L8 h.hz a.size⟩
theorem Gv.below {n₀ C M B:Nat}{s:Sc}{m:Int}{b:Option Addr}{sc:Nat}{W W':World}(h:Gv n₀ C M B s m b sc W)(a:Below W.heap.size W W'):Gv n₀ C M B s m b sc W' :=
 h.next (a.mono h.hz) (bQ h.cC (Lj h.cC) a) (bQ h.cM (Lj h.cM) a)
structure Gi (n₀ N C M B:Nat)(s:Sc)(m:Int)(sa:Option Addr)(sc:Nat)(ga:Option Addr)(cl:World->Nat->Prop)(W:World):Prop where
 g:Gv n₀ C M B s m sa sc W
 gl:oB W W.heap.size ga s.gaps
 own:∀ad,ga=some ad->N<=ad.block/\¬cl W ad.block
def Gr (n₀ N C M B:Nat)(s:Sc)(m:Int)(f:Option Addr)(sc:Nat)(j:Option Addr)(cl:World->Nat->Prop)(J:Nat->World->Prop)(g:Nat)(l b d:Value)(W:World):Prop :=
 ∃(k:Nat) (sp:List Sp) (a:Option Addr) (c:Nat),l=((k:Int):Y)/\g+k=s.gaps.length/\b= .slice a sp.length c/\d=(aD sp:Y)/\oB W n₀ a sp/\sp.length<=c/\(∃e,aJ e sp=true) /\
  (∀i (h:i<s.gaps.length),k<=i->iP s.gaps[i].1 sp=iP s.gaps[i].1 s.sk)/\Gi n₀ N C M B s m f sc j cl W/\J k W/\N<=W.heap.size
def Gq (n₀ N C M B:Nat)(s:Sc)(m:Int)(f:Option Addr)(sc:Nat)(j:Option Addr)(cl:World->Nat->Prop)(J:Nat->World->Prop)(k X:Nat)(l n:Int)(g:Nat)(b d:Value)(W:World):Prop :=
 ∃(sp:List Sp) (a:Option Addr) (c:Nat),g=sp.length/\b= .slice a sp.length c/\d=(aD sp:Y)/\oB W n₀ a sp/\sp.length<=c/\(∃e,aJ e sp=true) /\
  (∀i (h:i<s.gaps.length),k<=i->iP s.gaps[i].1 sp=iP s.gaps[i].1 s.sk)/\Gi n₀ N C M B s m f sc j cl W/\J k W/\N<=W.heap.size/\At X 0 l W/\At X 1 n W/\N<=X
theorem oM {W:World}{n₀ b off:Nat}{y:Sp}{t:List Sp}(h:oB W n₀ (some ⟨b,off,none⟩) (y::t)):oB W n₀ (some ⟨b,off+2,none⟩) t:=by
 refine⟨by have:=h.small;rw[Lx]at this;omega,fun d=> ?_⟩;obtain⟨f,g,e,c,a⟩:=h.cells FE
 cases e
 refine⟨b,off+2,Z,c,fun i hi=> ?_⟩;have:=a (i+1) IH;rw[NG]at this;rw[show off+2+i*2=off+(i+1)*2 by omega];exact this
theorem Gi.below {n₀ N C M B:Nat}{s:Sc}{m:Int}{d:Option Addr}{sc:Nat}{f:Option Addr}{cl:World->Nat->Prop}{W W':World}(h:Gi n₀ N C M B s m d sc f cl W)(a:Below W.heap.size W W')(j:∀b,cl W' b->cl W b):Gi n₀ N C M B s m d sc f cl W' :=
 ⟨h.g.below a,(h.gl.below a).mono a.size,fun i e=>⟨(h.own i e).1,fun c=>(h.own i e).2 (j _ c)⟩⟩
theorem Gi.next {n₀ N C M B:Nat}{s:Sc}{m:Int}{n:Option Addr}{sc:Nat}{j:Option Addr}{cl:World->Nat->Prop}{W W':World}(h:Gi n₀ N C M B s m n sc j cl W)(o:Below n₀ W W')(_hsz:N<=W.heap.size)(d:∀b,b<W.heap.size->N<=b->¬cl W b->W'.heap[b]? =W.heap[b]? /\¬cl W' b)(k:∀c,j=some c->c.block<W.heap.size)(p:W'.cell? C=some (B:Y)/\W'.cell? M=some (m:Y)):Gi n₀ N C M B s m n sc j cl W':=by
 refine⟨h.g.next o p.1 p.2,⟨h.gl.small,fun t=> ?_⟩,fun c e=>⟨(h.own c e).1,(d _ (k c e) (h.own c e).1 (h.own c e).2).2⟩⟩;obtain⟨b,off,l,f,q⟩:=h.gl.cells t;have r:=(d b f (h.own _ l).1 (h.own _ l).2).1;exact⟨b,off,l,Lb f o.size,fun i hi=>⟨(Lg (a:=⟨b,_,none⟩) r).trans (q i hi).1,(Lg (a:=⟨b,_,none⟩) r).trans (q i hi).2⟩⟩
set_option maxHeartbeats 4000000 in
theorem ve (n:Nat) (hn:1<=n) (l n₀ C M B:Nat) (s:Sc) (ok:s.Ok) (m:Int) (sa:Option Addr) (sc:Nat) (w:World) (cl:World->Nat->Prop) (J Jx:Nat->World->Prop)
  (hJ:∀k W W',J k W->Below W.heap.size W W'->J k W'/\∀b,cl W' b->cl W b/\b<W.heap.size)
  (hY:∀k (h:k<s.gaps.length) W1,J k W1->YieldAt Fence.wide (n-1) Tryz.prog l #[.agg #[s.gaps[k].1,s.gaps[k].2],.agg #[(s.mm m s.gaps[k]).1,(s.mm m s.gaps[k]).2]] W1 fun e W' =>
   (e= .returned true/\J (k+1) W'/\Below n₀ W1 W'/\∀b,b<W1.heap.size->w.heap.size<=b->¬cl W1 b->W'.heap[b]? =W1.heap[b]? /\¬cl W' b)\/(e= .returned false/\Jx k W'))
  (e3:∀k W,J k W->W.cell? C=some (B:Y)/\W.cell? M=some (m:Y)) (hG:Gv n₀ C M B s m sa sc w) (h0:J 0 w) :
  CallsIn Fence.wide n Tryz.prog 180 #[.func (.yield l) #[] #[],C,M] w fun e W'=>(∃v,e= .returned v)/\(J s.gaps.length W'\/∃k,k<s.gaps.length/\Jx k W'):=by
 have ak:=H ok;have L:=H hG;have X:=H hJ;have d6:=H e3;have HY:=H hY;have an:=H h0;have eu:=H (show dw s.sk=aD s.sk by unfold dw;rw[L7 ok.DX]);have ev:=H (show ∀i j (h1:i<=j) (h2:j<s.gaps.length),s.gaps[i].1<=s.gaps[j].1 from uw s);have cw:=H (show s.gaps.length<=1099511627776 from mH s);clear ok hG hJ e3 hY h0;refine NU Tryz.func180 Z trivial ?_ Z;simp only[Tryz.ntmps180,LG,Lx,M1,Nat.reduceAdd,Nat.reduceSub,M8,M7,Mk,Mf,LD,LQ];refine M9.2 ?_;have hK:=(show w.cell? C=some (B:Y)/\w.cell? B=some (s.fM:Y)/\w.cell? ⟨B,1,none⟩=some (s.next:Y)/\w.cell? ⟨B,3,none⟩=some (.slice sa s.sk.length sc)from⟨L.cC,L.c0,L.c1,L.c3⟩);go_wp2_with fail;refine az (fun W:World=>W.cell? C=some (B:Y)/\W.cell? B=some (s.fM:Y)/\W.cell? ⟨B,1,none⟩=some (s.next:Y)/\W.cell? ⟨B,3,none⟩=some (.slice sa s.sk.length sc)) (hK) fun hZ=>?_;clear hK;replace L:=H (L.below (L3 _ w).drew);replace an:=H (X.o 0 w w.drew an.o (L3 _ _).drew).1;have E:=H (L4 w.heap.size);obtain⟨y0,p⟩:∃y0,y0=w.drew:=⟨_,Z⟩;replace E:Hid (w.heap.size<=y0.heap.size):=by rw[p];exact E
 rw[<-p]at L an hZ|-;clear p;refine aA 0 4 1 5 ?_;refine aA 2 6 3 7 ?_;refine aZ 8 fun Kq T=> ?_;go_simp;refine(ep y0 n₀ sa sc s.sk L.ls L.hz).mono ?_;rintro e U⟨rfl,hb⟩;replace L:=H (L.below hb);replace an:=H (X.o 0 _ _ an.o hb).1;replace E:=H (L8 E.o hb.size);clear hb;have hK:=(show U.cell? C=some (B:Y)/\U.cell? B=some (s.fM:Y)/\U.cell? ⟨B,1,none⟩=some (s.next:Y)/\U.cell? ⟨B,3,none⟩=some (.slice sa s.sk.length sc)from⟨L.cC,L.c0,L.c1,L.c3⟩);go_simp;refine T.out _ _ (hK) ?_;clear T Kq hZ;refine fun hZ=>aW ?_;clear hK;rw[eu.o];refine aM 9 10 ?_;refine ay ?_ _;clear hZ;go_wp2_with fail;have hK:=(show U.cell? C=some (B:Y)/\U.cell? B=some (s.fM:Y)/\U.cell? ⟨B,1,none⟩=some (s.next:Y)/\U.cell? ⟨B,3,none⟩=some (.slice sa s.sk.length sc)from⟨L.cC,L.c0,L.c1,L.c3⟩);refine az (fun W:World=>W.cell? C=some (B:Y)/\W.cell? B=some (s.fM:Y)/\W.cell? ⟨B,1,none⟩=some (s.next:Y)/\W.cell? ⟨B,3,none⟩=some (.slice sa s.sk.length sc)) (hK) fun hZ=>?_;clear hK;replace L:=H (L.below (L3 _ U).drew);replace an:=H (X.o 0 U U.drew an.o (L3 _ _).drew).1;obtain⟨y2,d7⟩:∃y2,y2=U.drew:=⟨_,Z⟩;replace E:Hid (w.heap.size<=y2.heap.size):=by rw[d7];exact E
 rw[<-d7]at L an hZ|-;clear d7;refine aA 0 4 8 15 ?_;refine aA 1 5 9 2 ?_;refine aA 6 10 3 7 ?_;refine aM 11 12 ?_;refine aZ 13 fun Kq T=> ?_;go_simp;refine(qS y2 n₀ sa sc s.sk (s.fM,s.next) L.ls L.hz).mono ?_;rintro e y3⟨v,rfl,hO,hb⟩;rw[show bt s.sk (s.fM,s.next)=s.gaps from Z]at hO;obtain⟨ga,gc,rfl,f0,-,d8⟩:=hO.at cw.o;have f1:=(X.o 0 _ _ an.o hb).2;have q:=H (show Gi n₀ w.heap.size C M B s m sa sc ga cl y3 from⟨L.below hb,f0,fun ad e=>⟨L8 E.o (d8 ad e).1,fun h=>by have:=(f1 _ h).2;have:=(d8 ad e).1;omega⟩⟩);replace an:=H (X.o 0 _ _ an.o hb).1;replace E:=H (L8 E.o hb.size);clear hO hb f0 d8 f1 L;have hK:=(show y3.cell? C=some (B:Y)/\y3.cell? B=some (s.fM:Y)/\y3.cell? ⟨B,1,none⟩=some (s.next:Y)/\y3.cell? ⟨B,3,none⟩=some (.slice sa s.sk.length sc)from⟨q.g.cC,q.g.c0,q.g.c1,q.g.c3⟩);go_simp;refine T.out _ _ (hK) ?_;clear T Kq hZ;refine fun hZ=>aW ?_;clear hK;refine aQ 14 ?_;refine ay ?_ _;clear hZ;go_wp2_with fail;obtain⟨e0,e4⟩:=(⟨_,ak.DX⟩:∃e,aJ e s.sk=true);have c5:=H e4;clear e4
 go_loopg [33,4,5] s.gaps.length (fun g kv d9 e1 wr=>Gr n₀ w.heap.size C M B s m sa sc ga cl J g kv d9 e1 wr)
 case atStart=>exact⟨0,s.sk,sa,sc,Z,O,Z,Z,q.g.ls,q.g.cap,⟨e0,c5.o⟩,fun i h _=>rfl,q.o,an.o,E.o⟩
 case round =>
  clear q an E c5;obtain⟨k,sp,a,c,rfl,hg,rfl,rfl,b1,r,⟨e0,c6⟩,b2,hI,c7,b3⟩:=hrel;have q:=H hI;have ba:=H b2;have am:=H c6;have K:=H b1;have G:=H c7;have E:=H b3;clear hI b2 c6 b1 c7 b3;by_cases hk:k<s.gaps.length
  ·obtain⟨b0,o0,rfl,hb,a0⟩:=q.gl.cells O;obtain⟨d0,d1⟩:=a0 k hk;clear a0;have b5:(k:Int)<(s.gaps.length:Int):=by omega
   obtain⟨x,hx⟩:∃x,x=s.gaps[k]:=⟨_,Z⟩;rw[<-hx]at d0 d1;have HX:=H hx;clear hx;obtain⟨d,f⟩:=x;dsimp only at d0 d1;have e5:=H (fun i (h:i<s.gaps.length) (b5:k<=i)=>show d<=s.gaps[i].1 by have:=ev.o k i b5 h;rw[<-HX.o]at this;exact this);go_wp2_with fail;clear d0 d1;have cT:=bi wr (.cells #[d,f] 149);obtain⟨XB,b4⟩:∃XB,XB=wr.heap.size:=⟨_,Z⟩;have c4:=(show At XB 0 d (wr.alloc (.cells #[d,f] 149)) by rw[b4];exact At.new _ Z Z);have d2:=(show At XB 1 f (wr.alloc (.cells #[d,f] 149)) by rw[b4];exact At.new _ Z Z);have HQ:=H (show Gq n₀ w.heap.size C M B s m sa sc (some ⟨b0,o0,none⟩) cl J k XB d f sp.length (.slice a sp.length c) (aD sp) (wr.alloc (.cells #[d,f] 149))from⟨sp,a,c,Z,Z,Z,K.below (cT.mono q.g.hz),r,⟨e0,am.o⟩,ba.o,q.below cT (fun b h=>((X.o k _ _ G.o cT).2 b h).1),(X.o k _ _ G.o cT).1,L8 E.o cT.size,c4,d2,by rw[b4];exact E.o⟩);rw[<-b4];clear cT b4 c4 d2 K am ba q G E;generalize wr.alloc (.cells #[d,f] 149)=w1 at HQ|-
   go_loopg [4,5] sp.length (fun g d9 e1 w2=>Gq n₀ w.heap.size C M B s m sa sc (some ⟨b0,o0,none⟩) cl J k XB d f g d9 e1 w2)
   case atStart=>exact HQ.o
   case round =>
    clear HQ r;obtain⟨sp,a,c,rfl,rfl,rfl,b1,r,⟨e0,c6⟩,b2,hI,c7,b3,c4,d2,e6⟩:=hrel;have q:=H hI;have ba:=H b2;have am:=H c6;have K:=H b1;have G:=H c7;have E:=H b3;have z:=H c4;have A:=H d2;have e7:=H e6;have r:=r;clear hI b2 c6 b1 c7 b3 c4 d2 e6
    rcases sp with _ | ⟨y,t⟩
    ·obtain⟨v0,q0⟩:=z.o;obtain⟨v1,q1⟩:=A.o;have f4:decide ((0:Int)<0)=false:=by decide
     go_wp2_with fail
     go_quiet (fail)
     clear v0 q0 v1 q1;have u:=lP wr nq;replace q:=H (q.below u (fun b h=>((X.o k _ _ G.o u).2 b h).1));replace G:=H (X.o k _ _ G.o u).1;replace K:=H (K.below (u.mono Jz));replace z:=H (z.below u z.lt);replace A:=H (A.below u A.lt);replace E:=H (L8 E.o u.size);clear u;generalize wr.drewN nq=w3 at q G K z A E|-;obtain⟨v0,q0⟩:=z.o;obtain⟨v1,q1⟩:=A.o;have bc:=q.g.below (bi w3 (.cells #[d,f] 149));have cM:=bc.cM;have cC:=bc.cC;have c2:=bc.c2;clear bc;obtain⟨v2,q2⟩:=z.alloc (.cells #[d,f] 149);obtain⟨v3,q3⟩:=A.alloc (.cells #[d,f] 149);have av:=H (show iP d s.sk=[] by have h:=ba.o k hk (L4 _);rw[<-HX.o]at h;exact h.symm.trans IJ);have ew:wrap64 ((aD []).tdiv 3)=aD []/3:=KJ
     by_cases a2:aD []/3<m
     focus
      have a3:(0:Int)<3:=D
      go_upto_region 9 with fail
      have c8:=(show(fun W:World=>W.cell? XB=some (d:Y)/\W.cell? ⟨XB,1,none⟩=some (f:Y)/\W.cell? C=some (B:Y)/\W.cell? ⟨B,2,none⟩=some (s.mark:Y)) (w3.alloc (.cells #[d,f] 149))from⟨v2,v3,cC,c2⟩);have bv:=q.g.below (bi w3 (.cells #[d,(max d (min f s.mark):Int)] 149));have b6:=(show(fun W:World=>W.cell? XB=some (d:Y)/\W.cell? ⟨XB,1,none⟩=some (f:Y)/\W.cell? C=some (B:Y)/\W.cell? ⟨B,2,none⟩=some (s.mark:Y)) (w3.alloc (.cells #[d,(max d (min f s.mark):Int)] 149))from⟨(z.alloc (.cells #[d,(max d (min f s.mark):Int)] 149)).1,(A.alloc (.cells #[d,(max d (min f s.mark):Int)] 149)).1,bv.cC,bv.c2⟩);clear bv;refine az (fun W:World=>W.cell? XB=some (d:Y)/\W.cell? ⟨XB,1,none⟩=some (f:Y)/\W.cell? C=some (B:Y)/\W.cell? ⟨B,2,none⟩=some (s.mark:Y)) (c8) fun hZ=>?_;refine aA 0 1 2 3 ?_;refine aA 4 5 6 7 ?_;refine aM 8 9 ?_;refine aQ 10 ?_;refine aZ 11 fun Kq T=> ?_;go_simp;refine T.out _ _ (b6) ?_;clear T Kq hZ;refine fun hZ=>aW ?_;refine ay ?_ _;clear hZ c8 b6 cC cM c2 v2 v3 q2 q3
      go_upto_region 10 with fail
      have F:=(bi w3 (.cells #[d,(max d (min f s.mark):Int)] 149)).drew;have bd:=H (show s.mm m (d,f)=(d,(max d (min f s.mark))) by unfold Sc.mm;rw[L7];dsimp only;rw[av.o];exact⟨a2,by first | exact a3 | (simp;omega) | simp⟩);have ac:=X.o k _ _ G.o F;have al:=H (q.below F (fun b h=>(ac.2 b h).1));have p:=HY.o k hk _ ac.1;rw[<-HX.o,bd.o]at p;dsimp only at p;have d0:=(show At w3.heap.size 0 d ((w3.alloc (.cells #[d,(max d (min f s.mark):Int)] 149)).drew)from(At.new _ Z rfl:At w3.heap.size 0 d (w3.alloc (.cells #[d,(max d (min f s.mark):Int)] 149)))).1;have d1:=(show At w3.heap.size 1 (max d (min f s.mark):Int) ((w3.alloc (.cells #[d,(max d (min f s.mark):Int)] 149)).drew)from(At.new _ Z rfl:At w3.heap.size 1 (max d (min f s.mark):Int) (w3.alloc (.cells #[d,(max d (min f s.mark):Int)] 149)))).1;have P:=z.below F z.lt;have S:=A.below F A.lt;obtain⟨P,-⟩:=P;obtain⟨S,-⟩:=S;have a9:=L8 E.o F.size;have ax:=H (K.below (F.mono q.g.hz));generalize ((w3.alloc (.cells #[d,(max d (min f s.mark):Int)] 149)).drew)=w5 at p d0 d1 al P S a9 ax|-
     rotate_left 1
     focus
      go_upto_region 10 with fail
      have F:=bi w3 (.cells #[d,f] 149);have bd:=H (show s.mm m (d,f)=(d,f) by unfold Sc.mm;rw[L5];dsimp only;rw[av.o];rintro⟨h1,h2⟩;first | exact a2 h1 | exact a3 Jw | (simp at h2;omega));have ac:=X.o k _ _ G.o F;have al:=H (q.below F (fun b h=>(ac.2 b h).1));have p:=HY.o k hk _ ac.1;rw[<-HX.o,bd.o]at p;dsimp only at p;have d0:=(show At w3.heap.size 0 d (w3.alloc (.cells #[d,f] 149))from At.new _ Z Z).1;have d1:=(show At w3.heap.size 1 f (w3.alloc (.cells #[d,f] 149))from At.new _ Z Z).1;have P:=z.below F z.lt;have S:=A.below F A.lt;obtain⟨P,-⟩:=P;obtain⟨S,-⟩:=S;have a9:=L8 E.o F.size;have ax:=H (K.below (F.mono q.g.hz));generalize (w3.alloc (.cells #[d,f] 149))=w5 at p d0 d1 al P S a9 ax|-
     all_goals
      obtain⟨fn,d4,a1,d5,hy,hR⟩:=p;clear F ac;refine(M9 (n:=n)).1 ?_
      gi_wp2
      refine hR.mono ?_;rintro e w6 (⟨rfl,V,I,N⟩ | ⟨rfl,d3⟩)
      ·have bn:=al.next I a9 N (fun ad e=>by obtain⟨b8,o8,e8,c9,-⟩:=al.gl.cells O;rw[e8]at e;cases e;exact c9) (d6.o _ _ V);have ca:=H (ax.below I);have b7:=H (L8 a9 I.size);have cb:=H bn;have cf:=H V;clear hy hR d0 d1 P S I N bn V
       gi_wp2
       go_wp2_with fail
       go_roundg (s.gaps.length-k-1)
       case measure=>omega
       case rel=>exact⟨k+1,[],a,c,Kb,O,by first | rfl | simp,Z,ca.o,Kc,⟨_,am.o⟩,fun i h b5=>ba.o i h O,cb.o,cf.o,b7.o⟩
      clear hy hR d0 d1 P S
      gi_wp2
      go_wp2_with fail;refine Lm (LV Z _ _ _) Z ?_;exact⟨⟨_,Z⟩,.inr ⟨k,hk,d3⟩⟩
    obtain⟨b,off,rfl,hb,a0⟩:=K.cells FE;obtain⟨d0,d1⟩:=a0 0 FE;clear a0;obtain⟨U,y2⟩:=y;simp only[MC,No,Nq]at d0 d1;obtain⟨v0,q0⟩:=z.o;obtain⟨v1,q1⟩:=A.o;by_cases e2:y2<=d
    ·have e9:=H (show wrap64 (aD ((U,y2)::t)-wrap64 (y2-U))=aD t by have h1:=aN am.o;have h2:=aB.1 am.o;have h3:=aN h2.2;have h4:=h2.1;dsimp only at h4;rw[show aD ((U,y2)::t)=(y2-U)+aD t from Z]at h1|-;unfold wrap64;omega);go_wp2_with fail
     go_quiet (fail)
     clear v0 q0 v1 q1;have D0:=H d0;have D1:=H d1;clear d0 d1;have u:=lP wr nq;replace q:=H (q.below u (fun b h=>((X.o k _ _ G.o u).2 b h).1));replace G:=H (X.o k _ _ G.o u).1;replace K:=H (K.below (u.mono Jz));replace z:=H (z.below u z.lt);replace A:=H (A.below u A.lt);replace E:=H (L8 E.o u.size);clear u;generalize wr.drewN nq=w3 at q G K z A E|-;obtain⟨v0,q0⟩:=z.o;obtain⟨v1,q1⟩:=A.o;obtain⟨b9,o9,h9,hb,a0⟩:=K.cells FE
     cases h9
     obtain⟨d0,d1⟩:=a0 0 FE;clear a0;simp only[MC,No,Nq]at d0 d1;go_wp2_with fail
     go_quiet (fail)
     go_wp2_with fail
     ·clear v0 q0 v1 q1 d0 d1;have u:=lP w3 nq;replace q:=H (q.below u (fun b h=>((X.o k _ _ G.o u).2 b h).1));replace G:=H (X.o k _ _ G.o u).1;replace K:=H (K.below (u.mono Jz));replace z:=H (z.below u z.lt);replace A:=H (A.below u A.lt);replace E:=H (L8 E.o u.size);clear u;generalize w3.drewN nq=w4 at q G K z A E|-;rw[e9.o]
      go_roundg t.length
      case measure=>simp
      case rel=>exact⟨t,some ⟨b,off,none⟩,0,Z,Z,Z,⟨by have:=(oM K.o).small;exact this,fun hl=>by have:=r;rw[Lx]at this;omega⟩,by have:=r;rw[Lx]at this;omega,⟨y2,(aB.1 am.o).2⟩,fun i h b5=>by rw[<-ba.o i h b5,cB,L7 (Lz e2 (e5.o i h b5))],q.o,G.o,E.o,z.o,A.o,e7.o⟩
     clear v0 q0 v1 q1 d0 d1;have u:=lP w3 nq;replace q:=H (q.below u (fun b h=>((X.o k _ _ G.o u).2 b h).1));replace G:=H (X.o k _ _ G.o u).1;replace K:=H (K.below (u.mono Jz));replace z:=H (z.below u z.lt);replace A:=H (A.below u A.lt);replace E:=H (L8 E.o u.size);clear u;generalize w3.drewN nq=w4 at q G K z A E|-;rw[e9.o]
     go_roundg t.length
     case measure=>simp
     case rel=>exact⟨t,some ⟨b,off+2,none⟩,c-1,Z,Z,Z,oM K.o,by have:=r;rw[Lx]at this;omega,⟨y2,(aB.1 am.o).2⟩,fun i h b5=>by rw[<-ba.o i h b5,cB,L7 (Lz e2 (e5.o i h b5))],q.o,G.o,E.o,z.o,A.o,e7.o⟩
    have hd:decide (y2<=d)=false:=by rw[Lr];exact e2
    go_wp2_with fail
    go_quiet (fail)
    clear v0 q0 v1 q1 d0 d1;have u:=lP wr nq;replace q:=H (q.below u (fun b h=>((X.o k _ _ G.o u).2 b h).1));replace G:=H (X.o k _ _ G.o u).1;replace K:=H (K.below (u.mono Jz));replace z:=H (z.below u z.lt);replace A:=H (A.below u A.lt);replace E:=H (L8 E.o u.size);clear u;generalize wr.drewN nq=w3 at q G K z A E|-;obtain⟨v0,q0⟩:=z.o;obtain⟨v1,q1⟩:=A.o;have bc:=q.g.below (bi w3 (.cells #[d,f] 149));have cM:=bc.cM;have cC:=bc.cC;have c2:=bc.c2;clear bc;obtain⟨v2,q2⟩:=z.alloc (.cells #[d,f] 149);obtain⟨v3,q3⟩:=A.alloc (.cells #[d,f] 149);have av:=H (show iP d s.sk=((U,y2)::t) by have h:=ba.o k hk (L4 _);rw[<-HX.o]at h;exact h.symm.trans (by rw[cB,L5 O]));have ew:wrap64 ((aD ((U,y2)::t)).tdiv 3)=aD ((U,y2)::t)/3:=KJ
    by_cases a2:aD ((U,y2)::t)/3<m
    ·by_cases a3:((t.length:Int)+1)<3
     focus
      go_upto_region 9 with fail
      have c8:=(show(fun W:World=>W.cell? XB=some (d:Y)/\W.cell? ⟨XB,1,none⟩=some (f:Y)/\W.cell? C=some (B:Y)/\W.cell? ⟨B,2,none⟩=some (s.mark:Y)) (w3.alloc (.cells #[d,f] 149))from⟨v2,v3,cC,c2⟩);have bv:=q.g.below (bi w3 (.cells #[d,(max d (min f s.mark):Int)] 149));have b6:=(show(fun W:World=>W.cell? XB=some (d:Y)/\W.cell? ⟨XB,1,none⟩=some (f:Y)/\W.cell? C=some (B:Y)/\W.cell? ⟨B,2,none⟩=some (s.mark:Y)) (w3.alloc (.cells #[d,(max d (min f s.mark):Int)] 149))from⟨(z.alloc (.cells #[d,(max d (min f s.mark):Int)] 149)).1,(A.alloc (.cells #[d,(max d (min f s.mark):Int)] 149)).1,bv.cC,bv.c2⟩);clear bv;refine az (fun W:World=>W.cell? XB=some (d:Y)/\W.cell? ⟨XB,1,none⟩=some (f:Y)/\W.cell? C=some (B:Y)/\W.cell? ⟨B,2,none⟩=some (s.mark:Y)) (c8) fun hZ=>?_;refine aA 0 1 2 3 ?_;refine aA 4 5 6 7 ?_;refine aM 8 9 ?_;refine aQ 10 ?_;refine aZ 11 fun Kq T=> ?_;go_simp;refine T.out _ _ (b6) ?_;clear T Kq hZ;refine fun hZ=>aW ?_;refine ay ?_ _;clear hZ c8 b6 cC cM c2 v2 v3 q2 q3
      go_upto_region 10 with fail
      have F:=(bi w3 (.cells #[d,(max d (min f s.mark):Int)] 149)).drew;have bd:=H (show s.mm m (d,f)=(d,(max d (min f s.mark))) by unfold Sc.mm;rw[L7];dsimp only;rw[av.o];exact⟨a2,by first | exact a3 | (simp;omega) | simp⟩);have ac:=X.o k _ _ G.o F;have al:=H (q.below F (fun b h=>(ac.2 b h).1));have p:=HY.o k hk _ ac.1;rw[<-HX.o,bd.o]at p;dsimp only at p;have d0:=(show At w3.heap.size 0 d ((w3.alloc (.cells #[d,(max d (min f s.mark):Int)] 149)).drew)from(At.new _ Z rfl:At w3.heap.size 0 d (w3.alloc (.cells #[d,(max d (min f s.mark):Int)] 149)))).1;have d1:=(show At w3.heap.size 1 (max d (min f s.mark):Int) ((w3.alloc (.cells #[d,(max d (min f s.mark):Int)] 149)).drew)from(At.new _ Z rfl:At w3.heap.size 1 (max d (min f s.mark):Int) (w3.alloc (.cells #[d,(max d (min f s.mark):Int)] 149)))).1;have P:=z.below F z.lt;have S:=A.below F A.lt;obtain⟨P,-⟩:=P;obtain⟨S,-⟩:=S;have a9:=L8 E.o F.size;have ax:=H (K.below (F.mono q.g.hz));generalize ((w3.alloc (.cells #[d,(max d (min f s.mark):Int)] 149)).drew)=w5 at p d0 d1 al P S a9 ax|-
     rotate_left 1
     focus
      go_upto_region 10 with fail
      have F:=bi w3 (.cells #[d,f] 149);have bd:=H (show s.mm m (d,f)=(d,f) by unfold Sc.mm;rw[L5];dsimp only;rw[av.o];rintro⟨h1,h2⟩;first | exact a2 h1 | exact a3 Jw | (simp at h2;omega));have ac:=X.o k _ _ G.o F;have al:=H (q.below F (fun b h=>(ac.2 b h).1));have p:=HY.o k hk _ ac.1;rw[<-HX.o,bd.o]at p;dsimp only at p;have d0:=(show At w3.heap.size 0 d (w3.alloc (.cells #[d,f] 149))from At.new _ Z Z).1;have d1:=(show At w3.heap.size 1 f (w3.alloc (.cells #[d,f] 149))from At.new _ Z Z).1;have P:=z.below F z.lt;have S:=A.below F A.lt;obtain⟨P,-⟩:=P;obtain⟨S,-⟩:=S;have a9:=L8 E.o F.size;have ax:=H (K.below (F.mono q.g.hz));generalize (w3.alloc (.cells #[d,f] 149))=w5 at p d0 d1 al P S a9 ax|-
     all_goals
      obtain⟨fn,d4,a1,d5,hy,hR⟩:=p;clear F ac;refine(M9 (n:=n)).1 ?_
      gi_wp2
      refine hR.mono ?_;rintro e w6 (⟨rfl,V,I,N⟩ | ⟨rfl,d3⟩)
      ·have bn:=al.next I a9 N (fun ad e=>by obtain⟨b8,o8,e8,c9,-⟩:=al.gl.cells O;rw[e8]at e;cases e;exact c9) (d6.o _ _ V);have ca:=H (ax.below I);have b7:=H (L8 a9 I.size);have cb:=H bn;have cf:=H V;clear hy hR d0 d1 P S I N bn V
       gi_wp2
       go_wp2_with fail
       go_roundg (s.gaps.length-k-1)
       case measure=>omega
       case rel=>exact⟨k+1,((U,y2)::t),(some ⟨b,off,none⟩),c,Kb,O,by first | rfl | simp,Z,ca.o,Kc,⟨_,am.o⟩,fun i h b5=>ba.o i h O,cb.o,cf.o,b7.o⟩
      clear hy hR d0 d1 P S
      gi_wp2
      go_wp2_with fail;refine Lm (LV Z _ _ _) Z ?_;exact⟨⟨_,Z⟩,.inr ⟨k,hk,d3⟩⟩
    go_upto_region 10 with fail
    have F:=bi w3 (.cells #[d,f] 149);have bd:=H (show s.mm m (d,f)=(d,f) by unfold Sc.mm;rw[L5];dsimp only;rw[av.o];rintro⟨h1,h2⟩;first | exact a2 h1 | exact a3 Jw | (simp at h2;omega));have ac:=X.o k _ _ G.o F;have al:=H (q.below F (fun b h=>(ac.2 b h).1));have p:=HY.o k hk _ ac.1;rw[<-HX.o,bd.o]at p;dsimp only at p;have d0:=(show At w3.heap.size 0 d (w3.alloc (.cells #[d,f] 149))from At.new _ Z Z).1;have d1:=(show At w3.heap.size 1 f (w3.alloc (.cells #[d,f] 149))from At.new _ Z Z).1;have P:=z.below F z.lt;have S:=A.below F A.lt;obtain⟨P,-⟩:=P;obtain⟨S,-⟩:=S;have a9:=L8 E.o F.size;have ax:=H (K.below (F.mono q.g.hz));generalize (w3.alloc (.cells #[d,f] 149))=w5 at p d0 d1 al P S a9 ax|-;obtain⟨fn,d4,a1,d5,hy,hR⟩:=p;clear F ac;refine(M9 (n:=n)).1 ?_
    gi_wp2
    refine hR.mono ?_;rintro e w6 (⟨rfl,V,I,N⟩ | ⟨rfl,d3⟩)
    ·have bn:=al.next I a9 N (fun ad e=>by obtain⟨b8,o8,e8,c9,-⟩:=al.gl.cells O;rw[e8]at e;cases e;exact c9) (d6.o _ _ V);have ca:=H (ax.below I);have b7:=H (L8 a9 I.size);have cb:=H bn;have cf:=H V;clear hy hR d0 d1 P S I N bn V
     gi_wp2
     go_wp2_with fail
     go_roundg (s.gaps.length-k-1)
     case measure=>omega
     case rel=>exact⟨k+1,((U,y2)::t),(some ⟨b,off,none⟩),c,Kb,O,by first | rfl | simp,Z,ca.o,Kc,⟨_,am.o⟩,fun i h b5=>ba.o i h O,cb.o,cf.o,b7.o⟩
    clear hy hR d0 d1 P S
    gi_wp2
    go_wp2_with fail;refine Lm (LV Z _ _ _) Z ?_;exact⟨⟨_,Z⟩,.inr ⟨k,hk,d3⟩⟩
  obtain rfl:k=s.gaps.length:=O
  go_wp2_with fail
  go_end0
  exact⟨⟨_,Z⟩,.inl G.o⟩
end
section
open Go.RowKit Go.Shelf
def Bq (A:Option Nat)(W:World)(b:Nat):Prop:=∃x v,A=some x/\W.cell? x=some v/\v.ownBlock=some b
def nf (A:Option Nat)(N:Nat)(W W':World):Prop:=∀b,b<W.heap.size->N<=b->¬Bq A W b->W'.heap[b]? =W.heap[b]? /\¬Bq A W' b
theorem nf.trans {A:Option Nat}{N:Nat}{W a c:World}(h:nf A N W a)(k:nf A N a c)(hs:W.heap.size<=a.heap.size):nf A N W c:=fun b h1 h2 d=>by
 obtain⟨e,f⟩:=h b h1 h2 d;obtain⟨g,i⟩:=k b O h2 f;exact⟨g.trans e,i⟩
theorem nf.refl (A:Option Nat)(N:Nat)(W:World):nf A N W W:=fun _ _ _ h=>⟨Z,h⟩
theorem js {A:Option Nat}{W W':World}{b:Nat}(h:∀x,A=some x->W'.cell? x=W.cell? x):Bq A W' b->Bq A W b:=by
 rintro⟨x,v,e,a,c⟩;exact⟨x,v,e,by rw[<-h x e];exact a,c⟩
theorem nf.alloc {A:Option Nat}{N:Nat}{W:World}(hA:∀x,A=some x->x<W.heap.size)(o:Obj):nf A N W (W.alloc o):=fun b h1 _ c =>
 ⟨Me W o b h1,fun h=>c (js (fun x e=>Lg (a:=⟨x,0,none⟩) (Me W o x (hA x e))) h)⟩
theorem nf.below {A:Option Nat}{N:Nat}{W W':World}(hA:∀x,A=some x->x<W.heap.size)(c:Below W.heap.size W W'):nf A N W W':=fun b h1 _ d =>
 ⟨c.block b h1,fun h=>d (js (fun x e=>Lg (a:=⟨x,0,none⟩) (c.block x (hA x e))) h)⟩
theorem nf.putObj {A:Option Nat}{N l:Nat}{W:World}(hA:∀x,A=some x->x≠l)(hl:l<N)(o:Obj):nf A N W (W.putObj l o):=fun b h1 h2 c =>
 ⟨World.putObj_heap_other O,fun h=>c (js (fun x e=>Lg (a:=⟨x,0,none⟩) (World.putObj_heap_other (hA x e))) h)⟩
def yU (A:Option Nat)(B n₀:Nat)(I:Nat->World->Prop)(k:Nat)(W:World):Exit->Act->World->Prop
 | .normal,_,W'=>KeepsFrom B W W'/\Below n₀ W W'/\nf A (B+2) W W'/\I (k+1) W'
 | _,_,_=>False
set_option maxHeartbeats 1000000 in
theorem uI {g:Operand} {ps:Array Tmp} {assign body:Code} {Q:Exit->Act->World->Prop} {a:Act} {w:World} {n n₀ C M B:Nat} (hn:2<=n)
  {s:Sc} (ok:s.Ok) {m:Int} {sa:Option Addr} {sc:Nat} (hg:a.eval g= .func (.func 180) #[] #[C,M])
  {p q:Tmp} (a1:ps= #[p,q]) (hG:Gv n₀ C M B s m sa sc w) (A:Option Nat) (hA:∀x,A=some x->x<w.heap.size)
  (I:Nat->World->Prop) (hI:OwnFrom w.heap.size I) (a2:∀k W W',I k W->Below W.heap.size W W'->I k W') (a4:∀k W b,I k W->Bq A W b->b<W.heap.size) (a5:∀k W,I k W->W.cell? C=some (B:Y)/\W.cell? M=some (m:Y)) (h0:I 0 w)
  (G:∀l k (h:k<s.gaps.length) W,w.heap.size<=l->w.heap.size+2<=W.heap.size->I k W ->
   assign.wpIn (Fence.wide.inRound l) (n-1-1) Tryz.prog (Exit.then (fun a' W'=>KeepsFrom w.heap.size W W'/\Below n₀ W W'/\nf A (w.heap.size+2) W W'/\∃Ax:Unit->World->Prop,OwnFrom w.heap.size Ax/\Ax () W'/\∀W2,Ax () W2->body.wpIn (Fence.wide.inRound l) (n-1-1) Tryz.prog (yU A w.heap.size n₀ I k W2) a' W2) (fun _ _ _=>False))
    { tmps:=(a.tmps.setIfInBounds p (.agg #[s.gaps[k].1,s.gaps[k].2])).setIfInBounds q (.agg #[(s.mm m s.gaps[k]).1,(s.mm m s.gaps[k]).2]),defers:=[] } W)
  (L:∀(d:Nat) (W:World),w.heap.size<=d->I s.gaps.length W->W.heap[d]? =some (.deferred (some []))->Q .normal { a with defers:={ target:=.collected d,args:= #[] }::a.defers } W) :
  (Code.rangeFunc g ps assign body).wpIn Fence.wide n Tryz.prog Q a w:=by
 subst a1;have d7:n₀<=w.heap.size:=hG.hz;refine wpIn_rangeFunc (fun fn b3=> ?_);obtain⟨f,o⟩:∃f:LoopState->Option Code->Loop,f=fun st pe=>{ state:=st,pending:=pe,fn:=fn,tmps:=a.tmps,params:= #[p,q],assign:=assign,body:=body,defers:=w.heap.size }:=⟨_,Z⟩;obtain⟨u,j⟩:∃u,u=(w.alloc (.deferred (some []))).alloc (.loop (f .ready none)):=⟨_,Z⟩;have hz:u.heap.size=w.heap.size+2:=by rw[j];simp
 have ex:u.heap[w.heap.size+1]? =some (.loop (f .ready none)):=by
  have:=World.alloc_heap_new (w.alloc (.deferred (some []))) (.loop (f .ready none));rw[LX]at this;rw[j];exact this
 have a6:u.heap[w.heap.size]? =some (.deferred (some [])):=by
  rw[j];exact(Me _ _ _ (by simp)).trans (World.alloc_heap_new w _)
 have b4:Below n₀ w u:=by rw[j];exact((L3 n₀ w).alloc d7 _).alloc (by simp;omega) _
 have d8:Below w.heap.size w u:=by rw[j];exact((L3 w.heap.size w).alloc (L4 _) _).alloc (by simp) _
 have ey:I 0 u:=by rw[j];exact hI.alloc _ (hI.alloc _ h0)
 refine⟨w.heap.size+1,[{ target:=.collected w.heap.size,args:= #[] }],u,{ target:=.fn (.func 180) #[C,M],args:= #[.func (.yield (w.heap.size+1)) #[] #[]] },u,180,#[.func (.yield (w.heap.size+1)) #[] #[],C,M],u,?_,?_,fun _ _=>trivial,?_,fun _=>by omega,?_⟩
 ·rw[j,o];exact run_enterLoop_outer _ _ _ _ _
 ·simp only[resolve,hg]
  simp[go_sem]
 ·simp[invoke,go_sem]
 have a7:=ve (n-1) (by omega) (w.heap.size+1) n₀ C M B s ok m sa sc u (Bq A)
  (fun k W=>I k W/\W.heap[w.heap.size+1]? =some (.loop (f .ready none))/\W.heap[w.heap.size]? =some (.deferred (some [])))
  (fun _ _=>False) ?_ ?_ (fun k W h=>a5 k W h.1) (hG.below d8) ⟨ey,ex,a6⟩
 ·refine a7.mono ?_;rintro e W2⟨⟨v,rfl⟩,(⟨hi,F,T⟩ | ⟨k,hk,hi⟩)⟩
  ·have K:=run_endLoop (P:=Tryz.prog) F (by rw[o];simp);have f4:(f .ready none).pending=none:=by rw[o]
   rw[f4]at K;exact⟨none,_,K,L w.heap.size _ (L4 _) (hI.putObj _ hi (by omega) F Z) ((World.putObj_heap_other (by omega)).trans T)⟩
  exact hi.elim
 ·rintro k W W' ⟨hi,F,T⟩ J;refine⟨⟨a2 k W W' hi J,(J.block _ (L6.1 F).1).trans F,(J.block _ (L6.1 T).1).trans T⟩,fun b hc=> ?_⟩;have X:Bq A W b:=js (fun x e=>Lg (a:=⟨x,0,none⟩) (J.block x (by have:=hA x e;have:=(L6.1 F).1;omega))) hc;exact⟨X,a4 k W b hi X⟩
 rintro k hk W⟨hi,F,T⟩;have d9:w.heap.size+2<=W.heap.size:=by have:=(L6.1 F).1;omega
 subst o;have f5:∀x y:Value,(#[p,q].zip #[x,y]).foldl (fun t (z:Tmp×Value)=>t.setIfInBounds z.1 z.2) a.tmps=(a.tmps.setIfInBounds p x).setIfInBounds q y:=fun x y=>by simp
 refine ge (r:={ state:=.ready,pending:=none,fn:=fn,tmps:=a.tmps,params:= #[p,q],assign:=assign,body:=body,defers:=w.heap.size }) (B:=w.heap.size) Z Z Z F (by omega) (N5 (a:={ tmps:=_,defers:=[] }) (by dsimp only;rw[f5];exact G (w.heap.size+1) k hk W (by omega) d9 hi) ?_);intro e a' W' he
 cases e with
 | normal =>
  obtain⟨N,J,hf,Ax,f6,f7,f8⟩:=he;have S:=N.same _ _ (by omega) F Z;have a9:=N.same _ _ (L4 _) T Z;have b0:=(L6.1 S).1;refine⟨N,N5 (f8 _ (f6.putObj (s:=()) _ f7 (by omega) S Z)) ?_⟩;intro e3 a3 U V;have fin:∀(U:World),KeepsFrom w.heap.size (W'.putObj (w.heap.size+1) (.loop { state:=.busy,pending:=none,fn:=fn,tmps:=a.tmps,params:= #[p,q],assign:=assign,body:=body,defers:=w.heap.size })) U->U.heap[w.heap.size+1]? =some (.loop { state:=.busy,pending:=none,fn:=fn,tmps:=a.tmps,params:= #[p,q],assign:=assign,body:=body,defers:=w.heap.size })/\U.heap[w.heap.size]? =some (.deferred (some [])):=fun U E=>And.intro (E.same _ _ (by omega) (World.putObj_heap_same b0) Z) (E.same _ _ (L4 _) ((World.putObj_heap_other (by omega)).trans a9) Z);have ea:∀x,A=some x->x≠w.heap.size+1:=fun x e=>by have:=hA x e;omega
  cases e3 with
  | normal =>
   obtain⟨E,a0,b1,f9⟩:=V;obtain⟨da,b2⟩:=fin U E;have dc:=(L6.1 da).1;refine⟨E,.inl ⟨Z,⟨hI.putObj _ f9 (by omega) da Z,World.putObj_heap_same dc,(World.putObj_heap_other (by omega)).trans b2⟩,((J.trans (belowK_b (w:=w) d7 _ _ _ _ (by omega) S Z Z)).trans a0).trans (belowK_b (w:=w) d7 _ _ _ _ (by omega) da Z Z),?_⟩⟩;rw[hz];refine(((hf.trans (nf.putObj ea (by omega) _) J.size).trans b1 ?_).trans (nf.putObj ea (by omega) _) ?_)
   ·rw[World.putObj_size];exact J.size
   refine L8 (L8 J.size ?_) a0.size;rw[World.putObj_size];exact L4 _
  | ret=>exact V.elim
  | exit i=>exact V.elim
  | goto t=>exact V.elim
  | panic c=>exact V.elim
  | outgrown=>exact V.elim
 | ret=>exact he.elim
 | exit i=>exact he.elim
 | goto t=>exact he.elim
 | panic c=>exact he.elim
 | outgrown=>exact he.elim
end
section
set_option maxRecDepth 100000
open Go.RowKit Go.Shelf
attribute [local go_sem] Oper.semAt_some
def au (C M B:Nat)(m:Int)(W:World):Prop:=At C 0 B W/\At M 0 m W
theorem uJ (B:Nat)(m:Int)(w:World):Calls Tryz.prog 165 #[B,m] w fun e w' =>
  e= .returned (.func (.func 180) #[] #[w.heap.size,.pointer (some ⟨w.heap.size+1,0,none⟩)])/\au w.heap.size (w.heap.size+1) B m w'/\w'.heap.size=w.heap.size+2/\Below w.heap.size w w':=by
 have a:=((L3 w.heap.size w).alloc (L4 _) (.cells #[B] 74)).alloc FE (.cells #[m] 3);have b:au w.heap.size (w.heap.size+1) B m ((w.alloc (.cells #[B] 74)).alloc (.cells #[m] 3)):=⟨(At.new _ Z Z).alloc _,At.new _ FE Z⟩;have c:=H a;have d:=H b;clear a b
 go_enter Tryz.func165,Tryz.ntmps165
 go_wp2;go_ret;exact⟨Z,d.o,FE,c.o⟩
theorem au.own {C M B:Nat}{m:Int}{A a:World}{row:Option Nat}(h:au C M B m A)(b:A.grownBy a row)(hr:∀r,row=some r->∃o:Obj,A.heap[r]? =some o/\o.isCells=false):au C M B m a:=⟨h.1.own b hr,h.2.own b hr⟩
theorem au.alloc {C M B:Nat}{m:Int}{W:World}(h:au C M B m W)(o:Obj):au C M B m (W.alloc o):=⟨h.1.alloc o,h.2.alloc o⟩
theorem au.below {C M B:Nat}{m:Int}{W W':World}(h:au C M B m W)(a:Below W.heap.size W W'):au C M B m W':=⟨h.1.below a h.1.lt,h.2.below a h.2.lt⟩
theorem au.ob {C M B:Nat}{m:Int}{W:World}(h:au C M B m W){X i:Nat}(v:Value)(h1:X≠C)(h2:X≠M):au C M B m (W.setCell ⟨X,i,none⟩ v):=⟨h.1.ob v h1,h.2.ob v h2⟩
theorem C1 {B lb C M:Nat}{s:Sc}{m:Int}{w W:World}(h:bK B lb s w)(a:Below w.heap.size w W)(c:au C M B m W):∃b sc,Gv w.heap.size C M B s m b sc W:=by
 obtain⟨b,sc,j,k,e,f,g,i,l,d,lg⟩:=h.ats;exact⟨b,sc,c.1.1,c.2.1,(e.below a h.lt).1,(f.below a h.lt).1,(g.below a h.lt).1,(i.below a h.lt).1,d.1.below a,d.2.1,h.lt,a.size⟩
theorem vf {s:Sc}{m:Int}{L:List Sp}{k:Nat}(h:k<L.length):iw s m (L.take (k+1))=iw s m (L.take k)+(L[k].2-L[k].1-((s.mm m L[k]).2-(s.mm m L[k]).1)):=by
 induction L generalizing k with
 | nil=>simp at h
 | cons x L a =>
  cases k with
  | zero=>simp[iw]
  | succ k =>
   have:=a (k:=k) IT;simp only[N9,iw,NG,this];omega
theorem Aa (s:Sc)(m:Int){e:Int}{L:List Sp}(h:aJ e L=true):0<=iw s m L/\iw s m L<=aD L:=by
 induction L generalizing e with
 | nil=>exact⟨L9 _,L9 _⟩
 | cons x l a =>
  have h0:=aB.1 h;obtain⟨b,f2,f3⟩:=dU s m (g:=x) O;have:=a h0.2;show 0<=x.2-x.1-((s.mm m x).2-(s.mm m x).1)+iw s m l/\x.2-x.1-((s.mm m x).2-(s.mm m x).1)+iw s m l<=x.2-x.1+aD l;omega
def Br (S C M B:Nat)(s:Sc)(m:Int)(w:World)(k:Nat)(W:World):Prop:=At S 0 (aD s.ag+iw s m (s.gaps.take k):Int) W/\au C M B m W/\Below w.heap.size w W
theorem qz {S C M B:Nat}{s:Sc}{m:Int}{w:World}{N:Nat}(c:w.heap.size<=N):OwnFrom N (Br S C M B s m w):=fun _ _ _ _ h a b=>⟨h.1.own a (fun r e=>(b r e).2),h.2.1.own a (fun r e=>(b r e).2),ek h.2.2 a b (L4 _) c⟩
set_option maxHeartbeats 2000000 in
theorem vg (M0 C0 B lb:Nat) (s:Sc) (m:Int) (w:World) (ok:s.Ok) (cM:w.cell? M0=some (m:Y)) (cC:w.cell? C0=some (B:Y)) (h:bK B lb s w) :
  Calls Tryz.prog 182 #[M0,C0] w fun e w'=>∃v,e= .returned v/\v=(s.pipe m:Y)/\Below w.heap.size w w':=by
 have ak:=H ok;have HS:=H h;have T:=Lj cM;have U:=Lj cC;dsimp only at T U;obtain⟨sa,sc,ga,gc,-,-,-,-,⟨c4,-⟩,-,lg⟩:=h.ats;have dT:=H lg;clear ok h lg;refine(MB (n:=4)).1 ?_;refine callsIn_of_wp_marks Tryz.func182 Z trivial ?_ Z;simp only[Tryz.ntmps182,LG,Lx,M1,Nat.reduceAdd,Nat.reduceSub,M8,M7,Mk,Mf,LD,LQ];refine M9.2 ?_;by_cases hm:m<1
 ·go_wp2_with fail;refine gH Z ⟨_,Z,?_,L3 _ _⟩;show Value.int .i64 0=_;unfold Sc.pipe;rw[L7 hm]
 have eb:1<=m:=O
 have am:=H (show dw s.ag=aD s.ag by unfold dw;rw[L7 ak.Fs]);have b0:=aN ak.Fs;go_wp2_with fail;refine(ep w w.heap.size ga gc s.ag dT.1 (L4 _)).mono ?_;rintro e u⟨rfl,c⟩;rw[am.o];have ec:=bQ cM T c;have ed:=bQ cC U c;have f:=c.size;have eg:=H c;clear c c4;obtain⟨S,V⟩:∃S,S=u.heap.size:=⟨_,Z⟩;have X:=bi u (.cells #[(aD s.ag)] 3);have di:=bQ ec (Lb T f) X;have dk:=bQ ed (Lb U f) X;clear X;go_wp2_with fail;refine(uJ B m _).mono ?_;rintro e J⟨rfl,K,a0,j⟩;have cF:At S 0 (aD s.ag) J:=(At.new (W:=u) (i:=0) (v:=.int .i64 (aD s.ag)) (vs:= #[(aD s.ag)]) 3 V Z).below j IH;have be:Below w.heap.size w J:=(eg.alloc f _).trans (j.mono IH);obtain⟨fa,fb,cg⟩:=C1 HS.o be K;have L:=H cg;have cL:=H cF;have d2:=H be;have M:=H K;have dl:=cF.lt;have ch:S≠(u.alloc (.cells #[(aD s.ag)] 3)).heap.size:=IH
 have ci:S≠(u.alloc (.cells #[(aD s.ag)] 3)).heap.size+1:=IH
 have ei:w.heap.size<=S:=O
 have dn:=K.1.lt;generalize (u.alloc (.cells #[(aD s.ag)] 3)).heap.size=C at ch ci M L dn|-;clear cg cF be K j ec ed di dk a0;rw[<-V];clear V eg;have a1:=dl;go_wp2_with fail;refine(M9 (n:=4)).1 ?_;refine uI (n₀:=w.heap.size) O ak.o Z Z L.o none (fun _ e=>by cases e) (Br S C (C+1) B s m w) (qz O) (fun k W W' h hb=>⟨h.1.below hb h.1.lt,h.2.1.below hb,h.2.2.trans (hb.mono h.2.2.size)⟩) (fun k W b _ hc=>by obtain⟨x,v,e,-⟩:=hc;cases e) (fun k W h=>⟨h.2.1.1.1,h.2.1.2.1⟩) ?start ?round ?done
 case start =>
  refine⟨?_,M.o,d2.o⟩;rw[Nr];show At S 0 (aD s.ag+0:Int) J;rw[Int.add_zero];exact cL.o
 case round =>
  intro l k hk W hl d9 q;have E:=q.2.2.size;have z:=H q;have P:=H (vf (s:=s) (m:=m) hk);have b1:=Aa s m (fR (bq s) k);have b2:=(aN (fR (bq s) k)).2.2;have b3:=fD (bq s) hk;have F:=dU s m (g:=s.gaps[k]) O;clear q cL M L;generalize s.mm m s.gaps[k]=y at P F|-;generalize s.gaps[k]=x at P b3 F|-;obtain⟨x1,x2⟩:=x;obtain⟨y1,y2⟩:=y;dsimp only at P b3 F|-;obtain⟨dp,F⟩:=F;replace dp:=dp.symm;subst dp
  gi_wp2
  refine⟨((KeepsOthers.alloc _ _).trans (KeepsOthers.alloc _ _)).from _,((L3 _ W).alloc E _).alloc IH _,(nf.alloc (fun _ e=>by cases e) _).trans (nf.alloc (fun _ e=>by cases e) _) FE,fun _ t=>Br S C (C+1) B s m w k t/\At W.heap.size 0 x1 t/\At W.heap.size 1 x2 t/\At (W.heap.size+1) 0 x1 t/\At (W.heap.size+1) 1 y2 t,?_,⟨⟨(z.1.alloc _).alloc _,(z.2.1.alloc _).alloc _,(z.2.2.alloc E _).alloc IH _⟩,(At.new _ Z Z).alloc _,(At.new _ Z Z).alloc _,At.new _ FE Z,At.new _ FE Z⟩,?_⟩
  ·intro _ A A' row h G hr;have d:=fun r e=>(hr r e).2;exact⟨qz (N:=J.heap.size) O _ _ _ _ h.1 G hr,h.2.1.own G d,h.2.2.1.own G d,h.2.2.2.1.own G d,h.2.2.2.2.own G d⟩
  rintro t⟨cS,⟨c0,-⟩,⟨c1,-⟩,⟨d0,-⟩,⟨d1,-⟩⟩;obtain⟨s0,fs⟩:=cS.1;have ab:=H cS;clear cS z
  gi_wp2
  refine⟨(KeepsOthers.setCell _ _ _).from _,(L3 _ t).setCell (p:=⟨S,0,none⟩) ei _,fun b h1 h2 h3=>⟨Below.heap_setCell _ ⟨S,0,none⟩ _ b (by show b≠S;omega),fun⟨x,v,e,_⟩=>by cases e⟩,?_,ab.2.1.ob _ ch ci,ab.2.2.setCell (p:=⟨S,0,none⟩) ei _⟩;rw[P.o,<-Int.add_assoc];exact ab.1.set _
 case done =>
  intro a W hD q I;obtain⟨s0,fs⟩:=q.1;have z:=H q;have HD:=H I;have ds:w.heap.size<=a:=O
  clear q I hD cL M L;go_wp2_with fail;refine dy Z HD.o ⟨_,Z,?_,dO z.2.2 (L4 _) ds⟩;show Value.int .i64 (aD s.ag+iw s m s.gaps)=_;unfold Sc.pipe;rw[L5 O]
theorem me (B lb:Nat)(s:Sc)(m:Int)(w:World)(ok:s.Ok)(h:bK B lb s w) :
  Calls Tryz.prog 167 #[B,m] w fun e w'=>e= .returned (s.pipe m)/\Below w.heap.size w w':=by
 have a:=(bi w (.cells #[B] 74)).alloc FE (.cells #[m] 3);have c:=H (vg (w.heap.size+1) w.heap.size B lb s m ((w.alloc (.cells #[B] 74)).alloc (.cells #[m] 3)) ok (At.new (W:=w.alloc (.cells #[B] 74)) (vs:= #[m]) 3 FE Z).1 ((At.new (W:=w) (vs:= #[B]) 74 Z Z).alloc (.cells #[m] 3)).1 (h.below a));have b:=H a;clear a h
 go_enter Tryz.func167,Tryz.ntmps167
 go_wp2_with fail;refine(qo _ _ _ _ c.o).mono ?_;rintro e d⟨v,rfl,rfl,a⟩;have cn:=H (b.trans (a.mono b.size));clear a b c;go_wp2;go_ret;exact⟨Z,cn.o⟩
end
section
open Go.RowKit Go.Shelf
attribute [local go_sem] Oper.semAt_some
theorem pR {s:Sc}{m:Int}{L:List Sp}{k:Nat}(h:k<L.length):bD ((L.take (k+1)).map (s.mm m))=bD ((L.take k).map (s.mm m))++(if(s.mm m L[k]).1<(s.mm m L[k]).2 then [s.mm m L[k]]else []):=by
 rw[Lv h,LN];unfold bD;rw[Mq,M6,Mp]
 congr 1
 by_cases a:(s.mm m L[k]).1<(s.mm m L[k]).2
 ·rw[L7 a,MQ Ja];rfl
 rw[L5 a,MR Ja];rfl
theorem lT (s:Sc)(m:Int)(L:List Sp):(bD (L.map (s.mm m))).length<=L.length:=by
 unfold bD;exact L8 (M5 _ _) (by rw[LI];exact L4 _)
def C2 (A0 N C M B:Nat)(s:Sc)(m:Int)(w:World)(k:Nat)(W:World):Prop :=
 ∃v,At A0 0 v W/\aH W N v (bD ((s.gaps.take k).map (s.mm m)))/\au C M B m W/\Below w.heap.size w W
theorem yV {A0 a C M B:Nat}{s:Sc}{m:Int}{w:World}{N:Nat}(b:w.heap.size<=N):OwnFrom N (C2 A0 a C M B s m w):=fun _ _ _ _ ⟨v,h1,h2,h3,h4⟩ hg hr =>
 ⟨v,h1.own hg (fun r e=>(hr r e).2),h2.own hg (fun r e=>(hr r e).2),h3.own hg (fun r e=>(hr r e).2),ek h4 hg hr (L4 _) b⟩
set_option maxHeartbeats 2000000 in
theorem vh (M0 X B lb:Nat) (s:Sc) (m:Int) (w:World) (ok:s.Ok) (cM:w.cell? M0=some (m:Y)) (cC:w.cell? X=some (B:Y)) (h:bK B lb s w) :
  Calls Tryz.prog 164 #[M0,X] w fun e w'=>∃v,e= .returned v/\aH w' w.heap.size v (s.lost m)/\Below w.heap.size w w':=by
 have ak:=H ok;have HS:=H h;have bx:=Lj cM;have bo:=Lj cC;dsimp only at bx bo;clear ok h;refine(MB (n:=4)).1 ?_;refine callsIn_of_wp_marks Tryz.func164 Z trivial ?_ Z;simp only[Tryz.ntmps164,LG,Lx,M1,Nat.reduceAdd,Nat.reduceSub,M8,M7,Mk,Mf,LD,LQ];refine M9.2 ?_;by_cases hm:m<1
 ·go_wp2_with fail;refine gH Z ⟨_,Z,?_,L3 _ _⟩;unfold Sc.lost;rw[L7 hm];exact aH.nil _ _
 have eb:1<=m:=O
 have bz:=bi w (.cells #[.slice none 0 0] 51);have di:=bQ cM bx bz;have dk:=bQ cC bo bz;clear bz;go_wp2_with fail;refine(uJ B m _).mono ?_;rintro e N⟨rfl,z,b2,P⟩;have cF:At w.heap.size 0 (.slice none 0 0) N:=(At.new (W:=w) (i:=0) (v:=.slice none 0 0) (vs:= #[.slice none 0 0]) 51 Z Z).below P FE;have be:Below w.heap.size w N:=((L3 _ w).alloc (L4 _) _).trans (P.mono FE);have fd:=bQ cM bx be;have fe:=bQ cC bo be;obtain⟨fa,fb,cg⟩:=C1 HS.o be z;have bk:=H cg;have cL:=H cF;have d2:=H be;have bl:=H z;have dl:=cF.lt;have ch:w.heap.size≠(w.alloc (.cells #[.slice none 0 0] 51)).heap.size:=FE
 have ci:w.heap.size≠(w.alloc (.cells #[.slice none 0 0] 51)).heap.size+1:=IH
 have dn:=z.2.lt;generalize (w.alloc (.cells #[.slice none 0 0] 51)).heap.size=C at ch ci bl bk dn|-;clear cg cF be z P di dk b2 cM;go_wp2_with fail;refine(M9 (n:=4)).1 ?_
 refine uI (n₀:=w.heap.size) O ak.o Z Z bk.o (some w.heap.size) (fun x e=>by cases e;exact dl) (C2 w.heap.size (N.heap.size+2) C (C+1) B s m w) (yV O) (fun k W W' ⟨v,h1,h2,S,h4⟩ j=>⟨v,h1.below j h1.lt,h2.FO j,S.below j,h4.trans (j.mono h4.size)⟩)
  (fun k W b ⟨v,h1,h2,S,h4⟩ T=>by obtain⟨x,v',e,T,K⟩:=T;cases e;rw[h1.1]at T;cases T;exact(h2.lt b K).2) (fun k W ⟨v,h1,h2,S,h4⟩=>⟨S.1.1,S.2.1⟩) ?start ?round ?done
 case start=>exact⟨_,cL.o,aH.nil _ _,bl.o,d2.o⟩
 case round =>
  rintro l k hk W hl d9⟨v,hA,L,z,M⟩;have a2:=M.size;have U:=H (show At w.heap.size 0 v W/\aH W (N.heap.size+2) v (bD ((s.gaps.take k).map (s.mm m)))/\au C (C+1) B m W/\Below w.heap.size w W from⟨hA,L,z,M⟩);have HT:=H (pR (s:=s) (m:=m) hk);have el:=lT s m (s.gaps.take k);have b3:=mH s;rw[Le]at el;clear hA L z M cL bl bk;generalize bD ((s.gaps.take k).map (s.mm m))=a at U HT el;generalize s.mm m s.gaps[k]=y at HT|-;generalize s.gaps[k]=x;obtain⟨x1,x2⟩:=x;obtain⟨y1,y2⟩:=y;dsimp only at HT|-;have ff:=U.1.lt
  gi_wp2
  refine⟨(KeepsOthers.alloc _ _).from _,(L3 _ W).alloc a2 _,nf.alloc (fun x e=>by cases e;exact ff) _,fun _ g=>(At w.heap.size 0 v g/\aH g (N.heap.size+2) v a/\au C (C+1) B m g/\Below w.heap.size w g)/\At W.heap.size 0 y1 g/\At W.heap.size 1 y2 g,?_,⟨⟨U.1.alloc _,U.2.1.alloc _,U.2.2.1.alloc _,U.2.2.2.alloc a2 _⟩,At.new _ Z Z,At.new _ Z Z⟩,?_⟩
  ·intro _ A A' row h V hr;have q:=fun r e=>(hr r e).2;exact⟨⟨h.1.1.own V q,h.1.2.1.own V q,h.1.2.2.1.own V q,ek h.1.2.2.2 V hr (L4 _) O⟩,h.2.1.own V q,h.2.2.own V q⟩
  rintro g⟨cS,⟨c0,-⟩,⟨c1,-⟩⟩;obtain⟨a0,f0⟩:=cS.1;have d:=H cS;clear cS U;by_cases hy:y1<y2
  ·have b5:W.heap.size<g.heap.size:=Lj c0
   gi_wp2_with (first | (gi_at_builtin;refine eO _ Z _ _ Z (N.heap.size+2) _ _ Z (d.2.1.alloc _) O g.heap.size (y1,y2) Z FE FE IH ?_))
   intro v' w' K f a3;obtain⟨fq,fr,a4,-⟩:=K.at Jb;have b4:At w.heap.size 0 v w':=(d.1.alloc _).grown f (fun e=>by have:=(d.2.1.lt _ e).1;omega);have d3:au C (C+1) B m w':=⟨(d.2.2.1.1.alloc _).grown f (fun e=>by have:=(d.2.1.lt _ e).1;omega),(d.2.2.1.2.alloc _).grown f (fun e=>by have:=(d.2.1.lt _ e).1;omega)⟩;have t:Below w.heap.size g w':=((L3 w.heap.size g).alloc O _).trans (aR f IH (fun b e=>by have:=(d.2.1.lt _ e).1;omega));have E:=((KeepsOthers.alloc g (.cells #[y1,y2] 149)).trans (cz (d.2.1.alloc _) f))
   have F:v'.ownBlock≠some w.heap.size:=by
    intro e;have:=(K.lt _ e).1;omega
   obtain⟨a1,f1⟩:=b4
   have d4:nf (some w.heap.size) (N.heap.size+2) g (w'.setCell w.heap.size v'):=by
    intro b h1 h2 S;have a5:v.ownBlock≠some b:=fun e=>S ⟨_,_,Z,d.1.1,e⟩;refine⟨(Below.heap_setCell _ ⟨w.heap.size,0,none⟩ _ b (by show b≠w.heap.size;omega)).trans ((f.block b IH (fun e=>a5 e.symm)).trans (Me _ _ _ h1)),?_⟩;rintro⟨x,u,e,T,G⟩
    cases e
    rw[Nx _ _ _ a1]at T
    cases T
    rcases a3 with h | ⟨kk,h,hk⟩
    ·rw[h]at G;exact a5 G
    rw[h]at G;cases G;omega
   have HN:=H (And.intro K (And.intro F (And.intro d3 (And.intro t (And.intro E d4)))));have em:=d.2.2.2;have cn:=H em;have HF:=H f1;clear K f a3 a0 f0 c0 c1 d3 t E d4 F em d;generalize (a++[(y1,y2)]).length=nl at a4;subst a4
   gi_wp2_with fail
   obtain⟨K,F,d3,t,E,d4⟩:=HN.o;refine⟨(E.trans (KeepsOthers.setCell _ _ _)).from _,t.setCell (p:=⟨w.heap.size,0,none⟩) (L4 _) _,d4,_,(show At w.heap.size 0 v w' from⟨a1,HF.o⟩).set _,?_,d3.ob _ ch ci,(cn.trans t).setCell (p:=⟨w.heap.size,0,none⟩) (L4 _) _⟩;rw[HT.o,L7 hy];exact K.setCell _ _ _ F
  gi_wp2
  refine⟨KeepsFrom.refl _ _,L3 _ _,nf.refl _ _ _,v,d.1,?_,d.2.2⟩;rw[HT.o,L5 O,LM];exact d.2.1
 case done =>
  rintro c W hD⟨v,hA,L,z,M⟩ a6;rw[LS]at L;have cq:=H (fE s m).1;have a7:=lT s m s.gaps;have b3:=mH s;have a9:=H (show s.lost m=dx (s.all m) s.ag from lu eb);rw[show bD (s.gaps.map (s.mm m))=s.all m from Z]at L a7;generalize s.all m=VL at L a7 cq a9;obtain⟨va,vc,rfl,b0,-,-⟩:=L.at O;obtain⟨ft,fu,ga,gc,-,-,-,-,q4,-,lg⟩:=(HS.below M).ats;have dT:=H lg;have bu:=H b0;have HB:=H M;have HD:=H a6;have ds:w.heap.size<=c:=O
  have hK:=(show(fun W:World=>W.cell? w.heap.size=some (.slice va VL.length vc)/\W.cell? X=some (B:Y)/\W.cell? ⟨B,4,none⟩=some (.slice ga s.ag.length gc)) W from⟨hA.1,bQ cC bo M,q4.1⟩);clear hA L z M a6 hD cL bl bk d2 lg b0 q4 fd fe;go_wp2_with fail;refine wp_mono (Q:=gf _) ?_ (jK _);refine az (fun W:World=>W.cell? w.heap.size=some (.slice va VL.length vc)/\W.cell? X=some (B:Y)/\W.cell? ⟨B,4,none⟩=some (.slice ga s.ag.length gc)) (hK) fun I=>?_;clear hK;refine aA 0 1 2 3 ?_;refine aQ 4 ?_;refine aZ 5 fun Kq b1=> ?_;go_simp;refine(iY W.drew W.heap.size va ga vc gc VL s.ag (-1) (-1) (bu.below (L3 _ W).drew) (dT.1.below (L3 _ W).drew) dT.2.1 (L4 _) cq.o ak.Fs).mono ?_;rintro e w5⟨r,rfl,hr,j⟩;have J:=j;replace j:Below W.heap.size W w5:=(L3 W.heap.size W).drew.trans j;have hK:=(show(fun W:World=>W.cell? w.heap.size=some (.slice va VL.length vc)/\W.cell? X=some (B:Y)/\W.cell? ⟨B,4,none⟩=some (.slice ga s.ag.length gc)) w5 from⟨bQ I.1 (Lj I.1) J,bQ I.2.1 (Lj I.2.1) J,bQ I.2.2 (Lj I.2.2) J⟩);have en:=H ((j.block c (L6.1 HD.o).1).trans HD.o);have fk:=H (HB.trans (j.mono HB.size));have HR:=H (hr.mono (show w.heap.size<=W.drew.heap.size from HB.size));clear hr j J;go_simp;refine b1.out _ _ (hK) ?_;clear b1 Kq I;refine fun I=>aW ?_;clear hK;refine aQ 6 ?_;refine ay ?_ _;clear I;simp only[gf];go_wp2_with fail
  try rw[Nl]
  refine dy Z en.o ⟨_,Z,?_,dO fk.o (L4 _) ds⟩;rw[a9.out];exact HR.own (grownBy_putObj' w5 c _) (fun r e=>by cases e;exact⟨_,en.o,Z⟩)
theorem jU (B lb:Nat)(s:Sc)(m:Int)(w:World)(ok:s.Ok)(h:bK B lb s w) :
  Calls Tryz.prog 133 #[B,m] w fun e w'=>∃v,e= .returned v/\aH w' w.heap.size v (s.lost m)/\Below w.heap.size w w':=by
 have a:=(bi w (.cells #[B] 74)).alloc FE (.cells #[m] 3);have c:=H (vh (w.heap.size+1) w.heap.size B lb s m ((w.alloc (.cells #[B] 74)).alloc (.cells #[m] 3)) ok (At.new (W:=w.alloc (.cells #[B] 74)) (vs:= #[m]) 3 FE Z).1 ((At.new (W:=w) (vs:= #[B]) 74 Z Z).alloc (.cells #[m] 3)).1 (h.below a));have b:=H a;clear a h
 go_enter Tryz.func133,Tryz.ntmps133
 go_wp2_with fail;refine(qp _ _ _ _ c.o).mono ?_;rintro e g⟨v,rfl,d,a⟩;have f:=H (d.mono b.size);have cn:=H (b.trans (a.mono b.size));clear d a b c;go_wp2;go_ret;exact⟨v,Z,f.o,cn.o⟩
end
end Go.Proofs.YtcmncipikdpnbaaGreatDoor
