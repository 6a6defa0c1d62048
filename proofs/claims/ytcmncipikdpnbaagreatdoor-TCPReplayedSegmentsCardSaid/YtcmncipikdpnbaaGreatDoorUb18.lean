import Derived.Test.YtcmncipikdpnbaaGreatDoorUb10
namespace Go.Proofs.YtcmncipikdpnbaaGreatDoor
section
set_option maxRecDepth 100000
open Go.RowKit Go.Shelf
theorem qW {e:Int}{L:List Sp}(h:aJ e L=true)(he:e<=1099511627776):e+2*L.length<=1099511627776:=by
 induction L generalizing e with
 | nil=>simp;omega
 | cons x l a =>
  rw[aB]at h;have:=a h.2 h.1.2.2.2;rw[LC];omega
theorem lI {L:List Sp}(h:aj L=true):2*L.length<=1099511627777:=by
 have:=qW (e:= -1) h O;omega
theorem aT {B i:Nat}{v:Value}{w w':World}(h:w.cell? ⟨B,i,none⟩=some v)(a:Below w.heap.size w w'):w'.cell? ⟨B,i,none⟩=some v :=
 (a.cell (p:=⟨B,i,none⟩) (Ll h)).trans h
structure Er (C X B lb:Nat)(s:Sc)(x1 x2:Int)(w W:World):Prop where
 cC:W.cell? C=some (B:Y)
 x0:W.cell? X=some (x1:Y)
 x1:W.cell? ⟨X,1,none⟩=some (x2:Y)
 hs:bL B lb s W
 Dj:nF B w W
 ne:C≠B/\X≠B
theorem Er.below {C X B lb:Nat}{s:Sc}{b c:Int}{w W W':World}(h:Er C X B lb s b c w W)(a:Below W.heap.size W W'):Er C X B lb s b c w W' :=
 ⟨aT h.cC a,aT h.x0 a,aT h.x1 a,h.hs.below a,h.Dj.trans (nF.of_below a),h.ne⟩
theorem Er.drew {C X B lb:Nat}{s:Sc}{a b:Int}{w W:World}(h:Er C X B lb s a b w W):Er C X B lb s a b w W.drew:=h.below (L5 _ _).drew
set_option maxHeartbeats 4000000 in
theorem jL (C X B lb:Nat) (s:Sc) (f g:Int) (w:World) (ok:s.Ok) (cC:w.cell? C=some (B:Y)) (h1:w.cell? X=some (f:Y)) (h2:w.cell? ⟨X,1,none⟩=some (g:Y))
  (ne:C≠B/\X≠B) (hs:bL B lb s w) :
  Calls Tryz.prog 170 #[C,X] w fun e w'=>∃v,e= .returned v/\v=(s.Eh (f,g):Y)/\bL B lb (s.ret (f,g)) w'/\nF B w w':=by
 have ak:=H ok;have d:=H (⟨cC,h1,h2,hs,nF.refl B w,ne⟩:Er C X B lb s f g w w);clear ok cC h1 h2 ne hs
 go_enter Tryz.func170,Tryz.ntmps170
 have cC:=d.cC;have cX:=d.x0;have cY:=d.x1;go_wp2_with fail;refine(jd B lb s (f,g) _ d.hs).mono ?_;rintro e w2⟨rfl,a⟩;replace d:=H (d.below a);clear a cC cX cY
 cases hib:s.EH (f,g)with
 | false =>
  go_wp2;go_ret;exact⟨_,Z,by unfold Sc.Eh;rw[L7 (by rw[hib];exact Bool.noConfusion)];rfl,by unfold Sc.ret;rw[L7 (by rw[hib];exact Bool.noConfusion)];exact d.hs,d.Dj⟩
 | true =>
  have cw:=H hib;clear hib;have S:=H (ak.Eo cw.o);go_wp2_with fail;obtain⟨E,F,n,p,⟨T,-⟩,-,-,⟨U,-⟩,-,-,-⟩:=d.hs.ats;refine az (fun W:World=>W.cell? C=some (B:Y)/\W.cell? X=some (f:Y)/\W.cell? ⟨X,1,none⟩=some (g:Y)/\W.cell? B=some (s.gi:Y)/\W.cell? ⟨B,3,none⟩=some (.slice E s.sk.length F)) (⟨d.cC,d.x0,d.x1,T,U⟩) fun b=>?_;clear T U;replace d:=H d.drew;obtain⟨k,V⟩:∃k,k=w2.drew:=⟨_,Z⟩;rw[<-V]at d b|-;clear V;obtain⟨er,es,n,p,-,-,-,⟨U,-⟩,-,bI,-⟩:=d.hs.ats;obtain⟨rfl,rfl⟩:E=er/\F=es:=by have:=b.2.2.2.2.symm.trans U;injection this with e;injection e with e1 e2 e3;exact⟨e1,e3⟩
  clear U;refine aA 0 4 8 1 ?_;refine aA 9 2 10 3 ?_;refine aQ 11 ?_;refine aY 5 fun l c=> ?_;go_simp;have a:=bg k (.cells #[f,g] 149)
  have hx:=(show sT (k.alloc (.cells #[f,g] 149)) (k.alloc (.cells #[f,g] 149)).heap.size (some ⟨k.heap.size,0,none⟩) [(f,g)]from⟨IK,fun _=>⟨k.heap.size,0,Z,IK,fun i hi=>by
   obtain rfl:i=0:=by simp at hi;omega
   exact⟨(At.new (W:=k) (vs:= #[f,g]) _ Z Z).1,(At.new (W:=k) (vs:= #[f,g]) _ Z Z).1⟩⟩⟩)
  have h:=(show(k.alloc (.cells #[f,g] 149)).cell? C=some (B:Y)/\(k.alloc (.cells #[f,g] 149)).cell? X=some (f:Y)/\(k.alloc (.cells #[f,g] 149)).cell? ⟨X,1,none⟩=some (g:Y)/\(k.alloc (.cells #[f,g] 149)).cell? B=some (s.gi:Y)/\(k.alloc (.cells #[f,g] 149)).cell? ⟨B,3,none⟩=some (.slice E s.sk.length F)from⟨aT b.1 a,aT b.2.1 a,aT b.2.2.1 a,aT b.2.2.2.1 a,aT b.2.2.2.2 a⟩);replace d:=H (d.below a);replace bI:=bI.below a;have G:=a.size;generalize et:k.heap.size=N0 at hx G|-;generalize k.alloc (.cells #[f,g] 149)=y1 at d hx h bI G|-;clear a et;refine c.out _ _ (h) ?_;clear c l b;refine fun b=>aW ?_;clear h;refine aY 6 fun l c=> ?_;go_simp;have a:=bg y1 (.cells #[.slice (some ⟨N0,0,none⟩) 1 1] 51)
  have j:jb y1.heap.size [(some ⟨N0,0,none⟩,1,[(f,g)])] (y1.alloc (.cells #[.slice (some ⟨N0,0,none⟩) 1 1] 51)):=⟨IK,fun i hi=>by
   obtain rfl:i=0:=by simp at hi;omega
   exact⟨(At.new (W:=y1) (vs:= #[.slice (some ⟨N0,0,none⟩) 1 1]) _ Z Z).1,(hx.below a).mono a.size⟩⟩
  have h:=(show(y1.alloc (.cells #[.slice (some ⟨N0,0,none⟩) 1 1] 51)).cell? C=some (B:Y)/\(y1.alloc (.cells #[.slice (some ⟨N0,0,none⟩) 1 1] 51)).cell? X=some (f:Y)/\(y1.alloc (.cells #[.slice (some ⟨N0,0,none⟩) 1 1] 51)).cell? ⟨X,1,none⟩=some (g:Y)/\(y1.alloc (.cells #[.slice (some ⟨N0,0,none⟩) 1 1] 51)).cell? B=some (s.gi:Y)/\(y1.alloc (.cells #[.slice (some ⟨N0,0,none⟩) 1 1] 51)).cell? ⟨B,3,none⟩=some (.slice E s.sk.length F)from⟨aT b.1 a,aT b.2.1 a,aT b.2.2.1 a,aT b.2.2.2.1 a,aT b.2.2.2.2 a⟩);replace d:=H (d.below a);replace bI:=bI.below a;generalize y1.alloc (.cells #[.slice (some ⟨N0,0,none⟩) 1 1] 51)=y2 at d j h bI|-;have cV:=H j;clear a hx j;refine c.out _ _ (h) ?_;clear c l b;refine fun b=>aW ?_;clear h;have z:=H (show dO [(some ⟨N0,0,none⟩,1,[(f,g)])]=[(f,g)] by simp[dO]);refine aY 7 fun l c=> ?_;go_simp;refine(gf s.gi _ 1 1 [(some ⟨N0,0,none⟩,1,[(f,g)])] y2 Z cV.o ak.u0 (by rw[z.o];intro y hy;rw[Ly.1 hy];have h1:=Sc.D7.1 cw.o;have h2:=ak.n40;unfold i7;dsimp only at h1|-;omega) (by rw[z.o];simp) O).mono ?_;rintro e I⟨v,rfl,m,a⟩;rw[z.o]at m;obtain⟨L,M,rfl,-⟩:=m.val;have q:=(bG.own m (bX S.1.1) (L6 _)).1;have h:=(show I.cell? C=some (B:Y)/\I.cell? X=some (f:Y)/\I.cell? ⟨X,1,none⟩=some (g:Y)/\I.cell? B=some (s.gi:Y)/\I.cell? ⟨B,3,none⟩=some (.slice E s.sk.length F)from⟨aT b.1 a,aT b.2.1 a,aT b.2.2.1 a,aT b.2.2.2.1 a,aT b.2.2.2.2 a⟩);replace d:=H (d.below a);replace bI:=bI.below a;clear m a cV z;go_simp;refine c.out _ _ (h) ?_;clear c l b;refine fun b=>aW ?_;clear h;refine aY 12 fun l c=> ?_;go_simp;refine(iT I I.heap.size L E M F (bN s.gi [(f,g)]) s.sk _ _ q.1 bI.1 bI.2.1 (L6 _) S.1.1 ak.Eg).mono ?_;rintro e N⟨v,rfl,m,a⟩;obtain⟨st,A⟩:∃st,st=dr (bN s.gi [(f,g)]) s.sk:=⟨_,Z⟩;rw[<-A]at m;have eB:=H (show aj st=true by rw[A];exact(fy S.1.1 ak.Eg).1);have d6:=H (show(∀y∈s.ag++st,i7 y)/\s.Di (f,g)={ s with ag:=bN s.gi (s.ag++st) } by rw[A];exact⟨S.1.2,Z⟩);obtain⟨t,u,rfl,-⟩:=m.val;have r:=(bG.own m (bX eB.o) (L6 _)).1;have h:=(show N.cell? C=some (B:Y)/\N.cell? X=some (f:Y)/\N.cell? ⟨X,1,none⟩=some (g:Y)/\N.cell? B=some (s.gi:Y)/\N.cell? ⟨B,3,none⟩=some (.slice E s.sk.length F)from⟨aT b.1 a,aT b.2.1 a,aT b.2.2.1 a,aT b.2.2.2.1 a,aT b.2.2.2.2 a⟩);replace d:=H (d.below a);clear m a q bI A;go_simp;refine c.out _ _ (h) ?_;clear c l b;refine fun b=>aW ?_;clear h;refine aQ 13 ?_;refine ay ?_ _;clear b;go_wp2_with fail;obtain⟨-,-,-,-,⟨T,-⟩,-,-,-,-,-,-⟩:=d.hs.ats;refine az (fun W:World=>W.cell? C=some (B:Y)/\W.cell? B=some (s.gi:Y)) (⟨d.cC,T⟩) fun b=>?_;clear T;replace d:=H d.drew;replace r:=r.below (L5 _ _).drew;obtain⟨x,eC⟩:∃x,x=N.drew:=⟨_,Z⟩;rw[<-eC]at d b r|-;clear eC;obtain⟨E,F,n,p,-,-,-,-,⟨k4,g4⟩,-,eL⟩:=d.hs.ats;refine aA 0 1 5 9 ?_;refine aA 2 6 3 7 ?_;refine aQ 4 ?_;refine aY 8 fun l c=> ?_;go_simp;refine c.out _ _ (b) ?_;clear c l b;refine fun b=>aW ?_;refine aY 10 fun l c=> ?_;go_simp;have a:=bg x (.cells #[.slice n s.ag.length p,.slice t st.length u] 51)
  have j:jb x.heap.size [(n,p,s.ag),(t,u,st)] (x.alloc (.cells #[.slice n s.ag.length p,.slice t st.length u] 51)):=⟨IK,fun i hi=>by
   rcases(show i=0\/i=1 by simp at hi;omega)with rfl | rfl
   ·exact⟨(At.new (W:=x) (vs:= #[.slice n s.ag.length p,.slice t st.length u]) _ Z Z).1,(eL.1.below a).mono a.size⟩
   exact⟨(At.new (W:=x) (vs:= #[.slice n s.ag.length p,.slice t st.length u]) _ Z Z).1,(r.1.below a).mono a.size⟩⟩
  have h:=(show(x.alloc (.cells #[.slice n s.ag.length p,.slice t st.length u] 51)).cell? C=some (B:Y)/\(x.alloc (.cells #[.slice n s.ag.length p,.slice t st.length u] 51)).cell? B=some (s.gi:Y)from⟨aT b.1 a,aT b.2 a⟩);replace d:=H (d.below a);generalize x.alloc (.cells #[.slice n s.ag.length p,.slice t st.length u] 51)=y6 at d j h|-;have cV:=H j;clear a j eL r k4 g4;refine c.out _ _ (h) ?_;clear c l b;refine fun b=>aW ?_;clear h;have z:=H (show dO [(n,p,s.ag),(t,u,st)]=s.ag++st by simp[dO]);refine aY 11 fun l c=> ?_;go_simp;refine(gf s.gi _ 2 2 [(n,p,s.ag),(t,u,st)] y6 Z cV.o ak.u0 (by rw[z.o];exact d6.1) (by rw[z.o,Lc];have h1:=lI ak.FJ;have h2:=lI eB.o;omega) O).mono ?_;rintro e P⟨v,rfl,m,a⟩;rw[z.o]at m;obtain⟨L,M,rfl,-⟩:=m.val;obtain⟨ag,J⟩:∃ag,ag=bN s.gi (s.ag++st):=⟨_,Z⟩;rw[<-J]at m|-;have eS:=H (show aj ag=true/\s.Di (f,g)={ s with ag:=ag } by rw[J];refine⟨?_,d6.2⟩;have:=S.2.1;rw[d6.2]at this;exact this);have q:=(bG.own m (bX eS.1) (show lb<=y6.heap.size by have:=d.hs.2.1.1;omega)).1;have aa:=H q;have h:=(show P.cell? C=some (B:Y)/\P.cell? B=some (s.gi:Y)from⟨aT b.1 a,aT b.2 a⟩);replace d:=H (d.below a);clear m a q cV z J;go_simp;refine c.out _ _ (h) ?_;clear c l b;refine fun b=>aW ?_;clear h;refine aM 12 13 ?_;obtain⟨fm,fo,fp,fq,-,-,-,-,⟨k4,g4⟩,-,-⟩:=d.hs.ats;refine aY 14 fun l c=> ?_;go_simp;clear k4 g4;have K:=(nF.refl B P).setCell 4 (.slice L ag.length M);have h:=(show(P.setCell ⟨B,4,none⟩ (.slice L ag.length M)).cell? C=some (B:Y)/\(P.setCell ⟨B,4,none⟩ (.slice L ag.length M)).cell? B=some (s.gi:Y)from⟨cB b.1 K d.ne.1,(LX _ _ _ _ J0).trans b.2⟩);have HF:=H (d.hs.F3 aa.o);have e4:=H (d.Dj.trans K);generalize (P.setCell ⟨B,4,none⟩ (.slice L ag.length M))=y8 at HF e4 h|-;clear K aa;refine c.out _ _ (h) ?_;clear c l b;refine fun b=>aW ?_;clear h;refine ay ?_ _;clear b
  skip
  go_wp2;go_ret;exact⟨_,Z,by unfold Sc.Eh;rw[L9 cw.o];rfl,by unfold Sc.ret;rw[L9 cw.o,eS.2];exact HF.o,e4.o⟩
set_option maxHeartbeats 1000000 in
theorem iq (B lb:Nat) (s:Sc) (a b:Int) (w:World) (ok:s.Ok) (hs:bL B lb s w) :
  Calls Tryz.prog 137 #[B,.agg #[a,b]] w fun e w'=>e= .returned (s.Eh (a,b))/\bL B lb (s.ret (a,b)) w'/\nF B w w':=by
 have n:=hs.lt;have c:=(L5 w.heap.size w).alloc (L6 _) (.cells #[B] 74);have f:=c.alloc IK (.cells #[a,b] 149);have g:=(show At w.heap.size 0 B _ from At.new (W:=w) (vs:= #[B]) 74 Z Z).alloc (.cells #[a,b] 149);have h:=(show At (w.heap.size+1) 0 a _ from At.new (W:=w.alloc (.cells #[B] 74)) (vs:= #[a,b]) 149 IK Z);have i:=(show At (w.heap.size+1) 1 b _ from At.new (W:=w.alloc (.cells #[B] 74)) (vs:= #[a,b]) 149 IK Z);have j:=nF.of_below (B:=B) f;have k:=H (jL w.heap.size (w.heap.size+1) B lb s a b ((w.alloc (.cells #[B] 74)).alloc (.cells #[a,b] 149)) ok g.1 h.1 i.1 ⟨O,O⟩ (hs.below f));have l:=H j;clear c f g h i j hs ok
 go_enter Tryz.func137,Tryz.ntmps137
 go_wp2_with fail;refine(iU _ _ _ _ k.o).mono ?_;rintro e r⟨v,rfl,rfl,m,d⟩;have p:=H (l.trans d);have q:=H m;clear m d k l;go_wp2;go_ret;exact⟨Z,q.o,p.o⟩
end
section
set_option maxRecDepth 100000
open Go.RowKit Go.Shelf
structure Gv (n₀ C M B:Nat)(s:Sc)(m:Int)(sa:Option Addr)(sc:Nat)(W:World):Prop where
 cC:W.cell? C=some (B:Y)
 cM:W.cell? M=some (m:Y)
 c0:W.cell? B=some (s.gi:Y)
 c1:W.cell? ⟨B,1,none⟩=some (s.next:Y)
 c2:W.cell? ⟨B,2,none⟩=some (s.mark:Y)
 c3:W.cell? ⟨B,3,none⟩=some (.slice sa s.sk.length sc)
 ls:sT W n₀ sa s.sk
 cap:s.sk.length<=sc
 lt:B<n₀
 hz:n₀<=W.heap.size
theorem bQ {n₀ B i:Nat}{v:Value}{w w':World}(h:w.cell? ⟨B,i,none⟩=some v)(a:B<n₀)(b:Below n₀ w w'):w'.cell? ⟨B,i,none⟩=some v :=
 (b.cell (p:=⟨B,i,none⟩) a).trans h
theorem Gv.next {n₀ C M B:Nat}{s:Sc}{m:Int}{b:Option Addr}{sc:Nat}{W W':World}(h:Gv n₀ C M B s m b sc W)(a:Below n₀ W W')(c:W'.cell? C=some (B:Y))(d:W'.cell? M=some (m:Y)):Gv n₀ C M B s m b sc W' :=
 ⟨c,d,bQ h.c0 h.lt a,bQ h.c1 h.lt a,bQ h.c2 h.lt a,bQ h.c3 h.lt a,h.ls.below a,h.cap,h.lt,La h.hz a.size⟩
theorem Gv.below {n₀ C M B:Nat}{s:Sc}{m:Int}{b:Option Addr}{sc:Nat}{W W':World}(h:Gv n₀ C M B s m b sc W)(a:Below W.heap.size W W'):Gv n₀ C M B s m b sc W' :=
 h.next (a.mono h.hz) (bQ h.cC (Ll h.cC) a) (bQ h.cM (Ll h.cM) a)
structure Gi (n₀ N C M B:Nat)(s:Sc)(m:Int)(sa:Option Addr)(sc:Nat)(ga:Option Addr)(cl:World->Nat->Prop)(W:World):Prop where
 g:Gv n₀ C M B s m sa sc W
 gl:sT W W.heap.size ga s.gaps
 own:∀ad,ga=some ad->N<=ad.block/\¬cl W ad.block
def Gr (n₀ N C M B:Nat)(s:Sc)(m:Int)(f:Option Addr)(sc:Nat)(j:Option Addr)(cl:World->Nat->Prop)(J:Nat->World->Prop)(g:Nat)(l b d:Value)(W:World):Prop :=
 ∃(k:Nat) (sp:List Sp) (a:Option Addr) (c:Nat),l=((k:Int):Y)/\g+k=s.gaps.length/\b= .slice a sp.length c/\d=(aD sp:Y)/\sT W n₀ a sp/\sp.length<=c/\(∃e,aJ e sp=true) /\
  (∀i (h:i<s.gaps.length),k<=i->iK s.gaps[i].1 sp=iK s.gaps[i].1 s.sk)/\Gi n₀ N C M B s m f sc j cl W/\J k W/\N<=W.heap.size
def Gq (n₀ N C M B:Nat)(s:Sc)(m:Int)(f:Option Addr)(sc:Nat)(j:Option Addr)(cl:World->Nat->Prop)(J:Nat->World->Prop)(k X:Nat)(l n:Int)(g:Nat)(b d:Value)(W:World):Prop :=
 ∃(sp:List Sp) (a:Option Addr) (c:Nat),g=sp.length/\b= .slice a sp.length c/\d=(aD sp:Y)/\sT W n₀ a sp/\sp.length<=c/\(∃e,aJ e sp=true) /\
  (∀i (h:i<s.gaps.length),k<=i->iK s.gaps[i].1 sp=iK s.gaps[i].1 s.sk)/\Gi n₀ N C M B s m f sc j cl W/\J k W/\N<=W.heap.size/\At X 0 l W/\At X 1 n W/\N<=X
theorem nr {W:World}{n₀ b off:Nat}{y:Sp}{t:List Sp}(h:sT W n₀ (some ⟨b,off,none⟩) (y::t)):sT W n₀ (some ⟨b,off+2,none⟩) t:=by
 refine⟨by have:=h.small;rw[LC]at this;omega,fun d=> ?_⟩;obtain⟨f,g,e,c,a⟩:=h.cells IK
 cases e
 refine⟨b,off+2,Z,c,fun i hi=> ?_⟩;have:=a (i+1) IM;rw[NK]at this;rw[show off+2+i*2=off+(i+1)*2 by omega];exact this
theorem Gi.below {n₀ N C M B:Nat}{s:Sc}{m:Int}{d:Option Addr}{sc:Nat}{f:Option Addr}{cl:World->Nat->Prop}{W W':World}(h:Gi n₀ N C M B s m d sc f cl W)(a:Below W.heap.size W W')(j:∀b,cl W' b->cl W b):Gi n₀ N C M B s m d sc f cl W' :=
 ⟨h.g.below a,(h.gl.below a).mono a.size,fun i e=>⟨(h.own i e).1,fun c=>(h.own i e).2 (j _ c)⟩⟩
theorem Gi.next {n₀ N C M B:Nat}{s:Sc}{m:Int}{n:Option Addr}{sc:Nat}{j:Option Addr}{cl:World->Nat->Prop}{W W':World}(h:Gi n₀ N C M B s m n sc j cl W)(o:Below n₀ W W')(_hsz:N<=W.heap.size)(d:∀b,b<W.heap.size->N<=b->¬cl W b->W'.heap[b]? =W.heap[b]? /\¬cl W' b)(k:∀c,j=some c->c.block<W.heap.size)(p:W'.cell? C=some (B:Y)/\W'.cell? M=some (m:Y)):Gi n₀ N C M B s m n sc j cl W':=by
 refine⟨h.g.next o p.1 p.2,⟨h.gl.small,fun t=> ?_⟩,fun c e=>⟨(h.own c e).1,(d _ (k c e) (h.own c e).1 (h.own c e).2).2⟩⟩;obtain⟨b,off,l,f,q⟩:=h.gl.cells t;have r:=(d b f (h.own _ l).1 (h.own _ l).2).1;exact⟨b,off,l,Ld f o.size,fun i hi=>⟨(Li (a:=⟨b,_,none⟩) r).trans (q i hi).1,(Li (a:=⟨b,_,none⟩) r).trans (q i hi).2⟩⟩
set_option maxHeartbeats 4000000 in
theorem uw (n:Nat) (hn:1<=n) (l n₀ C M B:Nat) (s:Sc) (ok:s.Ok) (m:Int) (sa:Option Addr) (sc:Nat) (w:World) (cl:World->Nat->Prop) (J Jx:Nat->World->Prop)
  (hJ:∀k W W',J k W->Below W.heap.size W W'->J k W'/\∀b,cl W' b->cl W b/\b<W.heap.size)
  (hY:∀k (h:k<s.gaps.length) W1,J k W1->YieldAt Fence.wide (n-1) Tryz.prog l #[.agg #[s.gaps[k].1,s.gaps[k].2],.agg #[(s.og m s.gaps[k]).1,(s.og m s.gaps[k]).2]] W1 fun e W' =>
   (e= .returned true/\J (k+1) W'/\Below n₀ W1 W'/\∀b,b<W1.heap.size->w.heap.size<=b->¬cl W1 b->W'.heap[b]? =W1.heap[b]? /\¬cl W' b)\/(e= .returned false/\Jx k W'))
  (e3:∀k W,J k W->W.cell? C=some (B:Y)/\W.cell? M=some (m:Y)) (hG:Gv n₀ C M B s m sa sc w) (h0:J 0 w) :
  CallsIn Fence.wide n Tryz.prog 180 #[.func (.yield l) #[] #[],C,M] w fun e W'=>(∃v,e= .returned v)/\(J s.gaps.length W'\/∃k,k<s.gaps.length/\Jx k W'):=by
 have ak:=H ok;have L:=H hG;have X:=H hJ;have d7:=H e3;have HY:=H hY;have an:=H h0;have ev:=H (show dq s.sk=aD s.sk by unfold dq;rw[L9 ok.Eg]);have ew:=H (show ∀i j (h1:i<=j) (h2:j<s.gaps.length),s.gaps[i].1<=s.gaps[j].1 from uV s);have dT:=H (show s.gaps.length<=1099511627776 from mA s);clear ok hG hJ e3 hY h0;refine NY Tryz.func180 Z trivial ?_ Z;simp only[Tryz.ntmps180,LJ,LC,M4,Nat.reduceAdd,Nat.reduceSub,Mb,Ma,Mp,Mi,LG,LT];refine Mc.2 ?_;have hK:=(show w.cell? C=some (B:Y)/\w.cell? B=some (s.gi:Y)/\w.cell? ⟨B,1,none⟩=some (s.next:Y)/\w.cell? ⟨B,3,none⟩=some (.slice sa s.sk.length sc)from⟨L.cC,L.c0,L.c1,L.c3⟩);go_wp2_with fail;refine az (fun W:World=>W.cell? C=some (B:Y)/\W.cell? B=some (s.gi:Y)/\W.cell? ⟨B,1,none⟩=some (s.next:Y)/\W.cell? ⟨B,3,none⟩=some (.slice sa s.sk.length sc)) (hK) fun hZ=>?_;clear hK;replace L:=H (L.below (L5 _ w).drew);replace an:=H (X.o 0 w w.drew an.o (L5 _ _).drew).1;have E:=H (L6 w.heap.size);obtain⟨y0,p⟩:∃y0,y0=w.drew:=⟨_,Z⟩;replace E:Hid (w.heap.size<=y0.heap.size):=by rw[p];exact E
 rw[<-p]at L an hZ|-;clear p;refine aA 0 4 1 5 ?_;refine aA 2 6 3 7 ?_;refine aY 8 fun Kq T=> ?_;go_simp;refine(eh y0 n₀ sa sc s.sk L.ls L.hz).mono ?_;rintro e U⟨rfl,hb⟩;replace L:=H (L.below hb);replace an:=H (X.o 0 _ _ an.o hb).1;replace E:=H (La E.o hb.size);clear hb;have hK:=(show U.cell? C=some (B:Y)/\U.cell? B=some (s.gi:Y)/\U.cell? ⟨B,1,none⟩=some (s.next:Y)/\U.cell? ⟨B,3,none⟩=some (.slice sa s.sk.length sc)from⟨L.cC,L.c0,L.c1,L.c3⟩);go_simp;refine T.out _ _ (hK) ?_;clear T Kq hZ;refine fun hZ=>aW ?_;clear hK;rw[ev.o];refine aM 9 10 ?_;refine ay ?_ _;clear hZ;go_wp2_with fail;have hK:=(show U.cell? C=some (B:Y)/\U.cell? B=some (s.gi:Y)/\U.cell? ⟨B,1,none⟩=some (s.next:Y)/\U.cell? ⟨B,3,none⟩=some (.slice sa s.sk.length sc)from⟨L.cC,L.c0,L.c1,L.c3⟩);refine az (fun W:World=>W.cell? C=some (B:Y)/\W.cell? B=some (s.gi:Y)/\W.cell? ⟨B,1,none⟩=some (s.next:Y)/\W.cell? ⟨B,3,none⟩=some (.slice sa s.sk.length sc)) (hK) fun hZ=>?_;clear hK;replace L:=H (L.below (L5 _ U).drew);replace an:=H (X.o 0 U U.drew an.o (L5 _ _).drew).1;obtain⟨y2,d6⟩:∃y2,y2=U.drew:=⟨_,Z⟩;replace E:Hid (w.heap.size<=y2.heap.size):=by rw[d6];exact E
 rw[<-d6]at L an hZ|-;clear d6;refine aA 0 4 8 15 ?_;refine aA 1 5 9 2 ?_;refine aA 6 10 3 7 ?_;refine aM 11 12 ?_;refine aY 13 fun Kq T=> ?_;go_simp;refine(qB y2 n₀ sa sc s.sk (s.gi,s.next) L.ls L.hz).mono ?_;rintro e y3⟨v,rfl,hO,hb⟩;rw[show bs s.sk (s.gi,s.next)=s.gaps from Z]at hO;obtain⟨ga,gc,rfl,e4,-,d8⟩:=hO.at dT.o;have f0:=(X.o 0 _ _ an.o hb).2;have q:=H (show Gi n₀ w.heap.size C M B s m sa sc ga cl y3 from⟨L.below hb,e4,fun ad e=>⟨La E.o (d8 ad e).1,fun h=>by have:=(f0 _ h).2;have:=(d8 ad e).1;omega⟩⟩);replace an:=H (X.o 0 _ _ an.o hb).1;replace E:=H (La E.o hb.size);clear hO hb e4 d8 f0 L;have hK:=(show y3.cell? C=some (B:Y)/\y3.cell? B=some (s.gi:Y)/\y3.cell? ⟨B,1,none⟩=some (s.next:Y)/\y3.cell? ⟨B,3,none⟩=some (.slice sa s.sk.length sc)from⟨q.g.cC,q.g.c0,q.g.c1,q.g.c3⟩);go_simp;refine T.out _ _ (hK) ?_;clear T Kq hZ;refine fun hZ=>aW ?_;clear hK;refine aQ 14 ?_;refine ay ?_ _;clear hZ;go_wp2_with fail;obtain⟨e0,e5⟩:=(⟨_,ak.Eg⟩:∃e,aJ e s.sk=true);have c5:=H e5;clear e5
 go_loopg [33,4,5] s.gaps.length (fun g kv d9 e1 wr=>Gr n₀ w.heap.size C M B s m sa sc ga cl J g kv d9 e1 wr)
 case atStart=>exact⟨0,s.sk,sa,sc,Z,O,Z,Z,q.g.ls,q.g.cap,⟨e0,c5.o⟩,fun i h _=>rfl,q.o,an.o,E.o⟩
 case round =>
  clear q an E c5;obtain⟨k,sp,a,c,rfl,hg,rfl,rfl,b1,r,⟨e0,c6⟩,b2,hI,c7,b3⟩:=hrel;have q:=H hI;have ba:=H b2;have am:=H c6;have K:=H b1;have G:=H c7;have E:=H b3;clear hI b2 c6 b1 c7 b3;by_cases hk:k<s.gaps.length
  ·obtain⟨b0,o0,rfl,hb,a0⟩:=q.gl.cells O;obtain⟨d0,d1⟩:=a0 k hk;clear a0;have b5:(k:Int)<(s.gaps.length:Int):=by omega
   obtain⟨x,hx⟩:∃x,x=s.gaps[k]:=⟨_,Z⟩;rw[<-hx]at d0 d1;have HX:=H hx;clear hx;obtain⟨d,f⟩:=x;dsimp only at d0 d1;have e6:=H (fun i (h:i<s.gaps.length) (b5:k<=i)=>show d<=s.gaps[i].1 by have:=ew.o k i b5 h;rw[<-HX.o]at this;exact this);go_wp2_with fail;clear d0 d1;have cT:=bg wr (.cells #[d,f] 149);obtain⟨XB,b4⟩:∃XB,XB=wr.heap.size:=⟨_,Z⟩;have c4:=(show At XB 0 d (wr.alloc (.cells #[d,f] 149)) by rw[b4];exact At.new _ Z Z);have d2:=(show At XB 1 f (wr.alloc (.cells #[d,f] 149)) by rw[b4];exact At.new _ Z Z);have HQ:=H (show Gq n₀ w.heap.size C M B s m sa sc (some ⟨b0,o0,none⟩) cl J k XB d f sp.length (.slice a sp.length c) (aD sp) (wr.alloc (.cells #[d,f] 149))from⟨sp,a,c,Z,Z,Z,K.below (cT.mono q.g.hz),r,⟨e0,am.o⟩,ba.o,q.below cT (fun b h=>((X.o k _ _ G.o cT).2 b h).1),(X.o k _ _ G.o cT).1,La E.o cT.size,c4,d2,by rw[b4];exact E.o⟩);rw[<-b4];clear cT b4 c4 d2 K am ba q G E;generalize wr.alloc (.cells #[d,f] 149)=w1 at HQ|-
   go_loopg [4,5] sp.length (fun g d9 e1 w2=>Gq n₀ w.heap.size C M B s m sa sc (some ⟨b0,o0,none⟩) cl J k XB d f g d9 e1 w2)
   case atStart=>exact HQ.o
   case round =>
    clear HQ r;obtain⟨sp,a,c,rfl,rfl,rfl,b1,r,⟨e0,c6⟩,b2,hI,c7,b3,c4,d2,e7⟩:=hrel;have q:=H hI;have ba:=H b2;have am:=H c6;have K:=H b1;have G:=H c7;have E:=H b3;have z:=H c4;have A:=H d2;have e9:=H e7;have r:=r;clear hI b2 c6 b1 c7 b3 c4 d2 e7
    rcases sp with _ | ⟨y,t⟩
    ·obtain⟨v0,q0⟩:=z.o;obtain⟨v1,q1⟩:=A.o;have f3:decide ((0:Int)<0)=false:=by decide
     go_wp2_with fail
     go_quiet (fail)
     clear v0 q0 v1 q1;have u:=lG wr nq;replace q:=H (q.below u (fun b h=>((X.o k _ _ G.o u).2 b h).1));replace G:=H (X.o k _ _ G.o u).1;replace K:=H (K.below (u.mono JD));replace z:=H (z.below u z.lt);replace A:=H (A.below u A.lt);replace E:=H (La E.o u.size);clear u;generalize wr.drewN nq=w3 at q G K z A E|-;obtain⟨v0,q0⟩:=z.o;obtain⟨v1,q1⟩:=A.o;have bc:=q.g.below (bg w3 (.cells #[d,f] 149));have cM:=bc.cM;have cC:=bc.cC;have c2:=bc.c2;clear bc;obtain⟨v2,q2⟩:=z.alloc (.cells #[d,f] 149);obtain⟨v3,q3⟩:=A.alloc (.cells #[d,f] 149);have av:=H (show iK d s.sk=[] by have h:=ba.o k hk (L6 _);rw[<-HX.o]at h;exact h.symm.trans IO);have ex:wrap64 ((aD []).tdiv 3)=aD []/3:=KL
     by_cases a2:aD []/3<m
     focus
      have a3:(0:Int)<3:=D
      go_upto_region 9 with fail
      have c8:=(show(fun W:World=>W.cell? XB=some (d:Y)/\W.cell? ⟨XB,1,none⟩=some (f:Y)/\W.cell? C=some (B:Y)/\W.cell? ⟨B,2,none⟩=some (s.mark:Y)) (w3.alloc (.cells #[d,f] 149))from⟨v2,v3,cC,c2⟩);have bv:=q.g.below (bg w3 (.cells #[d,(max d (min f s.mark):Int)] 149));have b6:=(show(fun W:World=>W.cell? XB=some (d:Y)/\W.cell? ⟨XB,1,none⟩=some (f:Y)/\W.cell? C=some (B:Y)/\W.cell? ⟨B,2,none⟩=some (s.mark:Y)) (w3.alloc (.cells #[d,(max d (min f s.mark):Int)] 149))from⟨(z.alloc (.cells #[d,(max d (min f s.mark):Int)] 149)).1,(A.alloc (.cells #[d,(max d (min f s.mark):Int)] 149)).1,bv.cC,bv.c2⟩);clear bv;refine az (fun W:World=>W.cell? XB=some (d:Y)/\W.cell? ⟨XB,1,none⟩=some (f:Y)/\W.cell? C=some (B:Y)/\W.cell? ⟨B,2,none⟩=some (s.mark:Y)) (c8) fun hZ=>?_;refine aA 0 1 2 3 ?_;refine aA 4 5 6 7 ?_;refine aM 8 9 ?_;refine aQ 10 ?_;refine aY 11 fun Kq T=> ?_;go_simp;refine T.out _ _ (b6) ?_;clear T Kq hZ;refine fun hZ=>aW ?_;refine ay ?_ _;clear hZ c8 b6 cC cM c2 v2 v3 q2 q3
      go_upto_region 10 with fail
      have F:=(bg w3 (.cells #[d,(max d (min f s.mark):Int)] 149)).drew;have bd:=H (show s.og m (d,f)=(d,(max d (min f s.mark))) by unfold Sc.og;rw[L9];dsimp only;rw[av.o];exact⟨a2,by first | exact a3 | (simp;omega) | simp⟩);have ac:=X.o k _ _ G.o F;have al:=H (q.below F (fun b h=>(ac.2 b h).1));have p:=HY.o k hk _ ac.1;rw[<-HX.o,bd.o]at p;dsimp only at p;have d0:=(show At w3.heap.size 0 d ((w3.alloc (.cells #[d,(max d (min f s.mark):Int)] 149)).drew)from(At.new _ Z rfl:At w3.heap.size 0 d (w3.alloc (.cells #[d,(max d (min f s.mark):Int)] 149)))).1;have d1:=(show At w3.heap.size 1 (max d (min f s.mark):Int) ((w3.alloc (.cells #[d,(max d (min f s.mark):Int)] 149)).drew)from(At.new _ Z rfl:At w3.heap.size 1 (max d (min f s.mark):Int) (w3.alloc (.cells #[d,(max d (min f s.mark):Int)] 149)))).1;have P:=z.below F z.lt;have S:=A.below F A.lt;obtain⟨P,-⟩:=P;obtain⟨S,-⟩:=S;have a9:=La E.o F.size;have ax:=H (K.below (F.mono q.g.hz));generalize ((w3.alloc (.cells #[d,(max d (min f s.mark):Int)] 149)).drew)=w5 at p d0 d1 al P S a9 ax|-
     rotate_left 1
     focus
      go_upto_region 10 with fail
      have F:=bg w3 (.cells #[d,f] 149);have bd:=H (show s.og m (d,f)=(d,f) by unfold Sc.og;rw[L7];dsimp only;rw[av.o];rintro⟨h1,h2⟩;first | exact a2 h1 | exact a3 JA | (simp at h2;omega));have ac:=X.o k _ _ G.o F;have al:=H (q.below F (fun b h=>(ac.2 b h).1));have p:=HY.o k hk _ ac.1;rw[<-HX.o,bd.o]at p;dsimp only at p;have d0:=(show At w3.heap.size 0 d (w3.alloc (.cells #[d,f] 149))from At.new _ Z Z).1;have d1:=(show At w3.heap.size 1 f (w3.alloc (.cells #[d,f] 149))from At.new _ Z Z).1;have P:=z.below F z.lt;have S:=A.below F A.lt;obtain⟨P,-⟩:=P;obtain⟨S,-⟩:=S;have a9:=La E.o F.size;have ax:=H (K.below (F.mono q.g.hz));generalize (w3.alloc (.cells #[d,f] 149))=w5 at p d0 d1 al P S a9 ax|-
     all_goals
      obtain⟨fn,d4,a1,d5,hy,hR⟩:=p;clear F ac;refine(Mc (n:=n)).1 ?_
      gi_wp2
      refine hR.mono ?_;rintro e w6 (⟨rfl,V,I,N⟩ | ⟨rfl,d3⟩)
      ·have bn:=al.next I a9 N (fun ad e=>by obtain⟨b8,o8,e8,c9,-⟩:=al.gl.cells O;rw[e8]at e;cases e;exact c9) (d7.o _ _ V);have ca:=H (ax.below I);have b7:=H (La a9 I.size);have cb:=H bn;have cf:=H V;clear hy hR d0 d1 P S I N bn V
       gi_wp2
       go_wp2_with fail
       go_roundg (s.gaps.length-k-1)
       case measure=>omega
       case rel=>exact⟨k+1,[],a,c,PA,O,by first | rfl | simp,Z,ca.o,Kd,⟨_,am.o⟩,fun i h b5=>ba.o i h O,cb.o,cf.o,b7.o⟩
      clear hy hR d0 d1 P S
      gi_wp2
      go_wp2_with fail;refine Lo (LY Z _ _ _) Z ?_;exact⟨⟨_,Z⟩,.inr ⟨k,hk,d3⟩⟩
    obtain⟨b,off,rfl,hb,a0⟩:=K.cells IK;obtain⟨d0,d1⟩:=a0 0 IK;clear a0;obtain⟨U,y2⟩:=y;simp only[MF,Nr,Nu]at d0 d1;obtain⟨v0,q0⟩:=z.o;obtain⟨v1,q1⟩:=A.o;by_cases e2:y2<=d
    ·have ea:=H (show wrap64 (aD ((U,y2)::t)-wrap64 (y2-U))=aD t by have h1:=aN am.o;have h2:=aB.1 am.o;have h3:=aN h2.2;have h4:=h2.1;dsimp only at h4;rw[show aD ((U,y2)::t)=(y2-U)+aD t from Z]at h1|-;unfold wrap64;omega);go_wp2_with fail
     go_quiet (fail)
     clear v0 q0 v1 q1;have D0:=H d0;have D1:=H d1;clear d0 d1;have u:=lG wr nq;replace q:=H (q.below u (fun b h=>((X.o k _ _ G.o u).2 b h).1));replace G:=H (X.o k _ _ G.o u).1;replace K:=H (K.below (u.mono JD));replace z:=H (z.below u z.lt);replace A:=H (A.below u A.lt);replace E:=H (La E.o u.size);clear u;generalize wr.drewN nq=w3 at q G K z A E|-;obtain⟨v0,q0⟩:=z.o;obtain⟨v1,q1⟩:=A.o;obtain⟨b9,o9,h9,hb,a0⟩:=K.cells IK
     cases h9
     obtain⟨d0,d1⟩:=a0 0 IK;clear a0;simp only[MF,Nr,Nu]at d0 d1;go_wp2_with fail
     go_quiet (fail)
     go_wp2_with fail
     ·clear v0 q0 v1 q1 d0 d1;have u:=lG w3 nq;replace q:=H (q.below u (fun b h=>((X.o k _ _ G.o u).2 b h).1));replace G:=H (X.o k _ _ G.o u).1;replace K:=H (K.below (u.mono JD));replace z:=H (z.below u z.lt);replace A:=H (A.below u A.lt);replace E:=H (La E.o u.size);clear u;generalize w3.drewN nq=w4 at q G K z A E|-;rw[ea.o]
      go_roundg t.length
      case measure=>simp
      case rel=>exact⟨t,some ⟨b,off,none⟩,0,Z,Z,Z,⟨by have:=(nr K.o).small;exact this,fun hl=>by have:=r;rw[LC]at this;omega⟩,by have:=r;rw[LC]at this;omega,⟨y2,(aB.1 am.o).2⟩,fun i h b5=>by rw[<-ba.o i h b5,cA,L9 (LE e2 (e6.o i h b5))],q.o,G.o,E.o,z.o,A.o,e9.o⟩
     clear v0 q0 v1 q1 d0 d1;have u:=lG w3 nq;replace q:=H (q.below u (fun b h=>((X.o k _ _ G.o u).2 b h).1));replace G:=H (X.o k _ _ G.o u).1;replace K:=H (K.below (u.mono JD));replace z:=H (z.below u z.lt);replace A:=H (A.below u A.lt);replace E:=H (La E.o u.size);clear u;generalize w3.drewN nq=w4 at q G K z A E|-;rw[ea.o]
     go_roundg t.length
     case measure=>simp
     case rel=>exact⟨t,some ⟨b,off+2,none⟩,c-1,Z,Z,Z,nr K.o,by have:=r;rw[LC]at this;omega,⟨y2,(aB.1 am.o).2⟩,fun i h b5=>by rw[<-ba.o i h b5,cA,L9 (LE e2 (e6.o i h b5))],q.o,G.o,E.o,z.o,A.o,e9.o⟩
    have hd:decide (y2<=d)=false:=by rw[Lu];exact e2
    go_wp2_with fail
    go_quiet (fail)
    clear v0 q0 v1 q1 d0 d1;have u:=lG wr nq;replace q:=H (q.below u (fun b h=>((X.o k _ _ G.o u).2 b h).1));replace G:=H (X.o k _ _ G.o u).1;replace K:=H (K.below (u.mono JD));replace z:=H (z.below u z.lt);replace A:=H (A.below u A.lt);replace E:=H (La E.o u.size);clear u;generalize wr.drewN nq=w3 at q G K z A E|-;obtain⟨v0,q0⟩:=z.o;obtain⟨v1,q1⟩:=A.o;have bc:=q.g.below (bg w3 (.cells #[d,f] 149));have cM:=bc.cM;have cC:=bc.cC;have c2:=bc.c2;clear bc;obtain⟨v2,q2⟩:=z.alloc (.cells #[d,f] 149);obtain⟨v3,q3⟩:=A.alloc (.cells #[d,f] 149);have av:=H (show iK d s.sk=((U,y2)::t) by have h:=ba.o k hk (L6 _);rw[<-HX.o]at h;exact h.symm.trans (by rw[cA,L7 O]));have ex:wrap64 ((aD ((U,y2)::t)).tdiv 3)=aD ((U,y2)::t)/3:=KL
    by_cases a2:aD ((U,y2)::t)/3<m
    ·by_cases a3:((t.length:Int)+1)<3
     focus
      go_upto_region 9 with fail
      have c8:=(show(fun W:World=>W.cell? XB=some (d:Y)/\W.cell? ⟨XB,1,none⟩=some (f:Y)/\W.cell? C=some (B:Y)/\W.cell? ⟨B,2,none⟩=some (s.mark:Y)) (w3.alloc (.cells #[d,f] 149))from⟨v2,v3,cC,c2⟩);have bv:=q.g.below (bg w3 (.cells #[d,(max d (min f s.mark):Int)] 149));have b6:=(show(fun W:World=>W.cell? XB=some (d:Y)/\W.cell? ⟨XB,1,none⟩=some (f:Y)/\W.cell? C=some (B:Y)/\W.cell? ⟨B,2,none⟩=some (s.mark:Y)) (w3.alloc (.cells #[d,(max d (min f s.mark):Int)] 149))from⟨(z.alloc (.cells #[d,(max d (min f s.mark):Int)] 149)).1,(A.alloc (.cells #[d,(max d (min f s.mark):Int)] 149)).1,bv.cC,bv.c2⟩);clear bv;refine az (fun W:World=>W.cell? XB=some (d:Y)/\W.cell? ⟨XB,1,none⟩=some (f:Y)/\W.cell? C=some (B:Y)/\W.cell? ⟨B,2,none⟩=some (s.mark:Y)) (c8) fun hZ=>?_;refine aA 0 1 2 3 ?_;refine aA 4 5 6 7 ?_;refine aM 8 9 ?_;refine aQ 10 ?_;refine aY 11 fun Kq T=> ?_;go_simp;refine T.out _ _ (b6) ?_;clear T Kq hZ;refine fun hZ=>aW ?_;refine ay ?_ _;clear hZ c8 b6 cC cM c2 v2 v3 q2 q3
      go_upto_region 10 with fail
      have F:=(bg w3 (.cells #[d,(max d (min f s.mark):Int)] 149)).drew;have bd:=H (show s.og m (d,f)=(d,(max d (min f s.mark))) by unfold Sc.og;rw[L9];dsimp only;rw[av.o];exact⟨a2,by first | exact a3 | (simp;omega) | simp⟩);have ac:=X.o k _ _ G.o F;have al:=H (q.below F (fun b h=>(ac.2 b h).1));have p:=HY.o k hk _ ac.1;rw[<-HX.o,bd.o]at p;dsimp only at p;have d0:=(show At w3.heap.size 0 d ((w3.alloc (.cells #[d,(max d (min f s.mark):Int)] 149)).drew)from(At.new _ Z rfl:At w3.heap.size 0 d (w3.alloc (.cells #[d,(max d (min f s.mark):Int)] 149)))).1;have d1:=(show At w3.heap.size 1 (max d (min f s.mark):Int) ((w3.alloc (.cells #[d,(max d (min f s.mark):Int)] 149)).drew)from(At.new _ Z rfl:At w3.heap.size 1 (max d (min f s.mark):Int) (w3.alloc (.cells #[d,(max d (min f s.mark):Int)] 149)))).1;have P:=z.below F z.lt;have S:=A.below F A.lt;obtain⟨P,-⟩:=P;obtain⟨S,-⟩:=S;have a9:=La E.o F.size;have ax:=H (K.below (F.mono q.g.hz));generalize ((w3.alloc (.cells #[d,(max d (min f s.mark):Int)] 149)).drew)=w5 at p d0 d1 al P S a9 ax|-
     rotate_left 1
     focus
      go_upto_region 10 with fail
      have F:=bg w3 (.cells #[d,f] 149);have bd:=H (show s.og m (d,f)=(d,f) by unfold Sc.og;rw[L7];dsimp only;rw[av.o];rintro⟨h1,h2⟩;first | exact a2 h1 | exact a3 JA | (simp at h2;omega));have ac:=X.o k _ _ G.o F;have al:=H (q.below F (fun b h=>(ac.2 b h).1));have p:=HY.o k hk _ ac.1;rw[<-HX.o,bd.o]at p;dsimp only at p;have d0:=(show At w3.heap.size 0 d (w3.alloc (.cells #[d,f] 149))from At.new _ Z Z).1;have d1:=(show At w3.heap.size 1 f (w3.alloc (.cells #[d,f] 149))from At.new _ Z Z).1;have P:=z.below F z.lt;have S:=A.below F A.lt;obtain⟨P,-⟩:=P;obtain⟨S,-⟩:=S;have a9:=La E.o F.size;have ax:=H (K.below (F.mono q.g.hz));generalize (w3.alloc (.cells #[d,f] 149))=w5 at p d0 d1 al P S a9 ax|-
     all_goals
      obtain⟨fn,d4,a1,d5,hy,hR⟩:=p;clear F ac;refine(Mc (n:=n)).1 ?_
      gi_wp2
      refine hR.mono ?_;rintro e w6 (⟨rfl,V,I,N⟩ | ⟨rfl,d3⟩)
      ·have bn:=al.next I a9 N (fun ad e=>by obtain⟨b8,o8,e8,c9,-⟩:=al.gl.cells O;rw[e8]at e;cases e;exact c9) (d7.o _ _ V);have ca:=H (ax.below I);have b7:=H (La a9 I.size);have cb:=H bn;have cf:=H V;clear hy hR d0 d1 P S I N bn V
       gi_wp2
       go_wp2_with fail
       go_roundg (s.gaps.length-k-1)
       case measure=>omega
       case rel=>exact⟨k+1,((U,y2)::t),(some ⟨b,off,none⟩),c,PA,O,by first | rfl | simp,Z,ca.o,Kd,⟨_,am.o⟩,fun i h b5=>ba.o i h O,cb.o,cf.o,b7.o⟩
      clear hy hR d0 d1 P S
      gi_wp2
      go_wp2_with fail;refine Lo (LY Z _ _ _) Z ?_;exact⟨⟨_,Z⟩,.inr ⟨k,hk,d3⟩⟩
    go_upto_region 10 with fail
    have F:=bg w3 (.cells #[d,f] 149);have bd:=H (show s.og m (d,f)=(d,f) by unfold Sc.og;rw[L7];dsimp only;rw[av.o];rintro⟨h1,h2⟩;first | exact a2 h1 | exact a3 JA | (simp at h2;omega));have ac:=X.o k _ _ G.o F;have al:=H (q.below F (fun b h=>(ac.2 b h).1));have p:=HY.o k hk _ ac.1;rw[<-HX.o,bd.o]at p;dsimp only at p;have d0:=(show At w3.heap.size 0 d (w3.alloc (.cells #[d,f] 149))from At.new _ Z Z).1;have d1:=(show At w3.heap.size 1 f (w3.alloc (.cells #[d,f] 149))from At.new _ Z Z).1;have P:=z.below F z.lt;have S:=A.below F A.lt;obtain⟨P,-⟩:=P;obtain⟨S,-⟩:=S;have a9:=La E.o F.size;have ax:=H (K.below (F.mono q.g.hz));generalize (w3.alloc (.cells #[d,f] 149))=w5 at p d0 d1 al P S a9 ax|-;obtain⟨fn,d4,a1,d5,hy,hR⟩:=p;clear F ac;refine(Mc (n:=n)).1 ?_
    gi_wp2
    refine hR.mono ?_;rintro e w6 (⟨rfl,V,I,N⟩ | ⟨rfl,d3⟩)
    ·have bn:=al.next I a9 N (fun ad e=>by obtain⟨b8,o8,e8,c9,-⟩:=al.gl.cells O;rw[e8]at e;cases e;exact c9) (d7.o _ _ V);have ca:=H (ax.below I);have b7:=H (La a9 I.size);have cb:=H bn;have cf:=H V;clear hy hR d0 d1 P S I N bn V
     gi_wp2
     go_wp2_with fail
     go_roundg (s.gaps.length-k-1)
     case measure=>omega
     case rel=>exact⟨k+1,((U,y2)::t),(some ⟨b,off,none⟩),c,PA,O,by first | rfl | simp,Z,ca.o,Kd,⟨_,am.o⟩,fun i h b5=>ba.o i h O,cb.o,cf.o,b7.o⟩
    clear hy hR d0 d1 P S
    gi_wp2
    go_wp2_with fail;refine Lo (LY Z _ _ _) Z ?_;exact⟨⟨_,Z⟩,.inr ⟨k,hk,d3⟩⟩
  obtain rfl:k=s.gaps.length:=O
  go_wp2_with fail
  go_end0
  exact⟨⟨_,Z⟩,.inl G.o⟩
end
section
open Go.RowKit Go.Shelf
def BJ (A:Option Nat)(W:World)(b:Nat):Prop:=∃x v,A=some x/\W.cell? x=some v/\v.ownBlock=some b
def nT (A:Option Nat)(N:Nat)(W W':World):Prop:=∀b,b<W.heap.size->N<=b->¬BJ A W b->W'.heap[b]? =W.heap[b]? /\¬BJ A W' b
theorem nT.trans {A:Option Nat}{N:Nat}{W a c:World}(h:nT A N W a)(k:nT A N a c)(hs:W.heap.size<=a.heap.size):nT A N W c:=fun b h1 h2 d=>by
 obtain⟨e,f⟩:=h b h1 h2 d;obtain⟨g,i⟩:=k b O h2 f;exact⟨g.trans e,i⟩
theorem nT.refl (A:Option Nat)(N:Nat)(W:World):nT A N W W:=fun _ _ _ h=>⟨Z,h⟩
theorem jj {A:Option Nat}{W W':World}{b:Nat}(h:∀x,A=some x->W'.cell? x=W.cell? x):BJ A W' b->BJ A W b:=by
 rintro⟨x,v,e,a,c⟩;exact⟨x,v,e,by rw[<-h x e];exact a,c⟩
theorem nT.alloc {A:Option Nat}{N:Nat}{W:World}(hA:∀x,A=some x->x<W.heap.size)(o:Obj):nT A N W (W.alloc o):=fun b h1 _ c =>
 ⟨Mh W o b h1,fun h=>c (jj (fun x e=>Li (a:=⟨x,0,none⟩) (Mh W o x (hA x e))) h)⟩
theorem nT.below {A:Option Nat}{N:Nat}{W W':World}(hA:∀x,A=some x->x<W.heap.size)(c:Below W.heap.size W W'):nT A N W W':=fun b h1 _ d =>
 ⟨c.block b h1,fun h=>d (jj (fun x e=>Li (a:=⟨x,0,none⟩) (c.block x (hA x e))) h)⟩
theorem nT.putObj {A:Option Nat}{N l:Nat}{W:World}(hA:∀x,A=some x->x≠l)(d:l<N)(o:Obj):nT A N W (W.putObj l o):=fun b h1 h2 c =>
 ⟨World.putObj_heap_other O,fun h=>c (jj (fun x e=>Li (a:=⟨x,0,none⟩) (World.putObj_heap_other (hA x e))) h)⟩
def xe (A:Option Nat)(B n₀:Nat)(I:Nat->World->Prop)(k:Nat)(W:World):Exit->Act->World->Prop
 | .normal,_,W'=>KeepsFrom B W W'/\Below n₀ W W'/\nT A (B+2) W W'/\I (k+1) W'
 | _,_,_=>False
set_option maxHeartbeats 1000000 in
theorem tT {g:Operand} {ps:Array Tmp} {assign body:Code} {Q:Exit->Act->World->Prop} {a:Act} {w:World} {n n₀ C M B:Nat} (hn:2<=n)
  {s:Sc} (ok:s.Ok) {m:Int} {sa:Option Addr} {sc:Nat} (hg:a.eval g= .func (.func 180) #[] #[C,M])
  {p q:Tmp} (a1:ps= #[p,q]) (hG:Gv n₀ C M B s m sa sc w) (A:Option Nat) (hA:∀x,A=some x->x<w.heap.size)
  (I:Nat->World->Prop) (hI:OwnFrom w.heap.size I) (a2:∀k W W',I k W->Below W.heap.size W W'->I k W') (a4:∀k W b,I k W->BJ A W b->b<W.heap.size) (a5:∀k W,I k W->W.cell? C=some (B:Y)/\W.cell? M=some (m:Y)) (h0:I 0 w)
  (G:∀l k (h:k<s.gaps.length) W,w.heap.size<=l->w.heap.size+2<=W.heap.size->I k W ->
   assign.wpIn (Fence.wide.inRound l) (n-1-1) Tryz.prog (Exit.then (fun a' W'=>KeepsFrom w.heap.size W W'/\Below n₀ W W'/\nT A (w.heap.size+2) W W'/\∃Ax:Unit->World->Prop,OwnFrom w.heap.size Ax/\Ax () W'/\∀W2,Ax () W2->body.wpIn (Fence.wide.inRound l) (n-1-1) Tryz.prog (xe A w.heap.size n₀ I k W2) a' W2) (fun _ _ _=>False))
    { tmps:=(a.tmps.setIfInBounds p (.agg #[s.gaps[k].1,s.gaps[k].2])).setIfInBounds q (.agg #[(s.og m s.gaps[k]).1,(s.og m s.gaps[k]).2]),defers:=[] } W)
  (L:∀(d:Nat) (W:World),w.heap.size<=d->I s.gaps.length W->W.heap[d]? =some (.deferred (some []))->Q .normal { a with defers:={ target:=.collected d,args:= #[] }::a.defers } W) :
  (Code.rangeFunc g ps assign body).wpIn Fence.wide n Tryz.prog Q a w:=by
 subst a1;have d8:n₀<=w.heap.size:=hG.hz;refine wpIn_rangeFunc (fun fn b3=> ?_);obtain⟨f,o⟩:∃f:LoopState->Option Code->Loop,f=fun st pe=>{ state:=st,pending:=pe,fn:=fn,tmps:=a.tmps,params:= #[p,q],assign:=assign,body:=body,defers:=w.heap.size }:=⟨_,Z⟩;obtain⟨u,j⟩:∃u,u=(w.alloc (.deferred (some []))).alloc (.loop (f .ready none)):=⟨_,Z⟩;have hz:u.heap.size=w.heap.size+2:=by rw[j];simp
 have ey:u.heap[w.heap.size+1]? =some (.loop (f .ready none)):=by
  have:=World.alloc_heap_new (w.alloc (.deferred (some []))) (.loop (f .ready none));rw[M1]at this;rw[j];exact this
 have a6:u.heap[w.heap.size]? =some (.deferred (some [])):=by
  rw[j];exact(Mh _ _ _ (by simp)).trans (World.alloc_heap_new w _)
 have b4:Below n₀ w u:=by rw[j];exact((L5 n₀ w).alloc d8 _).alloc (by simp;omega) _
 have d9:Below w.heap.size w u:=by rw[j];exact((L5 w.heap.size w).alloc (L6 _) _).alloc (by simp) _
 have f4:I 0 u:=by rw[j];exact hI.alloc _ (hI.alloc _ h0)
 refine⟨w.heap.size+1,[{ target:=.collected w.heap.size,args:= #[] }],u,{ target:=.fn (.func 180) #[C,M],args:= #[.func (.yield (w.heap.size+1)) #[] #[]] },u,180,#[.func (.yield (w.heap.size+1)) #[] #[],C,M],u,?_,?_,fun _ _=>trivial,?_,fun _=>by omega,?_⟩
 ·rw[j,o];exact run_enterLoop_outer _ _ _ _ _
 ·simp only[resolve,hg]
  simp[go_sem]
 ·simp[invoke,go_sem]
 have a7:=uw (n-1) (by omega) (w.heap.size+1) n₀ C M B s ok m sa sc u (BJ A)
  (fun k W=>I k W/\W.heap[w.heap.size+1]? =some (.loop (f .ready none))/\W.heap[w.heap.size]? =some (.deferred (some [])))
  (fun _ _=>False) ?_ ?_ (fun k W h=>a5 k W h.1) (hG.below d9) ⟨f4,ey,a6⟩
 ·refine a7.mono ?_;rintro e W2⟨⟨v,rfl⟩,(⟨hi,F,T⟩ | ⟨k,hk,hi⟩)⟩
  ·have K:=run_endLoop (P:=Tryz.prog) F (by rw[o];simp);have f5:(f .ready none).pending=none:=by rw[o]
   rw[f5]at K;exact⟨none,_,K,L w.heap.size _ (L6 _) (hI.putObj _ hi (by omega) F Z) ((World.putObj_heap_other (by omega)).trans T)⟩
  exact hi.elim
 ·rintro k W W' ⟨hi,F,T⟩ J;refine⟨⟨a2 k W W' hi J,(J.block _ (L8.1 F).1).trans F,(J.block _ (L8.1 T).1).trans T⟩,fun b hc=> ?_⟩;have X:BJ A W b:=jj (fun x e=>Li (a:=⟨x,0,none⟩) (J.block x (by have:=hA x e;have:=(L8.1 F).1;omega))) hc;exact⟨X,a4 k W b hi X⟩
 rintro k hk W⟨hi,F,T⟩;have da:w.heap.size+2<=W.heap.size:=by have:=(L8.1 F).1;omega
 subst o;have f6:∀x y:Value,(#[p,q].zip #[x,y]).foldl (fun t (z:Tmp×Value)=>t.setIfInBounds z.1 z.2) a.tmps=(a.tmps.setIfInBounds p x).setIfInBounds q y:=fun x y=>by simp
 refine gU (r:={ state:=.ready,pending:=none,fn:=fn,tmps:=a.tmps,params:= #[p,q],assign:=assign,body:=body,defers:=w.heap.size }) (B:=w.heap.size) Z Z Z F (by omega) (N8 (a:={ tmps:=_,defers:=[] }) (by dsimp only;rw[f6];exact G (w.heap.size+1) k hk W (by omega) da hi) ?_);intro e a' W' he
 cases e with
 | normal =>
  obtain⟨N,J,hf,Ax,f7,f8,f9⟩:=he;have S:=N.same _ _ (by omega) F Z;have a9:=N.same _ _ (L6 _) T Z;have b0:=(L8.1 S).1;refine⟨N,N8 (f9 _ (f7.putObj (s:=()) _ f8 (by omega) S Z)) ?_⟩;intro e3 a3 U V;have fin:∀(U:World),KeepsFrom w.heap.size (W'.putObj (w.heap.size+1) (.loop { state:=.busy,pending:=none,fn:=fn,tmps:=a.tmps,params:= #[p,q],assign:=assign,body:=body,defers:=w.heap.size })) U->U.heap[w.heap.size+1]? =some (.loop { state:=.busy,pending:=none,fn:=fn,tmps:=a.tmps,params:= #[p,q],assign:=assign,body:=body,defers:=w.heap.size })/\U.heap[w.heap.size]? =some (.deferred (some [])):=fun U E=>And.intro (E.same _ _ (by omega) (World.putObj_heap_same b0) Z) (E.same _ _ (L6 _) ((World.putObj_heap_other (by omega)).trans a9) Z);have eb:∀x,A=some x->x≠w.heap.size+1:=fun x e=>by have:=hA x e;omega
  cases e3 with
  | normal =>
   obtain⟨E,a0,b1,fa⟩:=V;obtain⟨dc,b2⟩:=fin U E;have di:=(L8.1 dc).1;refine⟨E,.inl ⟨Z,⟨hI.putObj _ fa (by omega) dc Z,World.putObj_heap_same di,(World.putObj_heap_other (by omega)).trans b2⟩,((J.trans (belowK_b (w:=w) d8 _ _ _ _ (by omega) S Z Z)).trans a0).trans (belowK_b (w:=w) d8 _ _ _ _ (by omega) dc Z Z),?_⟩⟩;rw[hz];refine(((hf.trans (nT.putObj eb (by omega) _) J.size).trans b1 ?_).trans (nT.putObj eb (by omega) _) ?_)
   ·rw[World.putObj_size];exact J.size
   refine La (La J.size ?_) a0.size;rw[World.putObj_size];exact L6 _
  | ret=>exact V.elim
  | exit i=>exact V.elim
  | goto t=>exact V.elim
  | panic c=>exact V.elim
  | outgrown=>exact V.elim
 | ret=>exact he.elim
 | exit i=>exact he.elim
 | goto t=>exact he.elim
 | panic c=>exact he.elim
 | outgrown=>exact he.elim
end
section
set_option maxRecDepth 100000
open Go.RowKit Go.Shelf
attribute [local go_sem] Oper.semAt_some
def ar (C M B:Nat)(m:Int)(W:World):Prop:=At C 0 B W/\At M 0 m W
theorem tU (B:Nat)(m:Int)(w:World):Calls Tryz.prog 165 #[B,m] w fun e w' =>
  e= .returned (.func (.func 180) #[] #[w.heap.size,.pointer (some ⟨w.heap.size+1,0,none⟩)])/\ar w.heap.size (w.heap.size+1) B m w'/\w'.heap.size=w.heap.size+2/\Below w.heap.size w w':=by
 have a:=((L5 w.heap.size w).alloc (L6 _) (.cells #[B] 74)).alloc IK (.cells #[m] 3);have b:ar w.heap.size (w.heap.size+1) B m ((w.alloc (.cells #[B] 74)).alloc (.cells #[m] 3)):=⟨(At.new _ Z Z).alloc _,At.new _ IK Z⟩;have c:=H a;have d:=H b;clear a b
 go_enter Tryz.func165,Tryz.ntmps165
 go_wp2;go_ret;exact⟨Z,d.o,IK,c.o⟩
theorem ar.own {C M B:Nat}{m:Int}{A a:World}{row:Option Nat}(h:ar C M B m A)(b:A.grownBy a row)(c:∀r,row=some r->∃o:Obj,A.heap[r]? =some o/\o.isCells=false):ar C M B m a:=⟨h.1.own b c,h.2.own b c⟩
theorem ar.alloc {C M B:Nat}{m:Int}{W:World}(h:ar C M B m W)(o:Obj):ar C M B m (W.alloc o):=⟨h.1.alloc o,h.2.alloc o⟩
theorem ar.below {C M B:Nat}{m:Int}{W W':World}(h:ar C M B m W)(a:Below W.heap.size W W'):ar C M B m W':=⟨h.1.below a h.1.lt,h.2.below a h.2.lt⟩
theorem ar.ob {C M B:Nat}{m:Int}{W:World}(h:ar C M B m W){X i:Nat}(v:Value)(h1:X≠C)(h2:X≠M):ar C M B m (W.setCell ⟨X,i,none⟩ v):=⟨h.1.ob v h1,h.2.ob v h2⟩
theorem Bl {B lb C M:Nat}{s:Sc}{m:Int}{w W:World}(h:bL B lb s w)(a:Below w.heap.size w W)(c:ar C M B m W):∃b sc,Gv w.heap.size C M B s m b sc W:=by
 obtain⟨b,sc,j,k,e,f,g,i,l,d,lg⟩:=h.ats;exact⟨b,sc,c.1.1,c.2.1,(e.below a h.lt).1,(f.below a h.lt).1,(g.below a h.lt).1,(i.below a h.lt).1,d.1.below a,d.2.1,h.lt,a.size⟩
theorem ux {s:Sc}{m:Int}{L:List Sp}{k:Nat}(h:k<L.length):io s m (L.take (k+1))=io s m (L.take k)+(L[k].2-L[k].1-((s.og m L[k]).2-(s.og m L[k]).1)):=by
 induction L generalizing k with
 | nil=>simp at h
 | cons x L a =>
  cases k with
  | zero=>simp[io]
  | succ k =>
   have:=a (k:=k) IY;simp only[Nc,io,NK,this];omega
theorem zv (s:Sc)(m:Int){e:Int}{L:List Sp}(h:aJ e L=true):0<=io s m L/\io s m L<=aD L:=by
 induction L generalizing e with
 | nil=>exact⟨Lb _,Lb _⟩
 | cons x l a =>
  have h0:=aB.1 h;obtain⟨b,f2,f3⟩:=dR s m (g:=x) O;have:=a h0.2;show 0<=x.2-x.1-((s.og m x).2-(s.og m x).1)+io s m l/\x.2-x.1-((s.og m x).2-(s.og m x).1)+io s m l<=x.2-x.1+aD l;omega
def BK (S C M B:Nat)(s:Sc)(m:Int)(w:World)(k:Nat)(W:World):Prop:=At S 0 (aD s.ag+io s m (s.gaps.take k):Int) W/\ar C M B m W/\Below w.heap.size w W
theorem qX {S C M B:Nat}{s:Sc}{m:Int}{w:World}{N:Nat}(c:w.heap.size<=N):OwnFrom N (BK S C M B s m w):=fun _ _ _ _ h a b=>⟨h.1.own a (fun r e=>(b r e).2),h.2.1.own a (fun r e=>(b r e).2),ef h.2.2 a b (L6 _) c⟩
set_option maxHeartbeats 2000000 in
theorem uy (M0 C0 B lb:Nat) (s:Sc) (m:Int) (w:World) (ok:s.Ok) (cM:w.cell? M0=some (m:Y)) (cC:w.cell? C0=some (B:Y)) (h:bL B lb s w) :
  Calls Tryz.prog 182 #[M0,C0] w fun e w'=>∃v,e= .returned v/\v=(s.pipe m:Y)/\Below w.heap.size w w':=by
 have ak:=H ok;have HS:=H h;have T:=Ll cM;have U:=Ll cC;dsimp only at T U;obtain⟨sa,sc,ga,gc,-,-,-,-,⟨c4,-⟩,-,lg⟩:=h.ats;have d2:=H lg;clear ok h lg;refine(ME (n:=4)).1 ?_;refine callsIn_of_wp_marks Tryz.func182 Z trivial ?_ Z;simp only[Tryz.ntmps182,LJ,LC,M4,Nat.reduceAdd,Nat.reduceSub,Mb,Ma,Mp,Mi,LG,LT];refine Mc.2 ?_;by_cases hm:m<1
 ·go_wp2_with fail;refine gB Z ⟨_,Z,?_,L5 _ _⟩;show Value.int .i64 0=_;unfold Sc.pipe;rw[L9 hm]
 have ec:1<=m:=O
 have am:=H (show dq s.ag=aD s.ag by unfold dq;rw[L9 ak.FJ]);have b0:=aN ak.FJ;go_wp2_with fail;refine(eh w w.heap.size ga gc s.ag d2.1 (L6 _)).mono ?_;rintro e u⟨rfl,c⟩;rw[am.o];have ed:=bQ cM T c;have eg:=bQ cC U c;have f:=c.size;have ei:=H c;clear c c4;obtain⟨S,V⟩:∃S,S=u.heap.size:=⟨_,Z⟩;have X:=bg u (.cells #[(aD s.ag)] 3);have dk:=bQ ed (Ld T f) X;have dl:=bQ eg (Ld U f) X;clear X;go_wp2_with fail;refine(tU B m _).mono ?_;rintro e J⟨rfl,K,a0,j⟩;have cF:At S 0 (aD s.ag) J:=(At.new (W:=u) (i:=0) (v:=.int .i64 (aD s.ag)) (vs:= #[(aD s.ag)]) 3 V Z).below j IM;have be:Below w.heap.size w J:=(ei.alloc f _).trans (j.mono IM);obtain⟨fb,fd,cg⟩:=Bl HS.o be K;have L:=H cg;have cL:=H cF;have d3:=H be;have M:=H K;have dn:=cF.lt;have ch:S≠(u.alloc (.cells #[(aD s.ag)] 3)).heap.size:=IM
 have ci:S≠(u.alloc (.cells #[(aD s.ag)] 3)).heap.size+1:=IM
 have el:w.heap.size<=S:=O
 have dp:=K.1.lt;generalize (u.alloc (.cells #[(aD s.ag)] 3)).heap.size=C at ch ci M L dp|-;clear cg cF be K j ed eg dk dl a0;rw[<-V];clear V ei;have a1:=dn;go_wp2_with fail;refine(Mc (n:=4)).1 ?_;refine tT (n₀:=w.heap.size) O ak.o Z Z L.o none (fun _ e=>by cases e) (BK S C (C+1) B s m w) (qX O) (fun k W W' h hb=>⟨h.1.below hb h.1.lt,h.2.1.below hb,h.2.2.trans (hb.mono h.2.2.size)⟩) (fun k W b _ hc=>by obtain⟨x,v,e,-⟩:=hc;cases e) (fun k W h=>⟨h.2.1.1.1,h.2.1.2.1⟩) ?start ?round ?done
 case start =>
  refine⟨?_,M.o,d3.o⟩;rw[Nv];show At S 0 (aD s.ag+0:Int) J;rw[Int.add_zero];exact cL.o
 case round =>
  intro l k hk W hl da q;have E:=q.2.2.size;have z:=H q;have P:=H (ux (s:=s) (m:=m) hk);have b1:=zv s m (fN (bq s) k);have b2:=(aN (fN (bq s) k)).2.2;have b3:=fA (bq s) hk;have F:=dR s m (g:=s.gaps[k]) O;clear q cL M L;generalize s.og m s.gaps[k]=y at P F|-;generalize s.gaps[k]=x at P b3 F|-;obtain⟨x1,x2⟩:=x;obtain⟨y1,y2⟩:=y;dsimp only at P b3 F|-;obtain⟨ds,F⟩:=F;replace ds:=ds.symm;subst ds
  gi_wp2
  refine⟨((KeepsOthers.alloc _ _).trans (KeepsOthers.alloc _ _)).from _,((L5 _ W).alloc E _).alloc IM _,(nT.alloc (fun _ e=>by cases e) _).trans (nT.alloc (fun _ e=>by cases e) _) IK,fun _ t=>BK S C (C+1) B s m w k t/\At W.heap.size 0 x1 t/\At W.heap.size 1 x2 t/\At (W.heap.size+1) 0 x1 t/\At (W.heap.size+1) 1 y2 t,?_,⟨⟨(z.1.alloc _).alloc _,(z.2.1.alloc _).alloc _,(z.2.2.alloc E _).alloc IM _⟩,(At.new _ Z Z).alloc _,(At.new _ Z Z).alloc _,At.new _ IK Z,At.new _ IK Z⟩,?_⟩
  ·intro _ A A' row h G hr;have d:=fun r e=>(hr r e).2;exact⟨qX (N:=J.heap.size) O _ _ _ _ h.1 G hr,h.2.1.own G d,h.2.2.1.own G d,h.2.2.2.1.own G d,h.2.2.2.2.own G d⟩
  rintro t⟨cS,⟨c0,-⟩,⟨c1,-⟩,⟨d0,-⟩,⟨d1,-⟩⟩;obtain⟨s0,fs⟩:=cS.1;have ab:=H cS;clear cS z
  gi_wp2
  refine⟨(KeepsOthers.setCell _ _ _).from _,(L5 _ t).setCell (p:=⟨S,0,none⟩) el _,fun b h1 h2 h3=>⟨Below.heap_setCell _ ⟨S,0,none⟩ _ b (by show b≠S;omega),fun⟨x,v,e,_⟩=>by cases e⟩,?_,ab.2.1.ob _ ch ci,ab.2.2.setCell (p:=⟨S,0,none⟩) el _⟩;rw[P.o,<-Int.add_assoc];exact ab.1.set _
 case done =>
  intro a W hD q I;obtain⟨s0,fs⟩:=q.1;have z:=H q;have HD:=H I;have dv:w.heap.size<=a:=O
  clear q I hD cL M L;go_wp2_with fail;refine dt Z HD.o ⟨_,Z,?_,dM z.2.2 (L6 _) dv⟩;show Value.int .i64 (aD s.ag+io s m s.gaps)=_;unfold Sc.pipe;rw[L7 O]
theorem mQ (B lb:Nat)(s:Sc)(m:Int)(w:World)(ok:s.Ok)(h:bL B lb s w) :
  Calls Tryz.prog 167 #[B,m] w fun e w'=>e= .returned (s.pipe m)/\Below w.heap.size w w':=by
 have a:=(bg w (.cells #[B] 74)).alloc IK (.cells #[m] 3);have c:=H (uy (w.heap.size+1) w.heap.size B lb s m ((w.alloc (.cells #[B] 74)).alloc (.cells #[m] 3)) ok (At.new (W:=w.alloc (.cells #[B] 74)) (vs:= #[m]) 3 IK Z).1 ((At.new (W:=w) (vs:= #[B]) 74 Z Z).alloc (.cells #[m] 3)).1 (h.below a));have b:=H a;clear a h
 go_enter Tryz.func167,Tryz.ntmps167
 go_wp2_with fail;refine(qK _ _ _ _ c.o).mono ?_;rintro e d⟨v,rfl,rfl,a⟩;have cn:=H (b.trans (a.mono b.size));clear a b c;go_wp2;go_ret;exact⟨Z,cn.o⟩
end
section
open Go.RowKit Go.Shelf
attribute [local go_sem] Oper.semAt_some
theorem oy {s:Sc}{m:Int}{L:List Sp}{k:Nat}(h:k<L.length):bC ((L.take (k+1)).map (s.og m))=bC ((L.take k).map (s.og m))++(if(s.og m L[k]).1<(s.og m L[k]).2 then [s.og m L[k]]else []):=by
 rw[Lz h,LQ];unfold bC;rw[Mt,M9,Ms]
 congr 1
 by_cases a:(s.og m L[k]).1<(s.og m L[k]).2
 ·rw[L9 a,MT Jf];rfl
 rw[L7 a,MU Jf];rfl
theorem lJ (s:Sc)(m:Int)(L:List Sp):(bC (L.map (s.og m))).length<=L.length:=by
 unfold bC;exact La (M8 _ _) (by rw[LM];exact L6 _)
def Bm (A0 N C M B:Nat)(s:Sc)(m:Int)(w:World)(k:Nat)(W:World):Prop :=
 ∃v,At A0 0 v W/\aH W N v (bC ((s.gaps.take k).map (s.og m)))/\ar C M B m W/\Below w.heap.size w W
theorem xf {A0 a C M B:Nat}{s:Sc}{m:Int}{w:World}{N:Nat}(b:w.heap.size<=N):OwnFrom N (Bm A0 a C M B s m w):=fun _ _ _ _ ⟨v,h1,h2,h3,h4⟩ hg hr =>
 ⟨v,h1.own hg (fun r e=>(hr r e).2),h2.own hg (fun r e=>(hr r e).2),h3.own hg (fun r e=>(hr r e).2),ef h4 hg hr (L6 _) b⟩
set_option maxHeartbeats 2000000 in
theorem uz (M0 X B lb:Nat) (s:Sc) (m:Int) (w:World) (ok:s.Ok) (cM:w.cell? M0=some (m:Y)) (cC:w.cell? X=some (B:Y)) (h:bL B lb s w) :
  Calls Tryz.prog 164 #[M0,X] w fun e w'=>∃v,e= .returned v/\aH w' w.heap.size v (s.lost m)/\Below w.heap.size w w':=by
 have ak:=H ok;have HS:=H h;have bx:=Ll cM;have bo:=Ll cC;dsimp only at bx bo;clear ok h;refine(ME (n:=4)).1 ?_;refine callsIn_of_wp_marks Tryz.func164 Z trivial ?_ Z;simp only[Tryz.ntmps164,LJ,LC,M4,Nat.reduceAdd,Nat.reduceSub,Mb,Ma,Mp,Mi,LG,LT];refine Mc.2 ?_;by_cases hm:m<1
 ·go_wp2_with fail;refine gB Z ⟨_,Z,?_,L5 _ _⟩;unfold Sc.lost;rw[L9 hm];exact aH.nil _ _
 have ec:1<=m:=O
 have bz:=bg w (.cells #[.slice none 0 0] 51);have dk:=bQ cM bx bz;have dl:=bQ cC bo bz;clear bz;go_wp2_with fail;refine(tU B m _).mono ?_;rintro e N⟨rfl,z,b2,P⟩;have cF:At w.heap.size 0 (.slice none 0 0) N:=(At.new (W:=w) (i:=0) (v:=.slice none 0 0) (vs:= #[.slice none 0 0]) 51 Z Z).below P IK;have be:Below w.heap.size w N:=((L5 _ w).alloc (L6 _) _).trans (P.mono IK);have fe:=bQ cM bx be;have ff:=bQ cC bo be;obtain⟨fb,fd,cg⟩:=Bl HS.o be z;have bk:=H cg;have cL:=H cF;have d3:=H be;have bl:=H z;have dn:=cF.lt;have ch:w.heap.size≠(w.alloc (.cells #[.slice none 0 0] 51)).heap.size:=IK
 have ci:w.heap.size≠(w.alloc (.cells #[.slice none 0 0] 51)).heap.size+1:=IM
 have dp:=z.2.lt;generalize (w.alloc (.cells #[.slice none 0 0] 51)).heap.size=C at ch ci bl bk dp|-;clear cg cF be z P dk dl b2 cM;go_wp2_with fail;refine(Mc (n:=4)).1 ?_
 refine tT (n₀:=w.heap.size) O ak.o Z Z bk.o (some w.heap.size) (fun x e=>by cases e;exact dn) (Bm w.heap.size (N.heap.size+2) C (C+1) B s m w) (xf O) (fun k W W' ⟨v,h1,h2,S,h4⟩ j=>⟨v,h1.below j h1.lt,h2.FV j,S.below j,h4.trans (j.mono h4.size)⟩)
  (fun k W b ⟨v,h1,h2,S,h4⟩ T=>by obtain⟨x,v',e,T,K⟩:=T;cases e;rw[h1.1]at T;cases T;exact(h2.lt b K).2) (fun k W ⟨v,h1,h2,S,h4⟩=>⟨S.1.1,S.2.1⟩) ?start ?round ?done
 case start=>exact⟨_,cL.o,aH.nil _ _,bl.o,d3.o⟩
 case round =>
  rintro l k hk W hl da⟨v,hA,L,z,M⟩;have a2:=M.size;have U:=H (show At w.heap.size 0 v W/\aH W (N.heap.size+2) v (bC ((s.gaps.take k).map (s.og m)))/\ar C (C+1) B m W/\Below w.heap.size w W from⟨hA,L,z,M⟩);have HT:=H (oy (s:=s) (m:=m) hk);have em:=lJ s m (s.gaps.take k);have b3:=mA s;rw[Lg]at em;clear hA L z M cL bl bk;generalize bC ((s.gaps.take k).map (s.og m))=a at U HT em;generalize s.og m s.gaps[k]=y at HT|-;generalize s.gaps[k]=x;obtain⟨x1,x2⟩:=x;obtain⟨y1,y2⟩:=y;dsimp only at HT|-;have fk:=U.1.lt
  gi_wp2
  refine⟨(KeepsOthers.alloc _ _).from _,(L5 _ W).alloc a2 _,nT.alloc (fun x e=>by cases e;exact fk) _,fun _ g=>(At w.heap.size 0 v g/\aH g (N.heap.size+2) v a/\ar C (C+1) B m g/\Below w.heap.size w g)/\At W.heap.size 0 y1 g/\At W.heap.size 1 y2 g,?_,⟨⟨U.1.alloc _,U.2.1.alloc _,U.2.2.1.alloc _,U.2.2.2.alloc a2 _⟩,At.new _ Z Z,At.new _ Z Z⟩,?_⟩
  ·intro _ A A' row h V hr;have q:=fun r e=>(hr r e).2;exact⟨⟨h.1.1.own V q,h.1.2.1.own V q,h.1.2.2.1.own V q,ef h.1.2.2.2 V hr (L6 _) O⟩,h.2.1.own V q,h.2.2.own V q⟩
  rintro g⟨cS,⟨c0,-⟩,⟨c1,-⟩⟩;obtain⟨a0,f0⟩:=cS.1;have d:=H cS;clear cS U;by_cases hy:y1<y2
  ·have b5:W.heap.size<g.heap.size:=Ll c0
   gi_wp2_with (first | (gi_at_builtin;refine eM _ Z _ _ Z (N.heap.size+2) _ _ Z (d.2.1.alloc _) O g.heap.size (y1,y2) Z IK IK IM ?_))
   intro v' w' K f a3;obtain⟨fr,ft,a4,-⟩:=K.at Jg;have b4:At w.heap.size 0 v w':=(d.1.alloc _).grown f (fun e=>by have:=(d.2.1.lt _ e).1;omega);have d4:ar C (C+1) B m w':=⟨(d.2.2.1.1.alloc _).grown f (fun e=>by have:=(d.2.1.lt _ e).1;omega),(d.2.2.1.2.alloc _).grown f (fun e=>by have:=(d.2.1.lt _ e).1;omega)⟩;have t:Below w.heap.size g w':=((L5 w.heap.size g).alloc O _).trans (aR f IM (fun b e=>by have:=(d.2.1.lt _ e).1;omega));have E:=((KeepsOthers.alloc g (.cells #[y1,y2] 149)).trans (cx (d.2.1.alloc _) f))
   have F:v'.ownBlock≠some w.heap.size:=by
    intro e;have:=(K.lt _ e).1;omega
   obtain⟨a1,f1⟩:=b4
   have d5:nT (some w.heap.size) (N.heap.size+2) g (w'.setCell w.heap.size v'):=by
    intro b h1 h2 S;have a5:v.ownBlock≠some b:=fun e=>S ⟨_,_,Z,d.1.1,e⟩;refine⟨(Below.heap_setCell _ ⟨w.heap.size,0,none⟩ _ b (by show b≠w.heap.size;omega)).trans ((f.block b IM (fun e=>a5 e.symm)).trans (Mh _ _ _ h1)),?_⟩;rintro⟨x,u,e,T,G⟩
    cases e
    rw[NC _ _ _ a1]at T
    cases T
    rcases a3 with h | ⟨kk,h,hk⟩
    ·rw[h]at G;exact a5 G
    rw[h]at G;cases G;omega
   have HN:=H (And.intro K (And.intro F (And.intro d4 (And.intro t (And.intro E d5)))));have en:=d.2.2.2;have cn:=H en;have HF:=H f1;clear K f a3 a0 f0 c0 c1 d4 t E d5 F en d;generalize (a++[(y1,y2)]).length=nl at a4;subst a4
   gi_wp2_with fail
   obtain⟨K,F,d4,t,E,d5⟩:=HN.o;refine⟨(E.trans (KeepsOthers.setCell _ _ _)).from _,t.setCell (p:=⟨w.heap.size,0,none⟩) (L6 _) _,d5,_,(show At w.heap.size 0 v w' from⟨a1,HF.o⟩).set _,?_,d4.ob _ ch ci,(cn.trans t).setCell (p:=⟨w.heap.size,0,none⟩) (L6 _) _⟩;rw[HT.o,L9 hy];exact K.setCell _ _ _ F
  gi_wp2
  refine⟨KeepsFrom.refl _ _,L5 _ _,nT.refl _ _ _,v,d.1,?_,d.2.2⟩;rw[HT.o,L7 O,LP];exact d.2.1
 case done =>
  rintro c W hD⟨v,hA,L,z,M⟩ a6;rw[LV]at L;have cs:=H (fB s m).1;have a7:=lJ s m s.gaps;have b3:=mA s;have a9:=H (show s.lost m=dr (s.all m) s.ag from lh ec);rw[show bC (s.gaps.map (s.og m))=s.all m from Z]at L a7;generalize s.all m=VL at L a7 cs a9;obtain⟨va,vc,rfl,b0,-,-⟩:=L.at O;obtain⟨fu,fv,ga,gc,-,-,-,-,q4,-,lg⟩:=(HS.below M).ats;have d2:=H lg;have bu:=H b0;have HB:=H M;have HD:=H a6;have dv:w.heap.size<=c:=O
  have hK:=(show(fun W:World=>W.cell? w.heap.size=some (.slice va VL.length vc)/\W.cell? X=some (B:Y)/\W.cell? ⟨B,4,none⟩=some (.slice ga s.ag.length gc)) W from⟨hA.1,bQ cC bo M,q4.1⟩);clear hA L z M a6 hD cL bl bk d3 lg b0 q4 fe ff;go_wp2_with fail;refine wp_mono (Q:=gV _) ?_ (jF _);refine az (fun W:World=>W.cell? w.heap.size=some (.slice va VL.length vc)/\W.cell? X=some (B:Y)/\W.cell? ⟨B,4,none⟩=some (.slice ga s.ag.length gc)) (hK) fun I=>?_;clear hK;refine aA 0 1 2 3 ?_;refine aQ 4 ?_;refine aY 5 fun Kq b1=> ?_;go_simp;refine(iT W.drew W.heap.size va ga vc gc VL s.ag (-1) (-1) (bu.below (L5 _ W).drew) (d2.1.below (L5 _ W).drew) d2.2.1 (L6 _) cs.o ak.FJ).mono ?_;rintro e w5⟨r,rfl,hr,j⟩;have J:=j;replace j:Below W.heap.size W w5:=(L5 W.heap.size W).drew.trans j;have hK:=(show(fun W:World=>W.cell? w.heap.size=some (.slice va VL.length vc)/\W.cell? X=some (B:Y)/\W.cell? ⟨B,4,none⟩=some (.slice ga s.ag.length gc)) w5 from⟨bQ I.1 (Ll I.1) J,bQ I.2.1 (Ll I.2.1) J,bQ I.2.2 (Ll I.2.2) J⟩);have eo:=H ((j.block c (L8.1 HD.o).1).trans HD.o);have fl:=H (HB.trans (j.mono HB.size));have HR:=H (hr.mono (show w.heap.size<=W.drew.heap.size from HB.size));clear hr j J;go_simp;refine b1.out _ _ (hK) ?_;clear b1 Kq I;refine fun I=>aW ?_;clear hK;refine aQ 6 ?_;refine ay ?_ _;clear I;simp only[gV];go_wp2_with fail
  try rw[No]
  refine dt Z eo.o ⟨_,Z,?_,dM fl.o (L6 _) dv⟩;rw[a9.out];exact HR.own (grownBy_putObj' w5 c _) (fun r e=>by cases e;exact⟨_,eo.o,Z⟩)
theorem jM (B lb:Nat)(s:Sc)(m:Int)(w:World)(ok:s.Ok)(h:bL B lb s w) :
  Calls Tryz.prog 133 #[B,m] w fun e w'=>∃v,e= .returned v/\aH w' w.heap.size v (s.lost m)/\Below w.heap.size w w':=by
 have a:=(bg w (.cells #[B] 74)).alloc IK (.cells #[m] 3);have c:=H (uz (w.heap.size+1) w.heap.size B lb s m ((w.alloc (.cells #[B] 74)).alloc (.cells #[m] 3)) ok (At.new (W:=w.alloc (.cells #[B] 74)) (vs:= #[m]) 3 IK Z).1 ((At.new (W:=w) (vs:= #[B]) 74 Z Z).alloc (.cells #[m] 3)).1 (h.below a));have b:=H a;clear a h
 go_enter Tryz.func133,Tryz.ntmps133
 go_wp2_with fail;refine(qL _ _ _ _ c.o).mono ?_;rintro e g⟨v,rfl,d,a⟩;have f:=H (d.mono b.size);have cn:=H (b.trans (a.mono b.size));clear d a b c;go_wp2;go_ret;exact⟨v,Z,f.o,cn.o⟩
end
end Go.Proofs.YtcmncipikdpnbaaGreatDoor
