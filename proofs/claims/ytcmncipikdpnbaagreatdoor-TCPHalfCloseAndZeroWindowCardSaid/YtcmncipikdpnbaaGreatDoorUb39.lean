import Derived.Test.YtcmncipikdpnbaaGreatDoorUb37
import Derived.Test.YtcmncipikdpnbaaGreatDoorUb38
import Derived.Laws.ResultCell
namespace Go.Proofs.YtcmncipikdpnbaaGreatDoor
section
set_option maxHeartbeats 8000000
set_option maxRecDepth 100000
open Go.RowKit Go.Shelf
def zp (w:World)(L:List Sg)(d:Cn)(e:Ending)(w':World):Prop :=
 ∃(f:Fp) (v:Value),e= .returned (.tuple #[f.C,v,(0:Int)])/\aL w' w.heap.size v L/\kf f d w'/\Below w.heap.size w w'/\f.Hi w.heap.size
def Bb (w:World)(e:Ending)(w':World):Prop:=e= .returned (.tuple #[.pointer none,.slice none 0 0,(180:Int)])/\Below w.heap.size w w'
theorem nA.hi {f:Fp}{N:Nat}{w w':World}(h:nA f w w')(hs:N<=w.heap.size)(k:f.Hi N):Below N w w':=h.below hs k.C k.S k.T k.G k.X k.R
theorem xD (now:Int) (c:Cf) (w:World) (b:c.okB=true) (s:Gl w) (B:aI now) :
  Calls Tryz.prog 14 #[now,qK c] w (zp w (gE now c).2 (gE now c).1):=by
 have P:=H B;have U:=s.top;have E:=H (nV now c (w.alloc (.cells #[c.fp,c.tp,c.kc,c.gi,c.room,c.keep] 41)) b (s.below ((L3 eQ w).alloc s.top _)));have a:=H ((L3 w.heap.size w).alloc (L4 _) (.cells #[c.fp,c.tp,c.kc,c.gi,c.room,c.keep] 41));have F:=H (gK B b);have i:(w.alloc (.cells #[c.fp,c.tp,c.kc,c.gi,c.room,c.keep] 41)).heap[w.heap.size]? =some (.cells #[c.fp,c.tp,c.kc,c.gi,c.room,c.keep] 41):=Lp _ _;have n:w.heap.size<(w.alloc (.cells #[c.fp,c.tp,c.kc,c.gi,c.room,c.keep] 41)).heap.size:=Ky
 have V:(w.alloc (.cells #[c.fp,c.tp,c.kc,c.gi,c.room,c.keep] 41)).cell? w.heap.size=some (c.fp:Y):=Ju
 have b1:(w.alloc (.cells #[c.fp,c.tp,c.kc,c.gi,c.room,c.keep] 41)).cell? ⟨w.heap.size,1,none⟩=some (c.tp:Y):=Ju
 have b2:(w.alloc (.cells #[c.fp,c.tp,c.kc,c.gi,c.room,c.keep] 41)).cell? ⟨w.heap.size,2,none⟩=some (c.kc:Y):=Ju
 have b3:(w.alloc (.cells #[c.fp,c.tp,c.kc,c.gi,c.room,c.keep] 41)).cell? ⟨w.heap.size,3,none⟩=some (c.gi:Y):=Ju
 have b4:(w.alloc (.cells #[c.fp,c.tp,c.kc,c.gi,c.room,c.keep] 41)).cell? ⟨w.heap.size,4,none⟩=some (c.room:Y):=Ju
 have b5:(w.alloc (.cells #[c.fp,c.tp,c.kc,c.gi,c.room,c.keep] 41)).cell? ⟨w.heap.size,5,none⟩=some (c.keep:Y):=Ju
 clear i;unfold qK at E|-;obtain⟨R,I⟩:∃R,R=gE now c:=⟨_,Z⟩;rw[<-I];have u:=H (show R=(((db now c).step now 1).v6,[((db now c).step now 1).qI])from I);clear I s B
 go_enter Tryz.func14,Tryz.ntmps14
 go_wp2_with fail;clear V b1 b2 b3 b4 b5;generalize w.alloc (.cells #[c.fp,c.tp,c.kc,c.gi,c.room,c.keep] 41)=w1 at *;refine E.mono ?_;rintro e w2⟨f,rfl,b,L,hi⟩;replace a:=H (a.trans (L.mono (Nat.le_of_lt n)));have h:=H b;have J:=H (show f.Hi w.heap.size from⟨by have:=hi.C;omega,by have:=hi.S;omega,by have:=hi.T;omega,by have:=hi.G;omega,by have:=hi.X;omega,by have:=hi.R;omega⟩);clear E b L hi n;have M:=H (show(db now c).tries<=12 from(D:(0:Int)<=12));generalize db now c=d at u F h M;go_wp2_with fail;refine(cU f d now 1 _ h.o F.st D).mono ?_;rintro e w9⟨rfl,b,g⟩;replace a:=H (a.trans (g.hi a.size J.o));replace h:=H b;clear b g;have ak:=H (F.step P.o M.o 1);generalize d.step now 1=d1 at u ak h;go_wp2_with fail;refine(jy f d1 _ h.o ak.o).mono ?_;rintro e j⟨l,m,rfl,p,b,g⟩;replace a:=H (a.trans (g.hi a.size J.o));replace h:=H b;have A:=H p;clear b g p;unfold dZ;have r:=(L3 j.heap.size j).alloc (L4 _) (.cells (aY (d1.qI,l,m)).toArray 53);have K:=H (bj (aT.new j (d1.qI,l,m)));replace A:=H (A.keep r.size (.below r));replace h:=H (h.below r);replace a:=H (a.trans (r.mono a.size));clear r;go_wp2_with fail;change Calls _ _ #[Value.slice none 0 0,Value.slice (some ⟨j.heap.size,0,none⟩) [((d1.qI,l,m):cQ)].length 1] (j.alloc (.cells (aY (d1.qI,l,m)).toArray 53)) _;generalize j.heap.size=NB at K|-;generalize j.alloc (.cells (aY (d1.qI,l,m)).toArray 53)=w6 at K h a A|-;refine(cN w6 w.heap.size _ [] (cI.nil _ _) NB 0 1 [(d1.qI,l,m)] K.o (fun y hy=>by rw[Lu.1 hy];exact A.o) FE a.size).mono ?_;rintro e w8⟨v',rfl,h1,h2,-⟩;have cL:=H (h.grown h2 (fun k e=>by cases e));have cM:=H (a.trans ⟨h2.os,h2.tape,h2.output,h2.size,fun k hk=>h2.block k (Lb hk a.size) (fun e=>by cases e)⟩);have HL:=H (show aL w8 w.heap.size v' [d1.qI]from⟨_,Z,h1⟩);clear h1 h2;go_wp2_with fail
 go_ret3
 exact⟨f,v',Z,by rw[u.o];exact HL.o,by rw[u.o];exact cL.o,cM.o,J.o⟩
theorem xE (now:Int) (c:Cf) (w:World) (f:c.okB=false) :
  Calls Tryz.prog 14 #[now,qK c] w (Bb w):=by
 have b:=H (th now c (w.alloc (.cells #[c.fp,c.tp,c.kc,c.gi,c.room,c.keep] 41)) f);have a:=H ((L3 w.heap.size w).alloc (L4 _) (.cells #[c.fp,c.tp,c.kc,c.gi,c.room,c.keep] 41));unfold qK at b|-
 go_enter Tryz.func14,Tryz.ntmps14
 go_wp2_with fail;refine b.mono ?_;rintro e g⟨rfl,d⟩;replace a:=H (a.trans (d.mono a.size));clear d b;go_wp2_with fail
 go_ret3
 exact⟨Z,a.o⟩
theorem aT.oz {B:Nat}{x:cQ}{W W':World}(h:aT B x W)(a:Below W.heap.size W W'):aT B x W':=h.below a
structure Arg (w:World)(c:Cf)(x:cQ)(W:World):Prop where
 cf:W.heap[w.heap.size]? =some (.cells #[c.fp,c.tp,c.kc,c.gi,c.room,c.keep] 41)
 row:aT (w.heap.size+1) x W
 bl:bF W x.2.1 x.1.bl
 oz:Below w.heap.size w W
theorem Arg.below {w:World}{c:Cf}{x:cQ}{W W':World}(h:Arg w c x W)(a:Below W.heap.size W W'):Arg w c x W' :=
 ⟨(a.block _ (L6.1 h.cf).1).trans h.cf,h.row.below a,h.bl.keep a.size (.below a),h.oz.trans (a.mono h.oz.size)⟩
theorem Arg.cell {w:World}{c:Cf}{x:cQ}{W:World}(h:Arg w c x W)(i:Nat)(v:Value)(a:(#[c.fp,c.tp,c.kc,c.gi,c.room,c.keep]:Array Value)[i]? =some v):W.cell? ⟨w.heap.size,i,none⟩=some v:=by rw[Ln _ _ _ _ _ _ h.cf];exact a
theorem Arg.start {w:World}{c:Cf}{x:cQ}(b:bF w x.2.1 x.1.bl):Arg w c x ((w.alloc (.cells #[c.fp,c.tp,c.kc,c.gi,c.room,c.keep] 41)).alloc (.cells (aY x).toArray 53)):=by
 have h1:=(L3 w.heap.size w).alloc (L4 _) (.cells #[c.fp,c.tp,c.kc,c.gi,c.room,c.keep] 41);have hz:(w.alloc (.cells #[c.fp,c.tp,c.kc,c.gi,c.room,c.keep] 41)).heap.size=w.heap.size+1:=LX ..;have h0:=Lp w (.cells #[c.fp,c.tp,c.kc,c.gi,c.room,c.keep] 41);generalize w.alloc (.cells #[c.fp,c.tp,c.kc,c.gi,c.room,c.keep] 41)=w1 at *;have h2:=(L3 w1.heap.size w1).alloc (L4 _) (.cells (aY x).toArray 53);have a:=aT.new w1 x;rw[hz]at a;exact⟨(h2.block _ O).trans h0,a,(b.keep h1.size (.below h1)).keep h2.size (.below h2),h1.trans (h2.mono O)⟩
theorem rk (now:Int) (c:Cf) (s:Sg) (a:Option Addr) (cap:Nat) (w:World) (i:c.okB=true) (I:Gl w) (J:aI now) (hs:s.Ok) (hy:s.syn=true) (hh:s.has=false) (hp:s.fp=c.tp) (hq:s.tp=c.fp) (m:bF w a s.bl) :
  Calls Tryz.prog 26 #[now,qK c,dZ s a cap] w (zp w (cZ now c s).2 (cZ now c s).1):=by
 have HN:=H J;have K:=I.top;have HG:=H I;have c9:=H hs;have L:=H hy;have HH:=H hh;have HP:=H hp;have HQ:=H hq;have M:=H (gK J i);have dT:=H i;have d9:=(Sg.E1 s).2 hs;have b:=H (Arg.start (c:=c) (x:=(s,a,cap)) m);clear J I hs hy hh hp hq m i;unfold qK dZ;obtain⟨R,P⟩:∃R,R=cZ now c s:=⟨_,Z⟩;rw[<-P];have A:=H (show R=((((db now c).meet s).step now 2).v6,[(((db now c).meet s).step now 2).qI])from P);clear P
 go_enter Tryz.func26,Tryz.ntmps26
 go_upto_region 1 with fail
 change Code.wp _ _ _ _ ((w.alloc (.cells #[c.fp,c.tp,c.kc,c.gi,c.room,c.keep] 41)).alloc (.cells (aY (s,a,cap)).toArray 53));generalize ((w.alloc (.cells #[c.fp,c.tp,c.kc,c.gi,c.room,c.keep] 41)).alloc (.cells (aY (s,a,cap)).toArray 53))=w1 at b|-;have U:=b.row.cell 0 _ Z;have V:=b.row.cell 1 _ Z;have q2:=b.row.cell 2 _ Z;have q3:=b.row.cell 3 _ Z;have q4:=b.row.cell 4 _ Z;have q5:=b.row.cell 5 _ Z;have q6:=b.row.cell 6 _ Z;have q7:=b.row.cell 7 _ Z;have q8:=b.row.cell 8 _ Z;have q9:=b.row.cell 9 _ Z;have am:=b.row.cell 10 _ Z;have an:=b.row.cell 11 _ Z;have av:=b.row.cell 12 _ Z;go_wp2_with fail;refine(iJ s a cap _ b.bl).mono ?_;rintro e w2⟨rfl,m⟩;replace b:=H (b.below m);clear m;clear U V q2 q3 q4 q5 q6 q7 q8 q9 am an av;have r4:=(b.row.cell 4 s.syn Z).trans (by rw[L.o]);have r7:=(b.row.cell 7 s.has Z).trans (by rw[HH.o]);have r0:=b.row.cell 0 s.fp Z;have r1:=b.row.cell 1 s.tp Z;rw[HP.o]at r0;rw[HQ.o]at r1;have b0:=b.cell 0 c.fp Z;have b1:=b.cell 1 c.tp Z;have b2:=b.cell 2 c.kc Z;have b3:=b.cell 3 c.gi Z;have b4:=b.cell 4 c.room Z;have b5:=b.cell 5 c.keep Z;go_wp2_with fail;clear r4 r7 r0 r1;clear b0 b1 b2 b3 b4 b5;have HV:=H (nV now c w2 dT.o (HG.below (b.oz.mono K)));unfold qK at HV;refine HV.mono ?_;rintro e w3⟨f,rfl,i,m,hi⟩;have hz:=b.oz.size;replace b:=H (b.below m);clear m;have j:=H i;have p:=H (show f.Hi w.heap.size from⟨L8 hz hi.C,L8 hz hi.S,L8 hz hi.T,L8 hz hi.G,L8 hz hi.X,L8 hz hi.R⟩);clear HV i hi hz;have b9:=H (show((db now c).meet s).tries<=12 from(D:(0:Int)<=12));have ak:=H (M.meet c9.o L.o);generalize db now c=d at A M j b9 ak;have U:=b.row.cell 0 _ Z;have V:=b.row.cell 1 _ Z;have q2:=b.row.cell 2 _ Z;have q3:=b.row.cell 3 _ Z;have q4:=b.row.cell 4 _ Z;have q5:=b.row.cell 5 _ Z;have q6:=b.row.cell 6 _ Z;have q7:=b.row.cell 7 _ Z;have q8:=b.row.cell 8 _ Z;have q9:=b.row.cell 9 _ Z;have am:=b.row.cell 10 _ Z;have an:=b.row.cell 11 _ Z;have av:=b.row.cell 12 _ Z;go_wp2_with fail;refine(kz f d s a cap _ j.o M.o c9.o L.o).mono ?_;rintro e n⟨rfl,g,hg,i,h⟩;clear U V q2 q3 q4 q5 q6 q7 q8 q9 am an av;have l:=H (b.oz.trans (h.hi b.oz.size p.o));have ba:=H (show Fp.Hi { f with G:=g } w.heap.size from⟨p.C,p.S,p.T,L8 b.oz.size hg,p.X,p.R⟩);replace j:=H i;have a0:({ f with G:=g }:Fp).C=f.C:=Z;clear hg i h b;generalize d.meet s=d1 at A ak j b9;go_wp2_with fail;refine(cU { f with G:=g } d1 now 2 _ j.o ak.st D).mono ?_;rintro e w5⟨rfl,i,h⟩;replace l:=H (l.trans (h.hi l.size ba.o));replace j:=H i;clear i h;have bc:=H (ak.step HN.o b9.o 2);generalize d1.step now 2=d2 at A bc j;go_wp2_with fail;refine(jy { f with G:=g } d2 _ j.o bc.o).mono ?_;rintro e n⟨r,u,rfl,B,i,h⟩;replace l:=H (l.trans (h.hi l.size ba.o));replace j:=H i;have F:=H B;clear i h B a0;unfold dZ;have E:=(L3 n.heap.size n).alloc (L4 _) (.cells (aY (d2.qI,r,u)).toArray 53);have al:=H (bj (aT.new n (d2.qI,r,u)));replace F:=H (F.keep E.size (.below E));replace j:=H (j.below E);replace l:=H (l.trans (E.mono l.size));clear E;go_wp2_with fail;change Calls _ _ #[Value.slice none 0 0,Value.slice (some ⟨n.heap.size,0,none⟩) [((d2.qI,r,u):cQ)].length 1] (n.alloc (.cells (aY (d2.qI,r,u)).toArray 53)) _;generalize n.heap.size=NB at al|-;generalize n.alloc (.cells (aY (d2.qI,r,u)).toArray 53)=w6 at al j l F|-;refine(cN w6 w.heap.size _ [] (cI.nil _ _) NB 0 1 [(d2.qI,r,u)] al.o (fun y hy=>by rw[Lu.1 hy];exact F.o) FE l.size).mono ?_;rintro e w8⟨v',rfl,h1,h2,-⟩;have cL:=H (j.grown h2 (fun k e=>by cases e));have cM:=H (l.trans ⟨h2.os,h2.tape,h2.output,h2.size,fun k hk=>h2.block k (Lb hk l.size) (fun e=>by cases e)⟩);have HL:=H (show aL w8 w.heap.size v' [d2.qI]from⟨_,Z,h1⟩);clear h1 h2;go_wp2_with fail
 go_ret3
 exact⟨{ f with G:=g },v',Z,by rw[A.o];exact HL.o,by rw[A.o];exact cL.o,cM.o,ba.o⟩
end
section
set_option maxHeartbeats 8000000
set_option maxRecDepth 100000
open Go.RowKit Go.Shelf
def zq (x:Rw)(kq:List Int)(n m:Nat)(w:World)(e:Ending)(w':World):Prop :=
 ∃t,e= .returned (.tuple #[.pointer (some ⟨t.B,0,none⟩),true])/\tT w.heap.size t (eN x kq n m) w'/\Below w.heap.size w w'
def BN (a:Option Addr)(x:Rw)(kq:List Int)(n m:Nat)(w:World)(e:Ending)(w':World):Prop :=
 ∃t,e= .returned (.tuple #[.pointer (some ⟨t.B,0,none⟩),true])/\tT w.heap.size t (eN x kq n m) w'/\Below w.heap.size w w'/\t.aF=a
theorem BO (W:World)(ty:TypeId)(cs ds:List Value):tw W.heap.size ty cs ((W.alloc (.cells cs.toArray ty)).alloc (.cells ds.toArray ty))/\tw (W.heap.size+1) ty ds ((W.alloc (.cells cs.toArray ty)).alloc (.cells ds.toArray ty))/\Below W.heap.size W ((W.alloc (.cells cs.toArray ty)).alloc (.cells ds.toArray ty)):=by
 have c:=(L3 W.heap.size W).alloc (L4 _) (.cells cs.toArray ty);have d:=tw.new W ty cs;have e:(W.alloc (.cells cs.toArray ty)).heap.size=W.heap.size+1:=LX ..;generalize W.alloc (.cells cs.toArray ty)=w1 at *;have a:=(L3 w1.heap.size w1).alloc (L4 _) (.cells ds.toArray ty);have b:=tw.new w1 ty ds;rw[e]at b;exact⟨d.below a,b,c.trans (a.mono O)⟩
theorem tw.Ih {B:Nat}{ty:TypeId}{cs:List Value}{W:World}{a b c d e f:Value}(h:tw B ty cs W)(o:Nat):tw B ty ((((((cs.set o a).set (o+1) b).set (o+2) c).set (o+3) d).set (o+4) e).set (o+5) f) ((((((W.setCell ⟨B,o,none⟩ a).setCell ⟨B,o+1,none⟩ b).setCell ⟨B,o+2,none⟩ c).setCell ⟨B,o+3,none⟩ d).setCell ⟨B,o+4,none⟩ e).setCell ⟨B,o+5,none⟩ f) :=
 (((((h.set o a).set (o+1) b).set (o+2) c).set (o+3) d).set (o+4) e).set (o+5) f
theorem rm {a b c d e f:Value}{N C:Nat}{w W:World}(h:Below N w W)(g:N<=C)(o:Nat):Below N w ((((((W.setCell ⟨C,o,none⟩ a).setCell ⟨C,o+1,none⟩ b).setCell ⟨C,o+2,none⟩ c).setCell ⟨C,o+3,none⟩ d).setCell ⟨C,o+4,none⟩ e).setCell ⟨C,o+5,none⟩ f) :=
 (((((h.setCell g a).setCell g b).setCell g c).setCell g d).setCell g e).setCell g f
theorem tw.range {B:Nat}{ty:TypeId}{cs:List Value}{W:World}(h:tw B ty cs W):W.rangeAt B 0 cs:=fun j v a=>by rw[MN];exact h.cell j v a
theorem CJ {f g:Fp}{c:Cn}{w:World}(h:kf f c w)(k:g.Hi w.heap.size):kf.Hk f g :=
 ⟨by have:=h.zs.lt;have:=k.C;omega,by have:=h.BU.lt;have:=k.S;omega,by have:=h.BW.lt;have:=k.T;omega,by have:=h.BX.lt;have:=k.G;omega,by have:=h.BY.lt;have:=k.X;omega,by have:=h.Cd.lt;have:=k.R;omega⟩
theorem rn {N:Nat}{a:Option Addr}{l:List Int}{w w':World}(h:A3 N a l w)(b:Below N w w'):A3 N a l w':=tT.Db h b.block
theorem DO {f:Fp}{N:Nat}(h:f.Hi N)(k:Nat)(a:f.has k):N<=k:=by
 have:=h.C;have:=h.S;have:=h.T;have:=h.G;have:=h.X;have:=h.R;unfold Fp.has at a;omega
theorem BP {N b:Nat}{f f2:Fp}{c:Option Addr}{d:Nat}{x:Rw}{kq:List Int}{n m:Nat}{W:World}
  (g:tw b 38 [f.C,.string ⟨(dW 0 n).toArray⟩,(0:Int),.string ⟨#[]⟩,false,false,f2.C,.string ⟨(dW 1 m).toArray⟩,(0:Int),.string ⟨#[]⟩,false,false,.slice none 0 0,(0:Int),.slice c kq.length d,(0:Int),.slice none 0 0] W)
  (h1:kf f (gE 0 (ej x)).1 W)(h2:kf f2 (cZ 0 (eH x) (gG x)).1 W)(hd:kf.Hk f f2)(hf:A3 N c kq W)(h:N<=b)(k1:f.Hi N)(i:f2.Hi N)(j:eQ<=N):tT N ⟨b,f,f2,.slice none 0 0,.slice none 0 0,c,d⟩ (i9 x kq n m) W :=
 ⟨g,h1,h2,hd,rN.nil _ _,rN.nil _ _,(fun k e=>nomatch e),hf.x,(fun k a=>by
  rcases a with a | a | a | a | a
  ·rw[a];exact h
  ·exact DO k1 k a
  ·exact DO i k a
  ·cases a
  ·cases a),j⟩
theorem CK {M:List cQ}{s:Sg}(h:M.map (·.1)=[s]):∃y,M=[y]/\y.1=s:=by
 match M,h with
 | [y],h=>exact⟨y,Z,IT⟩
 | [],h=>cases h
 | _::_::_,h=>simp at h
def Cr (a:Option Addr)(b c:Nat):List Value:=[Value.pointer none,.string ⟨#[]⟩,(0:Int),.string ⟨#[]⟩,false,false,Value.pointer none,.string ⟨#[]⟩,(0:Int),.string ⟨#[]⟩,false,false,.slice none 0 0,(0:Int),.slice a b c,(0:Int),.slice none 0 0]
theorem xF (x:Rw) (kq:List Int) (E:Option Addr) (L:Nat) (n m:Nat) (w:World) (hx:x.In) (gl:Gl w) (hf:A3 w.heap.size E kq w) (hn:n<=1000) (hm:m<=1000) :
  Calls Tryz.prog 10 #[.agg (lm x).toArray,.slice E kq.length L,.int .i64 n,.int .i64 m] w (BN E x kq n m w):=by
 have HX:=H hx;have HG:=H gl;have ca:=H hf;have P:=H (uS x);have HN:=H hn;have HM:=H hm;clear hx gl hf hn hm;have I:=H (tw.new w 23 (lm x));have b:=H ((L3 w.heap.size w).alloc (L4 _) (.cells (lm x).toArray 23));obtain⟨U,a7⟩:∃U,U=kq.length:=⟨_,Z⟩;rw[<-a7];have cb:=H a7;clear a7
 go_enter Tryz.func10,Tryz.ntmps10
 go_upto_region 1 with fail
 change Code.wp _ _ _ _ (w.alloc (.cells (lm x).toArray 23));obtain⟨W0,a9⟩:∃W0,W0=w.heap.size:=⟨_,Z⟩;rw[<-a9]at I|-;clear a9;generalize w.alloc (.cells (lm x).toArray 23)=w1 at I b|-;have r0:=I.cell 0 _ Z;have r1:=I.cell 1 _ Z;have r2:=I.cell 2 _ Z;have r3:=I.cell 3 _ Z;have r4:=I.cell 4 _ Z;have r5:=I.cell 5 _ Z;go_wp2_with fail;refine(pc x _ HX.o).mono ?_;rintro e w2⟨rfl,i⟩;clear r0 r1 r2 r3 r4 r5;replace b:=H (b.trans (i.mono b.size));clear i I;dsimp only[qK]
 go_upto_region 2 with fail
 change Code.wp _ _ _ _ ((w2.alloc (.cells (rr (ej x)).toArray 41)).alloc (.cells (rr (eH x)).toArray 41));have r:=H (BO w2 41 (rr (ej x)) (rr (eH x)));replace b:=H (b.trans (r.2.2.mono b.size));obtain⟨NA,b0⟩:∃NA,NA=w2.heap.size:=⟨_,Z⟩;rw[<-b0]at r|-;clear b0;generalize (w2.alloc (.cells (rr (ej x)).toArray 41)).alloc (.cells (rr (eH x)).toArray 41)=w3 at b r|-;have F:=H r.2.1;have a0:=r.1.cell 0 _ Z;have a1:=r.1.cell 1 _ Z;have a2:=r.1.cell 2 _ Z;have a3:=r.1.cell 3 _ Z;have a4:=r.1.cell 4 _ Z;have a5:=r.1.cell 5 _ Z;go_wp2_with fail;refine(xD 0 (ej x) _ P.1 (HG.below (b.mono HG.top)) uT).mono ?_;rintro e w4⟨f,v,rfl,ho,hc,i,hi⟩;clear a0 a1 a2 a3 a4 a5 r;replace F:=H (F.below i);have HI:=H (show f.Hi w.heap.size from⟨L8 b.size hi.C,L8 b.size hi.S,L8 b.size hi.T,L8 b.size hi.G,L8 b.size hi.X,L8 b.size hi.R⟩);replace b:=H (b.trans (i.mono b.size));have V:=H hc;clear i hc hi;obtain⟨M,hM,hG⟩:=ho;obtain⟨y,rfl,hy⟩:=CK (s:=gG x) hM;obtain⟨g,b5,rfl,b4,b1,b2,b3⟩:=hG.cells FE;have HY:=H hy;have cS:=H (show w4.rangeAt g 0 (aY y)from fun j u hu=>by have:=b3 j u (by rw[show eT [y]=aY y++[]from Z,LM];exact hu);rwa [Ms]at this);have bk:=H (show bF w4 y.2.1 y.1.bl from hG.2 y FE);clear hM hG b3 hy
 go_upto_region 5 with fail
 refine az (fun W:World=>tw (NA+1) 41 (rr (eH x)) W/\W.rangeAt g 0 (aY y)) (⟨F.o,cS.o⟩) fun l=>?_;replace b:=H b.drew;replace V:=H (V.drew);replace F:=H (F.below (L3 _ _).drew);replace bk:=H (bk.keep (L4 _) (.refl _):bF w4.drew y.2.1 y.1.bl);have ax:=H (show w4.drew.rangeAt g 0 (aY y)from cS.o);have bI:w4.drew.heap.size=w4.heap.size:=Z;generalize w4.drew=w5 at b V F bk ax l bI|-;have bn:g<w5.heap.size:=by rw[bI];exact b1
 clear cS bI;refine sA 0 (rr (eH x)) (fun _ h=>tw.range h.1) Tryz.underlying41 IG ?_ (ha:=by((try simp only[Act.put,Ld,Li,Lk,rr]);(try rfl)));refine aM 1 2 ?_;refine sA 3 (aY y) (fun _ h=>h.2) Tryz.underlying53 ik ?_ (ha:=by((try simp only[Act.put,Ld,Li,Lk,aY]);(try rfl)));refine aZ 4 fun J c=> ?_;go_simp;refine(rk 0 (eH x) y.1 y.2.1 y.2.2 _ P.2 (HG.below (b.mono HG.top)) uT (by rw[HY.o];exact uU x) JF JF JF JF bk.o).mono ?_;rintro e A⟨f2,v2,rfl,ho,hc,i,hi⟩;have d0:=i.size;replace F:=H (F.below i);have ba:=H (show f2.Hi w.heap.size from⟨L8 b.size hi.C,L8 b.size hi.S,L8 b.size hi.T,L8 b.size hi.G,L8 b.size hi.X,L8 b.size hi.R⟩);have ch:=H (CJ V.o hi);have ci:=H hc;replace V:=H (V.below i);have bc:=H (show aL A w5.heap.size v2 [(fP 0 (eH x) (gG x)).qI]from by rw[<-HY.o];exact ho);have bo:=H (show A.rangeAt g 0 (aY y)from fun j u hu=>(i.cell (p:=⟨g,0+j,none⟩) bn).trans (ax.o j u hu));replace b:=H (b.trans (i.mono b.size));clear i hi hc ho ax;go_simp;refine c.out _ _ (⟨F.o,bo.o⟩) ?_;clear c J l;refine fun l=>aW ?_;refine aA 5 6 7 8 ?_;refine aM 9 10 ?_;refine aQ 11 ?_;refine ay ?_ _;clear l bo F bk b1 b4 b2 bn;have bu:=H (show kf f2 (cZ 0 (eH x) (gG x)).1 A from by rw[<-HY.o];exact ci.o);clear ci HY
 go_upto_region 9 with fail
 change Code.wp _ _ _ _ (A.alloc (.cells (Cr E U L).toArray 38));have a:=H (tw.new A 38 (Cr E U L));have d:=H ((L3 A.heap.size A).alloc (L4 _) (.cells (Cr E U L).toArray 38));generalize cC:A.heap.size=PB at a d|-;have K:=H cC;clear cC;generalize A.alloc (.cells (Cr E U L).toArray 38)=w7 at a d|-;refine az (fun _:World=>True) (trivial) fun l=>?_;replace a:=H (a.below (L3 _ _).drew);replace d:=H d.drew;generalize w7.drew=Ie at a d l|-;refine aA 0 1 2 5 ?_;refine aQ 6 ?_;refine aZ 3 fun J c=> ?_;go_simp;refine(rM 0 n _ (.inl Z) HN.o).mono ?_;rintro e wp⟨rfl,i⟩;replace a:=H (a.below i);replace d:=H (d.trans (i.mono (by have h9:=d.size;rw[K.o]at h9;exact h9)));clear i;go_simp;refine c.out _ _ (trivial) ?_;clear c J l;refine fun l=>aW ?_;refine aM 4 7 ?_;refine aZ 8 fun J c=> ?_;have cT:=a.free 0;have cV:=a.free 1;have cX:=a.free 2;have cY:=a.free 3;have c0:=a.free 4;have c1:=a.free 5;have c2:=a.cell 0 _ Z;have c3:=a.cell 1 _ Z;have c4:=a.cell 2 _ Z;have c5:=a.cell 3 _ Z;have c6:=a.cell 4 _ Z;have c7:=a.cell 5 _ Z;go_simp;clear cT c2 cV c3 cX c4 cY c5 c0 c6 c1 c7;have b6:=H (show tw PB 38 ([f.C,.string ⟨(dW 0 n).toArray⟩,(0:Int),.string ⟨#[]⟩,false,false,Value.pointer none,.string ⟨#[]⟩,(0:Int),.string ⟨#[]⟩,false,false,.slice none 0 0,(0:Int),.slice E U L,(0:Int),.slice none 0 0]) ((((((wp.setCell PB f.C).setCell ⟨PB,1,none⟩ (.string ⟨(dW 0 n).toArray⟩)).setCell ⟨PB,2,none⟩ (0:Int)).setCell ⟨PB,3,none⟩ (.string ⟨#[]⟩)).setCell ⟨PB,4,none⟩ false).setCell ⟨PB,5,none⟩ false)from a.Ih 0);have b7:=H (show Below PB A ((((((wp.setCell PB f.C).setCell ⟨PB,1,none⟩ (.string ⟨(dW 0 n).toArray⟩)).setCell ⟨PB,2,none⟩ (0:Int)).setCell ⟨PB,3,none⟩ (.string ⟨#[]⟩)).setCell ⟨PB,4,none⟩ false).setCell ⟨PB,5,none⟩ false)from rm d.o (L4 _) 0);generalize ((((((wp.setCell PB f.C).setCell ⟨PB,1,none⟩ (.string ⟨(dW 0 n).toArray⟩)).setCell ⟨PB,2,none⟩ (0:Int)).setCell ⟨PB,3,none⟩ (.string ⟨#[]⟩)).setCell ⟨PB,4,none⟩ false).setCell ⟨PB,5,none⟩ false)=w8 at b6 b7|-;clear a d;have a:=b6;have d:=b7;clear b6 b7;refine c.out _ _ (trivial) ?_;clear c J l;refine fun l=>aW ?_;refine ay ?_ _;clear l
 go_upto_region 10 with fail
 refine az (fun _:World=>True) (trivial) fun l=>?_;replace a:=H (a.below (L3 _ _).drew);replace d:=H d.drew;generalize w8.drew=IF at a d l|-;refine aA 0 1 2 5 ?_;refine aQ 6 ?_;refine aZ 3 fun J c=> ?_;go_simp;refine(rM 1 m _ (.inr Z) HM.o).mono ?_;rintro e wp⟨rfl,i⟩;replace a:=H (a.below i);replace d:=H (d.trans (i.mono (by have h9:=d.size;rw[K.o]at h9;exact h9)));clear i;go_simp;refine c.out _ _ (trivial) ?_;clear c J l;refine fun l=>aW ?_;refine aM 4 7 ?_;refine aZ 8 fun J c=> ?_;have cT:=a.free 6;have cV:=a.free 7;have cX:=a.free 8;have cY:=a.free 9;have c0:=a.free 10;have c1:=a.free 11;have c2:=a.cell 6 _ Z;have c3:=a.cell 7 _ Z;have c4:=a.cell 8 _ Z;have c5:=a.cell 9 _ Z;have c6:=a.cell 10 _ Z;have c7:=a.cell 11 _ Z;go_simp;clear cT c2 cV c3 cX c4 cY c5 c0 c6 c1 c7;have b6:=H (show tw PB 38 ([f.C,.string ⟨(dW 0 n).toArray⟩,(0:Int),.string ⟨#[]⟩,false,false,f2.C,.string ⟨(dW 1 m).toArray⟩,(0:Int),.string ⟨#[]⟩,false,false,.slice none 0 0,(0:Int),.slice E U L,(0:Int),.slice none 0 0]) ((((((wp.setCell ⟨PB,6,none⟩ f2.C).setCell ⟨PB,7,none⟩ (.string ⟨(dW 1 m).toArray⟩)).setCell ⟨PB,8,none⟩ (0:Int)).setCell ⟨PB,9,none⟩ (.string ⟨#[]⟩)).setCell ⟨PB,10,none⟩ false).setCell ⟨PB,11,none⟩ false)from a.Ih 6);have b7:=H (show Below PB A ((((((wp.setCell ⟨PB,6,none⟩ f2.C).setCell ⟨PB,7,none⟩ (.string ⟨(dW 1 m).toArray⟩)).setCell ⟨PB,8,none⟩ (0:Int)).setCell ⟨PB,9,none⟩ (.string ⟨#[]⟩)).setCell ⟨PB,10,none⟩ false).setCell ⟨PB,11,none⟩ false)from rm d.o (L4 _) 6);generalize ((((((wp.setCell ⟨PB,6,none⟩ f2.C).setCell ⟨PB,7,none⟩ (.string ⟨(dW 1 m).toArray⟩)).setCell ⟨PB,8,none⟩ (0:Int)).setCell ⟨PB,9,none⟩ (.string ⟨#[]⟩)).setCell ⟨PB,10,none⟩ false).setCell ⟨PB,11,none⟩ false)=w9 at b6 b7|-;clear a d;have a:=b6;have d:=b7;clear b6 b7;refine c.out _ _ (trivial) ?_;clear c J l;refine fun l=>aW ?_;refine ay ?_ _;clear l;have cl:=H (show tT w.heap.size ⟨PB,f,f2,.slice none 0 0,.slice none 0 0,E,L⟩ (i9 x kq n m) w9 from BP (by rw[<-cb.o];exact a.o) (V.below (by rw[K.o];exact d.o)) (bu.out.below (by rw[K.o];exact d.o)) ch.o (rn ca.o (b.trans (d.mono (by rw[<-K.o];exact b.size)))) (by rw[<-K.o];exact b.size) HI.o ba.o HG.top);replace bc:=H (bc.below (by rw[K.o];exact d.o));have cn:=H (b.trans (d.mono (by rw[<-K.o];exact b.size)));clear a V bu ch ca HI ba d K cb b HG HX P HN HM;go_wp2_with fail;have bv:=cO w.heap.size _ _ true _ _ _ _ cl.o bc.o (by show 0+1<=500000000000;decide) (by show 0+2*1<=500000000000;decide) (by show 0+1<=1000000000000;decide) ⟨L9 _,by show(0:Int)<=1000000;decide⟩;refine bv.mono ?_;rintro e wz⟨rfl,t,k⟩;clear bv;have P:=H k;clear k;go_wp2_with fail;have d3:t.B=PB:=P.eB
 go_ret2
 refine⟨t,by rw[d3];rfl,P.pa,cn.trans (P.fr.below cn.size cl.lo),P.eC.2.2⟩
theorem nW (x:Rw)(kq:List Int)(d:Option Addr)(e:Nat)(n m:Nat)(w:World)(hx:x.In)(f:Gl w)(hf:A3 w.heap.size d kq w)(g:n<=1000)(hm:m<=1000) :
  Calls Tryz.prog 10 #[.agg (lm x).toArray,.slice d kq.length e,.int .i64 n,.int .i64 m] w (zq x kq n m w) :=
 (xF x kq d e n m w hx f hf g hm).mono fun _ _ h=>let ⟨t,a,b,c,_⟩:=h;⟨t,a,b,c⟩
end
section
open Go.RowKit Go.Shelf
structure Pz (N:Nat)(t:Ft)(w:World)(X:Nat)(o:Obj)(t1:Ft)(q:Pr)(W:World):Prop where
 st:pE N t w t1 q W
 row:W.heap[X]? =some o
 nd:¬t1.D X
 lo:w.heap.size<=X
namespace Pz
variable {N X : Nat} {o : Obj} {t t1 t2 : Ft} {q q' : Pr} {w W W' : World}
theorem lt (h:Pz N t w X o t1 q W):X<W.heap.size:=(L6.1 h.row).1
theorem new (h:pE N t w t1 q W)(o:Obj):Pz N t w W.heap.size o t1 q (W.alloc o) :=
 ⟨h.oz ((L3 W.heap.size W).alloc (L4 _) _),Lp _ _,fun e=>MD _ (h.pa.Gz _ e).1,h.size⟩
theorem oz (h:Pz N t w X o t1 q W)(a:Below W.heap.size W W'):Pz N t w X o t1 q W':=⟨h.st.oz a,(a.block X h.lt).trans h.row,h.nd,h.lo⟩
theorem step (h:Pz N t w X o t1 q W)(k:pE N t1 W t2 q' W'):Pz N t w X o t2 q' W' :=
 ⟨h.st.trans k,(k.fr.block X h.lt h.nd).trans h.row,fun e=>by
  rcases k.sub X e with h1 | h1
  ·exact h.nd h1
  ·exact MD _ (Lb h.lt h1),h.lo⟩
end Pz
theorem ti:∀(k:Nat) (p:Pr),Pr.ticks (k+1) p=(Pr.ticks k p).tick:=by
 intro k
 induction k with
 | zero=>intro p;rfl
 | succ k a=>intro p;exact a p.tick
end
section
set_option maxHeartbeats 8000000
set_option maxRecDepth 100000
open Go.RowKit Go.Shelf
theorem tu (w:World):Calls Tryz.prog 18 #[.pointer none] w fun e w'=>e= .returned (0:Int)/\w=w':=by
 go_enter Tryz.func18,Tryz.ntmps18
 go_wp2
 go_ret;exact⟨Z,Z⟩
theorem zr (w:World):Calls Tryz.prog 25 #[.pointer none] w fun e w'=>e= .returned (1:Int)/\w=w':=by
 go_enter Tryz.func25,Tryz.ntmps25
 go_wp2
 go_ret;exact⟨Z,Z⟩
theorem jE {fn:Func}{p u:Tmp}{t:TypeId}(h:fn.results= #[.cell p t,.tmp u])(tmps:Array Value)(P:Program)(w:World)(a:Addr)(v:Value)
  (c:tmps.getD p undef= .pointer (some a))(d:(loadVar t a).run P w= .ok v w) :
  (results fn tmps).run P w= .ok (.tuple #[v,tmps.getD u undef]) w:=by
 have b:tmps[p]?.getD undef= .pointer (some a):=by simpa using c
 simp[results,h,b,asAddr,d,Result.andThen]
structure GC (w:World)(x y:cQ)(W:World):Prop where
 p:aT w.heap.size x W
 r:aT (w.heap.size+1) y W
 oz:Below w.heap.size w W
namespace GC
variable {x y z : cQ} {w W W' : World}
theorem start (x:cQ)(w:World):GC w x (dH,none,0) ((w.alloc (.cells (aY x).toArray 53)).alloc (.cells (aY (dH,none,0)).toArray 53)):=by
 have c:=(L3 w.heap.size w).alloc (L4 _) (.cells (aY x).toArray 53);have d:=aT.new w x;have e:(w.alloc (.cells (aY x).toArray 53)).heap.size=w.heap.size+1:=LX ..;generalize w.alloc (.cells (aY x).toArray 53)=w1 at *;have a:=(L3 w1.heap.size w1).alloc (L4 _) (.cells (aY (dH,none,0)).toArray 53);have b:=aT.new w1 (dH,none,0);rw[e]at b;exact⟨d.below a,b,c.trans (a.mono O)⟩
theorem below (h:GC w x y W)(a:Below W.heap.size W W'):GC w x y W':=⟨h.p.below a,h.r.below a,h.oz.trans (a.mono h.oz.size)⟩
theorem put (h:GC w x y W)(z:cQ):GC w x z (du W (w.heap.size+1) z) :=
 have a:=eE W (w.heap.size+1) z
 ⟨h.p.BS a O,h.r.put,h.oz.trans ⟨a.os,a.tape,a.output,a.size,fun k b=>a.block k (Lb b h.oz.size) O⟩⟩
end GC
theorem qB (s:Sg) (a:Option Addr) (cap:Nat) (w:World) (c:oB w w.heap.size a s.bl) (h:s.okB=false\/s.qa=true) :
  Calls Tryz.prog 27 #[dZ s a cap] w fun e w'=>e= .returned (.tuple #[dZ dH none 0,false])/\Below w.heap.size w w':=by
 have b:=H (GC.start (s,a,cap) w);have d4:=H c;clear c;unfold dZ
 go_enter Tryz.func27,Tryz.ntmps27
 go_upto_region 1 with fail
 change Code.wp _ _ _ _ ((w.alloc (.cells (aY (s,a,cap)).toArray 53)).alloc (.cells (aY (dH,none,0)).toArray 53));generalize (w.alloc (.cells (aY (s,a,cap)).toArray 53)).alloc (.cells (aY (dH,none,0)).toArray 53)=w1 at b|-;have j:=b.p.cell 0 _ Z;have k:=b.p.cell 1 _ Z;have l:=b.p.cell 2 _ Z;have m:=b.p.cell 3 _ Z;have n:=b.p.cell 4 _ Z;have A:=b.p.cell 5 _ Z;have B:=b.p.cell 6 _ Z;have C:=b.p.cell 7 _ Z;have E:=b.p.cell 8 _ Z;have F:=b.p.cell 9 _ Z;have G:=b.p.cell 10 _ Z;have an:=b.p.cell 11 _ Z;have I:=b.p.cell 12 _ Z;go_wp2_with fail;refine(kK s w.heap.size a cap w1 (d4.below b.oz) b.oz.size).mono ?_;rintro e d⟨rfl,i⟩;replace b:=H (b.below i);clear i;clear j k l m n A B C E F G an I
 cases ho:s.okB with
 | false =>
  have J:=b.r.free 0;have K:=b.r.free 1;have f2:=b.r.free 2;have f3:=b.r.free 3;have L:=b.r.free 4;have M:=b.r.free 5;have f6:=b.r.free 6;have P:=b.r.free 7;have S:=b.r.free 8;have T:=b.r.free 9;have f:=b.r.free 10;have g:=b.r.free 11;have d5:=b.r.free 12;have U:=b.r.cell 0 _ Z;have V:=b.r.cell 1 _ Z;have z2:=b.r.cell 2 _ Z;have z3:=b.r.cell 3 _ Z;have z4:=b.r.cell 4 _ Z;have z5:=b.r.cell 5 _ Z;have z6:=b.r.cell 6 _ Z;have z7:=b.r.cell 7 _ Z;have z8:=b.r.cell 8 _ Z;have z9:=b.r.cell 9 _ Z;have c8:=b.r.cell 10 _ Z;have d6:=b.r.cell 11 _ Z;have d7:=b.r.cell 12 _ Z;go_wp2_with fail;change bodyPost _ _ _ _ _ (du d (w.heap.size+1) (dH,none,0));replace b:=H (b.put (dH,none,0));generalize du d (w.heap.size+1) (dH,none,0)=w3 at b|-;exact Lm (v:=.tuple #[dZ (dH) none 0,false]) (jE (p:=2) (u:=3) Z _ _ _ ⟨w.heap.size+1,0,none⟩ _ Z (NM _ _ _ _ _ _ _ b.r Tryz.underlying53 Z IG)) Z ⟨Z,b.oz⟩
 | true =>
  have hr:s.qa=true:=by rcases h with h | h;rw[ho]at h;cases h;exact h
  have r6:=(b.p.cell 6 s.qa Z).trans (by rw[hr]);have J:=b.r.free 0;have K:=b.r.free 1;have f2:=b.r.free 2;have f3:=b.r.free 3;have L:=b.r.free 4;have M:=b.r.free 5;have f6:=b.r.free 6;have P:=b.r.free 7;have S:=b.r.free 8;have T:=b.r.free 9;have f:=b.r.free 10;have g:=b.r.free 11;have d5:=b.r.free 12;have U:=b.r.cell 0 _ Z;have V:=b.r.cell 1 _ Z;have z2:=b.r.cell 2 _ Z;have z3:=b.r.cell 3 _ Z;have z4:=b.r.cell 4 _ Z;have z5:=b.r.cell 5 _ Z;have z6:=b.r.cell 6 _ Z;have z7:=b.r.cell 7 _ Z;have z8:=b.r.cell 8 _ Z;have z9:=b.r.cell 9 _ Z;have c8:=b.r.cell 10 _ Z;have d6:=b.r.cell 11 _ Z;have d7:=b.r.cell 12 _ Z;go_wp2_with fail;change bodyPost _ _ _ _ _ (du d (w.heap.size+1) (dH,none,0));replace b:=H (b.put (dH,none,0));generalize du d (w.heap.size+1) (dH,none,0)=w3 at b|-;exact Lm (v:=.tuple #[dZ (dH) none 0,false]) (jE (p:=2) (u:=3) Z _ _ _ ⟨w.heap.size+1,0,none⟩ _ Z (NM _ _ _ _ _ _ _ b.r Tryz.underlying53 Z IG)) Z ⟨Z,b.oz⟩
end
section
set_option maxHeartbeats 8000000
set_option maxRecDepth 100000
open Go.RowKit Go.Shelf
theorem CL:xP.In:=⟨uT,uT,uT,uT,uT,uT⟩
theorem A3.nil (N:Nat)(w:World):A3 N none [] w:=⟨D,(fun x h=>nomatch h),fun h=>absurd h D⟩
theorem xG:((rz.a.c.st=1/\rz.b.c.st=2/\xR.a.c.st=3/\uq.b.c.st=3)/\je.b.got=[97,104,111]/\je.b.fin=true/\je.b.c.st=8)/\ol.a.c.st=0/\ol.b.c.st=0/\ol.a.c.err=0/\ol.b.c.err=0:=by
 have h:=Be;rw[Ly,Ly,Ly,Ly,Lh,Lh,Lh,Lh]at h;exact⟨⟨h.1.1.1.1,h.1.1.1.2,h.1.1.2,h.1.2⟩,h.2⟩
theorem qC (now:Int) (c:Cf) (s:Sg) (a:Option Addr) (cap:Nat) (w:World) (hs:s.okB=false) (d:bF w a s.bl) :
  Calls Tryz.prog 26 #[now,qK c,dZ s a cap] w (Bb w):=by
 have f:=H hs;have b:=H (Arg.start (c:=c) (x:=(s,a,cap)) d);clear hs d;unfold qK dZ
 go_enter Tryz.func26,Tryz.ntmps26
 go_upto_region 1 with fail
 change Code.wp _ _ _ _ ((w.alloc (.cells #[c.fp,c.tp,c.kc,c.gi,c.room,c.keep] 41)).alloc (.cells (aY (s,a,cap)).toArray 53));generalize ((w.alloc (.cells #[c.fp,c.tp,c.kc,c.gi,c.room,c.keep] 41)).alloc (.cells (aY (s,a,cap)).toArray 53))=w1 at b|-;have g:=b.row.cell 0 _ Z;have h:=b.row.cell 1 _ Z;have i:=b.row.cell 2 _ Z;have j:=b.row.cell 3 _ Z;have k:=b.row.cell 4 _ Z;have l:=b.row.cell 5 _ Z;have m:=b.row.cell 6 _ Z;have n:=b.row.cell 7 _ Z;have p:=b.row.cell 8 _ Z;have r:=b.row.cell 9 _ Z;have u:=b.row.cell 10 _ Z;have an:=b.row.cell 11 _ Z;have A:=b.row.cell 12 _ Z;go_wp2_with fail;refine(iJ s a cap _ b.bl).mono ?_;rintro e B⟨rfl,d⟩;replace b:=H (b.below d);clear d g h i j k l m n p r u an A;rw[f.o];go_wp2_with fail
 go_ret3
 exact⟨Z,b.oz⟩
theorem xH (w:World) (M:Gl w):Calls Tryz.prog 8 #[] w fun e w'=>e= .returned true/\Below w.heap.size w w':=by
 have HG:=H M;have HM:=nW xP [] none 0 3 0 w CL M (A3.nil _ _) D D;have G:=H (eK xP);have s:=H (kO xP [] 3 0 D D D);obtain⟨⟨⟨e1,e2,e3,e4⟩,e5,e6,e7⟩,e8,e9,P,S⟩:=xG;clear M;have s:=H (show Pr.Al (cG xP) rz 0 from s.out);have C:=H (show Pr.Al (cG xP) xR (0+1)from s.out.tick D D G.o);have I:=H (show Pr.Al (cG xP) uq (0+1+1)from C.out.tick D D G.o);have bd:=H (I.out.send false 3);have E:=H (show Pr.Al (cG xP) xS (0+1+1+1+1)from bd.out.tick D D G.o);have J:=H (E.out.recv true (k:=9) D);have be:=H (J.out.shut false);have F:=H (show Pr.Al (cG xP) AM (0+1+1+1+1+1+1+1)from be.out.tick D D G.o);have K:=H (F.out.recv true (k:=9) D);have A5:=H (show Pr.Al (cG xP) je (0+1+1+1+1+1+1+1+1+1)from K.out.shut true)
 go_enter Tryz.func8,Tryz.ntmps8
 go_wp2_with fail;refine HM.mono ?_;rintro e n⟨t,rfl,A,p⟩;have c:=H (show pE w.heap.size t n t rz n from pE.start A);have T:=H p;have d8:=H A;clear HM A p;have m:=c.cell 0 _ Z;go_wp2_with fail;refine(bT _ _ _ c.pa.a).mono ?_;rintro e f⟨rfl,rfl⟩;clear m;rw[e1];have m:=c.cell 6 _ Z;go_wp2_with fail;refine(bT _ _ _ c.pa.b).mono ?_;rintro e f⟨rfl,rfl⟩;clear m;rw[e2];have d:=ct _ _ _ _ _ _ c.pa s.out.run.1 (s.out.Di D).1 (s.out.Di D).2 s.out.ml (by have:=s.out.run.2;omega);rw[c.eB]at d;go_wp2_with fail;refine d.mono ?_;rintro e f⟨rfl,l,i⟩;have j:=H (show pE w.heap.size t n l xR f from c.trans i);clear d c i;have c:=j;clear j;have m:=c.cell 0 _ Z;go_wp2_with fail;refine(bT _ _ _ c.pa.a).mono ?_;rintro e f⟨rfl,rfl⟩;clear m;rw[e3];have d:=ct _ _ _ _ _ _ c.pa C.out.run.1 (C.out.Di D).1 (C.out.Di D).2 C.out.ml (by have:=C.out.run.2;omega);rw[c.eB]at d;go_wp2_with fail;refine d.mono ?_;rintro e f⟨rfl,l,i⟩;have j:=H (show pE w.heap.size t n l uq f from c.trans i);clear d c i;have c:=j;clear j;have m:=c.cell 6 _ Z;go_wp2_with fail;refine(bT _ _ _ c.pa.b).mono ?_;rintro e f⟨rfl,rfl⟩;clear m;rw[e4];have d:=j8 _ _ _ false 3 _ _ _ c.pa I.out.run.1 (I.out.Di D).1 (I.out.Di D).2 I.out.ml D;rw[c.eB]at d;go_wp2_with fail;refine d.mono ?_;rintro e f⟨rfl,l,i⟩;have j:=H (show pE w.heap.size t n l (uq.send false 3) f from c.trans i);clear d c i;have c:=j;clear j;have d:=ct _ _ _ _ _ _ c.pa bd.out.run.1 (bd.out.Di D).1 (bd.out.Di D).2 bd.out.ml (by have:=bd.out.run.2;omega);rw[c.eB]at d;go_wp2_with fail;refine d.mono ?_;rintro e f⟨rfl,l,i⟩;have j:=H (show pE w.heap.size t n l xS f from c.trans i);clear d c i;have c:=j;clear j;have d:=eF _ _ _ true 9 _ _ _ c.pa E.out.run.1 (E.out.Di D).1 (E.out.Di D).2 E.out.ml D (L8 (E.out.got true) D);rw[c.eB]at d;go_wp2_with fail;refine d.mono ?_;rintro e f⟨rfl,l,i⟩;have j:=H (show pE w.heap.size t n l (xS.recv true 9) f from c.trans i);clear d c i;have c:=j;clear j;have d:=iK _ _ _ false _ _ _ c.pa J.out.run.1 (J.out.Di D).1 (J.out.Di D).2 J.out.ml;rw[c.eB]at d;go_wp2_with fail;refine d.mono ?_;rintro e f⟨rfl,l,i⟩;have j:=H (show pE w.heap.size t n l ((xS.recv true 9).shut false) f from c.trans i);clear d c i;have c:=j;clear j;have d:=ct _ _ _ _ _ _ c.pa be.out.run.1 (be.out.Di D).1 (be.out.Di D).2 be.out.ml (by have:=be.out.run.2;omega);rw[c.eB]at d;go_wp2_with fail;refine d.mono ?_;rintro e f⟨rfl,l,i⟩;have j:=H (show pE w.heap.size t n l AM f from c.trans i);clear d c i;have c:=j;clear j;have d:=eF _ _ _ true 9 _ _ _ c.pa F.out.run.1 (F.out.Di D).1 (F.out.Di D).2 F.out.ml D (L8 (F.out.got true) D);rw[c.eB]at d;go_wp2_with fail;refine d.mono ?_;rintro e f⟨rfl,l,i⟩;have j:=H (show pE w.heap.size t n l (AM.recv true 9) f from c.trans i);clear d c i;have c:=j;clear j;have d:=iK _ _ _ true _ _ _ c.pa K.out.run.1 (K.out.Di D).1 (K.out.Di D).2 K.out.ml;rw[c.eB]at d;go_wp2_with fail;refine d.mono ?_;rintro e f⟨rfl,l,i⟩;have j:=H (show pE w.heap.size t n l je f from c.trans i);clear d c i;have c:=j;clear j;have z9:=(c.cell 9 (.string ⟨je.b.got.toArray⟩) Z).trans (show _=some (Value.string ⟨#[97,104,111]⟩) by rw[e5]);have c8:=(c.cell 10 je.b.fin Z).trans (by rw[e6]);have m:=c.cell 6 _ Z;go_wp2_with fail;refine(bT _ _ _ c.pa.b).mono ?_;rintro e f⟨rfl,rfl⟩;clear m;rw[e7];clear z9 c8;go_wp2_with fail
 go_loopg [7] 70 (fun g iv wr=>∃(k:Nat) (U:Ft),iv=((k:Int):Y)/\g+k=70/\pE w.heap.size t n U (Pr.ticks k je) wr)
 case atStart=>exact⟨0,_,Z,O,c.o⟩
 case round =>
  obtain⟨k,U,rfl,da,L⟩:=hrel;clear c;have c:=H L;clear L;have B:=H ((Pr.Al.E5 G.o k A5.out D O).2);by_cases hk:k<70
  ·have cq:=H (ti k je);generalize Pr.ticks k je=pk at c B cq;have d:=ct _ _ _ _ _ _ c.pa B.run.1 (B.Di O).1 (B.Di O).2 B.ml (by have:=B.run.2;omega);rw[c.eB]at d;have dc:(k:Int)<70:=by omega
   go_wp2_with fail;refine d.mono ?_;rintro e f⟨rfl,l,i⟩;have j:=H (c.trans i);clear d c i;have c:=j;clear j;go_wp2_with fail
   go_roundg (gk-1)
   case measure=>omega
   case rel=>exact⟨k+1,l,IY,O,by rw[cq.o];exact c.o⟩
  have V:k=70:=O
  subst V;have cw:=H (show pE w.heap.size t n U ol wr from c.o);clear c;have c:=cw;clear cw B;have m:=c.cell 0 _ Z;go_wp2_with fail;refine(bT _ _ _ c.pa.a).mono ?_;rintro e f⟨rfl,rfl⟩;clear m;rw[e8];have m:=c.cell 6 _ Z;go_wp2_with fail;refine(bT _ _ _ c.pa.b).mono ?_;rintro e f⟨rfl,rfl⟩;clear m;rw[e9];have m:=c.cell 0 _ Z;go_wp2_with fail;refine(rD _ _ _ c.pa.a).mono ?_;rintro e f⟨rfl,rfl⟩;clear m;rw[P];have m:=c.cell 6 _ Z;go_wp2_with fail;refine(rD _ _ _ c.pa.b).mono ?_;rintro e f⟨rfl,rfl⟩;clear m;rw[S];have r:=H (T.trans (c.fr.below T.size d8.lo));clear c T;have u:=xE 0 ⟨0,0,0,0,0,0⟩ wr D;go_wp2_with fail;refine u.mono ?_;rintro e wo⟨rfl,p⟩;replace r:=H (r.trans (p.mono r.size));clear p u;have u:=qC 0 ⟨0,0,0,0,0,0⟩ dH none 0 wo D (bF.nil _ _);go_wp2_with fail;refine u.mono ?_;rintro e wp⟨rfl,p⟩;replace r:=H (r.trans (p.mono r.size));clear p u;have u:=qB ⟨1,2,0,0,false,false,true,false,0,0,false,[],[]⟩ none 0 wp ⟨D,fun h=>absurd h D⟩ (.inr Z);go_wp2_with fail;refine u.mono ?_;rintro e a0⟨rfl,p⟩;replace r:=H (r.trans (p.mono r.size));clear p u;dsimp only[dZ,dH];go_wp2_with fail;refine(tu _).mono ?_;rintro e f⟨rfl,rfl⟩;go_wp2_with fail;refine(zr _).mono ?_;rintro e f⟨rfl,rfl⟩;go_wp2;go_ret;exact⟨Z,r.alloc r.size _⟩
end
section
open Go.ChangeShapes Go.WideShapes Go.ChangeAt Go.RowKit
theorem A3.mono {N c:Nat}{a:Option Addr}{l:List Int}{w:World}(h:A3 N a l w)(d:N<=c):A3 c a l w :=
 ⟨h.small,h.zu,fun f=>by
  obtain⟨b,o,e,g,i⟩:=h.cells f;exact⟨b,o,e,Lb g d,i⟩⟩
theorem A3.GN {w:World}{a:Option Addr}{len cap K:Nat}{c:List Int}(h:mX .i64 w a len cap c)(n:K<=len)(hS:K<=1000):A3 w.heap.size a (c.take K) w/\(c.take K).length=K:=by
 have hlen:K<=c.length:=by
  rcases h with⟨-,h1,h2,f⟩ | ⟨x,-,h1,h2,f,-⟩ <;> omega
 have d:(c.take K).length=K:=IS
 refine⟨⟨by rw[d];exact hS,fun x g=> ?_,fun j=> ?_⟩,d⟩
 ·rcases h with⟨-,-,-,f⟩ | ⟨y,-,-,-,-,-,k⟩
  ·rw[f]at g;simp at g
  exact bounds_i64 (k x (Ni g))
 rw[d]at j;obtain⟨b,off,e,-,l,m⟩:=h.at O;refine⟨b,off,e,l,fun i hi=> ?_⟩;rw[d]at hi;have:=(m i O).1;rw[this,Nw,List.getD_eq_getElem?_getD,Na O];rfl
theorem BQ {w:World}{a:Option Addr}{len cap:Nat}{b:List Int}(h:mX .i64 w a len cap b):len<=cap/\cap<=maxLen:=by
 rcases h with⟨-,h1,h2,c⟩ | ⟨x,-,h1,h2,c,-⟩
 ·exact⟨O,IX⟩
 exact⟨h1,h2⟩
theorem xI {w w':World}{a:Option Addr}{len cap:Nat}{b:List Int}(h:mX .i64 w a len cap b){K:Nat}(d:K<=len)(hS:K<=1000)(c:Below w.heap.size w w'):A3 w'.heap.size a (b.take K) w' :=
 (rn (A3.GN h d hS).1 c).mono c.size
end
end Go.Proofs.YtcmncipikdpnbaaGreatDoor
