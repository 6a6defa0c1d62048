import Derived.Test.YtcmncipikdpnbaaGreatDoorUb5
import Derived.Deep.RegionHeld3
namespace Go.Proofs.YtcmncipikdpnbaaGreatDoor
section
set_option maxRecDepth 100000
open Go.RowKit
theorem mw (n:Int)(w:World)(h:1<=n/\n<=65535):Calls Tryz.prog 118 #[n] w fun e w'=>e= .returned true/\w=w':=by
 obtain⟨h1,h2⟩:=h
 go_enter Tryz.func118,Tryz.ntmps118
 go_wp2
 go_ret;exact⟨Z,Z⟩
theorem ef (n:Int)(w:World)(h:0<=n/\n<=4294967295):Calls Tryz.prog 105 #[n] w fun e w'=>e= .returned true/\w=w':=by
 obtain⟨h1,h2⟩:=h
 go_enter Tryz.func105,Tryz.ntmps105
 go_wp2
 go_ret;exact⟨Z,Z⟩
def mx (B:Nat)(g:Sg)(a:Option Addr)(cap:Nat)(S:ByteArray)(W:World):Prop:=W.heap[B]? =some (.cells #[g.fp,g.tp,g.sq,g.ak,g.syn,g.fin,g.qa,g.has,g.win,g.gi,g.iu,.slice a g.bl.length cap,.string S] 53 (0,0))
theorem mx.new (w:World)(g:Sg)(a:Option Addr)(cap:Nat)(S:ByteArray):mx w.heap.size g a cap S (w.alloc (.cells #[g.fp,g.tp,g.sq,g.ak,g.syn,g.fin,g.qa,g.has,g.win,g.gi,g.iu,.slice a g.bl.length cap,.string S] 53)):=Lp _ _
theorem mx.lt {B:Nat}{g:Sg}{a:Option Addr}{cap:Nat}{S:ByteArray}{W:World}(h:mx B g a cap S W):B<W.heap.size:=(L6.1 h).1
theorem mx.below {B N:Nat}{g:Sg}{a:Option Addr}{cap:Nat}{S:ByteArray}{W W':World}(h:mx B g a cap S W)(b:Below N W W')(c:B<N):mx B g a cap S W':=(b.block B c).trans h
theorem mx.cells {B:Nat}{g:Sg}{a:Option Addr}{cap:Nat}{S:ByteArray}{W:World}(h:mx B g a cap S W) :
  W.cell? B=some (g.fp:Y)/\W.cell? ⟨B,1,none⟩=some (g.tp:Y)/\W.cell? ⟨B,2,none⟩=some (g.sq:Y)/\W.cell? ⟨B,3,none⟩=some (g.ak:Y)/\W.cell? ⟨B,4,none⟩=some (g.syn:Y)/\W.cell? ⟨B,5,none⟩=some (g.fin:Y)/\W.cell? ⟨B,6,none⟩=some (g.qa:Y)/\W.cell? ⟨B,7,none⟩=some (g.has:Y)/\W.cell? ⟨B,8,none⟩=some (g.win:Y)/\W.cell? ⟨B,9,none⟩=some (g.gi:Y)/\W.cell? ⟨B,10,none⟩=some (g.iu:Y)/\W.cell? ⟨B,11,none⟩=some (.slice a g.bl.length cap)/\W.cell? ⟨B,12,none⟩=some (.string S):=by
 have c:∀i v,(#[g.fp,g.tp,g.sq,g.ak,g.syn,g.fin,g.qa,g.has,g.win,g.gi,g.iu,.slice a g.bl.length cap,.string S]:Array Value)[i]? =some v->W.cell? ⟨B,i,none⟩=some v:=fun i v b=>by rw[Ln _ _ _ _ _ _ h];exact b
 exact⟨c 0 _ Z,c 1 _ Z,c 2 _ Z,c 3 _ Z,c 4 _ Z,c 5 _ Z,c 6 _ Z,c 7 _ Z,c 8 _ Z,c 9 _ Z,c 10 _ Z,c 11 _ Z,c 12 _ Z⟩
theorem bB (w:World)(o:Obj):Below w.heap.size w (w.alloc o):=(L3 _ w).alloc (L4 _) o
set_option maxHeartbeats 2000000 in
theorem lB (g:Sg) (a:Option Addr) (cap:Nat) (S:ByteArray) (w:World) (ok:g.Ok) :
  Calls Tryz.prog 76 #[.agg #[g.fp,g.tp,g.sq,g.ak,g.syn,g.fin,g.qa,g.has,g.win,g.gi,g.iu,.slice a g.bl.length cap,.string S]] w fun e w'=>e= .returned true/\Below w.heap.size w w':=by
 obtain⟨fp,tp,sq,ak,syn,fin,qa,has,win,gi,iu,bl,s⟩:=g;have b:=H ok;have hw:=ok.win;have c:=ok.has;clear ok;dsimp only at hw c|-;obtain⟨i,j⟩:=hw;have f:=H c;clear c
 have h:=H (show has=true\/(ak==0)=true by cases has with
  | true=>exact .inl Z
  | false=>exact .inr (by rw[Mb];exact f.o Z))
 clear f
 rcases h.o with rfl | hz
 all_goals
  clear h
  go_enter Tryz.func76,Tryz.ntmps76
  go_wp2_with fail;refine(mw _ _ b.fp).mono ?_;rintro e d⟨rfl,rfl⟩;go_wp2_with fail;refine(mw _ _ b.tp).mono ?_;rintro e d⟨rfl,rfl⟩;go_wp2_with fail;refine(ef _ _ b.sq).mono ?_;rintro e d⟨rfl,rfl⟩;go_wp2_with fail;refine(ef _ _ b.ak).mono ?_;rintro e d⟨rfl,rfl⟩
  (first | (cases has <;> go_wp2_with fail) | go_wp2_with fail)
  all_goals
   go_ret;exact⟨Z,bB _ _⟩
set_option maxHeartbeats 2000000 in
theorem my (g:Sg) (a:Option Addr) (cap:Nat) (S:ByteArray) (w:World) (ok:g.Ok) :
  Calls Tryz.prog 77 #[.agg #[g.fp,g.tp,g.sq,g.ak,g.syn,g.fin,g.qa,g.has,g.win,g.gi,g.iu,.slice a g.bl.length cap,.string S]] w fun e w'=>e= .returned true/\Below w.heap.size w w':=by
 obtain⟨fp,tp,sq,ak,syn,fin,qa,has,win,gi,iu,bl,s⟩:=g;have h1:=ok.fl;have h2:=ok.gi;have b:=ok.DW;clear ok;dsimp only at h1 h2 b|-
 cases syn with
 | false =>
  obtain⟨c,rfl⟩:=h2 Z;subst c;clear h2 b
  cases fin <;> cases qa
  all_goals (try (exact absurd ⟨Z,Z⟩ h1.2.2))
  all_goals
   clear h1
   go_enter Tryz.func77,Tryz.ntmps77
   go_wp2;go_ret;exact⟨Z,bB _ _⟩
 | true =>
  cases fin with
  | true=>exact absurd ⟨Z,Z⟩ h1.1
  | false =>
   cases qa with
   | true=>exact absurd ⟨Z,Z⟩ h1.2.1
   | false =>
    have h:=b Z;clear h1 h2 b
    rcases h with hz | ⟨d,f⟩
    ·subst hz
     go_enter Tryz.func77,Tryz.ntmps77
     go_wp2;go_ret;exact⟨Z,bB _ _⟩
    have hz:(gi==0)=false:=Ll.2 O
    go_enter Tryz.func77,Tryz.ntmps77
    go_wp2;go_ret;exact⟨Z,bB _ _⟩
set_option maxHeartbeats 2000000 in
theorem ln (g:Sg) (n₀:Nat) (a:Option Addr) (cap:Nat) (S:ByteArray) (w:World) (ok:g.Ok) (t:oB w n₀ a g.bl) (N:n₀<=w.heap.size) :
  Calls Tryz.prog 78 #[.agg #[g.fp,g.tp,g.sq,g.ak,g.syn,g.fin,g.qa,g.has,g.win,g.gi,g.iu,.slice a g.bl.length cap,.string S]] w fun e w'=>e= .returned true/\Below w.heap.size w w':=by
 obtain⟨fp,tp,sq,ak,syn,fin,qa,has,win,gi,iu,bl,s⟩:=g;have h1:=ok.EL;have h2:=ok.Fr;have A:=H ok.blk;clear ok;dsimp only at h1 h2 A t|-;have E:=H t;have P:(bl.length:Int)<=3:=O
 have y:=H (show has=true\/bl.length=0 by
  rcases MV bl.length with e | e
  ·exact .inr e
  exact .inl (h2 e))
 clear t h2;by_cases F:0<bl.length
 ·have i:has=true:=by rcases y.o with e | e;exact e;omega
  subst i;clear y;have z:(0:Int)<(bl.length:Int):=O
  go_enter Tryz.func78,Tryz.ntmps78
  go_wp2_with fail;generalize c:w.alloc (.cells #[fp,tp,sq,ak,syn,fin,qa,true,win,gi,iu,.slice a bl.length cap,.string S] 53)=W0;have j:=H (show Below w.heap.size w W0 by rw[<-c];exact bB _ _);clear c
  go_loopw [23] (fun p wr=>∃k:Nat,k<=bl.length/\p= .int .i64 k/\Below w.heap.size w wr) (fun p _=>bl.length-(intOf p).toNat)
  case atStart=>exact⟨0,LW _,Z,j.o⟩
  case round =>
   obtain⟨k,G,rfl,f⟩:=hrel;clear j;have h:=H f;have l:=f.size;clear f;by_cases d:k<bl.length
   ·obtain⟨b,off,rfl,I,m⟩:=E.cells O;obtain⟨B,C⟩:=m k d;obtain⟨n,q,r⟩:=A.o _ (LP d);have d0:=(h.cell (p:=⟨b,_,none⟩) JT).trans B;have d1:=(h.cell (p:=⟨b,_,none⟩) JT).trans C;clear m B C;generalize bl[k]=x at d0 d1 n q r;obtain⟨u,v⟩:=x;dsimp only at d0 d1 n q r;have bI:=H n;have J:=H q;have T:(u==v)=false:=Ll.2 r;have U:(k:Int)<(bl.length:Int):=by omega
    have K:(k:Int)<=3:=O
    have L:=H (h.trans ((L3 wr.heap.size wr).alloc (L4 _) (.cells #[u,v] 149) |>.mono l));clear n q r;go_wp2_with fail;refine(ef _ _ bI.o).mono ?_;rintro e M⟨rfl,rfl⟩;go_wp2_with fail;refine(ef _ _ J.o).mono ?_;rintro e M⟨rfl,rfl⟩;go_wp2_with fail;exact⟨⟨k+1,d,FE,L.o⟩,by simp[intOf];omega⟩
   go_wp2;go_ret;exact⟨Z,h.o⟩
 clear y;have z:¬(0:Int)<(bl.length:Int):=O
 go_enter Tryz.func78,Tryz.ntmps78
 go_wp2_with fail;generalize c:w.alloc (.cells #[fp,tp,sq,ak,syn,fin,qa,has,win,gi,iu,.slice a bl.length cap,.string S] 53)=W0;have j:=H (show Below w.heap.size w W0 by rw[<-c];exact bB _ _);clear c
 go_loopw [23] (fun p wr=>∃k:Nat,k<=bl.length/\p= .int .i64 k/\Below w.heap.size w wr) (fun p _=>bl.length-(intOf p).toNat)
 case atStart=>exact⟨0,LW _,Z,j.o⟩
 case round =>
  obtain⟨k,G,rfl,f⟩:=hrel;clear j;have h:=H f;have l:=f.size;clear f;by_cases d:k<bl.length
  ·exact absurd (show 0<bl.length by omega) F
  go_wp2;go_ret;exact⟨Z,h.o⟩
set_option maxHeartbeats 2000000 in
theorem pf (g:Sg) (n₀:Nat) (a:Option Addr) (cap:Nat) (S:ByteArray) (w:World) (ok:g.Ok) (hS:S.data.toList=g.s) (B:oB w n₀ a g.bl) (C:n₀<=w.heap.size) :
  Calls Tryz.prog 36 #[.agg #[g.fp,g.tp,g.sq,g.ak,g.syn,g.fin,g.qa,g.has,g.win,g.gi,g.iu,.slice a g.bl.length cap,.string S]] w fun e w'=>e= .returned true/\Below w.heap.size w w':=by
 have E:=H (fun W=>lB g a cap S W ok);have F:=H (fun W=>my g a cap S W ok);have G:=H (fun W (I:Below w.heap.size w W)=>ln g n₀ a cap S W ok (B.below (I.mono C)) (L8 C I.size));have h1:=ok.sS;have h2:=ok.Dj;have K:=ok.EL;have c:S.data.toList.length=S.size:=by rw[NT];rfl
 rw[hS]at c;obtain⟨fp,tp,sq,ak,syn,fin,qa,has,win,gi,iu,bl,s⟩:=g;dsimp only at h1 h2 K c E F G|-
 have an:syn=true\/qa=true->S.toList.isEmpty=true:=by
  intro h;have:=h1 h;rw[this]at c
  have e:S=⟨#[]⟩:=by
   apply ByteArray.ext
   apply Array.eq_empty_of_size_eq_zero
   exact c.symm
  rw[e]
  decide +kernel
 have L:(S.size:Int)<=1024-8*(bl.length:Int):=O
 have J:=H an;have d:=H (mx.new w ⟨fp,tp,sq,ak,syn,fin,qa,has,win,gi,iu,bl,s⟩ a cap S);have b:=H (bB w (.cells #[fp,tp,sq,ak,syn,fin,qa,has,win,gi,iu,.slice a bl.length cap,.string S] 53));have M:(bl.length:Int)<=3:=O
 clear ok hS B h1 h2 an c
 go_enter Tryz.func36,Tryz.ntmps36
 go_wp2_with fail;refine(E.o _).mono ?_;rintro e N⟨rfl,f⟩;replace d:=H (d.below f FE);replace b:=H (b.trans (f.mono b.size));clear f;obtain⟨p,q,r,t,i,u,j,x,y,z,A,k,l⟩:=d.cells;dsimp only at p q r t i u j x y z A k l;go_wp2_with fail;refine(F.o _).mono ?_;rintro e P⟨rfl,m⟩;clear p q r t i u j x y z A k l;replace d:=H (d.below m d.lt);replace b:=H (b.trans (m.mono b.size));clear m;obtain⟨p,q,r,t,i,u,j,x,y,z,A,k,l⟩:=d.cells;dsimp only at p q r t i u j x y z A k l;go_wp2_with fail;refine(G.o _ b.o).mono ?_;rintro e T⟨rfl,n⟩;clear p q r t i u j x y z A k l;replace d:=H (d.below n d.lt);replace b:=H (b.trans (n.mono b.size));clear n;obtain⟨-,-,-,-,i,-,j,-,-,-,-,k,l⟩:=d.cells;dsimp only at i j k l
 cases syn with
 | true =>
  have he:=J.o (.inl Z);go_wp2;go_ret;exact⟨Z,b.o⟩
 | false =>
  cases qa with
  | true =>
   have he:=J.o (.inr Z);go_wp2;go_ret;exact⟨Z,b.o⟩
  | false =>
   go_wp2;go_ret;exact⟨Z,b.o⟩
end
section
set_option maxRecDepth 100000
open Go.RowKit
theorem bW {a b:Bool}(h:a=b):Ending.returned a= .returned b:=by rw[h]
theorem mz (n:Int)(w:World):Calls Tryz.prog 118 #[n] w fun e w'=>e= .returned (decide (1<=n/\n<=65535))/\w=w':=by
 by_cases h1:1<=n
 ·have a:=H (show decide (n<=65535)=decide (1<=n/\n<=65535)from N6.2 O)
  go_enter Tryz.func118,Tryz.ntmps118
  go_wp2
  go_ret;exact⟨bW a.o,Z⟩
 go_enter Tryz.func118,Tryz.ntmps118
 go_wp2
 go_ret;exact⟨bW IH,Z⟩
theorem dq (n:Int)(w:World):Calls Tryz.prog 105 #[n] w fun e w'=>e= .returned (decide (0<=n/\n<=4294967295))/\w=w':=by
 by_cases h1:0<=n
 ·have a:=H (show decide (n<=4294967295)=decide (0<=n/\n<=4294967295)from N6.2 O)
  go_enter Tryz.func105,Tryz.ntmps105
  go_wp2
  go_ret;exact⟨bW a.o,Z⟩
 go_enter Tryz.func105,Tryz.ntmps105
 go_wp2
 go_ret;exact⟨bW IH,Z⟩
def Sg.Fy (g:Sg):Bool:=decide ((1<=g.fp/\g.fp<=65535)/\(1<=g.tp/\g.tp<=65535)/\(0<=g.sq/\g.sq<=4294967295)/\(0<=g.ak/\g.ak<=4294967295)/\(g.has=true\/g.ak=0)/\0<=g.win/\g.win<=65535)
def Sg.Hf (g:Sg):Bool:=decide (¬(g.syn=true/\g.fin=true)/\¬(g.syn=true/\g.qa=true)/\¬(g.fin=true/\g.qa=true)/\(g.syn=false->g.gi=0/\g.iu=false)/\(g.syn=true->g.gi=0\/(28<=g.gi/\g.gi<=1024)))
def Sg.GK (g:Sg):Bool:=decide (g.bl.length<=3/\(0<g.bl.length->g.has=true)/\∀x∈g.bl,(0<=x.1/\x.1<=4294967295)/\(0<=x.2/\x.2<=4294967295)/\x.1≠x.2)
def Sg.FR (g:Sg):Bool:=if g.syn=true\/g.qa=true then decide (g.s=[])else decide ((g.s.length:Int)<=1024-8*g.bl.length)
def Sg.okB (g:Sg):Bool:=g.Fy&&(g.Hf&&(g.GK&&g.FR))
theorem Sg.E1 (g:Sg):g.okB=true↔g.Ok:=by
 unfold Sg.okB Sg.Fy Sg.Hf Sg.GK Sg.FR;rw[Ly,Ly,Ly,Lh,Lh,Lh]
 constructor
 ·rintro⟨⟨b,c,f,i,j,k⟩,⟨l,m,n,o,p⟩,⟨q,r,s⟩,d⟩;refine⟨b,c,f,i,?_,k,⟨l,m,n⟩,o,p,q,r,s,?_,?_⟩
  ·intro h;rcases j with a | a
   ·rw[h]at a;cases a
   exact a
  ·intro h;rw[L7 h]at d;exact LJ d
  by_cases h:g.syn=true\/g.qa=true
  ·rw[L7 h]at d;rw[LJ d];simp only[M1];omega
  rw[L5 h]at d;exact LJ d
 intro h;refine⟨⟨h.fp,h.tp,h.sq,h.ak,?_,h.win⟩,⟨h.fl.1,h.fl.2.1,h.fl.2.2,h.gi,h.DW⟩,⟨h.EL,h.Fr,h.blk⟩,?_⟩
 ·cases e:g.has with
  | true=>exact .inl Z
  | false=>exact .inr (h.has e)
 split
 ·rename_i t;exact Lc (h.sS t)
 exact Lc h.Dj
set_option maxHeartbeats 2000000 in
theorem lC (g:Sg) (a:Option Addr) (cap:Nat) (S:ByteArray) (w:World) :
  Calls Tryz.prog 76 #[.agg #[g.fp,g.tp,g.sq,g.ak,g.syn,g.fin,g.qa,g.has,g.win,g.gi,g.iu,.slice a g.bl.length cap,.string S]] w fun e w'=>e= .returned g.Fy/\Below w.heap.size w w':=by
 obtain⟨fp,tp,sq,ak,syn,fin,qa,has,win,gi,iu,bl,s⟩:=g;have c:=H (fun h=>show false=Sg.Fy ⟨fp,tp,sq,ak,syn,fin,qa,has,win,gi,iu,bl,s⟩from(Lf h).symm);have l:=H (fun h=>show true=Sg.Fy ⟨fp,tp,sq,ak,syn,fin,qa,has,win,gi,iu,bl,s⟩from(Lc h).symm);dsimp only at c l|-
 go_enter Tryz.func76,Tryz.ntmps76
 go_wp2_with fail;refine(mz _ _).mono ?_;rintro e f⟨rfl,rfl⟩;by_cases h1:1<=fp/\fp<=65535;rotate_left
 ·have b:decide (1<=fp/\fp<=65535)=false:=Lf h1;rw[b];clear b;go_wp2;go_ret;exact⟨bW (c.o (fun h=>h1 h.1)),bB _ _⟩
 have b:decide (1<=fp/\fp<=65535)=true:=Lc h1;rw[b];clear b;have m:=H h1;clear h1;go_wp2_with fail;refine(mz _ _).mono ?_;rintro e f⟨rfl,rfl⟩;by_cases h1:1<=tp/\tp<=65535;rotate_left
 ·have b:decide (1<=tp/\tp<=65535)=false:=Lf h1;rw[b];clear b;go_wp2;go_ret;exact⟨bW (c.o (fun h=>h1 h.2.1)),bB _ _⟩
 have b:decide (1<=tp/\tp<=65535)=true:=Lc h1;rw[b];clear b;have n:=H h1;clear h1;go_wp2_with fail;refine(dq _ _).mono ?_;rintro e f⟨rfl,rfl⟩;by_cases h1:0<=sq/\sq<=4294967295;rotate_left
 ·have b:decide (0<=sq/\sq<=4294967295)=false:=Lf h1;rw[b];clear b;go_wp2;go_ret;exact⟨bW (c.o (fun h=>h1 h.2.2.1)),bB _ _⟩
 have b:decide (0<=sq/\sq<=4294967295)=true:=Lc h1;rw[b];clear b;have p:=H h1;clear h1;go_wp2_with fail;refine(dq _ _).mono ?_;rintro e f⟨rfl,rfl⟩;by_cases h1:0<=ak/\ak<=4294967295;rotate_left
 ·have b:decide (0<=ak/\ak<=4294967295)=false:=Lf h1;rw[b];clear b;go_wp2;go_ret;exact⟨bW (c.o (fun h=>h1 h.2.2.2.1)),bB _ _⟩
 have b:decide (0<=ak/\ak<=4294967295)=true:=Lc h1;rw[b];clear b;have q:=H h1;clear h1;by_cases hz:has=true\/ak=0;rotate_left
 ·have r:has=false:=by cases has with
   | true=>exact absurd (.inl Z) hz
   | false=>rfl
  have t:(ak==0)=false:=Ll.2 (fun h=>hz (.inr h));have i:=H hz;clear hz;subst r;go_wp2;go_ret;exact⟨bW (c.o (fun h=>i.o h.2.2.2.2.1)),bB _ _⟩
 have i:=H hz
 have d:=H (show has=true\/(has=false/\(ak==0)=true) by
  cases has with
  | true=>exact .inl Z
  | false =>
   rcases hz with h | h
   ·cases h
   exact .inr ⟨Z,Mb.2 h⟩)
 clear hz;by_cases j:0<=win;rotate_left
 ·rcases d.o with rfl | ⟨rfl,hz⟩
  all_goals
   clear d;go_wp2;go_ret;exact⟨bW (c.o (fun h=>absurd h.2.2.2.2.2.1 O)),bB _ _⟩
 by_cases k:win<=65535
 ·rcases d.o with rfl | ⟨rfl,hz⟩
  all_goals
   clear d;go_wp2;go_ret;exact⟨bW (l.o ⟨m.o,n.o,p.o,q.o,i.o,j,k⟩),bB _ _⟩
 rcases d.o with rfl | ⟨rfl,hz⟩
 all_goals
  clear d;go_wp2;go_ret;exact⟨bW ((Lf O).trans (c.o (fun h=>absurd h.2.2.2.2.2.2 O))),bB _ _⟩
set_option maxHeartbeats 2000000 in
theorem nC (g:Sg) (a:Option Addr) (cap:Nat) (S:ByteArray) (w:World) :
  Calls Tryz.prog 77 #[.agg #[g.fp,g.tp,g.sq,g.ak,g.syn,g.fin,g.qa,g.has,g.win,g.gi,g.iu,.slice a g.bl.length cap,.string S]] w fun e w'=>e= .returned g.Hf/\Below w.heap.size w w':=by
 obtain⟨fp,tp,sq,ak,syn,fin,qa,has,win,gi,iu,bl,s⟩:=g;have c:=H (show Sg.Hf ⟨fp,tp,sq,ak,syn,fin,qa,has,win,gi,iu,bl,s⟩=decide (¬(syn=true/\fin=true)/\¬(syn=true/\qa=true)/\¬(fin=true/\qa=true)/\(syn=false->gi=0/\iu=false)/\(syn=true->gi=0\/(28<=gi/\gi<=1024)))from Z);by_cases d:gi=0
 ·subst d
  cases syn <;> cases fin <;> cases qa <;> cases iu
  all_goals
   go_enter Tryz.func77,Tryz.ntmps77
   go_wp2;go_ret;exact⟨bW (by rw[c.o];simp),bB _ _⟩
 have hz:(gi==0)=false:=Ll.2 d;have b:=H d;clear d
 cases syn <;> cases fin <;> cases qa
 case true.false.false =>
  by_cases f:28<=gi
  ·by_cases h:gi<=1024
   all_goals
    go_enter Tryz.func77,Tryz.ntmps77
    go_wp2;go_ret;exact⟨bW KM,bB _ _⟩
  go_enter Tryz.func77,Tryz.ntmps77
  go_wp2;go_ret;exact⟨bW KM,bB _ _⟩
 all_goals
  go_enter Tryz.func77,Tryz.ntmps77
  go_wp2;go_ret;exact⟨bW (by rw[c.o];simp[b.o]),bB _ _⟩
set_option maxHeartbeats 2000000 in
theorem lq (g:Sg) (n₀:Nat) (a:Option Addr) (cap:Nat) (S:ByteArray) (w:World) (C:oB w n₀ a g.bl) (hn:n₀<=w.heap.size) :
  Calls Tryz.prog 78 #[.agg #[g.fp,g.tp,g.sq,g.ak,g.syn,g.fin,g.qa,g.has,g.win,g.gi,g.iu,.slice a g.bl.length cap,.string S]] w fun e w'=>e= .returned g.GK/\Below w.heap.size w w':=by
 obtain⟨fp,tp,sq,ak,syn,fin,qa,has,win,gi,iu,bl,s⟩:=g;have l:=H (fun h=>show false=Sg.GK ⟨fp,tp,sq,ak,syn,fin,qa,has,win,gi,iu,bl,s⟩from(Lf h).symm);have E:=H (fun h=>show true=Sg.GK ⟨fp,tp,sq,ak,syn,fin,qa,has,win,gi,iu,bl,s⟩from(Lc h).symm);dsimp only at C l E|-;have P:=H C;clear C;by_cases h1:(3:Int)<(bl.length:Int)
 ·go_enter Tryz.func78,Tryz.ntmps78
  go_wp2;go_ret;exact⟨bW (l.o (fun h=>absurd h.1 O)),bB _ _⟩
 have am:(bl.length:Int)<=3:=O
 clear h1;have h1:¬(3:Int)<(bl.length:Int):=O
 by_cases hz:has=false/\0<bl.length
 ·have T:=H hz.2;have r:(0:Int)<(bl.length:Int):=by have:=hz.2;omega
  have F:=hz.1;clear hz;subst F
  go_enter Tryz.func78,Tryz.ntmps78
  go_wp2;go_ret;exact⟨bW (l.o (fun h=>absurd (h.2.1 T.o) FE)),bB _ _⟩
 have J:=H (show has=true\/bl.length=0 by
  cases has with
  | true=>exact .inl Z
  | false =>
   rcases MV bl.length with e | e
   ·exact .inr e
   exact absurd ⟨Z,e⟩ hz)
 clear hz;by_cases hp:0<bl.length
 ·have t:has=true:=by rcases J.o with e | e;exact e;omega
  subst t;have r:(0:Int)<(bl.length:Int):=O
  go_enter Tryz.func78,Tryz.ntmps78
  go_wp2_with fail;generalize c:w.alloc (.cells #[fp,tp,sq,ak,syn,fin,qa,true,win,gi,iu,.slice a bl.length cap,.string S] 53)=W0;have y:=H (show Below w.heap.size w W0 by rw[<-c];exact bB _ _);clear c
  go_loopw [23] (fun p wr=>∃k:Nat,k<=bl.length/\p= .int .i64 k/\Below w.heap.size w wr/\∀x∈bl.take k,(0<=x.1/\x.1<=4294967295)/\(0<=x.2/\x.2<=4294967295)/\x.1≠x.2) (fun p _=>bl.length-(intOf p).toNat)
  case atStart=>exact⟨0,LW _,Z,y.o,fun x f=>by simp at f⟩
  case round =>
   obtain⟨k,hk,rfl,m,j⟩:=hrel;clear y;have n:=H m;have K:=H j;have G:=m.size;clear m j;by_cases i:k<bl.length
   ·obtain⟨b,off,rfl,U,z⟩:=P.cells O;obtain⟨L,M⟩:=z k i;have d0:=(n.cell (p:=⟨b,_,none⟩) JT).trans L;have d1:=(n.cell (p:=⟨b,_,none⟩) JT).trans M;clear z L M;have A:=H (LP i);have N:=H (Lv i);generalize bl[k]=x at d0 d1 A N;obtain⟨u,v⟩:=x;dsimp only at d0 d1;have b6:(k:Int)<(bl.length:Int):=by omega
    have V:(k:Int)<=3:=O
    have B:=H (n.trans ((L3 wr.heap.size wr).alloc (L4 _) (.cells #[u,v] 149) |>.mono G));go_wp2_with fail;refine(dq _ _).mono ?_;rintro e W⟨rfl,rfl⟩;by_cases d:0<=u/\u<=4294967295;rotate_left
    ·rw[Lf d];go_wp2;go_ret;exact⟨bW (l.o (fun h=>d (h.2.2 _ A.o).1)),B.o⟩
    rw[Lc d];have X:=H d;clear d;go_wp2_with fail;refine(dq _ _).mono ?_;rintro e W⟨rfl,rfl⟩;by_cases d:0<=v/\v<=4294967295;rotate_left
    ·rw[Lf d];go_wp2;go_ret;exact⟨bW (l.o (fun h=>d (h.2.2 _ A.o).2.1)),B.o⟩
    rw[Lc d];have HV:=H d;clear d;by_cases q:u=v
    ·have hq:(u==v)=true:=Mb.2 q;have I:=H q;clear q;go_wp2;go_ret;exact⟨bW (l.o (fun h=>(h.2.2 _ A.o).2.2 I.o)),B.o⟩
    have hq:(u==v)=false:=Ll.2 q;have I:=H q;clear q;go_wp2_with fail;refine⟨⟨k+1,i,FE,B.o,fun x f=> ?_⟩,by simp[intOf];omega⟩;rw[N.o]at f
    rcases LE.1 f with f | f
    ·exact K.o x f
    rw[Lu.1 f];exact⟨X.o,HV.o,I.o⟩
   have HN:=H (show bl.take k=bl from Mc O);go_wp2;go_ret;exact⟨bW (E.o ⟨O,fun _=>by simp,by rw[<-HN.o];exact K.o⟩),n.o⟩
 have b7:bl=[]:=LR O;subst b7;clear J;have r:¬(0:Int)<(([]:List Sp).length:Int):=FE
 go_enter Tryz.func78,Tryz.ntmps78
 go_wp2_with fail;generalize c:w.alloc (.cells #[fp,tp,sq,ak,syn,fin,qa,has,win,gi,iu,.slice a 0 cap,.string S] 53)=W0;have y:=H (show Below w.heap.size w W0 by rw[<-c];exact bB _ _);clear c
 go_loopw [23] (fun p wr=>p=((0:Int):Y)/\Below w.heap.size w wr) (fun _ _=>0)
 case atStart=>exact⟨Z,y.o⟩
 case round =>
  obtain⟨rfl,m⟩:=hrel;clear y;have n:=H m;clear m;go_wp2;go_ret;exact⟨bW (E.o ⟨FE,fun h=>by simp at h,fun x f=>by simp at f⟩),n.o⟩
theorem tH (g:Sg)(a:Option Addr)(cap:Nat)(S:ByteArray)(w:World)(hS:S.size=g.s.length)(hl:g.s.length<=1099511627776) :
  Calls Tryz.prog 40 #[.agg #[g.fp,g.tp,g.sq,g.ak,g.syn,g.fin,g.qa,g.has,g.win,g.gi,g.iu,.slice a g.bl.length cap,.string S]] w fun e w'=>e= .returned (g.s.length+(if g.syn=true\/g.fin=true then 1 else 0):Int)/\Below w.heap.size w w':=by
 obtain⟨fp,tp,sq,ak,syn,fin,qa,has,win,gi,iu,bl,s⟩:=g;dsimp only at hS hl|-;have b:(S.size:Int)<=1099511627776:=O
 have c:=H hS;clear hS hl
 cases syn <;> cases fin
 all_goals
  go_enter Tryz.func40,Tryz.ntmps40
  go_wp2;go_ret;exact⟨by rw[c.o];simp,bB _ _⟩
end
section
set_option maxRecDepth 100000
open Go.RowKit
set_option maxHeartbeats 2000000 in
theorem kK (g:Sg) (n₀:Nat) (a:Option Addr) (cap:Nat) (w:World) (y:oB w n₀ a g.bl) (z:n₀<=w.heap.size) :
  Calls Tryz.prog 36 #[.agg #[g.fp,g.tp,g.sq,g.ak,g.syn,g.fin,g.qa,g.has,g.win,g.gi,g.iu,.slice a g.bl.length cap,.string ⟨g.s.toArray⟩]] w fun e w'=>e= .returned g.okB/\Below w.heap.size w w':=by
 by_cases i:g.Ok
 ·rw[(Sg.E1 g).2 i];exact pf g n₀ a cap _ w i Z y z
 have q:=H (show g.okB=false from by
  cases h:g.okB with
  | false=>rfl
  | true=>exact absurd ((Sg.E1 g).1 h) i)
 rw[q.o];have N:=H (fun W=>lC g a cap ⟨g.s.toArray⟩ W);have P:=H (fun W=>nC g a cap ⟨g.s.toArray⟩ W);have S:=H (fun W (M:Below w.heap.size w W)=>lq g n₀ a cap ⟨g.s.toArray⟩ W (y.below (M.mono z)) (L8 z M.size));have f:=H (mx.new w g a cap ⟨g.s.toArray⟩);have d:=H (bB w (.cells #[g.fp,g.tp,g.sq,g.ak,g.syn,g.fin,g.qa,g.has,g.win,g.gi,g.iu,.slice a g.bl.length cap,.string ⟨g.s.toArray⟩] 53));clear i y
 go_enter Tryz.func36,Tryz.ntmps36
 go_wp2_with fail;refine(N.o _).mono ?_;rintro e X⟨rfl,k⟩;replace f:=H (f.below k FE);replace d:=H (d.trans (k.mono d.size));clear k
 cases hnb:g.Fy with
 | false =>
  clear q;go_wp2;go_ret;exact⟨Z,d.o⟩
 | true =>
  obtain⟨A,B,C,E,m,F,r,G,I,J,K,t,u⟩:=f.cells;go_wp2_with fail;refine(P.o _).mono ?_;rintro e w2⟨rfl,n⟩;clear A B C E m F r G I J K t u;replace f:=H (f.below n f.lt);replace d:=H (d.trans (n.mono d.size));clear n
  cases Ib:g.Hf with
  | false =>
   clear q;go_wp2;go_ret;exact⟨Z,d.o⟩
  | true =>
   obtain⟨A,B,C,E,m,F,r,G,I,J,K,t,u⟩:=f.cells;go_wp2_with fail;refine(S.o _ d.o).mono ?_;rintro e w3⟨rfl,p⟩;clear A B C E m F r G I J K t u;replace f:=H (f.below p f.lt);replace d:=H (d.trans (p.mono d.size));clear p
   cases hbb:g.GK with
   | false =>
    clear q;go_wp2;go_ret;exact⟨Z,d.o⟩
   | true =>
    have am:(g.bl.length:Int)<=3:=by
     have:=hbb;unfold Sg.GK at this;have:=(LJ this).1;omega
    have j:g.FR=false:=by
     have:=q.o;unfold Sg.okB at this;rw[hnb,Ib,hbb]at this
     simpa using this
    clear q hnb Ib hbb;obtain⟨-,-,-,-,m,-,r,-,-,-,-,t,u⟩:=f.cells;by_cases c:g.syn=true\/g.qa=true
    ·have an:g.s.isEmpty=false:=by
      unfold Sg.FR at j;rw[L7 c]at j;have L:=Nb j
      cases hs:g.s with
      | nil=>exact absurd hs L
      | cons x l=>rfl
     clear j
     rcases(show g.syn=true\/(g.syn=false/\g.qa=true) by
      cases h:g.syn with
      | true=>exact .inl Z
      | false=>rw[h]at c;exact .inr ⟨Z,by rcases c with h | h;cases h;exact h⟩)with h | ⟨h,h'⟩
     ·rw[h]at m;clear c;go_wp2;go_ret;exact⟨Z,d.o⟩
     rw[h]at m;rw[h']at r;clear c;go_wp2;go_ret;exact⟨Z,d.o⟩
    have T:g.syn=false:=by cases h:g.syn with
     | true=>exact absurd (.inl h) c
     | false=>rfl
    have U:g.qa=false:=by cases h:g.qa with
     | true=>exact absurd (.inr h) c
     | false=>rfl
    have V:¬(g.s.length:Int)<=1024-8*(g.bl.length:Int):=by
     unfold Sg.FR at j;rw[L5 c]at j;exact Nb j
    have hz:(⟨g.s.toArray⟩:ByteArray).size=g.s.length:=IL
    rw[T]at m;rw[U]at r;clear c j;go_wp2;go_ret;exact⟨congrArg (fun b=>Ending.returned (.bool b)) (Lf O),d.o⟩
end
end Go.Proofs.YtcmncipikdpnbaaGreatDoor
