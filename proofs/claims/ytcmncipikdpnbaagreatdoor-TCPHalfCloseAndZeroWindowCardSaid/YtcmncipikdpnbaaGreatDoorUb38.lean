import Derived.Test.YtcmncipikdpnbaaGreatDoorUb25
import Derived.Deep.Slices
import Derived.Deep.Fields
import Derived.ChangeSame
import Derived.Lib.SmallJoins
namespace Go.Proofs.YtcmncipikdpnbaaGreatDoor
set_option maxRecDepth 100000
open Go.ChangeShapes Go.WideShapes Go.ChangeAt Go.RowKit Go.Deep
theorem ip {n:Int}(h:(Lit.int .i64 n).wf=true):aI n:=bounds_i64 h
section
variable {H0 : Type} {enc : TypeId × Value → H0} {w : World} {base : Nat} {spare : Nat → Bool} {held : Bool}
set_option maxHeartbeats 4000000 in
theorem xC {n:Nat} {c0 a b c d e:Value} {x:DataW H0×List MemPlace} (u:DataW.trod enc Tryz.prog w base spare held n 23 [c0,a,b,c,d,e]=some x) :
  ∃(g:Int) (h:Int) (i:Int) (j:Int) (k:Int) (l:Int),(c0=(g:Y)/\a=(h:Y)/\b=(i:Y)/\c=(j:Y)/\d=(k:Y)/\e=(l:Y))/\aI g/\aI h/\aI i/\aI j/\aI k/\aI l:=by
 obtain⟨y,m,_,_,_,z,f⟩:=DataW.trod_struct Tryz.underlying23 u
 match y,z with
 | [y0,y1,y2,y3,y4,y5],_ =>
  have o:DataW.trod enc Tryz.prog w base spare held m 3 (List.take (Tryz.prog.cellsOf 3) (List.drop 0 [c0,a,b,c,d,e]))=[y0,y1,y2,y3,y4,y5][0]? :=f 0 _ Z;have g1:DataW.trod enc Tryz.prog w base spare held m 3 (List.take (Tryz.prog.cellsOf 3) (List.drop 1 [c0,a,b,c,d,e]))=[y0,y1,y2,y3,y4,y5][1]? :=f 1 _ Z;have p:DataW.trod enc Tryz.prog w base spare held m 3 (List.take (Tryz.prog.cellsOf 3) (List.drop 2 [c0,a,b,c,d,e]))=[y0,y1,y2,y3,y4,y5][2]? :=f 2 _ Z;have q:DataW.trod enc Tryz.prog w base spare held m 3 (List.take (Tryz.prog.cellsOf 3) (List.drop 3 [c0,a,b,c,d,e]))=[y0,y1,y2,y3,y4,y5][3]? :=f 3 _ Z;have s:DataW.trod enc Tryz.prog w base spare held m 3 (List.take (Tryz.prog.cellsOf 3) (List.drop 4 [c0,a,b,c,d,e]))=[y0,y1,y2,y3,y4,y5][4]? :=f 4 _ Z;have t:DataW.trod enc Tryz.prog w base spare held m 3 (List.take (Tryz.prog.cellsOf 3) (List.drop 5 [c0,a,b,c,d,e]))=[y0,y1,y2,y3,y4,y5][5]? :=f 5 _ Z;have hi:Tryz.prog.cellsOf 3=1:=IG
  rw[hi]at o g1 p q s t;obtain⟨g,A,_,B⟩:=N3 Tryz.underlying3 o;obtain⟨h,C,_,E⟩:=N3 Tryz.underlying3 g1;obtain⟨i,F,_,G⟩:=N3 Tryz.underlying3 p;obtain⟨j,I,_,J⟩:=N3 Tryz.underlying3 q;obtain⟨k,K,_,L⟩:=N3 Tryz.underlying3 s;obtain⟨l,M,_,N⟩:=N3 Tryz.underlying3 t;exact⟨g,h,i,j,k,l,⟨by simpa using A,by simpa using C,by simpa using F,by simpa using I,by simpa using K,by simpa using M⟩,ip B,ip E,ip G,ip J,ip L,ip N⟩
end
theorem BM {n:Nat}{cs:Array Value}(h:cs.size=n):∃l:List Value,cs=l.toArray/\l.length=n:=⟨cs.toList,FE,IT⟩
section
variable {H0 : Type} {enc : TypeId × Value → H0} {W : World} {base : Nat} {spare : Nat → Bool} {held : Bool} {r : Reach} {b0 : Nat}
theorem zo {v:Value} {d:DataW H0} {p:List MemPlace} (c:Value.okWide Tryz.prog W r b0 23 v) (h:DataW.Trod enc Tryz.prog W base spare held 23 v d p) :
  ∃x:Rw,v= .agg (lm x).toArray/\x.In:=by
 obtain⟨cs,rfl,a⟩:=okWide_struct Tryz.underlying23 c;obtain⟨fuel,e⟩:=h;rw[show Tryz.prog.cellsOf 23=6 by kernel_rfl]at a;obtain⟨l,rfl,f⟩:=BM a
 match l,f with
 | [c0,c1,c2,c3,c4,c5],_ =>
  have b:DataW.trod enc Tryz.prog W base spare held fuel 23 [c0,c1,c2,c3,c4,c5]=some (d,p):=e;obtain⟨g,i,j,k,m,n,⟨rfl,rfl,rfl,rfl,rfl,rfl⟩,h0,h1,h2,o,q,s⟩:=xC b;exact⟨⟨g,i,j,k,m,n⟩,Z,⟨h0,h1,h2,o,q,s⟩⟩
end
def Dv.In (x:Dv):Prop:=aI x.side/\aI x.kind/\aI x.n/\aI x.tick
def Dv.At (W:World)(b o:Nat)(x:Dv):Prop:=W.cell? ⟨b,o,none⟩=some (x.side:Y)/\W.cell? ⟨b,o+1,none⟩=some (x.kind:Y)/\W.cell? ⟨b,o+2,none⟩=some (x.n:Y)/\W.cell? ⟨b,o+3,none⟩=some (x.tick:Y)
def oh (w:World)(N:Nat)(a:Option Addr)(len:Nat)(c:Nat->Dv):Prop :=
 len<=maxLen/\(0<len->∃b off,a=some ⟨b,off,none⟩/\b<N/\∀i,i<len->Dv.At w b (off+i*4) (c i)/\(c i).In)
theorem Dv.At.keep {W W':World}{b o:Nat}{x:Dv}(h:Dv.At W b o x)(c:W'.heap[b]? =W.heap[b]?):Dv.At W' b o x :=
 ⟨(Lg (a:=⟨b,_,none⟩) c).trans h.1,(Lg (a:=⟨b,_,none⟩) c).trans h.2.1,(Lg (a:=⟨b,_,none⟩) c).trans h.2.2.1,(Lg (a:=⟨b,_,none⟩) c).trans h.2.2.2⟩
theorem oh.below {w w':World}{N:Nat}{a:Option Addr}{len:Nat}{d:Nat->Dv}(h:oh w N a len d)(g:Below N w w'):oh w' N a len d:=by
 refine⟨h.1,fun j=> ?_⟩;obtain⟨b,off,e,c,f⟩:=h.2 j;exact⟨b,off,e,c,fun i hi=>⟨(f i hi).1.keep (g.block b c),(f i hi).2⟩⟩
theorem oh.mono {w:World}{N d:Nat}{a:Option Addr}{len:Nat}{f:Nat->Dv}(h:oh w N a len f)(g:N<=d):oh w d a len f:=by
 refine⟨h.1,fun i=> ?_⟩;obtain⟨b,off,e,c,j⟩:=h.2 i;exact⟨b,off,e,Lb c g,j⟩
end Go.Proofs.YtcmncipikdpnbaaGreatDoor
