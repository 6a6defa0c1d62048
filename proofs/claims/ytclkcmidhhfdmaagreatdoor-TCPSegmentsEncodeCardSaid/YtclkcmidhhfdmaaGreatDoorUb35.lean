import Derived.Test.YtclkcmidhhfdmaaGreatDoorUb7
import Derived.Deep.Slices
import Derived.Deep.Fields
import Derived.ChangeSame
import Derived.Lib.SmallJoins
namespace Go.Proofs.YtclkcmidhhfdmaaGreatDoor
set_option maxRecDepth 100000
open Go.ChangeShapes Go.WideShapes Go.ChangeAt Go.RowKit Go.Deep
theorem dU {n:Int}(h:(Lit.int .i64 n).wf=true):aI n:=bounds_i64 h
section
variable {H : Type} {enc : TypeId × Value → H} {w : World} {base : Nat} {spare : Nat → Bool} {held : Bool}
set_option maxHeartbeats 4000000 in
theorem rj {n:Nat} {c0 c1 c2 c3 c4 c5:Value} {x:DataW H×List MemPlace} (ht:DataW.trod enc Tryz.prog w base spare held n 23 [c0,c1,c2,c3,c4,c5]=some x) :
  ∃(a0:Int) (a1:Int) (a2:Int) (a3:Int) (a4:Int) (a5:Int),(c0=(a0:Y)/\c1=(a1:Y)/\c2=(a2:Y)/\c3=(a3:Y)/\c4=(a4:Y)/\c5=(a5:Y))/\aI a0/\aI a1/\aI a2/\aI a3/\aI a4/\aI a5:=by
 obtain⟨ys,m,_,_,_,aF,hf⟩:=DataW.trod_struct Tryz.underlying23 ht
 match ys,aF with
 | [y0,y1,y2,y3,y4,y5],_ =>
  have g0:DataW.trod enc Tryz.prog w base spare held m 3 (List.take (Tryz.prog.cellsOf 3) (List.drop 0 [c0,c1,c2,c3,c4,c5]))=[y0,y1,y2,y3,y4,y5][0]? :=hf 0 _ rfl;have g1:DataW.trod enc Tryz.prog w base spare held m 3 (List.take (Tryz.prog.cellsOf 3) (List.drop 1 [c0,c1,c2,c3,c4,c5]))=[y0,y1,y2,y3,y4,y5][1]? :=hf 1 _ rfl;have g2:DataW.trod enc Tryz.prog w base spare held m 3 (List.take (Tryz.prog.cellsOf 3) (List.drop 2 [c0,c1,c2,c3,c4,c5]))=[y0,y1,y2,y3,y4,y5][2]? :=hf 2 _ rfl;have g3:DataW.trod enc Tryz.prog w base spare held m 3 (List.take (Tryz.prog.cellsOf 3) (List.drop 3 [c0,c1,c2,c3,c4,c5]))=[y0,y1,y2,y3,y4,y5][3]? :=hf 3 _ rfl;have g4:DataW.trod enc Tryz.prog w base spare held m 3 (List.take (Tryz.prog.cellsOf 3) (List.drop 4 [c0,c1,c2,c3,c4,c5]))=[y0,y1,y2,y3,y4,y5][4]? :=hf 4 _ rfl;have g5:DataW.trod enc Tryz.prog w base spare held m 3 (List.take (Tryz.prog.cellsOf 3) (List.drop 5 [c0,c1,c2,c3,c4,c5]))=[y0,y1,y2,y3,y4,y5][5]? :=hf 5 _ rfl;have hi:Tryz.prog.cellsOf 3=1:=by kernel_rfl
  rw[hi]at g0 g1 g2 g3 g4 g5;obtain⟨a0,e0,_,w0⟩:=DataW.trod_int Tryz.underlying3 g0;obtain⟨a1,e1,_,w1⟩:=DataW.trod_int Tryz.underlying3 g1;obtain⟨a2,e2,_,w2⟩:=DataW.trod_int Tryz.underlying3 g2;obtain⟨a3,e3,_,w3⟩:=DataW.trod_int Tryz.underlying3 g3;obtain⟨a4,e4,_,w4⟩:=DataW.trod_int Tryz.underlying3 g4;obtain⟨a5,e5,_,w5⟩:=DataW.trod_int Tryz.underlying3 g5;exact⟨a0,a1,a2,a3,a4,a5,⟨by simpa using e0,by simpa using e1,by simpa using e2,by simpa using e3,by simpa using e4,by simpa using e5⟩,dU w0,dU w1,dU w2,dU w3,dU w4,dU w5⟩
set_option maxHeartbeats 4000000 in
theorem uW {n:Nat} {c0 c1 c2 c3:Value} {x:DataW H×List MemPlace} (ht:DataW.trod enc Tryz.prog w base spare held n 32 [c0,c1,c2,c3]=some x) :
  ∃(a0:Int) (a1:Int) (a2:Int) (a3:Int),(c0=(a0:Y)/\c1=(a1:Y)/\c2=(a2:Y)/\c3=(a3:Y))/\aI a0/\aI a1/\aI a2/\aI a3:=by
 obtain⟨ys,m,_,_,_,aF,hf⟩:=DataW.trod_struct Tryz.underlying32 ht
 match ys,aF with
 | [y0,y1,y2,y3],_ =>
  have g0:DataW.trod enc Tryz.prog w base spare held m 3 (List.take (Tryz.prog.cellsOf 3) (List.drop 0 [c0,c1,c2,c3]))=[y0,y1,y2,y3][0]? :=hf 0 _ rfl;have g1:DataW.trod enc Tryz.prog w base spare held m 3 (List.take (Tryz.prog.cellsOf 3) (List.drop 1 [c0,c1,c2,c3]))=[y0,y1,y2,y3][1]? :=hf 1 _ rfl;have g2:DataW.trod enc Tryz.prog w base spare held m 3 (List.take (Tryz.prog.cellsOf 3) (List.drop 2 [c0,c1,c2,c3]))=[y0,y1,y2,y3][2]? :=hf 2 _ rfl;have g3:DataW.trod enc Tryz.prog w base spare held m 3 (List.take (Tryz.prog.cellsOf 3) (List.drop 3 [c0,c1,c2,c3]))=[y0,y1,y2,y3][3]? :=hf 3 _ rfl;have hi:Tryz.prog.cellsOf 3=1:=by kernel_rfl
  rw[hi]at g0 g1 g2 g3;obtain⟨a0,e0,_,w0⟩:=DataW.trod_int Tryz.underlying3 g0;obtain⟨a1,e1,_,w1⟩:=DataW.trod_int Tryz.underlying3 g1;obtain⟨a2,e2,_,w2⟩:=DataW.trod_int Tryz.underlying3 g2;obtain⟨a3,e3,_,w3⟩:=DataW.trod_int Tryz.underlying3 g3;exact⟨a0,a1,a2,a3,⟨by simpa using e0,by simpa using e1,by simpa using e2,by simpa using e3⟩,dU w0,dU w1,dU w2,dU w3⟩
end
theorem vm {n:Nat}{cs:Array Value}(h:cs.size=n):∃l:List Value,cs=l.toArray/\l.length=n:=⟨cs.toList,by simp,by simpa using h⟩
section
variable {H : Type} {enc : TypeId × Value → H} {W : World} {base : Nat} {spare : Nat → Bool} {held : Bool} {r : Reach} {b0 : Nat}
theorem xZ {v:Value} {d:DataW H} {p:List MemPlace} (hv:Value.okWide Tryz.prog W r b0 23 v) (h:DataW.Trod enc Tryz.prog W base spare held 23 v d p) :
  ∃x:Rw,v= .agg (jc x).toArray/\x.In:=by
 obtain⟨cs,rfl,hsz⟩:=okWide_struct Tryz.underlying23 hv;obtain⟨fuel,hf⟩:=h;rw[show Tryz.prog.cellsOf 23=6 by kernel_rfl]at hsz;obtain⟨l,rfl,hl⟩:=vm hsz
 match l,hl with
 | [c0,c1,c2,c3,c4,c5],_ =>
  have hf':DataW.trod enc Tryz.prog W base spare held fuel 23 [c0,c1,c2,c3,c4,c5]=some (d,p):=hf;obtain⟨a0,a1,a2,a3,a4,a5,⟨rfl,rfl,rfl,rfl,rfl,rfl⟩,h0,h1,h2,h3,h4,h5⟩:=rj hf';exact⟨⟨a0,a1,a2,a3,a4,a5⟩,rfl,⟨h0,h1,h2,h3,h4,h5⟩⟩
end
def Dv.In (x:Dv):Prop:=aI x.side/\aI x.kind/\aI x.n/\aI x.tick
def Dv.At (W:World)(b o:Nat)(x:Dv):Prop:=W.cell? ⟨b,o,none⟩=some (x.side:Y)/\W.cell? ⟨b,o+1,none⟩=some (x.kind:Y)/\W.cell? ⟨b,o+2,none⟩=some (x.n:Y)/\W.cell? ⟨b,o+3,none⟩=some (x.tick:Y)
def j9 (w:World)(N:Nat)(a:Option Addr)(len:Nat)(xs:Nat->Dv):Prop :=
 len<=maxLen/\(0<len->∃b off,a=some ⟨b,off,none⟩/\b<N/\∀i,i<len->Dv.At w b (off+i*4) (xs i)/\(xs i).In)
theorem Dv.At.keep {W W':World}{b o:Nat}{x:Dv}(h:Dv.At W b o x)(hb:W'.heap[b]? =W.heap[b]?):Dv.At W' b o x :=
 ⟨(World.cell?_of_block (a:=⟨b,_,none⟩) hb).trans h.1,(World.cell?_of_block (a:=⟨b,_,none⟩) hb).trans h.2.1,(World.cell?_of_block (a:=⟨b,_,none⟩) hb).trans h.2.2.1,(World.cell?_of_block (a:=⟨b,_,none⟩) hb).trans h.2.2.2⟩
theorem j9.below {w w':World}{N:Nat}{a:Option Addr}{len:Nat}{xs:Nat->Dv}(h:j9 w N a len xs)(hb:Below N w w'):j9 w' N a len xs:=by
 refine⟨h.1,fun hp=> ?_⟩;obtain⟨b,off,e,hlt,hc⟩:=h.2 hp;exact⟨b,off,e,hlt,fun i hi=>⟨(hc i hi).1.keep (hb.block b hlt),(hc i hi).2⟩⟩
theorem j9.mono {w:World}{N N':Nat}{a:Option Addr}{len:Nat}{xs:Nat->Dv}(h:j9 w N a len xs)(hN:N<=N'):j9 w N' a len xs:=by
 refine⟨h.1,fun hp=> ?_⟩;obtain⟨b,off,e,hlt,hc⟩:=h.2 hp;exact⟨b,off,e,Nat.lt_of_lt_of_le hlt hN,hc⟩
theorem x6 {H:Type}{enc:TypeId×Value->H}{W:World}{base:Nat}{spare:Nat->Bool}{held:Bool}{a:Option Addr}{len cap:Nat}{d:DataW H}{p:List MemPlace}
  (h:DataW.Trod enc Tryz.prog W base spare held 25 (.slice a len cap) d p):∃xs,j9 W W.heap.size a len xs:=by
 obtain⟨fuel,hf⟩:=h
 rcases open_slice Tryz.underlying25 hf with⟨hcs,_⟩ | ⟨x,l,c,m,n,D,Pl,hcs,_,hl,hm,hmm,_,hi⟩
 ·simp[Value.cells]at hcs
  obtain⟨rfl,rfl,rfl⟩:=hcs;exact⟨fun _=>⟨0,0,0,0⟩,by omega,fun h=>absurd h (by omega)⟩
 simp[Value.cells]at hcs
 obtain⟨rfl,rfl,rfl⟩:=hcs;have hlm:len<=m:=by rw[hmm];split <;> omega
 have h3:Tryz.prog.cellsOf 32=4:=by kernel_rfl
 rw[h3]at hi
 have hsp:0<len->x.spot=none:=fun hp=>by
  obtain⟨cs',hc,ht⟩:=hi 0 (by omega);obtain⟨_,hcl,hat⟩:=World.cells?_some hc;have k0:=hat 0 (by omega)
  match cs',hcl,ht with
  | [c0,c1,c2,c3],_,ht =>
   have d0:W.cell? (x.add (0*4))=some c0:=by rw[show x.add (0*4)=(x.add (0*4)).add 0 from rfl,k0];rfl
   simpa[Addr.add]using World.cell?_spot d0
 have key:∀i,∃c:Dv,i<len->(x.spot=none/\x.block<W.heap.size)/\Dv.At W x.block (x.off+i*4) c/\c.In:=by
  intro i;by_cases hil:i<len
  ·obtain⟨cs',hc,ht⟩:=hi i (by omega);obtain⟨_,hcl,hat⟩:=World.cells?_some hc
   match cs',hcl,hat,ht with
   | [c0,c1,c2,c3],_,hat,ht =>
    obtain⟨a0,a1,a2,a3,⟨rfl,rfl,rfl,rfl⟩,w0,w1,w2,w3⟩:=uW ht;have d0:W.cell? (x.add (i*4))=some (a0:Y):=by rw[show x.add (i*4)=(x.add (i*4)).add 0 from rfl,hat 0 (by omega)];rfl
    have d1:W.cell? ((x.add (i*4)).add 1)=some (a1:Y):=by rw[hat 1 (by omega)];rfl
    have d2:W.cell? ((x.add (i*4)).add 2)=some (a2:Y):=by rw[hat 2 (by omega)];rfl
    have d3:W.cell? ((x.add (i*4)).add 3)=some (a3:Y):=by rw[hat 3 (by omega)];rfl
    refine⟨⟨a0,a1,a2,a3⟩,fun _=> ?_⟩;obtain⟨b,off,spot⟩:=x;have hspot:spot=none:=hsp (by omega);subst hspot;have hlt:=block_lt_of_cell d0;rw[add_plain]at d0 d1 d2 d3 hlt;rw[add_plain]at d1 d2 d3;exact⟨⟨rfl,hlt⟩,⟨d0,d1,d2,d3⟩,w0,w1,w2,w3⟩
  exact⟨⟨0,0,0,0⟩,fun h=>absurd h hil⟩
 obtain⟨cs,hcs⟩:∃cs:Nat->Dv,∀i,i<len->(x.spot=none/\x.block<W.heap.size)/\Dv.At W x.block (x.off+i*4) (cs i)/\(cs i).In:=⟨fun i=>(key i).choose,fun i=>(key i).choose_spec⟩;refine⟨cs,by omega,fun hp=> ?_⟩;obtain⟨b,off,spot⟩:=x;obtain⟨⟨hs,hlt⟩,-⟩:=hcs 0 hp;dsimp only at hs;subst hs;exact⟨b,off,rfl,hlt,fun i hil=>(hcs i hil).2⟩
end Go.Proofs.YtclkcmidhhfdmaaGreatDoor
