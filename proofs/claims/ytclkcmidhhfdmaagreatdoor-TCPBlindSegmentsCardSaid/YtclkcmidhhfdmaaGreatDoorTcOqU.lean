import Derived.Test.YtclkcmidhhfdmaaGreatDoorUb37
namespace Go.Proofs.YtclkcmidhhfdmaaGreatDoor
open Lib (hid)
set_option maxRecDepth 100000
open Go.ChangeShapes Go.WideShapes Go.ChangeAt Go.RowKit Go.Deep
section
variable {H : Type} {enc : TypeId × Value → H} {w : World} {base : Nat} {spare : Nat → Bool} {held : Bool}
variable {H : Type} {enc : TypeId × Value → H} {W : World} {base : Nat} {spare : Nat → Bool} {held : Bool} {r : Reach} {b0 : Nat}
set_option maxHeartbeats 4000000 in
theorem Bb {n:Nat} {c0 c1:Value} {x:DataW H×List MemPlace} (ht:DataW.trod enc Tryz.prog w base spare held n 92 [c0,c1]=some x) :
  ∃(a0:Int) (a1:Int),(c0= .int .i64 a0/\c1= .int .i64 a1)/\aG a0/\aG a1:=by
 obtain⟨ys,m,_,_,_,ac,hf⟩:=DataW.trod_struct Tryz.underlying92 ht
 match ys,ac with
 | [y0,y1],_ =>
  have g0:DataW.trod enc Tryz.prog w base spare held m 3 (List.take (Tryz.prog.cellsOf 3) (List.drop 0 [c0,c1]))=[y0,y1][0]? :=hf 0 _ rfl;have g1:DataW.trod enc Tryz.prog w base spare held m 3 (List.take (Tryz.prog.cellsOf 3) (List.drop 1 [c0,c1]))=[y0,y1][1]? :=hf 1 _ rfl;have hi:Tryz.prog.cellsOf 3=1:=by kernel_rfl
  rw[hi]at g0 g1;obtain⟨a0,e0,_,w0⟩:=DataW.trod_int Tryz.underlying3 g0;obtain⟨a1,e1,_,w1⟩:=DataW.trod_int Tryz.underlying3 g1;exact⟨a0,a1,⟨by simpa using e0,by simpa using e1⟩,dt w0,dt w1⟩
set_option maxHeartbeats 4000000 in
theorem Bd {n:Nat} {c0 c1 c2 c3 c4 c5 c6 c7 c8 c9 c10 c11 c12:Value} {x:DataW H×List MemPlace} (ht:DataW.trod enc Tryz.prog w base spare held n 43 [c0,c1,c2,c3,c4,c5,c6,c7,c8,c9,c10,c11,c12]=some x) :
  ∃(a0:Int) (a1:Int) (a2:Int) (a3:Int) (a4:Bool) (a5:Bool) (a6:Bool) (a7:Bool) (a8:Int) (a9:Int) (ab:Bool) (aF:Option Addr) (n11 k11:Nat) (ag:DataW H) (ak:List MemPlace) (aa:ByteArray),(c0= .int .i64 a0/\c1= .int .i64 a1/\c2= .int .i64 a2/\c3= .int .i64 a3/\c4= .bool a4/\c5= .bool a5/\c6= .bool a6/\c7= .bool a7/\c8= .int .i64 a8/\c9= .int .i64 a9/\c10= .bool ab/\c11= .slice aF n11 k11/\c12= .string aa)/\aG a0/\aG a1/\aG a2/\aG a3/\aG a8/\aG a9/\DataW.Trod enc Tryz.prog w base spare held 41 (.slice aF n11 k11) ag ak/\aa.size<=maxLen:=by
 obtain⟨ys,m,_,_,_,ac,hf⟩:=DataW.trod_struct Tryz.underlying43 ht
 match ys,ac with
 | [y0,y1,y2,y3,y4,y5,y6,y7,y8,y9,y10,y11,y12],_ =>
  have g0:DataW.trod enc Tryz.prog w base spare held m 3 (List.take (Tryz.prog.cellsOf 3) (List.drop 0 [c0,c1,c2,c3,c4,c5,c6,c7,c8,c9,c10,c11,c12]))=[y0,y1,y2,y3,y4,y5,y6,y7,y8,y9,y10,y11,y12][0]? :=hf 0 _ rfl;have g1:DataW.trod enc Tryz.prog w base spare held m 3 (List.take (Tryz.prog.cellsOf 3) (List.drop 1 [c0,c1,c2,c3,c4,c5,c6,c7,c8,c9,c10,c11,c12]))=[y0,y1,y2,y3,y4,y5,y6,y7,y8,y9,y10,y11,y12][1]? :=hf 1 _ rfl;have g2:DataW.trod enc Tryz.prog w base spare held m 3 (List.take (Tryz.prog.cellsOf 3) (List.drop 2 [c0,c1,c2,c3,c4,c5,c6,c7,c8,c9,c10,c11,c12]))=[y0,y1,y2,y3,y4,y5,y6,y7,y8,y9,y10,y11,y12][2]? :=hf 2 _ rfl;have g3:DataW.trod enc Tryz.prog w base spare held m 3 (List.take (Tryz.prog.cellsOf 3) (List.drop 3 [c0,c1,c2,c3,c4,c5,c6,c7,c8,c9,c10,c11,c12]))=[y0,y1,y2,y3,y4,y5,y6,y7,y8,y9,y10,y11,y12][3]? :=hf 3 _ rfl;have g4:DataW.trod enc Tryz.prog w base spare held m 4 (List.take (Tryz.prog.cellsOf 4) (List.drop 4 [c0,c1,c2,c3,c4,c5,c6,c7,c8,c9,c10,c11,c12]))=[y0,y1,y2,y3,y4,y5,y6,y7,y8,y9,y10,y11,y12][4]? :=hf 4 _ rfl;have g5:DataW.trod enc Tryz.prog w base spare held m 4 (List.take (Tryz.prog.cellsOf 4) (List.drop 5 [c0,c1,c2,c3,c4,c5,c6,c7,c8,c9,c10,c11,c12]))=[y0,y1,y2,y3,y4,y5,y6,y7,y8,y9,y10,y11,y12][5]? :=hf 5 _ rfl;have g6:DataW.trod enc Tryz.prog w base spare held m 4 (List.take (Tryz.prog.cellsOf 4) (List.drop 6 [c0,c1,c2,c3,c4,c5,c6,c7,c8,c9,c10,c11,c12]))=[y0,y1,y2,y3,y4,y5,y6,y7,y8,y9,y10,y11,y12][6]? :=hf 6 _ rfl;have g7:DataW.trod enc Tryz.prog w base spare held m 4 (List.take (Tryz.prog.cellsOf 4) (List.drop 7 [c0,c1,c2,c3,c4,c5,c6,c7,c8,c9,c10,c11,c12]))=[y0,y1,y2,y3,y4,y5,y6,y7,y8,y9,y10,y11,y12][7]? :=hf 7 _ rfl;have g8:DataW.trod enc Tryz.prog w base spare held m 3 (List.take (Tryz.prog.cellsOf 3) (List.drop 8 [c0,c1,c2,c3,c4,c5,c6,c7,c8,c9,c10,c11,c12]))=[y0,y1,y2,y3,y4,y5,y6,y7,y8,y9,y10,y11,y12][8]? :=hf 8 _ rfl;have g9:DataW.trod enc Tryz.prog w base spare held m 3 (List.take (Tryz.prog.cellsOf 3) (List.drop 9 [c0,c1,c2,c3,c4,c5,c6,c7,c8,c9,c10,c11,c12]))=[y0,y1,y2,y3,y4,y5,y6,y7,y8,y9,y10,y11,y12][9]? :=hf 9 _ rfl;have g10:DataW.trod enc Tryz.prog w base spare held m 4 (List.take (Tryz.prog.cellsOf 4) (List.drop 10 [c0,c1,c2,c3,c4,c5,c6,c7,c8,c9,c10,c11,c12]))=[y0,y1,y2,y3,y4,y5,y6,y7,y8,y9,y10,y11,y12][10]? :=hf 10 _ rfl;have g11:DataW.trod enc Tryz.prog w base spare held m 41 (List.take (Tryz.prog.cellsOf 41) (List.drop 11 [c0,c1,c2,c3,c4,c5,c6,c7,c8,c9,c10,c11,c12]))=[y0,y1,y2,y3,y4,y5,y6,y7,y8,y9,y10,y11,y12][11]? :=hf 11 _ rfl;have g12:DataW.trod enc Tryz.prog w base spare held m 9 (List.take (Tryz.prog.cellsOf 9) (List.drop 12 [c0,c1,c2,c3,c4,c5,c6,c7,c8,c9,c10,c11,c12]))=[y0,y1,y2,y3,y4,y5,y6,y7,y8,y9,y10,y11,y12][12]? :=hf 12 _ rfl;have hb:Tryz.prog.cellsOf 4=1:=by kernel_rfl
  have hi:Tryz.prog.cellsOf 3=1:=by kernel_rfl
  have hl:Tryz.prog.cellsOf 41=1:=by kernel_rfl
  have hs:Tryz.prog.cellsOf 9=1:=by kernel_rfl
  rw[hb]at g4 g5 g6 g7 g10;rw[hi]at g0 g1 g2 g3 g8 g9;rw[hl]at g11;rw[hs]at g12;obtain⟨a0,e0,_,w0⟩:=DataW.trod_int Tryz.underlying3 g0;obtain⟨a1,e1,_,w1⟩:=DataW.trod_int Tryz.underlying3 g1;obtain⟨a2,e2,_,w2⟩:=DataW.trod_int Tryz.underlying3 g2;obtain⟨a3,e3,_,w3⟩:=DataW.trod_int Tryz.underlying3 g3;obtain⟨a4,e4,_⟩:=DataW.trod_bool Tryz.underlying4 g4;obtain⟨a5,e5,_⟩:=DataW.trod_bool Tryz.underlying4 g5;obtain⟨a6,e6,_⟩:=DataW.trod_bool Tryz.underlying4 g6;obtain⟨a7,e7,_⟩:=DataW.trod_bool Tryz.underlying4 g7;obtain⟨a8,e8,_,w8⟩:=DataW.trod_int Tryz.underlying3 g8;obtain⟨a9,e9,_,w9⟩:=DataW.trod_int Tryz.underlying3 g9;obtain⟨ab,e10,_⟩:=DataW.trod_bool Tryz.underlying4 g10;obtain⟨aF,n11,k11,e11⟩:=Joins.slice_form Tryz.underlying41 g11;have e11:c11= .slice aF n11 k11:=by simpa using e11
  subst e11;obtain⟨aa,e12,_,ad⟩:=DataW.trod_string Tryz.underlying9 g12;exact⟨a0,a1,a2,a3,a4,a5,a6,a7,a8,a9,ab,aF,n11,k11,y11.1,y11.2,aa,⟨by simpa using e0,by simpa using e1,by simpa using e2,by simpa using e3,by simpa using e4,by simpa using e5,by simpa using e6,by simpa using e7,by simpa using e8,by simpa using e9,by simpa using e10,rfl,by simpa using e12⟩,dt w0,dt w1,dt w2,dt w3,dt w8,dt w9,⟨m,g11⟩,ad⟩
end
section
variable {H : Type} {enc : TypeId × Value → H} {W : World} {base : Nat} {spare : Nat → Bool} {held : Bool} {r : Reach} {b0 : Nat}
theorem Bf {a:Option Addr}{len cap:Nat}{d:DataW H}{p:List MemPlace}
  (h:DataW.Trod enc Tryz.prog W base spare held 41 (.slice a len cap) d p):∃L:List Sp,L.length=len/\yq W W.heap.size a L/\len<=cap/\cap<=maxLen:=by
 obtain⟨fuel,hf⟩:=h
 rcases open_slice Tryz.underlying41 hf with⟨hcs,_⟩ | ⟨x,l,c,m,n,D,Pl,hcs,_,hl,hm,hmm,_,hi⟩
 ·simp[Value.cells]at hcs
  obtain⟨rfl,rfl,rfl⟩:=hcs;exact⟨[],rfl,fun h=>absurd h (by decide),Nat.le_refl _,Nat.zero_le _⟩
 simp[Value.cells]at hcs
 obtain⟨rfl,rfl,rfl⟩:=hcs;have hlm:len<=m:=by rw[hmm];split <;> omega
 have h3:Tryz.prog.cellsOf 92=2:=by kernel_rfl
 rw[h3]at hi
 have hsp:0<len->x.spot=none:=fun hp=>by
  obtain⟨cs',hc,ht⟩:=hi 0 (by omega);obtain⟨_,hcl,hat⟩:=World.cells?_some hc;have k0:=hat 0 (by omega)
  match cs',hcl,ht with
  | [c0,c1],_,ht =>
   have d0:W.cell? (x.add (0*2))=some c0:=by rw[show x.add (0*2)=(x.add (0*2)).add 0 from rfl,k0];rfl
   simpa[Addr.add]using World.cell?_spot d0
 have key:∀i,∃c:Sp,i<len->(x.spot=none/\x.block<W.heap.size)/\W.cell? ⟨x.block,x.off+i*2,none⟩=some (.int .i64 c.1)/\W.cell? ⟨x.block,x.off+i*2+1,none⟩=some (.int .i64 c.2):=by
  intro i;by_cases hil:i<len
  ·obtain⟨cs',hc,ht⟩:=hi i (by omega);obtain⟨_,hcl,hat⟩:=World.cells?_some hc
   match cs',hcl,hat,ht with
   | [c0,c1],_,hat,ht =>
    obtain⟨a1,a2,⟨rfl,rfl⟩,-,-⟩:=Bb ht;refine⟨(a1,a2),fun _=> ?_⟩;have d0:W.cell? (x.add (i*2))=some (.int .i64 a1):=by rw[show x.add (i*2)=(x.add (i*2)).add 0 from rfl,hat 0 (by omega)];rfl
    have d1:W.cell? ((x.add (i*2)).add 1)=some (.int .i64 a2):=by rw[hat 1 (by omega)];rfl
    obtain⟨b,off,spot⟩:=x;have hspot:spot=none:=hsp (by omega);subst hspot;have hlt:=block_lt_of_cell d0;rw[add_plain]at d0 d1 hlt;rw[add_plain]at d1;exact⟨⟨rfl,hlt⟩,d0,d1⟩
  exact⟨(0,0),fun h=>absurd h hil⟩
 obtain⟨cs,hcs⟩:∃cs:Nat->Sp,∀i,i<len->(x.spot=none/\x.block<W.heap.size)/\W.cell? ⟨x.block,x.off+i*2,none⟩=some (.int .i64 (cs i).1)/\W.cell? ⟨x.block,x.off+i*2+1,none⟩=some (.int .i64 (cs i).2):=⟨fun i=>(key i).choose,fun i=>(key i).choose_spec⟩;refine⟨(List.range len).map cs,by rw[List.length_map,List.length_range],fun hp=> ?_,by omega,hm⟩;rw[List.length_map,List.length_range]at hp;obtain⟨b,off,spot⟩:=x;obtain⟨⟨hs,hlt⟩,-⟩:=hcs 0 hp;dsimp only at hs;subst hs;refine⟨b,off,rfl,hlt,fun i hil=> ?_⟩;rw[List.length_map,List.length_range]at hil;rw[List.getElem_map,List.getElem_range];exact(hcs i hil).2
theorem Bm {n:Nat} {c0 c1 c2 c3 c4 c5 c6 c7 c8 c9 c10 c11 c12:Value} {x:DataW H×List MemPlace} (ht:DataW.trod enc Tryz.prog W base spare held n 43 [c0,c1,c2,c3,c4,c5,c6,c7,c8,c9,c10,c11,c12]=some x) :
  ∃y:cA,[c0,c1,c2,c3,c4,c5,c6,c7,c8,c9,c10,c11,c12]=aU y/\SgIn W W.heap.size y:=by
 obtain⟨a0,a1,a2,a3,a4,a5,a6,a7,a8,a9,ab,aF,n11,k11,ag,ak,aa,⟨rfl,rfl,rfl,rfl,rfl,rfl,rfl,rfl,rfl,rfl,rfl,rfl,rfl⟩,w0,w1,w2,w3,w8,w9,al,ad⟩:=Bd ht;obtain⟨L,rfl,hL,hc1,hc2⟩:=Bf al;refine⟨(⟨a0,a1,a2,a3,a4,a5,a6,a7,a8,a9,ab,L,aa.data.toList⟩,aF,k11),?_,w2,w3,hL,⟨hc1,hc2⟩,?_⟩
 ·unfold aU;dsimp only
 show aa.data.toList.length<=maxLen;rw[Array.length_toList];exact ad
end
def Bn:cA:=(⟨0,0,0,0,false,false,false,false,0,0,false,[],[]⟩,none,0)
theorem Be {H:Type}{enc:TypeId×Value->H}{W:World}{base:Nat}{spare:Nat->Bool}{held:Bool}{a:Option Addr}{len cap:Nat}{d:DataW H}{p:List MemPlace}
  (h:DataW.Trod enc Tryz.prog W base spare held 60 (.slice a len cap) d p):∃ys,rL W W.heap.size a len ys:=by
 obtain⟨fuel,hf⟩:=h
 rcases open_slice Tryz.underlying60 hf with⟨hcs,_⟩ | ⟨x,l,c,m,n,D,Pl,hcs,_,hl,hm,hmm,_,hi⟩
 ·simp[Value.cells]at hcs
  obtain⟨rfl,rfl,rfl⟩:=hcs;exact⟨fun _=>Bn,by omega,fun h=>absurd h (by omega)⟩
 simp[Value.cells]at hcs
 obtain⟨rfl,rfl,rfl⟩:=hcs;have hlm:len<=m:=by rw[hmm];split <;> omega
 have h3:Tryz.prog.cellsOf 43=13:=by kernel_rfl
 rw[h3]at hi
 have hsp:0<len->x.spot=none:=fun hp=>by
  obtain⟨cs',hc,ht⟩:=hi 0 (by omega);obtain⟨_,hcl,hat⟩:=World.cells?_some hc;have k0:=hat 0 (by omega)
  match cs',hcl,ht with
  | [c0,c1,c2,c3,c4,c5,c6,c7,c8,c9,c10,c11,c12],_,ht =>
   have d0:W.cell? (x.add (0*13))=some c0:=by rw[show x.add (0*13)=(x.add (0*13)).add 0 from rfl,k0];rfl
   simpa[Addr.add]using World.cell?_spot d0
 have key:∀i,∃c:cA,i<len->(x.spot=none/\x.block<W.heap.size)/\(∀j,j<13->∀u,(aU c)[j]? =some u->W.cell? ⟨x.block,x.off+i*13+j,none⟩=some u)/\SgIn W W.heap.size c:=by
  intro i;by_cases hil:i<len
  ·obtain⟨cs',hc,ht⟩:=hi i (by omega);obtain⟨_,hcl,hat⟩:=World.cells?_some hc
   match cs',hcl,hat,ht with
   | [c0,c1,c2,c3,c4,c5,c6,c7,c8,c9,c10,c11,c12],_,hat,ht =>
    obtain⟨y,e,hy⟩:=Bm ht;refine⟨y,fun _=> ?_⟩;have d0:W.cell? (x.add (i*13))=some c0:=by rw[show x.add (i*13)=(x.add (i*13)).add 0 from rfl,hat 0 (by omega)];rfl
    obtain⟨b,off,spot⟩:=x;have hspot:spot=none:=hsp (by omega);subst hspot;have hlt:=block_lt_of_cell d0;rw[add_plain]at hlt;refine⟨⟨rfl,hlt⟩,fun j hj u hu=> ?_,hy⟩;have:=hat j (by omega);rw[add_plain,add_plain]at this;rw[this,e];exact hu
  exact⟨Bn,fun h=>absurd h hil⟩
 obtain⟨cs,hcs⟩:∃cs:Nat->cA,∀i,i<len->(x.spot=none/\x.block<W.heap.size)/\(∀j,j<13->∀u,(aU (cs i))[j]? =some u->W.cell? ⟨x.block,x.off+i*13+j,none⟩=some u)/\SgIn W W.heap.size (cs i):=⟨fun i=>(key i).choose,fun i=>(key i).choose_spec⟩;refine⟨cs,by omega,fun hp=> ?_⟩;obtain⟨b,off,spot⟩:=x;obtain⟨⟨hs,hlt⟩,-⟩:=hcs 0 hp;dsimp only at hs;subst hs;exact⟨b,off,rfl,hlt,fun i hil=>(hcs i hil).2⟩
end Go.Proofs.YtclkcmidhhfdmaaGreatDoor
