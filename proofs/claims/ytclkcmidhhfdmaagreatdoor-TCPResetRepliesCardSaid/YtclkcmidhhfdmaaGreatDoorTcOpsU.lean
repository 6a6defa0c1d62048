import Derived.Test.YtclkcmidhhfdmaaGreatDoorUb36
import Derived.Test.YtclkcmidhhfdmaaGreatDoorUb22
namespace Go.Proofs.YtclkcmidhhfdmaaGreatDoor
open Lib (hid)
set_option maxRecDepth 100000
open Go.ChangeShapes Go.WideShapes Go.ChangeAt Go.RowKit Go.Deep
def SpLo (W:World)(N:Nat)(a:Option Addr)(L:List Sp):Prop :=
 0<L.length->∃b off,a=some ⟨b,off,none⟩/\b<N/\∀i (h:i<L.length),W.cell? ⟨b,off+i*2,none⟩=some (.int .i64 L[i].1)/\W.cell? ⟨b,off+i*2+1,none⟩=some (.int .i64 L[i].2)
theorem SpLo.cut {W:World}{N:Nat}{a:Option Addr}{L:List Sp}(h:SpLo W N a L)(k:Nat):SpLo W N a (L.take k):=by
 intro hp;rw[List.length_take]at hp;obtain⟨b,off,e,hlt,hc⟩:=h (by omega);exact⟨b,off,e,hlt,fun i hi=>by rw[List.length_take]at hi;have:=hc i (by omega);rw[List.getElem_take];exact this⟩
theorem SpLo.below {W W':World}{N:Nat}{a:Option Addr}{L:List Sp}(h:SpLo W N a L)(hb:Below N W W'):SpLo W' N a L:=by
 intro hp;obtain⟨b,off,e,hlt,hc⟩:=h hp;exact⟨b,off,e,hlt,fun i hi=>⟨(hb.cell (p:=⟨b,_,none⟩) hlt).trans (hc i hi).1,(hb.cell (p:=⟨b,_,none⟩) hlt).trans (hc i hi).2⟩⟩
theorem SpLo.spAt {W:World}{N M:Nat}{a:Option Addr}{L:List Sp}(h:SpLo W N a L)(hl:L.length<=1099511627776)(hN:N<=M):SpAt W M a L :=
 ⟨hl,fun hp=>by
  obtain⟨b,off,e,hlt,hc⟩:=h hp;exact⟨b,off,e,Nat.lt_of_lt_of_le hlt hN,hc⟩⟩
section
variable {H : Type} {enc : TypeId × Value → H} {W : World} {base : Nat} {spare : Nat → Bool} {held : Bool} {r : Reach} {b0 : Nat}
theorem open_sps {a:Option Addr}{len cap:Nat}{d:DataW H}{p:List MemPlace}
  (h:DataW.Trod enc Tryz.prog W base spare held 41 (.slice a len cap) d p):∃L:List Sp,L.length=len/\SpLo W W.heap.size a L/\len<=cap/\cap<=maxLen:=by
 obtain⟨fuel,hf⟩:=h
 rcases open_slice Tryz.underlying41 hf with⟨hcs,_⟩ | ⟨x,l,c,m,n,D,Pl,hcs,_,hl,hm,hmm,_,hi⟩
 ·simp[Value.cells]at hcs
  obtain⟨rfl,rfl,rfl⟩:=hcs;exact⟨[],rfl,fun h=>absurd h (by decide),Nat.le_refl _,Nat.zero_le _⟩
 simp[Value.cells]at hcs
 obtain⟨rfl,rfl,rfl⟩:=hcs;have hlm:len<=m:=by rw[hmm];split <;> omega
 have h3:Tryz.prog.cellsOf 92=2:=by kernel_rfl
 rw[h3]at hi
 have hsp:0<len->x.spot=none:=fun hp=>by
  obtain⟨cs',hc,ht⟩:=hi 0 (by omega);obtain⟨_,hcl,hat⟩:=World.cells?_some hc;have k0:=hat 0 (by omega)
  match cs',hcl,ht with
  | [c0,c1],_,ht =>
   have d0:W.cell? (x.add (0*2))=some c0:=by rw[show x.add (0*2)=(x.add (0*2)).add 0 from rfl,k0];rfl
   simpa[Addr.add]using World.cell?_spot d0
 have key:∀i,∃c:Sp,i<len->(x.spot=none/\x.block<W.heap.size)/\W.cell? ⟨x.block,x.off+i*2,none⟩=some (.int .i64 c.1)/\W.cell? ⟨x.block,x.off+i*2+1,none⟩=some (.int .i64 c.2):=by
  intro i;by_cases hil:i<len
  ·obtain⟨cs',hc,ht⟩:=hi i (by omega);obtain⟨_,hcl,hat⟩:=World.cells?_some hc
   match cs',hcl,hat,ht with
   | [c0,c1],_,hat,ht =>
    obtain⟨a1,a2,⟨rfl,rfl⟩,-,-⟩:=span_cells18 ht;refine⟨(a1,a2),fun _=> ?_⟩;have d0:W.cell? (x.add (i*2))=some (.int .i64 a1):=by rw[show x.add (i*2)=(x.add (i*2)).add 0 from rfl,hat 0 (by omega)];rfl
    have d1:W.cell? ((x.add (i*2)).add 1)=some (.int .i64 a2):=by rw[hat 1 (by omega)];rfl
    obtain⟨b,off,spot⟩:=x;have hspot:spot=none:=hsp (by omega);subst hspot;have hlt:=block_lt_of_cell d0;rw[add_plain]at d0 d1 hlt;rw[add_plain]at d1;exact⟨⟨rfl,hlt⟩,d0,d1⟩
  exact⟨(0,0),fun h=>absurd h hil⟩
 obtain⟨cs,hcs⟩:∃cs:Nat->Sp,∀i,i<len->(x.spot=none/\x.block<W.heap.size)/\W.cell? ⟨x.block,x.off+i*2,none⟩=some (.int .i64 (cs i).1)/\W.cell? ⟨x.block,x.off+i*2+1,none⟩=some (.int .i64 (cs i).2):=⟨fun i=>(key i).choose,fun i=>(key i).choose_spec⟩;refine⟨(List.range len).map cs,by rw[List.length_map,List.length_range],fun hp=> ?_,by omega,hm⟩;rw[List.length_map,List.length_range]at hp;obtain⟨b,off,spot⟩:=x;obtain⟨⟨hs,hlt⟩,-⟩:=hcs 0 hp;dsimp only at hs;subst hs;refine⟨b,off,rfl,hlt,fun i hil=> ?_⟩;rw[List.length_map,List.length_range]at hil;rw[List.getElem_map,List.getElem_range];exact(hcs i hil).2
structure SgIn (W:World)(N:Nat)(x:SgM):Prop where
 sq:In64 x.1.sq
 ak:In64 x.1.ak
 bl:SpLo W N x.2.1 x.1.bl
 cap:x.1.bl.length<=x.2.2/\x.2.2<=maxLen
 len:x.1.s.length<=maxLen
theorem seg_in {n:Nat} {c0 c1 c2 c3 c4 c5 c6 c7 c8 c9 c10 c11 c12:Value} {x:DataW H×List MemPlace} (ht:DataW.trod enc Tryz.prog W base spare held n 43 [c0,c1,c2,c3,c4,c5,c6,c7,c8,c9,c10,c11,c12]=some x) :
  ∃y:SgM,[c0,c1,c2,c3,c4,c5,c6,c7,c8,c9,c10,c11,c12]=sgL y/\SgIn W W.heap.size y:=by
 obtain⟨a0,a1,a2,a3,a4,a5,a6,a7,a8,a9,a10,p11,n11,k11,d11,q11,a12,⟨rfl,rfl,rfl,rfl,rfl,rfl,rfl,rfl,rfl,rfl,rfl,rfl,rfl⟩,w0,w1,w2,w3,w8,w9,w11,w12⟩:=seg_cells ht;obtain⟨L,rfl,hL,hc1,hc2⟩:=open_sps w11;refine⟨(⟨a0,a1,a2,a3,a4,a5,a6,a7,a8,a9,a10,L,a12.data.toList⟩,p11,k11),?_,w2,w3,hL,⟨hc1,hc2⟩,?_⟩
 ·unfold sgL;dsimp only
 show a12.data.toList.length<=maxLen;rw[Array.length_toList];exact w12
theorem open_seg {v:Value} {d:DataW H} {p:List MemPlace} (hv:Value.okWide Tryz.prog W r b0 43 v) (h:DataW.Trod enc Tryz.prog W base spare held 43 v d p) :
  ∃y:SgM,v= .agg (sgL y).toArray/\SgIn W W.heap.size y:=by
 obtain⟨cs,rfl,hsz⟩:=okWide_struct Tryz.underlying43 hv;obtain⟨fuel,hf⟩:=h;rw[show Tryz.prog.cellsOf 43=13 by kernel_rfl]at hsz;obtain⟨l,rfl,hl⟩:=arr_len hsz
 match l,hl with
 | [c0,c1,c2,c3,c4,c5,c6,c7,c8,c9,c10,c11,c12],_ =>
  have hf':DataW.trod enc Tryz.prog W base spare held fuel 43 [c0,c1,c2,c3,c4,c5,c6,c7,c8,c9,c10,c11,c12]=some (d,p):=hf;obtain⟨y,e,hy⟩:=seg_in hf';exact⟨y,by rw[e],hy⟩
end
def IsSegs (w:World)(N:Nat)(a:Option Addr)(len:Nat)(ys:Nat->SgM):Prop :=
 len<=maxLen/\(0<len->∃b off,a=some ⟨b,off,none⟩/\b<N/\∀i,i<len->(∀j,j<13->∀u,(sgL (ys i))[j]? =some u->w.cell? ⟨b,off+i*13+j,none⟩=some u)/\SgIn w N (ys i))
theorem SgIn.below {W W':World}{N:Nat}{x:SgM}(h:SgIn W N x)(hb:Below N W W'):SgIn W' N x:=⟨h.sq,h.ak,h.bl.below hb,h.cap,h.len⟩
theorem IsSegs.below {w w':World}{N:Nat}{a:Option Addr}{len:Nat}{ys:Nat->SgM}(h:IsSegs w N a len ys)(hb:Below N w w'):IsSegs w' N a len ys:=by
 refine⟨h.1,fun hp=> ?_⟩;obtain⟨b,off,e,hlt,hc⟩:=h.2 hp;exact⟨b,off,e,hlt,fun i hi=>⟨fun j hj u hu=>(hb.cell (p:=⟨b,_,none⟩) hlt).trans ((hc i hi).1 j hj u hu),(hc i hi).2.below hb⟩⟩
def sgM0:SgM:=(⟨0,0,0,0,false,false,false,false,0,0,false,[],[]⟩,none,0)
theorem open_segs {H:Type}{enc:TypeId×Value->H}{W:World}{base:Nat}{spare:Nat->Bool}{held:Bool}{a:Option Addr}{len cap:Nat}{d:DataW H}{p:List MemPlace}
  (h:DataW.Trod enc Tryz.prog W base spare held 60 (.slice a len cap) d p):∃ys,IsSegs W W.heap.size a len ys:=by
 obtain⟨fuel,hf⟩:=h
 rcases open_slice Tryz.underlying60 hf with⟨hcs,_⟩ | ⟨x,l,c,m,n,D,Pl,hcs,_,hl,hm,hmm,_,hi⟩
 ·simp[Value.cells]at hcs
  obtain⟨rfl,rfl,rfl⟩:=hcs;exact⟨fun _=>sgM0,by omega,fun h=>absurd h (by omega)⟩
 simp[Value.cells]at hcs
 obtain⟨rfl,rfl,rfl⟩:=hcs;have hlm:len<=m:=by rw[hmm];split <;> omega
 have h3:Tryz.prog.cellsOf 43=13:=by kernel_rfl
 rw[h3]at hi
 have hsp:0<len->x.spot=none:=fun hp=>by
  obtain⟨cs',hc,ht⟩:=hi 0 (by omega);obtain⟨_,hcl,hat⟩:=World.cells?_some hc;have k0:=hat 0 (by omega)
  match cs',hcl,ht with
  | [c0,c1,c2,c3,c4,c5,c6,c7,c8,c9,c10,c11,c12],_,ht =>
   have d0:W.cell? (x.add (0*13))=some c0:=by rw[show x.add (0*13)=(x.add (0*13)).add 0 from rfl,k0];rfl
   simpa[Addr.add]using World.cell?_spot d0
 have key:∀i,∃c:SgM,i<len->(x.spot=none/\x.block<W.heap.size)/\(∀j,j<13->∀u,(sgL c)[j]? =some u->W.cell? ⟨x.block,x.off+i*13+j,none⟩=some u)/\SgIn W W.heap.size c:=by
  intro i;by_cases hil:i<len
  ·obtain⟨cs',hc,ht⟩:=hi i (by omega);obtain⟨_,hcl,hat⟩:=World.cells?_some hc
   match cs',hcl,hat,ht with
   | [c0,c1,c2,c3,c4,c5,c6,c7,c8,c9,c10,c11,c12],_,hat,ht =>
    obtain⟨y,e,hy⟩:=seg_in ht;refine⟨y,fun _=> ?_⟩;have d0:W.cell? (x.add (i*13))=some c0:=by rw[show x.add (i*13)=(x.add (i*13)).add 0 from rfl,hat 0 (by omega)];rfl
    obtain⟨b,off,spot⟩:=x;have hspot:spot=none:=hsp (by omega);subst hspot;have hlt:=block_lt_of_cell d0;rw[add_plain]at hlt;refine⟨⟨rfl,hlt⟩,fun j hj u hu=> ?_,hy⟩;have:=hat j (by omega);rw[add_plain,add_plain]at this;rw[this,e];exact hu
  exact⟨sgM0,fun h=>absurd h hil⟩
 obtain⟨cs,hcs⟩:∃cs:Nat->SgM,∀i,i<len->(x.spot=none/\x.block<W.heap.size)/\(∀j,j<13->∀u,(sgL (cs i))[j]? =some u->W.cell? ⟨x.block,x.off+i*13+j,none⟩=some u)/\SgIn W W.heap.size (cs i):=⟨fun i=>(key i).choose,fun i=>(key i).choose_spec⟩;refine⟨cs,by omega,fun hp=> ?_⟩;obtain⟨b,off,spot⟩:=x;obtain⟨⟨hs,hlt⟩,-⟩:=hcs 0 hp;dsimp only at hs;subst hs;exact⟨b,off,rfl,hlt,fun i hil=>(hcs i hil).2⟩
end Go.Proofs.YtclkcmidhhfdmaaGreatDoor
