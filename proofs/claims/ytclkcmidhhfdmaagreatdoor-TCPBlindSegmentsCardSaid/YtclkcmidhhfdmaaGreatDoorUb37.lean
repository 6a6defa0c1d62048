import Derived.Test.YtclkcmidhhfdmaaGreatDoorUb22
import Derived.Test.YtclkcmidhhfdmaaGreatDoorUb35
namespace Go.Proofs.YtclkcmidhhfdmaaGreatDoor
open Go.ChangeShapes Go.WideShapes Go.ChangeAt Go.RowKit Go.Deep
def yq (W:World)(N:Nat)(a:Option Addr)(L:List Sp):Prop :=
 0<L.length->∃b off,a=some ⟨b,off,none⟩/\b<N/\∀i (h:i<L.length),W.cell? ⟨b,off+i*2,none⟩=some (.int .i64 L[i].1)/\W.cell? ⟨b,off+i*2+1,none⟩=some (.int .i64 L[i].2)
theorem yq.below {W W':World}{N:Nat}{a:Option Addr}{L:List Sp}(h:yq W N a L)(hb:Below N W W'):yq W' N a L:=by
 intro hp;obtain⟨b,off,e,hlt,hc⟩:=h hp;exact⟨b,off,e,hlt,fun i hi=>⟨(hb.cell (p:=⟨b,_,none⟩) hlt).trans (hc i hi).1,(hb.cell (p:=⟨b,_,none⟩) hlt).trans (hc i hi).2⟩⟩
section
variable {H : Type} {enc : TypeId × Value → H} {W : World} {base : Nat} {spare : Nat → Bool} {held : Bool} {r : Reach} {b0 : Nat}
structure SgIn (W:World)(N:Nat)(x:cA):Prop where
 sq:aG x.1.sq
 ak:aG x.1.ak
 bl:yq W N x.2.1 x.1.bl
 cap:x.1.bl.length<=x.2.2/\x.2.2<=maxLen
 len:x.1.s.length<=maxLen
end
def rL (w:World)(N:Nat)(a:Option Addr)(len:Nat)(ys:Nat->cA):Prop :=
 len<=maxLen/\(0<len->∃b off,a=some ⟨b,off,none⟩/\b<N/\∀i,i<len->(∀j,j<13->∀u,(aU (ys i))[j]? =some u->w.cell? ⟨b,off+i*13+j,none⟩=some u)/\SgIn w N (ys i))
theorem SgIn.below {W W':World}{N:Nat}{x:cA}(h:SgIn W N x)(hb:Below N W W'):SgIn W' N x:=⟨h.sq,h.ak,h.bl.below hb,h.cap,h.len⟩
theorem rL.below {w w':World}{N:Nat}{a:Option Addr}{len:Nat}{ys:Nat->cA}(h:rL w N a len ys)(hb:Below N w w'):rL w' N a len ys:=by
 refine⟨h.1,fun hp=> ?_⟩;obtain⟨b,off,e,hlt,hc⟩:=h.2 hp;exact⟨b,off,e,hlt,fun i hi=>⟨fun j hj u hu=>(hb.cell (p:=⟨b,_,none⟩) hlt).trans ((hc i hi).1 j hj u hu),(hc i hi).2.below hb⟩⟩
end Go.Proofs.YtclkcmidhhfdmaaGreatDoor
