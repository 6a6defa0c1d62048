import Derived.ProofKit
import Derived.OpenShut
import Derived.Lib.LaidTab
namespace Go.Proofs.YtclkcmidhhfdmaaGreatDoor
open Go.ChangeShapes Go.WideShapes Go.ChangeAt Go.RowKit
mutual
def vG {H:Type}:DataW H->List Value
 | .lit (.bool b)=>[.bool b]
 | .lit (.int k n)=>[.int k n]
 | .lit (.string s)=>[.string ⟨s.toArray⟩]
 | .agg ds=>flatAll ds
 | _=>[]
def flatAll {H:Type}:List (DataW H)->List Value
 | []=>[]
 | d::ds=>vG d++flatAll ds
end
def kL (P:Program):Nat->TypeId->Bool
 | 0,_=>false
 | m+1,t=>match P.underlying t with
  | some .bool=>true
  | some (.int _)=>true
  | some .string=>true
  | some (.array n e)=>P.cellsOf t==n*P.cellsOf e&&kL P m e
  | _=>false
theorem tW {α:Type}(c:Nat):∀(n:Nat) (l:List α),l.length=n*c->l=(List.range n).flatMap fun i=>(l.drop (i*c)).take c
 | 0,l,h=>by simpa using h
 | n+1,l,h=>by
  rw[List.range_succ_eq_map,List.flatMap_cons,List.flatMap_map];have h1:(l.drop c).length=n*c:=by rw[List.length_drop,h,Nat.succ_mul];omega
  have ih:=tW c n (l.drop c) h1;simp only[Nat.zero_mul,List.drop_zero]
  have e:(List.range n).flatMap (fun i=>(l.drop ((i+1)*c)).take c)=l.drop c:=by
   conv=>rhs;rw[ih]
   congr 1
   funext i
   rw[List.drop_drop,Nat.succ_mul,Nat.add_comm]
  rw[e,List.take_append_drop]
theorem na {α β:Type}(f:Nat->List β)(g:α->List β):∀(n:Nat) (xs:List α),xs.length=n->(∀i,i<n->∀x,xs[i]? =some x->f i=g x)->(List.range n).flatMap f=xs.flatMap g:=by
 intro n
 induction n generalizing f with
 | zero=>intro xs h _;simp[List.length_eq_zero_iff.1 h]
 | succ n ih =>
  intro xs h hf
  match xs,h with
  | x::xs,h =>
   rw[List.range_succ_eq_map,List.flatMap_cons,List.flatMap_map,List.flatMap_cons,hf 0 (by omega) x rfl]
   congr 1
   exact ih (fun i=>f (i+1)) xs (by simpa using h) fun i hi y hy=>hf (i+1) (by omega) y (by simpa using hy)
theorem kM {H:Type}:∀(ds:List (DataW H)),flatAll ds=ds.flatMap vG
 | []=>by simp[flatAll]
 | d::ds=>by simp[flatAll,kM ds]
theorem ie {H:Type}{enc:TypeId×Value->H}{P:Program}{w:World}{base:Nat}{sp:Nat->Bool}{held:Bool} :
  ∀(m:Nat) (fuel:Nat) (t:TypeId) (cs:List Value) (d:DataW H) (p:List MemPlace),kL P m t=true->DataW.trod enc P w base sp held fuel t cs=some (d,p)->cs=vG d
 | 0,_,_,_,_,_,h,_=>by simp[kL]at h
 | m+1,fuel,t,cs,d,p,h,hd=>by
  unfold kL at h;split at h
  ·rename_i hu;obtain⟨x,hc,hx⟩:=DataW.trod_bool hu hd;simp only[Prod.mk.injEq]at hx;rw[hc,hx.1];rfl
  ·rename_i hu;obtain⟨x,hc,hx,_⟩:=DataW.trod_int hu hd;simp only[Prod.mk.injEq]at hx;rw[hc,hx.1];rfl
  ·rename_i hu;obtain⟨x,hc,hx,_⟩:=DataW.trod_string hu hd;simp only[Prod.mk.injEq]at hx;rw[hc,hx.1];rfl
  ·rename_i n e hu;simp only[Bool.and_eq_true,beq_iff_eq]at h;obtain⟨xs,k,hk,hx,hl,hn,hs⟩:=DataW.trod_array hu hd;simp only[Prod.mk.injEq]at hx;rw[hx.1];show cs=flatAll _;rw[kM,List.flatMap_map,tW (P.cellsOf e) n cs (by rw[hl,h.1])];refine na _ _ n xs hn fun i hi x hxi=> ?_;have:=hs i hi;rw[hxi]at this;exact ie m k e _ x.1 x.2 h.2 this
  ·cases h
theorem rC {P:Program}{W:World}{name:String}{d:DataW Unit}{rest:List (String×DataW Unit)}{g m:Nat}{t:TypeId}
  (hg:P.globalNamed name=some g)(hty:(P.globals[g]?).map (·.type)=some t)(hp:kL P m t=true)
  (h:laidMet P ((name,d)::rest) W):∃t' fr,W.heap[g]? =some (.cells (vG d).toArray t' fr):=by
 obtain⟨ps,⟨g',t',cs,fuel,p,q,hg',ht',hvar,hd,_,_⟩,_⟩:=h;obtain rfl:=Option.some.inj (hg.symm.trans hg');obtain rfl:=Option.some.inj (hty.symm.trans ht');have e:=ie m fuel t cs.toList d p hp hd;unfold World.var? at hvar;rw[hg]at hvar;simp only[Option.bind_some]at hvar;split at hvar
 ·rename_i c ty fr hh;obtain rfl:=Option.some.inj hvar;exact⟨ty,fr,by rw[<-e];simpa using hh⟩
 cases hvar
end Go.Proofs.YtclkcmidhhfdmaaGreatDoor
