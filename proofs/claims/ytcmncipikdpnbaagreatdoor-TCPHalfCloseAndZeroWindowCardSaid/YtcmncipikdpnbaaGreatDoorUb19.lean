import Derived.Test.YtcmncipikdpnbaaGreatDoorUc
import Derived.ProofKit
import Derived.OpenShut
import Derived.Lib.LaidTab
namespace Go.Proofs.YtcmncipikdpnbaaGreatDoor
open Go.ChangeShapes Go.WideShapes Go.ChangeAt Go.RowKit
mutual
def Ab {a:Type}:DataW a->List Value
 | .lit (.bool b)=>[.bool b]
 | .lit (.int k n)=>[.int k n]
 | .lit (.string s)=>[.string ⟨s.toArray⟩]
 | .agg ds=>flatAll ds
 | _=>[]
def flatAll {a:Type}:List (DataW a)->List Value
 | []=>[]
 | d::ds=>Ab d++flatAll ds
end
def mf (P:Program):Nat->TypeId->Bool
 | 0,_=>false
 | m+1,t=>match P.underlying t with
  | some .bool=>true
  | some (.int _)=>true
  | some .string=>true
  | some (.array n e)=>P.cellsOf t==n*P.cellsOf e&&mf P m e
  | _=>false
theorem yW {α:Type}(c:Nat):∀(n:Nat) (l:List α),l.length=n*c->l=(List.range n).flatMap fun i=>(l.drop (i*c)).take c
 | 0,l,h=>by simpa using h
 | n+1,l,h=>by
  rw[List.range_succ_eq_map,List.flatMap_cons,List.flatMap_map];have h1:(l.drop c).length=n*c:=by rw[Lq,h,Nat.succ_mul];omega
  have a:=yW c n (l.drop c) h1;simp only[No,MH]
  have e:(List.range n).flatMap (fun i=>(l.drop ((i+1)*c)).take c)=l.drop c:=by
   conv=>rhs;rw[a]
   congr 1
   funext i
   rw[List.drop_drop,Nat.succ_mul,Nat.add_comm]
  rw[e,NP]
theorem rA {α β:Type}(f:Nat->List β)(g:α->List β):∀(n:Nat) (a:List α),a.length=n->(∀i,i<n->∀x,a[i]? =some x->f i=g x)->(List.range n).flatMap f=a.flatMap g:=by
 intro n
 induction n generalizing f with
 | zero=>intro a h _;simp[List.length_eq_zero_iff.1 h]
 | succ n c =>
  intro a h b
  match a,h with
  | x::a,h =>
   rw[List.range_succ_eq_map,List.flatMap_cons,List.flatMap_map,List.flatMap_cons,b 0 O x Z]
   congr 1
   exact c (fun i=>f (i+1)) a IT fun i hi y hy=>b (i+1) O y Jm
theorem mg {a:Type}:∀(ds:List (DataW a)),flatAll ds=ds.flatMap Ab
 | []=>by simp[flatAll]
 | d::ds=>by simp[flatAll,mg ds]
theorem jt {a:Type}{enc:TypeId×Value->a}{P:Program}{w:World}{base:Nat}{sp:Nat->Bool}{held:Bool} :
  ∀(m:Nat) (fuel:Nat) (t:TypeId) (cs:List Value) (d:DataW a) (p:List MemPlace),mf P m t=true->DataW.trod enc P w base sp held fuel t cs=some (d,p)->cs=Ab d
 | 0,_,_,_,_,_,h,_=>by simp[mf]at h
 | m+1,fuel,t,cs,d,p,h,hd=>by
  unfold mf at h;split at h
  ·rename_i b;obtain⟨x,c,hx⟩:=DataW.trod_bool b hd;simp only[NV]at hx;rw[c,hx.1];rfl
  ·rename_i b;obtain⟨x,c,hx,_⟩:=DataW.trod_int b hd;simp only[NV]at hx;rw[c,hx.1];rfl
  ·rename_i b;obtain⟨x,c,hx,_⟩:=DataW.trod_string b hd;simp only[NV]at hx;rw[c,hx.1];rfl
  ·rename_i n e b;simp only[Ly,Mb]at h;obtain⟨g,k,o,hx,j,l,hs⟩:=DataW.trod_array b hd;simp only[NV]at hx;rw[hx.1];show cs=flatAll _;rw[mg,List.flatMap_map,yW (P.cellsOf e) n cs (by rw[j,h.1])];refine rA _ _ n g l fun i hi x f=> ?_;have:=hs i hi;rw[f]at this;exact jt m k e _ x.1 x.2 h.2 this
  ·cases h
theorem vi {P:Program}{W:World}{name:String}{d:DataW Unit}{rest:List (String×DataW Unit)}{g m:Nat}{t:TypeId}
  (k:P.globalNamed name=some g)(b:(P.globals[g]?).map (·.type)=some t)(n:mf P m t=true)
  (h:laidMet P ((name,d)::rest) W):∃l f,W.heap[g]? =some (.cells (Ab d).toArray l f):=by
 obtain⟨s,⟨u,l,cs,fuel,p,q,i,j,a,o,_,_⟩,_⟩:=h;obtain rfl:=MY (k.symm.trans i);obtain rfl:=MY (b.symm.trans j);have e:=jt m fuel t cs.toList d p n o;unfold World.var? at a;rw[k]at a;simp only[Option.bind_some]at a;split at a
 ·rename_i c ty f r;obtain rfl:=MY a;exact⟨ty,f,by rw[<-e];simpa using r⟩
 cases a
end Go.Proofs.YtcmncipikdpnbaaGreatDoor
