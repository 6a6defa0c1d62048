import Derived.Test.YtcmncipikdpnbaaGreatDoorUc
import Derived.ProofKit
import Derived.OpenShut
import Derived.Lib.LaidTab
namespace Go.Proofs.YtcmncipikdpnbaaGreatDoor
open Go.ChangeShapes Go.WideShapes Go.ChangeAt Go.RowKit
mutual
def zu {a:Type}:DataW a->List Value
 | .lit (.bool b)=>[.bool b]
 | .lit (.int k n)=>[.int k n]
 | .lit (.string s)=>[.string ⟨s.toArray⟩]
 | .agg ds=>flatAll ds
 | _=>[]
def flatAll {a:Type}:List (DataW a)->List Value
 | []=>[]
 | d::ds=>zu d++flatAll ds
end
def mO (P:Program):Nat->TypeId->Bool
 | 0,_=>false
 | m+1,t=>match P.underlying t with
  | some .bool=>true
  | some (.int _)=>true
  | some .string=>true
  | some (.array n e)=>P.cellsOf t==n*P.cellsOf e&&mO P m e
  | _=>false
theorem x8 {α:Type}(c:Nat):∀(n:Nat) (l:List α),l.length=n*c->l=(List.range n).flatMap fun i=>(l.drop (i*c)).take c
 | 0,l,h=>by simpa using h
 | n+1,l,h=>by
  rw[List.range_succ_eq_map,List.flatMap_cons,List.flatMap_map];have h1:(l.drop c).length=n*c:=by rw[Lt,h,Nat.succ_mul];omega
  have a:=x8 c n (l.drop c) h1;simp only[Nr,MK]
  have e:(List.range n).flatMap (fun i=>(l.drop ((i+1)*c)).take c)=l.drop c:=by
   conv=>rhs;rw[a]
   congr 1
   funext i
   rw[List.drop_drop,Nat.succ_mul,Nat.add_comm]
  rw[e,NT]
theorem qV {α β:Type}(f:Nat->List β)(g:α->List β):∀(n:Nat) (a:List α),a.length=n->(∀i,i<n->∀x,a[i]? =some x->f i=g x)->(List.range n).flatMap f=a.flatMap g:=by
 intro n
 induction n generalizing f with
 | zero=>intro a h _;simp[List.length_eq_zero_iff.1 h]
 | succ n c =>
  intro a h b
  match a,h with
  | x::a,h =>
   rw[List.range_succ_eq_map,List.flatMap_cons,List.flatMap_map,List.flatMap_cons,b 0 O x Z]
   congr 1
   exact c (fun i=>f (i+1)) a IY fun i hi y hy=>b (i+1) O y Jt
theorem mP {a:Type}:∀(ds:List (DataW a)),flatAll ds=ds.flatMap zu
 | []=>by simp[flatAll]
 | d::ds=>by simp[flatAll,mP ds]
theorem ji {a:Type}{enc:TypeId×Value->a}{P:Program}{w:World}{base:Nat}{sp:Nat->Bool}{held:Bool} :
  ∀(m:Nat) (fuel:Nat) (t:TypeId) (cs:List Value) (d:DataW a) (p:List MemPlace),mO P m t=true->DataW.trod enc P w base sp held fuel t cs=some (d,p)->cs=zu d
 | 0,_,_,_,_,_,h,_=>by simp[mO]at h
 | m+1,fuel,t,cs,d,p,h,hd=>by
  unfold mO at h;split at h
  ·rename_i c;obtain⟨x,f,b⟩:=DataW.trod_bool c hd;simp only[NZ]at b;rw[f,b.1];rfl
  ·rename_i c;obtain⟨x,f,b,_⟩:=DataW.trod_int c hd;simp only[NZ]at b;rw[f,b.1];rfl
  ·rename_i c;obtain⟨x,f,b,_⟩:=DataW.trod_string c hd;simp only[NZ]at b;rw[f,b.1];rfl
  ·rename_i n e c;simp only[LD,Me]at h;obtain⟨j,k,q,b,l,o,hs⟩:=DataW.trod_array c hd;simp only[NZ]at b;rw[b.1];show cs=flatAll _;rw[mP,List.flatMap_map,x8 (P.cellsOf e) n cs (by rw[l,h.1])];refine qV _ _ n j o fun i hi x g=> ?_;have:=hs i hi;rw[g]at this;exact ji m k e _ x.1 x.2 h.2 this
  ·cases h
theorem ut {P:Program}{W:World}{name:String}{d:DataW Unit}{rest:List (String×DataW Unit)}{g m:Nat}{t:TypeId}
  (k:P.globalNamed name=some g)(b:(P.globals[g]?).map (·.type)=some t)(n:mO P m t=true)
  (h:laidMet P ((name,d)::rest) W):∃l f,W.heap[g]? =some (.cells (zu d).toArray l f):=by
 obtain⟨s,⟨u,l,cs,fuel,p,q,i,j,a,o,_,_⟩,_⟩:=h;obtain rfl:=N3 (k.symm.trans i);obtain rfl:=N3 (b.symm.trans j);have e:=ji m fuel t cs.toList d p n o;unfold World.var? at a;rw[k]at a;simp only[Option.bind_some]at a;split at a
 ·rename_i c ty f r;obtain rfl:=N3 a;exact⟨ty,f,by rw[<-e];simpa using r⟩
 cases a
end Go.Proofs.YtcmncipikdpnbaaGreatDoor
