import Derived.Test.YtcmncipikdpnbaaGreatDoorUc
import Derived.Test.YtcmncipikdpnbaaGreatDoorChecked
import Derived.WalkKit
import Derived.Deep.RegionHeld
import Derived.Lib.Hide
import Derived.Deep.MidRow
namespace Go.Proofs.YtcmncipikdpnbaaGreatDoor
open Go Go.RowKit
section
variable {P : Program} {ops : Array Oper} {Q : Exit → Act → World → Prop} {md : Region.Mode} {S : World → Prop}
theorem aQ (i:Nat){e:Oper}{v:Value}{fuel:Nat}{b d:Array Bool}{a f:Act}{w:World}(h:wpAnyH P md ops Q S fuel d f w)
  (hi:ops[i]? =some e:=by(simp only[Lx,Lv,Lr];rfl))
  (hs:Region.noSelect ops=true:=by kernel_rfl)(g:Region.free md ops b i=true:=by kernel_rfl)(j:(Region.ready md ops b).contains i=true:=by kernel_rfl)
  (k:∀c a w,Q (.panic c) (a.put e.dst v) w->Q (.panic c) a w:=by exact fun _ _ _ h=>h)
  (hw:Region.wanted e (yielded ops a.tmps)=true:=by rfl)
  (hy:∀w,S w->(execOp a.eval e).run P w= .ok (.value v) w:=by(intro w hz;(try dsimp only at hz);(repeat (have l:=NW hz;replace hz:=NF hz));go_simp;(try with_reducible rfl)))
  (m:S w:=by assumption)
  (n:b.setIfInBounds i true=d:=by((try simp only[Lf,Lk,Lm]);(try rfl)))
  (o:a.put e.dst v=f:=by((try simp only[Act.put,Lf,Lk,Lm]);(try rfl))):wpAnyH P md ops Q S (fuel+1) b a w :=
 wpAnyH_take hi hs g j k (.inl ⟨hw,hy⟩) m (by rw[n,o];exact h)
theorem aU (i:Nat){e:Oper}{fuel:Nat}{b d:Array Bool}{a f:Act}{w:World}(h:wpAnyH P md ops Q S fuel d f w)
  (hi:ops[i]? =some e:=by(simp only[Lx,Lv,Lr];rfl))
  (hs:Region.noSelect ops=true:=by kernel_rfl)(g:Region.free md ops b i=true:=by kernel_rfl)(j:(Region.ready md ops b).contains i=true:=by kernel_rfl)
  (k:∀c a w,Q (.panic c) (a.put e.dst undef) w->Q (.panic c) a w:=by exact fun _ _ _ h=>h)
  (hw:Region.wanted e (yielded ops a.tmps)=false:=by rfl)
  (l:S w:=by assumption)
  (m:b.setIfInBounds i true=d:=by((try simp only[Lf,Lk,Lm]);(try rfl)))
  (n:a.put e.dst undef=f:=by((try simp only[Act.put,Lf,Lk,Lm]);(try rfl))):wpAnyH P md ops Q S (fuel+1) b a w :=
 wpAnyH_take hi hs g j k (.inr ⟨hw,Z⟩) l (by rw[m,n];exact h)
theorem aY (i:Nat){o:Oper}{fuel:Nat}{b c:Array Bool}{a:Act}{w:World}
  (h:∀d:Act->World->Prop,Shut (∀a w,S w->(S w->wpAnyH P md ops Q S fuel c a w)->d a w)->if Region.wanted o (yielded ops a.tmps)=true then Oper.wp P o a w d Q else d (a.put o.dst undef) w)
  (e:Region.ready md ops b=[i]:=by kernel_rfl)
  (f:ops[i]? =some o:=by(simp only[Lx,Lv,Lr];rfl))
  (g:b.setIfInBounds i true=c:=by((try simp only[Lf,Lk,Lm]);(try rfl))):wpAnyH P md ops Q S (fuel+1) b a w :=
 wpAnyH_ready e (by simp) (AllReadyH.cons f (fun K j=>h K (by rw[<-g];exact j)) AllReadyH.nil)
theorem rm (i:Nat)(cs:List Value){g:Oper}{ty:TypeId}{x:Operand}{b o:Nat}{d:TypeDesc}{fuel:Nat}{e f:Array Bool}{a j:Act}{w:World}(k:∀w,S w->w.rangeAt b o cs)
  (l:P.underlying ty=some d)(hz:(P.info? ty).map (·.size)=some cs.length)(h:wpAnyH P md ops Q S fuel f j w)
  (hi:ops[i]? =some g:=by(simp only[Lx,Lv,Lr];rfl))
  (m:g.op= .load ty x:=by rfl)(n:a.eval x= .pointer (some ⟨b,o,none⟩):=by rfl)(p:d.isRow=true:=by rfl)
  (hs:Region.noSelect ops=true:=by kernel_rfl)(q:Region.free md ops e i=true:=by kernel_rfl)(r:(Region.ready md ops e).contains i=true:=by kernel_rfl)
  (s:∀c a w,Q (.panic c) (a.put g.dst (.agg cs.toArray)) w->Q (.panic c) a w:=by exact fun _ _ _ h=>h)
  (hw:Region.wanted g (yielded ops a.tmps)=true:=by rfl)
  (t:S w:=by assumption)
  (u:e.setIfInBounds i true=f:=by((try simp only[Lf,Lk,Lm]);(try rfl)))
  (y:a.put g.dst (.agg cs.toArray)=j:=by((try simp only[Act.put,Lf,Lk,Lm]);(try rfl))):wpAnyH P md ops Q S (fuel+1) e a w :=
 wpAnyH_take hi hs q r s (yieldsIf_load_mid hw ty x m b o n cs d k l p hz) t (by rw[u,y];exact h)
theorem aW {fuel:Nat}{c b:Array Bool}{a d:Act}{w:World}(h:wpAnyH P md ops Q S fuel b d w)
 (e:c=b:=by((try simp only[Lf,Lk,Lm]);(try rfl)))
 (f:a=d:=by((try simp only[Act.put,Lf,Lk,Lm]);(try rfl))):wpAnyH P md ops Q S fuel c a w:=by rw[e,f];exact h
theorem aM (b:Nat)(d:Nat){e f:Oper}{v1 l:Value}{fuel:Nat}{g i L:Array Bool}{j k M:Act}{w:World}(h:wpAnyH P md ops Q S fuel L M w)
  (m:ops[b]? =some e:=by(simp only[Lx,Lv,Lr];rfl))
  (n:Region.noSelect ops=true:=by kernel_rfl)(o:Region.free md ops g b=true:=by kernel_rfl)(p:(Region.ready md ops g).contains b=true:=by kernel_rfl)
  (q:∀c a w,Q (.panic c) (a.put e.dst v1) w->Q (.panic c) a w:=by exact fun _ _ _ h=>h)
  (r:Region.wanted e (yielded ops j.tmps)=true:=by rfl)
  (s:∀w,S w->(execOp j.eval e).run P w= .ok (.value v1) w:=by(intro w hz;(try dsimp only at hz);(repeat (have t:=NW hz;replace hz:=NF hz));go_simp;(try with_reducible rfl)))
  (u:S w:=by assumption)
  (x:g.setIfInBounds b true=i:=by((try simp only[Lf,Lk,Lm]);(try rfl)))
  (y:j.put e.dst v1=k:=by((try simp only[Act.put,Lf,Lk,Lm]);(try rfl)))
  (z:ops[d]? =some f:=by(simp only[Lx,Lv,Lr];rfl))
  (A:Region.noSelect ops=true:=by kernel_rfl)(B:Region.free md ops i d=true:=by kernel_rfl)(C:(Region.ready md ops i).contains d=true:=by kernel_rfl)
  (E:∀c a w,Q (.panic c) (a.put f.dst l) w->Q (.panic c) a w:=by exact fun _ _ _ h=>h)
  (F:Region.wanted f (yielded ops k.tmps)=true:=by rfl)
  (G:∀w,S w->(execOp k.eval f).run P w= .ok (.value l) w:=by(intro w hz;(try dsimp only at hz);(repeat (have t:=NW hz;replace hz:=NF hz));go_simp;(try with_reducible rfl)))
  (I:S w:=by assumption)
  (J:i.setIfInBounds d true=L:=by((try simp only[Lf,Lk,Lm]);(try rfl)))
  (K:k.put f.dst l=M:=by((try simp only[Act.put,Lf,Lk,Lm]);(try rfl))):wpAnyH P md ops Q S (fuel+2) g j w :=
 aQ b (aQ d h z A B C E F G I J K) m n o p q r s u x y
theorem aA (d:Nat)(e:Nat)(f:Nat)(g:Nat){i j k l:Oper}{v1 u x y:Value}{fuel:Nat}{m n o p l4:Array Bool}{q r s t a4:Act}{w:World}(h:wpAnyH P md ops Q S fuel l4 a4 w)
  (z:ops[d]? =some i:=by(simp only[Lx,Lv,Lr];rfl))
  (A:Region.noSelect ops=true:=by kernel_rfl)(B:Region.free md ops m d=true:=by kernel_rfl)(C:(Region.ready md ops m).contains d=true:=by kernel_rfl)
  (E:∀c a w,Q (.panic c) (a.put i.dst v1) w->Q (.panic c) a w:=by exact fun _ _ _ h=>h)
  (F:Region.wanted i (yielded ops q.tmps)=true:=by rfl)
  (G:∀w,S w->(execOp q.eval i).run P w= .ok (.value v1) w:=by(intro w hz;(try dsimp only at hz);(repeat (have b:=NW hz;replace hz:=NF hz));go_simp;(try with_reducible rfl)))
  (I:S w:=by assumption)
  (J:m.setIfInBounds d true=n:=by((try simp only[Lf,Lk,Lm]);(try rfl)))
  (K:q.put i.dst v1=r:=by((try simp only[Act.put,Lf,Lk,Lm]);(try rfl)))
  (L:ops[e]? =some j:=by(simp only[Lx,Lv,Lr];rfl))
  (M:Region.noSelect ops=true:=by kernel_rfl)(N:Region.free md ops n e=true:=by kernel_rfl)(T:(Region.ready md ops n).contains e=true:=by kernel_rfl)
  (U:∀c a w,Q (.panic c) (a.put j.dst u) w->Q (.panic c) a w:=by exact fun _ _ _ h=>h)
  (V:Region.wanted j (yielded ops r.tmps)=true:=by rfl)
  (W:∀w,S w->(execOp r.eval j).run P w= .ok (.value u) w:=by(intro w hz;(try dsimp only at hz);(repeat (have b:=NW hz;replace hz:=NF hz));go_simp;(try with_reducible rfl)))
  (X:S w:=by assumption)
  (a5:n.setIfInBounds e true=o:=by((try simp only[Lf,Lk,Lm]);(try rfl)))
  (a6:r.put j.dst u=s:=by((try simp only[Act.put,Lf,Lk,Lm]);(try rfl)))
  (a7:ops[f]? =some k:=by(simp only[Lx,Lv,Lr];rfl))
  (a9:Region.noSelect ops=true:=by kernel_rfl)(b0:Region.free md ops o f=true:=by kernel_rfl)(b1:(Region.ready md ops o).contains f=true:=by kernel_rfl)
  (b2:∀c a w,Q (.panic c) (a.put k.dst x) w->Q (.panic c) a w:=by exact fun _ _ _ h=>h)
  (b3:Region.wanted k (yielded ops s.tmps)=true:=by rfl)
  (b4:∀w,S w->(execOp s.eval k).run P w= .ok (.value x) w:=by(intro w hz;(try dsimp only at hz);(repeat (have b:=NW hz;replace hz:=NF hz));go_simp;(try with_reducible rfl)))
  (b5:S w:=by assumption)
  (b6:o.setIfInBounds f true=p:=by((try simp only[Lf,Lk,Lm]);(try rfl)))
  (b7:s.put k.dst x=t:=by((try simp only[Act.put,Lf,Lk,Lm]);(try rfl)))
  (b8:ops[g]? =some l:=by(simp only[Lx,Lv,Lr];rfl))
  (b9:Region.noSelect ops=true:=by kernel_rfl)(c0:Region.free md ops p g=true:=by kernel_rfl)(c1:(Region.ready md ops p).contains g=true:=by kernel_rfl)
  (c2:∀c a w,Q (.panic c) (a.put l.dst y) w->Q (.panic c) a w:=by exact fun _ _ _ h=>h)
  (c3:Region.wanted l (yielded ops t.tmps)=true:=by rfl)
  (c4:∀w,S w->(execOp t.eval l).run P w= .ok (.value y) w:=by(intro w hz;(try dsimp only at hz);(repeat (have b:=NW hz;replace hz:=NF hz));go_simp;(try with_reducible rfl)))
  (c5:S w:=by assumption)
  (c6:p.setIfInBounds g true=l4:=by((try simp only[Lf,Lk,Lm]);(try rfl)))
  (c7:t.put l.dst y=a4:=by((try simp only[Act.put,Lf,Lk,Lm]);(try rfl))):wpAnyH P md ops Q S (fuel+4) m q w :=
 aQ d (aQ e (aQ f (aQ g h b8 b9 c0 c1 c2 c3 c4 c5 c6 c7) a7 a9 b0 b1 b2 b3 b4 b5 b6 b7) L M N T U V W X a5 a6) z A B C E F G I J K
theorem ay {b:Array Bool}{a:Act}{w:World}(h:Q .normal a w)(fuel:Nat)(c:Region.ready md ops b=[]:=by kernel_rfl):wpAnyH P md ops Q S fuel b a w:=wpAnyH_done c h fuel
theorem az (S:World->Prop){id:Nat}{a:Act}{w:World}(b:S w.drew)
 (h:S w.drew->wpAnyH P .any ops Q S ops.size (Array.replicate ops.size false) a w.drew)(c:P.follows .mixedOrders=true:=by kernel_rfl):(Code.region id ops true).wp P Q a w:=wp_region_held_drew c b h
end
end Go.Proofs.YtcmncipikdpnbaaGreatDoor
