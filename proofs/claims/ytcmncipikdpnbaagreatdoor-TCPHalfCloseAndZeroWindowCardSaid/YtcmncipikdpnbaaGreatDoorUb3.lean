import Derived.Test.YtcmncipikdpnbaaGreatDoorUc
import Derived.Test.YtcmncipikdpnbaaGreatDoorChecked
import Derived.WalkKit
import Derived.Deep.RegionHeld
import Derived.Lib.Hide
import Derived.Deep.MidRow
namespace Go.Proofs.YtcmncipikdpnbaaGreatDoor
open Go Go.RowKit
section
variable {P : Program} {ops : Array Oper} {Q : Exit → Act → World → Prop} {md : Region.Mode} {S : World → Prop}
theorem aQ (i:Nat){e:Oper}{v:Value}{fuel:Nat}{b d:Array Bool}{a f:Act}{w:World}(h:wpAnyH P md ops Q S fuel d f w)
  (hi:ops[i]? =some e:=by(simp only[Lt,Ls,Lo];rfl))
  (hs:Region.noSelect ops=true:=by kernel_rfl)(hf:Region.free md ops b i=true:=by kernel_rfl)(hr:(Region.ready md ops b).contains i=true:=by kernel_rfl)
  (hQ:∀c a w,Q (.panic c) (a.put e.dst v) w->Q (.panic c) a w:=by exact fun _ _ _ h=>h)
  (hw:Region.wanted e (yielded ops a.tmps)=true:=by rfl)
  (hy:∀w,S w->(execOp a.eval e).run P w= .ok (.value v) w:=by(intro w hz;(try dsimp only at hz);(repeat (have g:=NS hz;replace hz:=Nz hz));go_simp;(try with_reducible rfl)))
  (hS:S w:=by assumption)
  (hl:b.setIfInBounds i true=d:=by((try simp only[Ld,Li,Lk]);(try rfl)))
  (ha:a.put e.dst v=f:=by((try simp only[Act.put,Ld,Li,Lk]);(try rfl))):wpAnyH P md ops Q S (fuel+1) b a w :=
 wpAnyH_take hi hs hf hr hQ (.inl ⟨hw,hy⟩) hS (by rw[hl,ha];exact h)
theorem aU (i:Nat){e:Oper}{fuel:Nat}{b d:Array Bool}{a f:Act}{w:World}(h:wpAnyH P md ops Q S fuel d f w)
  (hi:ops[i]? =some e:=by(simp only[Lt,Ls,Lo];rfl))
  (hs:Region.noSelect ops=true:=by kernel_rfl)(hf:Region.free md ops b i=true:=by kernel_rfl)(hr:(Region.ready md ops b).contains i=true:=by kernel_rfl)
  (hQ:∀c a w,Q (.panic c) (a.put e.dst undef) w->Q (.panic c) a w:=by exact fun _ _ _ h=>h)
  (hw:Region.wanted e (yielded ops a.tmps)=false:=by rfl)
  (hS:S w:=by assumption)
  (hl:b.setIfInBounds i true=d:=by((try simp only[Ld,Li,Lk]);(try rfl)))
  (ha:a.put e.dst undef=f:=by((try simp only[Act.put,Ld,Li,Lk]);(try rfl))):wpAnyH P md ops Q S (fuel+1) b a w :=
 wpAnyH_take hi hs hf hr hQ (.inr ⟨hw,Z⟩) hS (by rw[hl,ha];exact h)
theorem aZ (i:Nat){o:Oper}{fuel:Nat}{b c:Array Bool}{a:Act}{w:World}
  (h:∀d:Act->World->Prop,Shut (∀a w,S w->(S w->wpAnyH P md ops Q S fuel c a w)->d a w)->if Region.wanted o (yielded ops a.tmps)=true then Oper.wp P o a w d Q else d (a.put o.dst undef) w)
  (hr:Region.ready md ops b=[i]:=by kernel_rfl)
  (ho:ops[i]? =some o:=by(simp only[Lt,Ls,Lo];rfl))
  (hl:b.setIfInBounds i true=c:=by((try simp only[Ld,Li,Lk]);(try rfl))):wpAnyH P md ops Q S (fuel+1) b a w :=
 wpAnyH_ready hr (by simp) (AllReadyH.cons ho (fun K e=>h K (by rw[<-hl];exact e)) AllReadyH.nil)
theorem sA (i:Nat)(cs:List Value){g:Oper}{ty:TypeId}{x:Operand}{b o:Nat}{d:TypeDesc}{fuel:Nat}{e f:Array Bool}{a j:Act}{w:World}(k:∀w,S w->w.rangeAt b o cs)
  (l:P.underlying ty=some d)(hz:(P.info? ty).map (·.size)=some cs.length)(h:wpAnyH P md ops Q S fuel f j w)
  (hi:ops[i]? =some g:=by(simp only[Lt,Ls,Lo];rfl))
  (ho:g.op= .load ty x:=by rfl)(hx:a.eval x= .pointer (some ⟨b,o,none⟩):=by rfl)(hd:d.isRow=true:=by rfl)
  (hs:Region.noSelect ops=true:=by kernel_rfl)(hf:Region.free md ops e i=true:=by kernel_rfl)(hr:(Region.ready md ops e).contains i=true:=by kernel_rfl)
  (hQ:∀c a w,Q (.panic c) (a.put g.dst (.agg cs.toArray)) w->Q (.panic c) a w:=by exact fun _ _ _ h=>h)
  (hw:Region.wanted g (yielded ops a.tmps)=true:=by rfl)
  (hS:S w:=by assumption)
  (hl:e.setIfInBounds i true=f:=by((try simp only[Ld,Li,Lk]);(try rfl)))
  (ha:a.put g.dst (.agg cs.toArray)=j:=by((try simp only[Act.put,Ld,Li,Lk]);(try rfl))):wpAnyH P md ops Q S (fuel+1) e a w :=
 wpAnyH_take hi hs hf hr hQ (yieldsIf_load_mid hw ty x ho b o hx cs d k l hd hz) hS (by rw[hl,ha];exact h)
theorem aW {fuel:Nat}{c b:Array Bool}{a d:Act}{w:World}(h:wpAnyH P md ops Q S fuel b d w)
 (hl:c=b:=by((try simp only[Ld,Li,Lk]);(try rfl)))
 (ha:a=d:=by((try simp only[Act.put,Ld,Li,Lk]);(try rfl))):wpAnyH P md ops Q S fuel c a w:=by rw[hl,ha];exact h
theorem aM (b:Nat)(d:Nat){e f:Oper}{v1 l:Value}{fuel:Nat}{g i n:Array Bool}{j k o:Act}{w:World}(h:wpAnyH P md ops Q S fuel n o w)
  (hi1:ops[b]? =some e:=by(simp only[Lt,Ls,Lo];rfl))
  (hs1:Region.noSelect ops=true:=by kernel_rfl)(hf1:Region.free md ops g b=true:=by kernel_rfl)(hr1:(Region.ready md ops g).contains b=true:=by kernel_rfl)
  (Hn:∀c a w,Q (.panic c) (a.put e.dst v1) w->Q (.panic c) a w:=by exact fun _ _ _ h=>h)
  (hw1:Region.wanted e (yielded ops j.tmps)=true:=by rfl)
  (hy1:∀w,S w->(execOp j.eval e).run P w= .ok (.value v1) w:=by(intro w hz;(try dsimp only at hz);(repeat (have m:=NS hz;replace hz:=Nz hz));go_simp;(try with_reducible rfl)))
  (hS1:S w:=by assumption)
  (hl1:g.setIfInBounds b true=i:=by((try simp only[Ld,Li,Lk]);(try rfl)))
  (ha1:j.put e.dst v1=k:=by((try simp only[Act.put,Ld,Li,Lk]);(try rfl)))
  (hi2:ops[d]? =some f:=by(simp only[Lt,Ls,Lo];rfl))
  (hs2:Region.noSelect ops=true:=by kernel_rfl)(hf2:Region.free md ops i d=true:=by kernel_rfl)(hr2:(Region.ready md ops i).contains d=true:=by kernel_rfl)
  (Ho:∀c a w,Q (.panic c) (a.put f.dst l) w->Q (.panic c) a w:=by exact fun _ _ _ h=>h)
  (hw2:Region.wanted f (yielded ops k.tmps)=true:=by rfl)
  (hy2:∀w,S w->(execOp k.eval f).run P w= .ok (.value l) w:=by(intro w hz;(try dsimp only at hz);(repeat (have m:=NS hz;replace hz:=Nz hz));go_simp;(try with_reducible rfl)))
  (hS2:S w:=by assumption)
  (hl2:i.setIfInBounds d true=n:=by((try simp only[Ld,Li,Lk]);(try rfl)))
  (ha2:k.put f.dst l=o:=by((try simp only[Act.put,Ld,Li,Lk]);(try rfl))):wpAnyH P md ops Q S (fuel+2) g j w :=
 aQ b (aQ d h hi2 hs2 hf2 hr2 Ho hw2 hy2 hS2 hl2 ha2) hi1 hs1 hf1 hr1 Hn hw1 hy1 hS1 hl1 ha1
theorem aA (d:Nat)(e:Nat)(f:Nat)(g:Nat){i j k l:Oper}{v1 u x y:Value}{fuel:Nat}{m n o p z:Array Bool}{q r s t A:Act}{w:World}(h:wpAnyH P md ops Q S fuel z A w)
  (hi1:ops[d]? =some i:=by(simp only[Lt,Ls,Lo];rfl))
  (hs1:Region.noSelect ops=true:=by kernel_rfl)(hf1:Region.free md ops m d=true:=by kernel_rfl)(hr1:(Region.ready md ops m).contains d=true:=by kernel_rfl)
  (Hn:∀c a w,Q (.panic c) (a.put i.dst v1) w->Q (.panic c) a w:=by exact fun _ _ _ h=>h)
  (hw1:Region.wanted i (yielded ops q.tmps)=true:=by rfl)
  (hy1:∀w,S w->(execOp q.eval i).run P w= .ok (.value v1) w:=by(intro w hz;(try dsimp only at hz);(repeat (have b:=NS hz;replace hz:=Nz hz));go_simp;(try with_reducible rfl)))
  (hS1:S w:=by assumption)
  (hl1:m.setIfInBounds d true=n:=by((try simp only[Ld,Li,Lk]);(try rfl)))
  (ha1:q.put i.dst v1=r:=by((try simp only[Act.put,Ld,Li,Lk]);(try rfl)))
  (hi2:ops[e]? =some j:=by(simp only[Lt,Ls,Lo];rfl))
  (hs2:Region.noSelect ops=true:=by kernel_rfl)(hf2:Region.free md ops n e=true:=by kernel_rfl)(hr2:(Region.ready md ops n).contains e=true:=by kernel_rfl)
  (Ho:∀c a w,Q (.panic c) (a.put j.dst u) w->Q (.panic c) a w:=by exact fun _ _ _ h=>h)
  (hw2:Region.wanted j (yielded ops r.tmps)=true:=by rfl)
  (hy2:∀w,S w->(execOp r.eval j).run P w= .ok (.value u) w:=by(intro w hz;(try dsimp only at hz);(repeat (have b:=NS hz;replace hz:=Nz hz));go_simp;(try with_reducible rfl)))
  (hS2:S w:=by assumption)
  (hl2:n.setIfInBounds e true=o:=by((try simp only[Ld,Li,Lk]);(try rfl)))
  (ha2:r.put j.dst u=s:=by((try simp only[Act.put,Ld,Li,Lk]);(try rfl)))
  (hi3:ops[f]? =some k:=by(simp only[Lt,Ls,Lo];rfl))
  (hs3:Region.noSelect ops=true:=by kernel_rfl)(hf3:Region.free md ops o f=true:=by kernel_rfl)(hr3:(Region.ready md ops o).contains f=true:=by kernel_rfl)
  (Ii:∀c a w,Q (.panic c) (a.put k.dst x) w->Q (.panic c) a w:=by exact fun _ _ _ h=>h)
  (hw3:Region.wanted k (yielded ops s.tmps)=true:=by rfl)
  (hy3:∀w,S w->(execOp s.eval k).run P w= .ok (.value x) w:=by(intro w hz;(try dsimp only at hz);(repeat (have b:=NS hz;replace hz:=Nz hz));go_simp;(try with_reducible rfl)))
  (Ij:S w:=by assumption)
  (hl3:o.setIfInBounds f true=p:=by((try simp only[Ld,Li,Lk]);(try rfl)))
  (Ik:s.put k.dst x=t:=by((try simp only[Act.put,Ld,Li,Lk]);(try rfl)))
  (hi4:ops[g]? =some l:=by(simp only[Lt,Ls,Lo];rfl))
  (hs4:Region.noSelect ops=true:=by kernel_rfl)(Il:Region.free md ops p g=true:=by kernel_rfl)(hr4:(Region.ready md ops p).contains g=true:=by kernel_rfl)
  (Im:∀c a w,Q (.panic c) (a.put l.dst y) w->Q (.panic c) a w:=by exact fun _ _ _ h=>h)
  (hw4:Region.wanted l (yielded ops t.tmps)=true:=by rfl)
  (hy4:∀w,S w->(execOp t.eval l).run P w= .ok (.value y) w:=by(intro w hz;(try dsimp only at hz);(repeat (have b:=NS hz;replace hz:=Nz hz));go_simp;(try with_reducible rfl)))
  (Io:S w:=by assumption)
  (hl4:p.setIfInBounds g true=z:=by((try simp only[Ld,Li,Lk]);(try rfl)))
  (Ip:t.put l.dst y=A:=by((try simp only[Act.put,Ld,Li,Lk]);(try rfl))):wpAnyH P md ops Q S (fuel+4) m q w :=
 aQ d (aQ e (aQ f (aQ g h hi4 hs4 Il hr4 Im hw4 hy4 Io hl4 Ip) hi3 hs3 hf3 hr3 Ii hw3 hy3 Ij hl3 Ik) hi2 hs2 hf2 hr2 Ho hw2 hy2 hS2 hl2 ha2) hi1 hs1 hf1 hr1 Hn hw1 hy1 hS1 hl1 ha1
theorem ay {b:Array Bool}{a:Act}{w:World}(h:Q .normal a w)(fuel:Nat)(hr:Region.ready md ops b=[]:=by kernel_rfl):wpAnyH P md ops Q S fuel b a w:=wpAnyH_done hr h fuel
theorem az (S:World->Prop){id:Nat}{a:Act}{w:World}(hS:S w.drew)
 (h:S w.drew->wpAnyH P .any ops Q S ops.size (Array.replicate ops.size false) a w.drew)(hm:P.follows .mixedOrders=true:=by kernel_rfl):(Code.region id ops true).wp P Q a w:=wp_region_held_drew hm hS h
end
end Go.Proofs.YtcmncipikdpnbaaGreatDoor
