import Derived.Test.YtclkcmidhhfdmaaGreatDoorChecked
import Derived.WalkKit
import Derived.Deep.RegionHeld
import Derived.Lib.Hide
import Derived.Deep.MidRow
namespace Go.Proofs.YtclkcmidhhfdmaaGreatDoor
open Go Go.RowKit
section
variable {P : Program} {ops : Array Oper} {Q : Exit → Act → World → Prop} {md : Region.Mode} {S : World → Prop}
theorem aO (i:Nat){oi:Oper}{v:Value}{fuel:Nat}{listed listed':Array Bool}{a a':Act}{w:World}(h:wpAnyH P md ops Q S fuel listed' a' w)
  (hi:ops[i]? =some oi:=by(simp only[List.getElem?_toArray,List.getElem?_cons_succ,List.getElem?_cons_zero];rfl))
  (hs:Region.noSelect ops=true:=by kernel_rfl)(hf:Region.free md ops listed i=true:=by kernel_rfl)(hr:(Region.ready md ops listed).contains i=true:=by kernel_rfl)
  (hQ:∀c a w,Q (.panic c) (a.put oi.dst v) w->Q (.panic c) a w:=by exact fun _ _ _ h=>h)
  (hw:Region.wanted oi (yielded ops a.tmps)=true:=by rfl)
  (hy:∀w,S w->(execOp a.eval oi).run P w= .ok (.value v) w:=by(intro w hz;(try dsimp only at hz);(repeat (have hzl:=And.left hz;replace hz:=And.right hz));go_simp;(try with_reducible rfl)))
  (hS:S w:=by assumption)
  (hl:listed.setIfInBounds i true=listed':=by((try simp only[List.setIfInBounds_toArray,List.set_cons_zero,List.set_cons_succ]);(try rfl)))
  (ha:a.put oi.dst v=a':=by((try simp only[Act.put,List.setIfInBounds_toArray,List.set_cons_zero,List.set_cons_succ]);(try rfl))):wpAnyH P md ops Q S (fuel+1) listed a w :=
 wpAnyH_take hi hs hf hr hQ (.inl ⟨hw,hy⟩) hS (by rw[hl,ha];exact h)
theorem aV (i:Nat){oi:Oper}{fuel:Nat}{listed listed':Array Bool}{a a':Act}{w:World}(h:wpAnyH P md ops Q S fuel listed' a' w)
  (hi:ops[i]? =some oi:=by(simp only[List.getElem?_toArray,List.getElem?_cons_succ,List.getElem?_cons_zero];rfl))
  (hs:Region.noSelect ops=true:=by kernel_rfl)(hf:Region.free md ops listed i=true:=by kernel_rfl)(hr:(Region.ready md ops listed).contains i=true:=by kernel_rfl)
  (hQ:∀c a w,Q (.panic c) (a.put oi.dst undef) w->Q (.panic c) a w:=by exact fun _ _ _ h=>h)
  (hw:Region.wanted oi (yielded ops a.tmps)=false:=by rfl)
  (hS:S w:=by assumption)
  (hl:listed.setIfInBounds i true=listed':=by((try simp only[List.setIfInBounds_toArray,List.set_cons_zero,List.set_cons_succ]);(try rfl)))
  (ha:a.put oi.dst undef=a':=by((try simp only[Act.put,List.setIfInBounds_toArray,List.set_cons_zero,List.set_cons_succ]);(try rfl))):wpAnyH P md ops Q S (fuel+1) listed a w :=
 wpAnyH_take hi hs hf hr hQ (.inr ⟨hw,rfl⟩) hS (by rw[hl,ha];exact h)
theorem aX (i:Nat){o:Oper}{fuel:Nat}{listed listed':Array Bool}{a:Act}{w:World}
  (h:∀K':Act->World->Prop,Shut (∀a w,S w->(S w->wpAnyH P md ops Q S fuel listed' a w)->K' a w)->if Region.wanted o (yielded ops a.tmps)=true then Oper.wp P o a w K' Q else K' (a.put o.dst undef) w)
  (hr:Region.ready md ops listed=[i]:=by kernel_rfl)
  (ho:ops[i]? =some o:=by(simp only[List.getElem?_toArray,List.getElem?_cons_succ,List.getElem?_cons_zero];rfl))
  (hl:listed.setIfInBounds i true=listed':=by((try simp only[List.setIfInBounds_toArray,List.set_cons_zero,List.set_cons_succ]);(try rfl))):wpAnyH P md ops Q S (fuel+1) listed a w :=
 wpAnyH_ready hr (by simp) (AllReadyH.cons ho (fun K hK=>h K (by rw[<-hl];exact hK)) AllReadyH.nil)
theorem qP (i:Nat)(cs:List Value){oi:Oper}{ty:TypeId}{x:Operand}{b o:Nat}{d:TypeDesc}{fuel:Nat}{listed listed':Array Bool}{a a':Act}{w:World}(hc:∀w,S w->w.rangeAt b o cs)
  (hu:P.underlying ty=some d)(hz:(P.info? ty).map (·.size)=some cs.length)(h:wpAnyH P md ops Q S fuel listed' a' w)
  (hi:ops[i]? =some oi:=by(simp only[List.getElem?_toArray,List.getElem?_cons_succ,List.getElem?_cons_zero];rfl))
  (ho:oi.op= .load ty x:=by rfl)(hx:a.eval x= .pointer (some ⟨b,o,none⟩):=by rfl)(hd:d.isRow=true:=by rfl)
  (hs:Region.noSelect ops=true:=by kernel_rfl)(hf:Region.free md ops listed i=true:=by kernel_rfl)(hr:(Region.ready md ops listed).contains i=true:=by kernel_rfl)
  (hQ:∀c a w,Q (.panic c) (a.put oi.dst (.agg cs.toArray)) w->Q (.panic c) a w:=by exact fun _ _ _ h=>h)
  (hw:Region.wanted oi (yielded ops a.tmps)=true:=by rfl)
  (hS:S w:=by assumption)
  (hl:listed.setIfInBounds i true=listed':=by((try simp only[List.setIfInBounds_toArray,List.set_cons_zero,List.set_cons_succ]);(try rfl)))
  (ha:a.put oi.dst (.agg cs.toArray)=a':=by((try simp only[Act.put,List.setIfInBounds_toArray,List.set_cons_zero,List.set_cons_succ]);(try rfl))):wpAnyH P md ops Q S (fuel+1) listed a w :=
 wpAnyH_take hi hs hf hr hQ (yieldsIf_load_mid hw ty x ho b o hx cs d hc hu hd hz) hS (by rw[hl,ha];exact h)
theorem aT {fuel:Nat}{listed listed':Array Bool}{a a':Act}{w:World}(h:wpAnyH P md ops Q S fuel listed' a' w)
 (hl:listed=listed':=by((try simp only[List.setIfInBounds_toArray,List.set_cons_zero,List.set_cons_succ]);(try rfl)))
 (ha:a=a':=by((try simp only[Act.put,List.setIfInBounds_toArray,List.set_cons_zero,List.set_cons_succ]);(try rfl))):wpAnyH P md ops Q S fuel listed a w:=by rw[hl,ha];exact h
theorem aK (i1:Nat)(i2:Nat){o1 o2:Oper}{v1 v2:Value}{fuel:Nat}{l0 l1 l2:Array Bool}{a0 a1 a2:Act}{w:World}(h:wpAnyH P md ops Q S fuel l2 a2 w)
  (hi1:ops[i1]? =some o1:=by(simp only[List.getElem?_toArray,List.getElem?_cons_succ,List.getElem?_cons_zero];rfl))
  (hs1:Region.noSelect ops=true:=by kernel_rfl)(hf1:Region.free md ops l0 i1=true:=by kernel_rfl)(hr1:(Region.ready md ops l0).contains i1=true:=by kernel_rfl)
  (hQ1:∀c a w,Q (.panic c) (a.put o1.dst v1) w->Q (.panic c) a w:=by exact fun _ _ _ h=>h)
  (hw1:Region.wanted o1 (yielded ops a0.tmps)=true:=by rfl)
  (hy1:∀w,S w->(execOp a0.eval o1).run P w= .ok (.value v1) w:=by(intro w hz;(try dsimp only at hz);(repeat (have hzl:=And.left hz;replace hz:=And.right hz));go_simp;(try with_reducible rfl)))
  (hS1:S w:=by assumption)
  (hl1:l0.setIfInBounds i1 true=l1:=by((try simp only[List.setIfInBounds_toArray,List.set_cons_zero,List.set_cons_succ]);(try rfl)))
  (ha1:a0.put o1.dst v1=a1:=by((try simp only[Act.put,List.setIfInBounds_toArray,List.set_cons_zero,List.set_cons_succ]);(try rfl)))
  (hi2:ops[i2]? =some o2:=by(simp only[List.getElem?_toArray,List.getElem?_cons_succ,List.getElem?_cons_zero];rfl))
  (hs2:Region.noSelect ops=true:=by kernel_rfl)(hf2:Region.free md ops l1 i2=true:=by kernel_rfl)(hr2:(Region.ready md ops l1).contains i2=true:=by kernel_rfl)
  (hQ2:∀c a w,Q (.panic c) (a.put o2.dst v2) w->Q (.panic c) a w:=by exact fun _ _ _ h=>h)
  (hw2:Region.wanted o2 (yielded ops a1.tmps)=true:=by rfl)
  (hy2:∀w,S w->(execOp a1.eval o2).run P w= .ok (.value v2) w:=by(intro w hz;(try dsimp only at hz);(repeat (have hzl:=And.left hz;replace hz:=And.right hz));go_simp;(try with_reducible rfl)))
  (hS2:S w:=by assumption)
  (hl2:l1.setIfInBounds i2 true=l2:=by((try simp only[List.setIfInBounds_toArray,List.set_cons_zero,List.set_cons_succ]);(try rfl)))
  (ha2:a1.put o2.dst v2=a2:=by((try simp only[Act.put,List.setIfInBounds_toArray,List.set_cons_zero,List.set_cons_succ]);(try rfl))):wpAnyH P md ops Q S (fuel+2) l0 a0 w :=
 aO i1 (aO i2 h hi2 hs2 hf2 hr2 hQ2 hw2 hy2 hS2 hl2 ha2) hi1 hs1 hf1 hr1 hQ1 hw1 hy1 hS1 hl1 ha1
theorem aB (i1:Nat)(i2:Nat)(i3:Nat)(i4:Nat){o1 o2 o3 o4:Oper}{v1 v2 v3 v4:Value}{fuel:Nat}{l0 l1 l2 l3 l4:Array Bool}{a0 a1 a2 a3 a4:Act}{w:World}(h:wpAnyH P md ops Q S fuel l4 a4 w)
  (hi1:ops[i1]? =some o1:=by(simp only[List.getElem?_toArray,List.getElem?_cons_succ,List.getElem?_cons_zero];rfl))
  (hs1:Region.noSelect ops=true:=by kernel_rfl)(hf1:Region.free md ops l0 i1=true:=by kernel_rfl)(hr1:(Region.ready md ops l0).contains i1=true:=by kernel_rfl)
  (hQ1:∀c a w,Q (.panic c) (a.put o1.dst v1) w->Q (.panic c) a w:=by exact fun _ _ _ h=>h)
  (hw1:Region.wanted o1 (yielded ops a0.tmps)=true:=by rfl)
  (hy1:∀w,S w->(execOp a0.eval o1).run P w= .ok (.value v1) w:=by(intro w hz;(try dsimp only at hz);(repeat (have hzl:=And.left hz;replace hz:=And.right hz));go_simp;(try with_reducible rfl)))
  (hS1:S w:=by assumption)
  (hl1:l0.setIfInBounds i1 true=l1:=by((try simp only[List.setIfInBounds_toArray,List.set_cons_zero,List.set_cons_succ]);(try rfl)))
  (ha1:a0.put o1.dst v1=a1:=by((try simp only[Act.put,List.setIfInBounds_toArray,List.set_cons_zero,List.set_cons_succ]);(try rfl)))
  (hi2:ops[i2]? =some o2:=by(simp only[List.getElem?_toArray,List.getElem?_cons_succ,List.getElem?_cons_zero];rfl))
  (hs2:Region.noSelect ops=true:=by kernel_rfl)(hf2:Region.free md ops l1 i2=true:=by kernel_rfl)(hr2:(Region.ready md ops l1).contains i2=true:=by kernel_rfl)
  (hQ2:∀c a w,Q (.panic c) (a.put o2.dst v2) w->Q (.panic c) a w:=by exact fun _ _ _ h=>h)
  (hw2:Region.wanted o2 (yielded ops a1.tmps)=true:=by rfl)
  (hy2:∀w,S w->(execOp a1.eval o2).run P w= .ok (.value v2) w:=by(intro w hz;(try dsimp only at hz);(repeat (have hzl:=And.left hz;replace hz:=And.right hz));go_simp;(try with_reducible rfl)))
  (hS2:S w:=by assumption)
  (hl2:l1.setIfInBounds i2 true=l2:=by((try simp only[List.setIfInBounds_toArray,List.set_cons_zero,List.set_cons_succ]);(try rfl)))
  (ha2:a1.put o2.dst v2=a2:=by((try simp only[Act.put,List.setIfInBounds_toArray,List.set_cons_zero,List.set_cons_succ]);(try rfl)))
  (hi3:ops[i3]? =some o3:=by(simp only[List.getElem?_toArray,List.getElem?_cons_succ,List.getElem?_cons_zero];rfl))
  (hs3:Region.noSelect ops=true:=by kernel_rfl)(hf3:Region.free md ops l2 i3=true:=by kernel_rfl)(hr3:(Region.ready md ops l2).contains i3=true:=by kernel_rfl)
  (hQ3:∀c a w,Q (.panic c) (a.put o3.dst v3) w->Q (.panic c) a w:=by exact fun _ _ _ h=>h)
  (hw3:Region.wanted o3 (yielded ops a2.tmps)=true:=by rfl)
  (hy3:∀w,S w->(execOp a2.eval o3).run P w= .ok (.value v3) w:=by(intro w hz;(try dsimp only at hz);(repeat (have hzl:=And.left hz;replace hz:=And.right hz));go_simp;(try with_reducible rfl)))
  (hS3:S w:=by assumption)
  (hl3:l2.setIfInBounds i3 true=l3:=by((try simp only[List.setIfInBounds_toArray,List.set_cons_zero,List.set_cons_succ]);(try rfl)))
  (ha3:a2.put o3.dst v3=a3:=by((try simp only[Act.put,List.setIfInBounds_toArray,List.set_cons_zero,List.set_cons_succ]);(try rfl)))
  (hi4:ops[i4]? =some o4:=by(simp only[List.getElem?_toArray,List.getElem?_cons_succ,List.getElem?_cons_zero];rfl))
  (hs4:Region.noSelect ops=true:=by kernel_rfl)(hf4:Region.free md ops l3 i4=true:=by kernel_rfl)(hr4:(Region.ready md ops l3).contains i4=true:=by kernel_rfl)
  (hQ4:∀c a w,Q (.panic c) (a.put o4.dst v4) w->Q (.panic c) a w:=by exact fun _ _ _ h=>h)
  (hw4:Region.wanted o4 (yielded ops a3.tmps)=true:=by rfl)
  (hy4:∀w,S w->(execOp a3.eval o4).run P w= .ok (.value v4) w:=by(intro w hz;(try dsimp only at hz);(repeat (have hzl:=And.left hz;replace hz:=And.right hz));go_simp;(try with_reducible rfl)))
  (hS4:S w:=by assumption)
  (hl4:l3.setIfInBounds i4 true=l4:=by((try simp only[List.setIfInBounds_toArray,List.set_cons_zero,List.set_cons_succ]);(try rfl)))
  (ha4:a3.put o4.dst v4=a4:=by((try simp only[Act.put,List.setIfInBounds_toArray,List.set_cons_zero,List.set_cons_succ]);(try rfl))):wpAnyH P md ops Q S (fuel+4) l0 a0 w :=
 aO i1 (aO i2 (aO i3 (aO i4 h hi4 hs4 hf4 hr4 hQ4 hw4 hy4 hS4 hl4 ha4) hi3 hs3 hf3 hr3 hQ3 hw3 hy3 hS3 hl3 ha3) hi2 hs2 hf2 hr2 hQ2 hw2 hy2 hS2 hl2 ha2) hi1 hs1 hf1 hr1 hQ1 hw1 hy1 hS1 hl1 ha1
theorem az {listed:Array Bool}{a:Act}{w:World}(h:Q .normal a w)(fuel:Nat)(hr:Region.ready md ops listed=[]:=by kernel_rfl):wpAnyH P md ops Q S fuel listed a w:=wpAnyH_done hr h fuel
theorem bC (S:World->Prop){id:Nat}{a:Act}{w:World}(hS:S w.drew)
 (h:S w.drew->wpAnyH P .any ops Q S ops.size (Array.replicate ops.size false) a w.drew)(hm:P.follows .mixedOrders=true:=by kernel_rfl):(Code.region id ops true).wp P Q a w:=wp_region_held_drew hm hS h
end
end Go.Proofs.YtclkcmidhhfdmaaGreatDoor
