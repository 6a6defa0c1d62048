import Derived.Test.YtclkcmidhhfdmaaGreatDoorChecked
import Derived.WalkKit
import Derived.Deep.RegionHeld
import Derived.Lib.Hide
import Derived.Deep.MidRow
namespace Go.Proofs.YtclkcmidhhfdmaaGreatDoor
open Go Go.RowKit
section
variable {P : Program} {ops : Array Oper} {Q : Exit → Act → World → Prop} {md : Region.Mode} {S : World → Prop}
theorem wpT (i:Nat) {oi:Oper} {v:Value} {fuel:Nat} {listed listed':Array Bool} {a a':Act} {w:World} (h:wpAnyH P md ops Q S fuel listed' a' w)
  (hi:ops[i]? =some oi:=by (simp only [List.getElem?_toArray,List.getElem?_cons_succ,List.getElem?_cons_zero];rfl))
  (hs:Region.noSelect ops=true:=by kernel_rfl) (hf:Region.free md ops listed i=true:=by kernel_rfl) (hr:(Region.ready md ops listed).contains i=true:=by kernel_rfl)
  (hQ:∀ c a w,Q (.panic c) (a.put oi.dst v) w->Q (.panic c) a w:=by exact fun _ _ _ h=>h)
  (hw:Region.wanted oi (yielded ops a.tmps)=true:=by rfl)
  (hy:∀ w,S w->(execOp a.eval oi).run P w= .ok (.value v) w:=by (intro w hz;(try dsimp only at hz);(repeat (have hzl:=And.left hz;replace hz:=And.right hz));go_simp;(try with_reducible rfl)))
  (hS:S w:=by assumption)
  (hl:listed.setIfInBounds i true=listed':=by ((try simp only [List.setIfInBounds_toArray,List.set_cons_zero,List.set_cons_succ]);(try rfl)))
  (ha:a.put oi.dst v=a':=by ((try simp only [Act.put,List.setIfInBounds_toArray,List.set_cons_zero,List.set_cons_succ]);(try rfl))):wpAnyH P md ops Q S (fuel+1) listed a w :=
 wpAnyH_take hi hs hf hr hQ (.inl ⟨hw,hy⟩) hS (by rw [hl,ha];exact h)
theorem wpK (i:Nat) {oi:Oper} {fuel:Nat} {listed listed':Array Bool} {a a':Act} {w:World} (h:wpAnyH P md ops Q S fuel listed' a' w)
  (hi:ops[i]? =some oi:=by (simp only [List.getElem?_toArray,List.getElem?_cons_succ,List.getElem?_cons_zero];rfl))
  (hs:Region.noSelect ops=true:=by kernel_rfl) (hf:Region.free md ops listed i=true:=by kernel_rfl) (hr:(Region.ready md ops listed).contains i=true:=by kernel_rfl)
  (hQ:∀ c a w,Q (.panic c) (a.put oi.dst undef) w->Q (.panic c) a w:=by exact fun _ _ _ h=>h)
  (hw:Region.wanted oi (yielded ops a.tmps)=false:=by rfl)
  (hS:S w:=by assumption)
  (hl:listed.setIfInBounds i true=listed':=by ((try simp only [List.setIfInBounds_toArray,List.set_cons_zero,List.set_cons_succ]);(try rfl)))
  (ha:a.put oi.dst undef=a':=by ((try simp only [Act.put,List.setIfInBounds_toArray,List.set_cons_zero,List.set_cons_succ]);(try rfl))):wpAnyH P md ops Q S (fuel+1) listed a w :=
 wpAnyH_take hi hs hf hr hQ (.inr ⟨hw,rfl⟩) hS (by rw [hl,ha];exact h)
theorem wpR (i:Nat) {o:Oper} {fuel:Nat} {listed listed':Array Bool} {a:Act} {w:World}
  (h:∀ K':Act->World->Prop,Shut (∀ a w,S w->(S w->wpAnyH P md ops Q S fuel listed' a w)->K' a w)->if Region.wanted o (yielded ops a.tmps)=true then Oper.wp P o a w K' Q else K' (a.put o.dst undef) w)
  (hr:Region.ready md ops listed=[i]:=by kernel_rfl)
  (ho:ops[i]? =some o:=by (simp only [List.getElem?_toArray,List.getElem?_cons_succ,List.getElem?_cons_zero];rfl))
  (hl:listed.setIfInBounds i true=listed':=by ((try simp only [List.setIfInBounds_toArray,List.set_cons_zero,List.set_cons_succ]);(try rfl))):wpAnyH P md ops Q S (fuel+1) listed a w :=
 wpAnyH_ready hr (by simp) (AllReadyH.cons ho (fun K hK=>h K (by rw [←hl];exact hK)) AllReadyH.nil)
theorem wpL (i:Nat) (cs:List Value) {oi:Oper} {ty:TypeId} {x:Operand} {b o:Nat} {d:TypeDesc} {fuel:Nat} {listed listed':Array Bool} {a a':Act} {w:World} (hc:∀ w,S w->w.rangeAt b o cs)
  (hu:P.underlying ty=some d) (hz:(P.info? ty).map (·.size)=some cs.length) (h:wpAnyH P md ops Q S fuel listed' a' w)
  (hi:ops[i]? =some oi:=by (simp only [List.getElem?_toArray,List.getElem?_cons_succ,List.getElem?_cons_zero];rfl))
  (ho:oi.op= .load ty x:=by rfl) (hx:a.eval x= .pointer (some ⟨b,o,none⟩):=by rfl) (hd:d.isRow=true:=by rfl)
  (hs:Region.noSelect ops=true:=by kernel_rfl) (hf:Region.free md ops listed i=true:=by kernel_rfl) (hr:(Region.ready md ops listed).contains i=true:=by kernel_rfl)
  (hQ:∀ c a w,Q (.panic c) (a.put oi.dst (.agg cs.toArray)) w->Q (.panic c) a w:=by exact fun _ _ _ h=>h)
  (hw:Region.wanted oi (yielded ops a.tmps)=true:=by rfl)
  (hS:S w:=by assumption)
  (hl:listed.setIfInBounds i true=listed':=by ((try simp only [List.setIfInBounds_toArray,List.set_cons_zero,List.set_cons_succ]);(try rfl)))
  (ha:a.put oi.dst (.agg cs.toArray)=a':=by ((try simp only [Act.put,List.setIfInBounds_toArray,List.set_cons_zero,List.set_cons_succ]);(try rfl))):wpAnyH P md ops Q S (fuel+1) listed a w :=
 wpAnyH_take hi hs hf hr hQ (yieldsIf_load_mid hw ty x ho b o hx cs d hc hu hd hz) hS (by rw [hl,ha];exact h)
theorem wpA {fuel:Nat} {listed listed':Array Bool} {a a':Act} {w:World} (h:wpAnyH P md ops Q S fuel listed' a' w)
 (hl:listed=listed':=by ((try simp only [List.setIfInBounds_toArray,List.set_cons_zero,List.set_cons_succ]);(try rfl)))
 (ha:a=a':=by ((try simp only [Act.put,List.setIfInBounds_toArray,List.set_cons_zero,List.set_cons_succ]);(try rfl))):wpAnyH P md ops Q S fuel listed a w:=by rw [hl,ha];exact h
end
end Go.Proofs.YtclkcmidhhfdmaaGreatDoor
