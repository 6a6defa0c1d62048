import Derived.Test.YtclkcmidhhfdmaaGreatDoorKb23
import Derived.Test.YtclkcmidhhfdmaaGreatDoorKb46
import Derived.LaidSub
import Derived.Stop.LaidErr
import Derived.LaidLaws
namespace Go.Proofs.YtclkcmidhhfdmaaGreatDoor
open Go.ChangeShapes Go.WideShapes Go.ChangeAt Go.RowKit
theorem gErr:Tryz.prog.globalNamed "stagepost/congestion.errSize" = some 0:=by kernel_rfl
theorem gErrT:(Tryz.prog.globals[0]?).map (·.type)=some 159:=by kernel_rfl
theorem starE : "*" ++ "errors.errorString" = "*errors.errorString" := by decide
theorem rowE (u:TypeId) (h:Tryz.prog.typeName? 3 u=some "*errors.errorString"):u=272 :=
 typeName_ptr_named (nm := "errors.errorString") (by rw [starE];kernel_rfl) (by kernel_rfl) (by decide) u (by rw [starE];exact h)
theorem laidFacts {W:World} (h:laidMetH Tryz.prog [("stagepost/tcpstate.triples",Rows.laid_stagepost_tcpstate_triples),("stagepost/congestion.errSize",Rows.laid_stagepost_congestion_errSize)] W):Gl W:=by
 have h':laidMet Tryz.prog [("stagepost/tcpstate.triples",Rows.laid_stagepost_tcpstate_triples),("stagepost/congestion.errSize",Rows.laid_stagepost_congestion_errSize)] W:=h
 have k1:Triples W:=by
  obtain ⟨t,fr,hh⟩:=laid_head (g:=1) (m:=3) (t:=205) (by kernel_rfl) (by kernel_rfl) (by kernel_rfl) h';exact ⟨t,fr,hh.trans (by kernel_rfl)⟩
 obtain ⟨a,s,hv,_,_,_⟩:=laid_sentinel h'.tail gErr gErrT Tryz.underlying159 rowE Tryz.underlying272 Tryz.underlying294 rfl rfl Tryz.underlying9 (by kernel_rfl) (by kernel_rfl);have hc:W.cell? ⟨0,0,none⟩=some (.iface 272 (.pointer (some a))):=by simpa using World.var?_cell gErr hv 0
 have k2:ErrS a W:=⟨hc,block_lt_of_cell hc⟩;refine ⟨k1,⟨a,k2⟩,?_⟩;obtain ⟨t,fr,hh⟩:=k1;exact (Array.getElem?_eq_some_iff.1 hh).1
def withCells (cs:Array Value):Obj->Obj
 | .cells _ t frozen=>.cells cs t frozen
 | o=>o
noncomputable def low : Nat := (World.holding Tryz.prog default ⟨#[], #[], []⟩).heap.size
noncomputable def laidWorld (os:Os):World :=
 let w0:=World.holding Tryz.prog os ⟨#[.cells #[.string ⟨#[115,101,103,109,101,110,116,32,115,105,122,101,32,111,117,116,32,111,102,32,114,97,110,103,101]⟩] 294],#[],[]⟩
 { w0 with heap:=(w0.heap.modify 1 (withCells tripCells)).modify 0 (withCells #[.iface 272 (.pointer (some ⟨low,0,none⟩))]) }
end Go.Proofs.YtclkcmidhhfdmaaGreatDoor
