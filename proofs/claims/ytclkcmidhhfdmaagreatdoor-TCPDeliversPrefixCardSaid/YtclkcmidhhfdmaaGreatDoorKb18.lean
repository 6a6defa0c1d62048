import Derived.Test.YtclkcmidhhfdmaaGreatDoorChecked
import Derived.WalkKit
import Derived.LaidEql
import Derived.Stop.Asserts
import Derived.RowKitTokens
namespace Go.Proofs.YtclkcmidhhfdmaaGreatDoor
open Go.RowKit Go.Extern.Stop Go.Stop Go.Extern
theorem is_nil (b:Addr) (w:World) :
  Calls Tryz.prog 127 #[.nilIface,.iface 272 (.pointer (some b))] w fun e w'=>e= .returned (.bool false)/\w=w':=by
 have hn:=run_eql_iface_nil_left (P:=Tryz.prog) w 272 (.pointer (some b)) Tryz.underlying159
 go_enter Tryz.func127,Tryz.ntmps127
 go_wp2
 go_ret;exact ⟨rfl,rfl⟩
end Go.Proofs.YtclkcmidhhfdmaaGreatDoor
