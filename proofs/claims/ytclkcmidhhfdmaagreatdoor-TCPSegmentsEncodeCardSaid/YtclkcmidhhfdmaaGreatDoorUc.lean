import GoSem.Core.World
namespace Go.Proofs.YtclkcmidhhfdmaaGreatDoor
abbrev Y:=Value
instance:Coe Int Value:=⟨fun x=>.int .i64 x⟩
instance:Coe Bool Value:=⟨.bool⟩
instance:Coe Nat Value:=⟨fun b=>.pointer (some ⟨b,0,none⟩)⟩
instance:Coe Nat Addr:=⟨fun b=>⟨b,0,none⟩⟩
end Go.Proofs.YtclkcmidhhfdmaaGreatDoor
