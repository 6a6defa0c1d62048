import Derived.Test.YtcmncipikdpnbaaGreatDoorTcHcfU
namespace Go.Proofs.YtcmncipikdpnbaaGreatDoor
theorem UO.Oo {P:Pr.zc}{p p':Pr}{q N:Bool->Int}{a b:Int}{j:Bool}(u:UO p p' j)(d:Cl P p' [] q N a b){i:Bool}{M T:Int}(lm:Oc (p.sd i).c (M+1) (N i))(k:Oe M p p.wire i T):Oe M p' p'.wire i T/\Oc (p'.sd i).c (M+1) (N i):=by
 obtain⟨l,op,e⟩:=u.op;have g:G1 True p p' j l:=⟨op.sv,op.rv,op.xv,u.Ej,e,u.now⟩;refine⟨by rw[e];exact g.Oo (d.dp i).fM (fun _ _ _ _ _=>.inl trivial) k,?_⟩
 rcases px (i:=j) (j:=i)with rfl | rfl
 ·exact lm.sv op.sv (d.ns i).2
 rw[u.Ej];exact lm
theorem UO.OA {P:Pr.zc}{p p':Pr}{q N:Bool->Int}{a b:Int}{j:Bool}(u:UO p p' j)(d:Cl P p' [] q N a b){i:Bool}{r:Int}(lm:Oc (p.sd i).c r (N i)):Oc (p'.sd i).c r (N i):=by
 obtain⟨l,op,-⟩:=u.op
 rcases px (i:=j) (j:=i)with rfl | rfl
 ·exact lm.sv op.sv (d.ns i).2
 rw[u.Ej];exact lm
end Go.Proofs.YtcmncipikdpnbaaGreatDoor
