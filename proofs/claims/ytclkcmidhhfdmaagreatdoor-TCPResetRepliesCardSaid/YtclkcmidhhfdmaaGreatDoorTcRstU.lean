import Derived.Test.YtclkcmidhhfdmaaGreatDoorUb34
import Derived.Test.YtclkcmidhhfdmaaGreatDoorTcAhU
namespace Go.Proofs.YtclkcmidhhfdmaaGreatDoor
open Lib (hid)
theorem resetFor_ok {s:Sg}(h:s.Ok):(resetFor s).Ok/\(resetFor s).rst=true/\(resetFor s).fp=s.tp:=by
 have hb:=fun a b:Int=>(show 0<=addV a b/\addV a b<=4294967295 by unfold addV;omega);unfold resetFor;split
 ·exact⟨⟨h.tp,h.fp,h.ak,(show(0:Int)<=0/\(0:Int)<=4294967295 by decide),fun _=>rfl,(show(0:Int)<=0/\(0:Int)<=65535 by decide),⟨fun h=>Bool.noConfusion h.1,fun h=>Bool.noConfusion h.1,fun h=>Bool.noConfusion h.1⟩,fun _=>⟨rfl,rfl⟩,fun h=>Bool.noConfusion h,Nat.zero_le 3,fun h=>absurd h (Nat.lt_irrefl 0),fun x h=>absurd h List.not_mem_nil,fun _=>rfl,(show((0:Nat):Int)<=1024-8*((0:Nat):Int) by decide)⟩,rfl,rfl⟩
 exact⟨⟨h.tp,h.fp,(show(0:Int)<=0/\(0:Int)<=4294967295 by decide),hb _ _,fun h=>Bool.noConfusion h,(show(0:Int)<=0/\(0:Int)<=65535 by decide),⟨fun h=>Bool.noConfusion h.1,fun h=>Bool.noConfusion h.1,fun h=>Bool.noConfusion h.1⟩,fun _=>⟨rfl,rfl⟩,fun h=>Bool.noConfusion h,Nat.zero_le 3,fun h=>absurd h (Nat.lt_irrefl 0),fun x h=>absurd h List.not_mem_nil,fun _=>rfl,(show((0:Nat):Int)<=1024-8*((0:Nat):Int) by decide)⟩,rfl,rfl⟩
theorem sg0_bad:sg0.okB=false:=by decide
def cSyn (x:Rw):Cn:=(openR 0 (kfA x)).1
def wrongS (x:Rw)(a:Int):Sg:={ resetFor (synA x)with ak:=a }
def rAk (x:Rw):Int:=(resetFor (synA x)).ak
theorem rAk_eq (x:Rw):rAk x=addV (numV x.issA) 1:=by
 show addV (addV (numV x.issA) 0) 1=_;unfold addV;omega
theorem wrongS_ok (x:Rw){a:Int}(ha:0<=a/\a<=4294967295):(wrongS x a).Ok:=by
 have h:=(resetFor_ok (synA_ok x)).1;exact⟨h.fp,h.tp,h.sq,ha,fun h=>Bool.noConfusion (show true=false from h),h.win,h.fl,h.mss,h.mssS,h.blen,h.bhas,h.blk,h.sS,h.slen⟩
theorem wrong_rcv (x:Rw){a:Int}(ha:0<=a/\a<=4294967295)(hne:a≠rAk x):(cSyn x).receive 1 (wrongS x a)=(cSyn x,[]):=by
 have hd:diffV a (numV x.issA)≠1:=by
  rw[rAk_eq]at hne;unfold addV numV at hne;unfold diffV numV;omega
 unfold Cn.receive;rw[if_neg (show ¬(cSyn x).st=0 by show ¬(1:Int)=0;decide),if_neg (show ¬((wrongS x a).fp≠(cSyn x).cf.tp\/(wrongS x a).tp≠(cSyn x).cf.fp) by show ¬((80:Int)≠80\/(5000:Int)≠5000);decide),if_pos (show(cSyn x).st=1 from rfl)];unfold Cn.greet;rw[if_pos (show(wrongS x a).has=true/\diffV (wrongS x a).ak (cSyn x).cf.iss≠1 from⟨rfl,hd⟩),if_pos (show(wrongS x a).rst=true from rfl)]
theorem right_rcv (x:Rw):(cSyn x).receive 2 (resetFor (synA x))=((cSyn x).finish 2 8 184,[]):=by
 have hd:diffV (rAk x) (numV x.issA)=1:=by
  rw[rAk_eq];unfold diffV addV numV;omega
 unfold Cn.receive;rw[if_neg (show ¬(cSyn x).st=0 by show ¬(1:Int)=0;decide),if_neg (show ¬((resetFor (synA x)).fp≠(cSyn x).cf.tp\/(resetFor (synA x)).tp≠(cSyn x).cf.fp) by show ¬((80:Int)≠80\/(5000:Int)≠5000);decide),if_pos (show(cSyn x).st=1 from rfl)];unfold Cn.greet;rw[if_neg (show ¬((resetFor (synA x)).has=true/\diffV (resetFor (synA x)).ak (cSyn x).cf.iss≠1)from fun h=>h.2 hd),if_pos (show(resetFor (synA x)).rst=true/\(resetFor (synA x)).has=true from⟨rfl,rfl⟩)]
theorem wrong_ak (x:Rw){k:Int}(hk:1<=k/\k<=4294967295):(0<=rAdd (rAk x) k/\rAdd (rAk x) k<=4294967295)/\rAdd (rAk x) k≠rAk x:=by
 have h1:=rAdd_bd (rAk x) k;refine⟨by omega,?_⟩;rw[rAk_eq];unfold rAdd numV addV;omega
end Go.Proofs.YtclkcmidhhfdmaaGreatDoor
