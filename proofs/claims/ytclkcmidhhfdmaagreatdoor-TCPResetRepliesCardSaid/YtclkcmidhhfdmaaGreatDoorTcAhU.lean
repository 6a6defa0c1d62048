import Derived.Test.YtclkcmidhhfdmaaGreatDoorUb1
import Derived.Test.YtclkcmidhhfdmaaGreatDoorUb7
namespace Go.Proofs.YtclkcmidhhfdmaaGreatDoor
open Lib (hid)
open Go.RowKit Go.Shelf
def rAdd (a n:Int):Int:=numV (numV a+numV n)
def rAhead (a b:Int):Int:=numV (numV a-numV b)
theorem numV_bd (n:Int):0<=numV n/\numV n<4294967296:=by unfold numV;omega
theorem rAdd_bd (a b:Int):0<=rAdd a b/\rAdd a b<4294967296:=numV_bd _
theorem rAhead_bd (a b:Int):0<=rAhead a b/\rAhead a b<4294967296:=numV_bd _
theorem rAdd_one (a n:Int):rAdd a n=addV a n:=by unfold rAdd numV addV;omega
theorem rAhead_diff (a b:Int):diffV a b<=rAhead a b/\(0<=diffV a b->rAhead a b=diffV a b):=by unfold rAhead numV diffV;omega
theorem radd_any (a n:Int)(w:World)(ha:In64 a)(hn:In64 n) :
  Calls Tryz.prog 25 #[.int .i64 a,.int .i64 n] w fun e w'=>e= .returned (.int .i64 (rAdd a n))/\w=w':=by
 have HV:=hid (show numV (numV a+numV n)=rAdd a n from rfl);have b1:=numV_bd a;have b2:=numV_bd n;obtain⟨x,hx⟩:∃x,x=numV a:=⟨_,rfl⟩;obtain⟨y,hy⟩:∃y,y=numV n:=⟨_,rfl⟩;have HX:=hid hx;have HY:=hid hy;rw[<-hx]at b1 HV;rw[<-hy]at b2 HV;clear hx hy;obtain⟨b3,b4⟩:=b1;obtain⟨b5,b6⟩:=b2
 go_enter Tryz.func25,Tryz.ntmps25
 go_wp2_with fail;refine(tround_any a _ ha).mono ?_;rintro e w1⟨rfl,rfl⟩;rw[<-HX.o];go_wp2_with fail;refine(tround_any n _ hn).mono ?_;rintro e w1⟨rfl,rfl⟩;rw[<-HY.o];go_wp2_with fail;refine(tround_any (x+y) _ (by unfold In64;omega)).mono ?_;rintro e w1⟨rfl,rfl⟩;rw[HV.o];go_wp2;go_ret;exact⟨rfl,rfl⟩
theorem rahead_any (a n:Int)(w:World)(ha:In64 a)(hn:In64 n) :
  Calls Tryz.prog 24 #[.int .i64 a,.int .i64 n] w fun e w'=>e= .returned (.int .i64 (rAhead a n))/\w=w':=by
 have HV:=hid (show numV (numV a-numV n)=rAhead a n from rfl);have b1:=numV_bd a;have b2:=numV_bd n;obtain⟨x,hx⟩:∃x,x=numV a:=⟨_,rfl⟩;obtain⟨y,hy⟩:∃y,y=numV n:=⟨_,rfl⟩;have HX:=hid hx;have HY:=hid hy;rw[<-hx]at b1 HV;rw[<-hy]at b2 HV;clear hx hy;obtain⟨b3,b4⟩:=b1;obtain⟨b5,b6⟩:=b2
 go_enter Tryz.func24,Tryz.ntmps24
 go_wp2_with fail;refine(tround_any a _ ha).mono ?_;rintro e w1⟨rfl,rfl⟩;rw[<-HX.o];go_wp2_with fail;refine(tround_any n _ hn).mono ?_;rintro e w1⟨rfl,rfl⟩;rw[<-HY.o];go_wp2_with fail;refine(tround_any (x-y) _ (by unfold In64;omega)).mono ?_;rintro e w1⟨rfl,rfl⟩;rw[HV.o];go_wp2;go_ret;exact⟨rfl,rfl⟩
end Go.Proofs.YtclkcmidhhfdmaaGreatDoor
