import Derived.Test.YtclkcmidhhfdmaaGreatDoorUb7
namespace Go.Proofs.YtclkcmidhhfdmaaGreatDoor
open Lib (hid)
open Go.RowKit Go.Shelf
def uG (a n:Int):Int:=bY (bY a+bY n)
def gb (a b:Int):Int:=bY (bY a-bY b)
theorem iW (n:Int):0<=bY n/\bY n<4294967296:=by unfold bY;omega
theorem BF (a b:Int):0<=uG a b/\uG a b<4294967296:=iW _
theorem AT (a b:Int):0<=gb a b/\gb a b<4294967296:=iW _
theorem Ap (a n:Int):uG a n=ar a n:=by unfold uG bY ar;omega
theorem zX (a b:Int):aA a b<=gb a b/\(0<=aA a b->gb a b=aA a b):=by unfold gb bY aA;omega
theorem Ar (a n:Int)(w:World)(ha:aG a)(hn:aG n) :
  Calls Tryz.prog 25 #[.int .i64 a,.int .i64 n] w fun e w'=>e= .returned (.int .i64 (uG a n))/\w=w':=by
 have HV:=hid (show bY (bY a+bY n)=uG a n from rfl);have b1:=iW a;have b2:=iW n;obtain⟨x,hx⟩:∃x,x=bY a:=⟨_,rfl⟩;obtain⟨y,hy⟩:∃y,y=bY n:=⟨_,rfl⟩;have HX:=hid hx;have HY:=hid hy;rw[<-hx]at b1 HV;rw[<-hy]at b2 HV;clear hx hy;obtain⟨b3,b4⟩:=b1;obtain⟨b5,b6⟩:=b2
 go_enter Tryz.func25,Tryz.ntmps25
 go_wp2_with fail;refine(dF a _ ha).mono ?_;rintro e w1⟨rfl,rfl⟩;rw[<-HX.o];go_wp2_with fail;refine(dF n _ hn).mono ?_;rintro e w1⟨rfl,rfl⟩;rw[<-HY.o];go_wp2_with fail;refine(dF (x+y) _ (by unfold aG;omega)).mono ?_;rintro e w1⟨rfl,rfl⟩;rw[HV.o];go_wp2;go_ret;exact⟨rfl,rfl⟩
theorem jI (a n:Int)(w:World)(ha:aG a)(hn:aG n) :
  Calls Tryz.prog 24 #[.int .i64 a,.int .i64 n] w fun e w'=>e= .returned (.int .i64 (gb a n))/\w=w':=by
 have HV:=hid (show bY (bY a-bY n)=gb a n from rfl);have b1:=iW a;have b2:=iW n;obtain⟨x,hx⟩:∃x,x=bY a:=⟨_,rfl⟩;obtain⟨y,hy⟩:∃y,y=bY n:=⟨_,rfl⟩;have HX:=hid hx;have HY:=hid hy;rw[<-hx]at b1 HV;rw[<-hy]at b2 HV;clear hx hy;obtain⟨b3,b4⟩:=b1;obtain⟨b5,b6⟩:=b2
 go_enter Tryz.func24,Tryz.ntmps24
 go_wp2_with fail;refine(dF a _ ha).mono ?_;rintro e w1⟨rfl,rfl⟩;rw[<-HX.o];go_wp2_with fail;refine(dF n _ hn).mono ?_;rintro e w1⟨rfl,rfl⟩;rw[<-HY.o];go_wp2_with fail;refine(dF (x-y) _ (by unfold aG;omega)).mono ?_;rintro e w1⟨rfl,rfl⟩;rw[HV.o];go_wp2;go_ret;exact⟨rfl,rfl⟩
end Go.Proofs.YtclkcmidhhfdmaaGreatDoor
