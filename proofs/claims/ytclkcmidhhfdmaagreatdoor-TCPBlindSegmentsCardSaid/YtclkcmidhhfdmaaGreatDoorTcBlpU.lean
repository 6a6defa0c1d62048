import Derived.Test.YtclkcmidhhfdmaaGreatDoorTcBldU
import Derived.Test.YtclkcmidhhfdmaaGreatDoorTcAhU
import Derived.Test.YtclkcmidhhfdmaaGreatDoorTcCfkU
namespace Go.Proofs.YtclkcmidhhfdmaaGreatDoor
open Lib (hid)
def Cn.recvB (c:Cn)(now:Int)(s:Sg):Cn×List Sg:=if s.okB=true then c.receive now s else(c,[])
theorem Ba (f:Fp)(c:Cn)(now:Int)(s:Sg)(a:Option Addr)(cap:Nat)(w:World)(h:CnAt f c w)(ok:c.Ok)(hn:aG now)(hb:bA w a s.bl) :
  Calls Tryz.prog 30 #[.pointer (some ⟨f.C,0,none⟩),.int .i64 now,dO s a cap] w (mA f w (c.recvB now s).2 (c.recvB now s).1):=by
 unfold Cn.recvB;split
 ·rename_i hk;exact jo f c now s a cap w h ok hn ((Sg.okB_iff _).1 hk) hb
 rename_i hk;exact yc f c now s a cap w h (by simpa using hk) hb
def B8 (y:Sg)(fp tp fr t:Int):Sg :=
 { y with s:=y.s.take 60,bl:=[],fp:=fp,tp:=tp,sq:=uG fr (1000000000+aR y.sq 2000000000),ak:=if y.has=true then uG t (1000000000+aR y.ak 2000000000)else y.ak }
theorem Bg {c:Cn}{y:Sg}{fp tp fr t:Int}(hi:c.irs=fr)(hc:c.cf.iss=t)(h1:0<=fr/\fr<=4294967295)(h2:0<=t/\t<=4294967295):Far c (B8 y fp tp fr t):=by
 have p1:=ai y.sq 2000000000 (by decide);have p2:=ai y.ak 2000000000 (by decide);refine⟨?_,fun hh=> ?_⟩
 ·show aA (uG fr (1000000000+aR y.sq 2000000000)) (ar c.irs 1)<=_\/_<=aA (uG fr (1000000000+aR y.sq 2000000000)) (ar c.irs 1);rw[hi];generalize aR y.sq 2000000000=q at *;unfold uG bY aA ar;omega
 have hh:y.has=true:=hh;show aA (if y.has=true then _ else _) _<_\/_<=aA (if y.has=true then _ else _) _;rw[if_pos hh,hc];generalize aR y.ak 2000000000=q at *;unfold uG bY aA;omega
theorem Bld.refl (c:Cn):Bld c c []:=⟨.inl rfl,rfl,rfl,rfl,rfl,rfl,rfl,rfl,rfl⟩
namespace Pr
variable {P : Par} {p : Pr} {n : Int}
def bldB (p:Pr)(i:Bool)(s:Sg):Pr:=(p.setC i ((p.sd i).c.recvB p.now s).1).put i ((p.sd i).c.recvB p.now s).2
theorem Al.bldB (h:Al P p n)(stb:StbP p)(i:Bool)(h3:3<=(p.sd i).c.st){s:Sg}(f:Far (p.sd i).c s):(Al P (p.bldB i s) (n+1)/\StbP (p.bldB i s))/\Bld (p.sd i).c ((p.sd i).c.recvB p.now s).1 ((p.sd i).c.recvB p.now s).2:=by
 unfold Pr.bldB Cn.recvB;by_cases hk:s.okB=true
 ·rw[if_pos hk];have hs:=(Sg.okB_iff _).1 hk;obtain⟨b1,b2⟩:=h.far i;exact⟨h.bld stb i h3 hs f,BK (h.run.1.sd i).c (stb i) h3 hs (by omega) (by omega) f p.now⟩
 rw[if_neg hk];have e:(p.setC i (p.sd i).c).put i []=p:=by cases i <;> rfl
 dsimp only;rw[e];exact⟨⟨h.mono (by omega),stb⟩,Bld.refl _⟩
structure BlK (x:Rw)(p:Pr)(n:Int):Prop where
 al:Al (fm x) p n
 stb:StbP p
 cf:All (fun i c=>c.cf=B3 x i) p
theorem BlK.doD {x:Rw}(h:BlK x p n)(h0:0<=n)(hn:n+21<=5000)(y:Dv):BlK x (p.doD y).1 (n+21) :=
 ⟨(h.al.doD (rx x) y h0 hn).2,Aw (rx x) h.al h0 hn h.stb y,h.cf.doD (BL (B3 x)) h.al (rx x) h0 hn y⟩
theorem BlK.mono {x:Rw}(h:BlK x p n){m:Int}(hm:n<=m):BlK x p m:=⟨h.al.mono hm,h.stb,h.cf⟩
theorem BlK.irs {x:Rw}(h:BlK x p n)(i:Bool)(h3:3<=(p.sd i).c.st):(p.sd i).c.irs=(fm x).iss (!i)/\(p.sd i).c.cf.iss=(fm x).iss i:=by
 refine⟨?_,(h.al.pv.s i).1.iss⟩
 rcases(h.al.pv.r i).2.1 with e | e | e
 ·omega
 ·omega
 exact e
theorem BlK.bldB {x:Rw}(h:BlK x p n)(i:Bool)(h3:3<=(p.sd i).c.st)(y:Sg)(fp tp:Int) :
  BlK x (p.bldB i (B8 y fp tp ((fm x).iss (!i)) ((fm x).iss i))) (n+1)/\Bld (p.sd i).c ((p.sd i).c.recvB p.now (B8 y fp tp ((fm x).iss (!i)) ((fm x).iss i))).1 ((p.sd i).c.recvB p.now (B8 y fp tp ((fm x).iss (!i)) ((fm x).iss i))).2:=by
 obtain⟨e1,e2⟩:=h.irs i h3
 have hb:∀j,0<=(fm x).iss j/\(fm x).iss j<=4294967295:=fun j=>by
  have h1:=iW x.issA;have h2:=iW x.issB
  cases j
  ·show 0<=bY x.issA/\bY x.issA<=4294967295;omega
  show 0<=bY x.issB/\bY x.issB<=4294967295;omega
 obtain⟨⟨a1,a2⟩,a3⟩:=h.al.bldB h.stb i h3 (Bg (y:=y) (fp:=fp) (tp:=tp) e1 e2 (hb _) (hb _));refine⟨⟨a1,a2,fun j=> ?_⟩,a3⟩;show(Pr.sd (Pr.put _ i _) j).c.cf=B3 x j;rw[Pr.put_sd]
 rcases eU i j with e | e <;> rw[e]
 ·rw[show(p.setC i ((p.sd i).c.recvB p.now (B8 y fp tp ((fm x).iss (!i)) ((fm x).iss i))).1).sd i={ p.sd i with c:=((p.sd i).c.recvB p.now (B8 y fp tp ((fm x).iss (!i)) ((fm x).iss i))).1 }from(iG p _ _).1];exact a3.cf.trans (h.cf i)
 rw[show(p.setC i ((p.sd i).c.recvB p.now (B8 y fp tp ((fm x).iss (!i)) ((fm x).iss i))).1).sd (!i)=p.sd (!i)from(iG p _ _).2.1];exact h.cf _
theorem BlK.start (x:Rw)(zs:List Int)(hz:zs.length<=100):BlK x (gr x zs 600 600) 0 :=
 ⟨pp x zs 600 600 (by omega) (by decide) (by decide),Ay x zs 600 600,BM x zs 600 600⟩
end Pr
end Go.Proofs.YtclkcmidhhfdmaaGreatDoor
