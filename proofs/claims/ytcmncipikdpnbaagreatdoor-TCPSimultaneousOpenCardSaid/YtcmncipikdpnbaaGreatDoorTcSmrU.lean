import Derived.Test.YtcmncipikdpnbaaGreatDoorTcSmqU
namespace Go.Proofs.YtcmncipikdpnbaaGreatDoor
def Oc (f:Fl)(p:Pr):Pr:={ p with wire:=f::p.wire }
theorem Oi (f:Fl)(p:Pr)(i:Bool):(Oc f p).sd i=p.sd i:=by cases i <;> rfl
theorem Ou (f:Fl)(p:Pr)(i:Bool)(s:Sd):(Oc f p).kd i s=Oc f (p.kd i s):=by cases i <;> rfl
theorem Oo (f:Fl)(i:Bool):∀(l:List Sg) (p:Pr),(Oc f p).put i l=Oc f (p.put i l):=by
 intro l
 induction l with
 | nil=>intro p;rfl
 | cons s l a=>intro p;exact a (p.tt i s)
theorem zw (f:Fl)(p:Pr)(i:Bool)(c:Cn):(Oc f p).ro i c=Oc f (p.ro i c):=by cases i <;> rfl
theorem AC (f g:Fl)(p:Pr):(Oc f p).ke g=Oc f (p.ke g):=by
 unfold Pr.ke;rw[Oi,zw,Oo];rfl
theorem DK (f:Fl):∀(l:List Fl) (p:Pr),l.foldl Pr.ke (Oc f p)=Oc f (l.foldl Pr.ke p):=by
 intro l
 induction l with
 | nil=>intro p;rfl
 | cons g l a=>intro p;rw[Nk,Nk,AC];exact a _
theorem tv (f:Fl)(p:Pr)(i:Bool):(Oc f p).ki i=Oc f (p.ki i):=by
 unfold Pr.ki;rw[Oi,zw,Oo];rfl
theorem zx (f:Fl)(p:Pr)(i:Bool)(n:Int):(Oc f p).send i n=Oc f (p.send i n):=by
 unfold Pr.send;dsimp only;rw[Oi,Ou,Oo];split
 ·rfl
 split <;> rfl
theorem zy (f:Fl)(p:Pr)(i:Bool)(n:Int):(Oc f p).recv i n=Oc f (p.recv i n):=by
 unfold Pr.recv;dsimp only;rw[Oi,Ou,Oo,zw];split <;> rfl
theorem DQ (f:Fl)(p:Pr)(i:Bool):(Oc f p).shut i=Oc f (p.shut i):=by
 unfold Pr.shut;dsimp only;rw[Oi,Ou,Oo];split
 ·rfl
 split <;> rfl
theorem Oz (f:Fl)(p:Pr)(i:Bool):(Oc f p).mR i=Oc f (p.mR i):=by
 unfold Pr.mR;dsimp only;rw[zx,zy,DQ,Oi];split <;> rfl
theorem qI (f:Fl)(p:Pr):(Oc f p).zx=(Oc f p.zx.1,p.zx.2):=by
 unfold Pr.zx;dsimp only;rw[Oz,Oz,zx,zy,zx,zy,Oi,Oi];rfl
theorem Ov {f:Fl}{p:Pr}(b:f.held=false)(hd:p.now+1<f.due)(hw:∀g∈p.wire,g.held=false/\g.due<=p.now+1):(Oc f p).tick=Oc f p.tick:=by
 obtain⟨d1,d2⟩:=eV (p:={ p with now:=p.now+1 }) hw
 have c:Pr.tD (p.now+1) f=false:=by
  unfold Pr.tD;rw[b,Lf O];rfl
 have i:({ p with now:=p.now+1 }:Pr).deliver=p.wire.foldl Pr.ke { p with now:=p.now+1,wire:=[] }:=by
  unfold Pr.deliver;rw[d1,d2]
 have j:Pr.El (p.now+1) p.wire=p.wire:=List.filter_eq_self.2 fun g a=>by
  unfold Pr.tD;rw[(hw g a).1,Lc (hw g a).2];rfl
 have k:Pr.Dm (p.now+1) p.wire=[]:=List.filter_eq_nil_iff.2 fun g a=>by
  unfold Pr.tD;rw[(hw g a).1,Lc (hw g a).2]
  simp
 have d:Pr.El (p.now+1) (f::p.wire)=p.wire:=by
  show List.filter (Pr.tD (p.now+1)) (f::p.wire)=p.wire;rw[List.filter_cons,c];exact j
 have e:Pr.Dm (p.now+1) (f::p.wire)=[f]:=by
  show List.filter (fun f=> !Pr.tD (p.now+1) f) (f::p.wire)=[f];rw[List.filter_cons,c];show f::Pr.Dm (p.now+1) p.wire=[f];rw[k]
 have h:Pr.v7 (p.now+1) p.wire f=false:=by
  unfold Pr.v7;rw[b];rfl
 have l:({ (Oc f p)with now:=p.now+1 }:Pr).deliver=Oc f (({ p with now:=p.now+1 }:Pr).deliver):=by
  rw[i,<-DK];unfold Pr.deliver Pr.due Pr.rest;show(Pr.El (p.now+1) (f::p.wire)++(Pr.Dm (p.now+1) (f::p.wire)).filter (Pr.v7 (p.now+1) (Pr.El (p.now+1) (f::p.wire)))).foldl Pr.ke _=_;rw[d,e,List.filter_cons,h];show(p.wire++[]).foldl Pr.ke { (Oc f p)with now:=p.now+1,wire:=(Pr.Dm (p.now+1) (f::p.wire)).filter fun g=> !Pr.v7 (p.now+1) (Pr.El (p.now+1) (f::p.wire)) g }=_;rw[d,e,LM,List.filter_cons,h];rfl
 unfold Pr.tick;show(({ (Oc f p)with now:=p.now+1 }:Pr).deliver.ki false).ki true=_;rw[l,tv,tv]
end Go.Proofs.YtcmncipikdpnbaaGreatDoor
