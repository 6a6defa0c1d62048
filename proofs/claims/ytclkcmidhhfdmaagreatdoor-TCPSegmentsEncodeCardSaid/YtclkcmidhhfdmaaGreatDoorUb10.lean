import Derived.Test.YtclkcmidhhfdmaaGreatDoorUb9
namespace Go.Proofs.YtclkcmidhhfdmaaGreatDoor
section
structure Kx where
 S:List UInt8
 cl:Bool
 iss:Int
 m:Int
 r:Int
 e:Int
structure GS (k:Kx)(s:Sg):Prop where
 rst:s.rst=true->s.s=[]/\s.fin=false/\s.syn=false
 dat:s.rst=false->∃off:Nat,s.sq=bt k.iss off/\off<=k.S.length+2/\(s.syn=true->off=0/\s.s=[]/\s.fin=false)/\(s.syn=false->1<=off)/\(s.s≠[]->s.s=(k.S.drop (off-1)).take s.s.length/\off-1+s.s.length<=k.S.length)/\(s.fin=true->k.cl=true/\off-1+s.s.length=k.S.length)
 len:(s.s.length:Int)<=k.m
 win:s.win<=k.r
 lim:s.s≠[]->aD s.sq (bt k.iss 1)+s.s.length<=k.e+1
structure Gw (k k':Kx):Prop where
 S:(k'.S=k.S/\(k.cl=true->k'.cl=true))\/(k.cl=false/\∃x,k'.S=k.S++x)
 iss:k'.iss=k.iss
 m:k'.m=k.m
 r:k'.r=k.r
 e:k.e<=k'.e
theorem Gw.refl (k:Kx):Gw k k:=⟨.inl ⟨rfl,id⟩,rfl,rfl,rfl,Int.le_refl _⟩
theorem sj {S x:List UInt8}{a k:Nat}(h:a+k<=S.length):((S++x).drop a).take k=(S.drop a).take k:=by
 rw[List.drop_append_of_le_length (by omega),List.take_append_of_le_length (by rw[List.length_drop];omega)]
theorem GS.gw {k k':Kx}{s:Sg}(h:GS k s)(g:Gw k k'):GS k' s:=by
 have he:=g.e;refine⟨h.rst,fun hr=> ?_,by rw[g.m];exact h.len,by rw[g.r];exact h.win,fun hs=>by have:=h.lim hs;rw[g.iss];omega⟩;obtain⟨off,h1,h2,h3,h4,h5,h6⟩:=h.dat hr
 rcases g.S with⟨e,hc⟩ | ⟨ec,x,e⟩
 ·rw[e,g.iss];exact⟨off,h1,h2,h3,h4,h5,fun hf=>⟨hc (h6 hf).1,(h6 hf).2⟩⟩
 rw[e,g.iss];refine⟨off,h1,by rw[List.length_append];omega,h3,h4,fun hs=> ?_,fun hf=>by have:=(h6 hf).1;rw[ec]at this;cases this⟩;have:=h5 hs;exact⟨by rw[sj this.2];exact this.1,by rw[List.length_append];omega⟩
structure SI (k:Kx)(c:Cn):Prop where
 b1:1<=c.base
 held:c.held=k.S.drop (c.base-1).toNat
 last:c.last=1+k.S.length
 nl:c.next<=c.last+(if c.shut=true then 1 else 0)
 sh:c.shut=true->k.cl=true
 bu:c.base<=max c.una 1
 n1:1<=c.next
 iss:c.cf.iss=k.iss
 sm:k.S.length<=1000
 lim:c.limit<=1+k.e
 unl:1<=c.una->c.una<=c.limit
 dat:min c.next c.last<=c.limit+1
 mss:c.mss<=k.m
 room:c.room=k.r
namespace SI
variable {k : Kx} {c d : Cn}
theorem same (h:SI k c)(d:Cn)(e1:d.base=c.base)(e2:d.held=c.held)(e3:d.sc.una=c.sc.una)(e4:d.sc.next=c.sc.next)(e5:d.shut=c.shut)(e6:d.cf=c.cf)(e7:d.limit=c.limit)(e8:d.mss=c.mss)(e9:d.room=c.room):SI k d:=by
 have el:d.last=c.last:=by unfold Cn.last;rw[e1,e2]
 have en:d.next=c.next:=e4;have eu:d.una=c.una:=e3;exact⟨by rw[e1];exact h.b1,by rw[e1,e2];exact h.held,el.trans h.last,by rw[en,el,e5];exact h.nl,by rw[e5];exact h.sh,by rw[e1,eu];exact h.bu,by rw[en];exact h.n1,by rw[e6];exact h.iss,h.sm,by rw[e7];exact h.lim,by rw[eu,e7];exact h.unl,by rw[en,el,e7];exact h.dat,by rw[e8];exact h.mss,e9.trans h.room⟩
theorem len (h:SI k c):c.base+c.held.length=1+k.S.length:=h.last
theorem data (h:SI k c){lo hi:Int}(h1:c.base<=lo)(h2:lo<=c.last)(h3:lo<=hi) :
  c.data lo hi=(k.S.drop (lo.toNat-1)).take (c.data lo hi).length/\((c.data lo hi).length:Int)=min hi c.last-lo:=by
 have hb:=h.b1;have hl:=h.len;have a7:c.last=c.base+c.held.length:=rfl
 have e:c.data lo hi=(k.S.drop (lo.toNat-1)).take ((min hi c.last-lo).toNat):=by
  unfold Cn.data mm;have e1:min (max (lo-c.base) 0) (c.held.length:Int)=lo-c.base:=by omega
  have e2:min (max (hi-c.base) (lo-c.base)) (c.held.length:Int)=min hi c.last-c.base:=by omega
  rw[e1,e2,List.drop_take,h.held,List.drop_drop]
  congr 1
  ·omega
  congr 1
  omega
 have el:((c.data lo hi).length:Int)=min hi c.last-lo:=by
  rw[e,List.length_take,List.length_drop];omega
 refine⟨?_,el⟩;have:(c.data lo hi).length=(min hi c.last-lo).toNat:=by omega
 rw[this];exact e
end SI
theorem oj (c:Cn)(g:Sg)(off:Int):(c.ackS g off).sq=bt c.cf.iss off/\(c.ackS g off).s=g.s/\(c.ackS g off).fin=g.fin/\(c.ackS g off).syn=g.syn/\(c.ackS g off).rst=g.rst/\(c.ackS g off).win=(if g.syn=true then c.room else c.raised c.mss-c.bx.nx):=by
 unfold Cn.ackS;split
 ·rename_i h;refine⟨rfl,rfl,rfl,rfl,rfl,?_⟩;show(if g.syn=true then c.room else g.win)=c.room;rw[if_pos h]
 rename_i h;exact⟨rfl,rfl,rfl,rfl,rfl,rfl⟩
theorem wN (s:Sc)(x:Sp):(s.ret x).una=s.una/\(s.ret x).next=s.next:=by unfold Sc.ret;split <;> exact⟨rfl,rfl⟩
theorem uy (s:Sc)(n:Int):(s.sent n).una=s.una/\((s.sent n).next=s.next\/((s.sent n).next=n/\s.next<=n)):=by
 unfold Sc.sent;split
 ·rename_i h;unfold Sc.sentB at h;exact⟨rfl,.inr ⟨rfl,(of_decide_eq_true h).1⟩⟩
 exact⟨rfl,.inl rfl⟩
theorem wO (s:Sc)(k:Bool)(iss:Int)(bl:List Sp):∀x∈ej k s.next iss bl,s.inB x=true:=by
 intro x hx;unfold ej at hx;have:=(List.mem_filter.1 hx).2;rw[Bool.and_eq_true,decide_eq_true_iff]at this;exact Sc.inB_iff.2 (by omega)
theorem nG (s:Sc){a:Int}(h0:0<=a)(h1:a<=s.next){l:List Sp}(hl:∀x∈l,s.inB x=true):(s.acked a l).una=max s.una a/\(s.acked a l).next=s.next:=by
 unfold Sc.acked;rw[if_pos (Sc.ackB_iff.2 ⟨⟨h0,h1⟩,hl⟩)];exact⟨rfl,rfl⟩
namespace SI
variable {k : Kx} {c d : Cn}
theorem winr (h:SI k c)(ok:c.Ok)(m:Int):c.raised m-c.bx.nx<=k.r:=by
 have h1:=(ok.raised m).2.2.2;have h2:=ok.bx.rdnx;have h3:=ok.ring;have h4:=h.room;unfold Cn.most at h1;omega
theorem piece (h:SI k c)(ok:c.Ok){lo hi:Int}(h1:c.base<=lo)(h2:lo<=c.last)(h3:lo<=hi)(h4:min hi c.last-lo<=c.mss)(h5:min hi c.last<=c.limit+1):GS k (c.pieceS lo hi):=by
 obtain⟨a1,a2,a3,a4,a5,a6⟩:=oj c { dg with s:=c.data lo hi,fin:=c.shut&&decide (c.last<hi) } lo;have e:c.pieceS lo hi=c.ackS { dg with s:=c.data lo hi,fin:=c.shut&&decide (c.last<hi) } lo:=rfl;obtain⟨d1,d2⟩:=h.data h1 h2 h3;have hb:=h.b1;have hl:=h.last;have hsm:=h.sm;refine⟨fun hr=> ?_,fun _=>⟨lo.toNat,?_,by omega,fun hy=> ?_,fun _=>by omega,fun _=> ?_,fun hf=> ?_⟩,?_,?_,fun _=> ?_⟩
 ·rw[e,a5]at hr;cases hr
 ·rw[e,a1,h.iss];congr 1;omega
 ·rw[e,a4]at hy;cases hy
 ·rw[e,a2];exact⟨d1,by dsimp only;omega⟩
 ·rw[e,a3]at hf;rw[e,a2];dsimp only at hf|-;rw[Bool.and_eq_true,decide_eq_true_iff]at hf;exact⟨h.sh hf.1,by omega⟩
 ·rw[e,a2];have:=h.mss;dsimp only;omega
 ·rw[e,a6];exact h.winr ok _
 rw[e,a1,a2,h.iss];have h6:aD (bt k.iss lo) (bt k.iss 1)=lo-1:=by unfold aD bt;omega
 have:=h.lim;rw[h6];dsimp only;omega
theorem m0 (h:SI k c)(ok:c.Ok):28<=k.m/\1<=k.r:=by have:=ok.mss;have:=h.mss;have:=ok.room;have:=h.room;omega
theorem ack (h:SI k c)(ok:c.Ok):GS k (c.ackS dg c.next):=by
 obtain⟨a1,a2,a3,a4,a5,a6⟩:=oj c dg c.next;have h1:=h.n1;have h2:=h.nl;have h3:=h.last;have h4:=h.m0 ok;refine⟨fun hr=> ?_,fun _=>⟨c.next.toNat,?_,by split at h2 <;> omega,fun hy=> ?_,fun _=>by omega,fun hs=> ?_,fun hf=> ?_⟩,?_,?_,fun hs=> ?_⟩
 ·rw[a5]at hr;cases hr
 ·rw[a1,h.iss];congr 1;omega
 ·rw[a4]at hy;cases hy
 ·rw[a2]at hs;exact absurd rfl hs
 ·rw[a3]at hf;cases hf
 ·rw[a2];show(0:Int)<=k.m;omega
 ·rw[a6];exact h.winr ok _
 rw[a2]at hs;exact absurd rfl hs
theorem syn (h:SI k c)(ok:c.Ok):GS k c.synS:=by
 have key:c.synS.sq=bt c.cf.iss 0/\c.synS.s=[]/\c.synS.fin=false/\c.synS.syn=true/\c.synS.rst=false/\c.synS.win=c.room:=by
  unfold Cn.synS;split
  ·exact⟨rfl,rfl,rfl,rfl,rfl,rfl⟩
  exact oj c _ 0
 obtain⟨a1,a2,a3,a4,a5,a6⟩:=key;have h4:=h.m0 ok;exact⟨fun hr=>by(rw[a5]at hr;cases hr),fun _=>⟨0,by rw[a1,h.iss];rfl,by omega,fun _=>⟨rfl,a2,a3⟩,fun hy=>by(rw[a4]at hy;cases hy),fun hs=>absurd a2 hs,fun hf=>by(rw[a3]at hf;cases hf)⟩,by rw[a2];show(0:Int)<=k.m;omega,by rw[a6,h.room];exact Int.le_refl _,fun hs=>absurd a2 hs⟩
theorem reset (h:SI k c)(ok:c.Ok)(n:Int):GS k (c.resetS n):=⟨fun _=>⟨rfl,rfl,rfl⟩,(fun h=>nomatch h),by have:=h.m0 ok;show(0:Int)<=k.m;omega,by have:=h.m0 ok;show(0:Int)<=k.r;omega,fun hs=>absurd rfl hs⟩
theorem ackC (h:SI k c)(b:Bool):SI k (c.ackC b):=by unfold Cn.ackC;split <;> exact h.same _ rfl rfl rfl rfl rfl rfl rfl rfl rfl
theorem synC (h:SI k c):SI k c.synC:=by unfold Cn.synC;split <;> exact h.same _ rfl rfl rfl rfl rfl rfl rfl rfl rfl
theorem step (h:SI k c)(now e:Int):SI k (c.step now e):=by
 unfold Cn.step;split
 ·exact h
 split <;> exact h.same _ rfl rfl rfl rfl rfl rfl rfl rfl rfl
theorem finish (h:SI k c)(now e er:Int):SI k (c.finish now e er):=(h.step now e).same _ rfl rfl rfl rfl rfl rfl rfl rfl rfl
theorem onSc (h:SI k c)(s:Sc)(h1:c.una<=s.una)(h2:c.next<=s.next)(h3:s.next<=c.last+(if c.shut=true then 1 else 0))(d:Cn)(e1:d.base=c.base)(e2:d.held=c.held)(e3:d.sc=s)(e5:d.shut=c.shut)(e6:d.cf=c.cf)(e7:d.limit=c.limit)(e8:d.mss=c.mss)(e9:d.room=c.room)(h4:1<=s.una->s.una<=c.limit)(h5:min s.next c.last<=c.limit+1):SI k d:=by
 have el:d.last=c.last:=by unfold Cn.last;rw[e1,e2]
 have en:d.next=s.next:=by unfold Cn.next;rw[e3]
 have eu:d.una=s.una:=by unfold Cn.una;rw[e3]
 have hb:=h.bu;have hn:=h.n1;have a9:=h.unl;exact⟨by rw[e1];exact h.b1,by rw[e1,e2];exact h.held,el.trans h.last,by rw[en,el,e5];exact h3,by rw[e5];exact h.sh,by rw[e1,eu];omega,by rw[en];omega,by rw[e6];exact h.iss,h.sm,by rw[e7];exact h.lim,by rw[eu,e7];exact h4,by rw[en,el,e7];exact h5,by rw[e8];exact h.mss,e9.trans h.room⟩
theorem out (h:SI k c)(ok:c.Ok)(now:Int){n:Int}(h0:0<=n)(h1:c.next+n<=c.last)(h2:n<=c.mss)(h3:min (c.next+n) c.last<=c.limit+1):SI k (c.out now n)/\(c.out now n).una=c.una/\GS k (c.freshS n):=by
 have hl:(c.ackC false).last=c.last/\(c.ackC false).sc=c.sc/\(c.ackC false).shut=c.shut/\(c.ackC false).base=c.base/\(c.ackC false).held=c.held/\(c.ackC false).cf=c.cf/\(c.ackC false).limit=c.limit/\(c.ackC false).mss=c.mss/\(c.ackC false).room=c.room:=by unfold Cn.ackC;split <;> exact⟨rfl,rfl,rfl,rfl,rfl,rfl,rfl,rfl,rfl⟩
 obtain⟨l1,l2,l3,l4,l5,l6,l7,l8,l9⟩:=hl;obtain⟨u1,u2⟩:=uy c.sc (c.freshTo n)
 have hft:c.next+n<=c.freshTo n/\c.freshTo n<=c.last+(if c.shut=true then 1 else 0)/\(c.freshTo n=c.next+n\/c.next+n=c.last):=by
  unfold Cn.freshTo;split
  ·rename_i hx;rw[if_pos hx.1];omega
  split <;> omega
 have hn:=h.nl;have hu:c.sc.next=c.next:=rfl;have hun:c.sc.una=c.una:=rfl;have hb:=h.bu;have aa:=h.n1;have hok:=ok.una;have hd:=h.dat;exact⟨h.onSc (c.sc.sent (c.freshTo n)) (by omega) (by omega) (by omega) _ l4 l5 rfl l3 l6 l7 l8 l9 (by rw[u1];exact h.unl) (by omega),u1,h.piece ok (by omega) (by omega) (by omega) (by omega) (by omega)⟩
theorem lostL (n:Nat):∀{c:Cn} (l:List Sg),c.Ok->SI k c->1<=c.una->(∀x∈l,GS k x)->SI k (lostL n c l).1/\(∀x∈(lostL n c l).2,GS k x)/\(lostL n c l).1.una=c.una:=by
 induction n with
 | zero=>exact fun l _ h _ hl=>⟨h,hl,rfl⟩
 | succ n ih =>
  intro c l ok h hu hl;unfold Go.Proofs.YtclkcmidhhfdmaaGreatDoor.lostL;split
  ·split
   ·exact⟨h,hl,rfl⟩
   rename_i x t hx;have hm:=ok.mss;obtain⟨ha,hb,hc,-⟩:=eA ok.sc (m:=c.mss) (by omega) (x:=x) (by rw[hx];simp);unfold gb at ha;obtain⟨u1,u2⟩:=wN c.sc (aS c.mss x)
   have key:∀t:Tm,SI k { c.pieceC with sc:=c.sc.ret (aS c.mss x),tm:=t }:=fun t=>(h.ackC false).onSc (c.sc.ret (aS c.mss x)) (by rw[u1];unfold Cn.ackC Cn.una;split <;> exact Int.le_refl _) (by rw[u2];unfold Cn.ackC Cn.next;split <;> exact Int.le_refl _) (by
    rw[u2];have:=h.nl;unfold Cn.ackC Cn.last Cn.next at *;split <;> exact this) _ rfl rfl rfl rfl rfl rfl rfl rfl (by rw[u1];have:=h.unl;unfold Cn.ackC Cn.una at *;split <;> exact this) (by
    rw[u2];have:=h.dat;unfold Cn.ackC Cn.last Cn.next at *;split <;> exact this)
   split
   ·have ab:=h.bu;have hnl:=h.nl;have hun:c.sc.una=c.una:=rfl;have hnn:c.sc.next=c.next:=rfl;have a0:=h.dat;have hcut:(aS c.mss x).2=min x.2 (x.1+c.mss):=rfl;obtain⟨i1,i2,i3⟩:=ih (l++[c.pieceS x.1 (aS c.mss x).2]) ((ok.pieceC.onSc (ok.sc.ret _)).onTm (Tm.retr_fit ok.tm)) (key _) (by show 1<=(c.sc.ret (aS c.mss x)).una;omega) (Cn.Ok.all_add hl (h.piece ok (by omega) (by split at hnl <;> omega) (by omega) (by omega) (by omega)));exact⟨i1,i2,i3.trans u1⟩
   exact⟨key _,hl,u1⟩
  exact⟨h,hl,rfl⟩
theorem ol (c:Cn):c.allowed<=max c.unsent 0/\c.allowed<=max c.mss 0/\c.allowed<=max (c.limit-c.next) 0:=by
 unfold Cn.allowed;split
 ·omega
 split
 ·omega
 split <;> omega
theorem sizeL {now:Int}(hn:aI now)(n:Nat):∀{c:Cn} (l:List Sg),c.Ok->SI k c->(∀x∈l,GS k x)->SI k (sizeL now n c l).1/\(∀x∈(sizeL now n c l).2,GS k x)/\(sizeL now n c l).1.una=c.una:=by
 induction n with
 | zero=>exact fun l _ h hl=>⟨h,hl,rfl⟩
 | succ n ih =>
  intro c l ok h hl;unfold Go.Proofs.YtclkcmidhhfdmaaGreatDoor.sizeL;split
  ·rename_i ha;have ac:=ol c;have hu:c.unsent=max 0 (c.last-c.next):=rfl;obtain⟨o1,o2,o3⟩:=h.out ok now (n:=c.allowed) (by omega) (by omega) (by omega) (by omega);obtain⟨i1,i2,i3⟩:=ih (l++[c.freshS c.allowed]) (ok.out hn _) o1 (Cn.Ok.all_add hl o3);exact⟨i1,i2,i3.trans o2⟩
  exact⟨h,hl,rfl⟩
theorem finL (now:Int)(ok:c.Ok)(h:SI k c)(l:List Sg)(hl:∀x∈l,GS k x):SI k (finL now c l).1/\(∀x∈(finL now c l).2,GS k x)/\(finL now c l).1.una=c.una:=by
 unfold Go.Proofs.YtclkcmidhhfdmaaGreatDoor.finL;split
 ·rename_i hx;have a0:=h.dat;have hm:=ok.mss;obtain⟨o1,o2,o3⟩:=h.out ok now (n:=0) (by decide) (by omega) (by omega) (by omega);exact⟨o1,Cn.Ok.all_add hl o3,o2⟩
 exact⟨h,hl,rfl⟩
theorem pushD (h:SI k c)(ok:c.Ok){now:Int}(hn:aI now)(hu:1<=c.una):SI k (c.pushD now).1/\(∀x∈(c.pushD now).2,GS k x)/\(c.pushD now).1.una=c.una:=by
 have o1:=Cn.Ok.lostL (c.flight.toNat+1) ok [];obtain⟨a1,a2,a3⟩:=SI.lostL (c.flight.toNat+1) [] ok h hu Cn.Ok.all_nil;unfold Cn.pushD;dsimp only;generalize Go.Proofs.YtclkcmidhhfdmaaGreatDoor.lostL (c.flight.toNat+1) c []=a at o1 a1 a2 a3|-;have o2:=Cn.Ok.sizeL hn (a.1.unsent.toNat+1) o1 a.2;obtain⟨b1,b2,b3⟩:=SI.sizeL hn (a.1.unsent.toNat+1) a.2 o1 a1 a2;generalize Go.Proofs.YtclkcmidhhfdmaaGreatDoor.sizeL now (a.1.unsent.toNat+1) a.1 a.2=b at o2 b1 b2 b3|-;obtain⟨c1,c2,c3⟩:=SI.finL now o2 b1 b.2 b2;exact⟨c1,c2,c3.trans (b3.trans a3)⟩
theorem uz (c:Cn)(b:Bool):(c.ackC b).una=c.una:=by unfold Cn.ackC Cn.una;split <;> rfl
theorem pushA (h:SI k c)(ok:c.Ok)(l:List Sg)(hl:∀x∈l,GS k x):SI k (c.pushA l).1/\(∀x∈(c.pushA l).2,GS k x)/\(c.pushA l).1.una=c.una:=by
 unfold Cn.pushA;split
 ·exact⟨h.ackC false,Cn.Ok.all_add hl (h.ack ok),uz c false⟩
 exact⟨h,hl,rfl⟩
theorem pushT (h:SI k c)(now:Int):SI k (c.pushT now)/\(c.pushT now).una=c.una:=by
 unfold Cn.pushT;split
 ·exact⟨h.same _ rfl rfl rfl rfl rfl rfl rfl rfl rfl,rfl⟩
 split
 ·exact⟨h,rfl⟩
 exact⟨h.same _ rfl rfl rfl rfl rfl rfl rfl rfl rfl,rfl⟩
theorem push (h:SI k c)(ok:c.Ok){now:Int}(hn:aI now)(u:3<=c.st->1<=c.una):SI k (c.push now).1/\(∀x∈(c.push now).2,GS k x)/\(c.push now).1.una=c.una:=by
 unfold Cn.push;split
 ·exact⟨h,Cn.Ok.all_nil,rfl⟩
 dsimp only
 have key:∀a:Cn×List Sg,a.1.Ok->SI k a.1->(∀x∈a.2,GS k x)->a.1.una=c.una->SI k ((a.1.pushA a.2).1.pushT now)/\(∀x∈(a.1.pushA a.2).2,GS k x)/\((a.1.pushA a.2).1.pushT now).una=c.una:=by
  intro a h0 h1 h2 h3;obtain⟨p1,p2,p3⟩:=h1.pushA h0 a.2 h2;obtain⟨q1,q2⟩:=p1.pushT now;exact⟨q1,p2,q2.trans (p3.trans h3)⟩
 split
 ·rename_i hs;obtain⟨p1,p2,p3⟩:=h.pushD ok hn (u (by unfold eh at hs;have:=of_decide_eq_true hs;omega));exact key _ (ok.pushD hn) p1 p2 p3
 exact key (c,[]) ok h Cn.Ok.all_nil rfl
theorem drop (h:SI k c){a:Int}(ha:a<=max c.una 1):SI k (c.drop a):=by
 have h1:=h.b1;have h2:=h.bu;have hl:=h.len;have hd:0<=eP c.held c.base a/\eP c.held c.base a<=c.held.length/\c.base+eP c.held c.base a<=max c.base a:=by unfold eP;omega
 have el:(c.drop a).last=c.last:=by
  unfold Cn.drop Cn.last;dsimp only;rw[List.length_drop];omega
 refine⟨by unfold Cn.drop;dsimp only;omega,?_,el.trans h.last,by rw[el];exact h.nl,h.sh,?_,h.n1,h.iss,h.sm,h.lim,h.unl,by rw[el];exact h.dat,h.mss,h.room⟩
 ·have key:∀n:Int,0<=n->c.held.drop n.toNat=k.S.drop (c.base+n-1).toNat:=by
   intro n hn;rw[h.held,List.drop_drop]
   congr 1
   omega
  exact key _ hd.1
 show c.base+eP c.held c.base a<=max c.una 1;omega
theorem announce (h:SI k c){a w:Int}(hu:c.una<=a\/c.una<=c.limit)(hw:0<=w)(he:a+w<=1+k.e):SI k (c.announce a w) :=
 ⟨h.b1,h.held,h.last,h.nl,h.sh,h.bu,h.n1,h.iss,h.sm,by have:=h.lim;unfold Cn.announce;dsimp only;omega,fun _=>by(show c.una<=max c.limit (a+w);omega),by have:=h.dat;show min c.next c.last<=max c.limit (a+w)+1;omega,h.mss,h.room⟩
theorem acked (h:SI k c)(now:Int)(s:Sg){ack:Int}(h0:0<=ack)(h1:ack<=c.next)(hw:0<=s.win)(he:ack+s.win<=1+k.e):SI k (c.acked now s ack)/\max c.una ack<=(c.acked now s ack).una:=by
 unfold Cn.acked;split
 ·exact⟨h.same _ rfl rfl rfl rfl rfl rfl rfl rfl rfl,by show _<=c.una;omega⟩
 rename_i hx;obtain⟨u1,u2⟩:(c.sc.acked ack (ej c.sacks c.next c.cf.iss s.bl)).una=max c.sc.una ack/\(c.sc.acked ack (ej c.sacks c.next c.cf.iss s.bl)).next=c.sc.next:=nG c.sc h0 h1 (wO c.sc c.sacks c.cf.iss s.bl);have hA:=h.announce (a:=ack) (w:=s.win) (.inl (by omega)) hw he;have hun:c.sc.una=c.una:=rfl;have hnn:c.sc.next=c.next:=rfl;have hr:SI k (({ c.announce ack s.win with tries:=0 }:Cn).report ack s.bl):=hA.onSc (c.sc.acked ack (ej c.sacks c.next c.cf.iss s.bl)) (by show c.sc.una<=_;rw[u1];omega) (by show c.sc.next<=_;rw[u2];exact Int.le_refl _) (by have:=h.nl;rw[u2];exact this) _ rfl rfl rfl rfl rfl rfl rfl rfl (fun _=>by(rw[u1];show _<=max c.limit (ack+s.win);omega)) (by have:=hA.dat;rw[u2];exact this)
 have hu:(({ c.announce ack s.win with tries:=0 }:Cn).report ack s.bl).una=ack:=by
  show(c.sc.acked ack (ej c.sacks c.next c.cf.iss s.bl)).una=ack;rw[u1];omega
 dsimp only
 have h2:SI k ((if c.una<ack then(if 0<ack-max c.una 1 then({ ({ c with tries:=0 }:Cn).report ack s.bl with dl:=ex,tm:=(({ c with tries:=0 }:Cn).report ack s.bl).tm.acked now ack,cg:=(({ c with tries:=0 }:Cn).report ack s.bl).cg.acked (ack-max c.una 1) ack }:Cn)else { ({ c with tries:=0 }:Cn).report ack s.bl with dl:=ex,tm:=(({ c with tries:=0 }:Cn).report ack s.bl).tm.acked now ack }).drop ack else({ c with tries:=0 }:Cn).report ack s.bl).announce ack s.win)/\((if c.una<ack then(if 0<ack-max c.una 1 then({ ({ c with tries:=0 }:Cn).report ack s.bl with dl:=ex,tm:=(({ c with tries:=0 }:Cn).report ack s.bl).tm.acked now ack,cg:=(({ c with tries:=0 }:Cn).report ack s.bl).cg.acked (ack-max c.una 1) ack }:Cn)else { ({ c with tries:=0 }:Cn).report ack s.bl with dl:=ex,tm:=(({ c with tries:=0 }:Cn).report ack s.bl).tm.acked now ack }).drop ack else({ c with tries:=0 }:Cn).report ack s.bl).announce ack s.win).una=ack:=by
  have hd:ack<=max (({ c.announce ack s.win with tries:=0 }:Cn).report ack s.bl).una 1:=by omega
  split
  ·split
   ·exact⟨(hr.same { ({ c.announce ack s.win with tries:=0 }:Cn).report ack s.bl with dl:=ex,tm:=(({ c with tries:=0 }:Cn).report ack s.bl).tm.acked now ack,cg:=(({ c with tries:=0 }:Cn).report ack s.bl).cg.acked (ack-max c.una 1) ack } rfl rfl rfl rfl rfl rfl rfl rfl rfl).drop hd,hu⟩
   exact⟨(hr.same { ({ c.announce ack s.win with tries:=0 }:Cn).report ack s.bl with dl:=ex,tm:=(({ c with tries:=0 }:Cn).report ack s.bl).tm.acked now ack } rfl rfl rfl rfl rfl rfl rfl rfl rfl).drop hd,hu⟩
  exact⟨hr,hu⟩
 generalize (if c.una<ack then(if 0<ack-max c.una 1 then({ ({ c with tries:=0 }:Cn).report ack s.bl with dl:=ex,tm:=(({ c with tries:=0 }:Cn).report ack s.bl).tm.acked now ack,cg:=(({ c with tries:=0 }:Cn).report ack s.bl).cg.acked (ack-max c.una 1) ack }:Cn)else { ({ c with tries:=0 }:Cn).report ack s.bl with dl:=ex,tm:=(({ c with tries:=0 }:Cn).report ack s.bl).tm.acked now ack }).drop ack else({ c with tries:=0 }:Cn).report ack s.bl)=a at h2|-;generalize a.announce ack s.win=b at h2|-;obtain⟨h3,hu3⟩:=h2
 have h4:SI k (if 0<c.repN ack s.bl/\b.mark<=ack/\b.sc.lost b.mss≠[]then { b with cg:=b.cg.lost c.flight b.next }else b)/\(if 0<c.repN ack s.bl/\b.mark<=ack/\b.sc.lost b.mss≠[]then { b with cg:=b.cg.lost c.flight b.next }else b).una=ack:=by
  split
  ·exact⟨h3.same _ rfl rfl rfl rfl rfl rfl rfl rfl rfl,hu3⟩
  exact⟨h3,hu3⟩
 generalize (if 0<c.repN ack s.bl/\b.mark<=ack/\b.sc.lost b.mss≠[]then { b with cg:=b.cg.lost c.flight b.next }else b)=d at h4|-;obtain⟨h4,ad⟩:=h4;have hst:(d.step now 7).una=d.una:=by unfold Cn.step Cn.una;split;rfl;split <;> rfl
 split
 ·exact⟨h4.step now 7,by rw[hst];omega⟩
 exact⟨h4,by omega⟩
end SI
def iY (k:Kx)(s:Sg):Prop:=(s.has=true->s.syn=false->aD s.ak (bt k.iss 1)+s.win<=k.e)/\(s.syn=true->s.win<=k.e)
theorem iY.gw {k k':Kx}{s:Sg}(h:iY k s)(g:Gw k k'):iY k' s:=by
 have he:=g.e;refine⟨fun h1 h2=> ?_,fun h1=>Int.le_trans (h.2 h1) he⟩;rw[g.iss];exact Int.le_trans (h.1 h1 h2) he
theorem SI.gw {k k':Kx}{c:Cn}(h:SI k c)(g:Gw k k')(hl:k'.S.length<=1000)(eS:k'.S=k.S)(ec:k'.cl=k.cl):SI k' c:=by
 have he:=g.e;exact⟨h.b1,by rw[eS];exact h.held,by rw[eS];exact h.last,h.nl,by rw[ec];exact h.sh,h.bu,h.n1,by rw[g.iss];exact h.iss,hl,by have:=h.lim;omega,h.unl,h.dat,by rw[g.m];exact h.mss,by rw[g.r];exact h.room⟩
theorem iY.ack {k:Kx}{s:Sg}(h:iY k s)(h1:s.has=true)(h2:s.syn=false)(h0:0<=aD s.ak k.iss):aD s.ak k.iss+s.win<=1+k.e:=by
 have h3:=h.1 h1 h2;have h4:aD s.ak (bt k.iss 1)=aD s.ak k.iss-1:=by unfold aD bt at *;omega
 omega
end
inductive Rs (cl:Bool):Int->Int->Prop where
 | refl (a:Int):Rs cl a a
 | step {a b c:Int} (e:Int):Rs cl a b->b≠0->(e=5->cl=true)->jC b e=some c->Rs cl a c
theorem Rs.trans {cl:Bool}{a b c:Int}(h:Rs cl a b)(k:Rs cl b c):Rs cl a c:=by
 induction k with
 | refl=>exact h
 | step e _ h0 h5 hs ih=>exact .step e ih h0 h5 hs
theorem Rs.cl {a b:Int}(h:Rs false a b):Rs true a b:=by
 induction h with
 | refl=>exact .refl _
 | step e _ h0 h5 hs ih=>exact .step e ih h0 (fun _=>rfl) hs
theorem Cn.step_shut (c:Cn)(now e:Int):(c.step now e).shut=c.shut:=by
 unfold Cn.step;split
 ·rfl
 split <;> rfl
theorem Cn.step_st (c:Cn)(now e:Int):(c.step now e).st=(match jC c.st e with | none=>c.st | some n=>n):=by
 unfold Cn.step;split
 ·rename_i hx;rw[hx]
 rename_i n hx;rw[hx];split <;> rfl
structure Mv (c d:Cn):Prop where
 rs:Rs c.shut c.st d.st
 sh:d.shut=c.shut
theorem Mv.refl (c:Cn):Mv c c:=⟨.refl _,rfl⟩
theorem Mv.same (c d:Cn)(h1:d.st=c.st)(h2:d.shut=c.shut):Mv c d:=⟨by rw[h1];exact .refl _,h2⟩
theorem Mv.trans {c d e:Cn}(h:Mv c d)(k:Mv d e):Mv c e:=⟨h.rs.trans (by have:=k.rs;rwa [h.sh]at this),k.sh.trans h.sh⟩
theorem Mv.step (c:Cn)(now e:Int)(h:c.st≠0\/(3<=e/\e<=7))(h5:e=5->c.shut=true):Mv c (c.step now e):=by
 refine⟨?_,Cn.step_shut c now e⟩;rw[Cn.step_st]
 cases hx:jC c.st e with
 | none=>exact .refl _
 | some n =>
  refine .step e (.refl _) ?_ h5 hx
  rcases h with h | h
  ·exact h
  intro h0;unfold jC at hx;rw[if_pos h0,if_neg (by omega),if_neg (by omega)]at hx
  cases hx
theorem jl (c:Cn)(b:Bool):Mv c (c.ackC b):=by unfold Cn.ackC;split <;> exact .same _ _ rfl rfl
theorem qf (c:Cn)(n:Int):Mv c (c.freshC n):=(jl c false).trans (.same _ _ rfl rfl)
theorem sn (c:Cn)(now n:Int):Mv c (c.out now n):=(qf c n).trans (.same _ _ rfl rfl)
theorem sr (n:Nat):∀(c:Cn) (l:List Sg),Mv c (lostL n c l).1:=by
 induction n with
 | zero=>exact fun c l=>.refl c
 | succ n ih =>
  intro c l;unfold lostL;split
  ·split
   ·exact .refl c
   rename_i x _ _;split
   ·exact((jl c false).trans (.same _ ({ c.pieceC with sc:=c.sc.ret (aS c.mss x),tm:=c.tm.retr }:Cn) rfl rfl)).trans (ih _ _)
   exact(jl c false).trans (.same _ _ rfl rfl)
  exact .refl c
theorem ss (now:Int)(n:Nat):∀(c:Cn) (l:List Sg),Mv c (sizeL now n c l).1:=by
 induction n with
 | zero=>exact fun c l=>.refl c
 | succ n ih =>
  intro c l;unfold sizeL;split
  ·exact(sn c now _).trans (ih _ _)
  exact .refl c
theorem su (c:Cn)(now:Int):Mv c (c.pushD now).1:=by
 unfold Cn.pushD;dsimp only;have h1:=sr (c.flight.toNat+1) c [];generalize lostL (c.flight.toNat+1) c []=a at h1|-;have h2:=h1.trans (ss now (a.1.unsent.toNat+1) a.1 a.2);generalize sizeL now (a.1.unsent.toNat+1) a.1 a.2=b at h2|-;unfold finL;split
 ·exact h2.trans (sn _ _ _)
 exact h2
theorem nH (c:Cn)(l:List Sg):Mv c (c.pushA l).1:=by
 unfold Cn.pushA;split
 ·exact jl c false
 exact .refl c
theorem nI (c:Cn)(now:Int):Mv c (c.pushT now):=by
 unfold Cn.pushT;split
 ·exact .same _ _ rfl rfl
 split
 ·exact .refl c
 exact .same _ _ rfl rfl
theorem jm (c:Cn)(now:Int):Mv c (c.push now).1:=by
 unfold Cn.push;split
 ·exact .refl c
 dsimp only;split
 ·exact((su c now).trans (nH _ _)).trans (nI _ _)
 exact(nH _ _).trans (nI _ _)
theorem nJ (c:Cn)(now:Int):Rs true c.st (c.close now).1.st/\(c.closeE=0->(c.close now).1.shut=true)/\(c.closeE≠0->(c.close now).1=c):=by
 unfold Cn.close Cn.closeE;by_cases hx:c.st=0\/c.shut=true
 ·rw[if_pos hx,if_pos hx];exact⟨.refl _,fun h=>absurd h (by decide),fun _=>rfl⟩
 have h0:c.st≠0:=fun e=>hx (.inl e);rw[if_neg hx,if_neg hx];refine⟨?_,fun _=> ?_,fun h=>absurd rfl h⟩
 ·dsimp only;split
  ·have:=(Mv.step { c with shut:=true } now 5 (.inl h0) (fun _=>rfl)).rs;exact this
  split
  ·exact(jm { c with shut:=true } now).rs
  exact((Mv.step { c with shut:=true } now 5 (.inl h0) (fun _=>rfl)).trans (jm _ _)).rs
 dsimp only;split
 ·exact Cn.step_shut _ _ _
 split
 ·exact(jm { c with shut:=true } now).sh
 exact(jm _ now).sh.trans (Cn.step_shut _ _ _)
structure Sh (c:Cn):Prop where
 bd:0<=c.st/\c.st<=9
 op:c.shut=false->c.st=0\/c.st=1\/c.st=2\/c.st=3\/c.st=6
 one:c.st=1->c.shut=false
def behind (cl:Bool)(a:Nat):List Int :=
 match cl,a with
 | _,0=>[0]
 | false,1=>[1,0,2,3,6]
 | false,2=>[2,0,3,6]
 | false,3=>[3,0,6]
 | false,6=>[6,0]
 | _,_=>[0,1,2,3,4,5,6,7,8,9]
def om:Nat->Int->Int->Int
 | 0,a,b=>if a=b then 0 else 9
 | n+1,a,b=>if a=b then 0 else
  ([1,2,3,4,5,6,7,8,9]:List Int).foldl (fun aF e=>match jC a e with
   | some s=>if s≠a then min aF (1+om n s b)else aF
   | none=>aF) 9
theorem sv {a:Int}(h:0<=a/\a<=9):a∈([0,1,2,3,4,5,6,7,8,9]:List Int):=by
 have:a=0\/a=1\/a=2\/a=3\/a=4\/a=5\/a=6\/a=7\/a=8\/a=9:=by omega
 simpa using this
def xL:List Int:=[1,2,3,4,5,6,7,8,9]
def xM:List Int:=[0,1,2,3,4,5,6,7,8,9]
theorem oo {a e c:Int}(h:jC a e=some c):e∈xL:=by
 have:1<=e/\e<=9:=by
  unfold jC at h
  (repeat' split at h) <;> first | (cases h;done) | omega
 have:e=1\/e=2\/e=3\/e=4\/e=5\/e=6\/e=7\/e=8\/e=9:=by omega
 unfold xL
 simpa using this
def vA (a b:Int):Bool:=decide (om 3 a b<=3)
def nK (a:Int):List Int :=
 if a=0 then [0]else if a=2 then [0,2,3,4,5,6,7,8,9]else if a=3 then [0,3,4,5,6,7,8,9]else if a=4 then [0,4,5,7,9]else if a=5 then [0,5,9]
 else if a=6 then [0,6,8]else if a=7 then [0,7,9]else if a=8 then [0,8]else [0,9]
theorem sw:∀a∈xM,a≠1->∀b∈nK a,b≠0->∀e∈xL,(match jC b e with | some c=>decide (c∈nK a) | none=>true)=true:=by decide +kernel
theorem sx:∀a∈xM,a≠1->∀b∈nK a,vA a b=true:=by decide +kernel
theorem qg:∀a∈xM,a≠1->a∈nK a:=by decide +kernel
theorem jn:∀b∈([0,1,2,3,6]:List Int),vA 1 b=true/\(b≠0->∀e∈xL,e≠5->(match jC b e with | some c=>decide (c∈([0,1,2,3,6]:List Int)) | none=>true)=true)/\(match jC b 5 with | some c=>vA 1 c | none=>true)=true:=by decide +kernel
theorem Rs.bd {cl:Bool}{a b:Int}(h:Rs cl a b)(ha:0<=a/\a<=9):0<=b/\b<=9:=by
 induction h with
 | refl=>exact ha
 | step e _ _ _ hs _=>exact oe hs
theorem vB:∀b∈xM,b≠0->∀e∈xL,jC b e≠some 1:=by decide +kernel
theorem sy:∀b∈xM,jC b 5≠some 1:=by decide +kernel
theorem Rs.closed {cl:Bool}{a b:Int}(h:Rs cl a b)(h0:a=0):b=0:=by
 induction h with
 | refl=>exact h0
 | step e hp hb _ _ ih=>exact absurd ih hb
theorem Rs.near {cl:Bool}{a b:Int}(h:Rs cl a b)(ha:0<=a/\a<=9)(h1:a≠1):b∈nK a:=by
 induction h with
 | refl=>exact qg a (sv ha) h1
 | step e hp h0 _ hs ih =>
  have:=sw a (sv ha) h1 _ ih h0 e (oo hs);rw[hs]at this;exact of_decide_eq_true this
theorem Rs.far {cl:Bool}{a b:Int}(h:Rs cl a b)(ha:0<=a/\a<=9)(h1:a≠1):vA a b=true:=sx a (sv ha) h1 b (h.near ha h1)
theorem Rs.one {a b:Int}(h:Rs false a b)(ha:a=1):b∈([0,1,2,3,6]:List Int):=by
 induction h with
 | refl=>subst ha;decide
 | step e hp h0 h5 hs ih =>
  have:=(jn _ ih).2.1 h0 e (oo hs) (fun h=>by have:=h5 h;cases this);rw[hs]at this;exact of_decide_eq_true this
theorem fV (c:Cn)(b:Bool):(c.ackC b).st=c.st/\(c.ackC b).shut=c.shut:=by unfold Cn.ackC;split <;> exact⟨rfl,rfl⟩
theorem sz (n:Nat):∀(c:Cn) (l:List Sg),(lostL n c l).1.st=c.st:=by
 induction n with
 | zero=>exact fun c l=>rfl
 | succ n ih =>
  intro c l;unfold lostL;split
  ·split
   ·rfl
   split
   ·rw[ih];exact(fV c false).1
   exact(fV c false).1
  rfl
theorem tA (now:Int)(n:Nat):∀(c:Cn) (l:List Sg),(sizeL now n c l).1.st=c.st:=by
 induction n with
 | zero=>exact fun c l=>rfl
 | succ n ih =>
  intro c l;unfold sizeL;split
  ·rw[ih];exact(fV c false).1
  rfl
theorem fW (c:Cn)(now:Int):(c.push now).1.st=c.st:=by
 unfold Cn.push;split
 ·rfl
 dsimp only
 have key:∀a:Cn×List Sg,a.1.st=c.st->((a.1.pushA a.2).1.pushT now).st=c.st:=by
  intro a ha
  have h1:(a.1.pushA a.2).1.st=a.1.st:=by
   unfold Cn.pushA;split
   ·exact(fV _ false).1
   rfl
  have h2:∀d:Cn,(d.pushT now).st=d.st:=by
   intro d;unfold Cn.pushT;split
   ·rfl
   split <;> rfl
  rw[h2,h1,ha]
 split
 ·refine key _ ?_;unfold Cn.pushD;dsimp only
  have h3:∀(d:Cn) (l:List Sg),(finL now d l).1.st=d.st:=by
   intro d l;unfold finL;split
   ·exact(fV d false).1
   rfl
  rw[h3,tA,sz]
 exact key (c,[]) rfl
theorem lO (c:Cn)(now:Int):(c.close now).1.st=c.st\/jC c.st 5=some (c.close now).1.st:=by
 unfold Cn.close;split
 ·exact .inl rfl
 dsimp only
 have key:(Cn.step { c with shut:=true } now 5).st=c.st\/jC c.st 5=some (Cn.step { c with shut:=true } now 5).st:=by
  rw[Cn.step_st];dsimp only
  cases jC c.st 5 with
  | none=>exact .inl rfl
  | some n=>exact .inr rfl
 split
 ·exact key
 split
 ·rw[fW];exact .inl rfl
 rw[fW];exact key
def xr (c d:Cn):Prop:=∃e,Mv c e/\(Mv e d\/∃now,d=(e.close now).1)
def xN (c:Cn):Prop:=(0<=c.st/\c.st<=9)/\(c.st=1->c.shut=false)
theorem Mv.sh1 {c d:Cn}(h:Mv c d)(k:xN c):xN d:=by
 refine⟨h.rs.bd k.1,fun h1=> ?_⟩;rw[h.sh]
 have key:∀{cl:Bool} {a b:Int},Rs cl a b->(0<=a/\a<=9)->b=1->a=1:=by
  intro cl a b hr ha
  induction hr with
  | refl=>exact fun h=>h
  | step e hp h0 _ hs ih =>
   intro hb;subst hb;exact absurd hs (vB _ (sv (hp.bd ha)) h0 e (oo hs))
 have h2:=key h.rs k.1 h1;exact k.2 h2
theorem xr.far {c d:Cn}(h:xr c d)(k:xN c):om 3 c.st d.st<=3/\(c.st=0->d.st=0)/\xN d:=by
 obtain⟨e,h1,h2⟩:=h;have ke:=h1.sh1 k
 have hd:xN d:=by
  rcases h2 with h2 | ⟨now,rfl⟩
  ·exact h2.sh1 ke
  obtain⟨c1,c2,c3⟩:=nJ e now;refine⟨c1.bd ke.1,fun hs=> ?_⟩;by_cases hz:e.closeE=0
  ·exfalso
   rcases lO e now with h3 | h3
   ·rw[h3]at hs;unfold Cn.close at h3;have hsh:=ke.2 hs;rw[if_neg (fun hh=>by unfold Cn.closeE at hz;rw[if_pos hh]at hz;exact absurd hz (by decide))]at h3;dsimp only at h3;rw[if_pos hs]at h3;unfold Cn.finish at h3;dsimp only at h3;rw[Cn.step_st]at h3;dsimp only at h3;rw[hs]at h3;exact absurd h3 (by decide)
   rw[hs]at h3;exact sy _ (sv ke.1) h3
  rw[c3 hz]at hs|-;exact ke.2 hs
 have hrs:Rs true c.st d.st:=by
  have a1:Rs true c.st e.st:=by
   cases hq:c.shut with
   | false=>have:=h1.rs;rw[hq]at this;exact this.cl
   | true=>have:=h1.rs;rw[hq]at this;exact this
  rcases h2 with h2 | ⟨now,rfl⟩
  ·refine a1.trans ?_
   cases hq:e.shut with
   | false=>have:=h2.rs;rw[hq]at this;exact this.cl
   | true=>have:=h2.rs;rw[hq]at this;exact this
  exact a1.trans (nJ e now).1
 refine⟨?_,fun h0=>hrs.closed h0,hd⟩;by_cases hc1:c.st=1
 ·have hs:=k.2 hc1;have r1:=h1.rs;rw[hs,hc1]at r1;have m1:=r1.one rfl;rw[hc1]
  rcases h2 with h2 | ⟨now,rfl⟩
  ·have r2:=h2.rs;rw[h1.sh,hs]at r2;exact of_decide_eq_true (jn _ ((r1.trans r2).one rfl)).1
  rcases lO e now with h3 | h3
  ·rw[h3];exact of_decide_eq_true (jn _ m1).1
  have:=(jn _ m1).2.2;rw[h3]at this;exact of_decide_eq_true this
 exact of_decide_eq_true (hrs.far k.1 hc1)
section
def U1 (c:Cn):Prop:=3<=c.st->1<=c.una
def iC (k:Kx)(r:Cn×List Sg):Prop:=SI k r.1/\(∀x∈r.2,GS k x)/\U1 r.1
theorem mI (c:Cn)(now e:Int):(c.step now e).una=c.una:=by unfold Cn.step Cn.una;split;rfl;split <;> rfl
theorem dM (c:Cn)(now er:Int){e:Int}(he:e=8\/e=9):(c.finish now e er).st=0:=by
 show(c.step now e).st=0;rw[Cn.step_st];unfold jC;by_cases h0:c.st=0
 ·rw[if_pos h0]
  rcases he with rfl | rfl <;> exact h0
 rw[if_neg h0,if_pos he]
theorem U1.zero {c:Cn}(h:c.st=0):U1 c:=fun h3=>by omega
theorem nL (c:Cn)(now:Int)(s:Sg)(off:Int):(c.store now s off).sc=c.sc:=by
 unfold Cn.store;split
 ·rfl
 split
 ·split
  ·unfold Cn.ackSoon;split <;> rfl
  rfl
 rfl
theorem pg (c:Cn)(now:Int)(s:Sg)(off:Int):(c.finS now s off).una=c.una:=by
 unfold Cn.finS;dsimp only;have h1:(if s.fin=true/\ao c.st=true/\c.ended=false/\c.bx.nx<=off+s.s.length then { c with ended:=true,fend:=off+s.s.length }else c).una=c.una:=by split <;> rfl
 generalize (if s.fin=true/\ao c.st=true/\c.ended=false/\c.bx.nx<=off+s.s.length then { c with ended:=true,fend:=off+s.s.length }else c)=d at h1|-;split
 ·rw[<-h1];exact mI { d with over:=true } now 6
 exact h1
namespace SI
variable {k : Kx} {c d : Cn}
theorem ackNow (h:SI k c):SI k c.ackNow:=h.same _ rfl rfl rfl rfl rfl rfl rfl rfl rfl
theorem ackSoon (h:SI k c)(now:Int):SI k (c.ackSoon now):=by unfold Cn.ackSoon;split <;> exact h.same _ rfl rfl rfl rfl rfl rfl rfl rfl rfl
theorem insert (h:SI k c)(off:Int)(s:List UInt8):SI k (c.insert off s):=h.same _ rfl rfl rfl rfl rfl rfl rfl rfl rfl
theorem store (h:SI k c)(now:Int)(s:Sg)(off:Int):SI k (c.store now s off):=by
 unfold Cn.store;split
 ·exact h
 split
 ·split
  ·exact(h.insert _ _).ackSoon now
  exact(h.insert _ _).ackNow
 exact h.ackNow
theorem finS (h:SI k c)(now:Int)(s:Sg)(off:Int):SI k (c.finS now s off):=by
 unfold Cn.finS;dsimp only
 have h1:SI k (if s.fin=true/\ao c.st=true/\c.ended=false/\c.bx.nx<=off+s.s.length then { c with ended:=true,fend:=off+s.s.length }else c):=by
  split
  ·exact h.same _ rfl rfl rfl rfl rfl rfl rfl rfl rfl
  exact h
 generalize (if s.fin=true/\ao c.st=true/\c.ended=false/\c.bx.nx<=off+s.s.length then { c with ended:=true,fend:=off+s.s.length }else c)=d at h1|-;split
 ·exact((h1.same { d with over:=true } rfl rfl rfl rfl rfl rfl rfl rfl rfl).step now 6).ackNow
 exact h1
theorem push3 (h:SI k c)(ok:c.Ok){now:Int}(hn:aI now)(u:U1 c):iC k (c.push now):=by
 obtain⟨h1,h2,h3⟩:=h.push ok hn u;exact⟨h1,h2,fun hs=>by rw[h3];rw[fW]at hs;exact u hs⟩
theorem tail (h:SI k c)(ok:c.Ok){now:Int}(hn:aI now){s:Sg}(hs:s.Ok){off ack:Int}(ho: -2147483648<=off/\off<=2147483647)(h0:0<=ack)(h1:ack<=c.next)(ha:ack<=2147483647)(hu:1<=max c.una ack)(he:ack+s.win<=1+k.e) :
  iC k ((((c.acked now s ack).store now s off).finS now s off).push now):=by
 obtain⟨a1,a2⟩:=h.acked now s h0 h1 hs.win.1 he;refine SI.push3 (SI.finS (SI.store a1 now s off) now s off) (ok.tail hn hs ho ha) hn (fun _=> ?_);rw[pg];show 1<=((c.acked now s ack).store now s off).sc.una;rw[nL];show 1<=(c.acked now s ack).una;omega
theorem process (h:SI k c)(ok:c.Ok){now:Int}(hn:aI now){s:Sg}(hs:s.Ok){off:Int}(ho: -2147483648<=off/\off<=2147483647)(u:U1 c)(h3:2<=c.st)(ht:iY k s)(hh:s.has=true)(hy:s.syn=false):iC k (c.process now s off):=by
 have hti:=h.iss;have hd:=bH s.ak c.cf.iss;have hun:=ok.una;unfold Cn.process;dsimp only;split
 ·rename_i h2;have htr:=ok.tr2 (by omega);split
  ·exact⟨h,Cn.Ok.one_sg (h.reset ok _),u⟩
  rename_i hx;have k1:=ok.step hn htr 4;have n1:∀e,(c.step now e).next=c.next:=fun e=>by unfold Cn.step Cn.next;split;rfl;split <;> rfl
  split
  ·refine SI.tail ((h.step now 4).step now 5) (k1.step hn (by rw[Cn.step_tries];exact htr) 5) hn hs ho (by omega) ?_ hd.2 (by omega) (by rw[hti];exact ht.ack hh hy (by rw[<-hti];omega))
   have:((c.step now 4).step now 5).next=(c.step now 4).next:=by
    show(Cn.step (c.step now 4) now 5).sc.next=(c.step now 4).sc.next;generalize c.step now 4=d;unfold Cn.step;split
    ·rfl
    split <;> rfl
   rw[this,n1];omega
  exact SI.tail (h.step now 4) k1 hn hs ho (by omega) (by rw[n1];omega) hd.2 (by omega) (by rw[hti];exact ht.ack hh hy (by rw[<-hti];omega))
 rename_i h2;split
 ·exact h.ackNow.push3 ok.ackNow hn u
 have hu:=u (by omega);by_cases hlt:aD s.ak c.cf.iss<0
 ·have e:c.acked now s (aD s.ak c.cf.iss)={ c with tries:=0 }:=by unfold Cn.acked;rw[if_pos (by omega)]
  have k0:=ok.tail hn hs ho hd.2;rw[e]at k0|-;refine SI.push3 (SI.finS (SI.store (h.same { c with tries:=0 } rfl rfl rfl rfl rfl rfl rfl rfl rfl) now s off) now s off) k0 hn (fun _=> ?_);rw[pg];show 1<=(Cn.store { c with tries:=0 } now s off).sc.una;rw[nL];exact hu
 exact h.tail ok hn hs ho (by omega) (by omega) hd.2 (by omega) (by rw[hti];exact ht.ack hh hy (by rw[<-hti];omega))
theorem stray (h:SI k c)(ok:c.Ok){now:Int}(hn:aI now){s:Sg}(hs:s.Ok)(u:U1 c)(ht:iY k s):iC k (c.stray now s):=by
 have hti:=h.iss;have hd:=bH s.ak c.cf.iss;have hun:=ok.una;unfold Cn.stray;dsimp only
 have h1:Cn.Ok (if cA c.st=true/\s.has=true/\s.syn=false/\c.una<=aD s.ak c.cf.iss/\aD s.ak c.cf.iss<=c.next then c.acked now s (aD s.ak c.cf.iss)else c)/\SI k (if cA c.st=true/\s.has=true/\s.syn=false/\c.una<=aD s.ak c.cf.iss/\aD s.ak c.cf.iss<=c.next then c.acked now s (aD s.ak c.cf.iss)else c)/\U1 (if cA c.st=true/\s.has=true/\s.syn=false/\c.una<=aD s.ak c.cf.iss/\aD s.ak c.cf.iss<=c.next then c.acked now s (aD s.ak c.cf.iss)else c):=by
  split
  ·rename_i hx;have h3:3<=c.st:=by have:=hx.1;unfold cA at this;have:=of_decide_eq_true this;omega
   have hu:=u h3;obtain⟨a1,a2⟩:=h.acked now s (ack:=aD s.ak c.cf.iss) (by omega) hx.2.2.2.2 hs.win.1 (by rw[hti];exact ht.ack hx.2.1 hx.2.2.1 (by rw[<-hti];omega));exact⟨(ok.acked hn hs (by omega)).1,a1,fun _=>by omega⟩
  exact⟨ok,h,u⟩
 generalize (if cA c.st=true/\s.has=true/\s.syn=false/\c.una<=aD s.ak c.cf.iss/\aD s.ak c.cf.iss<=c.next then c.acked now s (aD s.ak c.cf.iss)else c)=a at h1|-;obtain⟨k1,k2,k3⟩:=h1
 have h2:Cn.Ok (if a.st=9/\s.fin=true then { a with per:=.aft now 60 }else a)/\SI k (if a.st=9/\s.fin=true then { a with per:=.aft now 60 }else a)/\U1 (if a.st=9/\s.fin=true then { a with per:=.aft now 60 }else a):=by
  split
  ·exact⟨{ k1 with per:=Al.aft_ok hn (by decide) (by decide) },k2.same _ rfl rfl rfl rfl rfl rfl rfl rfl rfl,k3⟩
  exact⟨k1,k2,k3⟩
 generalize (if a.st=9/\s.fin=true then { a with per:=.aft now 60 }else a)=b at h2|-;obtain⟨k1,k2,k3⟩:=h2;split
 ·exact k2.ackNow.push3 k1.ackNow hn k3
 exact k2.push3 k1 hn k3
theorem meet (h:SI k c){s:Sg}(hs:s.Ok)(hy:s.syn=true)(ht:iY k s):SI k (c.meet s):=by
 have h1:=h.announce (a:=1) (w:=s.win) (by have:=h.unl;rcases(show c.una<=1\/1<=c.una by omega)with g | g;exact .inl g;exact .inr (this g)) hs.win.1 (by have:=ht.2 hy;omega);have hm:=h.mss;have key:SI k { c.announce 1 s.win with irs:=s.sq,sacks:=s.sacks }:=h1.same _ rfl rfl rfl rfl rfl rfl rfl rfl rfl;exact⟨key.b1,key.held,key.last,key.nl,key.sh,key.bu,key.n1,key.iss,key.sm,key.lim,key.unl,key.dat,by show min c.mss _<=k.m;omega,key.room⟩
theorem greet (h:SI k c)(ok:c.Ok){now:Int}(hn:aI now){s:Sg}(hs:s.Ok)(h1:c.st=1)(ht:iY k s):iC k (c.greet now s):=by
 have hu:U1 c:=fun h3=>by omega
 have hun:=ok.una;unfold Cn.greet;split
 ·split
  ·exact⟨h,Cn.Ok.all_nil,hu⟩
  exact⟨h,Cn.Ok.one_sg (h.reset ok _),hu⟩
 split
 ·exact⟨h.finish _ _ _,Cn.Ok.all_nil,.zero (dM c now _ (.inl rfl))⟩
 split
 ·exact⟨h,Cn.Ok.all_nil,hu⟩
 rename_i hy;have hy:s.syn=true:=by simpa using hy
 have hm:=(ok.meet hs hy).tries0;have hd:SI k { c.meet s with tries:=0 }:=(h.meet hs hy ht).same _ rfl rfl rfl rfl rfl rfl rfl rfl rfl;have hst:(c.meet s).st=1:=h1;dsimp only;split
 ·have e:(Cn.step { c.meet s with tries:=0 } now 2).st=2:=by
   rw[Cn.step_st];show(match jC (c.meet s).st 2 with | none=>(c.meet s).st | some n=>n)=2;rw[hst];rfl
  have e2:∀x:Cn,x.synC.st=x.st:=fun x=>by unfold Cn.synC;split <;> rfl
  exact⟨(hd.step now 2).synC,Cn.Ok.one_sg ((hd.step now 2).syn (hm.step hn (by show(0:Int)<=12;decide) 2)),fun h3=>by rw[e2,e]at h3;omega⟩
 obtain⟨u1,u2⟩:=nG (c.meet s).sc (a:=1) (by decide) (by show 1<=c.next;exact h.n1) (l:=[]) (fun x hx=>nomatch hx)
 have hA:SI k { ({ c.meet s with tries:=0 }:Cn)with sc:=(c.meet s).sc.acked 1 [],tm:=(c.meet s).tm.acked now 1 } :=
  hd.onSc ((c.meet s).sc.acked 1 []) (by show c.sc.una<=_;rw[u1];show c.sc.una<=max c.sc.una 1;omega) (by show c.sc.next<=_;rw[u2];exact Int.le_refl _) (by rw[u2];exact h.nl) _ rfl rfl rfl rfl rfl rfl rfl rfl (fun _=>by(rw[u1];have:=hd.lim;have h5:(c.meet s).limit=max c.limit (1+s.win):=rfl;have:=hs.win;have:=h.unl;show max c.sc.una 1<=(c.meet s).limit;have h6:c.sc.una=c.una:=rfl;omega)) (by rw[u2];exact hd.dat)
 refine SI.push3 (((hA.step now 3).same _ rfl rfl rfl rfl rfl rfl rfl rfl rfl:SI k { Cn.step { ({ c.meet s with tries:=0 }:Cn)with sc:=(c.meet s).sc.acked 1 [],tm:=(c.meet s).tm.acked now 1 } now 3 with dl:=ex }).ackNow) (Cn.Ok.onDl (Cn.Ok.step ((hm.onSc (hm.sc.acked 1 [])).onTm (Tm.acked_fit hm.tm now 1)) hn (by show(0:Int)<=12;decide) 3) eE).ackNow hn (fun _=> ?_);show 1<=(Cn.step { ({ c.meet s with tries:=0 }:Cn)with sc:=(c.meet s).sc.acked 1 [],tm:=(c.meet s).tm.acked now 1 } now 3).una;rw[mI];show 1<=((c.meet s).sc.acked 1 []).una;rw[u1];show 1<=max c.sc.una 1;omega
theorem receive (h:SI k c)(ok:c.Ok){now:Int}(hn:aI now){s:Sg}(hs:s.Ok)(u:U1 c)(ht:iY k s):iC k (c.receive now s):=by
 have ho:=bH s.sq (bt c.irs 1);unfold Cn.receive;split
 ·exact⟨h,Cn.Ok.all_nil,u⟩
 rename_i h0;split
 ·exact⟨h,Cn.Ok.all_nil,u⟩
 split
 ·rename_i h1;exact h.greet ok hn hs h1 ht
 rename_i h1;have hst:=ok.st;unfold Cn.recvOk;dsimp only;split
 ·exact⟨h.finish _ _ _,Cn.Ok.all_nil,.zero (dM c now _ (.inl rfl))⟩
 split
 ·exact⟨h,Cn.Ok.all_nil,u⟩
 split
 ·exact h.stray ok hn hs u ht
 split
 ·exact h.ackNow.push3 ok.ackNow hn u
 split
 ·exact⟨h,Cn.Ok.all_nil,u⟩
 rename_i hrs hh;exact h.process ok hn hs ho u (by omega) ht (by simpa using hh) (by cases hq:s.syn with | false=>rfl | true=>exact absurd (.inr hq) hrs)
theorem tickEnd (h:SI k c)(ok:c.Ok){now:Int}(hn:aI now)(u:U1 c)(l:List Sg)(hl:∀x∈l,GS k x):iC k (c.tickEnd now l):=by
 have key:∀{d:Cn},iC k (d.push now)->iC k ((d.push now).1,l++(d.push now).2):=fun k=>⟨k.1,fun x hx=>by
  rcases List.mem_append.1 hx with hx | hx
  ·exact hl x hx
  exact k.2.1 x hx,k.2.2⟩
 unfold Cn.tickEnd;dsimp only;split
 ·exact key (h.ackNow.push3 ok.ackNow hn u)
 exact key (h.push3 ok hn u)
theorem expire (h:SI k c)(ok:c.Ok)(u:U1 c)(h3:3<=c.st):iC k c.expire:=by
 have hun:=ok.una;unfold Cn.expire;split
 ·exact⟨h.same _ rfl rfl rfl rfl rfl rfl rfl rfl rfl,Cn.Ok.all_nil,u⟩
 split
 ·exact⟨h,Cn.Ok.all_nil,u⟩
 rename_i h0;have hm:=ok.mss;rename_i hfl;have hx:c.unsent=max 0 (c.last-c.next):=rfl;have hf:c.flight=c.next-c.una:=rfl;have a9:=h.unl (u h3);obtain⟨o1,o2,o3⟩:=h.out ok 0 (n:=max 1 (min (min c.mss (c.limit-c.next)) c.unsent)) (by omega) (by omega) (by omega) (by omega);refine⟨o1.same _ rfl rfl rfl rfl rfl rfl rfl rfl rfl,Cn.Ok.one_sg o3,fun h3=> ?_⟩;have hst:(c.freshC (max 1 (min (min c.mss (c.limit-c.next)) c.unsent))).st=c.st:=(fV c false).1;rw[hst]at h3;have e:(c.freshC (max 1 (min (min c.mss (c.limit-c.next)) c.unsent))).una=c.una:=o2;rw[e];exact u h3
theorem tick (h:SI k c)(ok:c.Ok){now:Int}(hn:aI now)(u:U1 c):iC k (c.tick now):=by
 unfold Cn.tick;split
 ·exact⟨h,Cn.Ok.all_nil,u⟩
 rename_i h0;have ht:=ok.tr2 h0;split
 ·exact⟨h.finish _ _ _,Cn.Ok.all_nil,.zero (dM c now _ (.inr rfl))⟩
 split
 ·dsimp only;split
  ·exact⟨(h.same { c with tries:=c.tries+1 } rfl rfl rfl rfl rfl rfl rfl rfl rfl).finish _ _ _,Cn.Ok.all_nil,.zero (dM _ now _ (.inr rfl))⟩
  rename_i hx
  have hv:0<=c.tm.retr.backoff.value/\c.tm.retr.backoff.value<=1000:=by
   have h1:=c.tm.retr.backoff.base_bd;have h2:(0:Int)<=c.tm.retr.backoff.base*2 ^ c.tm.retr.backoff.backs.toNat:=Int.mul_nonneg (by omega) (Int.pow_nonneg (by decide));unfold Tm.value;omega
  have he:Cn.Ok { c with tries:=c.tries+1,tm:=c.tm.retr.backoff,dl:=.aft now c.tm.retr.backoff.value } :=
   { ok with tr:=by have:=ok.tr;dsimp only;omega,tr2:=fun _=>by dsimp only;omega,tm:=Tm.backoff_fit (Tm.retr_fit ok.tm),dl:=Al.aft_ok hn hv.1 hv.2 }
  have hi:SI k { c with tries:=c.tries+1,tm:=c.tm.retr.backoff,dl:=.aft now c.tm.retr.backoff.value }:=h.same _ rfl rfl rfl rfl rfl rfl rfl rfl rfl;split
  ·rename_i hsy;obtain⟨e1,e2,e3⟩:=hi.expire he u (by unfold cA at hsy;have:=of_decide_eq_true hsy;exact this.1);exact e1.tickEnd he.expire hn e3 _ e2
  exact⟨hi.synC,Cn.Ok.one_sg (hi.syn he),fun h3=>by
   have e2:∀x:Cn,x.synC.st=x.st/\x.synC.una=x.una:=fun x=>by unfold Cn.synC;split <;> exact⟨rfl,rfl⟩
   rw[(e2 _).2];rw[(e2 _).1]at h3;exact u h3⟩
 exact h.tickEnd ok hn u _ Cn.Ok.all_nil
theorem send (h:SI k c)(ok:c.Ok){now:Int}(hn:aI now)(u:U1 c)(x:List UInt8)(hb:c.last+x.length<=1073741824)(hr:c.refusal=0)(hsm:(k.S++x.take (c.sendN x).toNat).length<=1000):iC { k with S:=k.S++x.take (c.sendN x).toNat } (c.send now x):=by
 unfold Cn.send;rw[if_neg (by omega)]
 have hsh:c.shut=false:=by
  unfold Cn.refusal at hr;split at hr
  ·unfold Cn.failure at hr;split at hr <;> omega
  split at hr
  ·rename_i hx;exact hx.1
  cases hr
 have hl:=h.len;have a7:=h.last;have hb1:=h.b1;have hnl:=h.nl;rw[hsh,if_neg (by decide)]at hnl;have el:Cn.last { c with held:=c.held++x.take (c.sendN x).toNat }=c.last+(x.take (c.sendN x).toNat).length:=by unfold Cn.last;dsimp only;rw[List.length_append];omega
 have a0:=h.dat;have hle:(c.base-1).toNat<=k.S.length:=by omega
 have k:SI { k with S:=k.S++x.take (c.sendN x).toNat } { c with held:=c.held++x.take (c.sendN x).toNat }:=by
  refine⟨hb1,?_,?_,?_,h.sh,h.bu,h.n1,h.iss,hsm,h.lim,h.unl,by rw[el];show min c.next _<=c.limit+1;omega,h.mss,h.room⟩
  ·show c.held++_=_;rw[h.held,List.drop_append_of_le_length hle]
  ·rw[el,List.length_append];omega
  rw[el];show c.next<=_;omega
 refine SI.push3 k { ok with b1:= ?_ } hn u;rw[el,List.length_take];omega
theorem recv (h:SI k c)(ok:c.Ok){now:Int}(hn:aI now)(u:U1 c)(n:Int):iC k (c.recv now n):=by
 have hd:SI k { c with bx:=c.bx.take n }:=h.same _ rfl rfl rfl rfl rfl rfl rfl rfl rfl;unfold Cn.recv;split
 ·exact⟨h,Cn.Ok.all_nil,u⟩
 dsimp only;split
 ·exact⟨hd,Cn.Ok.all_nil,u⟩
 split
 ·exact⟨hd,Cn.Ok.all_nil,u⟩
 exact hd.ackNow.push3 (ok.take n).ackNow hn u
theorem close (h:SI k c)(ok:c.Ok){now:Int}(hn:aI now)(u:U1 c)(he:c.closeE=0):iC { k with cl:=true } (c.close now):=by
 have hx:¬(c.st=0\/c.shut=true):=fun hh=>by unfold Cn.closeE at he;rw[if_pos hh]at he;cases he
 have hs:Cn.Ok { c with shut:=true }:={ ok with };have h0:c.st≠0:=fun e=>hx (.inl e);have hnl:=h.nl;have hd:SI { k with cl:=true } { c with shut:=true }:=⟨h.b1,h.held,h.last,by show c.next<=c.last+_;split at hnl <;> simp <;> omega,fun _=>rfl,h.bu,h.n1,h.iss,h.sm,h.lim,h.unl,h.dat,h.mss,h.room⟩;unfold Cn.close;rw[if_neg hx];dsimp only;split
 ·rename_i h1;refine⟨hd.finish _ _ _,Cn.Ok.all_nil,.zero ?_⟩;show(Cn.step { c with shut:=true } now 5).st=0;rw[Cn.step_st];dsimp only;rw[h1];rfl
 split
 ·exact hd.push3 hs hn u
 rename_i h1 h2;have hst:=ok.st;refine SI.push3 (hd.step now 5) (hs.step hn (ok.tr2 h0) _) hn (fun _=> ?_);rw[mI];exact u (by show 3<=c.st;omega)
end SI
structure Fx (c d:Cn):Prop where
 bx:d.bx=c.bx
 irs:d.irs=c.irs
 ended:d.ended=c.ended
 fend:d.fend=c.fend
theorem Fx.refl (c:Cn):Fx c c:=⟨rfl,rfl,rfl,rfl⟩
theorem Fx.trans {c d e:Cn}(h:Fx c d)(k:Fx d e):Fx c e:=⟨k.bx.trans h.bx,k.irs.trans h.irs,k.ended.trans h.ended,k.fend.trans h.fend⟩
theorem jo (c:Cn)(b:Bool):Fx c (c.ackC b):=by unfold Cn.ackC;split <;> exact⟨rfl,rfl,rfl,rfl⟩
theorem ph (c:Cn):Fx c c.synC:=by unfold Cn.synC;split <;> exact⟨rfl,rfl,rfl,rfl⟩
theorem dQ (c:Cn)(now e:Int):Fx c (c.step now e):=by unfold Cn.step;split;exact .refl c;split <;> exact⟨rfl,rfl,rfl,rfl⟩
theorem fC (c:Cn)(now e er:Int):Fx c (c.finish now e er):=(dQ c now e).trans ⟨rfl,rfl,rfl,rfl⟩
theorem lP (c:Cn)(n:Int):Fx c (c.freshC n):=(jo c false).trans ⟨rfl,rfl,rfl,rfl⟩
theorem tB (c:Cn)(now n:Int):Fx c (c.out now n):=(lP c n).trans ⟨rfl,rfl,rfl,rfl⟩
theorem tC (n:Nat):∀(c:Cn) (l:List Sg),Fx c (lostL n c l).1:=by
 induction n with
 | zero=>exact fun c l=>.refl c
 | succ n ih =>
  intro c l;unfold lostL;split
  ·split
   ·exact .refl c
   split
   ·refine Fx.trans ?_ (ih _ _);exact(jo c false).trans ⟨rfl,rfl,rfl,rfl⟩
   exact(jo c false).trans ⟨rfl,rfl,rfl,rfl⟩
  exact .refl c
theorem tD (now:Int)(n:Nat):∀(c:Cn) (l:List Sg),Fx c (sizeL now n c l).1:=by
 induction n with
 | zero=>exact fun c l=>.refl c
 | succ n ih =>
  intro c l;unfold sizeL;split
  ·exact(tB c now _).trans (ih _ _)
  exact .refl c
theorem vC (now:Int)(c:Cn)(l:List Sg):Fx c (finL now c l).1:=by
 unfold finL;split
 ·exact tB c now 0
 exact .refl c
theorem tE (c:Cn)(now:Int):Fx c (c.pushD now).1:=by
 unfold Cn.pushD;exact((tC _ c []).trans (tD now _ _ _)).trans (vC now _ _)
theorem nM (c:Cn)(l:List Sg):Fx c (c.pushA l).1:=by
 unfold Cn.pushA;split
 ·exact jo c false
 exact .refl c
theorem nN (c:Cn)(now:Int):Fx c (c.pushT now):=by
 unfold Cn.pushT;split
 ·exact⟨rfl,rfl,rfl,rfl⟩
 split <;> exact⟨rfl,rfl,rfl,rfl⟩
theorem cB (c:Cn)(now:Int):Fx c (c.push now).1:=by
 unfold Cn.push;split
 ·exact .refl c
 dsimp only;split
 ·exact((tE c now).trans (nM _ _)).trans (nN _ now)
 exact(nM c _).trans (nN _ now)
theorem iZ (c:Cn)(now:Int)(s:Sg)(ack:Int):Fx c (c.acked now s ack):=by
 unfold Cn.acked;split
 ·exact⟨rfl,rfl,rfl,rfl⟩
 dsimp only
 have h1:Fx c (if c.una<ack then(if 0<ack-max c.una 1 then({ ({ c with tries:=0 }:Cn).report ack s.bl with dl:=ex,tm:=(({ c with tries:=0 }:Cn).report ack s.bl).tm.acked now ack,cg:=(({ c with tries:=0 }:Cn).report ack s.bl).cg.acked (ack-max c.una 1) ack }:Cn)else { ({ c with tries:=0 }:Cn).report ack s.bl with dl:=ex,tm:=(({ c with tries:=0 }:Cn).report ack s.bl).tm.acked now ack }).drop ack else({ c with tries:=0 }:Cn).report ack s.bl):=by
  split
  ·split <;> exact⟨rfl,rfl,rfl,rfl⟩
  exact⟨rfl,rfl,rfl,rfl⟩
 generalize (if c.una<ack then(if 0<ack-max c.una 1 then({ ({ c with tries:=0 }:Cn).report ack s.bl with dl:=ex,tm:=(({ c with tries:=0 }:Cn).report ack s.bl).tm.acked now ack,cg:=(({ c with tries:=0 }:Cn).report ack s.bl).cg.acked (ack-max c.una 1) ack }:Cn)else { ({ c with tries:=0 }:Cn).report ack s.bl with dl:=ex,tm:=(({ c with tries:=0 }:Cn).report ack s.bl).tm.acked now ack }).drop ack else({ c with tries:=0 }:Cn).report ack s.bl)=a at h1|-
 have h2:Fx c (if 0<c.repN ack s.bl/\(a.announce ack s.win).mark<=ack/\(a.announce ack s.win).sc.lost (a.announce ack s.win).mss≠[]then { a.announce ack s.win with cg:=(a.announce ack s.win).cg.lost c.flight (a.announce ack s.win).next }else a.announce ack s.win):=by
  split <;> exact h1.trans ⟨rfl,rfl,rfl,rfl⟩
 generalize (if 0<c.repN ack s.bl/\(a.announce ack s.win).mark<=ack/\(a.announce ack s.win).sc.lost (a.announce ack s.win).mss≠[]then { a.announce ack s.win with cg:=(a.announce ack s.win).cg.lost c.flight (a.announce ack s.win).next }else a.announce ack s.win)=d at h2|-;split
 ·exact h2.trans (dQ d now 7)
 exact h2
structure RB (S:List UInt8)(cl:Bool)(c:Cn)(got:List UInt8):Prop where
 pi:PI S S.length c.bx got
 en:c.ended=true->cl=true/\c.fend=S.length
def Ir (iss:Int)(c:Cn):Prop:=c.st=0\/c.st=1\/c.irs=iss
namespace RB
variable {S S' : List UInt8} {cl cl' : Bool} {iss : Int} {c d : Cn} {got : List UInt8}
theorem fx (h:RB S cl c got)(f:Fx c d):RB S cl d got:=⟨by rw[f.bx];exact h.pi,by rw[f.ended,f.fend];exact h.en⟩
theorem gw (h:RB S cl c got)(g:(S'=S/\(cl=true->cl'=true))\/(cl=false/\∃x,S'=S++x))(hl:S'.length<=1000):RB S' cl' c got:=by
 have hp:=h.pi
 rcases g with⟨rfl,hc⟩ | ⟨rfl,x,rfl⟩
 ·exact⟨hp,fun he=>⟨hc (h.en he).1,(h.en he).2⟩⟩
 have hg:=hp.got_le;refine⟨⟨hp.ok,rfl,hl,fun i hi hh=> ?_,hp.rd,?_,fun i hi=> ?_⟩,fun he=>by have:=(h.en he).1;cases this⟩
 ·rw[hp.str i hi hh,List.getElem?_append_left (by have:=hp.has i hh;omega)]
 ·rw[List.take_append_of_le_length hg];exact hp.got
 have:=hp.has i hi;rw[List.length_append];omega
theorem insert (h:RB S cl c got){x:List UInt8}{o:Nat}(hx:x≠[]->x=(S.drop o).take x.length/\o+x.length<=S.length):RB S cl (c.insert o x) got:=by
 have key:∀y:List UInt8,y≠[]->y=x.take y.length->y.length<=x.length->PI S S.length (c.bx.put (max (o:Int) 0) y) got:=by
  intro y hy e hl
  have hx0:x≠[]:=by
   rintro rfl
   simp at e
   exact hy e
  obtain⟨x1,x2⟩:=hx hx0;rw[show max (o:Int) 0=(o:Int) by omega];refine(h.pi.put (off:=o) (to:=o+y.length) (by omega) (by omega) ?_).1;rw[Nat.add_sub_cancel_left]
  conv=>lhs;rw[e,x1,List.take_take,Nat.min_eq_left hl]
 refine⟨?_,h.en⟩;show PI S S.length (c.insBx o x) got;unfold Cn.insBx;split
 ·exact h.pi
 rename_i hy
 have e:mo c.ended c.fend o x=(if c.ended=true then x.take (min (max (c.fend-o) 0) x.length).toNat else x):=by
  unfold mo;rw[if_neg (show ¬(o:Int)<0 by omega),List.drop_zero]
 refine key _ hy ?_ ?_
 ·rw[e];split
  ·rw[List.length_take,<-List.take_take,List.take_take]
   congr 1
   omega
  rw[List.take_length]
 rw[e];split
 ·rw[List.length_take];omega
 exact Nat.le_refl _
theorem store (h:RB S cl c got)(now:Int){s:Sg}{o:Nat}(hx:s.s≠[]->s.s=(S.drop o).take s.s.length/\o+s.s.length<=S.length):RB S cl (c.store now s o) got:=by
 unfold Cn.store;split
 ·exact h
 split
 ·split
  ·refine(h.insert hx).fx ?_;unfold Cn.ackSoon;split <;> exact⟨rfl,rfl,rfl,rfl⟩
  exact(h.insert hx).fx ⟨rfl,rfl,rfl,rfl⟩
 exact h.fx ⟨rfl,rfl,rfl,rfl⟩
theorem finS (h:RB S cl c got)(now:Int){s:Sg}{o:Nat}(hx:s.fin=true->cl=true/\o+s.s.length=S.length):RB S cl (c.finS now s o) got:=by
 unfold Cn.finS;dsimp only
 have h1:RB S cl (if s.fin=true/\ao c.st=true/\c.ended=false/\c.bx.nx<=(o:Int)+s.s.length then { c with ended:=true,fend:=(o:Int)+s.s.length }else c) got:=by
  split
  ·rename_i hh;have:=hx hh.1;exact⟨h.pi,fun _=>⟨this.1,by show(o:Int)+s.s.length=S.length;omega⟩⟩
  exact h
 generalize (if s.fin=true/\ao c.st=true/\c.ended=false/\c.bx.nx<=(o:Int)+s.s.length then { c with ended:=true,fend:=(o:Int)+s.s.length }else c)=d at h1|-;split
 ·exact h1.fx ((show Fx d { d with over:=true }from⟨rfl,rfl,rfl,rfl⟩).trans ((dQ _ now 6).trans ⟨rfl,rfl,rfl,rfl⟩))
 exact h1
end RB
end
end Go.Proofs.YtclkcmidhhfdmaaGreatDoor
