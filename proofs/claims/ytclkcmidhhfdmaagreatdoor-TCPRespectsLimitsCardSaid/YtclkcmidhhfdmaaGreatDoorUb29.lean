import Derived.Test.YtclkcmidhhfdmaaGreatDoorUb28
namespace Go.Proofs.YtclkcmidhhfdmaaGreatDoor
open Lib (hid)
section
def Sc.free (s:Sc):Int:=s.next-s.una-countF s.sk-countF s.ag
theorem Sc.Ok.free_eq {s:Sc}(h:s.Ok):s.free=crd (fun i=>((s.una<=i/\i<s.next)/\¬Mem i s.sk)/\¬Mem i s.ag) s.next.toNat:=by
 have hn:=h.nat;have hu:=h.u0;have hun:=h.un;have e0:=crd_iv (a:=s.una) (b:=s.next) hu hun s.next.toNat;have e1:=countF_crd h.csk (n:=s.next.toNat) (fun i hi=>by have:=h.msk i hi;omega);have e2:=countF_crd h.cag (n:=s.next.toNat) (fun i hi=>by have:=h.mag i hi;omega)
 have e3:crd (fun i=>s.una<=i/\i<s.next) s.next.toNat=crd (fun i=>Mem i s.sk) s.next.toNat+crd (fun i=>(s.una<=i/\i<s.next)/\¬Mem i s.sk) s.next.toNat:=crd_or (fun i=>by
  constructor
  ·intro k;by_cases hm:Mem i s.sk
   ·exact .inl hm
   exact .inr ⟨k,hm⟩
  rintro (k | k)
  ·exact h.msk i k
  exact k.1) (fun i a b=>b.2 a)
 have e4:crd (fun i=>(s.una<=i/\i<s.next)/\¬Mem i s.sk) s.next.toNat=crd (fun i=>Mem i s.ag) s.next.toNat+crd (fun i=>((s.una<=i/\i<s.next)/\¬Mem i s.sk)/\¬Mem i s.ag) s.next.toNat:=crd_or (fun i=>by
  constructor
  ·intro k;by_cases hm:Mem i s.ag
   ·exact .inl hm
   exact .inr ⟨k,hm⟩
  rintro (k | k)
  ·have:=h.mag i k;exact⟨⟨this.1,this.2.1⟩,this.2.2⟩
  exact k.1) (fun i a b=>b.2 a)
 unfold Sc.free;omega
theorem Sc.Ok.free_bd {s:Sc}(h:s.Ok):0<=s.free:=by rw[h.free_eq];exact crd_nonneg _ _
theorem Sc.Ok.free_ack {s:Sc}(h:s.Ok)(una:Int)(l:List Sp):(s.acked una l).free<=s.free/\(s.acked una l).next=s.next:=by
 unfold Sc.acked;split
 ·rename_i hb;have k1:=(h.ack_sk hb).2;have k2:=(h.ack_ag hb).2;have hk:=h.ackS hb;refine⟨?_,rfl⟩;rw[hk.free_eq,h.free_eq];refine crd_le fun i hi=> ?_;obtain⟨⟨⟨h1,h2⟩,h3⟩,h4⟩:=hi;have h1':max s.una una<=i:=h1;rw[k2]at h4;refine⟨⟨⟨by omega,h2⟩,fun m=>h3 ((k1 i).2 ⟨h1',.inl m⟩)⟩,fun m=>h4 ⟨⟨h1',m⟩,h3⟩⟩
 exact⟨Int.le_refl _,rfl⟩
theorem Sc.free_sent {s:Sc}{t:Int}(h1:s.next<=t)(h2:t<=1099511627776):(s.sent t).free=s.free+(t-s.next)/\(s.sent t).next=t:=by
 have e:s.sent t={ s with next:=t }:=by
  unfold Sc.sent Sc.sentB;rw[if_pos (decide_eq_true ⟨h1,h2⟩)]
 rw[e];unfold Sc.free;exact⟨by dsimp only;omega,rfl⟩
theorem Sc.free_timeout (s:Sc):s.timeout.free=s.next-s.una:=by
 unfold Sc.timeout Sc.free
 simp[countF]
theorem free_ret {c:Cn}(ok:c.Ok){x:Sp}{t:List Sp}(hl:c.sc.lost c.mss=x::t):(c.sc.ret (cutSp c.mss x)).free+1<=c.sc.free/\(c.sc.ret (cutSp c.mss x)).next=c.sc.next/\c.sc.retE (cutSp c.mss x)=0:=by
 have hm:=ok.mss;have hx:x∈c.sc.lost c.mss:=by rw[hl];simp
 obtain⟨ha,-,-,-⟩:=lost_apart ok.sc (m:=c.mss) (by omega) hx;unfold okS at ha;have hc2:(cutSp c.mss x).2=min x.2 (x.1+c.mss):=rfl;have hc1:(cutSp c.mss x).1=x.1:=rfl;obtain⟨r1,-,r3⟩:=ret_lost ok.sc (m:=c.mss) (by omega) hx (x:=cutSp c.mss x) rfl (by omega) (by omega);rw[pipe_eq _ (by omega),pipe_eq _ (by omega),all_congr (s:=c.sc) (t:=c.sc.retS (cutSp c.mss x)) rfl rfl rfl rfl c.mss,show(c.sc.retS (cutSp c.mss x)).gaps=c.sc.gaps from rfl]at r3;have e:c.sc.ret (cutSp c.mss x)=c.sc.retS (cutSp c.mss x):=by unfold Sc.ret;rw[if_pos r1]
 rw[e];refine⟨?_,rfl,by unfold Sc.retE;rw[if_pos r1]⟩;have e1:(c.sc.retS (cutSp c.mss x)).next=c.sc.next:=rfl;have e2:(c.sc.retS (cutSp c.mss x)).una=c.sc.una:=rfl;have e3:(c.sc.retS (cutSp c.mss x)).sk=c.sc.sk:=rfl;unfold Sc.free;rw[e1,e2,e3];omega
def Cn.pot (c:Cn):Int:=2*(c.last+1-c.next)+c.sc.free
structure Em (c d:Cn)(k j:Int):Prop where
 last:d.last=c.last
 nl:c.next<=c.last+1->d.next<=d.last+1
 pot:k+d.pot<=c.pot+j
namespace Em
variable {c d e : Cn} {k j k' j' : Int}
theorem refl (c:Cn):Em c c 0 0:=⟨rfl,id,by omega⟩
theorem trans (h:Em c d k j)(g:Em d e k' j'):Em c e (k+k') (j+j'):=⟨g.last.trans h.last,fun x=>g.nl (h.nl x),by have:=h.pot;have:=g.pot;omega⟩
theorem trans0 (h:Em c d 0 0)(g:Em d e 0 0):Em c e 0 0:=⟨g.last.trans h.last,fun x=>g.nl (h.nl x),by have:=h.pot;have:=g.pot;omega⟩
theorem mono (h:Em c d k j)(hk:k'<=k)(hj:j<=j'):Em c d k' j':=⟨h.last,h.nl,by have:=h.pot;omega⟩
theorem same (c d:Cn)(h1:d.sc=c.sc)(h2:d.held=c.held)(h3:d.base=c.base):Em c d 0 0:=by
 have hl:d.last=c.last:=by unfold Cn.last;rw[h2,h3]
 have hn:d.next=c.next:=by unfold Cn.next;rw[h1]
 exact⟨hl,fun h=>by rw[hl,hn];exact h,by unfold Cn.pot;rw[hl,hn,h1];omega⟩
end Em
theorem Cn.step_em (c:Cn)(now e:Int):Em c (c.step now e) 0 0:=by
 unfold Cn.step;split
 ·exact .refl c
 split <;> exact .same _ _ rfl rfl rfl
theorem Cn.ackC_em (c:Cn)(b:Bool):Em c (c.ackC b) 0 0:=by unfold Cn.ackC;split <;> exact .same _ _ rfl rfl rfl
theorem Cn.synC_em (c:Cn):Em c c.synC 0 0:=by unfold Cn.synC;split <;> exact .same _ _ rfl rfl rfl
theorem freshC_em {c:Cn}(ok:c.Ok){n:Int}(h0:0<=n)(hn:n<=c.last-c.next)(h1:1<=n\/(c.shut=true/\c.next=c.last)):Em c (c.freshC n) 1 0:=by
 have hb:=ok.b1
 have hf:c.next+1<=c.freshTo n/\c.freshTo n<=c.last+1:=by
  unfold Cn.freshTo;split
  ·omega
  rename_i hne
  rcases h1 with h1 | ⟨h1,h2⟩
  ·omega
  exact absurd ⟨h1,by omega⟩ hne
 obtain⟨f1,f2⟩:=Sc.free_sent (s:=c.sc) (t:=c.freshTo n) (show c.next<=_ by omega) (by omega);have hl:(c.freshC n).last=c.last:=by unfold Cn.freshC Cn.pieceC Cn.ackC;rfl
 have hx:(c.freshC n).next=c.freshTo n:=f2;have hs:(c.freshC n).sc=c.sc.sent (c.freshTo n):=rfl;have hq:c.sc.next=c.next:=rfl;exact⟨hl,fun _=>by rw[hl,hx];exact hf.2,by unfold Cn.pot;rw[hl,hx,hs,f1,hq];omega⟩
theorem out_em {c:Cn}(ok:c.Ok)(now:Int){n:Int}(h0:0<=n)(hn:n<=c.last-c.next)(h1:1<=n\/(c.shut=true/\c.next=c.last)):Em c (c.out now n) 1 0:=by
 have:=(freshC_em ok h0 hn h1).trans (.same (c.freshC n) (c.out now n) rfl rfl rfl);exact this.mono (by omega) (by omega)
theorem lostL_em (n:Nat):∀{c:Cn} (_:c.Ok) (l:List Sg),Em c (lostL n c l).1 (((lostL n c l).2.length:Int)-l.length) 0:=by
 induction n with
 | zero=>intro c _ l;exact(Em.refl c).mono (by simp[lostL]) (by omega)
 | succ n ih =>
  intro c ok l;by_cases hp:c.sc.pipe c.mss<c.cg.win
  ·cases hl:c.sc.lost c.mss with
   | nil =>
    rw[lostL,if_pos hp,hl];exact(Em.refl c).mono (by simp) (by omega)
   | cons x t =>
    obtain⟨f1,f2,f3⟩:=free_ret ok hl;rw[lostL,if_pos hp,hl];dsimp only;rw[if_pos f3];have hok:Cn.Ok { c.pieceC with sc:=c.sc.ret (cutSp c.mss x),tm:=c.tm.retr }:=(ok.pieceC.onSc (ok.sc.ret _)).onTm (Tm.retr_fit ok.tm);have h1:=ih hok (l++[c.pieceS x.1 (cutSp c.mss x).2])
    have h0:Em c { c.pieceC with sc:=c.sc.ret (cutSp c.mss x),tm:=c.tm.retr } 1 0:=by
     have hla:Cn.last { c.pieceC with sc:=c.sc.ret (cutSp c.mss x),tm:=c.tm.retr }=c.last:=rfl;have hne:Cn.next { c.pieceC with sc:=c.sc.ret (cutSp c.mss x),tm:=c.tm.retr }=c.next:=f2;exact⟨hla,fun h=>by rw[hla,hne];exact h,by unfold Cn.pot;rw[hla,hne];show _+(_+(c.sc.ret (cutSp c.mss x)).free)<=_;omega⟩
    exact(h0.trans h1).mono (by rw[List.length_append];simp;omega) (by omega)
  rw[lostL,if_neg hp];exact(Em.refl c).mono (by simp) (by omega)
theorem allowed_le {c:Cn}(_ok:c.Ok)(h:0<c.allowed):c.allowed<=c.last-c.next:=by
 have hle:c.allowed<=c.unsent\/c.allowed<=0:=by
  unfold Cn.allowed;split
  ·omega
  split
  ·omega
  split <;> omega
 have hu:c.unsent=max 0 (c.last-c.next):=rfl;omega
theorem sizeL_em {now:Int}(hn:In64 now)(n:Nat):∀{c:Cn} (_:c.Ok) (l:List Sg),Em c (sizeL now n c l).1 (((sizeL now n c l).2.length:Int)-l.length) 0:=by
 induction n with
 | zero=>intro c _ l;exact(Em.refl c).mono (by simp[sizeL]) (by omega)
 | succ n ih =>
  intro c ok l;rw[sizeL];split
  ·rename_i h;have h1:=ih (ok.out hn c.allowed) (l++[c.freshS c.allowed]);have h0:=out_em ok now (n:=c.allowed) (by omega) (allowed_le ok h) (.inl (by omega));exact(h0.trans h1).mono (by rw[List.length_append];simp;omega) (by omega)
  exact(Em.refl c).mono (by simp) (by omega)
theorem finL_em {now:Int}{c:Cn}(ok:c.Ok)(l:List Sg):Em c (finL now c l).1 (((finL now c l).2.length:Int)-l.length) 0:=by
 unfold finL;split
 ·rename_i h;exact(out_em ok now (n:=0) (by omega) (by omega) (.inr h)).mono (by rw[List.length_append];simp;omega) (by omega)
 exact(Em.refl c).mono (by simp) (by omega)
theorem pushD_em {c:Cn}(ok:c.Ok){now:Int}(hn:In64 now):Em c (c.pushD now).1 (c.pushD now).2.length 0:=by
 unfold Cn.pushD;dsimp only;have h1:=lostL_em (c.flight.toNat+1) ok [];have o1:=Cn.Ok.lostL (c.flight.toNat+1) ok [];generalize lostL (c.flight.toNat+1) c []=a at h1 o1|-;have h2:=sizeL_em hn (a.1.unsent.toNat+1) o1 a.2;have o2:=Cn.Ok.sizeL hn (a.1.unsent.toNat+1) o1 a.2;generalize sizeL now (a.1.unsent.toNat+1) a.1 a.2=b at h2 o2|-;have h3:=finL_em (now:=now) o2 b.2;exact((h1.trans h2).trans h3).mono (by rw[List.length_nil];omega) (by omega)
theorem pushA_em (c:Cn)(l:List Sg):Em c (c.pushA l).1 (((c.pushA l).2.length:Int)-l.length) (if c.pend=2 then 1 else 0):=by
 unfold Cn.pushA;by_cases h:c.pend=2
 ·rw[if_pos h,if_pos h];have h:=c.ackC_em false;exact⟨h.last,h.nl,by have:=h.pot;dsimp only;rw[List.length_append,List.length_singleton];omega⟩
 rw[if_neg h,if_neg h];exact(Em.refl c).mono (by simp) (by omega)
theorem pushT_em (c:Cn)(now:Int):Em c (c.pushT now) 0 0:=by
 unfold Cn.pushT;split
 ·exact .same _ _ rfl rfl rfl
 split
 ·exact .refl c
 exact .same _ _ rfl rfl rfl
theorem push_em {c:Cn}(ok:c.Ok){now:Int}(hn:In64 now):Em c (c.push now).1 (c.push now).2.length 1:=by
 unfold Cn.push;split
 ·exact(Em.refl c).mono (by simp) (by omega)
 dsimp only
 have key:∀a:Cn×List Sg,Em c a.1 a.2.length 0->Em c ((a.1.pushA a.2).1.pushT now) (a.1.pushA a.2).2.length 1:=by
  intro a ha;have h2:=pushA_em a.1 a.2;exact((ha.trans h2).trans (pushT_em _ now)).mono (by omega) (by split <;> omega)
 split
 ·exact key _ (pushD_em ok hn)
 exact key (c,[]) ((Em.refl c).mono (by simp) (by omega))
theorem drop_last (c:Cn)(u:Int):(c.drop u).last=c.last:=by
 have:0<=dropN c.held c.base u/\dropN c.held c.base u<=c.held.length:=by unfold dropN;omega
 unfold Cn.drop Cn.last;dsimp only;rw[List.length_drop];omega
theorem drop_em (c:Cn)(u:Int):Em c (c.drop u) 0 0:=by
 have hl:=drop_last c u;have hn:(c.drop u).next=c.next:=rfl;have hs:(c.drop u).sc=c.sc:=rfl;exact⟨hl,fun h=>by rw[hl,hn];exact h,by unfold Cn.pot;rw[hl,hn,hs];omega⟩
theorem report_em {c:Cn}(ok:c.Ok)(a:Int)(bl:List Sp):Em c (c.report a bl) 0 0:=by
 obtain⟨h1,h2⟩:=ok.sc.free_ack a (repS c.sacks c.next c.cf.iss bl);have hl:(c.report a bl).last=c.last:=rfl;have hn:(c.report a bl).next=c.next:=h2;exact⟨hl,fun h=>by rw[hl,hn];exact h,by unfold Cn.pot;rw[hl,hn];show _+(_+(c.sc.acked a _).free)<=_;omega⟩
theorem acked_em {c:Cn}(ok:c.Ok)(now:Int)(s:Sg)(ack:Int):Em c (c.acked now s ack) 0 0:=by
 unfold Cn.acked;split
 ·exact .same _ _ rfl rfl rfl
 dsimp only;have h0:Em c (({ c with tries:=0 }:Cn).report ack s.bl) 0 0:=((Em.same c ({ c with tries:=0 }:Cn) rfl rfl rfl).trans0 (report_em ok.tries0 ack s.bl));generalize ({ c with tries:=0 }:Cn).report ack s.bl=r at h0
 have h1:Em c (if c.una<ack then(if 0<ack-max c.una 1 then({ r with dl:=al0,tm:=r.tm.acked now ack,cg:=r.cg.acked (ack-max c.una 1) ack }:Cn)else { r with dl:=al0,tm:=r.tm.acked now ack }).drop ack else r) 0 0:=by
  split
  ·split
   ·exact((h0.trans0 (.same r ({ r with dl:=al0,tm:=r.tm.acked now ack,cg:=r.cg.acked (ack-max c.una 1) ack }:Cn) rfl rfl rfl)).trans0 (drop_em _ _))
   exact((h0.trans0 (.same r ({ r with dl:=al0,tm:=r.tm.acked now ack }:Cn) rfl rfl rfl)).trans0 (drop_em _ _))
  exact h0
 generalize (if c.una<ack then(if 0<ack-max c.una 1 then({ r with dl:=al0,tm:=r.tm.acked now ack,cg:=r.cg.acked (ack-max c.una 1) ack }:Cn)else { r with dl:=al0,tm:=r.tm.acked now ack }).drop ack else r)=a at h1
 have h2:Em c (if 0<c.repN ack s.bl/\(a.announce ack s.win).mark<=ack/\(a.announce ack s.win).sc.lost (a.announce ack s.win).mss≠[]then { a.announce ack s.win with cg:=(a.announce ack s.win).cg.lost c.flight (a.announce ack s.win).next }else a.announce ack s.win) 0 0:=by
  split <;> exact(h1.trans0 (.same _ _ rfl rfl rfl))
 generalize (if 0<c.repN ack s.bl/\(a.announce ack s.win).mark<=ack/\(a.announce ack s.win).sc.lost (a.announce ack s.win).mss≠[]then { a.announce ack s.win with cg:=(a.announce ack s.win).cg.lost c.flight (a.announce ack s.win).next }else a.announce ack s.win)=d at h2;split
 ·exact(h2.trans0 (d.step_em now 7))
 exact h2
theorem store_em (c:Cn)(now:Int)(s:Sg)(off:Int):Em c (c.store now s off) 0 0:=by
 unfold Cn.store;split
 ·exact .refl c
 split
 ·split
  ·unfold Cn.ackSoon;split <;> exact .same _ _ rfl rfl rfl
  exact .same _ _ rfl rfl rfl
 exact .same _ _ rfl rfl rfl
theorem finS_em (c:Cn)(now:Int)(s:Sg)(off:Int):Em c (c.finS now s off) 0 0:=by
 unfold Cn.finS;dsimp only;have h1:Em c (if s.fin=true/\canRecv c.st=true/\c.ended=false/\c.bx.nx<=off+s.s.length then { c with ended:=true,fend:=off+s.s.length }else c) 0 0:=by split <;> exact .same _ _ rfl rfl rfl
 generalize (if s.fin=true/\canRecv c.st=true/\c.ended=false/\c.bx.nx<=off+s.s.length then { c with ended:=true,fend:=off+s.s.length }else c)=d at h1;split
 ·have h2:Em d ({ d with over:=true }:Cn) 0 0:=.same _ _ rfl rfl rfl;exact(((h1.trans h2).trans0 (Cn.step_em { d with over:=true } now 6)).trans0 (.same _ _ rfl rfl rfl))
 exact h1
end
theorem Em.one (c:Cn):Em c c 1 1:=⟨rfl,id,by omega⟩
theorem finish_em (c:Cn)(now e er:Int):Em c (c.finish now e er) 0 0:=(Cn.step_em c now e).trans0 (.same _ _ rfl rfl rfl)
theorem ackNow_em (c:Cn):Em c c.ackNow 0 0:=.same _ _ rfl rfl rfl
theorem tail_em {c:Cn}(ok:c.Ok)(now:Int)(s:Sg)(off ack:Int):Em c (((c.acked now s ack).store now s off).finS now s off) 0 0 :=
 (((acked_em ok now s ack).trans (store_em _ now s off)).trans (finS_em _ now s off)).mono (by omega) (by omega)
theorem process_em {c:Cn}(ok:c.Ok){now:Int}(hn:In64 now){s:Sg}(hs:s.Ok){off:Int}(ho: -2147483648<=off/\off<=2147483647):Em c (c.process now s off).1 (c.process now s off).2.length 1:=by
 have hd:=diffV_bd s.ak c.cf.iss;unfold Cn.process;dsimp only;split
 ·rename_i h2;have ht:=ok.tr2 (by omega);split
  ·exact Em.one c
  have o3:=ok.step hn ht 4;have h3:=Cn.step_em c now 4;split
  ·have o5:=o3.step hn (by rw[Cn.step_tries];exact ht) 5;exact(((h3.trans (Cn.step_em _ now 5)).trans (tail_em o5 now s off _)).trans (push_em (o5.tail hn hs ho hd.2) hn)).mono (by omega) (by omega)
  exact((h3.trans (tail_em o3 now s off _)).trans (push_em (o3.tail hn hs ho hd.2) hn)).mono (by omega) (by omega)
 split
 ·exact((ackNow_em c).trans (push_em ok.ackNow hn)).mono (by omega) (by omega)
 exact((tail_em ok now s off _).trans (push_em (ok.tail hn hs ho hd.2) hn)).mono (by omega) (by omega)
theorem stray_em {c:Cn}(ok:c.Ok){now:Int}(hn:In64 now){s:Sg}(hs:s.Ok):Em c (c.stray now s).1 (c.stray now s).2.length 1:=by
 have hd:=diffV_bd s.ak c.cf.iss;unfold Cn.stray;dsimp only
 have h1:Cn.Ok (if syncB c.st=true/\s.has=true/\s.syn=false/\c.una<=diffV s.ak c.cf.iss/\diffV s.ak c.cf.iss<=c.next then c.acked now s (diffV s.ak c.cf.iss)else c):=by
  split
  ·exact(ok.acked hn hs (by omega)).1
  exact ok
 have e1:Em c (if syncB c.st=true/\s.has=true/\s.syn=false/\c.una<=diffV s.ak c.cf.iss/\diffV s.ak c.cf.iss<=c.next then c.acked now s (diffV s.ak c.cf.iss)else c) 0 0:=by
  split
  ·exact acked_em ok now s _
  exact .refl c
 generalize (if syncB c.st=true/\s.has=true/\s.syn=false/\c.una<=diffV s.ak c.cf.iss/\diffV s.ak c.cf.iss<=c.next then c.acked now s (diffV s.ak c.cf.iss)else c)=a at h1 e1|-
 have h2:Cn.Ok (if a.st=9/\s.fin=true then { a with per:=.aft now 60 }else a):=by
  split
  ·exact { h1 with per:=Al.aft_ok hn (by decide) (by decide) }
  exact h1
 have e2:Em a (if a.st=9/\s.fin=true then { a with per:=.aft now 60 }else a) 0 0:=by
  split
  ·exact .same _ _ rfl rfl rfl
  exact .refl a
 generalize (if a.st=9/\s.fin=true then { a with per:=.aft now 60 }else a)=b at h2 e2|-;split
 ·exact(((e1.trans e2).trans (ackNow_em b)).trans (push_em h2.ackNow hn)).mono (by omega) (by omega)
 exact((e1.trans e2).trans (push_em h2 hn)).mono (by omega) (by omega)
theorem greet_em {c:Cn}(ok:c.Ok){now:Int}(hn:In64 now){s:Sg}(hs:s.Ok):Em c (c.greet now s).1 (c.greet now s).2.length 1:=by
 unfold Cn.greet;split
 ·split
  ·exact(Em.refl c).mono (by simp) (by omega)
  exact Em.one c
 split
 ·exact(finish_em c now 8 184).mono (by simp) (by omega)
 split
 ·exact(Em.refl c).mono (by simp) (by omega)
 rename_i hy;have hy:s.syn=true:=by simpa using hy
 have hm:=(ok.meet hs hy).tries0;have e0:Em c ({ c.meet s with tries:=0 }:Cn) 0 0:=.same _ _ rfl rfl rfl;have t0:({ c.meet s with tries:=0 }:Cn).tries<=12:=by show(0:Int)<=12;decide
 generalize ({ c.meet s with tries:=0 }:Cn)=d at hm e0 t0;dsimp only;split
 ·have h:=((e0.trans (Cn.step_em d now 2)).trans (Cn.synC_em _));exact⟨h.last,h.nl,by have:=h.pot;simp;omega⟩
 have o2:Cn.Ok { d with sc:=d.sc.acked 1 [],tm:=d.tm.acked now 1 }:=(hm.onSc (hm.sc.acked 1 [])).onTm (Tm.acked_fit hm.tm now 1)
 have e2:Em d { d with sc:=d.sc.acked 1 [],tm:=d.tm.acked now 1 } 0 0:=by
  obtain⟨h1,h2⟩:=hm.sc.free_ack 1 [];have hl:Cn.last { d with sc:=d.sc.acked 1 [],tm:=d.tm.acked now 1 }=d.last:=rfl;have hx:Cn.next { d with sc:=d.sc.acked 1 [],tm:=d.tm.acked now 1 }=d.next:=h2;exact⟨hl,fun h=>by rw[hl,hx];exact h,by unfold Cn.pot;rw[hl,hx];show _+(_+(d.sc.acked 1 []).free)<=_;omega⟩
 have t2:Cn.tries { d with sc:=d.sc.acked 1 [],tm:=d.tm.acked now 1 }<=12:=t0;generalize ({ d with sc:=d.sc.acked 1 [],tm:=d.tm.acked now 1 }:Cn)=e at o2 e2 t2;have o3:=(o2.step hn t2 3).onDl al0_ok;have e3:Em (e.step now 3) ({ e.step now 3 with dl:=al0 }:Cn) 0 0:=.same _ _ rfl rfl rfl;exact(((((e0.trans e2).trans (Cn.step_em e now 3)).trans e3).trans (ackNow_em _)).trans (push_em o3.ackNow hn)).mono (by omega) (by omega)
theorem recvOk_em {c:Cn}(ok:c.Ok){now:Int}(hn:In64 now){s:Sg}(hs:s.Ok):Em c (c.recvOk now s).1 (c.recvOk now s).2.length 1:=by
 have ho:=diffV_bd s.sq (addV c.irs 1);unfold Cn.recvOk;dsimp only;split
 ·exact(finish_em c now 8 181).mono (by simp) (by omega)
 split
 ·exact(Em.refl c).mono (by simp) (by omega)
 split
 ·exact stray_em ok hn hs
 split
 ·exact((ackNow_em c).trans (push_em ok.ackNow hn)).mono (by omega) (by omega)
 split
 ·exact(Em.refl c).mono (by simp) (by omega)
 exact process_em ok hn hs ho
theorem receive_em {c:Cn}(ok:c.Ok){now:Int}(hn:In64 now){s:Sg}(hs:s.Ok):Em c (c.receive now s).1 (c.receive now s).2.length 1:=by
 unfold Cn.receive;split
 ·exact(Em.refl c).mono (by simp) (by omega)
 split
 ·exact(Em.refl c).mono (by simp) (by omega)
 split
 ·exact greet_em ok hn hs
 exact recvOk_em ok hn hs
theorem timeoutC_em {c:Cn}(ok:c.Ok)(g:Cg)(m:Int):Em c { c with cg:=g,sc:=c.sc.timeout,mark:=m } 0 c.flight:=by
 have h0:=ok.sc.free_bd;have hl:Cn.last { c with cg:=g,sc:=c.sc.timeout,mark:=m }=c.last:=rfl;have hx:Cn.next { c with cg:=g,sc:=c.sc.timeout,mark:=m }=c.next:=rfl;have hf:=Sc.free_timeout c.sc;have hfl:c.flight=c.sc.next-c.sc.una:=rfl;exact⟨hl,fun h=>by rw[hl,hx];exact h,by unfold Cn.pot;rw[hl,hx];show _+(_+c.sc.timeout.free)<=_;omega⟩
theorem expire_em {c:Cn}(ok:c.Ok):Em c c.expire.1 c.expire.2.length c.flight:=by
 have hu:=ok.una;have hf:c.flight=c.next-c.una:=rfl;have hun:c.unsent=max 0 (c.last-c.next):=rfl;unfold Cn.expire;split
 ·exact(timeoutC_em ok _ _).mono (by simp) (by omega)
 split
 ·exact(Em.refl c).mono (by simp) (by omega)
 exact(freshC_em ok (n:=max 1 (min (min c.mss (c.limit-c.next)) c.unsent)) (by omega) (by omega) (.inl (by omega))).mono (by simp) (by omega)
theorem tickEnd_em {c:Cn}(ok:c.Ok){now:Int}(hn:In64 now)(l:List Sg):Em c (c.tickEnd now l).1 (((c.tickEnd now l).2.length:Int)-l.length) 1:=by
 unfold Cn.tickEnd;dsimp only;have key:∀a:Cn,a.Ok->Em c a 0 0->Em c (a.push now).1 (((l++(a.push now).2).length:Int)-l.length) 1:=fun a o e=>(e.trans (push_em o hn)).mono (by rw[List.length_append];omega) (by omega);split
 ·exact key _ ok.ackNow (ackNow_em c)
 exact key _ ok (.refl c)
theorem tick_em {c:Cn}(ok:c.Ok){now:Int}(hn:In64 now):Em c (c.tick now).1 (c.tick now).2.length (1+c.flight):=by
 have hu:=ok.una;have hf:c.flight=c.next-c.una:=rfl;unfold Cn.tick;split
 ·exact(Em.refl c).mono (by simp) (by omega)
 rename_i h0;have ht:=ok.tr2 h0;have htr:=ok.tr;split
 ·exact(finish_em c now 9 0).mono (by simp) (by omega)
 split
 ·dsimp only;have e0:Em c ({ c with tries:=c.tries+1 }:Cn) 0 0:=.same _ _ rfl rfl rfl;split
  ·exact((e0.trans (finish_em _ now 9 182))).mono (by simp) (by omega)
  rename_i h12
  have hv:0<=c.tm.retr.backoff.value/\c.tm.retr.backoff.value<=1000:=by
   have h1:=c.tm.retr.backoff.base_bd;have h2:(0:Int)<=c.tm.retr.backoff.base*2 ^ c.tm.retr.backoff.backs.toNat:=Int.mul_nonneg (by omega) (Int.pow_nonneg (by decide));unfold Tm.value;omega
  have o1:Cn.Ok { c with tries:=c.tries+1,tm:=c.tm.retr.backoff,dl:=.aft now c.tm.retr.backoff.value } :=
   { ok with tr:=by have:=ok.tr;dsimp only;omega,tr2:=fun _=>by dsimp only;omega,tm:=Tm.backoff_fit (Tm.retr_fit ok.tm),dl:=Al.aft_ok hn hv.1 hv.2 }
  have e1:Em c ({ c with tries:=c.tries+1,tm:=c.tm.retr.backoff,dl:=.aft now c.tm.retr.backoff.value }:Cn) 0 0:=.same _ _ rfl rfl rfl;have f1:Cn.flight { c with tries:=c.tries+1,tm:=c.tm.retr.backoff,dl:=.aft now c.tm.retr.backoff.value }=c.flight:=rfl;split
  ·exact((e1.trans (expire_em o1)).trans (tickEnd_em o1.expire hn _)).mono (by omega) (by omega)
  have h:=e1.trans (Cn.synC_em _);exact⟨h.last,h.nl,by have:=h.pot;simp;omega⟩
 exact(tickEnd_em ok hn []).mono (by simp) (by omega)
theorem recv_em {c:Cn}(ok:c.Ok){now:Int}(hn:In64 now)(n:Int):Em c (c.recv now n).1 (c.recv now n).2.length 1:=by
 unfold Cn.recv;split
 ·exact(Em.refl c).mono (by simp) (by omega)
 dsimp only;have o1:=ok.take n;have e1:Em c ({ c with bx:=c.bx.take n }:Cn) 0 0:=.same _ _ rfl rfl rfl;split
 ·exact e1.mono (by simp) (by omega)
 split
 ·exact e1.mono (by simp) (by omega)
 exact((e1.trans (ackNow_em _)).trans (push_em o1.ackNow hn)).mono (by omega) (by omega)
theorem close_em {c:Cn}(ok:c.Ok){now:Int}(hn:In64 now):Em c (c.close now).1 (c.close now).2.length 1:=by
 unfold Cn.close;split
 ·exact(Em.refl c).mono (by simp) (by omega)
 rename_i h0;dsimp only;have o1:Cn.Ok { c with shut:=true }:={ ok with };have e1:Em c ({ c with shut:=true }:Cn) 0 0:=.same _ _ rfl rfl rfl;have t1:Cn.tries { c with shut:=true }<=12:=ok.tr2 (fun h=>h0 (.inl h));split
 ·exact(e1.trans (finish_em _ now 5 183)).mono (by simp) (by omega)
 split
 ·exact(e1.trans (push_em o1 hn)).mono (by omega) (by omega)
 exact((e1.trans (Cn.step_em _ now 5)).trans (push_em (o1.step hn t1 5) hn)).mono (by omega) (by omega)
theorem send_em {c:Cn}(ok:c.Ok){now:Int}(hn:In64 now)(s:List UInt8)(hb:c.last+s.length<=1073741824):(c.send now s).1.last=c.last+(if c.refusal≠0 then 0 else c.sendN s)/\(c.next<=c.last+1->(c.send now s).1.next<=(c.send now s).1.last+1)/\(c.send now s).2.length+(c.send now s).1.pot<=c.pot+2*s.length+1:=by
 unfold Cn.send;by_cases hr:c.refusal≠0
 ·rw[if_pos hr,if_pos hr];exact⟨by dsimp only;omega,id,by dsimp only;rw[List.length_nil];omega⟩
 rw[if_neg hr,if_neg hr];have h0:0<=c.sendN s/\c.sendN s<=s.length:=by unfold Cn.sendN Cn.space;split <;> omega
 have hl:Cn.last { c with held:=c.held++s.take (c.sendN s).toNat }=c.last+c.sendN s:=by
  unfold Cn.last;dsimp only;rw[List.length_append,List.length_take];omega
 have hx:Cn.next { c with held:=c.held++s.take (c.sendN s).toNat }=c.next:=rfl;have hp:Cn.pot { c with held:=c.held++s.take (c.sendN s).toNat }=c.pot+2*c.sendN s:=by unfold Cn.pot;rw[hl,hx];dsimp only;omega
 have hh:=hl;unfold Cn.last at hh;have o1:Cn.Ok { c with held:=c.held++s.take (c.sendN s).toNat }:={ ok with b1:=by rw[hl];omega };have:=push_em o1 hn;exact⟨this.last.trans hl,fun h=>this.nl (by omega),by have:=this.pot;omega⟩
section
structure SdOk (s:Sd):Prop where
 c:s.c.Ok
 len:s.all.length<=1000
 s0:0<=s.sent
 sl:s.sent<=s.all.length
 last:s.c.last=1+s.sent
 nl:s.c.next<=s.c.last+1
theorem SdOk.pot {s:Sd}(h:SdOk s):0<=s.c.pot:=by
 have:=h.c.sc.free_bd;have:=h.nl;unfold Cn.pot;omega
theorem SdOk.flight {s:Sd}(h:SdOk s):s.c.flight<=1002:=by
 have:=h.c.una;have:=h.nl;have:=h.last;have:=h.sl;have:=h.len;have hf:s.c.flight=s.c.next-s.c.una:=rfl;omega
theorem SdOk.em {s:Sd}(h:SdOk s){d:Cn}(hd:d.Ok){k j:Int}(e:Em s.c d k j):SdOk { s with c:=d } :=
 ⟨hd,h.len,h.s0,h.sl,e.last.trans h.last,e.nl h.nl⟩
namespace Pr
def rem (p:Pr):Int:=max 0 ((p.fates.length:Int)-p.many)
def Q (p:Pr):Int:=p.wire.length+p.rem+p.a.c.pot+p.b.c.pot
def R (p:Pr):Int:=p.log.length+p.a.c.pot+p.b.c.pot
structure Fit (p:Pr)(q r:Int):Prop where
 a:SdOk p.a
 b:SdOk p.b
 now:0<=p.now/\p.now<=1000000
 wire:∀f∈p.wire,f.s.Ok
 due:∀f∈p.wire,0<=f.due/\f.due<=1000100
 log:∀f∈p.log,f.s.Ok
 q:p.Q<=q
 r:p.R<=r
variable {p : Pr} {q r : Int}
theorem Fit.mono (h:Fit p q r){q' r':Int}(hq:q<=q')(hr:r<=r'):Fit p q' r':=⟨h.a,h.b,h.now,h.wire,h.due,h.log,Int.le_trans h.q hq,Int.le_trans h.r hr⟩
theorem Fit.sd (h:Fit p q r)(i:Bool):SdOk (p.sd i):=by cases i;exact h.a;exact h.b
theorem Fit.in64 (h:Fit p q r):In64 p.now:=by have:=h.now;unfold In64;omega
theorem Fit.wlen (h:Fit p q r):(p.wire.length:Int)<=q:=by
 have:=h.q;have:=h.a.pot;have:=h.b.pot;unfold Q rem at *;omega
theorem Fit.llen (h:Fit p q r):(p.log.length:Int)<=r:=by
 have:=h.r;have:=h.a.pot;have:=h.b.pot;unfold R at *;omega
theorem addW_len (p:Pr)(f:Fl):(p.addW f).length<=1\/((p.addW f).length=2/\p.many<p.fates.length):=by
 by_cases h:p.many<p.fates.length
 ·unfold addW
  (repeat' split) <;> simp[h]
 have e:p.fate=0:=by unfold fate;rw[List.getElem?_eq_none (by omega)]
 unfold addW;rw[if_pos e];exact .inl (by simp)
theorem addW_ok (p:Pr){f:Fl}(h:f.s.Ok):∀g∈p.addW f,g.s.Ok:=by
 intro g hg;unfold addW at hg
 (repeat' split at hg) <;> simp at hg <;> rw[hg] <;> exact h
theorem fate_bd (p:Pr):0<=p.fate/\p.fate<24:=by
 unfold fate;split
 ·exact pickV_bd _ 24 (by decide)
 exact⟨by decide,by decide⟩
theorem addW_due (p:Pr)(hn:0<=p.now/\p.now<=1000000){f:Fl}(h:0<=f.due/\f.due<=1000100):∀g∈p.addW f,0<=g.due/\g.due<=1000100:=by
 intro g hg;have hb:=fate_bd p;unfold addW at hg
 (repeat' split at hg) <;> simp at hg <;> rw[hg]
 ·exact h
 ·exact h
 ·exact h
 dsimp only;omega
theorem put1_fit (h:Fit p q r)(i:Bool){s:Sg}(hs:s.Ok):Fit (p.put1 i s) (q+1) (r+1):=by
 refine⟨h.a,h.b,h.now,?_,?_,?_,?_,?_⟩
 ·intro f hf
  rcases List.mem_append.1 hf with hf | hf
  ·exact h.wire f hf
  exact addW_ok p (show(p.fl i s).s.Ok from hs) f hf
 ·intro f hf
  rcases List.mem_append.1 hf with hf | hf
  ·exact h.due f hf
  exact addW_due p h.now (f:=p.fl i s) (by have:=h.now;unfold fl;dsimp only;omega) f hf
 ·intro f hf
  rcases List.mem_append.1 hf with hf | hf
  ·exact h.log f hf
  rw[List.mem_singleton.1 hf];exact hs
 ·have hq:=h.q;have hl:=addW_len p (p.fl i s);unfold Q rem put1 at *;dsimp only;rw[List.length_append]
  rcases hl with hl | ⟨hl,hm⟩ <;> omega
 have hr:=h.r;unfold R put1 at *;dsimp only;rw[List.length_append,List.length_singleton];omega
theorem put_fit (i:Bool):∀(l:List Sg) {p:Pr} {q r:Int},Fit p q r->(∀x∈l,x.Ok)->Fit (p.put i l) (q+l.length) (r+l.length):=by
 intro l
 induction l with
 | nil=>intro p q r h _;exact h.mono (by simp) (by simp)
 | cons s l ih =>
  intro p q r h hl;have h1:=put1_fit h i (hl s (by simp));exact(ih h1 (fun x hx=>hl x (by simp[hx]))).mono (by simp;omega) (by simp;omega)
theorem put_same (i:Bool):∀(l:List Sg) (p:Pr),(p.put i l).a=p.a/\(p.put i l).b=p.b/\(p.put i l).now=p.now/\(p.put i l).fates=p.fates:=by
 intro l
 induction l with
 | nil=>intro p;exact⟨rfl,rfl,rfl,rfl⟩
 | cons s l ih=>intro p;exact ih (p.put1 i s)
theorem setSd_fit (h:Fit p q r)(i:Bool){d:Sd}(hd:SdOk d){j:Int}(hp:d.c.pot<=(p.sd i).c.pot+j):Fit (p.setSd i d) (q+j) (r+j):=by
 have hq:=h.q;have hr:=h.r
 cases i with
 | false =>
  have hp':d.c.pot<=p.a.c.pot+j:=hp;refine⟨hd,h.b,h.now,h.wire,h.due,h.log,?_,?_⟩
  ·unfold Q rem setSd at *;dsimp only;omega
  unfold R setSd at *;dsimp only;omega
 | true =>
  have hp':d.c.pot<=p.b.c.pot+j:=hp;refine⟨h.a,hd,h.now,h.wire,h.due,h.log,?_,?_⟩
  ·unfold Q rem setSd at *;dsimp only;omega
  unfold R setSd at *;dsimp only;omega
theorem act_fit (h:Fit p q r)(i:Bool){d:Sd}{l:List Sg}(hd:SdOk d)(hl:∀x∈l,x.Ok){j:Int}(hp:l.length+d.c.pot<=(p.sd i).c.pot+j):Fit ((p.setSd i d).put i l) (q+j) (r+j) :=
 (put_fit i l (setSd_fit h i hd (j:=j-l.length) (by omega)) hl).mono (by omega) (by omega)
theorem recv1_fit (h:Fit p q r){f:Fl}(hf:f.s.Ok):Fit (p.recv1 f) (q+1) (r+1):=by
 have hs:=h.sd f.dst;have e:=receive_em hs.c h.in64 hf;exact act_fit h f.dst (hs.em (hs.c.receive h.in64 hf) e) (hs.c.receive_sg h.in64 hf) e.pot
theorem fold_fit:∀(l:List Fl) {p:Pr} {q r:Int},Fit p q r->(∀f∈l,f.s.Ok)->Fit (l.foldl recv1 p) (q+l.length) (r+l.length):=by
 intro l
 induction l with
 | nil=>intro p q r h _;exact h.mono (by simp) (by simp)
 | cons f l ih =>
  intro p q r h hl;exact(ih (recv1_fit h (hl f (by simp))) (fun x hx=>hl x (by simp[hx]))).mono (by simp;omega) (by simp;omega)
theorem filter_split {α:Type}(P:α->Bool):∀l:List α,(l.filter P).length+(l.filter fun x=> !P x).length=l.length:=by
 intro l
 induction l with
 | nil=>rfl
 | cons x l ih=>by_cases h:P x=true <;> simp[h] <;> omega
theorem due_len (p:Pr):p.due.length+p.rest.length=p.wire.length:=by
 have h1:=filter_split (readyB p.now) p.wire;have h2:=filter_split (lateB p.now (due1 p.now p.wire)) (left1 p.now p.wire);unfold due rest;rw[List.length_append];have e1:(due1 p.now p.wire).length=(p.wire.filter (readyB p.now)).length:=rfl;have e2:(left1 p.now p.wire).length=(p.wire.filter fun x=> !readyB p.now x).length:=rfl;omega
theorem due_mem {p:Pr}{f:Fl}(h:f∈p.due):f∈p.wire:=by
 unfold due due1 left1 at h
 rcases List.mem_append.1 h with h | h
 ·exact(List.mem_filter.1 h).1
 exact(List.mem_filter.1 (List.mem_filter.1 h).1).1
theorem rest_mem {p:Pr}{f:Fl}(h:f∈p.rest):f∈p.wire:=by
 unfold rest left1 at h;exact(List.mem_filter.1 (List.mem_filter.1 h).1).1
theorem rest_fit (h:Fit p q r):Fit { p with wire:=p.rest } (q-p.due.length) r :=
 ⟨h.a,h.b,h.now,fun f hf=>h.wire f (rest_mem hf),fun f hf=>h.due f (rest_mem hf),h.log,by have:=h.q;have:=due_len p;unfold Q rem at *;dsimp only;omega,h.r⟩
theorem deliver_fit (h:Fit p q r):Fit p.deliver q (r+q):=by
 have h1:=fold_fit p.due (rest_fit h) (fun f hf=>h.wire f (due_mem hf));have h2:=h.wlen;have h3:=due_len p;exact h1.mono (by omega) (by omega)
theorem tick1_fit (h:Fit p q r)(i:Bool):Fit (p.tick1 i) (q+1003) (r+1003):=by
 have hs:=h.sd i;have e:=tick_em hs.c h.in64;have hf:=hs.flight;exact act_fit h i (hs.em (hs.c.tick h.in64) e) (hs.c.tick_sg h.in64) (by have:=e.pot;dsimp only;omega)
theorem fold_now:∀(l:List Fl) (p:Pr),(l.foldl recv1 p).now=p.now/\(l.foldl recv1 p).fates=p.fates/\(l.foldl recv1 p).a.all=p.a.all/\(l.foldl recv1 p).b.all=p.b.all:=by
 intro l
 induction l with
 | nil=>intro p;exact⟨rfl,rfl,rfl,rfl⟩
 | cons f l ih =>
  intro p;have h:=ih (p.recv1 f);have k:=put_same f.dst ((p.sd f.dst).c.receive p.now f.s).2 (p.setC f.dst ((p.sd f.dst).c.receive p.now f.s).1);have e:p.recv1 f=(p.setC f.dst ((p.sd f.dst).c.receive p.now f.s).1).put f.dst ((p.sd f.dst).c.receive p.now f.s).2:=rfl;rw[List.foldl_cons,h.1,h.2.1,h.2.2.1,h.2.2.2,e,k.1,k.2.1,k.2.2.1,k.2.2.2]
  cases f.dst <;> exact⟨rfl,rfl,rfl,rfl⟩
theorem tick_now (p:Pr):p.tick.now=p.now+1/\p.tick.fates=p.fates/\p.tick.a.all=p.a.all/\p.tick.b.all=p.b.all:=by
 have h:=fold_now ({ p with now:=p.now+1 }:Pr).due { ({ p with now:=p.now+1 }:Pr)with wire:=({ p with now:=p.now+1 }:Pr).rest }
 have key:∀(x:Pr) (i:Bool),(x.tick1 i).now=x.now/\(x.tick1 i).fates=x.fates/\(x.tick1 i).a.all=x.a.all/\(x.tick1 i).b.all=x.b.all:=by
  intro x i;have k:=put_same i ((x.sd i).c.tick x.now).2 (x.setC i ((x.sd i).c.tick x.now).1);have e:x.tick1 i=(x.setC i ((x.sd i).c.tick x.now).1).put i ((x.sd i).c.tick x.now).2:=rfl;rw[e,k.1,k.2.1,k.2.2.1,k.2.2.2]
  cases i <;> exact⟨rfl,rfl,rfl,rfl⟩
 have k1:=key ({ p with now:=p.now+1 }:Pr).deliver false;have k2:=key (({ p with now:=p.now+1 }:Pr).deliver.tick1 false) true;have e:p.tick=(({ p with now:=p.now+1 }:Pr).deliver.tick1 false).tick1 true:=rfl;have d:({ p with now:=p.now+1 }:Pr).deliver=({ p with now:=p.now+1 }:Pr).due.foldl recv1 { ({ p with now:=p.now+1 }:Pr)with wire:=({ p with now:=p.now+1 }:Pr).rest }:=rfl;rw[e,k2.1,k2.2.1,k2.2.2.1,k2.2.2.2,k1.1,k1.2.1,k1.2.2.1,k1.2.2.2,d,h.1,h.2.1,h.2.2.1,h.2.2.2];exact⟨rfl,rfl,rfl,rfl⟩
theorem tick_fit (h:Fit p q r)(hn:p.now+1<=1000000):Fit p.tick (q+2010) (r+q+2010):=by
 have h0:Fit { p with now:=p.now+1 } q r:=⟨h.a,h.b,⟨by have:=h.now;dsimp only;omega,hn⟩,h.wire,h.due,h.log,h.q,h.r⟩;exact(tick1_fit (tick1_fit (deliver_fit h0) false) true).mono (by omega) (by omega)
theorem bytes_len {s:Sd}(h:SdOk s)(n:Int):((bytes s n).length:Int)<=s.all.length-s.sent:=by
 have:=h.s0;have:=h.sl;unfold bytes;rw[List.length_drop,List.length_take];omega
theorem send_fit (h:Fit p q r)(i:Bool)(n:Int):Fit (p.send i n) (q+2010) (r+2010):=by
 have hs:=h.sd i;unfold send;dsimp only;split
 ·exact h.mono (by omega) (by omega)
 split
 ·exact h.mono (by omega) (by omega)
 rename_i hr;have hr:¬(p.sd i).c.refusal≠0:=hr;have hb:=bytes_len hs n;have hl:=hs.len;have hsl:=hs.sl;have hla:=hs.last;have h0:=hs.s0;obtain⟨e1,e2,e3⟩:=send_em hs.c h.in64 (bytes (p.sd i) n) (by omega);rw[if_neg hr]at e1;have hsn:0<=(p.sd i).c.sendN (bytes (p.sd i) n)/\(p.sd i).c.sendN (bytes (p.sd i) n)<=(bytes (p.sd i) n).length:=by unfold Cn.sendN Cn.space;split <;> omega
 exact(act_fit h i (d:={ p.sd i with c:=((p.sd i).c.send p.now (bytes (p.sd i) n)).1,sent:=(p.sd i).sent+(p.sd i).c.sendN (bytes (p.sd i) n) })
  ⟨hs.c.send h.in64 _ (by omega),hl,by dsimp only;omega,by dsimp only;omega,by dsimp only;omega,e2 hs.nl⟩ (hs.c.send_sg h.in64 _ (by omega)) (j:=2010) (by dsimp only;omega))
theorem recv_fit (h:Fit p q r)(i:Bool)(n:Int):Fit (p.recv i n) (q+2010) (r+2010):=by
 have hs:=h.sd i;have e:=recv_em hs.c h.in64 n;have ho:=hs.em (hs.c.recv h.in64 n) e;unfold recv;dsimp only;split
 ·exact(setSd_fit h i (j:=1) ho (by have:=e.pot;dsimp only;omega)).mono (by omega) (by omega)
 exact(act_fit h i (j:=1) (d:={ p.sd i with c:=((p.sd i).c.recv p.now n).1,got:=(p.sd i).got++(p.sd i).c.bx.takeS n,fin:=(p.sd i).fin||(p.sd i).c.recvE n }) ⟨ho.c,ho.len,ho.s0,ho.sl,ho.last,ho.nl⟩ (hs.c.recv_sg h.in64 n) e.pot).mono (by omega) (by omega)
theorem shut_fit (h:Fit p q r)(i:Bool):Fit (p.shut i) (q+2010) (r+2010):=by
 have hs:=h.sd i;have e:=close_em hs.c h.in64;have ho:=hs.em (hs.c.close h.in64) e;unfold shut;dsimp only;split
 ·exact h.mono (by omega) (by omega)
 split
 ·exact h.mono (by omega) (by omega)
 exact(act_fit h i (j:=1) (d:={ p.sd i with c:=((p.sd i).c.close p.now).1,closed:=true }) ⟨ho.c,ho.len,ho.s0,ho.sl,ho.last,ho.nl⟩ (hs.c.close_sg h.in64) e.pot).mono (by omega) (by omega)
def Run (p:Pr)(n:Int):Prop:=Fit p (3000*(n+1)) (15003000*(n+1))/\p.now<=n
theorem Run.tick {n:Int}(h:Run p n)(h0:0<=n)(hn:n+1<=5000):Run p.tick (n+1) :=
 ⟨(tick_fit h.1 (by have:=h.2;omega)).mono (by omega) (by omega),by rw[(tick_now p).1];have:=h.2;omega⟩
end Pr
end
section
set_option maxHeartbeats 8000000
set_option maxRecDepth 100000
open Go.RowKit Go.Shelf
theorem OwnS.base {w:World}{b b':Nat}{v:Value}{L:List Sg}(h:OwnS w b v L)(hb:b'<=b):OwnS w b' v L:=by
 obtain⟨M,h1,h2,h3⟩:=h;refine⟨M,h1,?_,h3⟩
 rcases h2 with⟨hx,hy⟩
 exact⟨hx,hy.imp id (fun⟨g,cap,cur,h1,h2,h3⟩=>⟨g,cap,cur,h1,Nat.le_trans hb h2,h3⟩)⟩
theorem Cn.process_eq (c:Cn)(now:Int)(s:Sg)(off:Int):c.process now s off =
 if c.st=2 then
  if diffV s.ak c.cf.iss<1\/c.next<diffV s.ak c.cf.iss then(c,[c.resetS s.ak])
  else if(c.step now 4).shut=true then(((((c.step now 4).step now 5).acked now s (diffV s.ak c.cf.iss)).store now s off).finS now s off).push now
  else((((c.step now 4).acked now s (diffV s.ak c.cf.iss)).store now s off).finS now s off).push now
 else if c.next<diffV s.ak c.cf.iss then c.ackNow.push now
 else(((c.acked now s (diffV s.ak c.cf.iss)).store now s off).finS now s off).push now:=by
 unfold Cn.process;dsimp only;by_cases h2:c.st=2
 ·rw[if_pos h2,if_pos h2];by_cases h3:diffV s.ak c.cf.iss<1\/c.next<diffV s.ak c.cf.iss
  ·rw[if_pos h3,if_pos h3]
  rw[if_neg h3,if_neg h3];by_cases h5:(c.step now 4).shut=true
  ·rw[if_pos h5,if_pos h5]
  rw[if_neg h5,if_neg h5]
 rw[if_neg h2,if_neg h2]
theorem tprocess_any (f:Fp) (c:Cn) (now:Int) (s:Sg) (off:Int) (a:Option Addr) (cap:Nat) (w:World) (h:CnAt f c w) (ok:c.Ok) (hn:In64 now) (hs:s.Ok) (hb:BlIn w a s.bl) (ho: -2147483648<=off/\off<=2147483647) :
  Calls Tryz.prog 69 #[.pointer (some ⟨f.C,0,none⟩),.int .i64 now,sgV s a cap,.int .i64 off] w (LstOut f w (c.process now s off).2 (c.process now s off).1):=by
 have HN:=hid hn;have HSO:=hid hs;have hgt:=h.gl.top;have hlt:=h.lt;have HO:=hid ok;have HS:=hid (Sw.start (x:=(s,a,cap)) h hb);clear h hb ok hs hn;unfold sgV;have HPO:=hid (show(c.process now s off)=c.process now s off from rfl);obtain⟨R,hR⟩:∃R,R=c.process now s off:=⟨_,rfl⟩;rw[<-hR];have HR:=hid hR;clear hR HPO;have hab:=diffV_bd s.ak c.cf.iss;have hun:=HO.una;obtain⟨hun0,hun1,hun2⟩:=hun
 go_enter Tryz.func69,Tryz.ntmps69
 go_wp2_with fail;change Code.wp _ _ _ _ (w.alloc (.cells (sgL (s,a,cap)).toArray 43));generalize w.alloc (.cells (sgL (s,a,cap)).toArray 43)=w1 at HS|-;refine wpB (fun W:World=>W.cell? ⟨w.heap.size,3,none⟩=some (.int .i64 s.ak)/\W.cell? ⟨f.C,24,none⟩=some (.int .i64 c.cf.iss)) (⟨HS.row.cell 3 (.int .i64 s.ak) rfl,HS.cn.cell 24 (.int .i64 c.cf.iss) rfl⟩) fun hZ=>?_;replace HS:=hid HS.drew;generalize w1.drew=w1d at HS hZ|-;refine wpT4 0 1 2 3 ?_;refine wpT2 4 5 ?_;refine wpT 6 ?_;refine wpR 7 fun Kq hKq=> ?_;go_simp;refine(diff_any _ _ _).mono ?_;rintro e w2⟨rfl,rfl⟩;go_simp;refine hKq.out _ _ (⟨HS.row.cell 3 (.int .i64 s.ak) rfl,HS.cn.cell 24 (.int .i64 c.cf.iss) rfl⟩) ?_;clear hKq Kq hZ;refine fun hZ=>wpA ?_;refine wpT 8 ?_;refine wpD ?_ _;clear hZ;have HRQ:=hid (Cn.process_eq c now s off);obtain⟨ak,hak⟩:∃ak,ak=diffV s.ak c.cf.iss:=⟨_,rfl⟩;rw[<-hak]at HRQ hab|-;clear hak;have c28:=HS.cn.cell 28 (.int .i64 c.st) rfl;by_cases h2:c.st=2
 ·by_cases h3:ak<1
  ·have HRF:=hid (HRQ.trans (by rw[if_pos h2,if_pos (.inl h3)]));have hdh3:decide (ak<1)=true:=decide_eq_true h3;clear h3;have c3:=HS.row.cell 3 (.int .i64 s.ak) rfl;rw[h2]at c28;go_wp2_with fail;refine(treset_any f c s.ak _ HS.cn).mono ?_;rintro e w4⟨rfl,hb⟩;replace HS:=hid (HS.bel hb);clear hb;unfold sgV;clear c3;have hb8:=(Below.refl w4.heap.size w4).alloc (Nat.le_refl _) (.cells (sgL ((c.resetS s.ak),none,0)).toArray 43);have HNW:=hid (one_cells (SgRow.new w4 ((c.resetS s.ak),none,0)));replace HS:=hid (HS.bel hb8);clear hb8;go_wp2_with fail;change Calls _ _ #[Value.slice none 0 0,Value.slice (some ⟨w4.heap.size,0,none⟩) [(((c.resetS s.ak),none,0):SgM)].length 1] (w4.alloc (.cells (sgL ((c.resetS s.ak),none,0)).toArray 43)) _;generalize w4.heap.size=NB at HNW|-;generalize w4.alloc (.cells (sgL ((c.resetS s.ak),none,0)).toArray 43)=w6 at HNW HS|-;refine(emit_any w6 w.heap.size _ [] (OwnG.nil _ _) NB 0 1 [((c.resetS s.ak),none,0)] HNW.o (fun y hy=>by rw[List.mem_singleton.1 hy];exact BlIn.nil _ _) (by simp) HS.ch.size).mono ?_;rintro e w8⟨v',rfl,h1,h2,-⟩;have HC8:=hid (HS.cn.grown h2 (fun k e=>by cases e));have HX8:=hid (HS.ch.grown h2 (fun k e=>by cases e));have HL:=hid (show OwnS w8 w.heap.size v' [(c.resetS s.ak)]from⟨_,rfl,h1⟩);clear h1 h2;go_wp2;go_ret;exact⟨_,rfl,by rw[HR.o,HRF.o];exact HL.o,by rw[HR.o,HRF.o];exact HC8.o,HX8.o⟩
  by_cases h4:c.next<ak
  ·have HRF:=hid (HRQ.trans (by rw[if_pos h2,if_pos (.inr h4)]));have hdh3:decide (ak<1)=false:=decide_eq_false h3;have hdh4:decide (c.next<ak)=true:=decide_eq_true h4;clear h3 h4;rw[h2]at c28;go_wp2_with fail;refine(tnext_any f c _ HS.cn).mono ?_;rintro e w3⟨rfl,hb⟩;replace HS:=hid (HS.bel hb);clear hb;have c3:=HS.row.cell 3 (.int .i64 s.ak) rfl;go_wp2_with fail;refine(treset_any f c s.ak _ HS.cn).mono ?_;rintro e w4⟨rfl,hb⟩;replace HS:=hid (HS.bel hb);clear hb;unfold sgV;clear c3;have hb8:=(Below.refl w4.heap.size w4).alloc (Nat.le_refl _) (.cells (sgL ((c.resetS s.ak),none,0)).toArray 43);have HNW:=hid (one_cells (SgRow.new w4 ((c.resetS s.ak),none,0)));replace HS:=hid (HS.bel hb8);clear hb8;go_wp2_with fail;change Calls _ _ #[Value.slice none 0 0,Value.slice (some ⟨w4.heap.size,0,none⟩) [(((c.resetS s.ak),none,0):SgM)].length 1] (w4.alloc (.cells (sgL ((c.resetS s.ak),none,0)).toArray 43)) _;generalize w4.heap.size=NB at HNW|-;generalize w4.alloc (.cells (sgL ((c.resetS s.ak),none,0)).toArray 43)=w6 at HNW HS|-;refine(emit_any w6 w.heap.size _ [] (OwnG.nil _ _) NB 0 1 [((c.resetS s.ak),none,0)] HNW.o (fun y hy=>by rw[List.mem_singleton.1 hy];exact BlIn.nil _ _) (by simp) HS.ch.size).mono ?_;rintro e w8⟨v',rfl,h1,h2,-⟩;have HC8:=hid (HS.cn.grown h2 (fun k e=>by cases e));have HX8:=hid (HS.ch.grown h2 (fun k e=>by cases e));have HL:=hid (show OwnS w8 w.heap.size v' [(c.resetS s.ak)]from⟨_,rfl,h1⟩);clear h1 h2;go_wp2;go_ret;exact⟨_,rfl,by rw[HR.o,HRF.o];exact HL.o,by rw[HR.o,HRF.o];exact HC8.o,HX8.o⟩
  have H3:=hid h3;have H4:=hid h4;have hdh3:decide (ak<1)=false:=decide_eq_false h3;have hdh4:decide (c.next<ak)=false:=decide_eq_false h4;clear h3 h4;rw[h2]at c28;go_wp2_with fail;refine(tnext_any f c _ HS.cn).mono ?_;rintro e w3⟨rfl,hb⟩;replace HS:=hid (HS.bel hb);clear hb;go_wp2_with fail;refine(tstep_any f c now 4 _ HS.cn HO.st (by decide)).mono ?_;rintro e w9⟨rfl,hc,hch⟩;replace HS:=hid (HS.call hc hch);clear hc hch;have HO2:=hid (HO.step HN.o (HO.tr2 (by rw[h2];decide)) 4);have HT2:=hid (show(c.step now 4).tries<=12 by rw[Cn.step_tries];exact HO.tr2 (by rw[h2];decide));replace HRQ:=hid (HRQ.trans (by rw[if_pos h2,if_neg (by have:=H3.o;have:=H4.o;omega)]));generalize c.step now 4=d2 at HS HO2 HT2 HRQ;clear c28 hdh3 hdh4 H3 H4;have c9:=HS.cn.cell 9 (.bool d2.shut) rfl;by_cases h5:d2.shut=true
  focus
   have HRF:=hid (HRQ.trans (by rw[if_pos h5]));clear HRQ;rw[h5]at c9;go_wp2_with fail;refine(tstep_any f d2 now 5 _ HS.cn HO2.st (by decide)).mono ?_;rintro e w9⟨rfl,hc,hch⟩;replace HS:=hid (HS.call hc hch);clear hc hch;have HO3:=hid (HO2.step HN.o HT2.o 5);generalize d2.step now 5=d3 at HS HO3 HRF;have q0:=HS.row.cell 0 _ rfl;have q1:=HS.row.cell 1 _ rfl;have q2:=HS.row.cell 2 _ rfl;have q3:=HS.row.cell 3 _ rfl;have q4:=HS.row.cell 4 _ rfl;have q5:=HS.row.cell 5 _ rfl;have q6:=HS.row.cell 6 _ rfl;have q7:=HS.row.cell 7 _ rfl;have q8:=HS.row.cell 8 _ rfl;have q9:=HS.row.cell 9 _ rfl;have q10:=HS.row.cell 10 _ rfl;have q11:=HS.row.cell 11 _ rfl;have q12:=HS.row.cell 12 _ rfl;go_wp2_with fail;refine(tacked_any f (d3) now s ak a cap _ HS.cn HO3.o HN.o HSO.o HS.bl hab).mono ?_;rintro e w9⟨rfl,hc,hch⟩;replace HS:=hid (HS.call hc hch);clear hc hch;clear q0 q1 q2 q3 q4 q5 q6 q7 q8 q9 q10 q11 q12;have HO5:=hid (HO3.acked HN.o HSO.o (show ak<=1099511562240 by omega));have HTL:=hid (Cn.Ok.tail (c:=d3) HO3.o HN.o HSO.o ho hab.2);generalize Cn.acked (d3) now s ak=d5 at HS HO5 HTL HRF
  rotate_left 1
  focus
   have h6:d2.shut=false:=by simpa using h5
   have HRF:=hid (HRQ.trans (by rw[if_neg h5]));clear HRQ;rw[h6]at c9;clear h5 h6;have q0:=HS.row.cell 0 _ rfl;have q1:=HS.row.cell 1 _ rfl;have q2:=HS.row.cell 2 _ rfl;have q3:=HS.row.cell 3 _ rfl;have q4:=HS.row.cell 4 _ rfl;have q5:=HS.row.cell 5 _ rfl;have q6:=HS.row.cell 6 _ rfl;have q7:=HS.row.cell 7 _ rfl;have q8:=HS.row.cell 8 _ rfl;have q9:=HS.row.cell 9 _ rfl;have q10:=HS.row.cell 10 _ rfl;have q11:=HS.row.cell 11 _ rfl;have q12:=HS.row.cell 12 _ rfl;go_wp2_with fail;refine(tacked_any f (d2) now s ak a cap _ HS.cn HO2.o HN.o HSO.o HS.bl hab).mono ?_;rintro e w9⟨rfl,hc,hch⟩;replace HS:=hid (HS.call hc hch);clear hc hch;clear q0 q1 q2 q3 q4 q5 q6 q7 q8 q9 q10 q11 q12;have HO5:=hid (HO2.acked HN.o HSO.o (show ak<=1099511562240 by omega));have HTL:=hid (Cn.Ok.tail (c:=d2) HO2.o HN.o HSO.o ho hab.2);generalize Cn.acked (d2) now s ak=d5 at HS HO5 HTL HRF
  all_goals
   have q0:=HS.row.cell 0 _ rfl;have q1:=HS.row.cell 1 _ rfl;have q2:=HS.row.cell 2 _ rfl;have q3:=HS.row.cell 3 _ rfl;have q4:=HS.row.cell 4 _ rfl;have q5:=HS.row.cell 5 _ rfl;have q6:=HS.row.cell 6 _ rfl;have q7:=HS.row.cell 7 _ rfl;have q8:=HS.row.cell 8 _ rfl;have q9:=HS.row.cell 9 _ rfl;have q10:=HS.row.cell 10 _ rfl;have q11:=HS.row.cell 11 _ rfl;have q12:=HS.row.cell 12 _ rfl;go_wp2_with fail;refine(tstore_any f d5 now s off a cap _ HS.cn HO5.1 HSO.o HS.bl ho).mono ?_;rintro e w9⟨rfl,hc,hch⟩;replace HS:=hid (HS.call hc hch);clear hc hch;clear q0 q1 q2 q3 q4 q5 q6 q7 q8 q9 q10 q11 q12;have HO6:=hid (HO5.1.store HN.o HSO.o ho.2);have HT6:=hid (show(d5.store now s off).tries<=12 by rw[Cn.store_tries,HO5.2];decide);generalize d5.store now s off=d6 at HS HO6 HT6 HTL HRF;have q0:=HS.row.cell 0 _ rfl;have q1:=HS.row.cell 1 _ rfl;have q2:=HS.row.cell 2 _ rfl;have q3:=HS.row.cell 3 _ rfl;have q4:=HS.row.cell 4 _ rfl;have q5:=HS.row.cell 5 _ rfl;have q6:=HS.row.cell 6 _ rfl;have q7:=HS.row.cell 7 _ rfl;have q8:=HS.row.cell 8 _ rfl;have q9:=HS.row.cell 9 _ rfl;have q10:=HS.row.cell 10 _ rfl;have q11:=HS.row.cell 11 _ rfl;have q12:=HS.row.cell 12 _ rfl;go_wp2_with fail;refine(tfinS_any f d6 now s off a cap _ HS.cn HO6.o HN.o HSO.o HS.bl ho HT6.o).mono ?_;rintro e w9⟨rfl,hc,hch⟩;replace HS:=hid (HS.call hc hch);clear hc hch;clear q0 q1 q2 q3 q4 q5 q6 q7 q8 q9 q10 q11 q12;have HO7:=hid (HO6.finS HN.o HSO.o ho HT6.o);generalize d6.finS now s off=d7 at HS HO7 HRF;go_wp2_with fail;refine(tpush_any f d7 now _ HS.cn HO7.o HN.o).mono ?_;rintro e wz⟨v,rfl,hl,hc,hch⟩;have HL:=hid (show OwnS wz w.heap.size v _ from OwnS.base hl HS.ch.size);have HCZ:=hid hc;have HXZ:=hid (HS.ch.trans hch);clear hl hc hch;go_wp2;go_ret;exact⟨_,rfl,by rw[HR.o,HRF.o];exact HL.o,by rw[HR.o,HRF.o];exact HCZ.o,HXZ.o⟩
 have hd2:(c.st==2)=false:=beq_eq_false_iff_ne.2 h2;have H2:=hid h2;clear h2;by_cases h4:c.next<ak
 focus
  have HRF:=hid (HRQ.trans (by rw[if_neg H2.o,if_pos h4]));have hdh4:decide (c.next<ak)=true:=decide_eq_true h4;clear h4 HRQ;go_wp2_with fail;refine(tnext_any f c _ HS.cn).mono ?_;rintro e w3⟨rfl,hb⟩;replace HS:=hid (HS.bel hb);clear hb;go_wp2_with fail;refine(tack_any f c _ HS.cn).mono ?_;rintro e w9⟨rfl,hc,hch⟩;replace HS:=hid (HS.call hc hch);clear hc hch;have HO3:=hid HO.ackNow;go_wp2_with fail;refine(tpush_any f c.ackNow now _ HS.cn HO3.o HN.o).mono ?_
 rotate_left 1
 focus
  have HRF:=hid (HRQ.trans (by rw[if_neg H2.o,if_neg h4]));have hdh4:decide (c.next<ak)=false:=decide_eq_false h4;clear h4 HRQ;go_wp2_with fail;refine(tnext_any f c _ HS.cn).mono ?_;rintro e w3⟨rfl,hb⟩;replace HS:=hid (HS.bel hb);clear hb;have q0:=HS.row.cell 0 _ rfl;have q1:=HS.row.cell 1 _ rfl;have q2:=HS.row.cell 2 _ rfl;have q3:=HS.row.cell 3 _ rfl;have q4:=HS.row.cell 4 _ rfl;have q5:=HS.row.cell 5 _ rfl;have q6:=HS.row.cell 6 _ rfl;have q7:=HS.row.cell 7 _ rfl;have q8:=HS.row.cell 8 _ rfl;have q9:=HS.row.cell 9 _ rfl;have q10:=HS.row.cell 10 _ rfl;have q11:=HS.row.cell 11 _ rfl;have q12:=HS.row.cell 12 _ rfl;go_wp2_with fail;refine(tacked_any f (c) now s ak a cap _ HS.cn HO.o HN.o HSO.o HS.bl hab).mono ?_;rintro e w9⟨rfl,hc,hch⟩;replace HS:=hid (HS.call hc hch);clear hc hch;clear q0 q1 q2 q3 q4 q5 q6 q7 q8 q9 q10 q11 q12;have HO5:=hid (HO.acked HN.o HSO.o (show ak<=1099511562240 by omega));have HTL:=hid (Cn.Ok.tail (c:=c) HO.o HN.o HSO.o ho hab.2);generalize Cn.acked (c) now s ak=d5 at HS HO5 HTL HRF;have q0:=HS.row.cell 0 _ rfl;have q1:=HS.row.cell 1 _ rfl;have q2:=HS.row.cell 2 _ rfl;have q3:=HS.row.cell 3 _ rfl;have q4:=HS.row.cell 4 _ rfl;have q5:=HS.row.cell 5 _ rfl;have q6:=HS.row.cell 6 _ rfl;have q7:=HS.row.cell 7 _ rfl;have q8:=HS.row.cell 8 _ rfl;have q9:=HS.row.cell 9 _ rfl;have q10:=HS.row.cell 10 _ rfl;have q11:=HS.row.cell 11 _ rfl;have q12:=HS.row.cell 12 _ rfl;go_wp2_with fail;refine(tstore_any f d5 now s off a cap _ HS.cn HO5.1 HSO.o HS.bl ho).mono ?_;rintro e w9⟨rfl,hc,hch⟩;replace HS:=hid (HS.call hc hch);clear hc hch;clear q0 q1 q2 q3 q4 q5 q6 q7 q8 q9 q10 q11 q12;have HO6:=hid (HO5.1.store HN.o HSO.o ho.2);have HT6:=hid (show(d5.store now s off).tries<=12 by rw[Cn.store_tries,HO5.2];decide);generalize d5.store now s off=d6 at HS HO6 HT6 HTL HRF;have q0:=HS.row.cell 0 _ rfl;have q1:=HS.row.cell 1 _ rfl;have q2:=HS.row.cell 2 _ rfl;have q3:=HS.row.cell 3 _ rfl;have q4:=HS.row.cell 4 _ rfl;have q5:=HS.row.cell 5 _ rfl;have q6:=HS.row.cell 6 _ rfl;have q7:=HS.row.cell 7 _ rfl;have q8:=HS.row.cell 8 _ rfl;have q9:=HS.row.cell 9 _ rfl;have q10:=HS.row.cell 10 _ rfl;have q11:=HS.row.cell 11 _ rfl;have q12:=HS.row.cell 12 _ rfl;go_wp2_with fail;refine(tfinS_any f d6 now s off a cap _ HS.cn HO6.o HN.o HSO.o HS.bl ho HT6.o).mono ?_;rintro e w9⟨rfl,hc,hch⟩;replace HS:=hid (HS.call hc hch);clear hc hch;clear q0 q1 q2 q3 q4 q5 q6 q7 q8 q9 q10 q11 q12;have HO7:=hid (HO6.finS HN.o HSO.o ho HT6.o);generalize d6.finS now s off=d7 at HS HO7 HRF;go_wp2_with fail;refine(tpush_any f d7 now _ HS.cn HO7.o HN.o).mono ?_
 all_goals
  rintro e wz⟨v,rfl,hl,hc,hch⟩;have HL:=hid (show OwnS wz w.heap.size v _ from OwnS.base hl HS.ch.size);have HCZ:=hid hc;have HXZ:=hid (HS.ch.trans hch);clear hl hc hch;go_wp2;go_ret;exact⟨_,rfl,by rw[HR.o,HRF.o];exact HL.o,by rw[HR.o,HRF.o];exact HCZ.o,HXZ.o⟩
end
section
set_option maxHeartbeats 8000000
set_option maxRecDepth 100000
open Go.RowKit Go.Shelf
theorem segLen_eq {s:Sg}(h:s.Ok):segLen s=s.s.length+(if s.syn=true\/s.fin=true then 1 else 0):=by
 unfold segLen;have:=h.fl.1
 cases h1:s.syn <;> cases h2:s.fin <;> simp_all <;> omega
theorem Cn.stray_eq (c:Cn)(now:Int)(s:Sg):c.stray now s =
 (let a:=if(syncB c.st=true/\s.has=true/\s.syn=false)/\c.una<=diffV s.ak c.cf.iss/\diffV s.ak c.cf.iss<=c.next then c.acked now s (diffV s.ak c.cf.iss)else c
  let b:Cn:=if a.st=9/\s.fin=true then { a with per:=.aft now 60 }else a
  (if 0<segLen s then b.ackNow else b).push now):=by
 unfold Cn.stray;dsimp only
 congr 1
 simp only[and_assoc]
theorem tseglen_any (s:Sg)(a:Option Addr)(cap:Nat)(w:World)(hs:s.Ok) :
  Calls Tryz.prog 55 #[sgV s a cap] w fun e w'=>e= .returned (.int .i64 (segLen s))/\Below w.heap.size w w':=by
 have h:=seglen_any s a cap ⟨s.s.toArray⟩ w (by simp[ByteArray.size]) (by have:=hs.slen;omega);rw[<-segLen_eq hs]at h;unfold sgV;exact h
theorem tstray_any (f:Fp) (c:Cn) (now:Int) (s:Sg) (a:Option Addr) (cap:Nat) (w:World) (h:CnAt f c w) (ok:c.Ok) (hn:In64 now) (hs:s.Ok) (hb:BlIn w a s.bl) (h0:c.st≠0) :
  Calls Tryz.prog 66 #[.pointer (some ⟨f.C,0,none⟩),.int .i64 now,sgV s a cap] w (LstOut f w (c.stray now s).2 (c.stray now s).1):=by
 have HT0:=hid (ok.tr2 h0);have HN:=hid hn;have HSO:=hid hs;have hgt:=h.gl.top;have hlt:=h.lt;have HO:=hid ok;have HS:=hid (Sw.start (x:=(s,a,cap)) h hb);clear h hb ok hs hn;unfold sgV;obtain⟨R,hR⟩:∃R,R=c.stray now s:=⟨_,rfl⟩;rw[<-hR];have HR:=hid (hR.trans (Cn.stray_eq c now s));clear hR;have hab:=diffV_bd s.ak c.cf.iss;have hun:=HO.una;obtain⟨hun0,hun1,hun2⟩:=hun;obtain⟨A,hA⟩:∃A,A=if(syncB c.st=true/\s.has=true/\s.syn=false)/\c.una<=diffV s.ak c.cf.iss/\diffV s.ak c.cf.iss<=c.next then c.acked now s (diffV s.ak c.cf.iss)else c:=⟨_,rfl⟩;have HA:=hid hA;have HAO:=hid (show A.Ok/\A.tries<=12 from by rw[hA];split;(have:=HO.acked HN.o HSO.o (show diffV s.ak c.cf.iss<=1099511562240 by omega);exact⟨this.1,by rw[this.2];decide⟩);exact⟨HO.o,HT0.o⟩);replace HR:=hid (show R=(let b:Cn:=if A.st=9/\s.fin=true then { A with per:=.aft now 60 }else A;(if 0<segLen s then b.ackNow else b).push now) by rw[HR.o,hA]);clear hA;obtain⟨b,hbq⟩:∃b:Cn,b=if A.st=9/\s.fin=true then { A with per:=.aft now 60 }else A:=⟨_,rfl⟩;replace HR:=hid (show R=(if 0<segLen s then b.ackNow else b).push now by rw[HR.o,hbq]);have HB:=hid hbq;have HBO:=hid (show b.Ok from by rw[hbq];split;(exact { HAO.1 with per:=Al.aft_ok HN.o (by decide) (by decide) });exact HAO.1);clear hbq
 go_enter Tryz.func66,Tryz.ntmps66
 go_upto_region 1 with fail
 change Code.wp _ _ _ _ (w.alloc (.cells (sgL (s,a,cap)).toArray 43));generalize w.alloc (.cells (sgL (s,a,cap)).toArray 43)=w1 at HS|-
 go_cut [21]from 8 to 22 (fun v wx=>v= .bool (decide (syncB c.st=true/\s.has=true/\s.syn=false))/\wx=w1)
 case first =>
  have c28:=HS.cn.cell 28 (.int .i64 c.st) rfl;have r7:=HS.row.cell 7 (.bool s.has) rfl;have r4:=HS.row.cell 4 (.bool s.syn) rfl;by_cases h1:syncB c.st=true
  ·have h1b:synced c.st=true:=h1;have H1:=hid h1;clear h1;by_cases h2:s.has=true
   ·by_cases h3:s.syn=false
    ·rw[h2]at r7;rw[h3]at r4;have H2:=hid h2;have H3:=hid h3;clear h2 h3;go_wp2_with fail;refine(synchronized_any c.st _).mono ?_;rintro e w2⟨rfl,rfl⟩;rw[h1b];go_wp2_with fail
     go_meet
     case rel=>exact⟨congrArg Value.bool (decide_eq_true ⟨H1.o,H2.o,H3.o⟩).symm,rfl⟩
    have h3b:s.syn=true:=by simpa using h3
    rw[h2]at r7;rw[h3b]at r4;have H2:=hid h2;have H3:=hid h3;clear h2 h3 h3b;go_wp2_with fail;refine(synchronized_any c.st _).mono ?_;rintro e w2⟨rfl,rfl⟩;rw[h1b];go_wp2_with fail
    go_meet
    case rel=>exact⟨congrArg Value.bool (decide_eq_false (fun h=>H3.o h.2.2)).symm,rfl⟩
   have h2b:s.has=false:=by simpa using h2
   rw[h2b]at r7;have H2:=hid h2;clear h2 h2b;go_wp2_with fail;refine(synchronized_any c.st _).mono ?_;rintro e w2⟨rfl,rfl⟩;rw[h1b];go_wp2_with fail
   go_meet
   case rel=>exact⟨congrArg Value.bool (decide_eq_false (fun h=>H2.o h.2.1)).symm,rfl⟩
  have h1b:synced c.st=false:=by cases hq:synced c.st with | false=>rfl | true=>exact absurd hq h1
  have H1:=hid h1;clear h1;go_wp2_with fail;refine(synchronized_any c.st _).mono ?_;rintro e w2⟨rfl,rfl⟩;rw[h1b];go_wp2_with fail
  go_meet
  case rel=>exact⟨congrArg Value.bool (decide_eq_false (fun h=>H1.o h.1)).symm,rfl⟩
 case rest =>
  obtain⟨rfl,rfl⟩:=hcut
  go_upto_if 21 with fail
  go_cut []from 7 to 49 (fun wx=>Sw f w w.heap.size (s,a,cap) A wx)
  case first =>
   by_cases hp:syncB c.st=true/\s.has=true/\s.syn=false
   ·rw[decide_eq_true hp];have HP:=hid hp;clear hp;go_wp2_with fail;refine wpB (fun W:World=>W.cell? ⟨w.heap.size,3,none⟩=some (.int .i64 s.ak)/\W.cell? ⟨f.C,24,none⟩=some (.int .i64 c.cf.iss)) (⟨HS.row.cell 3 (.int .i64 s.ak) rfl,HS.cn.cell 24 (.int .i64 c.cf.iss) rfl⟩) fun hZ=>?_;replace HS:=hid HS.drew;generalize wc.drew=wcd at HS hZ|-;refine wpT4 0 1 2 3 ?_;refine wpT2 4 5 ?_;refine wpT 6 ?_;refine wpR 7 fun Kq hKq=> ?_;go_simp;refine(diff_any _ _ _).mono ?_;rintro e w3⟨rfl,rfl⟩;go_simp;refine hKq.out _ _ (⟨HS.row.cell 3 (.int .i64 s.ak) rfl,HS.cn.cell 24 (.int .i64 c.cf.iss) rfl⟩) ?_;clear hKq Kq hZ;refine fun hZ=>wpA ?_;refine wpT 8 ?_;refine wpD ?_ _;clear hZ;obtain⟨ak,hak⟩:∃ak,ak=diffV s.ak c.cf.iss:=⟨_,rfl⟩;rw[<-hak]at HA hab|-;clear hak
    skip
    by_cases h4:c.una<=ak
    ·by_cases h5:ak<=c.next
     ·have HE:=hid (show A=c.acked now s ak by rw[HA.o];exact if_pos ⟨HP.o,h4,h5⟩);have hdh4:decide (c.una<=ak)=true:=decide_eq_true h4;have hdh5:decide (ak<=c.next)=true:=decide_eq_true h5;clear h4 h5;go_wp2_with fail;refine(tuna_any f c _ HS.cn).mono ?_;rintro e w4⟨rfl,hb⟩;replace HS:=hid (HS.bel hb);clear hb;go_wp2_with fail;refine(tnext_any f c _ HS.cn).mono ?_;rintro e w5⟨rfl,hb⟩;replace HS:=hid (HS.bel hb);clear hb;have q0:=HS.row.cell 0 _ rfl;have q1:=HS.row.cell 1 _ rfl;have q2:=HS.row.cell 2 _ rfl;have q3:=HS.row.cell 3 _ rfl;have q4:=HS.row.cell 4 _ rfl;have q5:=HS.row.cell 5 _ rfl;have q6:=HS.row.cell 6 _ rfl;have q7:=HS.row.cell 7 _ rfl;have q8:=HS.row.cell 8 _ rfl;have q9:=HS.row.cell 9 _ rfl;have q10:=HS.row.cell 10 _ rfl;have q11:=HS.row.cell 11 _ rfl;have q12:=HS.row.cell 12 _ rfl;go_wp2_with fail;refine(tacked_any f c now s ak a cap _ HS.cn HO.o HN.o HSO.o HS.bl hab).mono ?_;rintro e w9⟨rfl,hc,hch⟩;replace HS:=hid (HS.call hc hch);clear hc hch;clear q0 q1 q2 q3 q4 q5 q6 q7 q8 q9 q10 q11 q12;go_wp2_with fail
      go_meet
      case rel=>exact HS.eq HE.o
     have HE:=hid (show A=c by rw[HA.o];exact if_neg (fun h=>by have:=h.2.2;omega));have hdh4:decide (c.una<=ak)=true:=decide_eq_true h4;have hdh5:decide (ak<=c.next)=false:=decide_eq_false h5;clear h4 h5;go_wp2_with fail;refine(tuna_any f c _ HS.cn).mono ?_;rintro e w4⟨rfl,hb⟩;replace HS:=hid (HS.bel hb);clear hb;go_wp2_with fail;refine(tnext_any f c _ HS.cn).mono ?_;rintro e w5⟨rfl,hb⟩;replace HS:=hid (HS.bel hb);clear hb;go_wp2_with fail
     go_meet
     case rel=>exact HS.eq HE.o
    have HE:=hid (show A=c by rw[HA.o];exact if_neg (fun h=>by have:=h.2.1;omega));have hdh4:decide (c.una<=ak)=false:=decide_eq_false h4;clear h4;go_wp2_with fail;refine(tuna_any f c _ HS.cn).mono ?_;rintro e w4⟨rfl,hb⟩;replace HS:=hid (HS.bel hb);clear hb;go_wp2_with fail
    go_meet
    case rel=>exact HS.eq HE.o
   rw[decide_eq_false hp];have HE:=hid (show A=c by rw[HA.o];exact if_neg (fun h=>hp h.1));clear hp;go_wp2_with fail
   go_meet
   case rel=>exact HS.eq HE.o
  case rest =>
   replace HS:=hid hcut;clear hcut HA hun0 hun1 hun2 hab;have c28:=HS.cn.cell 28 (.int .i64 A.st) rfl;have r5:=HS.row.cell 5 (.bool s.fin) rfl
   go_upto_region 5 with fail
   go_cut [57]from 49 to 58 (fun v wx=>v= .bool (decide (A.st=9/\s.fin=true))/\wx=wc)
   case first =>
    by_cases h6:A.st=9
    ·have H6:=hid h6;rw[h6]at c28;clear h6;by_cases h7:s.fin=true
     ·rw[h7]at r5;have H7:=hid h7;clear h7;go_wp2_with fail
      go_meet
      case rel=>exact⟨congrArg Value.bool (decide_eq_true ⟨H6.o,H7.o⟩).symm,rfl⟩
     have h7b:s.fin=false:=by simpa using h7
     rw[h7b]at r5;have H7:=hid h7;clear h7 h7b;go_wp2_with fail
     go_meet
     case rel=>exact⟨congrArg Value.bool (decide_eq_false (fun h=>H7.o h.2)).symm,rfl⟩
    have h6b:(A.st==9)=false:=beq_eq_false_iff_ne.2 h6;have H6:=hid h6;clear h6;go_wp2_with fail
    go_meet
    case rel=>exact⟨congrArg Value.bool (decide_eq_false (fun h=>H6.o h.1)).symm,rfl⟩
   case rest =>
    obtain⟨rfl,hwc⟩:=hcut;subst hwc;clear c28 r5
    go_upto_if 57 with fail
    go_cut []from 57 to 63 (fun wx=>Sw f w w.heap.size (s,a,cap) b wx)
    case first =>
     by_cases hq:A.st=9/\s.fin=true
     ·rw[decide_eq_true hq];have HE:=hid (show b={ A with per:=.aft now 60 } by rw[HB.o];exact if_pos hq);clear hq;go_wp2_with fail;refine(tafter_any _ _ _).mono ?_;rintro e w7⟨rfl,hb⟩;replace HS:=hid (HS.bel hb);clear hb;have c34:=HS.cn.cell 34 (.bool A.per.set) rfl;have c35:=HS.cn.cell 35 (.int .i64 A.per.since) rfl;have c36:=HS.cn.cell 36 (.int .i64 A.per.ticks) rfl;have f34:=HS.cn.free 34;have f35:=HS.cn.free 35;have f36:=HS.cn.free 36;have HS2:=hid (HS.call (((HS.cn.set 34 (.bool true) { A with per:=⟨true,A.per.since,A.per.ticks⟩ } rfl rfl rfl rfl rfl).set 35 (.int .i64 now) { A with per:=⟨true,now,A.per.ticks⟩ } rfl rfl rfl rfl rfl).set 36 (.int .i64 60) { A with per:=.aft now 60 } rfl rfl rfl rfl rfl) (.ofC ((((Chg.refl _ _).setCell 34 _).setCell 35 _).setCell 36 _)));go_wp2_with fail
      go_meet
      case rel=>exact HS2.eq HE.o
     rw[decide_eq_false hq];have HE:=hid (show b=A by rw[HB.o];exact if_neg hq);clear hq;go_wp2_with fail
     go_meet
     case rel=>exact HS.eq HE.o
    case rest =>
     replace HS:=hid hcut;clear hcut HB HAO;have q0:=HS.row.cell 0 _ rfl;have q1:=HS.row.cell 1 _ rfl;have q2:=HS.row.cell 2 _ rfl;have q3:=HS.row.cell 3 _ rfl;have q4:=HS.row.cell 4 _ rfl;have q5:=HS.row.cell 5 _ rfl;have q6:=HS.row.cell 6 _ rfl;have q7:=HS.row.cell 7 _ rfl;have q8:=HS.row.cell 8 _ rfl;have q9:=HS.row.cell 9 _ rfl;have q10:=HS.row.cell 10 _ rfl;have q11:=HS.row.cell 11 _ rfl;have q12:=HS.row.cell 12 _ rfl;go_wp2_with fail;refine(tseglen_any s a cap _ HSO.o).mono ?_;rintro e w8⟨rfl,hb⟩;replace HS:=hid (HS.bel hb);clear hb;clear q0 q1 q2 q3 q4 q5 q6 q7 q8 q9 q10 q11 q12;by_cases h9:0<segLen s
     ·have H9:=hid h9;have hd9:decide (0<segLen s)=true:=decide_eq_true h9;clear h9;go_wp2_with fail;refine(tack_any f b _ HS.cn).mono ?_;rintro e w9⟨rfl,hc,hch⟩;replace HS:=hid (HS.call hc hch);clear hc hch;go_wp2_with fail;refine(tpush_any f b.ackNow now _ HS.cn HBO.ackNow HN.o).mono ?_;rintro e wz⟨v,rfl,hl,hc,hch⟩;have HL:=hid (show OwnS wz w.heap.size v _ from OwnS.base hl HS.ch.size);have HCZ:=hid hc;have HXZ:=hid (HS.ch.trans hch);clear hl hc hch;go_wp2;go_ret;exact⟨_,rfl,by rw[HR.o,if_pos H9.o];exact HL.o,by rw[HR.o,if_pos H9.o];exact HCZ.o,HXZ.o⟩
     have H9:=hid h9;have hd9:decide (0<segLen s)=false:=decide_eq_false h9;clear h9;go_wp2_with fail;refine(tpush_any f b now _ HS.cn HBO.o HN.o).mono ?_;rintro e wz⟨v,rfl,hl,hc,hch⟩;have HL:=hid (show OwnS wz w.heap.size v _ from OwnS.base hl HS.ch.size);have HCZ:=hid hc;have HXZ:=hid (HS.ch.trans hch);clear hl hc hch;go_wp2;go_ret;exact⟨_,rfl,by rw[HR.o,if_neg (by have:=H9.o;omega)];exact HL.o,by rw[HR.o,if_neg (by have:=H9.o;omega)];exact HCZ.o,HXZ.o⟩
end
end Go.Proofs.YtclkcmidhhfdmaaGreatDoor
