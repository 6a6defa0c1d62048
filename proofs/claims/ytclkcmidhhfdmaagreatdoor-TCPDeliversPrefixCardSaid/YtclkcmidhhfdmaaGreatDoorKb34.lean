import Derived.Test.YtclkcmidhhfdmaaGreatDoorKb33
namespace Go.Proofs.YtclkcmidhhfdmaaGreatDoor
open Lib (hid)
section
set_option maxHeartbeats 8000000
set_option maxRecDepth 100000
open Go.RowKit Go.Shelf
theorem texpire_any (f:Fp) (c:Cn) (w:World) (h:CnAt f c w) (ok:c.Ok) :
  Calls Tryz.prog 76 #[.pointer (some ⟨f.C,0,none⟩)] w (LstOut f w c.expire.2 c.expire.1):=by
 have hgt:=h.gl.top;have HO:=hid ok;have HC:=hid h;have HX:=hid (ChgF.refl f w);have hfl:=ok.flight;have hu:=ok.una;obtain ⟨hu0,hu1,hu2⟩:=hu;have hun:=ok.unsent;have hlm:=ok.lim;have hms:=ok.mss;clear h ok;by_cases hp:0<c.flight
 ·have HE:=hid (show c.expire=({ c with cg:=c.cg.timeout c.flight,sc:=c.sc.timeout,mark:=c.next },[]) by unfold Cn.expire;rw [if_pos hp]);rw [HE.out]
  go_enter Tryz.func76,Tryz.ntmps76
  go_wp2_with fail;refine (tflight_any f c _ HC.out HO.out.sc).mono ?_;rintro e w1 ⟨rfl,hb⟩;replace HX:=hid (HX.out.trans (.ofB hb));replace HC:=hid (HC.out.below hb);clear hb;have hd:decide (0<c.flight)=true:=decide_eq_true hp;have c2:=HC.out.cell 2 (.pointer (some ⟨f.G,0,none⟩)) rfl;go_wp2_with fail;refine wp_region_held_drew (S:=(fun W:World=>W.cell? ⟨f.C,2,none⟩=some (.pointer (some ⟨f.G,0,none⟩)))) (by kernel_rfl) (c2) (fun hZ=> ?_);have hb:=(Below.refl w1.heap.size w1).drew;replace HX:=hid (HX.out.trans (.ofB hb));replace HC:=hid (HC.out.below hb);clear hb c2;generalize w1.drew=w2 at HC HX hZ ⊢;refine wpT 0 ?_;refine wpT 1 ?_;refine wpT 2 ?_;refine wpT 3 ?_;refine wpT 4 ?_;refine wpT 5 ?_;refine wpT 6 ?_;refine wpT 7 ?_;refine wpT 9 ?_;refine wpT 10 ?_;refine wpT 11 ?_;refine wpR 8 fun Kq hKq=> ?_;go_simp;refine (tflight_any f c w2 HC.out HO.out.sc).mono ?_;rintro e w3 ⟨rfl,hb⟩;replace HX:=hid (HX.out.trans (.ofB hb));replace HC:=hid (HC.out.below hb);clear hb;go_simp;refine hKq.out _ _ (HC.out.cell 2 _ rfl) fun hI=>wpA ?_;clear hKq Kq hZ;have hZ:=hI;clear hI;refine wpR 12 fun Kq hKq=> ?_;go_simp;refine (tnext_any f c w3 HC.out).mono ?_;rintro e w4 ⟨rfl,hb⟩;replace HX:=hid (HX.out.trans (.ofB hb));replace HC:=hid (HC.out.below hb);clear hb;go_simp;refine hKq.out _ _ (HC.out.cell 2 _ rfl) fun hI=>wpA ?_;clear hKq Kq hZ;have hZ:=hI;clear hI;refine wpR 13 fun Kq hKq=> ?_;go_simp;refine (timeout_any f.G c.cg c.flight c.next (by unfold In64;omega) HO.out.cg w4 HC.out.cg).mono ?_;rintro e w5 ⟨rfl,hs,hc⟩;replace HX:=hid (HX.out.trans (.ofG hc));have HC2:=hid (HC.out.onG hs hc);clear hs hc HC;go_simp;refine hKq.out _ _ (HC2.out.cell 2 _ rfl) fun hI=>wpA ?_;clear hKq Kq hZ;have hZ:=hI;clear hI;refine wpAnyH_done (by kernel_rfl) ?_ _;clear hZ;have c0:=HC2.out.cell 0 (.pointer (some ⟨f.S,0,none⟩)) rfl;go_wp2_with fail;refine (sctimeout_any f.S (f.S+1) c.sc _ HC2.out.sc).mono ?_;rintro e w6 ⟨rfl,hs,hc⟩;replace HX:=hid (HX.out.trans (.ofS hc));have HC3:=hid (HC2.out.onS hs hc);clear hs hc HC2 c0;go_wp2_with fail;refine (tnext_any f _ _ HC3.out).mono ?_;rintro e w7 ⟨rfl,hb⟩;replace HX:=hid (HX.out.trans (.ofB hb));replace HC3:=hid (HC3.out.below hb);clear hb;have c10:=HC3.out.cell 10 (.int .i64 c.mark) rfl;have f10:=HC3.out.free 10;go_wp2_with fail;go_ret;exact ⟨_,rfl,OwnS.nil _ _,HC3.out.set 10 _ _ rfl rfl rfl rfl rfl,HX.out.trans (.ofC ((Chg.refl _ _).setCell 10 _))⟩
 by_cases hz:c.unsent=0
 ·have HE:=hid (show c.expire=(c,[]) by unfold Cn.expire;rw [if_neg hp,if_pos hz]);rw [HE.out];have hd:decide (0<c.flight)=false:=decide_eq_false hp
  go_enter Tryz.func76,Tryz.ntmps76
  go_wp2_with fail;refine (tflight_any f c _ HC.out HO.out.sc).mono ?_;rintro e w1 ⟨rfl,hb⟩;replace HX:=hid (HX.out.trans (.ofB hb));replace HC:=hid (HC.out.below hb);clear hb;go_wp2_with fail;refine (tunsent_any f c _ HC.out HO.out.sc (base_rng HO.out) (held_rng HO.out)).mono ?_;rintro e w2 ⟨rfl,hb⟩;replace HX:=hid (HX.out.trans (.ofB hb));replace HC:=hid (HC.out.below hb);clear hb;rw [hz];go_wp2_with fail;go_ret;exact ⟨_,rfl,OwnS.nil _ _,HC.out,HX.out⟩
 obtain ⟨n,hn⟩:∃ n,n=max 1 (min (min c.mss (c.limit-c.next)) c.unsent):=⟨_,rfl⟩;have HE:=hid (show c.expire=(c.freshC n,[c.freshS n]) by unfold Cn.expire;rw [if_neg hp,if_neg hz,←hn]);rw [HE.out];have HN0:=hid hn;have hnb:0<=n/\n<=1000:=by omega
 clear hn;have hd:decide (0<c.flight)=false:=decide_eq_false hp
 go_enter Tryz.func76,Tryz.ntmps76
 go_wp2_with fail;refine (tflight_any f c _ HC.out HO.out.sc).mono ?_;rintro e w1 ⟨rfl,hb⟩;replace HX:=hid (HX.out.trans (.ofB hb));replace HC:=hid (HC.out.below hb);clear hb;have hdz:(c.unsent==0)=false:=beq_eq_false_iff_ne.2 hz;go_wp2_with fail;refine (tunsent_any f c _ HC.out HO.out.sc (base_rng HO.out) (held_rng HO.out)).mono ?_;rintro e w2 ⟨rfl,hb⟩;replace HX:=hid (HX.out.trans (.ofB hb));replace HC:=hid (HC.out.below hb);clear hb;have c7:=HC.out.cell 7 (.int .i64 c.mss) rfl;have c5:=HC.out.cell 5 (.int .i64 c.limit) rfl;go_wp2_with fail;refine wp_region_held_drew (S:=(fun W:World=>W.cell? ⟨f.C,7,none⟩=some (.int .i64 c.mss)/\W.cell? ⟨f.C,5,none⟩=some (.int .i64 c.limit))) (by kernel_rfl) (⟨c7,c5⟩) (fun hZ=> ?_);have hb:=(Below.refl w2.heap.size w2).drew;replace HX:=hid (HX.out.trans (.ofB hb));replace HC:=hid (HC.out.below hb);clear hb c7 c5;generalize w2.drew=w3 at HC HX hZ ⊢;refine wpT 0 ?_;refine wpT 1 ?_;refine wpT 2 ?_;refine wpT 3 ?_;refine wpT 4 ?_;refine wpT 5 ?_;refine wpT 6 ?_;refine wpT 7 ?_;refine wpT 8 ?_;refine wpT 9 ?_;refine wpT 10 ?_;refine wpT 11 ?_;refine wpT 12 ?_;refine wpT 13 ?_;refine wpT 16 ?_;refine wpR 14 fun Kq hKq=> ?_;go_simp;refine (tnext_any f c w3 HC.out).mono ?_;rintro e w4 ⟨rfl,hb⟩;replace HX:=hid (HX.out.trans (.ofB hb));replace HC:=hid (HC.out.below hb);clear hb;go_simp;refine hKq.out _ _ (⟨HC.out.cell 7 (.int .i64 c.mss) rfl,HC.out.cell 5 (.int .i64 c.limit) rfl⟩) fun hI=>wpA ?_;clear hKq Kq hZ;have hZ:=hI;clear hI;have hwr:IntKind.i64.wrap (c.limit-c.next)=c.limit-c.next:=IntWalk.i64_in _ (by omega);refine wpT 15 (v:=.int .i64 (c.limit-c.next)) ?_ (hy:=by intro w hSw;(obtain ⟨z0,z1⟩:=hSw);go_simp;(try exact hwr));clear hwr;refine wpT 17 (v:=.int .i64 (min (min c.mss (c.limit-c.next)) c.unsent)) ?_ (hy:=by intro w hSw;(obtain ⟨z0,z1⟩:=hSw);go_simp;(try (split <;> (try split) <;> omega)));obtain ⟨n1,hn1⟩:∃ n1,n1=min (min c.mss (c.limit-c.next)) c.unsent:=⟨_,rfl⟩;rw [←hn1];have hn2:n=max 1 n1:=by rw [HN0.out,hn1]
 refine wpT 18 (v:=.int .i64 n) ?_ (hy:=by intro w hSw;(obtain ⟨z0,z1⟩:=hSw);go_simp;(try (rw [hn2];first | (split <;> omega) | omega)));clear hn1 hn2;refine wpR 19 fun Kq hKq=> ?_;go_simp;refine (tfresh_any f c n w4 HC.out HO.out (by omega)).mono ?_;rintro e w5 ⟨a,cap,rfl,hbi,hc,hch⟩;replace HX:=hid (HX.out.trans hch);have HC2:=hid hc;have HBI:=hid hbi;clear hc hch hbi HC;unfold sgV;go_simp;refine hKq.out _ _ (⟨HC2.out.cell 7 (.int .i64 c.mss) rfl,HC2.out.cell 5 (.int .i64 c.limit) rfl⟩) fun hI=>wpA ?_;clear hKq Kq hZ;have hZ:=hI;clear hI;have hb8:=(Below.refl w5.heap.size w5).alloc (Nat.le_refl _) (.cells (sgL (c.freshS n,a,cap)).toArray 43);have HN:=hid (one_cells (SgRow.new w5 (c.freshS n,a,cap)));have HC3:=hid (HC2.out.below hb8);refine wpR 20 fun Kq hKq=> ?_;go_simp;refine hKq.out _ _ ((show (w5.alloc (.cells (sgL (c.freshS n,a,cap)).toArray 43)).cell? ⟨f.C,7,none⟩=some (.int .i64 c.mss)/\(w5.alloc (.cells (sgL (c.freshS n,a,cap)).toArray 43)).cell? ⟨f.C,5,none⟩=some (.int .i64 c.limit) from ⟨HC3.out.cell 7 (.int .i64 c.mss) rfl,HC3.out.cell 5 (.int .i64 c.limit) rfl⟩)) fun hI=>wpA ?_;clear hKq Kq hZ;have hZ:=hI;clear hI;change wpAnyH _ _ _ _ _ _ _ _ (w5.alloc (.cells (sgL (c.freshS n,a,cap)).toArray 43));replace HX:=hid (HX.out.trans (.ofB hb8));replace HBI:=hid (HBI.out.keep hb8.size (.below hb8));clear hb8 HC2;generalize w5.heap.size=NB at HN ⊢;generalize w5.alloc (.cells (sgL (c.freshS n,a,cap)).toArray 43)=w6 at HN HC3 HX HBI hZ ⊢;refine wpR 21 fun Kq hKq=> ?_;go_simp;change Calls _ _ #[Value.slice none 0 0,Value.slice (some ⟨NB,0,none⟩) [((c.freshS n,a,cap):SgM)].length 1] _ _;refine (emit_any w6 w.heap.size _ [] (OwnG.nil _ _) NB 0 1 [(c.freshS n,a,cap)] HN.out (fun y hy=>by rw [List.mem_singleton.1 hy];exact HBI.out) (by simp) HX.out.size).mono ?_;rintro e w8 ⟨v',rfl,h1,h2,-⟩;have HC8:=hid (HC3.out.grown h2 (fun k e=>by cases e));have HX8:=hid (HX.out.grown h2 (fun k e=>by cases e));have HL:=hid (show OwnS w8 w.heap.size v' [c.freshS n] from ⟨_,rfl,h1⟩);clear h1 h2;go_simp;refine hKq.out _ _ ⟨HC8.out.cell 7 (.int .i64 c.mss) rfl,HC8.out.cell 5 (.int .i64 c.limit) rfl⟩ fun hI=>wpA ?_;clear hKq Kq hZ;have hZ:=hI;clear hI;refine wpT 22 ?_;refine wpAnyH_done (by kernel_rfl) ?_ _;clear hZ;go_wp2_with fail;go_ret;exact ⟨_,rfl,HL.out,HC8.out,HX8.out⟩
end
section
set_option maxHeartbeats 8000000
set_option maxRecDepth 100000
open Go.RowKit Go.Shelf
def InsOut (f:Fp) (w:World) (b:Bool) (d:Cn) (e:Ending) (w':World):Prop:=e= .returned (.bool b)/\CnAt f d w'/\ChgF f w w'
theorem rep_nil_iff (b:Bx):b.rep.length=0↔b.bl=[]:=by
 rw [Bx.rep_length]
 constructor
 ·intro h;exact List.eq_nil_of_length_eq_zero (by omega)
 intro h;rw [h];rfl
theorem tinsert_any (f:Fp) (c:Cn) (off:Int) (s:List UInt8) (w:World) (h:CnAt f c w) (ok:c.Ok) (ho: -2147483648<=off/\off<=2147483647) (hs:s.length<=1024) :
  Calls Tryz.prog 167 #[.pointer (some ⟨f.C,11,none⟩),.int .i64 off,.string ⟨s.toArray⟩] w (InsOut f w (c.insB off s) (c.insert off s)):=by
 have HO:=hid ok;have HC:=hid h;have HX:=hid (ChgF.refl f w);have hfe:=ok.fend;have hz:(⟨s.toArray⟩:ByteArray).size=s.length:=by simp [ByteArray.size]
 obtain ⟨ho1,ho2⟩:=ho;obtain ⟨hf1,hf2⟩:=hfe;clear h ok;have HB:=hid (show ∃ hb:Bool,hb=decide (c.bx.bl≠[]) from ⟨_,rfl⟩);have c11:=HC.out.cell 11 (.pointer (some ⟨f.X,0,none⟩)) rfl
 go_enter Tryz.func167,Tryz.ntmps167
 go_wp2_with fail;refine (next_any f.X f.R 0 c.bx _ HC.out.bx).mono ?_;rintro e w1 ⟨rfl,rfl⟩;go_wp2_with fail;refine (blocks_any f.X f.R 0 c.bx _ HC.out.bx HO.out.bx).mono ?_;rintro e w1 ⟨ba,bc,rfl,-,-,-,hb⟩;replace HX:=hid (HX.out.trans (.ofB hb));replace HC:=hid (HC.out.below hb);clear hb c11;have hrl:c.bx.rep.length<=3:=by rw [Bx.rep_length];omega
 have c15:=HC.out.cell 15 (.bool c.ended) rfl;have c16:=HC.out.cell 16 (.int .i64 c.fend) rfl;obtain ⟨S1,hS1⟩:∃ S1,S1=if c.ended=true then s.take (min (max (c.fend-off) 0) s.length).toNat else s:=⟨_,rfl⟩;have HS1:=hid hS1;have hl1:S1.length<=1024:=by rw [hS1];split;(rw [List.length_take];omega);exact hs
 clear hS1
 go_upto_if 24 with fail
 go_cut [2] from 24 to 36 (fun v2 wx=>v2= .string ⟨S1.toArray⟩/\wx=w1)
 case first =>
  cases he:c.ended with
  | true =>
   rw [he] at c15;have HE:=hid (show S1=s.take (min (max (c.fend-off) 0) s.length).toNat by rw [HS1.out,if_pos he]);clear he;go_wp2_with fail
   all_goals
    go_meet
    case rel=>exact ⟨by rw [HE.out];rw [ext_bs'];rw [List.drop_zero],rfl⟩
  | false =>
   rw [he] at c15;have HE:=hid (show S1=s by rw [HS1.out,if_neg (by rw [he];simp)]);clear he;go_wp2_with fail
   go_meet
   case rel=>exact ⟨by rw [HE.out],rfl⟩
 case rest =>
  obtain ⟨hv2,rfl⟩:=hcut;subst hv2;clear hz c15 c16;have hz1:(⟨S1.toArray⟩:ByteArray).size=S1.length:=by simp [ByteArray.size]
  obtain ⟨S2,hS2⟩:∃ S2,S2=insS c.ended c.fend off s:=⟨_,rfl⟩;have HS2:=hid (show S2=S1.drop (if off<0 then (min (-off) S1.length).toNat else 0) by rw [hS2,HS1.out];rfl);have hl2:S2.length<=1024:=by rw [HS2.out,List.length_drop];omega
  have HI:=hid hS2;clear hS2
  go_upto_if 38 with fail
  go_cut [1,2] from 38 to 45 (fun v1 v2 wx=>v1= .int .i64 (max off 0)/\v2= .string ⟨S2.toArray⟩/\wx=wc)
  case first =>
   by_cases hn:off<0
   ·have HE:=hid (show S2=S1.drop (min (-off) S1.length).toNat by rw [HS2.out,if_pos hn]);have hmx:max off 0=0:=by omega
    go_wp2_with fail
    all_goals
     go_meet
     case rel=>exact ⟨by rw [hmx],by rw [HE.out];exact congrArg Value.string (ext_bs_drop _ _),rfl⟩
   have HE:=hid (show S2=S1 by rw [HS2.out,if_neg hn,List.drop_zero]);have hmx:max off 0=off:=by omega
   go_wp2_with fail
   go_meet
   case rel=>exact ⟨by rw [hmx],by rw [HE.out],rfl⟩
  case rest =>
   obtain ⟨hv1,hv2,rfl⟩:=hcut;subst hv1;subst hv2;clear hz1;have HBX:=hid (show c.insBx off s=if S2=[] then c.bx else c.bx.put (max off 0) S2 by unfold Cn.insBx;rw [←HI.out]);have HIC:=hid (HO.out.insert ho2 hs)
   go_upto_if 47 with fail
   go_cut [] from 47 to 54 (fun wx=>CnAt f (c.insert off s) wx/\ChgF f w wx)
   case first =>
    by_cases hn:S2=[]
    ·have HE:=hid (show c.insert off s=c by unfold Cn.insert;rw [HBX.out,if_pos hn]);subst hn;go_wp2_with fail
     go_meet
     case rel=>exact ⟨by rw [HE.out];exact HC.out,HX.out⟩
    have HE:=hid (show c.insert off s={ c with bx:=c.bx.put (max off 0) S2 } by unfold Cn.insert;rw [HBX.out,if_neg hn])
    obtain ⟨x,t,rfl⟩:∃ x t,S2=x::t:=by
     cases S2 with
     | nil=>exact absurd rfl hn
     | cons x t=>exact ⟨x,t,rfl⟩
    clear hn;have c11:=HC.out.cell 11 (.pointer (some ⟨f.X,0,none⟩)) rfl;go_wp2_with fail;refine (put_any f.X f.R 0 c.bx (max off 0) ⟨(x::t).toArray⟩ _ HC.out.bx HO.out.bx (Nat.zero_le _) (by have:=hl2;simp only [List.length_cons] at this;simp only [ByteArray.size,List.size_toArray,List.length_cons];omega)).mono ?_;rintro e w3 ⟨rfl,hb3,hc3⟩;have HT:=hid (show CnAt f (c.insert off s) w3/\ChgF f w w3 from ⟨by rw [HE.out];exact HC.out.onX hb3 hc3,HX.out.trans (.ofX hc3)⟩);clear hb3 hc3;go_wp2_with fail
    go_meet
    case rel=>exact HT.out
   case rest =>
    obtain ⟨hc,hch⟩:=hcut;replace HC:=hid hc;replace HX:=hid hch;clear hc hch HBX HS2 HS1;have c11:=HC.out.cell 11 (.pointer (some ⟨f.X,0,none⟩)) rfl;have HV:=hid (show c.insB off s=decide ((c.insBx off s).nx≠c.bx.nx/\c.bx.bl=[]/\(c.insBx off s).bl=[]) from rfl);have HBO:=hid (show (c.insBx off s).Ok from HIC.out.bx);go_wp2_with fail;refine (next_any f.X f.R 0 (c.insBx off s) _ HC.out.bx).mono ?_;rintro e w4 ⟨rfl,rfl⟩;by_cases h1:(c.insBx off s).nx=c.bx.nx
    ·have HF:=hid (show c.insB off s=false by rw [HV.out];exact decide_eq_false (fun h=>h.1 h1));have hd:((c.insBx off s).nx==c.bx.nx)=true:=beq_iff_eq.2 h1;go_wp2_with fail;go_ret;exact ⟨retB HF.out.symm,HC.out,HX.out⟩
    have hd:((c.insBx off s).nx==c.bx.nx)=false:=beq_eq_false_iff_ne.2 h1;have H1:=hid h1;by_cases h2:c.bx.bl=[]
    ·have H2:=hid h2;have hr0:c.bx.rep.length=0:=(rep_nil_iff c.bx).2 h2;have hrd:decide (0<c.bx.rep.length)=false:=by rw [hr0];rfl
     clear h2 hr0;go_wp2_with fail;refine (blocks_any f.X f.R 0 (c.insBx off s) _ HC.out.bx HBO.out).mono ?_;rintro e w5 ⟨ba2,bc2,rfl,-,-,-,hb⟩;replace HX:=hid (HX.out.trans (.ofB hb));replace HC:=hid (HC.out.below hb);clear hb c11;have HQ:=hid (show decide ((c.insBx off s).rep.length=0)=c.insB off s by rw [HV.out];exact decide_eq_decide.2 ⟨fun h=>⟨H1.out,H2.out,(rep_nil_iff _).1 h⟩,fun h=>(rep_nil_iff _).2 h.2.2⟩);have hrl2:(c.insBx off s).rep.length<=3:=by rw [Bx.rep_length];omega
     go_wp2_with fail;go_ret;exact ⟨retB (by rw [←HQ.out];first | rfl | exact decide_eq_decide.2 (by omega) | (simp;done) | (rw [Bool.eq_iff_iff];simp;omega)),HC.out,HX.out⟩
    have HF:=hid (show c.insB off s=false by rw [HV.out];exact decide_eq_false (fun h=>h2 h.2.1));have hr0:0<c.bx.rep.length:=Nat.pos_of_ne_zero (fun e=>h2 ((rep_nil_iff c.bx).1 e));have hrd:decide (0<c.bx.rep.length)=true:=decide_eq_true hr0;clear h2;go_wp2_with fail;go_ret;exact ⟨retB HF.out.symm,HC.out,HX.out⟩
end
section
set_option maxHeartbeats 8000000
set_option maxRecDepth 100000
open Go.RowKit Go.Shelf
structure Lw (f:Fp) (w0:World) (v:Value) (L:List Sg) (c:Cn) (W:World):Prop where
 cn:CnAt f c W
 ch:ChgF f w0 W
 own:OwnS W w0.heap.size v L
namespace Lw
variable {f : Fp} {c d : Cn} {w0 W W' : World} {v : Value} {L : List Sg}
theorem start (h:CnAt f c W):Lw f W (.slice none 0 0) [] c W:=⟨h,.refl _ _,.nil _ _⟩
theorem bel (h:Lw f w0 v L c W) (hb:Below W.heap.size W W'):Lw f w0 v L c W':=⟨h.cn.below hb,h.ch.trans (.ofB hb),h.own.below hb⟩
theorem call (h:Lw f w0 v L c W) (hc:CnAt f d W') (hch:ChgF f W W'):Lw f w0 v L d W':=⟨hc,h.ch.trans hch,h.own.chgF h.cn hch⟩
end Lw
theorem OwnS.ty {w:World} {base:Nat} {v:Value} {L:List Sg} (h:OwnS w base v L):∀ k,v.ownBlock=some k->TyB w k 43:=by
 obtain ⟨M,e,h⟩:=h;exact h.ty
theorem OwnS.lo {w:World} {base:Nat} {v:Value} {L:List Sg} (h:OwnS w base v L):∀ k,v.ownBlock=some k->base<=k:=by
 obtain ⟨M,e,h⟩:=h;exact fun k e=>(h.lt k e).1
theorem OwnS.low {w:World} {base b':Nat} {v:Value} {L:List Sg} (h:OwnS w base v L) (hb:b'<=base):OwnS w b' v L:=by
 obtain ⟨M,e,h⟩:=h;exact ⟨M,e,h.mono hb⟩
def EmOut (w:World) (base:Nat) (v:Value) (L:List Sg) (e:Ending) (w':World):Prop:=∃ v',e= .returned v'/\OwnS w' base v' L/\w.grownBy w' v.ownBlock
theorem emit_own (w:World) (base b2:Nat) (v v2:Value) (L M:List Sg) (h:OwnS w base v L) (h2:OwnS w b2 v2 M) (hL:L.length+M.length<=1300000000000) (hbase:base<=w.heap.size) :
  Calls Tryz.prog 58 #[v,v2] w (EmOut w base v (L++M)):=by
 obtain ⟨L1,rfl,h⟩:=h;obtain ⟨M1,rfl,h2⟩:=h2;rw [List.length_map,List.length_map] at hL;by_cases hm:0<M1.length
 ·obtain ⟨g,cap,rfl,hb1,hb2,hcap,hcs⟩:=h2.cells hm;refine (emit_any w base v L1 h g 0 cap M1 hcs h2.2 hL hbase).mono ?_;rintro e w' ⟨v',rfl,h3,h4,-⟩;exact ⟨v',rfl,⟨L1++M1,by rw [List.map_append],h3⟩,h4⟩
 obtain rfl:M1=[]:=List.eq_nil_of_length_eq_zero (by omega);obtain ⟨a,cap,rfl,-,-⟩:=h2.val;refine (emit_none w base v L1 h a cap).mono ?_;rintro e w' ⟨rfl,rfl⟩;exact ⟨v,rfl,⟨L1,by simp,h⟩,⟨rfl,rfl,rfl,Nat.le_refl _,fun _ _ _=>rfl⟩⟩
theorem push_len {c:Cn} (ok:c.Ok) (now:Int):(c.push now).2.length<=1250000000001:=by
 unfold Cn.push;split
 ·simp
 dsimp only
 have h1:(if sendsB c.st=true then c.pushD now else (c,[])).2.length<=1250000000000:=by
  split
  ·exact pushD_len ok now
  simp
 generalize (if sendsB c.st=true then c.pushD now else (c,[]))=a at h1 ⊢;unfold Cn.pushA;split
 ·rw [List.length_append,List.length_singleton];omega
 dsimp only;omega
theorem expire_len (c:Cn):c.expire.2.length<=1:=by
 unfold Cn.expire;split
 ·simp
 split <;> simp
def Cn.try1 (c:Cn):Cn:={ c with tries:=c.tries+1 }
def Cn.back (c:Cn) (now:Int):Cn:={ c with tries:=c.tries+1,tm:=c.tm.retr.backoff,dl:=.aft now c.tm.retr.backoff.value }
theorem Cn.tick_eq (c:Cn) (now:Int):c.tick now =
 if c.st=0 then (c,[])
 else if c.st=9/\c.per.due now=true then (c.finish now 9 0,[])
 else if c.dl.due now=true then (if 12<c.tries+1 then (c.try1.finish now 9 182,[]) else if syncB c.st=true then (c.back now).expire.1.tickEnd now (c.back now).expire.2 else ((c.back now).synC,[(c.back now).synS]))
 else c.tickEnd now []:=rfl
theorem Cn.tickEnd_eq (c:Cn) (now:Int) (l:List Sg):c.tickEnd now l=(((if c.pend=1/\c.ackT.due now=true then c.ackNow else c).push now).1,l++((if c.pend=1/\c.ackT.due now=true then c.ackNow else c).push now).2):=rfl
theorem Cn.Ok.back {c:Cn} (h:c.Ok) {now:Int} (hn:In64 now) (ht:¬ 12<c.tries+1):(c.back now).Ok:=by
 have hv:0<=c.tm.retr.backoff.value/\c.tm.retr.backoff.value<=1000:=by
  have h1:=c.tm.retr.backoff.base_bd;have h2:(0:Int)<=c.tm.retr.backoff.base*2 ^ c.tm.retr.backoff.backs.toNat:=Int.mul_nonneg (by omega) (Int.pow_nonneg (by decide));unfold Tm.value;omega
 exact { h with tr:=by have:=h.tr;show 0<=c.tries+1/\c.tries+1<=13;omega,tr2:=fun _=>by show c.tries+1<=12;omega,tm:=Tm.backoff_fit (Tm.retr_fit h.tm),dl:=Al.aft_ok hn hv.1 hv.2 }
theorem ttick_any (f:Fp) (c:Cn) (now:Int) (w:World) (h:CnAt f c w) (ok:c.Ok) (hn:In64 now) :
  Calls Tryz.prog 37 #[.pointer (some ⟨f.C,0,none⟩),.int .i64 now] w (LstOut f w (c.tick now).2 (c.tick now).1):=by
 have HN:=hid hn;have hgt:=h.gl.top;have hlt:=h.lt;have HO:=hid ok;have HS:=hid (Lw.start h);have hst:=ok.tr;obtain ⟨hst0,hst1⟩:=hst;clear h ok hn;obtain ⟨R,hR⟩:∃ R,R=c.tick now:=⟨_,rfl⟩;rw [←hR];have HR:=hid (hR.trans (Cn.tick_eq c now));clear hR
 go_enter Tryz.func37,Tryz.ntmps37
 go_wp2_with fail;refine (tclosed_any f c _ HS.out.cn).mono ?_;rintro e w1 ⟨rfl,hb⟩;replace HS:=hid (HS.out.bel hb);clear hb;by_cases h0:c.st=0
 ·have HRX:=hid (HR.out.trans (if_pos h0));replace HR:=HRX;clear HRX;have hd0:decide (c.st=0)=true:=decide_eq_true h0;clear h0;go_wp2_with fail;go_ret;exact ⟨_,rfl,by rw [HR.out];exact OwnS.nil _ _,by rw [HR.out];exact HS.out.cn,HS.out.ch⟩
 have H0:=hid h0;have hd0:decide (c.st=0)=false:=decide_eq_false h0;clear h0;replace HR:=hid (HR.out.trans (by rw [if_neg H0.out]));have c28:=HS.out.cn.cell 28 (.int .i64 c.st) rfl;by_cases h9:c.st=9
 focus
  have H9:=hid h9;rw [h9] at c28;clear h9;have c34:=HS.out.cn.cell 34 (.bool c.per.set) rfl;have c35:=HS.out.cn.cell 35 (.int .i64 c.per.since) rfl;have c36:=HS.out.cn.cell 36 (.int .i64 c.per.ticks) rfl;go_wp2_with fail;refine (tdue_any c.per now _ HN.out HO.out.per.1 HO.out.per.2).mono ?_;rintro e w2 ⟨rfl,hb⟩;replace HS:=hid (HS.out.bel hb);clear hb;clear c34 c35 c36 c28;by_cases hq:c.per.due now=true
  ·have HQ:=hid hq;have hdq:=hq;clear hq;replace HR:=hid (HR.out.trans (by rw [if_pos ⟨H9.out,HQ.out⟩]));go_wp2_with fail;refine (tfinish_any f c now 9 0 _ HS.out.cn HO.out.st (by decide)).mono ?_;rintro e w9 ⟨rfl,hc,hch⟩;replace HS:=hid (HS.out.call hc hch);clear hc hch;go_wp2_with fail;go_ret;exact ⟨_,rfl,by rw [HR.out];exact OwnS.nil _ _,by rw [HR.out];exact HS.out.cn,HS.out.ch⟩
  have HQ:=hid hq;have hdq:c.per.due now=false:=by simpa using hq
  clear hq;replace HR:=hid (HR.out.trans (by rw [if_neg (fun h=>HQ.out h.2)]))
 rotate_left 1
 focus
  have H9:=hid h9;have h9b:(c.st==9)=false:=beq_eq_false_iff_ne.2 h9;clear h9;replace HR:=hid (HR.out.trans (by rw [if_neg (fun h=>H9.out h.1)]))
 all_goals
  have c30:=HS.out.cn.cell 30 (.bool c.dl.set) rfl;have c31:=HS.out.cn.cell 31 (.int .i64 c.dl.since) rfl;have c32:=HS.out.cn.cell 32 (.int .i64 c.dl.ticks) rfl;go_wp2_with fail;refine (tdue_any c.dl now _ HN.out HO.out.dl.1 HO.out.dl.2).mono ?_;rintro e w2 ⟨rfl,hb⟩;replace HS:=hid (HS.out.bel hb);clear hb;clear c30 c31 c32;by_cases hd:c.dl.due now=true
  ·have HD:=hid hd;have hdd:=hd;clear hd;have c1:=HS.out.cn.cell 1 (.pointer (some ⟨f.T,0,none⟩)) rfl;have c33:=HS.out.cn.cell 33 (.int .i64 c.tries) rfl;have f33:=HS.out.cn.free 33;have HS3:=hid (HS.out.call (HS.out.cn.set 33 (.int .i64 (c.tries+1)) c.try1 rfl rfl rfl rfl rfl) (.ofC ((Chg.refl _ _).setCell 33 _)));by_cases hv:12<c.tries+1
   ·have HV:=hid hv;replace HR:=hid (HR.out.trans (by rw [if_pos HD.out,if_pos HV.out]));have hvd:decide (12<c.tries+1)=true:=decide_eq_true hv;clear hv;go_wp2_with fail;replace HS:=HS3;clear HS3 c33 f33 c1;refine (tfinish_any f c.try1 now 9 182 _ HS.out.cn HO.out.st (by decide)).mono ?_;rintro e w9 ⟨rfl,hc,hch⟩;replace HS:=hid (HS.out.call hc hch);clear hc hch;go_wp2_with fail;go_ret;exact ⟨_,rfl,by rw [HR.out];exact OwnS.nil _ _,by rw [HR.out];exact HS.out.cn,HS.out.ch⟩
   have HV:=hid hv;have hvd:decide (12<c.tries+1)=false:=decide_eq_false hv;have HOB:=hid (HO.out.back HN.out hv);have HTM:=hid HO.out.tm;clear hv;go_wp2_with fail;replace HS:=HS3;clear HS3 c33 f33 c1;refine (retr_any f.T c.try1.tm _ HS.out.cn.tm).mono ?_;rintro e w9 ⟨rfl,ht,hch⟩;replace HS:=hid (HS.out.call (HS.out.cn.onT ht hch) (.ofT hch));clear ht hch;have c1:=HS.out.cn.cell 1 (.pointer (some ⟨f.T,0,none⟩)) rfl;go_wp2_with fail;clear c1;refine (backoff_any f.T c.tm.retr (Tm.retr_fit HTM.out).1 _ HS.out.cn.tm).mono ?_;rintro e w9 ⟨rfl,ht,hch⟩;replace HS:=hid (HS.out.call (HS.out.cn.onT ht hch) (.ofT hch));clear ht hch;have c1:=HS.out.cn.cell 1 (.pointer (some ⟨f.T,0,none⟩)) rfl;go_wp2_with fail;clear c1;refine (value_any f.T c.tm.retr.backoff (Tm.backoff_fit (Tm.retr_fit HTM.out)).1 _ HS.out.cn.tm).mono ?_;rintro e w2 ⟨rfl,hb⟩;replace HS:=hid (HS.out.bel hb);clear hb;go_wp2_with fail;refine (tafter_any _ _ _).mono ?_;rintro e w3 ⟨rfl,hb⟩;replace HS:=hid (HS.out.bel hb);clear hb;have c30:=HS.out.cn.cell 30 (.bool c.dl.set) rfl;have c31:=HS.out.cn.cell 31 (.int .i64 c.dl.since) rfl;have c32:=HS.out.cn.cell 32 (.int .i64 c.dl.ticks) rfl;have f30:=HS.out.cn.free 30;have f31:=HS.out.cn.free 31;have f32:=HS.out.cn.free 32;have c28:=HS.out.cn.cell 28 (.int .i64 c.st) rfl;have HS3:=hid (HS.out.call (((HS.out.cn.set 30 (.bool true) { c.back now with dl:=⟨true,c.dl.since,c.dl.ticks⟩ } rfl rfl rfl rfl rfl).set 31 (.int .i64 now) { c.back now with dl:=⟨true,now,c.dl.ticks⟩ } rfl rfl rfl rfl rfl).set 32 (.int .i64 c.tm.retr.backoff.value) (c.back now) rfl rfl rfl rfl rfl) (.ofC ((((Chg.refl _ _).setCell 30 _).setCell 31 _).setCell 32 _)));by_cases hy:syncB c.st=true
   ·have HY:=hid hy;have hyb:synced c.st=true:=hy;clear hy;go_wp2_with fail;replace HS:=HS3;clear HS3 c30 c31 c32 f30 f31 f32 c28;refine (synchronized_any c.st _).mono ?_;rintro e w2 ⟨rfl,rfl⟩;replace HR:=hid (HR.out.trans (by rw [if_pos HD.out,if_neg (by have:=HV.out;omega),if_pos HY.out]));generalize c.back now=b at HS HOB HR;go_wp2_with fail;refine (texpire_any f b _ HS.out.cn HOB.out).mono ?_;rintro e w9 ⟨vL,rfl,hl,hc,hch⟩;have HSL:=hid (show Lw f w vL b.expire.2 b.expire.1 w9 from ⟨hc,HS.out.ch.trans hch,OwnS.low hl HS.out.ch.size⟩);have HOD:=hid HOB.out.expire;have HLE:=hid (show b.expire.2.length<=1 from expire_len b);clear hl hc hch HS;generalize b.expire.1=d at HSL HOD HR;generalize b.expire.2=L at HSL HLE HR;have HS:=HSL;clear HSL;have c18:=HS.out.cn.cell 18 (.int .i64 d.pend) rfl;by_cases hp:d.pend=1
    ·have HP:=hid hp;rw [hp] at c18;clear hp;have c19:=HS.out.cn.cell 19 (.bool d.ackT.set) rfl;have c20:=HS.out.cn.cell 20 (.int .i64 d.ackT.since) rfl;have c21:=HS.out.cn.cell 21 (.int .i64 d.ackT.ticks) rfl;go_wp2_with fail;refine (tdue_any d.ackT now _ HN.out HOD.out.ackT.1 HOD.out.ackT.2).mono ?_;rintro e w2 ⟨rfl,hb⟩;replace HS:=hid (HS.out.bel hb);clear hb;clear c19 c20 c21;by_cases hq:d.ackT.due now=true
     ·have HQ:=hid hq;have hdq:=hq;clear hq;go_wp2_with fail;clear hdq c18;refine (tack_any f d _ HS.out.cn).mono ?_;rintro e w9 ⟨rfl,hc,hch⟩;replace HS:=hid (HS.out.call hc hch);clear hc hch;go_wp2_with fail;refine (tpush_any f d.ackNow now _ HS.out.cn HOD.out.ackNow HN.out).mono ?_;rintro e w9 ⟨v2,rfl,hl2,hc,hch⟩;replace HS:=hid (HS.out.call hc hch);have HL2:=hid hl2;clear hl2 hc hch;go_wp2_with fail;refine (emit_own _ w.heap.size _ _ _ L _ HS.out.own HL2.out (by have:=push_len HOD.out.ackNow now;have:=HLE.out;omega) HS.out.ch.size).mono ?_;rintro e wz ⟨v',rfl,h1,h2⟩;have HC8:=hid (HS.out.cn.grown h2 (fun k e=>⟨OwnS.ty HS.out.own k e,Nat.le_trans hgt (OwnS.lo HS.out.own k e)⟩));have HX8:=hid (HS.out.ch.grown h2 (fun k e=>OwnS.lo HS.out.own k e));have HL:=hid h1;clear h1 h2;go_wp2_with fail;go_ret;exact ⟨_,rfl,by rw [HR.out,Cn.tickEnd_eq,if_pos ⟨HP.out,HQ.out⟩];exact HL.out,by rw [HR.out,Cn.tickEnd_eq,if_pos ⟨HP.out,HQ.out⟩];exact HC8.out,HX8.out⟩
     have hdq:d.ackT.due now=false:=by simpa using hq
     have HQ:=hid hdq;clear hq;go_wp2_with fail;refine (tpush_any f d now _ HS.out.cn HOD.out HN.out).mono ?_;rintro e w9 ⟨v2,rfl,hl2,hc,hch⟩;replace HS:=hid (HS.out.call hc hch);have HL2:=hid hl2;clear hl2 hc hch;go_wp2_with fail;refine (emit_own _ w.heap.size _ _ _ L _ HS.out.own HL2.out (by have:=push_len HOD.out now;have:=HLE.out;omega) HS.out.ch.size).mono ?_;rintro e wz ⟨v',rfl,h1,h2⟩;have HC8:=hid (HS.out.cn.grown h2 (fun k e=>⟨OwnS.ty HS.out.own k e,Nat.le_trans hgt (OwnS.lo HS.out.own k e)⟩));have HX8:=hid (HS.out.ch.grown h2 (fun k e=>OwnS.lo HS.out.own k e));have HL:=hid h1;clear h1 h2;go_wp2_with fail;go_ret;exact ⟨_,rfl,by rw [HR.out,Cn.tickEnd_eq,if_neg (fun h=>by have:=HQ.out.symm.trans h.2;cases this)];exact HL.out,by rw [HR.out,Cn.tickEnd_eq,if_neg (fun h=>by have:=HQ.out.symm.trans h.2;cases this)];exact HC8.out,HX8.out⟩
    have HP:=hid hp;have hpb:(d.pend==1)=false:=beq_eq_false_iff_ne.2 hp;clear hp;go_wp2_with fail;refine (tpush_any f d now _ HS.out.cn HOD.out HN.out).mono ?_;rintro e w9 ⟨v2,rfl,hl2,hc,hch⟩;replace HS:=hid (HS.out.call hc hch);have HL2:=hid hl2;clear hl2 hc hch;go_wp2_with fail;refine (emit_own _ w.heap.size _ _ _ L _ HS.out.own HL2.out (by have:=push_len HOD.out now;have:=HLE.out;omega) HS.out.ch.size).mono ?_;rintro e wz ⟨v',rfl,h1,h2⟩;have HC8:=hid (HS.out.cn.grown h2 (fun k e=>⟨OwnS.ty HS.out.own k e,Nat.le_trans hgt (OwnS.lo HS.out.own k e)⟩));have HX8:=hid (HS.out.ch.grown h2 (fun k e=>OwnS.lo HS.out.own k e));have HL:=hid h1;clear h1 h2;go_wp2_with fail;go_ret;exact ⟨_,rfl,by rw [HR.out,Cn.tickEnd_eq,if_neg (fun h=>HP.out h.1)];exact HL.out,by rw [HR.out,Cn.tickEnd_eq,if_neg (fun h=>HP.out h.1)];exact HC8.out,HX8.out⟩
   have HY:=hid hy;have hyb:synced c.st=false:=by cases hq:synced c.st with | false=>rfl | true=>exact absurd hq hy
   clear hy;go_wp2_with fail;replace HS:=HS3;clear HS3 c30 c31 c32 f30 f31 f32 c28;refine (synchronized_any c.st _).mono ?_;rintro e w2 ⟨rfl,rfl⟩;replace HR:=hid (HR.out.trans (by rw [if_pos HD.out,if_neg (by have:=HV.out;omega),if_neg HY.out]));generalize c.back now=b at HS HOB HR;go_wp2_with fail;refine (tsyn_any f b _ HS.out.cn HOB.out).mono ?_;rintro e w4 ⟨ag,cg,rfl,hbl,hc,hch⟩;replace HS:=hid (HS.out.call hc hch);have HBL:=hid hbl;clear hc hch hbl;unfold sgV;have hb8:=(Below.refl w4.heap.size w4).alloc (Nat.le_refl _) (.cells (sgL (b.synS,ag,cg)).toArray 43);have HNW:=hid (one_cells (SgRow.new w4 (b.synS,ag,cg)));replace HBL:=hid (HBL.out.keep hb8.size (.below hb8));replace HS:=hid (HS.out.bel hb8);clear hb8;go_wp2_with fail;change Calls _ _ #[Value.slice none 0 0,Value.slice (some ⟨w4.heap.size,0,none⟩) [((b.synS,ag,cg):SgM)].length 1] (w4.alloc (.cells (sgL (b.synS,ag,cg)).toArray 43)) _;generalize w4.heap.size=NB at HNW ⊢;generalize w4.alloc (.cells (sgL (b.synS,ag,cg)).toArray 43)=w6 at HNW HS HBL ⊢;refine (emit_any w6 w.heap.size _ [] (OwnG.nil _ _) NB 0 1 [(b.synS,ag,cg)] HNW.out (fun y hy=>by rw [List.mem_singleton.1 hy];exact HBL.out) (by simp) HS.out.ch.size).mono ?_;rintro e w8 ⟨v',rfl,h1,h2,-⟩;have HC8:=hid (HS.out.cn.grown h2 (fun k e=>by cases e));have HX8:=hid (HS.out.ch.grown h2 (fun k e=>by cases e));have HL:=hid (show OwnS w8 w.heap.size v' [b.synS] from ⟨_,rfl,h1⟩);clear h1 h2;go_wp2_with fail;go_ret;exact ⟨_,rfl,by rw [HR.out];exact HL.out,by rw [HR.out];exact HC8.out,HX8.out⟩
  have HD:=hid hd;have hdd:c.dl.due now=false:=by simpa using hd
  clear hd;replace HR:=hid (HR.out.trans (by rw [if_neg HD.out]));have HLE:=hid (show ([]:List Sg).length<=1 by simp);generalize hdc:c=d at *;clear hdc;generalize hL:([]:List Sg)=L at HS HLE HR;clear hL;have c18:=HS.out.cn.cell 18 (.int .i64 d.pend) rfl;by_cases hp:d.pend=1
  ·have HP:=hid hp;rw [hp] at c18;clear hp;have c19:=HS.out.cn.cell 19 (.bool d.ackT.set) rfl;have c20:=HS.out.cn.cell 20 (.int .i64 d.ackT.since) rfl;have c21:=HS.out.cn.cell 21 (.int .i64 d.ackT.ticks) rfl;go_wp2_with fail;refine (tdue_any d.ackT now _ HN.out HO.out.ackT.1 HO.out.ackT.2).mono ?_;rintro e w2 ⟨rfl,hb⟩;replace HS:=hid (HS.out.bel hb);clear hb;clear c19 c20 c21;by_cases hq:d.ackT.due now=true
   ·have HQ:=hid hq;have hdq:=hq;clear hq;go_wp2_with fail;clear hdq c18;refine (tack_any f d _ HS.out.cn).mono ?_;rintro e w9 ⟨rfl,hc,hch⟩;replace HS:=hid (HS.out.call hc hch);clear hc hch;go_wp2_with fail;refine (tpush_any f d.ackNow now _ HS.out.cn HO.out.ackNow HN.out).mono ?_;rintro e w9 ⟨v2,rfl,hl2,hc,hch⟩;replace HS:=hid (HS.out.call hc hch);have HL2:=hid hl2;clear hl2 hc hch;go_wp2_with fail;refine (emit_own _ w.heap.size _ _ _ L _ HS.out.own HL2.out (by have:=push_len HO.out.ackNow now;have:=HLE.out;omega) HS.out.ch.size).mono ?_;rintro e wz ⟨v',rfl,h1,h2⟩;have HC8:=hid (HS.out.cn.grown h2 (fun k e=>⟨OwnS.ty HS.out.own k e,Nat.le_trans hgt (OwnS.lo HS.out.own k e)⟩));have HX8:=hid (HS.out.ch.grown h2 (fun k e=>OwnS.lo HS.out.own k e));have HL:=hid h1;clear h1 h2;go_wp2_with fail;go_ret;exact ⟨_,rfl,by rw [HR.out,Cn.tickEnd_eq,if_pos ⟨HP.out,HQ.out⟩];exact HL.out,by rw [HR.out,Cn.tickEnd_eq,if_pos ⟨HP.out,HQ.out⟩];exact HC8.out,HX8.out⟩
   have hdq:d.ackT.due now=false:=by simpa using hq
   have HQ:=hid hdq;clear hq;go_wp2_with fail;refine (tpush_any f d now _ HS.out.cn HO.out HN.out).mono ?_;rintro e w9 ⟨v2,rfl,hl2,hc,hch⟩;replace HS:=hid (HS.out.call hc hch);have HL2:=hid hl2;clear hl2 hc hch;go_wp2_with fail;refine (emit_own _ w.heap.size _ _ _ L _ HS.out.own HL2.out (by have:=push_len HO.out now;have:=HLE.out;omega) HS.out.ch.size).mono ?_;rintro e wz ⟨v',rfl,h1,h2⟩;have HC8:=hid (HS.out.cn.grown h2 (fun k e=>⟨OwnS.ty HS.out.own k e,Nat.le_trans hgt (OwnS.lo HS.out.own k e)⟩));have HX8:=hid (HS.out.ch.grown h2 (fun k e=>OwnS.lo HS.out.own k e));have HL:=hid h1;clear h1 h2;go_wp2_with fail;go_ret;exact ⟨_,rfl,by rw [HR.out,Cn.tickEnd_eq,if_neg (fun h=>by have:=HQ.out.symm.trans h.2;cases this)];exact HL.out,by rw [HR.out,Cn.tickEnd_eq,if_neg (fun h=>by have:=HQ.out.symm.trans h.2;cases this)];exact HC8.out,HX8.out⟩
  have HP:=hid hp;have hpb:(d.pend==1)=false:=beq_eq_false_iff_ne.2 hp;clear hp;go_wp2_with fail;refine (tpush_any f d now _ HS.out.cn HO.out HN.out).mono ?_;rintro e w9 ⟨v2,rfl,hl2,hc,hch⟩;replace HS:=hid (HS.out.call hc hch);have HL2:=hid hl2;clear hl2 hc hch;go_wp2_with fail;refine (emit_own _ w.heap.size _ _ _ L _ HS.out.own HL2.out (by have:=push_len HO.out now;have:=HLE.out;omega) HS.out.ch.size).mono ?_;rintro e wz ⟨v',rfl,h1,h2⟩;have HC8:=hid (HS.out.cn.grown h2 (fun k e=>⟨OwnS.ty HS.out.own k e,Nat.le_trans hgt (OwnS.lo HS.out.own k e)⟩));have HX8:=hid (HS.out.ch.grown h2 (fun k e=>OwnS.lo HS.out.own k e));have HL:=hid h1;clear h1 h2;go_wp2_with fail;go_ret;exact ⟨_,rfl,by rw [HR.out,Cn.tickEnd_eq,if_neg (fun h=>HP.out h.1)];exact HL.out,by rw [HR.out,Cn.tickEnd_eq,if_neg (fun h=>HP.out h.1)];exact HC8.out,HX8.out⟩
end
end Go.Proofs.YtclkcmidhhfdmaaGreatDoor
