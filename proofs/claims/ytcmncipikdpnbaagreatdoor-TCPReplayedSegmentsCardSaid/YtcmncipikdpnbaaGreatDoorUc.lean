import GoSem.Core.World
namespace Go.Proofs.YtcmncipikdpnbaaGreatDoor
abbrev Y:=Value
instance:Coe Int Value:=⟨fun x=>.int .i64 x⟩
instance:Coe Bool Value:=⟨.bool⟩
instance:Coe Nat Value:=⟨fun b=>.pointer (some ⟨b,0,none⟩)⟩
instance:Coe Nat Addr:=⟨fun b=>⟨b,0,none⟩⟩
theorem Z{α:Type}{a:α}:a=a:=rfl
theorem O{P:Prop}(h:P:=by omega):P:=h
theorem D{P:Prop}(h:P:=by decide):P:=h
theorem IK{P:Prop}(h:P:=by simp):P:=h
theorem IM{P:Prop}(h:P:=by simp;omega):P:=h
theorem IN{P:Prop}(h:P:=by dsimp only;omega):P:=h
theorem IO{P:Prop}(h:P:=by rfl):P:=h
theorem IQ{P:Prop}(h:P:=by simp[ByteArray.size]):P:=h
theorem IR{P:Prop}(h:P:=by unfold wrap64;omega):P:=h
theorem P3{P:Prop}(h:P:=by rw[cell_of_row _ _ _ _ _ _ i.o];rfl):P:=h
theorem IT{P:Prop}(h:P:=by rw[n.o]):P:=h
theorem IW{P:Prop}(h:P:=by assumption):P:=h
theorem IX{P:Prop}(h:P:=by rw[List.length_take];omega):P:=h
theorem IY{P:Prop}(h:P:=by simpa using h):P:=h
theorem IZ{P:Prop}(h:P:=by cases e):P:=h
theorem J0{P:Prop}(h:P:=by intro e;cases e):P:=h
theorem J1{P:Prop}(h:P:=by split <;> rfl):P:=h
theorem J2{P:Prop}(h:P:=by unfold maxLen;omega):P:=h
theorem P4{P:Prop}(h:P:=by rw[r.o,i.o,l.o];rfl):P:=h
theorem J4{P:Prop}(h:P:=by show(0:Int)<=12;decide):P:=h
theorem J6{P:Prop}(h:P:=by rw[g.o];exact aL.nil _ _):P:=h
theorem J7{P:Prop}(h:P:=by rw[g.o];exact a.cn):P:=h
theorem P5{P:Prop}(h:P:=by have:=z.o;omega):P:=h
theorem P6{P:Prop}(h:P:=by show some (Value.bool x.1.held)=_;rw[K]):P:=h
theorem Jb{P:Prop}(h:P:=by rw[List.length_append];omega):P:=h
theorem Jc{P:Prop}(h:P:=by exact fun _ _ _ h=>h):P:=h
theorem Jd{P:Prop}(h:P:=by rw[d.o];exact aL.nil _ _):P:=h
theorem P7{P:Prop}(h:P:=by rw[V]):P:=h
theorem Jf{P:Prop}(h:P:=by simpa using a):P:=h
theorem Jg{P:Prop}(h:P:=by rw[List.length_append];simp;omega):P:=h
theorem Jh{P:Prop}(h:P:=by show n₀<=w.heap.size;omega):P:=h
theorem Ji{P:Prop}(h:P:=by rw[cell_of_row _ _ _ _ _ _ (heap_alloc_new _ _)];rfl):P:=h
theorem Jj{P:Prop}(h:P:=by rw[r.o]):P:=h
theorem Jk{P:Prop}(h:P:=by show some (Value.int .i64 (bI x.1.dst))=_;rw[a6]):P:=h
theorem Jn{P:Prop}(h:P:=by rw[b];omega):P:=h
theorem Jo{P:Prop}(h:P:=by rw[a];omega):P:=h
theorem Jl{P:Prop}(h:P:=by simpa using g):P:=h
theorem Jq{P:Prop}(h:P:=by simpa using hi):P:=h
theorem Jr{P:Prop}(h:P:=by simpa using b):P:=h
theorem P9{P:Prop}(h:P:=by simpa using i):P:=h
theorem Jt{P:Prop}(h:P:=by simpa using hy):P:=h
theorem Jw{P:Prop}(h:P:=by rw[d.o];exact b.cn):P:=h
theorem Pc{P:Prop}(h:P:=by rw[d.o];exact I.o):P:=h
theorem Pe{P:Prop}(h:P:=by have:=b4.o;show p.wire.length<=400000000;omega):P:=h
theorem Pf{P:Prop}(h:P:=by rw[cell_of_row _ _ _ _ _ _ j];rfl):P:=h
theorem Pg{P:Prop}(h:P:=by rw[S.o];split;exact .inr Z;exact .inl Z):P:=h
theorem JA{P:Prop}(h:P:=by simpa using h2):P:=h
theorem JB{P:Prop}(h:P:=by have:=h.1;omega):P:=h
theorem JC{P:Prop}(h:P:=by split <;> omega):P:=h
theorem JD{P:Prop}(h:P:=by have:=q.g.hz;simpa using this):P:=h
theorem JE{P:Prop}(h:P:=by simpa using f):P:=h
theorem JF{P:Prop}(h:P:=by unfold Cn.out Cn.qa Cn.tq Cn.wk;rfl):P:=h
theorem Ph{P:Prop}(h:P:=by simpa using s):P:=h
theorem Pi{P:Prop}(h:P:=by rw[<-n];exact J):P:=h
theorem Pj{P:Prop}(h:P:=by rw[n]at J;cases J;exact d5):P:=h
theorem Pk{P:Prop}(h:P:=by have hk:=V.1;rw[<-A.st.eB]at hk|-;exact frozen_of_row _ _ _ _ _ (hk.trans A.st.pa.blk)):P:=h
theorem JJ{P:Prop}(h:P:=by rw[am.o];exact d.st):P:=h
theorem JK{P:Prop}(h:P:=by rw[j.o];exact aL.nil _ _):P:=h
theorem JL{P:Prop}(h:P:=by rw[j.o];exact b.cn):P:=h
theorem JM{P:Prop}(h:P:=by simp at hD;omega):P:=h
theorem Pl{P:Prop}(h:P:=by rw[HG.o,HD.o,if_neg (Int.not_lt.2 U.o),if_neg (Int.not_lt.2 d7.o)];rw[HP.o]):P:=h
theorem JO{P:Prop}(h:P:=by rw[List.length_drop];omega):P:=h
theorem Pm{P:Prop}(h:P:=by show N<w.heap.size;omega):P:=h
theorem JR{P:Prop}(h:P:=by have:=ac.o;simp;omega):P:=h
theorem JS{P:Prop}(h:P:=by rw[cell_of_row _ _ _ _ _ _ am.o];rfl):P:=h
theorem Po{P:Prop}(h:P:=by rw[<-List.length_map (f:=(·.1)),a3];rfl):P:=h
theorem JV{P:Prop}(h:P:=by show b<w.heap.size;omega):P:=h
theorem Pq{P:Prop}(h:P:=by rw[U.o,i.o];exact HL.o):P:=h
theorem Pt{P:Prop}(h:P:=by rw[d.o];exact J.o):P:=h
theorem Pu{P:Prop}(h:P:=by rw[<-a5.o];exact i.st.cell 13 qk.now Z):P:=h
theorem K0{P:Prop}(h:P:=by rw[<-n.o];exact d.cell 13 pk.now Z):P:=h
theorem Pv{P:Prop}(h:P:=by show some (Value.bool p.a.fin)=_;rw[f]):P:=h
theorem Pw{P:Prop}(h:P:=by rw[<-I.o];exact ax.o):P:=h
theorem Px{P:Prop}(h:P:=by show some (Value.bool p.b.fin)=_;rw[f]):P:=h
theorem K8{P:Prop}(h:P:=by rw[<-h.cf];exact g1):P:=h
theorem K9{P:Prop}(h:P:=by unfold Cn.expected;rw[if_neg (by rw[hr];decide)]):P:=h
theorem Kb{P:Prop}(h:P:=by unfold Sc.Db Sc.Cp;rw[bI.o];rfl):P:=h
theorem PA{P:Prop}(h:P:=by have f1:=dT.o;have e:wrap64 ((k:Int)+1)=((k+1:Nat):Int):=(by unfold wrap64;omega);rw[e]):P:=h
theorem Kd{P:Prop}(h:P:=by first | exact r | simpa using r):P:=h
theorem Ke{P:Prop}(h:P:=by rw[a];exact j.ack l hy (by rw[<-a];omega)):P:=h
theorem Kf{P:Prop}(h:P:=by unfold Cn.pd Cn.space;split <;> omega):P:=h
theorem Kj{P:Prop}(h:P:=by first | exact ho | (rw[List.append_assoc];exact ho)):P:=h
theorem Kk{P:Prop}(h:P:=by have:=i.Ee 0 _ Z;rwa [A]at this):P:=h
theorem Kl{P:Prop}(h:P:=by have:=i.Ee 1 _ Z;rwa [A]at this):P:=h
theorem PF{P:Prop}(h:P:=by show(wc.heap.push _).size<=J;rw[Array.size_push];exact h2):P:=h
theorem Ko{P:Prop}(h:P:=by rw[World.size_alloc];omega):P:=h
theorem Kp{P:Prop}(h:P:=by intro h;rw[h]at hs;cases hs):P:=h
theorem Kr{P:Prop}(h:P:=by rw[<-k.rv.fx.ended];exact g):P:=h
theorem Ks{P:Prop}(h:P:=by rw[<-k.rv.fx.bx];exact hi):P:=h
theorem Kt{P:Prop}(h:P:=by show 0<=p.now+1/\p.now+1<=1000000;omega):P:=h
theorem Ku{P:Prop}(h:P:=by show(1:Int)<=max 0 (1+(40+aO x.xb 400));omega):P:=h
theorem PH{P:Prop}(h:P:=by rw[HU.o]at K;show bI (q.dn false)=_;rw[K.o];rfl):P:=h
theorem PJ{P:Prop}(h:P:=by rw[HU.o]at K;show bI (q.dn false)+bI ((q.nv false).dn true)=_;rw[K.o];rfl):P:=h
theorem Ky{P:Prop}(h:P:=by cases q.dn false;exact .inl Z;exact .inr Z):P:=h
theorem PK{P:Prop}(h:P:=by show t7 N t w E (q.nv false) wd;rw[<-HU.o];exact d.st):P:=h
theorem PL{P:Prop}(h:P:=by show t7 N t w E (q.Cm.1) wd;rw[show q.Cm.1=(q.nv false).nv true from Z,<-HU.o];exact d.st):P:=h
theorem KB{P:Prop}(h:P:=by intro u q;simp at q;rcases q with rfl | rfl <;> rfl):P:=h
theorem KC{P:Prop}(h:P:=by intro _ ad e;cases e;exact fun e=>by have:=(bo.2.2.2.2.1.lt _ e).2;simp at this):P:=h
theorem PM{P:Prop}(h:P:=by have:=sT.Dj am ((nF.refl B W7).setCell 2 E) (Nat.le_refl _) (fun _ l e=>by cases e;exact a6.1);simpa[World.setCell]using this):P:=h
theorem PN{P:Prop}(h:P:=by rcases K with h | ⟨kk,h,hk⟩;exact .inl h;exact .inr ⟨kk,h,by simp;omega⟩):P:=h
theorem KG{P:Prop}(h:P:=by rw[c.2];exact d.below ⟨Z,Z,Z,Nat.le_refl _,fun _ _=>rfl⟩):P:=h
theorem KH{P:Prop}(h:P:=by unfold Sc.E7;rw[show decide (0<=gi/\gi<=s.next)=false by rw[decide_eq_false_iff_not];omega];rfl):P:=h
theorem PO{P:Prop}(h:P:=by obtain⟨_,_,_,_,⟨J,-⟩,-,-,-,-,-,-⟩:=a.hs.ats;exact⟨a.cC,J,a.cL⟩):P:=h
theorem PP{P:Prop}(h:P:=by obtain⟨_,_,_,_,⟨J,-⟩,-,-,-,-,-,-⟩:=(a.below d).hs.ats;exact⟨(a.below d).cC,J,(a.below d).cL⟩):P:=h
theorem KK{P:Prop}(h:P:=by have:=c.2.2.symm.trans A;injection this with e;injection e with e1 e2 e3;exact⟨e1,e3⟩):P:=h
theorem KL{P:Prop}(h:P:=by have h:=aN am.o;rw[Int.tdiv_eq_ediv_of_nonneg h.1];unfold wrap64;omega):P:=h
theorem PQ{P:Prop}(h:P:=by rw[i.o,Cn.z6,if_neg (fun h=>by have:=u.symm.trans h.2;cases this)];exact F.o):P:=h
theorem PR{P:Prop}(h:P:=by rw[i.o,Cn.z6,if_neg (fun h=>by have:=u.symm.trans h.2;cases this)];exact B.o):P:=h
theorem KO{P:Prop}(h:P:=by rw[c.o];first | (simp[b.o];done) | (simp[b.o];omega)):P:=h
theorem PS{P:Prop}(h:P:=by show 0<=qk.now/\qk.now<=1000000;rw[a5.o];exact⟨ak,al⟩):P:=h
theorem PU{P:Prop}(h:P:=by rintro (h | h);exact A.o h;exact absurd (j.symm.trans h) (by decide)):P:=h
theorem PW{P:Prop}(h:P:=by rw[if_neg (by rintro (h | h);(have:=HG.symm.trans h;cases this);(have:=I.symm.trans h;cases this))]):P:=h
theorem PX{P:Prop}(h:P:=by rintro (h | h);(have:=HG.symm.trans h;cases this);(have:=I.symm.trans h;cases this)):P:=h
theorem PY{P:Prop}(h:P:=by cases hq:jh d.st with | false=>rfl | true=>exact absurd hq I):P:=h
theorem PZ{P:Prop}(h:P:=by unfold Cn.z8 at j;unfold Cn.close;split at j;(rename_i hx;rw[if_pos hx]);exact absurd Z j):P:=h
theorem KX{P:Prop}(h:P:=by have e:Cn.Cu (cZ 0 (eF x) (gA x)).1=3:=Z;show Cn.Cu (cZ 0 (eF x) (gA x)).1<=10;rw[e];decide):P:=h
theorem KY{P:Prop}(h:P:=by have h1:=bb.o;have h2:=bk.o;simp[ByteArray.size];omega):P:=h
theorem L0{P:Prop}(h:P:=by unfold Cn.last;rw[sd.held,sd.base];exact Int.le_refl _):P:=h
theorem L1{P:Prop}(h:P:=by rw[m.port.1,m.port.2];exact fun g=>by rcases g with g | g <;> exact g Z):P:=h
theorem Q2{P:Prop}(h:P:=by have e:tL q 1=bI false:=(by rw[HU.o]at K;show bI (q.dn false)=_;rw[K.o];rfl);rw[e];have h1:bI true=1:=Z;have h2:bI false=0:=Z;have h3:tL q 0=0:=Z;first | rfl | (congr 1;(try unfold wrap64);omega)):P:=h
theorem Q3{P:Prop}(h:P:=by have e:tL q 2=bI (q.dn false)+bI false:=(by rw[HU.o]at K;show bI (q.dn false)+bI ((q.nv false).dn true)=_;rw[K.o];rfl);rw[e];have h0:bI (q.dn false)=0\/bI (q.dn false)=1:=(by cases q.dn false;exact .inl Z;exact .inr Z);have h1:bI true=1:=Z;have h2:bI false=0:=Z;have h3:tL q 1=bI (q.dn false):=Z;first | rfl | (congr 1;(try unfold wrap64);omega)):P:=h
theorem Q4{P:Prop}(h:P:=by have:=G.o;rw[show 3590+4*(k:Int)+1+1+1+1=3590+4*((k+1:Nat):Int) by omega]at this;exact this):P:=h
abbrev L6:=@Nat.le_refl
abbrev L7.{u}:=@if_neg.{u}
abbrev L8.{u}:=@Array.getElem?_eq_some_iff.{u}
abbrev L9.{u}:=@if_pos.{u}
abbrev La:=@Nat.le_trans
abbrev Lb:=@Int.le_refl
abbrev Lc.{u}:=@List.length_append.{u}
abbrev Ld:=@Nat.lt_of_lt_of_le
abbrev Le:=@decide_eq_true
abbrev Lf.{u}:=@List.setIfInBounds_toArray.{u}
abbrev Lg.{u}:=@List.length_take.{u}
abbrev Lh:=@decide_eq_false
abbrev Lj:=@decide_eq_true_iff
abbrev Lk.{u}:=@List.set_cons_zero.{u}
abbrev Lm.{u}:=@List.set_cons_succ.{u}
abbrev Ln.{u}:=@beq_eq_false_iff_ne.{u}
abbrev Lr.{u}:=@List.getElem?_cons_zero.{u}
abbrev Lt.{u}:=@List.length_drop.{u}
abbrev Lu:=@decide_eq_false_iff_not
abbrev Lv.{u}:=@List.getElem?_cons_succ.{u}
abbrev Lx.{u}:=@List.getElem?_toArray.{u}
abbrev Ly.{u}:=@List.mem_singleton.{u}
abbrev Lz.{u}:=@List.take_succ_eq_append_getElem.{u}
abbrev LC.{u}:=@List.length_cons.{u}
abbrev LD:=@Bool.and_eq_true
abbrev LE:=@Int.le_trans
abbrev LG.{u}:=@List.nil_append.{u}
abbrev LH.{u}:=@List.mem_append.{u}
abbrev LI:=@Bool.not_not
abbrev LJ.{u}:=@List.size_toArray.{u}
abbrev LM.{u,v}:=@List.length_map.{u,v}
abbrev LN:=@of_decide_eq_true
abbrev LO.{u}:=@List.append_assoc.{u}
abbrev LP.{u}:=@List.append_nil.{u}
abbrev LQ.{u,v}:=@List.map_append.{u,v}
abbrev LR.{u}:=@List.mem_append_left.{u}
abbrev LS.{u}:=@List.getElem_mem.{u}
abbrev LT.{u}:=@List.cons_append.{u}
abbrev LU.{u}:=@List.eq_nil_of_length_eq_zero.{u}
abbrev LV.{u}:=@List.take_length.{u}
abbrev LZ:=@Nat.zero_le
abbrev M2:=@Int.eq_ofNat_of_zero_le
abbrev M3.{u}:=@List.mem_filter.{u}
abbrev M4.{u}:=@List.length_nil.{u}
abbrev M5.{u}:=@List.getElem?_take_of_lt.{u}
abbrev M7.{u}:=@List.mem_cons_self.{u}
abbrev M8.{u}:=@List.length_filter_le.{u}
abbrev M9.{u,v}:=@List.map_cons.{u,v}
abbrev Ma.{u}:=@Array.replicate_zero.{u}
abbrev Mb.{u}:=@Array.replicate_succ.{u}
abbrev Me.{u}:=@beq_iff_eq.{u}
abbrev Mf.{u}:=@List.take_of_length_le.{u}
abbrev Mg.{u,v}:=@List.mem_map.{u,v}
abbrev Mi.{u}:=@List.append_toArray.{u}
abbrev Mj.{u}:=@List.mem_cons_of_mem.{u}
abbrev Mk.{u}:=@List.getElem?_append_right.{u}
abbrev Mm.{u}:=@List.mem_cons.{u}
abbrev Mo.{u}:=@List.getElem?_append_left.{u}
abbrev Mp.{u}:=@List.push_toArray.{u}
abbrev Mq.{u}:=@List.mem_append_right.{u}
abbrev Mr.{u}:=@List.length_singleton.{u}
abbrev Ms.{u,v}:=@List.map_nil.{u,v}
abbrev Mt.{u}:=@List.filter_append.{u}
abbrev Mu:=@Int.le_of_eq
abbrev Mx.{u}:=@List.length_replicate.{u}
abbrev Mz:=@Bool.not_eq_true
abbrev MA:=@Int.lt_or_le
abbrev MD.{u,v}:=@List.flatMap_append.{u,v}
abbrev MF.{u}:=@List.getElem_cons_zero.{u}
abbrev MG:=@Nat.lt_irrefl
abbrev MI.{u,v}:=@List.map_toArray.{u,v}
abbrev MK.{u}:=@List.drop_zero.{u}
abbrev ML:=@Int.tmod_eq_emod_of_nonneg
abbrev MM:=@Int.tdiv_eq_ediv_of_nonneg
abbrev MN.{u}:=@List.pairwise_iff_getElem.{u}
abbrev MO.{u}:=@List.getElem?_eq_some_iff.{u}
abbrev MP.{u}:=@List.drop_eq_getElem_cons.{u}
abbrev MQ:=@Nat.zero_add
abbrev MR:=@Bool.or_eq_false_iff
abbrev MS:=@Int.not_lt
abbrev MT.{u}:=@List.filter_cons_of_pos.{u}
abbrev MU.{u}:=@List.filter_cons_of_neg.{u}
abbrev MV:=@Int.mul_nonneg
abbrev MY:=@Nat.eq_zero_or_pos
abbrev MZ.{u}:=@List.getElem?_drop.{u}
abbrev N2:=@Bool.false_ne_true
abbrev N3.{u}:=@Option.some.inj.{u}
abbrev N4.{u}:=@List.getElem?_eq_none.{u}
abbrev N5.{u,v}:=@List.foldl_append.{u,v}
abbrev N7.{u}:=@Array.getElem_toList.{u}
abbrev N9:=@decide_eq_decide
abbrev Nc.{u}:=@List.take_succ_cons.{u}
abbrev Nd.{u}:=@List.getElem?_eq_getElem.{u}
abbrev Nf:=@of_decide_eq_false
abbrev Ng:=@Nat.mod_lt
abbrev Nh.{u,v,x}:=@getElem!_pos.{u,v,x}
abbrev Ni:=@Int.pow_nonneg
abbrev Nk.{u}:=@List.drop_length.{u}
abbrev Nl.{u}:=@List.mem_of_mem_take.{u}
abbrev Nm.{u}:=@List.mem_iff_getElem.{u}
abbrev Nn.{u,v}:=@List.foldl_cons.{u,v}
abbrev Nq.{u,v}:=@List.mem_map_of_mem.{u,v}
abbrev Nr:=@Nat.zero_mul
abbrev Nt:=@Nat.ne_of_lt
abbrev Nu:=@Nat.add_zero
abbrev Nv.{u}:=@List.take_zero.{u}
abbrev Nw.{u}:=@List.take_take.{u}
abbrev Nx.{u}:=@List.exists_mem_of_ne_nil.{u}
abbrev Nz.{u}:=@List.getElem_take.{u}
abbrev NE:=@Bool.true_and
abbrev NF:=@And.right
abbrev NK.{u}:=@List.getElem_cons_succ.{u}
abbrev NL:=@Int.not_le
abbrev NM:=@Iff.rfl
abbrev NO:=@ByteArray.size_extract
abbrev NP:=@ByteArray.data_extract
abbrev NR.{u,v}:=@List.filter_map.{u,v}
abbrev NS:=@Bool.eq_iff_iff
abbrev NT.{u}:=@List.take_append_drop.{u}
abbrev NU.{u}:=@List.pairwise_append.{u}
abbrev NV.{u}:=@List.dropLast_concat.{u}
abbrev NW:=@And.left
abbrev NX.{u}:=@Array.length_toList.{u}
abbrev NZ.{u,v}:=@Prod.mk.injEq.{u,v}
abbrev P0:=@Nat.add_assoc
abbrev P2.{u}:=@List.pairwise_cons.{u}
end Go.Proofs.YtcmncipikdpnbaaGreatDoor
