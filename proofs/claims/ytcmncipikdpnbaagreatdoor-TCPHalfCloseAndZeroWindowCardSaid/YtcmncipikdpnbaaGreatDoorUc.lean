import GoSem.Core.World
namespace Go.Proofs.YtcmncipikdpnbaaGreatDoor
abbrev Y:=Value
instance:Coe Int Value:=⟨fun x=>.int .i64 x⟩
instance:Coe Bool Value:=⟨.bool⟩
instance:Coe Nat Value:=⟨fun b=>.pointer (some ⟨b,0,none⟩)⟩
instance:Coe Nat Addr:=⟨fun b=>⟨b,0,none⟩⟩
theorem Z{α:Type}{a:α}:a=a:=rfl
theorem O{P:Prop}(h:P:=by omega):P:=h
theorem D{P:Prop}(h:P:=by decide):P:=h
theorem FE{P:Prop}(h:P:=by simp):P:=h
theorem IH{P:Prop}(h:P:=by simp;omega):P:=h
theorem II{P:Prop}(h:P:=by dsimp only;omega):P:=h
theorem IJ{P:Prop}(h:P:=by rfl):P:=h
theorem IL{P:Prop}(h:P:=by simp[ByteArray.size]):P:=h
theorem IM{P:Prop}(h:P:=by rw[cell_of_row _ _ _ _ _ _ i.o];rfl):P:=h
theorem IN{P:Prop}(h:P:=by rw[n.o]):P:=h
theorem IQ{P:Prop}(h:P:=by unfold wrap64;omega):P:=h
theorem IR{P:Prop}(h:P:=by assumption):P:=h
theorem IS{P:Prop}(h:P:=by rw[List.length_take];omega):P:=h
theorem IT{P:Prop}(h:P:=by simpa using h):P:=h
theorem IU{P:Prop}(h:P:=by cases e):P:=h
theorem IV{P:Prop}(h:P:=by split <;> rfl):P:=h
theorem IW{P:Prop}(h:P:=by intro e;cases e):P:=h
theorem IX{P:Prop}(h:P:=by unfold maxLen;omega):P:=h
theorem IZ{P:Prop}(h:P:=by rw[r.o,i.o,l.o];rfl):P:=h
theorem J0{P:Prop}(h:P:=by show(0:Int)<=12;decide):P:=h
theorem J2{P:Prop}(h:P:=by rw[g.o];exact aL.nil _ _):P:=h
theorem J3{P:Prop}(h:P:=by rw[g.o];exact a.cn):P:=h
theorem J4{P:Prop}(h:P:=by have:=z.o;omega):P:=h
theorem J5{P:Prop}(h:P:=by show some (Value.bool x.1.held)=_;rw[K]):P:=h
theorem J6{P:Prop}(h:P:=by exact fun _ _ _ h=>h):P:=h
theorem J7{P:Prop}(h:P:=by rw[List.length_append];omega):P:=h
theorem J8{P:Prop}(h:P:=by rw[d.o];exact aL.nil _ _):P:=h
theorem J9{P:Prop}(h:P:=by rw[V]):P:=h
theorem Ja{P:Prop}(h:P:=by simpa using a):P:=h
theorem Jb{P:Prop}(h:P:=by rw[List.length_append];simp;omega):P:=h
theorem Jc{P:Prop}(h:P:=by show n₀<=w.heap.size;omega):P:=h
theorem Jd{P:Prop}(h:P:=by rw[cell_of_row _ _ _ _ _ _ (heap_alloc_new _ _)];rfl):P:=h
theorem Je{P:Prop}(h:P:=by rw[r.o]):P:=h
theorem Jf{P:Prop}(h:P:=by show some (Value.int .i64 (bI x.1.dst))=_;rw[a6]):P:=h
theorem Jg{P:Prop}(h:P:=by rw[b];omega):P:=h
theorem Jh{P:Prop}(h:P:=by rw[a];omega):P:=h
theorem Ji{P:Prop}(h:P:=by simpa using g):P:=h
theorem Jj{P:Prop}(h:P:=by simpa using hi):P:=h
theorem Jk{P:Prop}(h:P:=by simpa using b):P:=h
theorem Jl{P:Prop}(h:P:=by simpa using i):P:=h
theorem Jm{P:Prop}(h:P:=by simpa using hy):P:=h
theorem Jq{P:Prop}(h:P:=by rw[d.o];exact b.cn):P:=h
theorem Jr{P:Prop}(h:P:=by rw[d.o];exact I.o):P:=h
theorem Js{P:Prop}(h:P:=by have:=b4.o;show p.wire.length<=400000000;omega):P:=h
theorem Jt{P:Prop}(h:P:=by rw[I.o];split;exact .inr Z;exact .inl Z):P:=h
theorem Ju{P:Prop}(h:P:=by rw[cell_of_row _ _ _ _ _ _ i];rfl):P:=h
theorem Jv{P:Prop}(h:P:=by split <;> omega):P:=h
theorem Jw{P:Prop}(h:P:=by simpa using h2):P:=h
theorem Jy{P:Prop}(h:P:=by have:=h.1;omega):P:=h
theorem Jz{P:Prop}(h:P:=by have:=q.g.hz;simpa using this):P:=h
theorem JA{P:Prop}(h:P:=by unfold Cn.out Cn.nY Cn.qn Cn.qG;rfl):P:=h
theorem JB{P:Prop}(h:P:=by simpa using s):P:=h
theorem JC{P:Prop}(h:P:=by simpa using f):P:=h
theorem JD{P:Prop}(h:P:=by rw[<-n];exact J):P:=h
theorem JE{P:Prop}(h:P:=by rw[n]at J;cases J;exact b4):P:=h
theorem JF{P:Prop}(h:P:=by rw[HY.o];rfl):P:=h
theorem JG{P:Prop}(h:P:=by have hk:=X.1;rw[<-A.st.eB]at hk|-;exact frozen_of_row _ _ _ _ _ (hk.trans A.st.pa.blk)):P:=h
theorem JH{P:Prop}(h:P:=by rw[b0.o];exact d.st):P:=h
theorem JI{P:Prop}(h:P:=by rw[j.o];exact aL.nil _ _):P:=h
theorem JJ{P:Prop}(h:P:=by rw[j.o];exact b.cn):P:=h
theorem JK{P:Prop}(h:P:=by rw[hl,ha];exact h):P:=h
theorem JL{P:Prop}(h:P:=by simp at hD;omega):P:=h
theorem JM{P:Prop}(h:P:=by rw[HG.o,HD.o,if_neg (Int.not_lt.2 U.o),if_neg (Int.not_lt.2 d6.o)];rw[HP.o]):P:=h
theorem JN{P:Prop}(h:P:=by rw[List.length_drop];omega):P:=h
theorem JO{P:Prop}(h:P:=by show N<w.heap.size;omega):P:=h
theorem JQ{P:Prop}(h:P:=by have:=ac.o;simp;omega):P:=h
theorem JR{P:Prop}(h:P:=by rw[cell_of_row _ _ _ _ _ _ am.o];rfl):P:=h
theorem JS{P:Prop}(h:P:=by rw[<-List.length_map (f:=(·.1)),a3];rfl):P:=h
theorem JT{P:Prop}(h:P:=by show b<w.heap.size;omega):P:=h
theorem JV{P:Prop}(h:P:=by rw[V.o,j.o];exact HL.o):P:=h
theorem JW{P:Prop}(h:P:=by rw[d.o];exact J.o):P:=h
theorem JX{P:Prop}(h:P:=by rw[<-a5.o];exact i.st.cell 13 qk.now Z):P:=h
theorem JY{P:Prop}(h:P:=by rw[<-n.o];exact d.cell 13 pk.now Z):P:=h
theorem JZ{P:Prop}(h:P:=by rw[b.o];exact aL.nil _ _):P:=h
theorem K0{P:Prop}(h:P:=by rw[b.o];exact a.cn):P:=h
theorem K1{P:Prop}(h:P:=by show some (Value.bool p.a.fin)=_;rw[f]):P:=h
theorem K2{P:Prop}(h:P:=by rw[<-I.o];exact ax.o):P:=h
theorem K5{P:Prop}(h:P:=by show some (Value.bool p.b.fin)=_;rw[f]):P:=h
theorem K6{P:Prop}(h:P:=by rw[<-h.cf];exact g1):P:=h
theorem K7{P:Prop}(h:P:=by unfold Cn.expected;rw[if_neg (by rw[hr];decide)]):P:=h
theorem K9{P:Prop}(h:P:=by rw[a];exact i.ack j hy (by rw[<-a];omega)):P:=h
theorem Ka{P:Prop}(h:P:=by unfold Sc.A2 Sc.wE;rw[bI.o];rfl):P:=h
theorem Kb{P:Prop}(h:P:=by have f3:=cw.o;have e:wrap64 ((k:Int)+1)=((k+1:Nat):Int):=(by unfold wrap64;omega);rw[e]):P:=h
theorem Kc{P:Prop}(h:P:=by first | exact r | simpa using r):P:=h
theorem Kd{P:Prop}(h:P:=by unfold Cn.nX Cn.space;split <;> omega):P:=h
theorem Kh{P:Prop}(h:P:=by first | exact ho | (rw[List.append_assoc];exact ho)):P:=h
theorem Ki{P:Prop}(h:P:=by have:=i.DV 0 _ Z;rwa [A]at this):P:=h
theorem Kj{P:Prop}(h:P:=by have:=i.DV 1 _ Z;rwa [A]at this):P:=h
theorem Kk{P:Prop}(h:P:=by show(wc.heap.push _).size<=J;rw[Array.size_push];exact h2):P:=h
theorem Km{P:Prop}(h:P:=by intro h;rw[h]at hs;cases hs):P:=h
theorem Kn{P:Prop}(h:P:=by rw[<-k.rv.fx.ended];exact g):P:=h
theorem Ko{P:Prop}(h:P:=by rw[<-k.rv.fx.bx];exact hi):P:=h
theorem Kp{P:Prop}(h:P:=by show 0<=p.now+1/\p.now+1<=1000000;omega):P:=h
theorem Kr{P:Prop}(h:P:=by show(1:Int)<=max 0 (1+(40+aO x.sw 400));omega):P:=h
theorem Ks{P:Prop}(h:P:=by rw[T.o]at E;show bI (q.dn false)=_;rw[E.o];rfl):P:=h
theorem Kt{P:Prop}(h:P:=by rw[T.o]at E;show bI (q.dn false)+bI ((q.mR false).dn true)=_;rw[E.o];rfl):P:=h
theorem Ku{P:Prop}(h:P:=by cases q.dn false;exact .inl Z;exact .inr Z):P:=h
theorem Kv{P:Prop}(h:P:=by show pE N t w y (q.mR false) wd;rw[<-T.o];exact d.st):P:=h
theorem Kw{P:Prop}(h:P:=by show pE N t w y (q.zx.1) wd;rw[show q.zx.1=(q.mR false).mR true from Z,<-T.o];exact d.st):P:=h
theorem Ky{P:Prop}(h:P:=by rw[World.size_alloc];omega):P:=h
theorem Kz{P:Prop}(h:P:=by intro u q;simp at q;rcases q with rfl | rfl <;> rfl):P:=h
theorem KA{P:Prop}(h:P:=by intro _ ad e;cases e;exact fun e=>by have:=(bo.2.2.2.2.1.lt _ e).2;simp at this):P:=h
theorem KB{P:Prop}(h:P:=by have:=oB.BS am ((lh.refl B W7).setCell 2 E) (Nat.le_refl _) (fun _ l e=>by cases e;exact a6.1);simpa[World.setCell]using this):P:=h
theorem KD{P:Prop}(h:P:=by rcases K with h | ⟨kk,h,hk⟩;exact .inl h;exact .inr ⟨kk,h,by simp;omega⟩):P:=h
theorem KE{P:Prop}(h:P:=by rw[c.2];exact d.below ⟨Z,Z,Z,Nat.le_refl _,fun _ _=>rfl⟩):P:=h
theorem KF{P:Prop}(h:P:=by unfold Sc.Dw;rw[show decide (0<=fM/\fM<=s.next)=false by rw[decide_eq_false_iff_not];omega];rfl):P:=h
theorem KG{P:Prop}(h:P:=by obtain⟨_,_,_,_,⟨J,-⟩,-,-,-,-,-,-⟩:=a.hs.ats;exact⟨a.cC,J,a.cL⟩):P:=h
theorem KH{P:Prop}(h:P:=by obtain⟨_,_,_,_,⟨J,-⟩,-,-,-,-,-,-⟩:=(a.below d).hs.ats;exact⟨(a.below d).cC,J,(a.below d).cL⟩):P:=h
theorem KI{P:Prop}(h:P:=by have:=c.2.2.symm.trans A;injection this with e;injection e with e1 e2 e3;exact⟨e1,e3⟩):P:=h
theorem KJ{P:Prop}(h:P:=by have h:=aN am.o;rw[Int.tdiv_eq_ediv_of_nonneg h.1];unfold wrap64;omega):P:=h
theorem KK{P:Prop}(h:P:=by rw[i.o,Cn.t7,if_neg (fun h=>by have:=u.symm.trans h.2;cases this)];exact F.o):P:=h
theorem KL{P:Prop}(h:P:=by rw[i.o,Cn.t7,if_neg (fun h=>by have:=u.symm.trans h.2;cases this)];exact B.o):P:=h
theorem KM{P:Prop}(h:P:=by rw[c.o];first | (simp[b.o];done) | (simp[b.o];omega)):P:=h
theorem KO{P:Prop}(h:P:=by show 0<=qk.now/\qk.now<=1000000;rw[a5.o];exact⟨ak,al⟩):P:=h
theorem KQ{P:Prop}(h:P:=by rintro (h | h);exact A.o h;exact absurd (j.symm.trans h) (by decide)):P:=h
theorem KR{P:Prop}(h:P:=by rw[if_neg (by rintro (h | h);(have:=HG.symm.trans h;cases this);(have:=I.symm.trans h;cases this))]):P:=h
theorem KS{P:Prop}(h:P:=by rintro (h | h);(have:=HG.symm.trans h;cases this);(have:=I.symm.trans h;cases this)):P:=h
theorem KT{P:Prop}(h:P:=by cases hq:jr d.st with | false=>rfl | true=>exact absurd hq I):P:=h
theorem KU{P:Prop}(h:P:=by unfold Cn.te at j;unfold Cn.close;split at j;(rename_i hx;rw[if_pos hx]);exact absurd Z j):P:=h
theorem KV{P:Prop}(h:P:=by have e:Cn.xJ (cZ 0 (eH x) (gG x)).1=3:=Z;show Cn.xJ (cZ 0 (eH x) (gG x)).1<=10;rw[e];decide):P:=h
theorem KW{P:Prop}(h:P:=by have h1:=bb.o;have h2:=bk.o;simp[ByteArray.size];omega):P:=h
theorem KZ{P:Prop}(h:P:=by unfold Cn.last;rw[sd.held,sd.base];exact Int.le_refl _):P:=h
theorem L0{P:Prop}(h:P:=by rw[m.port.1,m.port.2];exact fun g=>by rcases g with g | g <;> exact g Z):P:=h
theorem L1{P:Prop}(h:P:=by have e:tg q 1=bI false:=(by rw[T.o]at E;show bI (q.dn false)=_;rw[E.o];rfl);rw[e];have h1:bI true=1:=Z;have h2:bI false=0:=Z;have h3:tg q 0=0:=Z;first | rfl | (congr 1;(try unfold wrap64);omega)):P:=h
theorem L2{P:Prop}(h:P:=by have e:tg q 2=bI (q.dn false)+bI false:=(by rw[T.o]at E;show bI (q.dn false)+bI ((q.mR false).dn true)=_;rw[E.o];rfl);rw[e];have h0:bI (q.dn false)=0\/bI (q.dn false)=1:=(by cases q.dn false;exact .inl Z;exact .inr Z);have h1:bI true=1:=Z;have h2:bI false=0:=Z;have h3:tg q 1=bI (q.dn false):=Z;first | rfl | (congr 1;(try unfold wrap64);omega)):P:=h
abbrev L4:=@Nat.le_refl
abbrev L5.{u}:=@if_neg.{u}
abbrev L6.{u}:=@Array.getElem?_eq_some_iff.{u}
abbrev L7.{u}:=@if_pos.{u}
abbrev L8:=@Nat.le_trans
abbrev L9:=@Int.le_refl
abbrev La.{u}:=@List.length_append.{u}
abbrev Lb:=@Nat.lt_of_lt_of_le
abbrev Lc:=@decide_eq_true
abbrev Ld.{u}:=@List.setIfInBounds_toArray.{u}
abbrev Le.{u}:=@List.length_take.{u}
abbrev Lf:=@decide_eq_false
abbrev Lh:=@decide_eq_true_iff
abbrev Li.{u}:=@List.set_cons_zero.{u}
abbrev Lk.{u}:=@List.set_cons_succ.{u}
abbrev Ll.{u}:=@beq_eq_false_iff_ne.{u}
abbrev Lo.{u}:=@List.getElem?_cons_zero.{u}
abbrev Lq.{u}:=@List.length_drop.{u}
abbrev Lr:=@decide_eq_false_iff_not
abbrev Ls.{u}:=@List.getElem?_cons_succ.{u}
abbrev Lt.{u}:=@List.getElem?_toArray.{u}
abbrev Lu.{u}:=@List.mem_singleton.{u}
abbrev Lv.{u}:=@List.take_succ_eq_append_getElem.{u}
abbrev Lx.{u}:=@List.length_cons.{u}
abbrev Ly:=@Bool.and_eq_true
abbrev Lz:=@Int.le_trans
abbrev LD.{u}:=@List.nil_append.{u}
abbrev LE.{u}:=@List.mem_append.{u}
abbrev LF:=@Bool.not_not
abbrev LG.{u}:=@List.size_toArray.{u}
abbrev LI.{u,v}:=@List.length_map.{u,v}
abbrev LJ:=@of_decide_eq_true
abbrev LK.{u}:=@List.append_assoc.{u}
abbrev LM.{u}:=@List.append_nil.{u}
abbrev LN.{u,v}:=@List.map_append.{u,v}
abbrev LO.{u}:=@List.mem_append_left.{u}
abbrev LP.{u}:=@List.getElem_mem.{u}
abbrev LQ.{u}:=@List.cons_append.{u}
abbrev LR.{u}:=@List.eq_nil_of_length_eq_zero.{u}
abbrev LS.{u}:=@List.take_length.{u}
abbrev LW:=@Nat.zero_le
abbrev LY:=@Int.eq_ofNat_of_zero_le
abbrev LZ.{u}:=@List.mem_filter.{u}
abbrev M1.{u}:=@List.length_nil.{u}
abbrev M2.{u}:=@List.getElem?_take_of_lt.{u}
abbrev M4.{u}:=@List.mem_cons_self.{u}
abbrev M5.{u}:=@List.length_filter_le.{u}
abbrev M6.{u,v}:=@List.map_cons.{u,v}
abbrev M7.{u}:=@Array.replicate_zero.{u}
abbrev M8.{u}:=@Array.replicate_succ.{u}
abbrev Mb.{u}:=@beq_iff_eq.{u}
abbrev Mc.{u}:=@List.take_of_length_le.{u}
abbrev Md.{u,v}:=@List.mem_map.{u,v}
abbrev Mf.{u}:=@List.append_toArray.{u}
abbrev Mg.{u}:=@List.mem_cons_of_mem.{u}
abbrev Mh.{u}:=@List.getElem?_append_right.{u}
abbrev Mi.{u}:=@List.mem_cons.{u}
abbrev Mj.{u}:=@List.getElem?_append_left.{u}
abbrev Mk.{u}:=@List.push_toArray.{u}
abbrev Mm.{u}:=@List.mem_append_right.{u}
abbrev Mo.{u}:=@List.length_singleton.{u}
abbrev Mp.{u,v}:=@List.map_nil.{u,v}
abbrev Mq.{u}:=@List.filter_append.{u}
abbrev Mr:=@Int.le_of_eq
abbrev Mt.{u}:=@List.length_replicate.{u}
abbrev Mw:=@Bool.not_eq_true
abbrev Mx:=@Int.lt_or_le
abbrev MA.{u,v}:=@List.flatMap_append.{u,v}
abbrev MC.{u}:=@List.getElem_cons_zero.{u}
abbrev MD:=@Nat.lt_irrefl
abbrev MF.{u,v}:=@List.map_toArray.{u,v}
abbrev MH.{u}:=@List.drop_zero.{u}
abbrev MI:=@Int.tmod_eq_emod_of_nonneg
abbrev MJ:=@Int.tdiv_eq_ediv_of_nonneg
abbrev MK.{u}:=@List.pairwise_iff_getElem.{u}
abbrev ML.{u}:=@List.getElem?_eq_some_iff.{u}
abbrev MM.{u}:=@List.drop_eq_getElem_cons.{u}
abbrev MN:=@Nat.zero_add
abbrev MO:=@Bool.or_eq_false_iff
abbrev MP:=@Int.not_lt
abbrev MQ.{u}:=@List.filter_cons_of_pos.{u}
abbrev MR.{u}:=@List.filter_cons_of_neg.{u}
abbrev MS:=@Int.mul_nonneg
abbrev MV:=@Nat.eq_zero_or_pos
abbrev MW.{u}:=@List.getElem?_drop.{u}
abbrev MX:=@Bool.false_ne_true
abbrev MY.{u}:=@Option.some.inj.{u}
abbrev MZ.{u}:=@List.getElem?_eq_none.{u}
abbrev N2.{u,v}:=@List.foldl_append.{u,v}
abbrev N4.{u}:=@Array.getElem_toList.{u}
abbrev N6:=@decide_eq_decide
abbrev N9.{u}:=@List.take_succ_cons.{u}
abbrev Na.{u}:=@List.getElem?_eq_getElem.{u}
abbrev Nb:=@of_decide_eq_false
abbrev Nc:=@Nat.mod_lt
abbrev Nd.{u,v,x}:=@getElem!_pos.{u,v,x}
abbrev Nf:=@Int.pow_nonneg
abbrev Nh.{u}:=@List.drop_length.{u}
abbrev Ni.{u}:=@List.mem_of_mem_take.{u}
abbrev Nj.{u}:=@List.mem_iff_getElem.{u}
abbrev Nk.{u,v}:=@List.foldl_cons.{u,v}
abbrev Nn.{u,v}:=@List.mem_map_of_mem.{u,v}
abbrev No:=@Nat.zero_mul
abbrev Np:=@Nat.ne_of_lt
abbrev Nq:=@Nat.add_zero
abbrev Nr.{u}:=@List.take_zero.{u}
abbrev Nt.{u}:=@List.take_take.{u}
abbrev Nu.{u}:=@List.exists_mem_of_ne_nil.{u}
abbrev Nw.{u}:=@List.getElem_take.{u}
abbrev Ny:=@Bool.true_and
abbrev Nz:=@And.right
abbrev NG.{u}:=@List.getElem_cons_succ.{u}
abbrev NH:=@Int.not_le
abbrev NJ:=@Iff.rfl
abbrev NK:=@ByteArray.size_extract
abbrev NL:=@ByteArray.data_extract
abbrev NN.{u,v}:=@List.filter_map.{u,v}
abbrev NO:=@Bool.eq_iff_iff
abbrev NP.{u}:=@List.take_append_drop.{u}
abbrev NQ.{u}:=@List.pairwise_append.{u}
abbrev NR.{u}:=@List.dropLast_concat.{u}
abbrev NS:=@And.left
abbrev NT.{u}:=@Array.length_toList.{u}
abbrev NV.{u,v}:=@Prod.mk.injEq.{u,v}
abbrev NW:=@Nat.add_assoc
abbrev NY.{u}:=@List.pairwise_cons.{u}
end Go.Proofs.YtcmncipikdpnbaaGreatDoor
