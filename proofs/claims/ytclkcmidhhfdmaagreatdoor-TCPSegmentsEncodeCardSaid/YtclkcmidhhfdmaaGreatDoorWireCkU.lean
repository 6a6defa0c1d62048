import Derived.Test.YtclkcmidhhfdmaaGreatDoorWireSumU
import Derived.Laws.Rows
namespace Go.Proofs.YtclkcmidhhfdmaaGreatDoor
open Lib (hid)
set_option maxRecDepth 100000
open Go.RowKit Go.Shelf
attribute [local go_sem] Oper.semAt_some
set_option maxHeartbeats 400000 in
theorem zY (F:Fence) (n:Nat) (h:F.fn 133) (hro:F.round=none) (s:ByteArray) (w:World) :
  CallsIn F n Tryz.prog 133 #[.string s] w fun e w'=>e= .returned (.func (.func 177) #[] #[w.heap.size])/\w'=w.alloc (.cells #[.string s] 9):=by
 refine callsIn_of_wp Tryz.func133 rfl h ?_ hro;simp only[Tryz.ntmps133,List.size_toArray,List.length_cons,List.length_nil,Nat.reduceAdd,Nat.reduceSub,Array.replicate_succ,Array.replicate_zero,List.push_toArray,List.append_toArray,List.nil_append,List.cons_append]
 gi_wp2
 go_ret;exact⟨rfl,rfl⟩
theorem zr {a b:Int}(h:a=b):Ending.returned a= .returned b:=by rw[h]
def yW (B x:Nat)(W:World):Prop:=W.cell? B=some ((x:Int):Y)/\W.frozen? B=false
def yw (B:Nat)(W:World):Nat:=match W.cell? B with | some v=>(intOf v).toNat | none=>0
theorem yi {B x:Nat}{W:World}(h:yW B x W):yw B W=x:=by unfold yw;rw[h.1];simp[intOf]
theorem yW.set {B c:Nat}{w:World}(h:yW B c w)(x:Nat):yW B x (w.setCell B (x:Int)) :=
 ⟨World.cell?_setCell_same' _ _ _ (by rw[h.1];rfl),by rw[World.frozen?_setCell];exact h.2⟩
theorem zB (w:World)(v:Value)(t:TypeId):(w.alloc (.cells #[v] t)).cell? w.heap.size=some v/\(w.alloc (.cells #[v] t)).frozen? w.heap.size=false :=
 ⟨by rw[cell_of_row _ _ _ _ _ _ (heap_alloc_new _ _)];rfl,frozen_of_row _ _ _ _ _ (heap_alloc_new _ _)⟩
set_option maxHeartbeats 2000000 in
theorem yr (F:Fence) (n:Nat) (h3:F.fn 89) (h5:F.fn 133) (h6:F.fn 177) (hro:F.round=none) (hn:3<=n) (s:ByteArray) (hs:s.size<=1099511627776) (w:World) :
  CallsIn F n Tryz.prog 89 #[.string s] w fun e W'=>e= .returned (.int .i64 (rt s.data.toList:Nat))/\Below w.heap.size w W':=by
 have h1:1<=n:=by omega
 refine callsIn_of_wp_marks Tryz.func89 rfl h3 ?_ hro;simp only[Tryz.ntmps89,List.size_toArray,List.length_cons,List.length_nil,Nat.reduceAdd,Nat.reduceSub,Array.replicate_succ,Array.replicate_zero,List.push_toArray,List.append_toArray,List.nil_append,List.cons_append]
 gi_wp2_with (gi_at_call 133;refine(zY F (n-1) h5 hro _ _).mono ?_;rintro e w' ⟨rfl,rfl⟩)
 have hs0:=zB w (0:Int) 3;have hb:=zB (w.alloc (.cells #[(0:Int)] 3)) (.string s) 9;rw[World.size_alloc]at hb;have a0:Below w.heap.size w ((w.alloc (.cells #[(0:Int)] 3)).alloc (.cells #[.string s] 9)):=((Below.refl _ w).alloc (Nat.le_refl _) _).alloc (by simp) _
 have hs1:yW w.heap.size 0 ((w.alloc (.cells #[(0:Int)] 3)).alloc (.cells #[.string s] 9)) :=
  ⟨(((Below.refl _ _).alloc (Nat.le_refl _) _).cell (p:=⟨w.heap.size,0,none⟩) (by simp)).trans hs0.1,(((Below.refl _ _).alloc (Nat.le_refl _) _).frozen (p:=⟨w.heap.size,0,none⟩) (by simp)).trans hs0.2⟩
 refine wpIn_rangeFunc_ownF hro h1 (gf:=177) (lb:= #[.pointer (some ⟨w.heap.size+1,0,none⟩)]) rfl h6 (enters_of Tryz.func177 (by kernel_rfl) rfl)
  (α:=Fin 65536) (encs:=fun x=> #[(x.val:Int)]) (Kp:=fun W W'=>W'.cell? ⟨w.heap.size+1,0,none⟩=W.cell? ⟨w.heap.size+1,0,none⟩) (S:=fun ys=>ys=gQ s.data.toList ((s.size+1)/2)) (Sp:=fun _=>True) (N:=(s.size+1)/2)
  (fun l J Jx W hW hJ hJx hY h0=>zE F (n-1) h6 hro (by omega) l (w.heap.size+1) s hs J Jx hY W ((hW.cell (p:=⟨w.heap.size+1,0,none⟩) (by simp)).trans hb.1) h0)
  (fun h k=>k.trans h) (fun W l o o' hl ho hc _=>World.cell?_of_block (World.putObj_heap_other (by simp at hl|-;omega))) (Below.refl _ _) (fun _=>rfl)
  (fun pre W=>yW w.heap.size (oP pre) W/\Below w.heap.size w W)
  (fun _ _ _=>False)
  (OwnFrom.and (Own.from (fun s A B row hs hg hr=>⟨cell_kept hs.1 hg hr,(frozen_kept hs.1 hg hr).trans hs.2⟩) _) (ownFrom_below (Nat.le_refl _) (by simp;omega)))
  (fun _ _ _ _ _ hs _ _=>hs)
  ⟨hs1,a0⟩
  (fun x=>{ tmps:= #[.string s,undef,(0:Int),w.heap.size,(x.val:Int),.string s,.func (.func 177) #[] #[.pointer (some ⟨w.heap.size+1,0,none⟩)],(x.val:Int),undef,undef,undef,undef,undef,undef,undef,undef,undef,undef,undef,undef],defers:=[] }) ?assign ?body ?done ?stop
 case assign =>
  intro l x W K hK
  gi_wp2
  exact hK
 case body =>
  rintro l pre x W⟨⟨hc,hf⟩,hB⟩ hlen;have hle:=x7 pre;have hx:=x.isLt
  gi_wp2
  have aF:=yW.set ⟨hc,hf⟩ (oP pre+x.val);rw[Int.natCast_add]at aF;refine⟨KeepsOthers.setCell _ _ _,World.cell?_of_block (heap_setCell_other _ _ _ _ (by simp)),⟨?_,hB.setCell (p:=⟨w.heap.size,0,none⟩) (Nat.le_refl _) _⟩⟩;rw[qH];exact aF
 case done =>
  rintro D ys W hD rfl⟨hS,hB⟩ hK;have hle:=x7 (gQ s.data.toList ((s.size+1)/2));rw[rr]at hle;have HF:=hid (show fy (oP (gQ s.data.toList ((s.size+1)/2)))=fy (xE s.data.toList) by unfold xE;rw[Array.length_toList];rfl);obtain⟨x0,hx0⟩:∃x0,oP (gQ s.data.toList ((s.size+1)/2))=x0:=⟨_,rfl⟩;rw[hx0]at hle hS HF;clear hx0;simp only[World.size_alloc]at hD
  gi_wp2
  gi_loopw [11] (fun _ wr=>∃x:Nat,yW w.heap.size x wr/\fy x=fy (xE s.data.toList)/\x<=65535*((s.size+1)/2)/\Below w.heap.size w wr/\wr.heap[D]? =some (.deferred (some [])))
   (fun _ wr=>yw w.heap.size wr)
  case atStart=>exact⟨x0,hS,HF.o,hle,hB,hK⟩
  case round =>
   clear hS HF hle hB hK;obtain⟨x,hS,hF,hle,hB,hK⟩:=hrel;have HF:=hid hF;have HK:=hid hK;have HS:=hid hS;obtain⟨hc,hf⟩:=hS;clear hF hK;by_cases hgt:65535<x
   ·gi_wp2
    have aF:=HS.set (x%65536+x/65536);rw[Int.natCast_add,Int.natCast_emod,Int.natCast_ediv,show((65536:Nat):Int)=65536 from rfl]at aF
    go_roundw
    case rel=>exact⟨x%65536+x/65536,aF,by rw[vq x hgt];exact HF.o,by omega,hB.setCell (p:=⟨w.heap.size,0,none⟩) (Nat.le_refl _) _,(KeepsOthers.setCell _ _ _).same D _ HK.o rfl⟩
    case measure=>rw[yi aF,yi HS.o];omega
   gi_wp2
   refine⟨by simp,.inl ⟨_,_,rfl,run_takeDeferred HK.o,?_⟩⟩;refine⟨_,results_tmp (t:=2) rfl _ _ _,zr (a:=65535-(x:Int)) ?_,hB.trans (belowK_b (w:=w) (Nat.le_refl _) _ D _ _ (by omega) HK.o rfl rfl)⟩;have h1:=HF.o;rw[ug x (by omega)]at h1;unfold rt;rw[<-h1];omega
 case stop =>
  rintro D c pre W _ _ h _;exact h.elim
theorem yl (s:ByteArray)(hs:s.size<=1099511627776)(w:World) :
  Calls Tryz.prog 89 #[.string s] w fun e W'=>e= .returned (.int .i64 (rt s.data.toList:Nat))/\Below w.heap.size w W' :=
 (callsIn_wide (n:=3)).1 (yr Fence.wide 3 trivial trivial trivial rfl (Nat.le_refl _) s hs w)
end Go.Proofs.YtclkcmidhhfdmaaGreatDoor
