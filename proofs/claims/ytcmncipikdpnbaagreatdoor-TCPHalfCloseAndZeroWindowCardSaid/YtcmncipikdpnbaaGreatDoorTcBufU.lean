import Derived.Test.YtcmncipikdpnbaaGreatDoorUb24
namespace Go.Proofs.YtcmncipikdpnbaaGreatDoor
set_option maxHeartbeats 8000000
set_option maxRecDepth 100000
open Go.RowKit Go.Shelf
theorem OG (f:Fp) (c:Cn) (w:World) (h:kf f c w) (ok:c.Ok) :
  Calls Tryz.prog 23 #[f.C] w fun e w'=>e= .returned (.tuple #[(c.bx.nx-c.bx.rd:Int),c.reached])/\Below w.heap.size w w':=by
 have j:=H ok;have a:=H h;have d:=H (L3 w.heap.size w);clear h ok
 go_enter Tryz.func23,Tryz.ntmps23
 go_wp2_with fail;refine az (fun W:World=>W.cell? ⟨f.C,11,none⟩=some (f.X:Y)) (a.cell 11 f.X Z) fun g=>?_;have hb:Below w.heap.size w w.drew:=(L3 _ _).drew;replace d:=H (ai d.o hb);replace a:=H (a.below hb);clear hb;generalize w.drew=wd at a d g|-;refine aA 0 1 2 3 ?_;refine aA 4 6 7 8 ?_;refine aZ 5 fun i b=> ?_;go_simp;refine(lv f.X f.R 0 c.bx _ a.bx j.bx).mono ?_;rintro e k⟨rfl,rfl⟩;have hb:Below wd.heap.size wd wd.drew:=(L3 _ _).drew;replace d:=H (ai d.o hb);replace a:=H (a.below hb);clear hb;generalize wd.drew=we at a d|-;go_simp;refine b.out _ _ (a.cell 11 f.X Z) ?_;clear b i g;refine fun g=>aW ?_;refine aZ 9 fun i b=> ?_;go_simp;refine(cP f c _ a.o).mono ?_;rintro e l⟨rfl,hb⟩;replace d:=H (ai d.o hb);replace a:=H (a.below hb);clear hb;go_simp;refine b.out _ _ (a.cell 11 f.X Z) ?_;clear b i g;refine fun g=>aW ?_;refine aM 10 11 ?_;refine ay ?_ _;clear g;go_wp2_with fail
 go_ret2
 exact⟨Z,d.o⟩
end Go.Proofs.YtcmncipikdpnbaaGreatDoor
