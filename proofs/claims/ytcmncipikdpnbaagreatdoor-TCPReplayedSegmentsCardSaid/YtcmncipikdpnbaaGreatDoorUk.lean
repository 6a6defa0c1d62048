import Derived.Test.YtcmncipikdpnbaaGreatDoorUc
import Derived.Below
import Derived.CallsIn
import Derived.ChangeArms
import Derived.ControlIn
import Derived.IntWalk
import Derived.Laws.AppendOwn
import Derived.Laws.Bits64
import Derived.Laws.Concat
import Derived.Laws.Entries
import Derived.Laws.Rows
import Derived.Laws.Sem
import Derived.Laws.World
import Derived.Lib.Hide
import Derived.OwnWalk
import Derived.Tactics
import Derived.TacticsIn
import Derived.WalkMore
namespace Go.Proofs.YtcmncipikdpnbaaGreatDoor
theorem H{p:Prop}(h:p):Go.RowKit.Hid p:=h
theorem IL{P:Prop}(h:P:=by kernel_rfl):P:=h
theorem IP{P:Prop}(h:P:=by go_num):P:=h
theorem IU{P:Prop}(h:P:=by first | rfl | go_num):P:=h
theorem IV{P:Prop}(h:P:=by first | rfl | go_num | (have e:wrap64 ((k:Int)+1)=((k+1:Nat):Int):=(by unfold wrap64;omega);rw[e])):P:=h
theorem J5{P:Prop}(h:P:=by intro w b;skip;go_simp;(try with_reducible rfl)):P:=h
theorem P8{P:Prop}(h:P:=by intro w a;(obtain⟨⟨E,g1,F⟩,G,I,J,K⟩:=a);go_simp;(try with_reducible rfl)):P:=h
theorem Pa{P:Prop}(h:P:=by intro w m;(obtain⟨F,M,P⟩:=m);go_simp;(try first | omega | (rw[decide_eq_true_iff];omega))):P:=h
theorem Pb{P:Prop}(h:P:=by intro w j;(obtain⟨A,E,F⟩:=j);go_simp;(try first | omega | (rw[decide_eq_true_iff];omega))):P:=h
theorem JQ{P:Prop}(h:P:=by simp[results,Tryz.results121,go_sem,d0,d1]):P:=h
theorem Pp{P:Prop}(h:P:=by intro w m;(obtain⟨F,M,P⟩:=m);rw[hs]at F;go_simp):P:=h
theorem Py{P:Prop}(h:P:=by intro w a1;(try dsimp only at a1);go_simp;(first | rfl | decide)):P:=h
theorem PC{P:Prop}(h:P:=by intro w m;(obtain⟨F,M,P⟩:=m);go_simp;(try first | omega | (rw[decide_eq_false_iff_not];omega))):P:=h
theorem PD{P:Prop}(h:P:=by intro w j;(obtain⟨A,E,F⟩:=j);go_simp;(try first | omega | (rw[decide_eq_false_iff_not];omega))):P:=h
theorem PE{P:Prop}(h:P:=by intro w n;(obtain⟨z0,z1,z2,z3⟩:=n);go_simp;(simp[M.o])):P:=h
theorem PG{P:Prop}(h:P:=by intro w P;(obtain⟨z0,z1,z2,z3,z4⟩:=P);go_simp;(rw[IntWalk.i64_in (x.1.due+30) (by omega)])):P:=h
theorem KE{P:Prop}(h:P:=by intro w m;go_simp;(have:=d8.o;split <;> (congr 3;omega))):P:=h
theorem KP{P:Prop}(h:P:=by intro w n;(obtain⟨z0,z1,z2,z3⟩:=n);go_simp;(simp[HQ.o])):P:=h
theorem PT{P:Prop}(h:P:=by intro w P;(obtain⟨z0,z1,z2,z3,z4⟩:=P);go_simp;(try first | omega | (rw[decide_eq_true_iff];omega))):P:=h
theorem Q0{P:Prop}(h:P:=by intro w g;(obtain⟨z0,z1,z2,z3⟩:=g);go_simp;(rw[bl.o])):P:=h
theorem Q1{P:Prop}(h:P:=by intro w g;(obtain⟨z0,z1,z2,z3⟩:=g);go_simp;(rw[bn.o,<-gu])):P:=h
abbrev L5:=@Go.RowKit.Below.refl
abbrev Li:=@Go.World.cell?_of_block
abbrev Ll:=@Go.block_lt_of_cell
abbrev Lo:=@Go.bodyPost_ret
abbrev Lq:=@Go.cell_of_row
abbrev Ls:=@Go.heap_alloc_new
abbrev LF:=@Go.IntWalk.i64_in
abbrev LK:=@Go.heap_setCell_same
abbrev LW:=@Go.frozen_of_row
abbrev LX:=@Go.World.cell?_setCell_other
abbrev LY:=@Go.results_none
abbrev M1:=@Go.World.size_alloc
abbrev M6:=@Go.results_cell_row
abbrev Mc:=@Go.wpIn_wide
abbrev Md:=@Go.heap_setCell_other
abbrev Mh:=@Go.RowKit.Below.heap_alloc
abbrev Mw:=@Go.Addr.add_lit
abbrev My:=@Go.World.size_setCell
abbrev MB:=@Go.Result.andThen_ok
abbrev MC:=@Go.Oper.semAt_some
abbrev ME:=@Go.callsIn_wide
abbrev MH:=@Go.World.ownsRow.lt
abbrev MJ:=@Go.info_parts
abbrev MW:=@Go.Sem.run_pure
abbrev MX:=@Go.Sem.run_bind
abbrev N6:=@Go.DataW.trod_int
abbrev N8:=@Go.wpIn_mono
abbrev Na:=@Go.IntKind.wrap_u64
abbrev Nb:=@Go.World.ownsRow.cells
abbrev Nj:=@Go.World.frozen?_setCell
abbrev No:=@Go.Exit.noGoto_ret
abbrev Np:=@Go.World.grownBy_alloc
abbrev Ny:=@Go.World.ownsRow_nil
abbrev NC:=@Go.World.cell?_setCell_same
abbrev NG:=@Go.wpList_plain
abbrev NH:=@Go.results_tmp2
abbrev NJ:=@Go.World.frozen?_of_block
abbrev NQ:=@Go.run_loadVar_row
abbrev NY:=@Go.callsIn_of_wp
abbrev P1:=@Go.run_string_add_sum
end Go.Proofs.YtcmncipikdpnbaaGreatDoor
