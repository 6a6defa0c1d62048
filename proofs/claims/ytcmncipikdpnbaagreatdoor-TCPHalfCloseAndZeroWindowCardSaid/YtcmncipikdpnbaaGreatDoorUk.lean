import Derived.Test.YtcmncipikdpnbaaGreatDoorUc
import Derived.Below
import Derived.CallsIn
import Derived.ChangeArms
import Derived.ControlIn
import Derived.IntWalk
import Derived.Laws.AppendOwn
import Derived.Laws.Bits64
import Derived.Laws.Concat
import Derived.Laws.Entries
import Derived.Laws.Rows
import Derived.Laws.Sem
import Derived.Laws.World
import Derived.Lib.Hide
import Derived.OwnWalk
import Derived.Tactics
import Derived.TacticsIn
import Derived.WalkMore
namespace Go.Proofs.YtcmncipikdpnbaaGreatDoor
theorem H{p:Prop}(h:p):Go.RowKit.Hid p:=h
theorem IG{P:Prop}(h:P:=by kernel_rfl):P:=h
theorem IK{P:Prop}(h:P:=by go_num):P:=h
theorem IP{P:Prop}(h:P:=by first | rfl | go_num):P:=h
theorem IY{P:Prop}(h:P:=by first | rfl | go_num | (have e:wrap64 ((k:Int)+1)=((k+1:Nat):Int):=(by unfold wrap64;omega);rw[e])):P:=h
theorem J1{P:Prop}(h:P:=by intro w b;skip;go_simp;(try with_reducible rfl)):P:=h
theorem Jn{P:Prop}(h:P:=by intro w a;(obtain⟨⟨E,g1,F⟩,G,I,J,K⟩:=a);go_simp;(try with_reducible rfl)):P:=h
theorem Jo{P:Prop}(h:P:=by intro w m;(obtain⟨F,M,P⟩:=m);go_simp;(try first | omega | (rw[decide_eq_true_iff];omega))):P:=h
theorem Jp{P:Prop}(h:P:=by intro w j;(obtain⟨A,E,F⟩:=j);go_simp;(try first | omega | (rw[decide_eq_true_iff];omega))):P:=h
theorem JP{P:Prop}(h:P:=by simp[results,Tryz.results121,go_sem,d0,d1]):P:=h
theorem JU{P:Prop}(h:P:=by intro w m;(obtain⟨F,M,P⟩:=m);rw[hs]at F;go_simp):P:=h
theorem K8{P:Prop}(h:P:=by intro w a0;(try dsimp only at a0);go_simp;(first | rfl | decide)):P:=h
theorem Ke{P:Prop}(h:P:=by intro w m;(obtain⟨F,M,P⟩:=m);go_simp;(try first | omega | (rw[decide_eq_false_iff_not];omega))):P:=h
theorem Kf{P:Prop}(h:P:=by intro w j;(obtain⟨A,E,F⟩:=j);go_simp;(try first | omega | (rw[decide_eq_false_iff_not];omega))):P:=h
theorem Kg{P:Prop}(h:P:=by intro w n;(obtain⟨z0,z1,z2,z3⟩:=n);go_simp;(simp[M.o])):P:=h
theorem Kl{P:Prop}(h:P:=by intro w P;(obtain⟨z0,z1,z2,z3,z4⟩:=P);go_simp;(rw[IntWalk.i64_in (x.1.due+30) (by omega)])):P:=h
theorem KC{P:Prop}(h:P:=by intro w m;go_simp;(have:=d7.o;split <;> (congr 3;omega))):P:=h
theorem KN{P:Prop}(h:P:=by intro w n;(obtain⟨z0,z1,z2,z3⟩:=n);go_simp;(simp[HQ.o])):P:=h
theorem KP{P:Prop}(h:P:=by intro w P;(obtain⟨z0,z1,z2,z3,z4⟩:=P);go_simp;(try first | omega | (rw[decide_eq_true_iff];omega))):P:=h
theorem KX{P:Prop}(h:P:=by intro w g;(obtain⟨z0,z1,z2,z3⟩:=g);go_simp;(rw[bl.o])):P:=h
theorem KY{P:Prop}(h:P:=by intro w g;(obtain⟨z0,z1,z2,z3⟩:=g);go_simp;(rw[bn.o,<-iE])):P:=h
abbrev L3:=@Go.RowKit.Below.refl
abbrev Lg:=@Go.World.cell?_of_block
abbrev Lj:=@Go.block_lt_of_cell
abbrev Lm:=@Go.bodyPost_ret
abbrev Ln:=@Go.cell_of_row
abbrev Lp:=@Go.heap_alloc_new
abbrev LC:=@Go.IntWalk.i64_in
abbrev LH:=@Go.heap_setCell_same
abbrev LT:=@Go.frozen_of_row
abbrev LU:=@Go.World.cell?_setCell_other
abbrev LV:=@Go.results_none
abbrev LX:=@Go.World.size_alloc
abbrev M3:=@Go.results_cell_row
abbrev M9:=@Go.wpIn_wide
abbrev Ma:=@Go.heap_setCell_other
abbrev Me:=@Go.RowKit.Below.heap_alloc
abbrev Ms:=@Go.Addr.add_lit
abbrev Mu:=@Go.World.size_setCell
abbrev My:=@Go.Result.andThen_ok
abbrev Mz:=@Go.Oper.semAt_some
abbrev MB:=@Go.callsIn_wide
abbrev ME:=@Go.World.ownsRow.lt
abbrev MG:=@Go.info_parts
abbrev MT:=@Go.Sem.run_pure
abbrev MU:=@Go.Sem.run_bind
abbrev N3:=@Go.DataW.trod_int
abbrev N5:=@Go.wpIn_mono
abbrev N7:=@Go.IntKind.wrap_u64
abbrev N8:=@Go.World.ownsRow.cells
abbrev Ng:=@Go.World.frozen?_setCell
abbrev Nl:=@Go.Exit.noGoto_ret
abbrev Nm:=@Go.World.grownBy_alloc
abbrev Nv:=@Go.World.ownsRow_nil
abbrev Nx:=@Go.World.cell?_setCell_same
abbrev NC:=@Go.wpList_plain
abbrev NE:=@Go.results_tmp2
abbrev NF:=@Go.World.frozen?_of_block
abbrev NM:=@Go.run_loadVar_row
abbrev NU:=@Go.callsIn_of_wp
abbrev NX:=@Go.run_string_add_sum
end Go.Proofs.YtcmncipikdpnbaaGreatDoor
