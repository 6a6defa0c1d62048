/- RecvBufSegments: lists of data segments that a call makes; their encodings; the pieces in plain terms. -/
import Derived.Test.YtfeppkgcimgkeaaSgDec
import Derived.Test.YtfeppkgcimgkeaaSeq
import Derived.Test.YtfeppkgcimgkeaaRbPfP
namespace Go.Proofs.Ytfeppkgcimgkeaa
open Go.RowKit Go.Shelf
/-- A data segment. -/
def dataSg (q : Int) (s : List UInt8) : Sg := ⟨1, 2, q, 0, false, false, false, false, 0, 0, false, [], s⟩
theorem dataSg_ok {q : Int} {s : List UInt8} (h1 : 0 ≤ q) (h2 : q ≤ 4294967295) (hs : s.length ≤ 1024) : (dataSg q s).Ok :=
  ⟨by simp [dataSg], by simp [dataSg], ⟨h1, h2⟩, by simp [dataSg], by simp [dataSg], by simp [dataSg], by simp [dataSg], by simp [dataSg], by simp [dataSg], by simp [dataSg], by simp [dataSg], by simp [dataSg], by simp [dataSg], by simp [dataSg]; omega⟩
theorem data_enc (q : Int) (S : ByteArray) (h1 : 0 ≤ q) (h2 : q ≤ 4294967295) (hs : S.size ≤ 1024) (W : World) :
    Calls Try.prog 29 #[.int .i64 5, .int .i64 6, .agg #[.int .i64 1, .int .i64 2, .int .i64 q, .int .i64 0, .bool false, .bool false, .bool false, .bool false, .int .i64 0, .int .i64 0, .bool false, .slice none 0 0, .string S]] W fun e w' => e = .returned (.tuple #[.string ⟨((dataSg q S.data.toList).encL 5 6).toArray⟩, .int .i64 0]) ∧ Below W.heap.size W w' :=
  segenc_any 5 6 (dataSg q S.data.toList) 0 none 0 S W (by omega) (by omega) (dataSg_ok h1 h2 (by rw [Array.length_toList]; exact hs)) rfl ⟨by simp [dataSg], fun h => absurd h (by simp [dataSg])⟩ (Nat.zero_le _)
theorem data_dec (q : Int) (S t : ByteArray) (h1 : 0 ≤ q) (h2 : q ≤ 4294967295) (hs : S.size ≤ 1024) (ht : t = ⟨((dataSg q S.data.toList).encL 5 6).toArray⟩) (W : World) :
    Calls Try.prog 30 #[.int .i64 5, .int .i64 6, .string t] W fun e w' => ∃ a cap, e = .returned (.tuple #[.agg #[.int .i64 1, .int .i64 2, .int .i64 q, .int .i64 0, .bool false, .bool false, .bool false, .bool false, .int .i64 0, .int .i64 0, .bool false, .slice a 0 cap, .string S], .int .i64 0]) ∧ Below W.heap.size W w' :=
  (segdec_any 5 6 (dataSg q S.data.toList) t W (by omega) (by omega) (dataSg_ok h1 h2 (by rw [Array.length_toList]; exact hs)) ht).mono (by
    rintro e w' ⟨a, cap, S', he, hS, -, hb⟩
    have : S' = S := by apply ByteArray.ext; apply Array.toList_inj.1; exact hS
    subst this
    exact ⟨a, cap, he, hb⟩)
set_option maxRecDepth 100000 in
set_option maxHeartbeats 2000000 in
theorem same0_any (fp tp sq ak win mss : Int) (syn fin rst has sacks : Bool) (S : ByteArray) (a1 a2 : Option Addr) (c1 c2 : Nat) (w : World) :
    Calls Try.prog 31 #[.agg #[.int .i64 fp, .int .i64 tp, .int .i64 sq, .int .i64 ak, .bool syn, .bool fin, .bool rst, .bool has, .int .i64 win, .int .i64 mss, .bool sacks, .slice a1 0 c1, .string S], .agg #[.int .i64 fp, .int .i64 tp, .int .i64 sq, .int .i64 ak, .bool syn, .bool fin, .bool rst, .bool has, .int .i64 win, .int .i64 mss, .bool sacks, .slice a2 0 c2, .string S]] w fun e w' => e = .returned (.bool true) ∧ Below w.heap.size w w' := by
  have HB := Lib.hid (((Below.refl w.heap.size w).alloc (Nat.le_refl _) (.cells #[.int .i64 fp, .int .i64 tp, .int .i64 sq, .int .i64 ak, .bool syn, .bool fin, .bool rst, .bool has, .int .i64 win, .int .i64 mss, .bool sacks, .slice a1 0 c1, .string S] 57)).alloc (by simp) (.cells #[.int .i64 fp, .int .i64 tp, .int .i64 sq, .int .i64 ak, .bool syn, .bool fin, .bool rst, .bool has, .int .i64 win, .int .i64 mss, .bool sacks, .slice a2 0 c2, .string S] 57))
  go_enter Try.func31, Try.ntmps31
  go_wp2_with fail
  go_loopw [5] (fun p wr => p = .int .i64 0 ∧ wr = (w.alloc (.cells #[.int .i64 fp, .int .i64 tp, .int .i64 sq, .int .i64 ak, .bool syn, .bool fin, .bool rst, .bool has, .int .i64 win, .int .i64 mss, .bool sacks, .slice a1 0 c1, .string S] 57)).alloc (.cells #[.int .i64 fp, .int .i64 tp, .int .i64 sq, .int .i64 ak, .bool syn, .bool fin, .bool rst, .bool has, .int .i64 win, .int .i64 mss, .bool sacks, .slice a2 0 c2, .string S] 57)) (fun _ _ => 0)
  case atStart => exact ⟨rfl, rfl⟩
  case round =>
    obtain ⟨rfl, rfl⟩ := hrel
    go_wp2_with fail
    go_ret
    exact ⟨rfl, HB.out⟩
def rowV (x : Int × ByteArray) : List Value := [.int .i64 1, .int .i64 2, .int .i64 x.1, .int .i64 0, .bool false, .bool false, .bool false, .bool false, .int .i64 0, .int .i64 0, .bool false, .slice none 0 0, .string x.2]
def flatQ (L : List (Int × ByteArray)) : List Value := L.flatMap rowV
theorem flatQ_append (A B : List (Int × ByteArray)) : flatQ (A ++ B) = flatQ A ++ flatQ B := List.flatMap_append ..
theorem flatQ_length (L : List (Int × ByteArray)) : (flatQ L).length = L.length * 13 := by
  induction L with
  | nil => rfl
  | cons x L ih => show (rowV x ++ flatQ L).length = _; rw [List.length_append, ih, List.length_cons]; show 13 + _ = _; omega
theorem flatQ_get (L : List (Int × ByteArray)) (i : Nat) (h : i < L.length) (j : Nat) (hj : j < 13) : (flatQ L)[i * 13 + j]? = (rowV L[i])[j]? := by
  induction L generalizing i with
  | nil => simp at h
  | cons x L ih =>
    show (rowV x ++ flatQ L)[i * 13 + j]? = _
    cases i with
    | zero => rw [List.getElem?_append_left (by show 0 * 13 + j < 13; omega)]; simp
    | succ i =>
      rw [List.getElem?_append_right (by show 13 ≤ _; omega)]
      rw [show (i + 1) * 13 + j - (rowV x).length = i * 13 + j by show _ - 13 = _; omega]
      simpa using ih i (by simpa using h)
theorem flatQ_one (L : List (Int × ByteArray)) : ∀ u ∈ flatQ L, u.oneCell' = true := by
  intro u hu
  obtain ⟨x, _, h⟩ := List.mem_flatMap.1 hu
  simp [rowV] at h
  rcases h with rfl | rfl | rfl | rfl | rfl | rfl | rfl | rfl | rfl <;> rfl
theorem segInfo : (Try.prog.info? 57).map (fun i => (i.zero, i.size, i.bytes)) = some (some (.agg #[.int .i64 0, .int .i64 0, .int .i64 0, .int .i64 0, .bool false, .bool false, .bool false, .bool false, .int .i64 0, .int .i64 0, .bool false, .slice none 0 0, .string ⟨#[]⟩]), 13, 104) := by kernel_rfl
/-- The slice v of segments, made by the call itself (its blocks from base on), reads as L. -/
def OwnQ (w : World) (base : Nat) (v : Value) (L : List (Int × ByteArray)) : Prop := w.ownsRow base 57 13 v L.length (flatQ L)
theorem OwnQ.nil (w : World) (base : Nat) : OwnQ w base (.slice none 0 0) [] := World.ownsRow_nil _ _ _ _
theorem OwnQ.kept {w w' : World} {base : Nat} {v : Value} {L : List (Int × ByteArray)} (h : OwnQ w base v L) {row : Option Nat} (hg : w.grownBy w' row) (hne : v.ownBlock = none ∨ v.ownBlock ≠ row) : OwnQ w' base v L := World.ownsRow.kept h hg hne
theorem OwnQ.lt {w : World} {base : Nat} {v : Value} {L : List (Int × ByteArray)} (h : OwnQ w base v L) : ∀ k, v.ownBlock = some k → base ≤ k ∧ k < w.heap.size := World.ownsRow.lt h
theorem OwnQ.below {w w' : World} {base : Nat} {v : Value} {L : List (Int × ByteArray)} (h : OwnQ w base v L) (hb : Below w.heap.size w w') : OwnQ w' base v L := by
  refine h.kept (row := none) (grown_of_below hb) ?_
  cases v.ownBlock with
  | none => exact .inl rfl
  | some x => exact .inr (by simp)
/-- A change of blocks below base leaves it alone. -/
theorem OwnQ.chg2 {w w' : World} {base B R : Nat} {v : Value} {L : List (Int × ByteArray)} (h : OwnQ w base v L) (hc : Chg2 B R w w') (hB : v.ownBlock ≠ some B) (hR : v.ownBlock ≠ some R) : OwnQ w' base v L := by
  rcases h.2 with ⟨rfl, hl⟩ | ⟨g, cap, cur, rfl, hbg, hg, r⟩
  · exact ⟨h.1, .inl ⟨rfl, hl⟩⟩
  · refine ⟨h.1, .inr ⟨g, cap, cur, rfl, hbg, ?_, r⟩⟩
    rw [hc.block g (Array.getElem?_eq_some_iff.1 hg).1 (fun e => hB (by rw [← e]; rfl)) (fun e => hR (by rw [← e]; rfl))]
    exact hg
theorem OwnQ.cells {w : World} {base : Nat} {v : Value} {L : List (Int × ByteArray)} (h : OwnQ w base v L) (hL : 0 < L.length) :
    ∃ g cap, v = .slice (some ⟨g, 0, none⟩) L.length cap ∧ base ≤ g ∧ g < w.heap.size ∧ ∀ i (hi : i < L.length) j u, (rowV L[i])[j]? = some u → w.cell? ⟨g, i * 13 + j, none⟩ = some u := by
  rcases h.2 with ⟨rfl, hl⟩ | ⟨g, cap, cur, rfl, hbg, hg, r⟩
  · omega
  · refine ⟨g, cap, rfl, hbg, (Array.getElem?_eq_some_iff.1 hg).1, fun i hi j u hu => ?_⟩
    have hj : j < 13 := (List.getElem?_eq_some_iff.1 hu).1
    have := World.ownsRow.cells h (g := g) rfl (i * 13 + j) u (by rw [flatQ_get L i hi j hj]; exact hu)
    rwa [Addr.add_lit, Nat.zero_add] at this
/-- out = append(out, x) in a region that draws its order. -/
theorem step_append_seg {w : World} {ops : Array Oper} {o : Oper} {a : Act} {K : Act → World → Prop} {Q : Exit → Act → World → Prop} {E : Prop} (hgd : o.guard = none) (s x : Operand)
    (ho : o.op = .call { callee := .builtin .append, args := #[s, x], argTypes := #[55, 55] }) (base : Nat)
    (v : Value) (L : List (Int × ByteArray)) (hs : a.eval s = v) (hown : OwnQ w base v L) (hL : L.length ≤ 1000)
    (b : Nat) (y : Int × ByteArray) (hx : a.eval x = .slice (some ⟨b, 0, none⟩) 1 1) (t : TypeId) (fr : Nat × Nat) (hblk : w.heap[b]? = some (.cells (rowV y).toArray t fr)) (hbase : base ≤ w.heap.size)
    (h : ∀ v' w', OwnQ w' base v' (L ++ [y]) → w.grownBy w' v.ownBlock → (v'.ownBlock = v.ownBlock ∨ ∃ k, v'.ownBlock = some k ∧ w.heap.size ≤ k) → K (a.put o.dst v') w') :
    if Region.wanted o (yielded ops a.tmps) = true then Oper.wp Try.prog o a w K Q else E := by
  have hw : Region.wanted o (yielded ops a.tmps) = true := by simp [Region.wanted, hgd]
  rw [if_pos hw]
  obtain ⟨i0, hi, hz0, hz1, hz2⟩ := info_parts segInfo
  obtain ⟨v', w', hr, h2, h3, h4⟩ := run_append_own2 (P := Try.prog) w base 55 o.type 57 i0 _ 13 104 Try.underlying55 hi hz0 hz1 hz2 rfl (by decide) v L.length (flatQ L) hown ⟨b, 0, none⟩ 1 1 (rowV y) rfl
    (by intro j u hj
        rw [Addr.add_lit, Nat.zero_add, cell_of_row _ _ _ _ _ _ hblk]
        simpa using hj) (by intro u hu; exact flatQ_one [y] u (by simpa [flatQ] using hu)) (by unfold maxLen; omega) (by omega) hbase
  unfold Oper.wp execOp
  simp only [ho, resolve, invoke, builtin, Sem.run_bind, Sem.run_pure, Result.andThen_ok, List.map_toArray, List.map_cons, List.map_nil, hs, hx, hr]
  refine h v' w' ?_ h3 h4
  show w'.ownsRow _ _ _ _ _ _
  rw [List.length_append, flatQ_append]
  simpa [flatQ] using h2
theorem addV_bd (a n : Int) : 0 ≤ addV a n ∧ addV a n ≤ 4294967295 := by unfold addV; omega
theorem diff_piece (p f : Int) (h1 : 0 ≤ f) (h2 : f < 2147483647) : diffV (addV p (1 + f)) (addV p 1) = f := by unfold diffV addV; omega
/-- The segments of pieces of the stream. -/
def mkQ (p : Int) (S : ByteArray) (x : Nat × Nat) : Int × ByteArray := (addV p (1 + (x.1 : Int)), S.extract x.1 x.2)
/-- What the last loop keeps: the buffer holds pieces, and all of the first i. -/
structure QI (S : List UInt8) (P : List (Nat × Nat)) (i : Nat) (b : Bx) (got : List UInt8) : Prop where
  pi : PI S 80 b got
  ring : b.ring.length = 80
  all : ∀ j (h : j < P.length), j < i → ∀ t, P[j].1 ≤ t → t < P[j].2 → b.has (t : Nat)
theorem QI.start {S : List UInt8} {P : List (Nat × Nat)} (hl : S.length = 80) : QI S P 0 (bx0 80) [] :=
  ⟨PI.start hl (by omega) (by omega) (by omega), by simp [bx0], fun j _ h => absurd h (by omega)⟩
theorem QI.put {S : List UInt8} {P : List (Nat × Nat)} {i : Nat} {b : Bx} {got : List UInt8} (h : QI S P i b got) (hi : i < P.length) (h1 : P[i].1 ≤ P[i].2) (h2 : P[i].2 ≤ 80) {s : List UInt8} (hs : s = (S.drop P[i].1).take (P[i].2 - P[i].1)) :
    QI S P (i + 1) (b.put P[i].1 s) got := by
  have hp := h.pi.put h1 h2 hs
  obtain ⟨p1, p2, p3, p4, p5⟩ := Bx.put_spec h.pi.ok s (off := (P[i].1 : Int)) (by omega) (by omega)
  have hsl : s.length = P[i].2 - P[i].1 := by rw [hs, List.length_take, List.length_drop, h.pi.len]; omega
  refine ⟨hp.1, by rw [hp.2.2.1, h.ring], fun j hj hlt t t1 t2 => ?_⟩
  rcases (show j < i ∨ j = i by omega) with hji | rfl
  · exact (p5 _).2 (.inl (h.all j hj hji t t1 t2))
  · refine (p5 _).2 (.inr ⟨by omega, by rw [hsl]; omega, ?_⟩)
    have := h.pi.ok.rd0
    rw [h.ring]
    omega
theorem QI.take {S : List UInt8} {P : List (Nat × Nat)} {i : Nat} {b : Bx} {got : List UInt8} (h : QI S P i b got) (k : Int) : QI S P i (b.take k) (got ++ b.takeS k) := by
  obtain ⟨q1, q2, q3, q4⟩ := h.pi.take k
  obtain ⟨t1, t2, t3, t4⟩ := b.take_has k
  exact ⟨q1, by rw [q3, h.ring], fun j hj hlt t u1 u2 => (t4 _).2 (h.all j hj hlt t u1 u2)⟩
/-- Pieces that cover the stream. -/
def Cover (P : List (Nat × Nat)) : Prop := ∀ t, t < 80 → ∃ j, ∃ h : j < P.length, P[j].1 ≤ t ∧ t < P[j].2
theorem QI.done {S : List UInt8} {P : List (Nat × Nat)} {b : Bx} {got : List UInt8} (h : QI S P P.length b got) (hc : Cover P) : b.nx = 80 ∧ got ++ b.takeS 100 = S := by
  have hnx := h.pi.nx
  have h80 : b.nx = 80 := by
    rcases (show b.nx = 80 ∨ b.nx < 80 by omega) with e | e
    · exact e
    · exfalso
      have h0 := h.pi.ok.rd0
      have h1 := h.pi.ok.rdnx
      obtain ⟨n, hn⟩ := Int.eq_ofNat_of_zero_le (show 0 ≤ b.nx by omega)
      obtain ⟨j, hj, j1, j2⟩ := hc n (by omega)
      apply h.pi.ok.nope
      rw [hn]
      exact h.all j hj hj n j1 j2
  refine ⟨h80, ?_⟩
  have hrd := h.pi.ok.rd0
  obtain ⟨r1, -⟩ := h.pi.read (k := 100) (by omega)
  have q := (h.pi.take 100).1.got
  rw [h80] at r1
  rw [q]
  rw [show (got ++ b.takeS 100).length = 80 by omega]
  exact List.take_of_length_le (by rw [h.pi.len]; exact Nat.le_refl _)
theorem cover_tail (P : List (Nat × Nat)) : Cover (P ++ [(0, 16), (16, 32), (32, 48), (48, 64), (64, 80)]) := by
  intro t ht
  refine ⟨P.length + t / 16, by rw [List.length_append]; show _ < _ + 5; omega, ?_⟩
  have e : ∀ k (hk : k < 5) (h2 : P.length + k < (P ++ [(0, 16), (16, 32), (32, 48), (48, 64), (64, 80)]).length), (P ++ [(0, 16), (16, 32), (32, 48), (48, 64), (64, 80)])[P.length + k] = (16 * k, 16 * k + 16) := by
    intro k hk h2
    rw [List.getElem_append_right (by omega)]
    rcases (show k = 0 ∨ k = 1 ∨ k = 2 ∨ k = 3 ∨ k = 4 by omega) with rfl | rfl | rfl | rfl | rfl <;> simp
  rw [e (t / 16) (by omega)]
  show 16 * (t / 16) ≤ t ∧ t < 16 * (t / 16) + 16
  omega

/-- Element i of a list of segments in block g. -/
structure QElem (g i : Nat) (x : Int × ByteArray) (W : World) : Prop where
  c0 : W.cell? ⟨g, i * 13, none⟩ = some (.int .i64 1)
  c1 : W.cell? ⟨g, i * 13 + 1, none⟩ = some (.int .i64 2)
  c2 : W.cell? ⟨g, i * 13 + 2, none⟩ = some (.int .i64 x.1)
  c3 : W.cell? ⟨g, i * 13 + 3, none⟩ = some (.int .i64 0)
  c4 : W.cell? ⟨g, i * 13 + 4, none⟩ = some (.bool false)
  c5 : W.cell? ⟨g, i * 13 + 5, none⟩ = some (.bool false)
  c6 : W.cell? ⟨g, i * 13 + 6, none⟩ = some (.bool false)
  c7 : W.cell? ⟨g, i * 13 + 7, none⟩ = some (.bool false)
  c8 : W.cell? ⟨g, i * 13 + 8, none⟩ = some (.int .i64 0)
  c9 : W.cell? ⟨g, i * 13 + 9, none⟩ = some (.int .i64 0)
  c10 : W.cell? ⟨g, i * 13 + 10, none⟩ = some (.bool false)
  c11 : W.cell? ⟨g, i * 13 + 11, none⟩ = some (.slice none 0 0)
  c12 : W.cell? ⟨g, i * 13 + 12, none⟩ = some (.string x.2)
theorem OwnQ.elem {w : World} {base g n cap : Nat} {L : List (Int × ByteArray)} (h : OwnQ w base (.slice (some ⟨g, 0, none⟩) n cap) L) (i : Nat) (hi : i < L.length) : QElem g i L[i] w := by
  obtain ⟨g', cap', hv, -, -, hc⟩ := h.cells (by omega)
  cases hv
  have c := hc i hi
  exact ⟨c 0 _ rfl, c 1 _ rfl, c 2 _ rfl, c 3 _ rfl, c 4 _ rfl, c 5 _ rfl, c 6 _ rfl, c 7 _ rfl, c 8 _ rfl, c 9 _ rfl, c 10 _ rfl, c 11 _ rfl, c 12 _ rfl⟩
theorem QElem.below {g i N : Nat} {x : Int × ByteArray} {W W' : World} (h : QElem g i x W) (hb : Below N W W') (hg : g < N) : QElem g i x W' := by
  have c : ∀ o v, W.cell? ⟨g, o, none⟩ = some v → W'.cell? ⟨g, o, none⟩ = some v := fun o v hv => (hb.cell (p := ⟨g, o, none⟩) hg).trans hv
  exact ⟨c _ _ h.c0, c _ _ h.c1, c _ _ h.c2, c _ _ h.c3, c _ _ h.c4, c _ _ h.c5, c _ _ h.c6, c _ _ h.c7, c _ _ h.c8, c _ _ h.c9, c _ _ h.c10, c _ _ h.c11, c _ _ h.c12⟩
theorem BoxAt.below0 {B R lb M : Nat} {b : Bx} {w w' : World} (h : BoxAt B R lb b w) (hbl : b.bl = []) (hb : Below M w w') (hB : B < M) (hR : R < M) : BoxAt B R lb b w' := by
  obtain ⟨h0, hr, a, cap, hbk, h1, h2, h3⟩ := h
  refine ⟨h0, (hb.block R hR).trans hr, a, cap, (hb.block B hB).trans hbk, ⟨by rw [hbl]; simp, fun hp => absurd hp (by rw [hbl]; simp)⟩, h2, h3⟩
/-- What the first two loops keep. -/
structure SgL (w : World) (M B R : Nat) (p : Int) (S : ByteArray) (P : List (Nat × Nat)) (lv : Value) (W : World) : Prop where
  own : OwnQ W M lv (P.map (mkQ p S))
  box : BoxAt B R M (bx0 80) W
  below : Below w.heap.size w W
  size : M ≤ W.heap.size
  ok : ∀ x ∈ P, x.1 ≤ x.2 ∧ x.2 ≤ 80
theorem SgL.drew {w : World} {M B R : Nat} {p : Int} {S : ByteArray} {P : List (Nat × Nat)} {lv : Value} {W : World} (h : SgL w M B R p S P lv W) : SgL w M B R p S P lv W.drew :=
  ⟨h.own, h.box.drew, h.below.drew, h.size, h.ok⟩
theorem SgL.to {w : World} {M B R : Nat} {p : Int} {S : ByteArray} {P : List (Nat × Nat)} {lv : Value} {W W' : World} (h : SgL w M B R p S P lv W) (hb : Below W.heap.size W W') : SgL w M B R p S P lv W' :=
  ⟨h.own.below hb, h.box.below hb, h.below.trans (hb.mono h.below.size), Nat.le_trans h.size hb.size, h.ok⟩
theorem SgL.app {w : World} {M B R : Nat} {p : Int} {S : ByteArray} {P : List (Nat × Nat)} {lv lv' : Value} {W W' : World} (h : SgL w M B R p S P lv W) (hwM : w.heap.size ≤ M) (hB : B < M) (hR : R < M) {x : Nat × Nat} (hx : x.1 ≤ x.2 ∧ x.2 ≤ 80)
    (ho : OwnQ W' M lv' (P.map (mkQ p S) ++ [mkQ p S x])) (hg : W.grownBy W' lv.ownBlock) : SgL w M B R p S (P ++ [x]) lv' W' := by
  have hb : Below M W W' := grown_below hg h.size (fun k e => (h.own.lt k e).1)
  refine ⟨by rw [List.map_append]; exact ho, h.box.below0 rfl hb hB hR, h.below.trans (hb.mono hwM), Nat.le_trans h.size hg.size, fun y hy => ?_⟩
  rcases List.mem_append.1 hy with hy | hy
  · exact h.ok y hy
  · rw [List.mem_singleton.1 hy]; exact hx
def five : List (Nat × Nat) := [(0, 16), (16, 32), (32, 48), (48, 64), (64, 80)]
theorem five_take (j : Nat) (h : j < 5) : five.take (j + 1) = five.take j ++ [(16 * j, 16 * j + 16)] := by
  rcases (show j = 0 ∨ j = 1 ∨ j = 2 ∨ j = 3 ∨ j = 4 by omega) with rfl | rfl | rfl | rfl | rfl <;> rfl
end Go.Proofs.Ytfeppkgcimgkeaa
