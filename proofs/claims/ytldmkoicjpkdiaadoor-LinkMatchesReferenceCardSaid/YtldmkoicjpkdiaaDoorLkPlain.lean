/- Link frames in plain terms, with no program in sight. -/
import Derived.Test.YtldmkoicjpkdiaaDoorCrcPlain
namespace Go.Proofs.YtldmkoicjpkdiaaDoor
structure Fr where
  to : Int
  fr : Int
  kind : Int
  s : List UInt8
def Fr.okB (f : Fr) : Bool := decide (1 ≤ f.to ∧ f.to ≤ 65535 ∧ 1 ≤ f.fr ∧ f.fr ≤ 65534 ∧ (f.kind = 1 ∨ f.kind = 2) ∧ f.s.length ≤ 1024)
theorem Fr.okB_iff (f : Fr) : f.okB = true ↔ (1 ≤ f.to ∧ f.to ≤ 65535 ∧ 1 ≤ f.fr ∧ f.fr ≤ 65534 ∧ (f.kind = 1 ∨ f.kind = 2) ∧ f.s.length ≤ 1024) := by unfold Fr.okB; rw [decide_eq_true_iff]
def Fr.headL (f : Fr) : List UInt8 := be 2 f.to.toNat ++ be 2 f.fr.toNat ++ be 1 f.kind.toNat ++ be 2 f.s.length
def Fr.bodyL (f : Fr) : List UInt8 := f.headL ++ f.s
def Fr.encL (f : Fr) : List UInt8 := f.bodyL ++ be 4 (crc f.bodyL)
def fld0 (l : List UInt8) : Nat := unbe (l.take 2)
def fld1 (l : List UInt8) : Nat := unbe ((l.drop 2).take 2)
def fld2 (l : List UInt8) : Nat := unbe ((l.drop 4).take 1)
def fld3 (l : List UInt8) : Nat := unbe ((l.drop 5).take 2)
def decF (l : List UInt8) : Fr := ⟨fld0 l, fld1 l, fld2 l, (l.drop 7).take (fld3 l)⟩
def decB (l : List UInt8) : Bool := decide (7 ≤ l.length ∧ l.length = 11 + fld3 l) && (decF l).okB && decide (unbe ((l.drop (7 + fld3 l)).take 4) = crc (l.take (7 + fld3 l)))
theorem decB_iff (l : List UInt8) : decB l = true ↔ (l.length = 11 + fld3 l ∧ (decF l).okB = true ∧ unbe ((l.drop (7 + fld3 l)).take 4) = crc (l.take (7 + fld3 l))) := by
  unfold decB
  rw [Bool.and_eq_true, Bool.and_eq_true, decide_eq_true_iff, decide_eq_true_iff]
  constructor
  · rintro ⟨⟨⟨_, a⟩, b⟩, c⟩; exact ⟨a, b, c⟩
  · rintro ⟨a, b, c⟩; exact ⟨⟨⟨by omega, a⟩, b⟩, c⟩
theorem headL_length (f : Fr) : f.headL.length = 7 := by unfold Fr.headL; simp [be_length]
theorem bodyL_length (f : Fr) : f.bodyL.length = 7 + f.s.length := by unfold Fr.bodyL; rw [List.length_append, headL_length]
theorem encL_length (f : Fr) : f.encL.length = 11 + f.s.length := by unfold Fr.encL; rw [List.length_append, bodyL_length, be_length]; omega
/-- The parts of what begins with a head. -/
theorem parts_of (a b c d r : List UInt8) (ha : a.length = 2) (hb : b.length = 2) (hc : c.length = 1) (hd : d.length = 2) :
    (a ++ b ++ c ++ d ++ r).take 2 = a ∧ ((a ++ b ++ c ++ d ++ r).drop 2).take 2 = b ∧ ((a ++ b ++ c ++ d ++ r).drop 4).take 1 = c ∧ ((a ++ b ++ c ++ d ++ r).drop 5).take 2 = d ∧ (a ++ b ++ c ++ d ++ r).drop 7 = r ∧ (a ++ b ++ c ++ d ++ r).take 7 = a ++ b ++ c ++ d := by
  match a, ha, b, hb, c, hc, d, hd with
  | [a0, a1], _, [b0, b1], _, [c0], _, [d0, d1], _ => exact ⟨rfl, rfl, rfl, rfl, rfl, rfl⟩
theorem split_head (l : List UInt8) (h : 7 ≤ l.length) : ∃ a b c d r, l = a ++ b ++ c ++ d ++ r ∧ a.length = 2 ∧ b.length = 2 ∧ c.length = 1 ∧ d.length = 2 := by
  match l, h with
  | x0 :: x1 :: x2 :: x3 :: x4 :: x5 :: x6 :: r, _ => exact ⟨[x0, x1], [x2, x3], [x4], [x5, x6], r, rfl, rfl, rfl, rfl, rfl⟩
theorem be_un (b : Nat) (l : List UInt8) (h : l.length = b) : be b (unbe l) = l := by subst h; exact be_unbe l
/-- What Decode takes is the encoding of what it gives. -/
theorem dec_canon {l : List UInt8} (h : decB l = true) : (decF l).encL = l ∧ (decF l).okB = true := by
  obtain ⟨h1, h2, h3⟩ := (decB_iff l).1 h
  refine ⟨?_, h2⟩
  obtain ⟨a, b, c, d, r, hl, ha, hb, hc, hd⟩ := split_head l (by omega)
  obtain ⟨p0, p1, p2, p3, p4, p5⟩ := parts_of a b c d r ha hb hc hd
  rw [← hl] at p0 p1 p2 p3 p4 p5
  have e3 : fld3 l = unbe d := by unfold fld3; rw [p3]
  have hrl : r.length = fld3 l + 4 := by have := congrArg List.length hl; simp [ha, hb, hc, hd] at this; omega
  have hs : (decF l).s = r.take (fld3 l) := by show (l.drop 7).take (fld3 l) = _; rw [p4]
  have hsl : (decF l).s.length = fld3 l := by rw [hs, List.length_take]; omega
  have hh : (decF l).headL = a ++ b ++ c ++ d := by
    unfold Fr.headL
    rw [hsl]
    show be 2 ((fld0 l : Nat) : Int).toNat ++ be 2 ((fld1 l : Nat) : Int).toNat ++ be 1 ((fld2 l : Nat) : Int).toNat ++ be 2 (fld3 l) = _
    rw [Int.toNat_natCast, Int.toNat_natCast, Int.toNat_natCast, e3]
    unfold fld0 fld1 fld2
    rw [p0, p1, p2, be_un 2 a ha, be_un 2 b hb, be_un 1 c hc, be_un 2 d hd]
  have hbd : (decF l).bodyL = l.take (7 + fld3 l) := by
    unfold Fr.bodyL
    rw [hh, hs, List.take_add, p5, p4]
  unfold Fr.encL
  rw [hbd, ← h3]
  have h4 : ((l.drop (7 + fld3 l)).take 4).length = 4 := by rw [List.length_take, List.length_drop]; omega
  rw [be_un 4 _ h4]
  have h5 : (l.drop (7 + fld3 l)).take 4 = l.drop (7 + fld3 l) := List.take_of_length_le (by rw [List.length_drop]; omega)
  rw [h5, List.take_append_drop]
/-- A valid frame's encoding is decoded. -/
theorem dec_enc {f : Fr} (h : f.okB = true) : decB f.encL = true ∧ decF f.encL = f := by
  obtain ⟨v1, v2, v3, v4, v5, v6⟩ := f.okB_iff.1 h
  have hl := encL_length f
  have he : f.encL = be 2 f.to.toNat ++ be 2 f.fr.toNat ++ be 1 f.kind.toNat ++ be 2 f.s.length ++ (f.s ++ be 4 (crc f.bodyL)) := by
    unfold Fr.encL Fr.bodyL Fr.headL; simp [List.append_assoc]
  obtain ⟨p0, p1, p2, p3, p4, p5⟩ := parts_of (be 2 f.to.toNat) (be 2 f.fr.toNat) (be 1 f.kind.toNat) (be 2 f.s.length) (f.s ++ be 4 (crc f.bodyL)) (be_length _ _) (be_length _ _) (be_length _ _) (be_length _ _)
  rw [← he] at p0 p1 p2 p3 p4 p5
  have e0 : fld0 f.encL = f.to.toNat := by unfold fld0; rw [p0, unbe_be 2 _ (by omega)]
  have e1 : fld1 f.encL = f.fr.toNat := by unfold fld1; rw [p1, unbe_be 2 _ (by omega)]
  have e2 : fld2 f.encL = f.kind.toNat := by unfold fld2; rw [p2, unbe_be 1 _ (by omega)]
  have e3 : fld3 f.encL = f.s.length := by unfold fld3; rw [p3, unbe_be 2 _ (by omega)]
  have hd : decF f.encL = f := by
    unfold decF
    rw [e0, e1, e2, e3, p4, List.take_left]
    obtain ⟨t, r, k, s⟩ := f
    simp only at v1 v3 v5 ⊢
    rw [Int.toNat_of_nonneg (by omega), Int.toNat_of_nonneg (by omega), Int.toNat_of_nonneg (by omega)]
  refine ⟨(decB_iff _).2 ⟨by rw [hl, e3], by rw [hd]; exact h, ?_⟩, hd⟩
  have hb := bodyL_length f
  have t1 : f.encL.take (7 + fld3 f.encL) = f.bodyL := by rw [e3]; unfold Fr.encL; rw [List.take_left' hb]
  have t2 : f.encL.drop (7 + fld3 f.encL) = be 4 (crc f.bodyL) := by rw [e3]; unfold Fr.encL; rw [List.drop_left' hb]
  rw [t1, t2, List.take_of_length_le (by rw [be_length]; omega), unbe_be 4 _ (by have := crc_lt f.bodyL; omega)]
/-- What Decode takes ends with the CRC of the rest. -/
theorem dec_crc {l : List UInt8} (h : decB l = true) : ∃ b, l = b ++ be 4 (crc b) := ⟨(decF l).bodyL, (dec_canon h).1.symm⟩
theorem be4_inj {m n : Nat} (hm : m < 4294967296) (hn : n < 4294967296) (h : be 4 m = be 4 n) : m = n := by
  rw [← unbe_be 4 m (by omega), h, unbe_be 4 n (by omega)]
/-- One byte turned: Decode takes it only if it is as it was. -/
theorem dec_byte {x y : List UInt8} {b e : UInt8} (h1 : decB (x ++ b :: y) = true) (h2 : decB (x ++ e :: y) = true) : b = e := by
  obtain ⟨p, hp⟩ := dec_crc h1
  obtain ⟨q, hq⟩ := dec_crc h2
  have lp := congrArg List.length hp
  have lq := congrArg List.length hq
  rw [List.length_append, List.length_append, be_length, List.length_cons] at lp lq
  by_cases hy : 4 ≤ y.length
  · obtain ⟨y1, y2, hy12, hl2⟩ : ∃ y1 y2, y = y1 ++ y2 ∧ y2.length = 4 := ⟨y.take (y.length - 4), y.drop (y.length - 4), (List.take_append_drop _ _).symm, by rw [List.length_drop]; omega⟩
    subst hy12
    rw [List.length_append] at lp lq
    have ep : x ++ b :: y1 = p ∧ y2 = be 4 (crc p) := by
      refine List.append_inj (by rw [← hp]; simp [List.append_assoc]) ?_
      rw [List.length_append, List.length_cons]; omega
    have eq : x ++ e :: y1 = q ∧ y2 = be 4 (crc q) := by
      refine List.append_inj (by rw [← hq]; simp [List.append_assoc]) ?_
      rw [List.length_append, List.length_cons]; omega
    have hc : crc p = crc q := be4_inj (crc_lt _) (crc_lt _) (ep.2.symm.trans eq.2)
    rw [← ep.1, ← eq.1] at hc
    exact (crc_one x y1 b e).1 hc
  · have hpl : p.length ≤ x.length := by omega
    obtain ⟨x1, x2, hx12, hl1⟩ : ∃ x1 x2, x = x1 ++ x2 ∧ x1.length = p.length := ⟨x.take p.length, x.drop p.length, (List.take_append_drop _ _).symm, by rw [List.length_take]; omega⟩
    subst hx12
    have ep : x1 = p ∧ x2 ++ b :: y = be 4 (crc p) := List.append_inj (by rw [← hp]; simp [List.append_assoc]) hl1
    have eq : x1 = q ∧ x2 ++ e :: y = be 4 (crc q) := List.append_inj (by rw [← hq]; simp [List.append_assoc]) (by omega)
    have : p = q := ep.1.symm.trans eq.1
    subst this
    have h : x2 ++ b :: y = x2 ++ e :: y := ep.2.trans eq.2.symm
    have h' := List.append_cancel_left h
    exact (List.cons.inj h').1
/-- Decode takes one length alone: the one that the bytes 5 and 6 tell. -/
theorem dec_len {l : List UInt8} (h : decB l = true) : l.length = 11 + fld3 l := ((decB_iff l).1 h).1
theorem fld3_take {l : List UInt8} {n : Nat} (h : 7 ≤ n) : fld3 (l.take n) = fld3 l := by
  unfold fld3
  rw [List.drop_take, List.take_take, show min 2 (n - 5) = 2 by omega]
theorem fld3_append {l r : List UInt8} (h : 7 ≤ l.length) : fld3 (l ++ r) = fld3 l := by
  have := fld3_take (l := l ++ r) (n := l.length) h
  rw [List.take_left] at this
  exact this.symm
theorem dec_prefix {l : List UInt8} (h : decB l = true) {n : Nat} (hn : n < l.length) : decB (l.take n) = false := by
  cases hb : decB (l.take n) with
  | false => rfl
  | true =>
    have h1 := dec_len h
    have h2 := dec_len hb
    rw [List.length_take] at h2
    rw [fld3_take (by omega)] at h2
    omega
theorem dec_more {l r : List UInt8} (h : decB l = true) (hr : 0 < r.length) : decB (l ++ r) = false := by
  cases hb : decB (l ++ r) with
  | false => rfl
  | true =>
    have h1 := dec_len h
    have h2 := dec_len hb
    rw [List.length_append, fld3_append (by omega)] at h2
    omega
end Go.Proofs.YtldmkoicjpkdiaaDoor
