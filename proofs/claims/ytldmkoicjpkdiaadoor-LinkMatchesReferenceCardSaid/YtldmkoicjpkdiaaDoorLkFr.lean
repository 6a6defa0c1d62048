/- The frames of the link statements: contracts in the form that their walks use. -/
import Derived.Test.YtldmkoicjpkdiaaDoorLkBox
import Derived.OpenShut
namespace Go.Proofs.YtldmkoicjpkdiaaDoor
open Go.RowKit
def WfF (t f k : Int) (s : ByteArray) : Prop := (Lit.int .i64 t).wf = true ∧ (Lit.int .i64 f).wf = true ∧ (Lit.int .i64 k).wf = true ∧ s.size ≤ maxLen
/-- Frame makes a valid frame. -/
theorem frame_some (t f k : Int) (s : ByteArray) (h : WfF t f k s) (w : World) :
    Calls Tryd.prog 19 #[.agg #[.int .i64 t, .int .i64 f, .int .i64 k, .string s]] w fun r w' => ∃ (T F K : Int) (S : ByteArray), r = .returned (.agg #[.int .i64 T, .int .i64 F, .int .i64 K, .string S]) ∧ Fr.okB ⟨T, F, K, S.data.toList⟩ = true ∧ S.size ≤ 1000 ∧ (1 ≤ F ∧ F ≤ 65534) ∧ Below w.heap.size w w' := by
  obtain ⟨ht, hf, hk, hs⟩ := h
  obtain ⟨t1, t2⟩ := bounds_i64 ht
  obtain ⟨f1, f2⟩ := bounds_i64 hf
  obtain ⟨k1, k2⟩ := bounds_i64 hk
  refine (frame_any t f k s hs w t1 t2 f1 f2 k1 k2).mono ?_
  rintro e w1 ⟨rfl, hb⟩
  obtain ⟨b1, b2⟩ := pickV_bd f 65534 (by omega)
  exact ⟨_, _, _, _, rfl, frame_ok t f k s, cutS_size s 1000, by unfold frF; omega, hb⟩
theorem ba_eq {a b : ByteArray} (h : a.data.toList = b.data.toList) : a = b := by
  cases a; cases b; congr 1; exact Array.toList_inj.1 h
theorem decRes_enc {t f k : Int} {s : ByteArray} (h : Fr.okB ⟨t, f, k, s.data.toList⟩ = true) :
    decRes ⟨(Fr.encL ⟨t, f, k, s.data.toList⟩).toArray⟩ = .tuple #[.agg #[.int .i64 t, .int .i64 f, .int .i64 k, .string s], .int .i64 0] := by
  obtain ⟨h1, h2⟩ := dec_enc h
  have q0 := congrArg Fr.to h2
  have q1 := congrArg Fr.fr h2
  have q2 := congrArg Fr.kind h2
  have q3 := congrArg Fr.s h2
  generalize Fr.encL ⟨t, f, k, s.data.toList⟩ = L at *
  rw [decRes_yes (s := ⟨L.toArray⟩) h1]
  have e3 : (⟨L.toArray⟩ : ByteArray).extract 7 (7 + fld3 L) = s := ba_eq ((ext_toList ⟨L.toArray⟩ 7 (fld3 L)).trans q3)
  show Value.tuple #[.agg #[.int .i64 (fld0 L : Nat), .int .i64 (fld1 L : Nat), .int .i64 (fld2 L : Nat), .string ((⟨L.toArray⟩ : ByteArray).extract 7 (7 + fld3 L))], .int .i64 0] = _
  rw [e3, show ((fld0 L : Nat) : Int) = t from q0, show ((fld1 L : Nat) : Int) = f from q1, show ((fld2 L : Nat) : Int) = k from q2]
theorem enc_size {t f k : Int} {s : ByteArray} : (⟨(Fr.encL ⟨t, f, k, s.data.toList⟩).toArray⟩ : ByteArray).size = 11 + s.size := by
  show (Fr.encL ⟨t, f, k, s.data.toList⟩).length = _
  rw [encL_length]
  show 11 + s.data.toList.length = _
  rw [Array.length_toList]; rfl
/-- Encode of a valid frame, its result as a string that is decoded to the frame. -/
theorem encode_some (t f k : Int) (s : ByteArray) (hv : Fr.okB ⟨t, f, k, s.data.toList⟩ = true) (a : Addr) (w : World) (he : ErrS a w) :
    Calls Tryd.prog 11 #[.agg #[.int .i64 t, .int .i64 f, .int .i64 k, .string s]] w fun e w' => ∃ E : ByteArray, e = .returned (.tuple #[.string E, .int .i64 0]) ∧ E.size = 11 + s.size ∧ RowKit.Hid (E.data.toList = Fr.encL ⟨t, f, k, s.data.toList⟩) ∧ RowKit.Hid (decRes E = .tuple #[.agg #[.int .i64 t, .int .i64 f, .int .i64 k, .string s], .int .i64 0]) ∧ ErrS a w' ∧ Below w.heap.size w w' := by
  refine (encode_yes t f k s hv a w he).mono ?_
  rintro e w1 ⟨rfl, hb⟩
  exact ⟨_, rfl, enc_size, Lib.hid rfl, Lib.hid (decRes_enc hv), he.below hb he.2, hb⟩
theorem decode_err (s : ByteArray) (hs : s.size ≤ 1048576) (a : Addr) (w : World) (he : ErrS a w) :
    Calls Tryd.prog 13 #[.string s] w fun e W' => e = .returned (decRes s) ∧ ErrS a W' ∧ Below w.heap.size w W' := by
  refine (decode_any s hs a w he).mono ?_
  rintro e w1 ⟨rfl, hb⟩
  exact ⟨rfl, he.below hb he.2, hb⟩
end Go.Proofs.YtldmkoicjpkdiaaDoor
