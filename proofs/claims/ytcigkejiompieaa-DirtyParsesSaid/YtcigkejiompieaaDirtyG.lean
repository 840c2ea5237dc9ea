/- Bytes as masks: what is read. -/
import Derived.Test.YtcigkejiompieaaPx0
import Derived.Test.YtcigkejiompieaaPx9
import Derived.Test.YtcigkejiompieaaDirtyF
set_option linter.unusedVariables false
set_option linter.unusedSimpArgs false
namespace Go.Proofs.Ytcigkejiompieaa.Dirty
open Go.RowKit Go.Proofs.Ytcigkejiompieaa.P Go.Proofs.Ytcigkejiompieaa.Core Go.Proofs.Ytcigkejiompieaa.Oct Go.Proofs.YtcigkejiompieaaW.PrintWords Go.Proofs.YtcigkejiompieaaW.PrintLast Go.Proofs.YtcigkejiompieaaW.PrintMore

/-- What n pieces of five bytes say. -/
def outL : Nat → List UInt8 → List S63
  | 0, _ => []
  | n + 1, l => (⟨(((l.take 1).map fun b => (b.toNat : Int)).sum), (num ((l.take 5).drop 1) : Int)⟩ : S63) :: outL n (l.drop 5)
theorem outL_len (n : Nat) (l : List UInt8) : (outL n l).length = n := by
  induction n generalizing l with
  | zero => rfl
  | succ n ih => rw [outL, List.length_cons, ih]
theorem outL_body (m : List S63) (hr : ∀ b ∈ m, (0 ≤ b.f0 ∧ b.f0 ≤ 255) ∧ 0 ≤ b.f1 ∧ b.f1 < 4294967296) (more : List UInt8) : outL m.length (bodyB m ++ more) = m := by
  induction m with
  | nil => rfl
  | cons b m ih =>
    have hb := hr b List.mem_cons_self
    have e : bodyB (b :: m) ++ more = UInt8.ofNat b.f0.toNat :: (digs b.f1.toNat 4 ++ (bodyB m ++ more)) := by
      show (five b ++ bodyB m) ++ more = _
      rw [List.append_assoc]; rfl
    have hd := digs_length b.f1.toNat 4
    rw [List.length_cons, outL, e]
    have h1 : ((UInt8.ofNat b.f0.toNat :: (digs b.f1.toNat 4 ++ (bodyB m ++ more))).take 5).drop 1 = digs b.f1.toNat 4 := by
      rw [List.take_succ_cons, List.drop_succ_cons, List.drop_zero, List.take_append_of_le_length (by omega), List.take_of_length_le (by omega)]
    have h2 : (UInt8.ofNat b.f0.toNat :: (digs b.f1.toNat 4 ++ (bodyB m ++ more))).drop 5 = bodyB m ++ more := by
      rw [List.drop_succ_cons]; exact List.drop_left' hd
    have h3 : (((UInt8.ofNat b.f0.toNat :: (digs b.f1.toNat 4 ++ (bodyB m ++ more))).take 1).map fun b => (b.toNat : Int)).sum = b.f0 := by
      rw [List.take_succ_cons, List.take_zero]
      show ((UInt8.ofNat b.f0.toNat).toNat : Int) + 0 = _
      rw [UInt8.toNat_ofNat']
      omega
    rw [h1, h2, h3, ih fun c hc => hr c (List.mem_cons_of_mem _ hc), num_digs _ _ (by show b.f1.toNat < 256 ^ 4; omega), show ((b.f1.toNat : Nat) : Int) = b.f1 by omega]
theorem parse_l0 (n : Nat) (hn : n ≤ 255) (d : Nat) : ∀ (i k : Nat) (l : List UInt8) (acc : List S63), i + d = n → d + 600 < k → 5 * d ≤ l.length → acc.length ≤ i →
    dirty_Parse.l0 k (mk l) acc (n : Int) (i : Int) = some (if rgt 0 (acc ++ outL d l) = true then (acc ++ outL d l, mk (l.drop (5 * d)), 0) else ([], mk [], 3)) := by
  induction d with
  | zero =>
    intro i k l acc hi hk hl ha
    obtain ⟨k, rfl⟩ : ∃ j, k = j + 1 := ⟨k - 1, by omega⟩
    rw [dirty_Parse.l0, if_neg (by omega), right_eq acc (by omega) (by omega)]
    simp only [Option.bind_some, outL, List.append_nil, Nat.mul_zero, List.drop_zero]
    split <;> rfl
  | succ d ih =>
    intro i k l acc hi hk hl ha
    obtain ⟨k, rfl⟩ : ∃ j, k = j + 1 := ⟨k - 1, by omega⟩
    have e1 : (mk l).extract 1 5 = mk ((l.take 5).drop 1) := ba_ext (by rw [data_extract_list, mk_data, mk_data])
    have e2 : (mk l).extract 5 (mk l).size = mk (l.drop 5) := ba_ext (by rw [data_extract_list, mk_data, mk_data, mk_size, List.take_length])
    have h4 : ((l.take 5).drop 1).length = 4 := by rw [List.length_drop, List.length_take]; omega
    have hlt := num_lt ((l.take 5).drop 1)
    rw [h4] at hlt
    have e3 : getS (mk ((l.take 5).drop 1)) = ((num ((l.take 5).drop 1) : Int), 0) := by
      unfold getS
      rw [mk_size, h4, if_neg (by omega), mk_data, if_neg (by omega)]
    have e4 : bt (mk l) 0 = (((l.take 1).map fun b => (b.toNat : Int)).sum) := by
      have := bt_data (mk l) 0 (by rw [mk_size]; omega)
      rw [show (0 : Int) = ((0 : Nat) : Int) from rfl, this]
      match l, hl with
      | b :: l, _ => simp [mk]
    have e5 : 0 ≤ (((l.take 1).map fun b => (b.toNat : Int)).sum) ∧ (((l.take 1).map fun b => (b.toNat : Int)).sum) ≤ 255 := by
      match l, hl with
      | b :: l, _ => simp; have := b.toNat_lt; omega
    rw [dirty_Parse.l0, if_pos (by omega), if_pos (by omega), if_pos (by rw [mk_size]; omega), e1, get_eq _ (by omega), e3, e4]
    simp only [Option.bind_some]
    rw [if_pos (by rw [mk_size]; omega), if_pos (by omega), e2, w64 (by omega) (by omega), IntKind.wrap_u64, show ((num ((l.take 5).drop 1) : Nat) : Int) % 18446744073709551616 = ((num ((l.take 5).drop 1) : Nat) : Int) from by omega, w64 (by omega) (by omega), show (i : Int) + 1 = ((i + 1 : Nat) : Int) from by omega]
    rw [ih (i + 1) k _ _ (by omega) (by omega) (by rw [List.length_drop]; omega) (by rw [List.length_append, List.length_singleton]; omega), outL, List.append_assoc, List.drop_drop, show 5 * (d + 1) = 5 + 5 * d by omega]
    rfl
/-- What bytes say: the masks, the rest, the error's number. -/
def parseS : List UInt8 → List S63 × ByteArray × Int
  | [] => ([], mk [], 2)
  | b :: l => if l.length < 5 * b.toNat then ([], mk [], 2) else if rgt 0 (outL b.toNat l) = true then (outL b.toNat l, mk (l.drop (5 * b.toNat)), 0) else ([], mk [], 3)
theorem parse_eq (l : List UInt8) (hl : l.length ≤ 4611686018427387904) {k : Nat} (hk : 1000 ≤ k) : dirty_Parse.f k (mk l) = some (parseS l) := by
  unfold dirty_Parse.f
  rw [number_eq _ _ (by omega)]
  simp only [Option.bind_some]
  obtain ⟨k, rfl⟩ : ∃ j, k = j + 1 := ⟨k - 1, by omega⟩
  match l, hl with
  | [], _ =>
    rw [show numberS (mk []) 1 = (0, mk [], 2) from by unfold numberS; rw [if_neg (by decide), if_pos (by rw [mk_size]; decide)]]
    rw [if_neg (by decide), dirty_Parse.j0, if_pos rfl]
    rfl
  | b :: l, hl =>
    rw [List.length_cons] at hl
    have hb := b.toNat_lt
    have hn : numberS (mk (b :: l)) 1 = ((b.toNat : Int), mk l, 0) := by
      have e : mk (b :: l) = mk (digs b.toNat 1) ++ mk l := by
        rw [mk_append]
        congr 1
        simp [digs]
      rw [e]
      exact numberS_digs (n := b.toNat) (w := 1) (by omega) (by omega) (by omega) (by omega) (mk l)
    rw [hn]
    simp only [if_true]
    rw [dirty_Parse.j0, w64 (by omega) (by omega), mk_size]
    by_cases h : l.length < 5 * b.toNat
    · rw [if_pos (by rw [decide_eq_true_eq]; omega)]
      show _ = some (if _ then _ else _)
      rw [if_pos h]
      rfl
    · have := parse_l0 b.toNat (by omega) b.toNat 0 k l [] (by omega) (by omega) (by omega) (Nat.zero_le _)
      rw [if_neg (by rw [decide_eq_true_eq]; omega)]
      show _ = some (if _ then _ else _)
      rw [if_neg h]
      exact this
theorem parseS_bytes (m : List S63) (hr : rgt 0 m = true) (hw : ∀ x ∈ m, 0 ≤ x.f1) (more : List UInt8) : parseS (bytesB m ++ more) = (m, mk more, 0) := by
  have hlen : m.length ≤ 255 := by
    rcases rgt_len hr with h | h
    · rw [h]; simp
    · omega
  have e : bytesB m ++ more = UInt8.ofNat m.length :: (bodyB m ++ more) := by
    show (digs m.length 1 ++ bodyB m) ++ more = _
    rw [List.append_assoc]
    simp [digs]
  have h8 : (UInt8.ofNat m.length).toNat = m.length := by rw [UInt8.toNat_ofNat']; omega
  have hb := bodyB_len m
  rw [e]
  show (if _ then _ else _) = _
  rw [h8, if_neg (by rw [List.length_append]; omega), outL_body m (rgt_range hr hw), if_pos hr, ← hb, List.drop_left]
end Go.Proofs.Ytcigkejiompieaa.Dirty
