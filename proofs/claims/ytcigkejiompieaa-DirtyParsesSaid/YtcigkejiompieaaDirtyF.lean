/- Masks as bytes: what is written, and read back. -/
import Derived.Test.YtcigkejiompieaaPx0
import Derived.Test.YtcigkejiompieaaPx9
import Derived.Test.YtcigkejiompieaaDirtyE
import Derived.Test.YtcigkejiompieaaOct
set_option linter.unusedVariables false
set_option linter.unusedSimpArgs false
namespace Go.Proofs.Ytcigkejiompieaa.Dirty
open Go.RowKit Go.Proofs.Ytcigkejiompieaa.P Go.Proofs.Ytcigkejiompieaa.Core Go.Proofs.Ytcigkejiompieaa.Oct Go.Proofs.YtcigkejiompieaaW.PrintWords Go.Proofs.YtcigkejiompieaaW.PrintLast Go.Proofs.YtcigkejiompieaaW.PrintMore

theorem rgt_len {m : List S63} : ∀ {last : Int}, rgt last m = true → (m = [] ∨ (m.length : Int) + last ≤ 255) := by
  induction m with
  | nil => intro _ _; exact .inl rfl
  | cons b m ih =>
    intro last h
    rw [rgt, Bool.and_eq_true, decide_eq_true_eq] at h
    right
    rcases ih h.2 with rfl | h2
    · simp only [List.length_cons, List.length_nil]; omega
    · simp only [List.length_cons]; omega
def ints (l : List UInt8) : List Int := l.map fun b => (b.toNat : Int)
theorem nums_ints (l : List UInt8) : strOfNums (ints l) = mk l := by
  rw [strOfNums_mk, mk_inj]
  unfold ints
  rw [List.map_map]
  conv => rhs; rw [← List.map_id l]
  apply List.map_congr_left
  intro b _
  simp
theorem ints_append (l m : List UInt8) : ints l ++ ints m = ints (l ++ m) := by simp [ints]
theorem ints_len (l : List UInt8) : (ints l).length = l.length := by simp [ints]
theorem ints_digs4 (c : Nat) (h : c < 4294967296) : [(c : Int) / 16777216 % 256, (c : Int) / 65536 % 256, (c : Int) / 256 % 256, (c : Int) % 256] = ints (digs c 4) := by
  simp only [digs, ints, List.map_cons, List.map_nil, UInt8.toNat_ofNat', List.cons.injEq, and_true]
  refine ⟨by omega, by omega, by omega, by omega⟩
/-- The five bytes of a volume's mask. -/
def five (b : S63) : List UInt8 := UInt8.ofNat b.f0.toNat :: digs b.f1.toNat 4
def bodyB (m : List S63) : List UInt8 := m.flatMap five
theorem five_len (b : S63) : (five b).length = 5 := by simp [five, digs_length]
theorem bodyB_len (m : List S63) : (bodyB m).length = 5 * m.length := by
  induction m with
  | nil => rfl
  | cons b m ih => show (five b ++ bodyB m).length = _; rw [List.length_append, five_len, ih, List.length_cons]; omega
def bytesB (m : List S63) : List UInt8 := digs m.length 1 ++ bodyB m
theorem five_ints (b : S63) (h0 : 0 ≤ b.f0 ∧ b.f0 ≤ 255) (h1 : 0 ≤ b.f1 ∧ b.f1 < 4294967296) :
    [b.f0 % 256, b.f1 / 16777216 % 256, b.f1 / 65536 % 256, b.f1 / 256 % 256, b.f1 % 256] = ints (five b) := by
  have h := ints_digs4 b.f1.toNat (by omega)
  rw [show ((b.f1.toNat : Nat) : Int) = b.f1 from by omega] at h
  show b.f0 % 256 :: [b.f1 / 16777216 % 256, b.f1 / 65536 % 256, b.f1 / 256 % 256, b.f1 % 256] = _
  rw [h]
  show _ = ((UInt8.ofNat b.f0.toNat).toNat : Int) :: ints (digs b.f1.toNat 4)
  congr 1
  rw [UInt8.toNat_ofNat']
  omega
theorem bytes_l0 (m : List S63) (hm : m.length ≤ 300) (hr : ∀ b ∈ m, (0 ≤ b.f0 ∧ b.f0 ≤ 255) ∧ 0 ≤ b.f1 ∧ b.f1 < 4294967296) (d : Nat) : ∀ (i k : Nat) (L : List UInt8), i + d = m.length → d + 20 < k → L.length ≤ 10 * i + 10 →
    dirty_Bytes.l0 k (ints L) m (m.length : Int) (i : Int) = some (mk (L ++ bodyB (m.drop i)), 0) := by
  induction d with
  | zero =>
    intro i k L hi hk hL
    obtain ⟨k, rfl⟩ : ∃ j, k = j + 1 := ⟨k - 1, by omega⟩
    rw [dirty_Bytes.l0, if_neg (by omega), List.drop_eq_nil_of_le (by omega), nums_ints]
    simp [bodyB]
  | succ d ih =>
    intro i k L hi hk hL
    obtain ⟨k, rfl⟩ : ∃ j, k = j + 1 := ⟨k - 1, by omega⟩
    have hl : i < m.length := by omega
    have hb := hr _ (List.getElem_mem hl)
    have hf := five_ints m[i] hb.1 hb.2
    have e1 : wrap64 ((m[i]).f1) = (((m[i]).f1.toNat : Nat) : Int) := by rw [w64 (by omega) (by omega)]; omega
    have hp : octet_Put.f k (((m[i]).f1.toNat : Nat) : Int) 4 = some (mk (digs (m[i]).f1.toNat 4), 0) := by
      rw [put_eq (by rw [wf_i64]; omega) (by decide) (by omega)]
      exact congrArg some (putS_of (n := (m[i]).f1.toNat) (w := 4) (by omega) (by omega) (by show (m[i]).f1.toNat < 256 ^ 4; omega))
    have e2 : ints L ++ [(m[i]).f0 % 256] = ints (L ++ [UInt8.ofNat (m[i]).f0.toNat]) := by
      rw [← ints_append]
      congr 1
      show [_] = [((UInt8.ofNat (m[i]).f0.toNat).toNat : Int)]
      rw [UInt8.toNat_ofNat']
      congr 1
      omega
    have e3 : bytesOf (mk (digs (m[i]).f1.toNat 4)) = ints (digs (m[i]).f1.toNat 4) := rfl
    rw [dirty_Bytes.l0, if_pos (by omega), if_pos (by omega), if_pos (by omega), rd63 m i hl, e1, hp]
    simp only [Option.bind_some]
    rw [if_pos (by rw [ints_len]; omega), e2, if_pos (by rw [ints_len, List.length_append, mk_size, digs_length, List.length_singleton]; omega), e3, ints_append, w64 (by omega) (by omega), show (i : Int) + 1 = ((i + 1 : Nat) : Int) from by omega]
    rw [ih (i + 1) k _ (by omega) (by omega) (by rw [List.length_append, List.length_append, digs_length, List.length_singleton]; omega), List.drop_eq_getElem_cons hl]
    show _ = some (mk (L ++ (five m[i] ++ bodyB (m.drop (i + 1)))), 0)
    rw [List.append_assoc, List.append_assoc]
    rfl
theorem head_ints (m : List S63) (hm : m.length ≤ 300) : [((m.length : Int)) % 256] = ints (digs m.length 1) := by
  simp only [digs, ints, List.map_cons, List.map_nil, UInt8.toNat_ofNat', List.cons.injEq, and_true]
  omega
theorem rgt_range {m : List S63} (hr : rgt 0 m = true) (hw : ∀ x ∈ m, 0 ≤ x.f1) : ∀ b ∈ m, (0 ≤ b.f0 ∧ b.f0 ≤ 255) ∧ 0 ≤ b.f1 ∧ b.f1 < 4294967296 := fun b hb => by
  have := rgt_mem hr (by omega) b hb
  exact ⟨⟨by omega, this.2.1⟩, hw b hb, this.2.2.2⟩
theorem bytes_eq (m : List S63) (hm : m.length ≤ 300) (hw : ∀ x ∈ m, 0 ≤ x.f1) {k : Nat} (hk : 1000 ≤ k) : dirty_Bytes.f k m = some (if rgt 0 m = true then (mk (bytesB m), 0) else (mk [], 1)) := by
  unfold dirty_Bytes.f
  rw [right_eq m (by omega) (by omega)]
  simp only [Option.bind_some]
  by_cases hr : rgt 0 m = true
  · have := bytes_l0 m hm (rgt_range hr hw) m.length 0 k (digs m.length 1) (by omega) (by omega) (by rw [digs_length]; omega)
    rw [List.drop_zero] at this
    rw [if_pos hr, if_pos hr, head_ints m hm]
    exact this
  · rw [if_neg hr, if_neg hr]; rfl
theorem rbytes_l0 (m : List S63) (hm : m.length ≤ 300) (hr : ∀ b ∈ m, (0 ≤ b.f0 ∧ b.f0 ≤ 255) ∧ 0 ≤ b.f1 ∧ b.f1 < 4294967296) (d : Nat) : ∀ (i k : Nat) (L : List UInt8), i + d = m.length → d < k → L.length ≤ 10 * i + 10 →
    counterfoilref10_Bytes.l0 k m (mk L) (i : Int) = some (mk (L ++ bodyB (m.drop i))) := by
  induction d with
  | zero =>
    intro i k L hi hk hL
    obtain ⟨k, rfl⟩ : ∃ j, k = j + 1 := ⟨k - 1, by omega⟩
    rw [counterfoilref10_Bytes.l0, if_neg (by omega), List.drop_eq_nil_of_le (by omega)]
    simp [bodyB]
  | succ d ih =>
    intro i k L hi hk hL
    obtain ⟨k, rfl⟩ : ∃ j, k = j + 1 := ⟨k - 1, by omega⟩
    have hl : i < m.length := by omega
    have hb := hr _ (List.getElem_mem hl)
    have hf := five_ints m[i] hb.1 hb.2
    have e0 : wrap64 ((m[i]).f1) = (m[i]).f1 := w64 (by omega) (by omega)
    have e1 : wrap64 (Int.tdiv (m[i]).f1 16777216) % 256 = (m[i]).f1 / 16777216 % 256 := by rw [Int.tdiv_eq_ediv_of_nonneg hb.2.1, w64 (by omega) (by omega)]
    have e2 : Int.tmod (wrap64 (Int.tdiv (m[i]).f1 65536)) 256 % 256 = (m[i]).f1 / 65536 % 256 := by rw [Int.tdiv_eq_ediv_of_nonneg hb.2.1, w64 (by omega) (by omega), Int.tmod_eq_emod_of_nonneg (by omega)]; omega
    have e3 : Int.tmod (wrap64 (Int.tdiv (m[i]).f1 256)) 256 % 256 = (m[i]).f1 / 256 % 256 := by rw [Int.tdiv_eq_ediv_of_nonneg hb.2.1, w64 (by omega) (by omega), Int.tmod_eq_emod_of_nonneg (by omega)]; omega
    have e4 : Int.tmod (m[i]).f1 256 % 256 = (m[i]).f1 % 256 := by rw [Int.tmod_eq_emod_of_nonneg hb.2.1]; omega
    rw [counterfoilref10_Bytes.l0, if_pos (by omega), if_pos (by omega), rd63 m i hl, e0, e1, e2, e3, e4, hf]
    simp only [Option.bind_some]
    rw [nums_ints, if_pos (by rw [mk_size, mk_size, five_len]; omega), mk_append, w64 (by omega) (by omega), show (i : Int) + 1 = ((i + 1 : Nat) : Int) from by omega]
    rw [ih (i + 1) k _ (by omega) (by omega) (by rw [List.length_append, five_len]; omega), List.drop_eq_getElem_cons hl, List.append_assoc]
    rfl
theorem rbytes_eq (m : List S63) (hm : m.length ≤ 300) (hr : rgt 0 m = true) (hw : ∀ x ∈ m, 0 ≤ x.f1) {k : Nat} (hk : 1000 ≤ k) : counterfoilref10_Bytes.f k m = some (mk (bytesB m)) := by
  unfold counterfoilref10_Bytes.f
  have := rbytes_l0 m hm (rgt_range hr hw) m.length 0 k (digs m.length 1) (by omega) (by omega) (by rw [digs_length]; omega)
  rw [List.drop_zero] at this
  rw [head_ints m hm, nums_ints]
  exact this
end Go.Proofs.Ytcigkejiompieaa.Dirty
