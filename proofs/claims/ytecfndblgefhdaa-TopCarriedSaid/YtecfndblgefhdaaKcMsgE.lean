import Derived.Test.YtecfndblgefhdaaKcDirty
set_option linter.unusedVariables false
set_option linter.unusedSimpArgs false
namespace Go.Proofs.Ytecfndblgefhdaa.Msg
open Go.RowKit Go.Proofs.Ytecfndblgefhdaa.P Go.Proofs.Ytecfndblgefhdaa.Core Go.Proofs.Ytecfndblgefhdaa.Oct Go.Proofs.YtecfndblgefhdaaW.PrintWords Go.Proofs.YtecfndblgefhdaaW.PrintLast Go.Proofs.YtecfndblgefhdaaW.PrintMore
theorem flag_byte (b : Bool) : strOfNums [if b = true then 1 else 0] = mk (digs (if b = true then 1 else 0) 1) := by cases b <;> rfl
theorem last_step (m : S53) (h : RightM m) (A B C D SZ : List UInt8) (hA : A.length ≤ 2000) (hB : B.length ≤ 2000) (hC : C.length ≤ 2000) (hD : D.length ≤ 2000) (hS : SZ.length ≤ 100) {k : Nat} (hk : 40 ≤ k) :
  msg_Bytes.l0 k (mk A) (mk B) (mk C) (mk D) (if m.f6 = true then 1 else 0) (bytesOf (mk SZ)) m.f9 (m.f9.length : Int) (m.f9.length : Int) m.f0 m.f1 m.f2 m.f3 m.f4 m.f5 m.f6 m.f7.f0 m.f7.f1 m.f8 m.f9 m.f10.f0 m.f10.f1 m.f10.f2 =
   some (mk (digs m.f0.toNat 1 ++ eightL [m.f1] ++ A ++ eightL [m.f3, m.f4, m.f5] ++ digs (if m.f6 = true then 1 else 0) 1 ++ B ++ eightL [m.f7.f1] ++ C ++ SZ ++ eightL [m.f10.f0, m.f10.f1] ++ D), 0) := by
 obtain ⟨k, rfl⟩ : ∃ j, k = j + 1 := ⟨k - 1, z2_⟩
 have hn := h.nums
 have hp := h.aline
 have hkd := h.kind
 have l1 := eightL_len [m.f1]
 have l2 := eightL_len [m.f3, m.f4, m.f5]
 have l3 := eightL_len [m.f7.f1]
 have l4 := eightL_len [m.f10.f0, m.f10.f1]
 simp only [List.length_cons, List.length_nil] at l1 l2 l3 l4
 have e1 := eight_eq [m.f1] (by simp) (fun n hq => hn n (by simp at hq; simp [hq])) (k := k) z2_
 have e2 := eight_eq [m.f3, m.f4, m.f5] (by simp) (fun n hq => hn n (by simp at hq ⊢; rcases hq with hq | hq | hq <;> simp [hq])) (k := k) z2_
 have e3 := eight_eq [m.f7.f1] (by simp) (fun n hq => by rw [List.mem_singleton] at hq; rw [hq]; exact hp.2) (k := k) z2_
 have e4 := eight_eq [m.f10.f0, m.f10.f1] (by simp) (fun n hq => hn n (by simp at hq ⊢; rcases hq with hq | hq <;> simp [hq])) (k := k) z2_
 rw [msg_Bytes.l0, if_neg z2_]
 simp only [Option.bind_some]
 rw [one_byteI z2_ z2_, flag_byte, strOfNums_bytesOf, e1, e2, e3, e4]
 simp only [Option.bind_some, mk_append, mk_size, List.length_append, digs_length]
 rw [if_pos z2_, if_pos z2_, if_pos z2_, if_pos z2_, if_pos z2_, if_pos z2_, if_pos z2_, if_pos z2_, if_pos z2_, if_pos z2_]
theorem bytes_right (m : S53) (hr : rightB m = true) (hm : m.f8.length ≤ 4611686018427387904) (h9 : m.f9.length ≤ 4611686018427387904) (hw : ∀ b ∈ m.f8, 0 ≤ b.f1) {k : Nat} (hk : 2000 + m.f8.length ≤ k) :
  msg_Bytes.f k m.f0 m.f1 m.f2 m.f3 m.f4 m.f5 m.f6 m.f7.f0 m.f7.f1 m.f8 m.f9 m.f10.f0 m.f10.f1 m.f10.f2 = some (mk (msgL m), 0) := by
 have h := rightM hr
 have hb := rgt_len m.f8 0 z2_ z2_ h.bits
 have hl := linesB_mem h.line
 have ha := linesB_mem h.aline.1
 have hq := h.writ
 unfold writB at hq
 rw [Bool.and_eq_true, Bool.and_eq_true, decide_eq_true_eq] at hq
 have LA := lineL_len m.f2
 have LB := lineL_len m.f7.f0
 have LC := bitsL_len m.f8
 have LD := wrsL_len m.f10.f2 (fun w hw => List.all_eq_true.1 hq.2.2 w hw)
 have hsz := h.sizes
 unfold msg_Bytes.f
 have hR := right_eq m hm h9 (k := k) z2_
 unfold rightF at hR
 rw [hR, hr]
 simp only [Option.bind_some]
 rw [if_pos trivial, lineput_eq h.line z2_, lineput_eq h.aline.1 z2_, bits_eq h.bits hw z2_, wrs_eq h.writ z2_]
 simp only [Option.bind_some]
 have key : msg_Bytes.j0 k (mk (lineL m.f2)) (mk (lineL m.f7.f0)) (mk (bitsL m.f8)) (mk (wrsL m.f10.f2)) (if m.f6 = true then 1 else 0) m.f0 m.f1 m.f2 m.f3 m.f4 m.f5 m.f6 m.f7.f0 m.f7.f1 m.f8 m.f9 m.f10.f0 m.f10.f1 m.f10.f2 = some (mk (msgL m), 0) := by
  obtain ⟨k, rfl⟩ : ∃ j, k = j + 1 := ⟨k - 1, z2_⟩
  rw [msg_Bytes.j0]
  have e9 := byte_of (n := (m.f9.length : Int)) z2_ z2_
  rw [Int.toNat_natCast] at e9
  rw [e9]
  have h0 := sizes_run m (mk (lineL m.f2)) (mk (lineL m.f7.f0)) (mk (bitsL m.f8)) (mk (wrsL m.f10.f2)) (if m.f6 = true then 1 else 0) hsz.1 hsz.2 (mk (msgL m), 0) m.f9.length 0 k (digs m.f9.length 1) z2_ z173_ z2_ (fun k' h1 h2 => by
   rw [last_step m h _ _ _ _ _ z2_ z2_ z2_ z2_ (by
    rw [List.length_append, digs_length, List.drop_zero]
    have := flat_len (fun n : Int => digs n.toNat 1) 1 m.f9 (fun _ _ => z184_)
    omega) z2_, List.drop_zero]
   unfold msgL
   rfl)
  rw [Int.ofNat_zero] at h0
  exact h0
 cases hf : m.f6 with
 | true => rw [hf] at key; rw [if_pos rfl]; rw [if_pos rfl] at key; exact key
 | false => rw [hf] at key; rw [if_neg z17_]; rw [if_neg z17_] at key; exact key
theorem bytes_wrong (m : S53) (hr : rightB m = false) (hm : m.f8.length ≤ 4611686018427387904) (h9 : m.f9.length ≤ 4611686018427387904) {k : Nat} (hk : 2000 + m.f8.length ≤ k) :
  msg_Bytes.f k m.f0 m.f1 m.f2 m.f3 m.f4 m.f5 m.f6 m.f7.f0 m.f7.f1 m.f8 m.f9 m.f10.f0 m.f10.f1 m.f10.f2 = some ((⟨#[]⟩ : ByteArray), 1) := by
 unfold msg_Bytes.f
 have hR := right_eq m hm h9 (k := k) z2_
 unfold rightF at hR
 rw [hR, hr]
 simp only [Option.bind_some]
 rw [if_neg z17_]
theorem msgL_len (m : S53) (hr : rightB m = true) : (msgL m).length ≤ 6000 := by
 have h := rightM hr
 have hb := rgt_len m.f8 0 z2_ z2_ h.bits
 have hl := linesB_mem h.line
 have ha := linesB_mem h.aline.1
 have hq := h.writ
 unfold writB at hq
 rw [Bool.and_eq_true, Bool.and_eq_true, decide_eq_true_eq] at hq
 have LA := lineL_len m.f2
 have LB := lineL_len m.f7.f0
 have LC := bitsL_len m.f8
 have LD := wrsL_len m.f10.f2 (fun w hw => List.all_eq_true.1 hq.2.2 w hw)
 have hsz := h.sizes
 have l1 := eightL_len [m.f1]
 have l2 := eightL_len [m.f3, m.f4, m.f5]
 have l3 := eightL_len [m.f7.f1]
 have l4 := eightL_len [m.f10.f0, m.f10.f1]
 simp only [List.length_cons, List.length_nil] at l1 l2 l3 l4
 have := flat_len (fun n : Int => digs n.toNat 1) 1 m.f9 (fun _ _ => z184_)
 unfold msgL
 simp only [List.length_append, digs_length]
 omega
theorem num_read {n w : Nat} (h1 : 1 ≤ w) (h8 : w ≤ 8) (hn : n < 256 ^ w) (hb : n ≤ 9223372036854775807) (r : List UInt8) {k : Nat} (hk : 14 ≤ k) : msg_reader_number.f k (mk (digs n w ++ r)) false (w : Int) = some ((n : Int), mk r, false) := by
 unfold msg_reader_number.f
 rw [← mk_append, number_eq _ _ hk, numberS_digs h1 h8 hn hb]
 simp only [Option.bind_some]
 rw [if_neg z17_, if_pos trivial]
theorem rdr_eq {n w : Nat} (h1 : 1 ≤ w) (h8 : w ≤ 8) (hn : n < 256 ^ w) (hb : n ≤ 9223372036854775807) (r : List UInt8) {k : Nat} (hk : 14 ≤ k) : msg_rdr k (mk (digs n w ++ r)) (w : Int) = some ((n : Int), mk r) := by
 unfold msg_rdr
 rw [num_read h1 h8 hn hb r hk]
 rfl
theorem rdr8 {n : Int} (h0 : 0 ≤ n) (h : n ≤ 1099511627776) (r : List UInt8) {k : Nat} (hk : 14 ≤ k) : msg_rdr k (mk (digs n.toNat 8 ++ r)) 8 = some (n, mk r) := by
 have := rdr_eq (n := n.toNat) (w := 8) z2_ z2_ z2_ z2_ r hk
 rwa [Int.toNat_of_nonneg h0] at this
theorem rdr1 {n : Int} (h0 : 0 ≤ n) (h : n ≤ 255) (r : List UInt8) {k : Nat} (hk : 14 ≤ k) : msg_rdr k (mk (digs n.toNat 1 ++ r)) 1 = some (n, mk r) := by
 have := rdr_eq (n := n.toNat) (w := 1) z2_ z2_ z2_ z2_ r hk
 rwa [Int.toNat_of_nonneg h0] at this
theorem nread8 {n : Int} (h0 : 0 ≤ n) (h : n ≤ 1099511627776) (r : List UInt8) {k : Nat} (hk : 14 ≤ k) : msg_reader_number.f k (mk (digs n.toNat 8 ++ r)) false 8 = some (n, mk r, false) := by
 have := num_read (n := n.toNat) (w := 8) z2_ z2_ z2_ z2_ r hk
 rwa [Int.toNat_of_nonneg h0] at this
theorem line_read0 (l : List S160) (hb : linesB l = true) (r : List UInt8) (d : Nat) : ∀ (i k : Nat), i + d = l.length → d + 100 < k →
  msg_reader_line.l0 k (l.take i) (l.length : Int) (i : Int) (mk (((l.drop i).flatMap fun b => eightL [b.f0, b.f1]) ++ r)) false = some (l, mk r, false) := by
 obtain ⟨hl, hn⟩ := linesB_mem hb
 induction d with
 | zero =>
  intro i k hi hk
  obtain ⟨k, rfl⟩ : ∃ j, k = j + 1 := ⟨k - 1, z2_⟩
  rw [msg_reader_line.l0, if_neg z2_, if_neg z17_, List.drop_eq_nil_of_le z2_, List.flatMap_nil, List.nil_append, List.take_of_length_le z2_]
  by_cases c : (l.length : Int) > 0
  ·rw [if_pos c, line_eq l z2_]
   have : lineB l = true := by
    unfold linesB at hb
    rcases Bool.or_eq_true_iff.1 hb with h | h
    ·have := of_decide_eq_true h; omega
    ·exact h
   rw [this]
   rfl
  ·rw [if_neg c]
 | succ d ih =>
  intro i k hi hk
  obtain ⟨k, rfl⟩ : ∃ j, k = j + 1 := ⟨k - 1, z2_⟩
  have hl2 : i < l.length := by omega
  have hq := hn _ (List.getElem_mem hl2)
  have e : ((l.drop i).flatMap fun b => eightL [b.f0, b.f1]) ++ r = digs (l[i]).f0.toNat 8 ++ (digs (l[i]).f1.toNat 8 ++ (((l.drop (i + 1)).flatMap fun b => eightL [b.f0, b.f1]) ++ r)) := by
   rw [List.drop_eq_getElem_cons hl2, List.flatMap_cons]
   simp only [eightL, List.flatMap_cons, List.flatMap_nil, List.append_nil, List.append_assoc]
  rw [e, msg_reader_line.l0, if_pos z2_, nread8 hq.1.1 hq.1.2 _ z2_]
  simp only [Option.bind_some]
  rw [nread8 hq.2.1 hq.2.2 _ z2_]
  simp only [Option.bind_some]
  rw [if_pos z176_, if_neg z17_, w64 z2_ z2_, show ((i : Int) + 1) = ((i + 1 : Nat) : Int) from z2_, show l.take i ++ [(⟨(l[i]).f0, (l[i]).f1⟩ : S160)] = l.take (i + 1) from (List.take_succ_eq_append_getElem hl2).symm]
  exact ih (i + 1) k z2_ z2_
theorem lin_eq {l : List S160} (hb : linesB l = true) (r : List UInt8) {k : Nat} (hk : 300 ≤ k) : msg_lin k (mk (lineL l ++ r)) = some (l, mk r) := by
 have hl := (linesB_mem hb).1
 unfold msg_lin msg_reader_line.f lineL
 rw [List.append_assoc]
 have h1 := num_read (n := l.length) (w := 1) z2_ z2_ z2_ z2_ ((l.flatMap fun b => eightL [b.f0, b.f1]) ++ r) (k := k) z2_
 rw [show ((1 : Nat) : Int) = 1 from rfl] at h1
 rw [h1]
 simp only [Option.bind_some]
 have h0 := line_read0 l hb r l.length 0 k z2_ z2_
 rw [Int.ofNat_zero, List.drop_zero, List.take_zero] at h0
 rw [h0]
 rfl
theorem bt_cons (x : UInt8) (l : List UInt8) : bt (mk (x :: l)) 0 = (x.toNat : Int) := by
 have h := bt_data (mk (x :: l)) 0 z179_
 rw [Int.ofNat_zero] at h
 exact h
theorem bits_read0 (m : List S166) (hm : m.length ≤ 300) (hg : Dirty.rgt 0 m = true) (hn : ∀ b ∈ m, (0 ≤ b.f0 ∧ b.f0 ≤ 255) ∧ 0 ≤ b.f1 ∧ b.f1 < 4294967296) (r : List UInt8) (d : Nat) : ∀ (i k : Nat), i + d = m.length → d + 400 < k →
  dirty_Parse.l0 k (mk (((m.drop i).flatMap fun b => digs b.f0.toNat 1 ++ digs b.f1.toNat 4) ++ r)) (m.take i) (m.length : Int) (i : Int) = some (m, mk r, 0) := by
 induction d with
 | zero =>
  intro i k hi hk
  obtain ⟨k, rfl⟩ : ∃ j, k = j + 1 := ⟨k - 1, z2_⟩
  rw [dirty_Parse.l0, if_neg z2_, List.drop_eq_nil_of_le z2_, List.flatMap_nil, List.nil_append, List.take_of_length_le z2_, Dirty.right_eq m z2_ z2_, hg]
  rfl
 | succ d ih =>
  intro i k hi hk
  obtain ⟨k, rfl⟩ : ∃ j, k = j + 1 := ⟨k - 1, z2_⟩
  have hl2 : i < m.length := by omega
  have hq := hn _ (List.getElem_mem hl2)
  obtain ⟨t, ht⟩ : ∃ t, t = ((m.drop (i + 1)).flatMap fun b => digs b.f0.toNat 1 ++ digs b.f1.toNat 4) ++ r := ⟨_, rfl⟩
  have e : ((m.drop i).flatMap fun b => digs b.f0.toNat 1 ++ digs b.f1.toNat 4) ++ r = digs (m[i]).f0.toNat 1 ++ digs (m[i]).f1.toNat 4 ++ t := by
   rw [List.drop_eq_getElem_cons hl2, List.flatMap_cons, ht, List.append_assoc]
  have hsz : (mk (digs (m[i]).f0.toNat 1 ++ digs (m[i]).f1.toNat 4 ++ t)).size = 5 + t.length := by rw [mk_size, List.length_append, List.length_append, digs_length, digs_length]
  have d1 : digs (m[i]).f0.toNat 1 = [UInt8.ofNat (m[i]).f0.toNat] := by
   rw [show digs (m[i]).f0.toNat 1 = digs ((m[i]).f0.toNat / 256) 0 ++ [UInt8.ofNat (m[i]).f0.toNat] from digs_snoc _ 0]
   rfl
  have x1 : (mk (digs (m[i]).f0.toNat 1 ++ digs (m[i]).f1.toNat 4 ++ t)).extract 1 5 = mk (digs (m[i]).f1.toNat 4) := by
   apply ba_ext
   rw [data_extract_list, mk_data, mk_data, d1]
   have h5 : ([UInt8.ofNat (m[i]).f0.toNat] ++ digs (m[i]).f1.toNat 4).length = 5 := by rw [List.length_append, digs_length]; rfl
   rw [List.take_append_of_le_length z2_, List.take_of_length_le z2_]
   rfl
  have x2 : (mk (digs (m[i]).f0.toNat 1 ++ digs (m[i]).f1.toNat 4 ++ t)).extract 5 (mk (digs (m[i]).f0.toNat 1 ++ digs (m[i]).f1.toNat 4 ++ t)).size = mk t := by
   apply ba_ext
   rw [data_extract_list, mk_data, mk_data, mk_size, List.take_length]
   have h5 : (digs (m[i]).f0.toNat 1 ++ digs (m[i]).f1.toNat 4).length = 5 := by rw [List.length_append, digs_length, digs_length]
   rw [List.drop_append_of_le_length z2_, List.drop_eq_nil_of_le z2_, List.nil_append]
  have x3 : bt (mk (digs (m[i]).f0.toNat 1 ++ digs (m[i]).f1.toNat 4 ++ t)) 0 = (m[i]).f0 := by
   rw [d1]
   show bt (mk (UInt8.ofNat (m[i]).f0.toNat :: (digs (m[i]).f1.toNat 4 ++ t))) 0 = _
   rw [bt_cons, UInt8.toNat_ofNat']
   omega
  have x4 := getS_digs (n := (m[i]).f1.toNat) (w := 4) z2_ z2_ z2_ z2_
  rw [Int.toNat_of_nonneg hq.2.1] at x4
  rw [e, dirty_Parse.l0, if_pos z2_, if_pos z17_, if_pos z2_, x1, get_eq _ z2_, x4]
  simp only [Option.bind_some]
  rw [if_pos z2_, if_pos z176_, x2, x3, w64 z2_ z2_, w64 z2_ z2_, show ((i : Int) + 1) = ((i + 1 : Nat) : Int) from z2_]
  have x5 : IntKind.u64.wrap (m[i]).f1 = (m[i]).f1 := by
   show (m[i]).f1 % 18446744073709551616 = _
   omega
  rw [x5, show m.take i ++ [(⟨(m[i]).f0, (m[i]).f1⟩ : S166)] = m.take (i + 1) from (List.take_succ_eq_append_getElem hl2).symm, ht]
  exact ih (i + 1) k z2_ z2_
def flatB (m : List S166) : List UInt8 := m.flatMap fun b => digs b.f0.toNat 1 ++ digs b.f1.toNat 4
theorem flatB_len (l : List S166) : (flatB l).length = 5 * l.length := by
 induction l with
 | nil => rfl
 | cons a r ih =>
  unfold flatB at ih ⊢
  rw [List.flatMap_cons, List.length_append, List.length_append, digs_length, digs_length, ih, List.length_cons]
  omega
theorem bits_room (m : List S166) (r : List UInt8) (h : (m.length : Int) ≤ 255) : decide (((mk (flatB m ++ r)).size : Int) < wrap64 (5 * (m.length : Int))) = false := by
 have e := flatB_len m
 have e2 : (mk (flatB m ++ r)).size = 5 * m.length + r.length := by rw [mk_size, List.length_append, e]
 refine decide_eq_false ?_
 rw [w64 z2_ z2_, e2]
 omega
theorem bits_j0 {m : List S166} (hg : Dirty.rgt 0 m = true) (hw : ∀ b ∈ m, 0 ≤ b.f1) (r : List UInt8) {k : Nat} (hk : 800 ≤ k) : dirty_Parse.j0 (k + 1) (m.length : Int) (mk (flatB m ++ r)) false = some (m, mk r, 0) := by
 have hl := rgt_len m 0 z2_ z2_ hg
 have hn : ∀ b ∈ m, (0 ≤ b.f0 ∧ b.f0 ≤ 255) ∧ 0 ≤ b.f1 ∧ b.f1 < 4294967296 := fun b hb => by
  have h1 := Dirty.rgt_mem hg z2_ b hb
  have h2 := hw b hb
  omega
 have h0 := bits_read0 m z2_ hg hn r m.length 0 k z2_ z2_
 rw [Int.ofNat_zero, List.drop_zero, List.take_zero] at h0
 rw [dirty_Parse.j0, if_neg z17_]
 exact h0
theorem one_num (n : Nat) (h : n ≤ 255) (t : ByteArray) {k : Nat} (hk : 14 ≤ k) : octet_Number.f k (mk (digs n 1) ++ t) 1 = some ((n : Int), t, 0) := by
 have h1 := number_eq (mk (digs n 1) ++ t) 1 hk
 have h2 := numberS_digs (n := n) (w := 1) z2_ z2_ z2_ z2_ t
 rw [show ((1 : Nat) : Int) = 1 from rfl] at h2
 rw [h1, h2]
theorem parse_pair {k : Nat} {s t : ByteArray} {n : Int} {x : Option (List S166 × ByteArray × Int)} (h : octet_Number.f k s 1 = some (n, t, 0)) (hd : decide ((t.size : Int) < wrap64 (5 * n)) = false) (hx : dirty_Parse.j0 k n t false = x) : dirty_Parse.f k s = x := by
 unfold dirty_Parse.f
 rw [h]
 simp only [Option.bind_some]
 rw [if_pos trivial, hd]
 exact hx
theorem bits_read {m : List S166} (hg : Dirty.rgt 0 m = true) (hw : ∀ b ∈ m, 0 ≤ b.f1) (r : List UInt8) {k : Nat} (hk : 801 ≤ k) : dirty_Parse.f k (mk (bitsL m ++ r)) = some (m, mk r, 0) := by
 obtain ⟨k, rfl⟩ : ∃ j, k = j + 1 := ⟨k - 1, z2_⟩
 have hl := rgt_len m 0 z2_ z2_ hg
 have e : mk (bitsL m ++ r) = mk (digs m.length 1) ++ mk (flatB m ++ r) := by rw [mk_append]; unfold bitsL flatB; rw [List.append_assoc]
 rw [e]
 exact parse_pair (one_num m.length z2_ _ z2_) (bits_room m r z2_) (bits_j0 hg hw r z2_)
theorem szs_eq (r : List UInt8) : ∀ (x : List Int) (acc : List Int) {k : Nat}, 14 ≤ k → (∀ y ∈ x, 0 ≤ y ∧ y ≤ 255) → acc.length + x.length ≤ 1000 → msg_szs k x.length acc (mk ((x.flatMap fun n => digs n.toNat 1) ++ r)) = some (acc ++ x, mk r) := by
 intro x
 induction x with
 | nil => intro acc k hk _ _; rw [List.length_nil, msg_szs, List.flatMap_nil, List.nil_append, List.append_nil]
 | cons y q ih =>
  intro acc k hk h hl
  rw [List.length_cons] at hl
  have hy := h y List.mem_cons_self
  rw [List.length_cons, msg_szs, List.flatMap_cons, List.append_assoc, rdr1 hy.1 hy.2 _ hk]
  simp only [Option.bind_some]
  rw [if_pos z2_, ih (acc ++ [y]) hk (fun z hz => h z (List.mem_cons_of_mem _ hz)) z185_, List.append_assoc, List.singleton_append]
theorem wrs_goR (r : List UInt8) : ∀ (l : List S120) (acc : List S120) {k : Nat}, 14 ≤ k → (∀ w ∈ l, fitB w = true) → acc.length + l.length ≤ 1000 →
  msg_wrs.go k l.length acc (mk ((l.flatMap fun w => digs w.f0.toNat 1 ++ (digs w.f1.toNat 1 ++ (digs w.f2.size 2 ++ w.f2.data.toList))) ++ r)) = some (acc ++ l, mk r) := by
 intro l
 induction l with
 | nil => intro acc k hk _ _; rw [List.length_nil, msg_wrs.go, List.flatMap_nil, List.nil_append, List.append_nil]
 | cons w q ih =>
  intro acc k hk h hl
  rw [List.length_cons] at hl
  obtain ⟨a1, a2, a3, a4, a5⟩ := fit_mem (h w List.mem_cons_self)
  obtain ⟨t, ht⟩ : ∃ t, t = (q.flatMap fun w => digs w.f0.toNat 1 ++ (digs w.f1.toNat 1 ++ (digs w.f2.size 2 ++ w.f2.data.toList))) ++ r := ⟨_, rfl⟩
  have hT : takeS (mk (digs w.f2.size 2 ++ (w.f2.data.toList ++ t))) = (w.f2, mk t, 0) := by
   have := takeS_text w.f2 (mk t) z2_
   rw [← data_mk w.f2] at this
   rw [mk_append, mk_append] at this
   rw [data_mk] at this
   rw [← List.append_assoc]
   exact this
  rw [List.length_cons, msg_wrs.go, List.flatMap_cons]
  simp only [List.append_assoc]
  rw [rdr1 z2_ z2_ _ hk]
  simp only [Option.bind_some]
  rw [rdr1 a3 z2_ _ hk]
  simp only [Option.bind_some]
  rw [take_eq _ hk, ← ht, hT]
  simp only [Option.bind_some]
  rw [if_pos ⟨trivial, z2_⟩, ht]
  show msg_wrs.go k q.length (acc ++ [w]) _ = _
  rw [ih (acc ++ [w]) hk (fun z hz => h z (List.mem_cons_of_mem _ hz)) z185_, List.append_assoc, List.singleton_append]
theorem wrs_read {l : List S120} (h : writB l = true) (r : List UInt8) {k : Nat} (hk : 1200 ≤ k) : msg_wrs k (mk (wrsL l ++ r)) = some (l, mk r) := by
 have h0 := h
 unfold writB at h0
 rw [Bool.and_eq_true, Bool.and_eq_true, decide_eq_true_eq] at h0
 unfold msg_wrs wrsL
 have h1 := rdr_eq (n := l.length) (w := 2) z2_ z2_ z2_ z2_ ((l.flatMap fun w => digs w.f0.toNat 1 ++ (digs w.f1.toNat 1 ++ (digs w.f2.size 2 ++ w.f2.data.toList))) ++ r) (k := k) z2_
 rw [show ((2 : Nat) : Int) = 2 from rfl] at h1
 rw [List.append_assoc, h1]
 simp only [Option.bind_some]
 rw [if_pos z2_, Int.toNat_natCast, wrs_goR r l [] z2_ (fun w hw => List.all_eq_true.1 h0.2.2 w hw) z174_]
 simp only [Option.bind_some, List.nil_append]
 rw [writ_eq l z2_, h]
 rfl
theorem parse_eq (m : S53) (hr : rightB m = true) (hm : m.f8.length ≤ 4611686018427387904) (h9 : m.f9.length ≤ 4611686018427387904) (hw : ∀ b ∈ m.f8, 0 ≤ b.f1) {k : Nat} (hk : 2000 + m.f8.length ≤ k) : msg_Parse.f k (mk (msgL m)) = some m := by
 have h := rightM hr
 have hn := h.nums
 have ha := h.aline
 have hsz := h.sizes
 have hkd := h.kind
 have n1 := hn m.f1 (by simp)
 have n3 := hn m.f3 (by simp)
 have n4 := hn m.f4 (by simp)
 have n5 := hn m.f5 (by simp)
 have n11 := hn m.f10.f0 (by simp)
 have n12 := hn m.f10.f1 (by simp)
 have hR := right_eq m hm h9 (k := k) z2_
 unfold rightF at hR
 have e : msgL m = digs m.f0.toNat 1 ++ (digs m.f1.toNat 8 ++ (lineL m.f2 ++ (digs m.f3.toNat 8 ++ (digs m.f4.toNat 8 ++ (digs m.f5.toNat 8 ++ (digs (if m.f6 = true then 1 else 0) 1 ++ (lineL m.f7.f0 ++ (digs m.f7.f1.toNat 8 ++ (bitsL m.f8 ++ (digs m.f9.length 1 ++ ((m.f9.flatMap fun n => digs n.toNat 1) ++ (digs m.f10.f0.toNat 8 ++ (digs m.f10.f1.toNat 8 ++ (wrsL m.f10.f2 ++ [])))))))))))))) := by
  unfold msgL
  simp only [eightL, List.flatMap_cons, List.flatMap_nil, List.append_nil, List.append_assoc]
 unfold msg_Parse.f
 rw [e, rdr1 z2_ z2_ _ z2_]
 simp only [Option.bind_some]
 rw [rdr8 n1.1 n1.2 _ z2_]
 simp only [Option.bind_some]
 rw [lin_eq h.line _ z2_]
 simp only [Option.bind_some]
 rw [rdr8 n3.1 n3.2 _ z2_]
 simp only [Option.bind_some]
 rw [rdr8 n4.1 n4.2 _ z2_]
 simp only [Option.bind_some]
 rw [rdr8 n5.1 n5.2 _ z2_]
 simp only [Option.bind_some]
 have hf := rdr_eq (n := if m.f6 = true then 1 else 0) (w := 1) z2_ z2_ (by split <;> omega) (by split <;> omega) (lineL m.f7.f0 ++ (digs m.f7.f1.toNat 8 ++ (bitsL m.f8 ++ (digs m.f9.length 1 ++ ((m.f9.flatMap fun n => digs n.toNat 1) ++ (digs m.f10.f0.toNat 8 ++ (digs m.f10.f1.toNat 8 ++ (wrsL m.f10.f2 ++ [])))))))) (k := k) z2_
 rw [show ((1 : Nat) : Int) = 1 from rfl] at hf
 rw [hf]
 simp only [Option.bind_some]
 rw [lin_eq ha.1 _ z2_]
 simp only [Option.bind_some]
 rw [rdr8 ha.2.1 ha.2.2 _ z2_]
 simp only [Option.bind_some]
 rw [bits_read h.bits hw _ z2_]
 simp only [Option.bind_some]
 rw [if_pos ⟨trivial, by split <;> omega⟩]
 have hc := rdr_eq (n := m.f9.length) (w := 1) z2_ z2_ z2_ z2_ ((m.f9.flatMap fun n => digs n.toNat 1) ++ (digs m.f10.f0.toNat 8 ++ (digs m.f10.f1.toNat 8 ++ (wrsL m.f10.f2 ++ [])))) (k := k) z2_
 rw [show ((1 : Nat) : Int) = 1 from rfl] at hc
 rw [hc]
 simp only [Option.bind_some]
 rw [if_pos z2_, Int.toNat_natCast, szs_eq _ m.f9 [] z2_ hsz.2 z174_]
 simp only [Option.bind_some, List.nil_append]
 rw [rdr8 n11.1 n11.2 _ z2_]
 simp only [Option.bind_some]
 rw [rdr8 n12.1 n12.2 _ z2_]
 simp only [Option.bind_some]
 rw [wrs_read h.writ [] z2_]
 simp only [Option.bind_some]
 have hb : (((if m.f6 = true then 1 else 0 : Nat) : Int) == 1) = m.f6 := by cases m.f6 <;> rfl
 rw [if_pos (show mk [] = (⟨#[]⟩ : ByteArray) from rfl), hb, hR, hr]
 simp only [Option.bind_some, if_true]
end Go.Proofs.Ytecfndblgefhdaa.Msg
namespace Go.Proofs.Ytecfndblgefhdaa.Link
open Go.RowKit Go.Proofs.Ytecfndblgefhdaa.P Go.Proofs.Ytecfndblgefhdaa.Core Go.Proofs.Ytecfndblgefhdaa.Oct Go.Proofs.Ytecfndblgefhdaa.Frame Go.Proofs.Ytecfndblgefhdaa.Seg Go.Proofs.Ytecfndblgefhdaa.Msg Go.Proofs.YtecfndblgefhdaaW.PrintWords Go.Proofs.YtecfndblgefhdaaW.PrintLast Go.Proofs.YtecfndblgefhdaaW.PrintMore
theorem pack2_some (a o w : Nat) : packetS 2 a o 0 w (mk []) ≠ (⟨#[]⟩ : ByteArray) := fun e => by
 have h1 := packetS_size2 2 (.inr rfl) a o 0 w (mk []) z179_
 rw [e] at h1
 have h2 : (⟨#[]⟩ : ByteArray).size = 0 := rfl
 omega
theorem Dir.rest {es : Nat} {s r : En} {ps cs : List ByteArray} (h : Dir es s r ps cs) : s.f + s.l.length = ps.length + 1 := by
 have a1 := h.f1
 have a2 := h.fw
 have a3 := h.wl
 rw [h.out, List.length_drop]
 omega
theorem reply_val {a b : Nat} {e : En} {q : Rc} {ps : List ByteArray} (he : 1 ≤ e.w) {x : Rc} (hx : x ∈ reply a b e q) : x.d = (!q.d) ∧ Val b (recv a b e q).w ps x := by
 obtain ⟨_, rfl⟩ := reply_mem hx
 exact ⟨rfl, Nat.le_trans he (recv_w _ _ _ _), Nat.le_refl _, by show (mk []).size ≤ 512; rw [mk_size]; simp, (fun c => by cases c), (fun _ => ⟨rfl, rfl, rfl⟩)⟩
theorem wt_len (qs : List Rc) : qs.length ≤ wt qs := by
 induction qs with
 | nil => exact Nat.le_refl _
 | cons q r ih =>
  have : wt (q :: r) = (if q.one = true then 2 else 1) + wt r := by simp [wt]
  rw [this, List.length_cons]
  split <;> omega
def tickR (d : Bool) (o f : Nat) (l : List ByteArray) (w c : Nat) : List Rc := (List.range c).map fun i => ⟨d, true, o, f + i, w, rdOf ByteArray.empty l (i : Int)⟩
theorem tickR_mem {d : Bool} {o f : Nat} {l : List ByteArray} {w c : Nat} {q : Rc} (h : q ∈ tickR d o f l w c) : ∃ i, i < c ∧ q = ⟨d, true, o, f + i, w, rdOf ByteArray.empty l (i : Int)⟩ := by
 obtain ⟨i, hi, rfl⟩ := List.mem_map.1 h
 exact ⟨i, List.mem_range.1 hi, rfl⟩
theorem tickR_val {es er : Nat} {s r : En} {ps cs : List ByteArray} (h : Dir es s r ps cs) {d : Bool} (ho : s.o = 0 ∨ s.o = er) (hw : 1 ≤ s.w) {q : Rc} (hq : q ∈ tickR d s.o s.f s.l s.w (min s.l.length 4)) : q.d = d ∧ q.one = true ∧ q.o = s.o ∧ Val er s.w ps q := by
 obtain ⟨i, hi, rfl⟩ := tickR_mem hq
 have a1 := h.f1
 have hi2 : i < s.l.length := by omega
 have hl : s.l.length = ps.length - (s.f - 1) := by rw [h.out, List.length_drop]
 have hr : rdOf ByteArray.empty s.l (i : Int) = s.l[i] := by simp [rdOf, hi2]
 have hsub : ∀ t ∈ s.l, t ∈ ps := fun t ht => by rw [h.out] at ht; exact List.mem_of_mem_drop ht
 have e : s.l[i]? = some s.l[i] := List.getElem?_eq_getElem hi2
 refine ⟨rfl, rfl, rfl, hw, Nat.le_refl _, by show (rdOf ByteArray.empty s.l (i : Int)).size ≤ 512; rw [hr]; exact h.short _ (hsub _ (List.getElem_mem hi2)), fun _ => ⟨by show 1 ≤ s.f + i; omega, by show s.f + i ≤ ps.length; omega, ?_, ho⟩, (fun c => by cases c)⟩
 show ps[s.f + i - 1]? = some (rdOf ByteArray.empty s.l (i : Int))
 rw [hr, ← e, h.out, List.getElem?_drop]
 congr 1
 omega
theorem tickR_all (d : Bool) (o f : Nat) (l : List ByteArray) (w c : Nat) : (tickR d o f l w c).filter (fun q => q.d == d && q.one) = tickR d o f l w c := List.filter_eq_self.2 (fun q hq => by
 obtain ⟨i, _, rfl⟩ := tickR_mem hq
 simp)
theorem tickR_no (d : Bool) (o f : Nat) (l : List ByteArray) (w c : Nat) : (tickR (!d) o f l w c).filter (fun q => q.d == d && q.one) = [] := List.filter_eq_nil_iff.2 (fun q hq => by
 obtain ⟨i, _, rfl⟩ := tickR_mem hq
 cases d <;> simp)
theorem tickR_n (d : Bool) (o f : Nat) (l : List ByteArray) (w c : Nat) : (tickR d o f l w c).map (fun q => q.n) = List.range' f c := by
 unfold tickR
 rw [List.map_map, List.range'_eq_map_range]
 rfl
theorem tickR_wt (d : Bool) (o f : Nat) (l : List ByteArray) (w c : Nat) : wt (tickR d o f l w c) = 2 * c := by
 unfold wt tickR
 rw [List.map_map]
 induction c with
 | zero => rfl
 | succ c ih =>
  rw [List.range_succ, List.map_append, List.sum_append, ih]
  show 2 * c + 2 = 2 * (c + 1)
  omega
theorem Pr.start {d : Bool} {es er : Nat} {s r : En} {ps cs : List ByteArray} (h : Dir es s r ps cs) (o f : Nat) (l : List ByteArray) (w c : Nat) (qs : List Rc)
  (hq : qs = tickR d s.o s.f s.l s.w (min s.l.length 4) ++ tickR (!d) o f l w c ∨ qs = tickR (!d) o f l w c ++ tickR d s.o s.f s.l s.w (min s.l.length 4)) : Pr d er s.f (min s.l.length 4) (s.o = er) s r qs := by
 have hf : qs.filter (fun q => q.d == d && q.one) = tickR d s.o s.f s.l s.w (min s.l.length 4) := by
  rcases hq with rfl | rfl
  ·rw [List.filter_append, tickR_all, tickR_no, List.append_nil]
  ·rw [List.filter_append, tickR_all, tickR_no, List.nil_append]
 have hm : ∀ q, q ∈ qs ↔ (q ∈ tickR d s.o s.f s.l s.w (min s.l.length 4) ∨ q ∈ tickR (!d) o f l w c) := fun q => by
  rcases hq with rfl | rfl
  ·exact List.mem_append
  ·exact List.mem_append.trans Or.comm
 refine ⟨Nat.le_refl _, fun hk => ⟨hk, 0, Nat.zero_le _, ?_, h.fw, fun q hqm hd ho => ?_, fun e => .inl z2_⟩, ?_⟩
 ·rw [hf, tickR_n]
  rfl
 ·rcases (hm q).1 hqm with hx | hx
  ·obtain ⟨i, _, rfl⟩ := tickR_mem hx
   exact hk
  ·obtain ⟨i, _, rfl⟩ := tickR_mem hx
   exfalso
   cases d <;> cases hd
 ·rcases Nat.eq_zero_or_pos (min s.l.length 4) with hz | hz
  ·exact .inr (.inl hz)
  ·refine .inr (.inr (.inl ⟨⟨d, true, s.o, s.f + 0, s.w, rdOf ByteArray.empty s.l ((0 : Nat) : Int)⟩, (hm _).2 (.inl ?_), rfl, rfl⟩))
   exact List.mem_map.2 ⟨0, List.mem_range.2 hz, rfl⟩
structure Goes (er : Nat) (s s' : En) : Prop where
 f : s.f ≤ s'.f
 c : s.o = er → s.f + min s.l.length 4 ≤ s'.f
 o : s'.o = er ∨ min s.l.length 4 = 0
def Less (n er : Nat) (s : En) : Prop := s.l = [] ∨ (s.o = er ∧ s.l.length + 4 * n ≤ 64)
theorem less_first {es er : Nat} {s s' r r' : En} {ps cs cs' : List ByteArray} (h : Dir es s r ps cs) (h' : Dir es s' r' ps cs') (hg : Goes er s s') : Less 0 er s' := by
 have a1 := h.rest
 have a2 := h'.rest
 have a3 := hg.f
 have a4 := h.few
 rcases hg.o with a5 | a5
 ·exact .inr ⟨a5, z2_⟩
 ·exact .inl (List.eq_nil_of_length_eq_zero z2_)
theorem less_next {es er n : Nat} {s s' r r' : En} {ps cs cs' : List ByteArray} (h : Dir es s r ps cs) (h' : Dir es s' r' ps cs') (hg : Goes er s s') (hl : Less n er s) : Less (n + 1) er s' := by
 have a1 := h.rest
 have a2 := h'.rest
 have a3 := hg.f
 rcases hl with hl | ⟨ho, hl⟩
 ·rw [hl, List.length_nil] at a1
  exact .inl (List.eq_nil_of_length_eq_zero z2_)
 ·have a4 := hg.c ho
  by_cases c : s.l.length ≤ 4
  ·exact .inl (List.eq_nil_of_length_eq_zero z2_)
  ·refine .inr ⟨?_, z2_⟩
   rcases hg.o with a5 | a5
   ·exact a5
   ·omega
structure Ov (c : Nat) (l : List S53) (L : RS) (e0 e1 : En) : Prop where
 iv : Iv (piecesOf c L.want) L e0 e1
 cut : L.cut = (c : Int)
 sent : ∃ n : Nat, L.sent = (n : Int) ∧ n ≤ 20 ∧ L.want.length ≤ n
 few : ∀ s ∈ L.want, cnt s.size c ≤ 64
 back : ∀ s ∈ L.want, ∃ m, m ∈ l ∧ rightB m = true ∧ s = Core.mk (msgL m)
def Gm (k : Nat) (l : List S53) : Prop := ∀ m ∈ l, m.f8.length ≤ 4611686018427387904 ∧ m.f9.length ≤ 4611686018427387904 ∧ (∀ b ∈ m.f8, 0 ≤ b.f1) ∧ 2000 + m.f8.length ≤ k
theorem pieces_app (n : Nat) (ws : List ByteArray) (s : ByteArray) : piecesOf n (ws ++ [s]) = piecesOf n ws ++ piecesS s n (cnt s.size n) (cnt s.size n) := by
 unfold piecesOf
 rw [List.flatMap_append, List.flatMap_singleton]
theorem pieces_len (n : Nat) : ∀ ws : List ByteArray, (∀ s ∈ ws, cnt s.size n ≤ 64) → (piecesOf n ws).length ≤ 64 * ws.length
 | [], _ => by simp [piecesOf]
 | s :: r, h => by
  have h1 := pieces_len n r (fun x hx => h x (List.mem_cons_of_mem _ hx))
  have h2 := h s List.mem_cons_self
  have e : piecesOf n (s :: r) = piecesS s n (cnt s.size n) (cnt s.size n) ++ piecesOf n r := by unfold piecesOf; rw [List.flatMap_cons]
  rw [e, List.length_append, piecesS_length, List.length_cons]
  omega
theorem pieceS_short (s : ByteArray) (n c i : Nat) (hn : n ≤ 508) : (pieceS s n c i).size ≤ 512 := by
 rw [pieceS_size, cutAt_size, Nat.add_mul]
 omega
theorem Ov.np {c : Nat} {l : List S53} {L : RS} {e0 e1 : En} (h : Ov c l L e0 e1) : (piecesOf c L.want).length ≤ 1280 ∧ L.want.length ≤ 20 := by
 have h1 := pieces_len c L.want h.few
 obtain ⟨n, _, h2, h3⟩ := h.sent
 omega
theorem Ov.texts {c : Nat} {l : List S53} {L : RS} {e0 e1 : En} (h : Ov c l L e0 e1) (hc : 1 ≤ c) : ∃ j, j ≤ L.want.length ∧ L.texts = L.want.take j ∧ (e1.w = (piecesOf c L.want).length + 1 → L.texts = L.want) := by
 have hw := h.iv.d0.wl
 obtain ⟨j, h1, h2, h3⟩ := fed_all c hc L.want (fun s hs => by have := h.few s hs; omega) [] (e1.w - 1) z2_
 rw [h.iv.heard] at h2 h3
 refine ⟨j, h1, by simpa using h2, fun hx => ?_⟩
 have := congrArg Seg.Fd.t (h3 z2_)
 simpa using this
theorem Ov.few20 {c : Nat} {l : List S53} {L : RS} {e0 e1 : En} (h : Ov c l L e0 e1) (hc : 1 ≤ c) : L.texts.length ≤ 20 := by
 obtain ⟨j, h1, h2, _⟩ := h.texts hc
 have := h.np.2
 rw [h2, List.length_take]
 omega
theorem Ov.pre {c : Nat} {l : List S53} {L : RS} {e0 e1 : En} (h : Ov c l L e0 e1) (hc : 1 ≤ c) : L.texts <+: L.want := by
 obtain ⟨j, h1, h2, _⟩ := h.texts hc
 rw [h2]
 exact List.take_prefix _ _
theorem Ov.to {c : Nat} {l : List S53} {L M : RS} {e0 e1 a0 a1 : En} (h : Ov c l L e0 e1) (h1 : M.want = L.want) (h2 : M.sent = L.sent) (h3 : M.cut = L.cut) (hi : Iv (piecesOf c L.want) M a0 a1) : Ov c l M a0 a1 := by
 obtain ⟨_, b, d, e, f⟩ := h
 rw [← h1] at hi e f d
 rw [← h2] at d
 exact ⟨hi, h3.trans b, d, e, f⟩
theorem ov_send {k c : Nat} {l : List S53} {L : RS} {e0 e1 : En} (h : Ov c l L e0 e1) (hc : 1 ≤ c) (hc2 : c ≤ 508) (hk : 200000 ≤ k) (hl : Gm k l) (hn : L.net.length ≤ 1000) : ∃ L' e0', L.send k l = some L' ∧ Ov c l L' e0' e1 := by
 unfold RS.send
 obtain ⟨n, n1, n2, n3⟩ := h.sent
 have hwl := h.np
 by_cases c1 : (l.length : Int) ≤ L.sent ∨ 20 ≤ L.sent ∨ 0 < L.x0.f3.length
 ·rw [if_pos c1]; exact ⟨L, e0, rfl, h⟩
 rw [if_neg c1]
 have hx : L.x0.f3 = e0.l := by rw [h.iv.x0]; rfl
 have h0 : e0.l.length = 0 := by rw [hx] at c1; omega
 have hm : rd_T53 l L.sent ∈ l := by
  have hlt : n < l.length := by omega
  have : rd_T53 l L.sent = l[n] := by
   unfold rd_T53
   rw [n1, Int.toNat_natCast, List.getD_eq_getElem?_getD, List.getElem?_eq_getElem hlt]
   rfl
  rw [this]; exact List.getElem_mem hlt
 generalize rd_T53 l L.sent = m at hm
 obtain ⟨m8, m9, mw, mk_⟩ := hl m hm
 have hs1 : Ov c l { L with sent := L.sent + 1 } e0 e1 := by
  refine ⟨⟨h.iv.x0, h.iv.x1, h.iv.d0, h.iv.d1, h.iv.net, h.iv.heard, h.iv.np⟩, h.cut, ⟨n + 1, ?_, z2_, by show L.want.length ≤ n + 1; omega⟩, h.few, h.back⟩
  show L.sent + 1 = ((n + 1 : Nat) : Int)
  omega
 have hcq : ∀ s : ByteArray, s.size ≤ 10000 → seg_Cut.f k s L.cut = some (cutS s (c : Int)) := fun s hs => by rw [h.cut]; exact cut_eq s _ z2_ z2_
 cases hr : rightB m with
 | false =>
  rw [bytes_wrong m hr m8 m9 mk_]
  simp only [Option.bind_some]
  rw [hcq _ z17_]
  simp only [Option.bind_some]
  rw [if_pos (.inl z17_)]
  exact ⟨_, e0, rfl, hs1⟩
 | true =>
  rw [bytes_right m hr m8 m9 mw mk_]
  simp only [Option.bind_some]
  have hz : (mk (msgL m)).size ≤ 6000 := by rw [mk_size]; exact msgL_len m hr
  generalize hs : mk (msgL m) = s at hz
  rw [hcq _ z2_]
  simp only [Option.bind_some]
  have hcn := cnt_le s.size c hc
  have hct : cutS s (c : Int) = (piecesS s c (cnt s.size c) (cnt s.size c), 0) := by
   unfold cutS
   rw [if_neg z2_, Int.toNat_natCast, if_neg z2_]
  rw [hct]
  simp only
  by_cases c6 : 64 < (piecesS s c (cnt s.size c) (cnt s.size c)).length
  ·rw [if_pos (.inr (.inr c6))]
   exact ⟨_, e0, rfl, hs1⟩
  ·rw [if_neg (fun x => by
    rcases x with x | x | x
    ·exact x rfl
    ·exact x rfl
    ·exact c6 x), if_pos z2_]
   have hi : Iv (piecesOf c L.want) { L with sent := L.sent + 1, want := L.want ++ [s] } e0 e1 := ⟨h.iv.x0, h.iv.x1, h.iv.d0, h.iv.d1, h.iv.net, h.iv.heard, h.iv.np⟩
   rw [piecesS_length] at c6
   obtain ⟨L', e0', g1, g2, g3, g4, g5⟩ := Iv.puts hk (piecesS s c (cnt s.size c) (cnt s.size c)) _ _ e0 e1 hi (fun t ht => by
    obtain ⟨i, _, rfl⟩ := List.mem_map.1 ht
    exact pieceS_short _ _ _ _ hc2) (by rw [piecesS_length]; omega) (by rw [piecesS_length]; show L.net.length + _ ≤ _; omega) (by rw [piecesS_length]; omega)
   refine ⟨L', e0', g1, ?_⟩
   rw [← pieces_app] at g2
   refine ⟨by rw [g3]; exact g2, g5.trans h.cut, ⟨n + 1, by rw [g4]; show L.sent + 1 = _; omega, z2_, by rw [g3]; show (L.want ++ [s]).length ≤ _; rw [List.length_append]; simp only [List.length_singleton]; omega⟩, fun t ht => ?_, fun t ht => ?_⟩
   ·rw [g3] at ht
    rcases List.mem_append.1 ht with ht | ht
    ·exact h.few t ht
    ·rw [List.mem_singleton.1 ht]; omega
   ·rw [g3] at ht
    rcases List.mem_append.1 ht with ht | ht
    ·exact h.back t ht
    ·rw [List.mem_singleton.1 ht]
     exact ⟨m, hm, hr, hs.symm⟩
theorem same_reply {L M : RS} (h : Same L M) (t : Int) (s : ByteArray) : (M.reply t s).want = L.want ∧ (M.reply t s).sent = L.sent ∧ (M.reply t s).cut = L.cut := by
 unfold RS.reply
 split
 ·exact ⟨h.want, h.sent, h.cut⟩
 ·exact ⟨h.want, h.sent, h.cut⟩
theorem way_mem (net : List S93) (i : Nat) (hi : i < net.length) : rd_T93 net (i : Int) ∈ net := by
 have : rd_T93 net (i : Int) = net[i] := by
  unfold rd_T93
  rw [Int.toNat_natCast, List.getD_eq_getElem?_getD, List.getElem?_eq_getElem hi]
  rfl
 rw [this]; exact List.getElem_mem hi
theorem place_in (L : RS) (m : Int) (hn : L.net ≠ []) (hl : L.net.length ≤ 1000) : ∃ i : Nat, L.place m = (i : Int) ∧ i < L.net.length := by
 have hp : 0 < L.net.length := List.length_pos_iff.2 hn
 have h0 : 0 ≤ IntKind.u64.wrap m := by rw [IntKind.wrap_u64]; omega
 unfold RS.place
 generalize IntKind.u64.wrap m = x at h0
 have h1 : 0 ≤ x.tmod (L.net.length : Int) := Int.tmod_nonneg _ h0
 have h2 : x.tmod (L.net.length : Int) < (L.net.length : Int) := Int.tmod_lt_of_pos _ z2_
 generalize x.tmod (L.net.length : Int) = y at h1 h2
 rw [wrap64_id z2_ z2_]
 exact ⟨y.toNat, z2_, z2_⟩
theorem ov_come {k c : Nat} {l : List S53} {L : RS} {e0 e1 : En} (h : Ov c l L e0 e1) (hc : 1 ≤ c) (hk : 200000 ≤ k) (hn : L.net.length ≤ 1000) (p : S93) (hp : Good1 (piecesOf c L.want) e0 e1 p) : ∃ L' e0' e1', L.come k p = some L' ∧ Ov c l L' e0' e1' := by
 have ht := h.few20 hc
 rcases hp with ⟨a, b⟩ | ⟨a, b⟩
 ·obtain ⟨M, h1, h2, h3⟩ := h.iv.come1 hk p a b z2_ z2_
  obtain ⟨s1, s2, s3⟩ := same_reply h3 0 (takeS 1 e1.o e1.f e1.l e1.w p.f1).reply
  exact ⟨_, _, _, h1, h.to s1 s2 s3 h2⟩
 ·obtain ⟨M, h1, h2, h3⟩ := h.iv.come0 hk p a b z2_ z2_
  obtain ⟨s1, s2, s3⟩ := same_reply h3 1 (takeS 1 e0.o e0.f e0.l e0.w p.f1).reply
  exact ⟨_, _, _, h1, h.to s1 s2 s3 h2⟩
theorem ov_act {k c : Nat} {l : List S53} {L : RS} {e0 e1 : En} (h : Ov c l L e0 e1) (hc : 1 ≤ c) (hc2 : c ≤ 508) (hk : 200000 ≤ k) (hl : Gm k l) (hn : L.net.length ≤ 1000) (n m : Int) (h0 : 0 ≤ n) (h9 : n ≤ 9) : ∃ L' e0' e1', L.act k l n m = some L' ∧ Ov c l L' e0' e1' := by
 unfold RS.act
 rw [if_neg z2_]
 obtain ⟨q, n1, n2, n3⟩ := h.sent
 by_cases k0 : n = 0
 ·rw [if_pos k0, if_pos z2_]
  obtain ⟨L', e0', h1, h2⟩ := ov_send h hc hc2 hk hl hn
  exact ⟨L', e0', e1, h1, h2⟩
 rw [if_neg k0]
 by_cases k3 : n < 3
 ·rw [if_pos k3, if_pos z2_]
  obtain ⟨h1, h2⟩ := h.iv.tick hk
  exact ⟨_, e0, e1, h1, h.to rfl rfl rfl h2⟩
 rw [if_neg k3]
 by_cases kn : L.net = []
 ·rw [if_pos kn]; exact ⟨L, e0, e1, rfl, h⟩
 rw [if_neg kn]
 obtain ⟨i, hi, hlt⟩ := place_in L m kn hn
 rw [hi, Int.toNat_natCast, if_neg (fun x => x ⟨rfl, hlt, hn⟩)]
 have hg : Ov c l (L.gone i) e0 e1 := h.to rfl rfl rfl (h.iv.gone i)
 by_cases k8 : n = 8
 ·rw [if_pos k8]; exact ⟨_, e0, e1, rfl, hg⟩
 rw [if_neg k8]
 have hp := h.iv.net _ (way_mem L.net i hlt)
 by_cases k9 : n < 9
 ·rw [if_pos k9]
  exact ov_come hg hc hk (by show (L.net.take i ++ L.net.drop (i + 1)).length ≤ 1000; rw [List.length_append, List.length_take, List.length_drop]; omega) _ hp
 ·rw [if_neg k9]
  exact ov_come h hc hk hn _ hp
theorem kind_in (a : S42) : 0 ≤ kindT a ∧ kindT a ≤ 9 := by
 unfold kindT
 have h0 : 0 ≤ IntKind.u64.wrap a.f0 := by rw [IntKind.wrap_u64]; omega
 generalize IntKind.u64.wrap a.f0 = x at h0
 have h1 : 0 ≤ x.tmod 10 := Int.tmod_nonneg _ h0
 have h2 : x.tmod 10 < 10 := Int.tmod_lt_of_pos _ z17_
 generalize x.tmod 10 = y at h1 h2
 rw [wrap64_id z2_ z2_]
 omega
theorem turns_go {k c : Nat} {l : List S53} (hc : 1 ≤ c) (hc2 : c ≤ 508) (hk : 200000 ≤ k) (hl : Gm k l) : ∀ (ts : List S42) (n : Nat) (L : RS) (e0 e1 : En), Ov c l L e0 e1 → ∃ Z e0' e1', goTurns k l ts n L Z ∧ Ov c l Z e0' e1' := by
 intro ts
 induction ts with
 | nil => intro n L e0 e1 h; exact ⟨L, e0, e1, by rw [goTurns], h⟩
 | cons a r ih =>
  intro n L e0 e1 h
  by_cases c1 : n = 0 ∨ 300 ≤ L.net.length
  ·exact ⟨L, e0, e1, by rw [goTurns, if_pos c1], h⟩
  ·obtain ⟨L1, a0, a1, h1, h2⟩ := ov_act h hc hc2 hk hl z2_ (kindT a) a.f1 (kind_in a).1 (kind_in a).2
   obtain ⟨Z, e0', e1', g1, g2⟩ := ih (n - 1) L1 a0 a1 h2
   refine ⟨Z, e0', e1', ?_, g2⟩
   rw [goTurns, if_neg c1]
   exact ⟨L1, h1, h2.pre hc, g1⟩
theorem tickR_pk (o f : Nat) (l : List ByteArray) (w c : Nat) : (tickS 1 o f l w c).map (fun s => (⟨1, s⟩ : S93)) = (tickR true o f l w c).map Rc.pk := by
 unfold tickS tickR
 rw [List.map_map, List.map_map]
 rfl
theorem act3 {k : Nat} {l : List S53} {L : RS} {q : Rc} {qs : List Rc} (hq : L.net = (q :: qs).map Rc.pk) (hl : qs.length ≤ 900) : L.act k l 3 0 = (L.gone 0).come k q.pk := by
 rw [List.map_cons] at hq
 have hp : L.place 0 = ((0 : Nat) : Int) := by
  unfold RS.place
  rw [show IntKind.u64.wrap 0 = 0 by rw [IntKind.wrap_u64]; rfl, Int.zero_tmod, wrap64_id z17_ z17_]
  rfl
 have hr : rd_T93 L.net ((0 : Nat) : Int) = q.pk := by rw [hq]; rfl
 have hlen : L.net.length = qs.length + 1 := by rw [hq, List.length_cons, List.length_map]
 unfold RS.act
 rw [if_neg z17_, if_neg z17_, if_neg z17_, if_neg (by rw [hq]; exact List.cons_ne_nil _ _), hp, Int.toNat_natCast, if_neg (fun x => x ⟨rfl, z2_, z2_⟩), if_neg z17_, if_pos z17_, hr]
def Vals (P : List ByteArray) (e0 e1 : En) (qs : List Rc) : Prop := ∀ q ∈ qs, (q.d = true → Val 1 e0.w P q) ∧ (q.d = false → Val 1 e1.w [] q)
theorem gone0 {L : RS} {p : S93} {r : List S93} (h : L.net = p :: r) : (L.gone 0).net = r := by
 show L.net.take 0 ++ L.net.drop (0 + 1) = r
 rw [h]; rfl
theorem pkd (q : Rc) : (q.d = true → q.pk.f0 = 1) ∧ (q.d = false → q.pk.f0 = 0) ∧ q.pk.f1 = q.text 1 := by
 refine ⟨fun h => ?_, fun h => ?_, rfl⟩
 ·unfold Rc.pk; rw [h]; rfl
 ·unfold Rc.pk; rw [h]; rfl
theorem reply_net {M : RS} {q : Rc} {qs : List Rc} (h : M.net = qs.map Rc.pk) {e : En} {t : Int} {s : ByteArray} (ht : t = if q.d = true then 0 else 1) (hs : s = if q.one = true then packetS 2 1 1 0 (recv 1 1 e q).w (mk []) else mk []) : (M.reply t s).net = (qs ++ reply 1 1 e q).map Rc.pk := by
 unfold RS.reply reply
 cases ho : q.one with
 | true =>
  rw [ho, if_pos rfl] at hs
  rw [if_neg (by rw [hs]; exact pack2_some _ _ _), if_pos rfl, List.map_append, hs]
  show M.net ++ _ = _
  rw [h, ht]
  cases q.d <;> rfl
 | false =>
  rw [ho, if_neg z17_] at hs
  rw [if_pos (show s = (⟨#[]⟩ : ByteArray) from hs), if_neg z17_, List.append_nil]
  exact h
theorem step1 {k c : Nat} {l : List S53} {L : RS} {e0 e1 : En} {q : Rc} {qs : List Rc} (h : Ov c l L e0 e1) (hc : 1 ≤ c) (hk : 200000 ≤ k) (hq : L.net = (q :: qs).map Rc.pk) (hl : qs.length ≤ 900) (hd : q.d = true) (hv : Val 1 e0.w (piecesOf c L.want) q) :
  ∃ L', L.act k l 3 0 = some L' ∧ Ov c l L' e0 (recv 1 1 e1 q) ∧ L'.want = L.want ∧ L'.net = (qs ++ reply 1 1 e1 q).map Rc.pk := by
 have hw0 := h.iv.d1.wl
 have hnp := h.np
 have ht := h.few20 hc
 obtain ⟨p1, _, p3⟩ := pkd q
 obtain ⟨t1, t2⟩ := take_rc h.iv.d0 hv z17_ z17_ z17_ (by simp only [List.length_nil] at hw0; omega) z2_
 have hg : Ov c l (L.gone 0) e0 e1 := h.to rfl rfl rfl (h.iv.gone 0)
 rw [List.map_cons] at hq
 have hn := gone0 hq
 obtain ⟨M, h1, h2, h3⟩ := hg.iv.come1 hk q.pk (p1 hd) (by rw [p3]; exact hv.good) (by show L.texts.length ≤ 1000; omega) (by rw [hn, List.length_map]; omega)
 rw [p3, t1] at h2
 rw [p3] at h1
 obtain ⟨s1, s2, s3⟩ := same_reply h3 0 (takeS 1 e1.o e1.f e1.l e1.w (q.text 1)).reply
 refine ⟨_, ?_, hg.to s1 s2 s3 h2, s1, reply_net (h3.net.trans hn) (by rw [hd]; rfl) t2⟩
 rw [act3 (by rw [List.map_cons]; exact hq) hl]
 exact h1
theorem step0 {k c : Nat} {l : List S53} {L : RS} {e0 e1 : En} {q : Rc} {qs : List Rc} (h : Ov c l L e0 e1) (hc : 1 ≤ c) (hk : 200000 ≤ k) (hq : L.net = (q :: qs).map Rc.pk) (hl : qs.length ≤ 900) (hd : q.d = false) (hv : Val 1 e1.w [] q) :
  ∃ L', L.act k l 3 0 = some L' ∧ Ov c l L' (recv 1 1 e0 q) e1 ∧ L'.want = L.want ∧ L'.net = (qs ++ reply 1 1 e0 q).map Rc.pk := by
 have hw0 := h.iv.d0.wl
 have hnp := h.np
 have ht := h.few20 hc
 obtain ⟨_, p1, p3⟩ := pkd q
 obtain ⟨t1, t2⟩ := take_rc h.iv.d1 hv z17_ z17_ z17_ z2_ z17_
 have hg : Ov c l (L.gone 0) e0 e1 := h.to rfl rfl rfl (h.iv.gone 0)
 rw [List.map_cons] at hq
 have hn := gone0 hq
 obtain ⟨M, h1, h2, h3⟩ := hg.iv.come0 hk q.pk (p1 hd) (by rw [p3]; exact hv.good) (by show L.texts.length ≤ 1000; omega) (by rw [hn, List.length_map]; omega)
 rw [p3, t1] at h2
 rw [p3] at h1
 obtain ⟨s1, s2, s3⟩ := same_reply h3 1 (takeS 1 e0.o e0.f e0.l e0.w (q.text 1)).reply
 refine ⟨_, ?_, hg.to s1 s2 s3 h2, s1, reply_net (h3.net.trans hn) (by rw [hd]; rfl) t2⟩
 rw [act3 (by rw [List.map_cons]; exact hq) hl]
 exact h1
theorem flow_run {k c : Nat} {l : List S53} (hc : 1 ≤ c) (hk : 200000 ≤ k) {F0 c0 : Nat} {kn0 : Prop} : ∀ (n : Nat) (L : RS) (e0 e1 : En) (qs : List Rc), Ov c l L e0 e1 → L.net = qs.map Rc.pk → Vals (piecesOf c L.want) e0 e1 qs → wt qs < n → wt qs ≤ 150 →
  Pr true 1 F0 c0 kn0 e0 e1 qs → ∃ L' e0' e1', flowT k l n L = some L' ∧ Ov c l L' e0' e1' ∧ L'.want = L.want ∧ Pr true 1 F0 c0 kn0 e0' e1' [] := by
 intro n
 induction n with
 | zero => intro L e0 e1 qs _ _ _ hw; omega
 | succ n ih =>
  intro L e0 e1 qs h hq hv hw hw2 hA
  rw [flowT]
  cases qs with
  | nil =>
   rw [if_pos (show L.net = [] from hq)]
   exact ⟨L, e0, e1, rfl, h, rfl, hA⟩
  | cons q qs =>
   have hwt : wt (q :: qs) = (if q.one = true then 2 else 1) + wt qs := by simp [wt]
   have hln := wt_len qs
   have hpos : 1 ≤ (if q.one = true then 2 else 1) := by split <;> omega
   have hmem := hv q List.mem_cons_self
   rw [if_neg (by rw [hq]; exact List.cons_ne_nil _ _)]
   cases hd : q.d with
   | true =>
    obtain ⟨L1, h1, h2, h3, h5⟩ := step1 h hc hk hq z2_ hd (hmem.1 hd)
    have hwr := wt_reply 1 1 e1 q
    rw [h1]
    simp only [Option.bind_some]
    have hV : Vals (piecesOf c L1.want) e0 (recv 1 1 e1 q) (qs ++ reply 1 1 e1 q) := fun x hx => by
     rw [h3]
     rcases List.mem_append.1 hx with hx | hx
     ·exact ⟨(hv x (List.mem_cons_of_mem _ hx)).1, fun c => ((hv x (List.mem_cons_of_mem _ hx)).2 c).le (recv_w _ _ _ _)⟩
     ·obtain ⟨y1, y2⟩ := reply_val (ps := []) h.iv.w1 hx
      exact ⟨(fun c => by rw [y1, hd] at c; cases c), fun _ => y2⟩
    obtain ⟨L', e0', e1', g1, g2, g3, g5⟩ := ih L1 e0 (recv 1 1 e1 q) (qs ++ reply 1 1 e1 q) h2 h5 hV z186_ z186_ (hA.toR hd)
    exact ⟨L', e0', e1', g1, g2, g3.trans h3, g5⟩
   | false =>
    obtain ⟨L1, h1, h2, h3, h5⟩ := step0 h hc hk hq z2_ hd (hmem.2 hd)
    have hwr := wt_reply 1 1 e0 q
    have hno : q.one = false → q.o = 1 := fun ho => ((hmem.2 hd).no ho).2.2
    have hqw : q.w ≤ e0.f + e0.l.length := by rw [h.iv.d0.rest]; exact Nat.le_trans (hmem.2 hd).w2 h.iv.d0.wl
    rw [h1]
    simp only [Option.bind_some]
    have hV : Vals (piecesOf c L1.want) (recv 1 1 e0 q) e1 (qs ++ reply 1 1 e0 q) := fun x hx => by
     rw [h3]
     rcases List.mem_append.1 hx with hx | hx
     ·exact ⟨fun c => ((hv x (List.mem_cons_of_mem _ hx)).1 c).le (recv_w _ _ _ _), (hv x (List.mem_cons_of_mem _ hx)).2⟩
     ·obtain ⟨y1, y2⟩ := reply_val (ps := piecesOf c L.want) h.iv.w0 hx
      exact ⟨fun _ => y2, (fun c => by rw [y1, hd] at c; cases c)⟩
    obtain ⟨L', e0', e1', g1, g2, g3, g5⟩ := ih L1 (recv 1 1 e0 q) e1 (qs ++ reply 1 1 e0 q) h2 h5 hV z186_ z186_ (hA.toS hd hno hqw)
    exact ⟨L', e0', e1', g1, g2, g3.trans h3, g5⟩
theorem round_run {k c : Nat} {l : List S53} (hc : 1 ≤ c) (hk : 200000 ≤ k) {L : RS} {e0 e1 : En} (h : Ov c l L e0 e1) {n : Nat} (hn : 10 ≤ n) : ∃ L' e0' e1', (RS.act k l 1 0 { L with net := [] }).bind (flowT k l n) = some L' ∧ Ov c l L' e0' e1' ∧ L'.want = L.want ∧ Goes 1 e0 e0' := by
 have hE : Ov c l { L with net := [] } e0 e1 := h.to rfl rfl rfl (h.iv.setNet [] (fun p hp => by cases hp))
 have v0 : ∀ q ∈ tickR true e0.o e0.f e0.l e0.w (min e0.l.length 4), q.d = true ∧ q.one = true ∧ q.o = e0.o ∧ Val 1 e0.w (piecesOf c L.want) q := fun q hq => tickR_val h.iv.d0 h.iv.d1.o h.iv.w0 hq
 have hP0 := Pr.start (er := 1) (d := true) h.iv.d0 0 0 [] 0 0 _ (.inl rfl)
 rw [show tickR (!true) 0 0 [] 0 0 = [] from rfl, List.append_nil] at hP0
 obtain ⟨t1, t2⟩ := hE.iv.tick hk
 have ha : RS.act k l 1 0 { L with net := [] } = some (RS.outs { L with net := [] } (tickS 1 e0.o e0.f e0.l e0.w (min e0.l.length 4))) := by
  unfold RS.act
  rw [if_neg z17_, if_neg z17_, if_pos z17_, if_pos (by exact Nat.zero_le _)]
  exact t1
 have hnet : (RS.outs { L with net := [] } (tickS 1 e0.o e0.f e0.l e0.w (min e0.l.length 4))).net = (tickR true e0.o e0.f e0.l e0.w (min e0.l.length 4)).map Rc.pk := by
  rw [← tickR_pk]
  rfl
 have hwt := tickR_wt true e0.o e0.f e0.l e0.w (min e0.l.length 4)
 obtain ⟨L', e0', e1', g1, g2, g3, g5⟩ := flow_run hc hk n (RS.outs { L with net := [] } (tickS 1 e0.o e0.f e0.l e0.w (min e0.l.length 4))) e0 e1 _ (hE.to rfl rfl rfl t2) hnet (fun q hq => by
  obtain ⟨a1, _, _, a4⟩ := v0 q hq
  exact ⟨fun _ => a4, (fun c => by rw [a1] at c; cases c)⟩) z2_ z2_ hP0
 obtain ⟨d1, d2, d3⟩ := g5.done
 refine ⟨L', e0', e1', ?_, g2, g3, ⟨d1, d2, d3⟩⟩
 rw [ha]
 exact g1
theorem rounds_succ {k : Nat} {l : List S53} {m : Nat} (hm : m = 20) (n : Nat) (L : RS) : roundsT k l (n + 1) L = ((RS.act k l 1 0 { L with net := [] }).bind (flowT k l m)).bind (roundsT k l n) := by
 subst hm
 rw [roundsT]
theorem rounds_run {k c : Nat} {l : List S53} (hc : 1 ≤ c) (hk : 200000 ≤ k) {q : Nat} (hq : q = 20) : ∀ (n m : Nat) (L : RS) (e0 e1 : En), Ov c l L e0 e1 → Less m 1 e0 → ∃ L' e0' e1', roundsT k l n L = some L' ∧ Ov c l L' e0' e1' ∧ Less (m + n) 1 e0' := by
 intro n
 induction n with
 | zero => intro m L e0 e1 h h0; exact ⟨L, e0, e1, rfl, h, h0⟩
 | succ n ih =>
  intro m L e0 e1 h h0
  obtain ⟨L1, a0, a1, g1, g2, g3, g5⟩ := round_run hc hk h (n := q) z2_
  have d0 := g2.iv.d0
  rw [g3] at d0
  obtain ⟨L', e0', e1', j1, j2, j3⟩ := ih (m + 1) L1 a0 a1 g2 (less_next h.iv.d0 d0 g5 h0)
  refine ⟨L', e0', e1', ?_, j2, ?_⟩
  ·rw [rounds_succ hq, g1]; exact j1
  ·rwa [show m + (n + 1) = m + 1 + n from z2_]
theorem all_run {k c : Nat} {l : List S53} (hc : 1 ≤ c) (hk : 200000 ≤ k) {q : Nat} (hq : q = 20) {n : Nat} (hn : 16 ≤ n) {L : RS} {e0 e1 : En} (h : Ov c l L e0 e1) : ∃ L' e0' e1', roundsT k l (n + 1) L = some L' ∧ Ov c l L' e0' e1' ∧ L'.texts = L'.want := by
 obtain ⟨L1, a0, a1, g1, g2, g3, g5⟩ := round_run hc hk h (n := q) z2_
 have d0 := g2.iv.d0
 rw [g3] at d0
 obtain ⟨L', e0', e1', j1, j2, j3⟩ := rounds_run (k := k) hc hk hq n 0 L1 a0 a1 g2 (less_first h.iv.d0 d0 g5)
 have l0 : e0'.l = [] := by rcases j3 with j3 | ⟨_, j3⟩; exact j3; exact List.eq_nil_of_length_eq_zero z2_
 have b1 := j2.iv.d0.rest
 have b2 := j2.iv.d0.fw
 have b3 := j2.iv.d0.wl
 rw [l0, List.length_nil] at b1
 obtain ⟨j, _, _, t3⟩ := j2.texts hc
 exact ⟨L', e0', e1', by rw [rounds_succ hq, g1]; exact j1, j2, t3 z2_⟩
theorem cut_in (c : Int) : ∃ n : Nat, cutT c = (n : Int) ∧ 1 ≤ n ∧ n ≤ 508 := by
 unfold cutT
 have h0 : 0 ≤ IntKind.u64.wrap c := by rw [IntKind.wrap_u64]; omega
 generalize IntKind.u64.wrap c = x at h0
 have h1 : 0 ≤ x.tmod 508 := Int.tmod_nonneg _ h0
 have h2 : x.tmod 508 < 508 := Int.tmod_lt_of_pos _ z17_
 generalize x.tmod 508 = y at h1 h2
 rw [wrap64_id (n := y) z2_ z2_, wrap64_id z2_ z2_]
 exact ⟨(1 + y).toNat, z2_, z2_, z2_⟩
theorem ov_init (c : Nat) (a : Int) (hc : cutT a = (c : Int)) (l : List S53) : Ov c l (RS.init a) ⟨0, 1, [], 1⟩ ⟨0, 1, [], 1⟩ := by
 have d : Dir 1 ⟨0, 1, [], 1⟩ ⟨0, 1, [], 1⟩ [] [] := ⟨.inl rfl, fun _ => rfl, z17_, z17_, z17_, rfl, rfl, z17_, (fun _ h => by cases h)⟩
 exact ⟨⟨rfl, rfl, d, d, (fun _ h => by cases h), rfl, Nat.zero_le _⟩, hc, ⟨0, rfl, z17_, Nat.zero_le _⟩, (fun _ h => by cases h), (fun _ h => by cases h)⟩
theorem back_all {k c : Nat} {l : List S53} {L : RS} {e0 e1 : En} (h : Ov c l L e0 e1) (hl : Gm k l) : ∀ s ∈ L.want, backT k s := fun s hs => by
 obtain ⟨m, hm, hr, rfl⟩ := h.back s hs
 obtain ⟨m8, m9, mw, mk_⟩ := hl m hm
 exact ⟨m, parse_eq m hr m8 m9 mw mk_, bytes_right m hr m8 m9 mw mk_⟩
def m9 : S53 := ⟨9, 2, [], 0, 0, 0, false, ⟨[], 0⟩, [], [], ⟨0, 0, []⟩⟩
theorem speaks_eq {k : Nat} (hk : 200000 ≤ k) : ∃ s q p m, Speaks k s q p m := by
 have hr : rightB m9 = true := by rfl
 have hb := bytes_right m9 hr z17_ z17_ (fun b hb => by cases hb) (k := k) (by show 2000 + 0 ≤ k; omega)
 have hp := parse_eq m9 hr z17_ z17_ (fun b hb => by cases hb) (k := k) (by show 2000 + 0 ≤ k; omega)
 have hz : (mk (msgL m9)).size = 64 := by rw [mk_size]; rfl
 generalize mk (msgL m9) = s at hb hp hz
 have hc : cnt s.size 508 = 1 := by rw [hz]; rfl
 have hcut : seg_Cut.f k s 508 = some ([pieceS s 508 1 0], 0) := by
  rw [cut_eq s 508 z2_ z2_]
  unfold cutS
  rw [if_neg z17_, show (508 : Int).toNat = 508 from rfl, hc, if_neg z17_]
  rfl
 have hput : link_Put.f k 1 0 1 [] 1 s = some (1, 0, 1, [s], 1, packetS 1 1 0 1 1 s, 0) := by
  have hrt : rightS ((1 : Nat) : Int) ((0 : Nat) : Int) ((1 : Nat) : Int) [] ((1 : Nat) : Int) = true := by
   unfold rightS
   exact decide_eq_true ⟨z2_, z2_, z2_, z2_, z17_, (fun t ht => by cases ht)⟩
  have := put_good 1 0 1 [] 1 s (k := k) z2_ hrt
  rw [show link_Put.f k 1 0 1 [] 1 s = link_Put.f k ((1 : Nat) : Int) ((0 : Nat) : Int) ((1 : Nat) : Int) [] ((1 : Nat) : Int) s from rfl, this]
  unfold putL
  rw [if_neg z2_, if_neg (by simp)]
  rfl
 exact ⟨s, _, _, m9, ⟨hb, hcut, hput, by rw [packetS_size 1 0 1 1 s z2_]; omega, z2_, hp, rfl⟩⟩
theorem carried_all (k : Nat) (hk : 200000 ≤ k) (l : List S53) (hl : Gm k l) (a : Int) (ts : List S42) {n : Nat} (hn : n + 1 = 40) (h16 : 16 ≤ n) (hm : ∀ Z Y, roundsT k l (n + 1) Z = some Y → roundsT k l 40 Z = some Y) : carried k l a ts := by
 obtain ⟨c, hc, hc1, hc2⟩ := cut_in a
 obtain ⟨Z, e0, e1, h1, h2⟩ := turns_go hc1 hc2 hk hl ts 150 _ _ _ (ov_init c a hc l)
 obtain ⟨Y, a0, a1, g1, g2, g3⟩ := all_run hc1 hk rfl h16 h2
 exact ⟨Z, Y, h1, hm _ _ g1, g3, back_all g2 hl, speaks_eq hk⟩
end Go.Proofs.Ytecfndblgefhdaa.Link
namespace Go.Proofs.Ytecfndblgefhdaa.Pure
open Go.RowKit Go.Proofs.Ytecfndblgefhdaa.P Go.Proofs.Ytecfndblgefhdaa.Core Go.Proofs.Ytecfndblgefhdaa.Oct Go.Proofs.Ytecfndblgefhdaa.Link Go.Proofs.YtecfndblgefhdaaW.PrintWords Go.Proofs.YtecfndblgefhdaaW.PrintLast Go.Proofs.YtecfndblgefhdaaW.PrintMore
theorem le_sum {α : Type} (f : α → Nat) : ∀ (l : List α) (x : α), x ∈ l → f x ≤ (l.map f).sum
 | [], x, h => by cases h
 | a :: r, x, h => by
  rw [List.map_cons, List.sum_cons]
  rcases List.mem_cons.1 h with rfl | h
  ·omega
  ·have := le_sum f r x h; omega
theorem u64_pos {n : Int} (h : (Lit.int .u64 n).wf = true) : 0 ≤ n := by
 have e0 : IntKind.u64.min = 0 := by decide
 simp [Lit.wf, e0] at h
 exact h.1
theorem TopCarried (l0 : List S53) (a1 : Int) (l2 : List S42) (g0 : (l0.length * 192 ≤ 140737488351232 ∧ l0.length ≤ 9223372036854775807 ∧ ∀ y0 ∈ l0, ((Lit.int .i64 y0.f0).wf = true ∧ (Lit.int .i64 y0.f1).wf = true ∧ (y0.f2.length * 16 ≤ 140737488351232 ∧ y0.f2.length ≤ 9223372036854775807 ∧ ∀ y1 ∈ y0.f2, ((Lit.int .i64 y1.f0).wf = true ∧ (Lit.int .i64 y1.f1).wf = true)) ∧ (Lit.int .i64 y0.f3).wf = true ∧ (Lit.int .i64 y0.f4).wf = true ∧ (Lit.int .i64 y0.f5).wf = true ∧ True ∧ ((y0.f7.f0.length * 16 ≤ 140737488351232 ∧ y0.f7.f0.length ≤ 9223372036854775807 ∧ ∀ y1 ∈ y0.f7.f0, ((Lit.int .i64 y1.f0).wf = true ∧ (Lit.int .i64 y1.f1).wf = true)) ∧ (Lit.int .i64 y0.f7.f1).wf = true) ∧ (y0.f8.length * 16 ≤ 140737488351232 ∧ y0.f8.length ≤ 9223372036854775807 ∧ ∀ y1 ∈ y0.f8, ((Lit.int .i64 y1.f0).wf = true ∧ (Lit.int .u64 y1.f1).wf = true)) ∧ (y0.f9.length * 8 ≤ 140737488351232 ∧ y0.f9.length ≤ 9223372036854775807 ∧ ∀ y1 ∈ y0.f9, (Lit.int .i64 y1).wf = true) ∧ ((Lit.int .i64 y0.f10.f0).wf = true ∧ (Lit.int .i64 y0.f10.f1).wf = true ∧ (y0.f10.f2.length * 32 ≤ 140737488351232 ∧ y0.f10.f2.length ≤ 9223372036854775807 ∧ ∀ y1 ∈ y0.f10.f2, ((Lit.int .i64 y1.f0).wf = true ∧ (Lit.int .i64 y1.f1).wf = true ∧ y1.f2.size ≤ 140737488351232))))))
  (w1 : (Lit.int .i64 a1).wf = true) (g2 : (l2.length * 16 ≤ 140737488351232 ∧ l2.length ≤ 9223372036854775807 ∧ ∀ y0 ∈ l2, ((Lit.int .i64 y0.f0).wf = true ∧ (Lit.int .i64 y0.f1).wf = true))) : ∃ k, counterfoiltop_TopCarried.f k l0 a1 l2 = some true := by
 refine ⟨300000 + (l0.map fun m => m.f8.length).sum, ?_⟩
 have hg : Gm (300000 + (l0.map fun m => m.f8.length).sum) l0 := fun m hm => by
  obtain ⟨_, _, _, _, _, _, _, _, ⟨h8, _, h8m⟩, ⟨h9, _, _⟩, _⟩ := g0.2.2 m hm
  have := le_sum (fun m : S53 => m.f8.length) l0 m hm
  exact ⟨z2_, z2_, fun b hb => u64_pos (h8m b hb).2, z2_⟩
 obtain ⟨n, hn⟩ : ∃ n, n + 1 = 40 := ⟨39, rfl⟩
 have hc := carried_all (300000 + (l0.map fun m => m.f8.length).sum) z2_ l0 hg a1 l2 hn z2_ (fun Z Y h => by rw [hn] at h; exact h)
 unfold counterfoiltop_TopCarried.f
 rw [if_pos hc]
end Go.Proofs.Ytecfndblgefhdaa.Pure
