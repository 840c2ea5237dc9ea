import Derived.Test.YtecfndblgefhdaaKcSeg
set_option linter.unusedVariables false
set_option linter.unusedSimpArgs false
namespace Go.Proofs.Ytecfndblgefhdaa.Dirty
open Go.RowKit Go.Proofs.Ytecfndblgefhdaa.P Go.Proofs.YtecfndblgefhdaaW.PrintWords Go.Proofs.YtecfndblgefhdaaW.PrintLast Go.Proofs.YtecfndblgefhdaaW.PrintMore
theorem w64 {n : Int} (h0 : -9223372036854775808 ≤ n) (h1 : n ≤ 9223372036854775807) : wrap64 n = n := by unfold wrap64; omega
theorem rd63 (m : List S166) (i : Nat) (h : i < m.length) : rd_T166 m (i : Int) = m[i] := by
 unfold rd_T166
 rw [Int.toNat_natCast, List.getD_eq_getElem?_getD, List.getElem?_eq_getElem h]
 rfl
def rgt : Int → List S166 → Bool
 | _, [] => true
 | last, b :: l => decide (last < b.f0 ∧ b.f0 ≤ 255 ∧ b.f1 ≠ 0 ∧ b.f1 < 4294967296) && rgt b.f0 l
theorem right_l0 (m : List S166) (hm : m.length ≤ 4611686018427387904) (d : Nat) : ∀ (i k : Nat) (last : Int), i + d = m.length → d < k → dirty_Right.l0 k last m (m.length : Int) (i : Int) = some (rgt last (m.drop i)) := by
 induction d with
 | zero =>
  intro i k last hi hk
  obtain ⟨k, rfl⟩ : ∃ j, k = j + 1 := ⟨k - 1, z2_⟩
  rw [dirty_Right.l0, if_neg z2_, List.drop_eq_nil_of_le z2_]
  rfl
 | succ d ih =>
  intro i k last hi hk
  obtain ⟨k, rfl⟩ : ∃ j, k = j + 1 := ⟨k - 1, z2_⟩
  have hl : i < m.length := by omega
  rw [dirty_Right.l0, if_pos z2_, if_pos z2_, if_pos z2_, rd63 m i hl, List.drop_eq_getElem_cons hl, w64 z2_ z2_, show (i : Int) + 1 = ((i + 1 : Nat) : Int) from z2_, ih (i + 1) k _ z2_ z2_]
  rw [rgt]
  generalize m[i] = b
  by_cases h1 : b.f0 ≤ last
  ·rw [if_pos h1, decide_eq_false z2_]; rfl
  ·rw [if_neg h1]
   by_cases h2 : b.f0 > 255
   ·rw [if_pos h2, decide_eq_false z2_]; rfl
   ·rw [if_neg h2]
    by_cases h3 : b.f1 = 0
    ·rw [if_pos h3, decide_eq_false (fun h => h.2.2.1 h3)]; rfl
    ·rw [if_neg h3]
     by_cases h4 : b.f1 ≥ 4294967296
     ·rw [if_pos h4, decide_eq_false z2_]; rfl
     ·rw [if_neg h4, decide_eq_true z2_, Bool.true_and]
theorem right_eq (m : List S166) (hm : m.length ≤ 4611686018427387904) {k : Nat} (hk : m.length < k) : dirty_Right.f k m = some (rgt 0 m) := by
 have := right_l0 m hm m.length 0 k 0 z2_ hk
 rw [List.drop_zero] at this
 exact this
theorem rgt_mem {m : List S166} {last : Int} (h : rgt last m = true) (hl : 0 ≤ last) : ∀ b ∈ m, last < b.f0 ∧ b.f0 ≤ 255 ∧ b.f1 ≠ 0 ∧ b.f1 < 4294967296 := by
 induction m generalizing last with
 | nil => intro b hb; cases hb
 | cons c m ih =>
  rw [rgt, Bool.and_eq_true, decide_eq_true_eq] at h
  intro b hb
  rcases List.mem_cons.1 hb with rfl | hb
  ·exact h.1
  ·have := ih h.2 z2_ b hb
   exact ⟨z2_, this.2⟩
end Go.Proofs.Ytecfndblgefhdaa.Dirty
namespace Go.Proofs.Ytecfndblgefhdaa.Msg
open Go.RowKit Go.Proofs.Ytecfndblgefhdaa.P Go.Proofs.Ytecfndblgefhdaa.Core Go.Proofs.Ytecfndblgefhdaa.Oct Go.Proofs.YtecfndblgefhdaaW.PrintWords Go.Proofs.YtecfndblgefhdaaW.PrintLast Go.Proofs.YtecfndblgefhdaaW.PrintMore
theorem rdV (l : List S137) (i : Nat) (h : i < l.length) : rd_T137 l (i : Int) = l[i] := by
 unfold rd_T137
 rw [Int.toNat_natCast, List.getD_eq_getElem?_getD, List.getElem?_eq_getElem h]
 rfl
theorem size_eq (n : Int) : vols_size.f n = some (decide (1 ≤ n ∧ n ≤ 32)) := by
 unfold vols_size.f
 by_cases h : n ≥ 1
 ·rw [if_pos h]; exact congrArg some (decide_eq_decide.2 z2_)
 ·rw [if_neg h, decide_eq_false z2_]
theorem short_idx (l : List ByteArray) (h : ∀ s ∈ l, s = (⟨#[]⟩ : ByteArray)) : ∀ i : Int, 0 ≤ i → slices_IndexFunc_string_string.idx (fun s => vols_Right_1.f s) l i = some (-1) := by
 induction l with
 | nil => intro i hi; rfl
 | cons a r ih =>
  intro i hi
  have e : vols_Right_1.f a = some false := by rw [h a List.mem_cons_self]; rfl
  rw [slices_IndexFunc_string_string.idx]
  simp only [e, Option.bind_some]
  rw [if_neg z17_]
  exact ih (fun s hs => h s (List.mem_cons_of_mem _ hs)) (i + 1) z2_
theorem short_eq (l : List ByteArray) (h : ∀ s ∈ l, s = (⟨#[]⟩ : ByteArray)) : slices_ContainsFunc_string_string.f l 84 = some false := by
 unfold slices_ContainsFunc_string_string.f slices_IndexFunc_string_string.f
 rw [if_neg z17_, if_pos rfl, short_idx l h 0 z2_]
 rfl
def vrun : Int → List S137 → Bool
 | _, [] => true
 | a, v :: r => decide (a < v.f0 ∧ v.f0 ≤ 255 ∧ 1 ≤ v.f1.length ∧ v.f1.length ≤ 32) && vrun v.f0 r
theorem vright_l0 (l : List S137) (hl : l.length ≤ 4) (he : ∀ v ∈ l, ∀ s ∈ v.f1, s = (⟨#[]⟩ : ByteArray)) (d : Nat) : ∀ (i k : Nat) (a : Int), i + d = l.length → 2 * d < k → vols_Right.l0 k l a l (l.length : Int) (i : Int) = some (vrun a (l.drop i)) := by
 induction d with
 | zero =>
  intro i k a hi hk
  obtain ⟨k, rfl⟩ : ∃ j, k = j + 1 := ⟨k - 1, z2_⟩
  rw [vols_Right.l0, if_neg z2_, List.drop_eq_nil_of_le z2_, decide_eq_true z2_]
  rfl
 | succ d ih =>
  intro i k a hi hk
  obtain ⟨k, rfl⟩ : ∃ j, k = j + 2 := ⟨k - 2, z2_⟩
  have hl2 : i < l.length := by omega
  rw [vols_Right.l0, if_pos z2_, if_pos z2_, if_pos z2_, rdV l i hl2, List.drop_eq_getElem_cons hl2, vrun]
  by_cases c1 : (l[i]).f0 ≤ a
  ·rw [if_pos c1, vols_Right.j1, if_pos rfl, decide_eq_false z2_]; rfl
  rw [if_neg c1]
  by_cases c2 : (l[i]).f0 > 255
  ·rw [if_pos c2, vols_Right.j1, if_pos rfl, decide_eq_false z2_]; rfl
  rw [if_neg c2, size_eq]
  simp only [Option.bind_some]
  by_cases c3 : 1 ≤ ((l[i]).f1.length : Int) ∧ ((l[i]).f1.length : Int) ≤ 32
  ·rw [decide_eq_true c3, vols_Right.j1, if_neg z17_, short_eq _ (he _ (List.getElem_mem hl2))]
   simp only [Option.bind_some]
   rw [if_neg z17_, w64 z2_ z2_, show ((i : Int) + 1) = ((i + 1 : Nat) : Int) from z2_, decide_eq_true z2_, Bool.true_and]
   exact ih (i + 1) k _ z2_ z2_
  ·rw [decide_eq_false c3, vols_Right.j1, if_pos z17_, decide_eq_false z2_]; rfl
def volsL : List Int → Option (List S137)
 | i :: n :: r => if 1 ≤ n ∧ n ≤ 32 then (volsL r).map fun l => ⟨i, List.replicate n.toNat (⟨#[]⟩ : ByteArray)⟩ :: l else none
 | _ => some []
theorem blank_l0 (x : List Int) (hx : x.length ≤ 8) (h2 : x.length % 2 = 0) (d : Nat) : ∀ (i k : Nat) (acc : List S137), i + 2 * d = x.length → acc.length = i / 2 → (∀ v ∈ acc, ∀ s ∈ v.f1, s = (⟨#[]⟩ : ByteArray)) → d + 30 < k →
  vols_Blank.l0 k x acc (i : Int) = some (match volsL (x.drop i) with | some l => if vrun 0 (acc ++ l) = true then (acc ++ l, 0) else ([], 1) | none => ([], 1)) := by
 induction d with
 | zero =>
  intro i k acc hi ha he hk
  obtain ⟨k, rfl⟩ : ∃ j, k = j + 1 := ⟨k - 1, z2_⟩
  rw [vols_Blank.l0, if_neg z2_, List.drop_eq_nil_of_le z2_]
  unfold vols_Right.f
  have h0 := vright_l0 acc z2_ he acc.length 0 k 0 z2_ z2_
  rw [Int.ofNat_zero, List.drop_zero] at h0
  rw [h0]
  simp only [Option.bind_some, volsL, List.append_nil]
  cases vrun 0 acc with
  | true => rw [if_pos rfl, if_pos rfl]
  | false => rw [if_neg z17_, if_neg z17_]
 | succ d ih =>
  intro i k acc hi ha he hk
  obtain ⟨k, rfl⟩ : ∃ j, k = j + 1 := ⟨k - 1, z2_⟩
  have l1 : i < x.length := by omega
  have l2 : i + 1 < x.length := by omega
  rw [vols_Blank.l0, if_pos z2_, w64 z2_ z2_, if_pos z2_, if_pos z2_, show ((i : Int) + 1) = ((i + 1 : Nat) : Int) from z2_, rdI x (i + 1) l2, rdI x i l1, size_eq]
  simp only [Option.bind_some]
  rw [List.drop_eq_getElem_cons l1, List.drop_eq_getElem_cons l2, volsL]
  by_cases c : 1 ≤ x[i + 1] ∧ x[i + 1] ≤ 32
  ·rw [decide_eq_true c, if_pos rfl, if_pos z2_, if_pos z2_, if_pos z2_, if_pos z2_, if_pos c, w64 z2_ z2_, show ((i : Int) + 2) = ((i + 2 : Nat) : Int) from z2_]
   rw [ih (i + 2) k _ z2_ (by rw [List.length_append, ha]; show i / 2 + 1 = _; omega) (fun v hv s hs => ?_) z2_]
   ·cases volsL (x.drop (i + 1 + 1)) with
    | none => rfl
    | some l =>
     simp only [Option.map_some, List.append_assoc, List.singleton_append]
   ·rcases List.mem_append.1 hv with hv | hv
    ·exact he v hv s hs
    ·rw [List.mem_singleton] at hv
     subst hv
     exact (List.mem_replicate.1 hs).2
  ·rw [decide_eq_false c, if_neg z17_, if_neg c]
def blankB (x : List Int) : Bool := decide (x.length % 2 = 0 ∧ x.length ≤ 8) && (match volsL x with | some l => vrun 0 l | none => false)
theorem blank_eq (x : List Int) (hx : x.length ≤ 4611686018427387904) {k : Nat} (hk : 50 ≤ k) : ∃ l, vols_Blank.f k x = some (l, if blankB x = true then 0 else 1) := by
 obtain ⟨k, rfl⟩ : ∃ j, k = j + 1 := ⟨k - 1, z2_⟩
 unfold vols_Blank.f blankB
 by_cases c1 : ((x.length : Int) % 2) = 0
 ·rw [if_pos c1, vols_Blank.j0]
  by_cases c2 : (x.length : Int) > 8
  ·rw [decide_eq_true c2, if_pos rfl, decide_eq_false z2_]
   exact ⟨_, rfl⟩
  ·rw [decide_eq_false c2, if_neg z17_, decide_eq_true z2_, Bool.true_and]
   have h0 := blank_l0 x z2_ z2_ (x.length / 2) 0 k [] z2_ rfl (fun v hv => by cases hv) z2_
   rw [Int.ofNat_zero, List.drop_zero] at h0
   rw [h0]
   cases volsL x with
   | none => exact ⟨_, rfl⟩
   | some l =>
    simp only [List.nil_append]
    by_cases hv : vrun 0 l = true
    ·rw [if_pos hv, if_pos hv]; exact ⟨_, rfl⟩
    ·rw [if_neg hv, if_neg hv]; exact ⟨_, rfl⟩
 ·rw [if_neg c1, vols_Blank.j0, if_pos rfl, decide_eq_false z2_]
  exact ⟨_, rfl⟩
theorem vols_ids : ∀ (n : Nat) (x : List Int) (l : List S137) (a : Int), x.length = 2 * n → volsL x = some l → vrun a l = true → 0 ≤ a → ∀ y ∈ x, 0 ≤ y ∧ y ≤ 255 := by
 intro n
 induction n with
 | zero => intro x l a hx _ _ _ y hy; have e : x = [] := List.eq_nil_of_length_eq_zero z2_; rw [e] at hy; cases hy
 | succ n ih =>
  intro x l a hx hv hr ha y hy
  match x, hx with
  | i :: s :: r, hx =>
   rw [volsL] at hv
   by_cases c : 1 ≤ s ∧ s ≤ 32
   ·rw [if_pos c] at hv
    obtain ⟨l2, h1, rfl⟩ := Option.map_eq_some_iff.1 hv
    rw [vrun, Bool.and_eq_true, decide_eq_true_eq] at hr
    rcases List.mem_cons.1 hy with rfl | hy
    ·have := hr.1.1; have := hr.1.2.1; dsimp only at *; omega
    ·rcases List.mem_cons.1 hy with rfl | hy
     ·omega
     ·exact ih r l2 _ (by simp at hx; omega) h1 hr.2 (by have := hr.1.1; dsimp only at *; omega) y hy
   ·rw [if_neg c] at hv; cases hv
theorem blank_mem {x : List Int} (h : blankB x = true) : x.length ≤ 8 ∧ ∀ y ∈ x, 0 ≤ y ∧ y ≤ 255 := by
 unfold blankB at h
 rw [Bool.and_eq_true, decide_eq_true_eq] at h
 refine ⟨h.1.2, ?_⟩
 cases hv : volsL x with
 | none => rw [hv] at h; cases h.2
 | some l => rw [hv] at h; exact vols_ids (x.length / 2) x l 0 z2_ hv h.2 z2_
def numB (n : Int) : Bool := decide (0 ≤ n ∧ n ≤ 1099511627776)
theorem num_eq (n : Int) : msg_number.f n = some (numB n) := by
 unfold msg_number.f numB
 by_cases h : n ≥ 0
 ·rw [if_pos h]; exact congrArg some (decide_eq_decide.2 z2_)
 ·rw [if_neg h, decide_eq_false z2_]
def lastAt (l : List S160) : Int := (rd_T160 l ((l.length - 1 : Nat) : Int)).f1
def placedB (l : List S160) (n : Int) : Bool := decide (l.length = 0 ∧ n = 0) || (lineB l && decide (lastAt l ≤ n ∧ n ≤ 1099511627776))
theorem lineB_len {l : List S160} (h : lineB l = true) : 1 ≤ l.length ∧ l.length ≤ 64 := by
 unfold lineB at h
 rw [Bool.and_eq_true, decide_eq_true_eq] at h
 omega
theorem linePlaced_eq (l : List S160) (n : Int) {k : Nat} (hk : 70 ≤ k) : line_Placed.f k l n = some (lineB l && decide (lastAt l ≤ n ∧ n ≤ 1099511627776)) := by
 unfold line_Placed.f
 rw [line_eq l hk]
 simp only [Option.bind_some]
 cases h : lineB l with
 | false => rw [if_neg z17_]; rfl
 | true =>
  have hl := lineB_len h
  rw [if_pos rfl, w64 z2_ z2_, if_pos z2_, if_pos z2_, show ((l.length : Int) - 1) = ((l.length - 1 : Nat) : Int) from z2_, Bool.true_and]
  show (if n ≥ lastAt l then _ else _) = _
  by_cases c : n ≥ lastAt l
  ·rw [if_pos c]; exact congrArg some (decide_eq_decide.2 z2_)
  ·rw [if_neg c, decide_eq_false z2_]
theorem placed_eq (l : List S160) (n : Int) {k : Nat} (hk : 70 ≤ k) : msg_placed.f k l n = some (placedB l n) := by
 unfold msg_placed.f placedB
 rw [linePlaced_eq l n hk]
 simp only [Option.bind_some]
 by_cases c1 : (l.length : Int) = 0
 ·rw [if_pos c1]
  by_cases c2 : n = 0
  ·rw [if_pos c2, decide_eq_true (⟨z2_, c2⟩ : l.length = 0 ∧ n = 0), Bool.true_or]
  ·rw [if_neg c2, decide_eq_false (show ¬ (l.length = 0 ∧ n = 0) from fun h => c2 h.2), Bool.false_or]
 ·rw [if_neg c1, decide_eq_false (show ¬ (l.length = 0 ∧ n = 0) from fun h => c1 z2_), Bool.false_or]
def linesB (l : List S160) : Bool := decide (l.length = 0) || lineB l
def restB (m : S53) : Bool := linesB m.f2 && (placedB m.f7.f0 m.f7.f1 && (Dirty.rgt 0 m.f8 && writB m.f10.f2))
def rightB (m : S53) : Bool := decide (1 ≤ m.f0 ∧ m.f0 ≤ 9) && (blankB m.f9 && (decide (m.f10.f0 ≤ m.f10.f1) && ([m.f1, m.f3, m.f4, m.f5, m.f10.f0, m.f10.f1].all numB && restB m)))
abbrev rightF (k : Nat) (m : S53) := msg_Right.f k m.f0 m.f1 m.f2 m.f3 m.f4 m.f5 m.f6 m.f7.f0 m.f7.f1 m.f8 m.f9 m.f10.f0 m.f10.f1 m.f10.f2
theorem right_l0 (m : S53) (hm : m.f8.length ≤ 4611686018427387904) (x : List Int) (hx : x.length ≤ 10) (d : Nat) : ∀ (i k : Nat) (b : Bool), i + d = x.length → d + 1200 + m.f8.length < k →
  msg_Right.l0 k b x (x.length : Int) (i : Int) m.f0 m.f1 m.f2 m.f3 m.f4 m.f5 m.f6 m.f7.f0 m.f7.f1 m.f8 m.f9 m.f10.f0 m.f10.f1 m.f10.f2 = some (b && ((x.drop i).all numB && restB m)) := by
 induction d with
 | zero =>
  intro i k b hi hk
  obtain ⟨k, rfl⟩ : ∃ j, k = j + 1 := ⟨k - 1, z2_⟩
  rw [msg_Right.l0, if_neg z2_, List.drop_eq_nil_of_le z2_, List.all_nil, Bool.true_and]
  cases b with
  | false => rw [if_neg z17_]; rfl
  | true =>
   rw [if_pos rfl, Bool.true_and, placed_eq _ _ z2_, Dirty.right_eq m.f8 hm z2_, writ_eq m.f10.f2 z2_, line_eq m.f2 z2_]
   simp only [Option.bind_some]
   unfold restB linesB
   by_cases c : (m.f2.length : Int) = 0
   ·rw [if_pos c, decide_eq_true z2_, Bool.true_or, Bool.true_and]
    cases placedB m.f7.f0 m.f7.f1 <;> cases Dirty.rgt 0 m.f8 <;> simp
   ·rw [if_neg c, decide_eq_false z2_, Bool.false_or]
    cases lineB m.f2 <;> cases placedB m.f7.f0 m.f7.f1 <;> cases Dirty.rgt 0 m.f8 <;> simp
 | succ d ih =>
  intro i k b hi hk
  obtain ⟨k, rfl⟩ : ∃ j, k = j + 1 := ⟨k - 1, z2_⟩
  have hl : i < x.length := by omega
  rw [msg_Right.l0, if_pos z2_, if_pos z2_, if_pos z2_, rdI x i hl, num_eq, w64 z2_ z2_, show ((i : Int) + 1) = ((i + 1 : Nat) : Int) from z2_, List.drop_eq_getElem_cons hl, List.all_cons]
  simp only [Option.bind_some]
  rw [ih (i + 1) k (numB x[i]) z2_ z2_, ih (i + 1) k false z2_ z2_]
  cases b with
  | false => rw [if_neg z17_]; rfl
  | true => rw [if_pos rfl, Bool.true_and, Bool.and_assoc]
theorem right_eq (m : S53) (hm : m.f8.length ≤ 4611686018427387904) (h9 : m.f9.length ≤ 4611686018427387904) {k : Nat} (hk : 1300 + m.f8.length ≤ k) : rightF k m = some (rightB m) := by
 obtain ⟨k, rfl⟩ : ∃ j, k = j + 1 := ⟨k - 1, z2_⟩
 show msg_Right.f (k + 1) m.f0 m.f1 m.f2 m.f3 m.f4 m.f5 m.f6 m.f7.f0 m.f7.f1 m.f8 m.f9 m.f10.f0 m.f10.f1 m.f10.f2 = _
 unfold msg_Right.f rightB
 obtain ⟨l, hl⟩ := blank_eq m.f9 h9 (k := k + 1) z2_
 have hj : ∀ b : Bool, msg_Right.j0 (k + 1) b m.f0 m.f1 m.f2 m.f3 m.f4 m.f5 m.f6 m.f7.f0 m.f7.f1 m.f8 m.f9 m.f10.f0 m.f10.f1 m.f10.f2 = some (b && ([m.f1, m.f3, m.f4, m.f5, m.f10.f0, m.f10.f1].all numB && restB m)) := fun b => by
  rw [msg_Right.j0]
  simp only [Option.bind_some]
  have h0 := right_l0 m hm [m.f1, m.f3, m.f4, m.f5, m.f10.f0, m.f10.f1] (by simp) 6 0 k b (by simp) z2_
  rw [Int.ofNat_zero, List.drop_zero] at h0
  exact h0
 rw [hl]
 simp only [Option.bind_some]
 rw [hj, hj]
 by_cases c1 : m.f0 ≥ 1
 ·rw [if_pos c1]
  by_cases c2 : m.f0 ≤ 9
  ·rw [if_pos c2, decide_eq_true (show 1 ≤ m.f0 ∧ m.f0 ≤ 9 from ⟨c1, c2⟩), Bool.true_and]
   by_cases c3 : blankB m.f9 = true
   ·rw [if_pos c3, if_pos rfl, c3, Bool.true_and]
   ·rw [if_neg c3, if_neg z17_, Bool.eq_false_iff.2 c3, Bool.false_and, Bool.false_and]
  ·rw [if_neg c2, decide_eq_false (show ¬ (1 ≤ m.f0 ∧ m.f0 ≤ 9) from fun h => c2 h.2), Bool.false_and, Bool.false_and]
 ·rw [if_neg c1, decide_eq_false (show ¬ (1 ≤ m.f0 ∧ m.f0 ≤ 9) from fun h => c1 h.1), Bool.false_and, Bool.false_and]
def eightL (l : List Int) : List UInt8 := l.flatMap fun n => digs n.toNat 8
def lineL (l : List S160) : List UInt8 := digs l.length 1 ++ l.flatMap fun b => eightL [b.f0, b.f1]
def bitsL (m : List S166) : List UInt8 := digs m.length 1 ++ m.flatMap fun b => digs b.f0.toNat 1 ++ digs b.f1.toNat 4
def wrsL (l : List S120) : List UInt8 := digs l.length 2 ++ l.flatMap fun w => digs w.f0.toNat 1 ++ (digs w.f1.toNat 1 ++ (digs w.f2.size 2 ++ w.f2.data.toList))
def msgL (m : S53) : List UInt8 :=
 digs m.f0.toNat 1 ++ eightL [m.f1] ++ lineL m.f2 ++ eightL [m.f3, m.f4, m.f5] ++ digs (if m.f6 = true then 1 else 0) 1 ++ lineL m.f7.f0 ++ eightL [m.f7.f1] ++ bitsL m.f8 ++ (digs m.f9.length 1 ++ m.f9.flatMap fun n => digs n.toNat 1) ++ eightL [m.f10.f0, m.f10.f1] ++ wrsL m.f10.f2
theorem put8 {n : Int} (h0 : 0 ≤ n) (h1 : n ≤ 1099511627776) {k : Nat} (hk : 12 ≤ k) : octet_Put.f k n 8 = some (mk (digs n.toNat 8), 0) := by
 rw [put_eq (wf_i64.2 z2_) (wf_i64.2 z2_) hk]
 have h := putS_of (n := n.toNat) (w := 8) z2_ z2_ z2_
 rw [Int.toNat_of_nonneg h0] at h
 exact congrArg some h
theorem eight_l0 (l : List Int) (hl : l.length ≤ 10) (hn : ∀ n ∈ l, 0 ≤ n ∧ n ≤ 1099511627776) (d : Nat) : ∀ (i k : Nat) (acc : List UInt8), i + d = l.length → acc.length ≤ 8 * i → d + 14 < k → msg_eight.l0 k (bytesOf (mk acc)) l (l.length : Int) (i : Int) = some (mk (acc ++ eightL (l.drop i))) := by
 induction d with
 | zero =>
  intro i k acc hi ha hk
  obtain ⟨k, rfl⟩ : ∃ j, k = j + 1 := ⟨k - 1, z2_⟩
  rw [msg_eight.l0, if_neg z2_, List.drop_eq_nil_of_le z2_, strOfNums_bytesOf]
  unfold eightL
  rw [List.flatMap_nil, List.append_nil]
 | succ d ih =>
  intro i k acc hi ha hk
  obtain ⟨k, rfl⟩ : ∃ j, k = j + 1 := ⟨k - 1, z2_⟩
  have hl2 : i < l.length := by omega
  obtain ⟨b0, b1⟩ := hn _ (List.getElem_mem hl2)
  rw [msg_eight.l0, if_pos z2_, if_pos z2_, if_pos z2_, rdI l i hl2, put8 b0 b1 z2_]
  simp only [Option.bind_some]
  rw [if_pos (by rw [bytesOf_length, mk_size, mk_size, digs_length]; omega), w64 z2_ z2_, show ((i : Int) + 1) = ((i + 1 : Nat) : Int) from z2_, ← bytesOf_append, mk_append]
  rw [ih (i + 1) k _ z2_ (by rw [List.length_append, digs_length]; omega) z2_, List.drop_eq_getElem_cons hl2]
  unfold eightL
  rw [List.flatMap_cons, List.append_assoc]
theorem eight_eq (l : List Int) (hl : l.length ≤ 10) (hn : ∀ n ∈ l, 0 ≤ n ∧ n ≤ 1099511627776) {k : Nat} (hk : 30 ≤ k) : msg_eight.f k l = some (mk (eightL l)) := by
 unfold msg_eight.f
 have h := eight_l0 l hl hn l.length 0 k [] z2_ (by simp) z2_
 rw [Int.ofNat_zero, List.drop_zero, List.nil_append] at h
 exact h
theorem one_byte (n : Nat) (h : n < 256) : strOfNums [(n : Int) % 256] = mk (digs n 1) := by
 rw [strOfNums_mk]
 have : ((n : Int) % 256).toNat = n := by omega
 simp only [List.map_cons, List.map_nil, this]
 rw [show digs n 1 = digs (n / 256) 0 ++ [UInt8.ofNat n] from digs_snoc n 0]
 rfl
theorem one_byteI {n : Int} (h0 : 0 ≤ n) (h : n < 256) : strOfNums [n % 256] = mk (digs n.toNat 1) := by
 have := one_byte n.toNat z2_
 rwa [Int.toNat_of_nonneg h0] at this
theorem line_put0 (l : List S160) (hl : l.length ≤ 64) (hn : ∀ b ∈ l, (0 ≤ b.f0 ∧ b.f0 ≤ 1099511627776) ∧ 0 ≤ b.f1 ∧ b.f1 ≤ 1099511627776) (d : Nat) : ∀ (i k : Nat) (acc : List UInt8), i + d = l.length → acc.length ≤ 1 + 16 * i → d + 40 < k →
  msg_PutLine.l0 k (mk acc) l (l.length : Int) (i : Int) = some (mk (acc ++ (l.drop i).flatMap fun b => eightL [b.f0, b.f1]), 0) := by
 induction d with
 | zero =>
  intro i k acc hi ha hk
  obtain ⟨k, rfl⟩ : ∃ j, k = j + 1 := ⟨k - 1, z2_⟩
  rw [msg_PutLine.l0, if_neg z2_, List.drop_eq_nil_of_le z2_, List.flatMap_nil, List.append_nil]
 | succ d ih =>
  intro i k acc hi ha hk
  obtain ⟨k, rfl⟩ : ∃ j, k = j + 1 := ⟨k - 1, z2_⟩
  have hl2 : i < l.length := by omega
  have hb := hn _ (List.getElem_mem hl2)
  rw [msg_PutLine.l0, if_pos z2_, if_pos z2_, if_pos z2_, rdB l i hl2, eight_eq _ (by simp) (fun n h => by rcases List.mem_cons.1 h with rfl | h; exact hb.1; rw [List.mem_singleton] at h; rw [h]; exact hb.2) z2_]
  simp only [Option.bind_some]
  have e8 : (eightL [(l[i]).f0, (l[i]).f1]).length = 16 := by simp [eightL, digs_length]
  rw [if_pos (by rw [mk_size, mk_size, e8]; omega), w64 z2_ z2_, show ((i : Int) + 1) = ((i + 1 : Nat) : Int) from z2_, mk_append]
  rw [ih (i + 1) k _ z2_ (by rw [List.length_append, e8]; omega) z2_, List.drop_eq_getElem_cons hl2, List.flatMap_cons, List.append_assoc]
theorem linesB_mem {l : List S160} (h : linesB l = true) : l.length ≤ 64 ∧ ∀ b ∈ l, (0 ≤ b.f0 ∧ b.f0 ≤ 1099511627776) ∧ 0 ≤ b.f1 ∧ b.f1 ≤ 1099511627776 := by
 unfold linesB at h
 rcases Bool.or_eq_true_iff.1 h with h | h
 ·have h := of_decide_eq_true h
  have e : l = [] := List.eq_nil_of_length_eq_zero h
  subst e
  exact ⟨by simp, fun b hb => by cases hb⟩
 ·refine ⟨(lineB_len h).2, ?_⟩
  unfold lineB at h
  rw [Bool.and_eq_true] at h
  exact lrun_mem h.2 z2_ z2_
theorem lineput_eq {l : List S160} (h : linesB l = true) {k : Nat} (hk : 200 ≤ k) : msg_PutLine.f k l = some (mk (lineL l), 0) := by
 obtain ⟨k, rfl⟩ : ∃ j, k = j + 1 := ⟨k - 1, z2_⟩
 obtain ⟨hl, hn⟩ := linesB_mem h
 have hg : msg_PutLine.j0 (k + 1) l false = some (mk (lineL l), 0) := by
  rw [msg_PutLine.j0, if_neg z17_, one_byte l.length z2_]
  have h0 := line_put0 l hl hn l.length 0 k (digs l.length 1) z2_ z173_ z2_
  rw [Int.ofNat_zero, List.drop_zero] at h0
  exact h0
 unfold msg_PutLine.f
 by_cases c : (l.length : Int) > 0
 ·rw [if_pos c, line_eq l z2_]
  simp only [Option.bind_some]
  have : lineB l = true := by
   unfold linesB at h
   rcases Bool.or_eq_true_iff.1 h with h | h
   ·have := of_decide_eq_true h; omega
   ·exact h
  rw [this]
  exact hg
 ·rw [if_neg c]; exact hg
theorem put4 {n : Int} (h0 : 0 ≤ n) (h1 : n < 4294967296) {k : Nat} (hk : 12 ≤ k) : octet_Put.f k n 4 = some (mk (digs n.toNat 4), 0) := by
 rw [put_eq (wf_i64.2 z2_) (wf_i64.2 z2_) hk]
 have h := putS_of (n := n.toNat) (w := 4) z2_ z2_ z2_
 rw [Int.toNat_of_nonneg h0] at h
 exact congrArg some h
theorem bits_l0 (m : List S166) (hl : m.length ≤ 300) (hn : ∀ b ∈ m, (0 ≤ b.f0 ∧ b.f0 ≤ 255) ∧ 0 ≤ b.f1 ∧ b.f1 < 4294967296) (d : Nat) : ∀ (i k : Nat) (acc : List UInt8), i + d = m.length → acc.length ≤ 1 + 5 * i → d + 20 < k →
  dirty_Bytes.l0 k (bytesOf (mk acc)) m (m.length : Int) (i : Int) = some (mk (acc ++ (m.drop i).flatMap fun b => digs b.f0.toNat 1 ++ digs b.f1.toNat 4), 0) := by
 induction d with
 | zero =>
  intro i k acc hi ha hk
  obtain ⟨k, rfl⟩ : ∃ j, k = j + 1 := ⟨k - 1, z2_⟩
  rw [dirty_Bytes.l0, if_neg z2_, List.drop_eq_nil_of_le z2_, List.flatMap_nil, List.append_nil, strOfNums_bytesOf]
 | succ d ih =>
  intro i k acc hi ha hk
  obtain ⟨k, rfl⟩ : ∃ j, k = j + 1 := ⟨k - 1, z2_⟩
  have hl2 : i < m.length := by omega
  obtain ⟨⟨b0, b1⟩, b2, b3⟩ := hn _ (List.getElem_mem hl2)
  have e1 : bytesOf (mk acc) ++ [(m[i]).f0 % 256] = bytesOf (mk (acc ++ digs (m[i]).f0.toNat 1)) := by
   rw [← mk_append, bytesOf_append]
   congr 1
   rw [show digs (m[i]).f0.toNat 1 = digs ((m[i]).f0.toNat / 256) 0 ++ [UInt8.ofNat (m[i]).f0.toNat] from digs_snoc _ 0]
   show _ = [(((UInt8.ofNat (m[i]).f0.toNat).toNat : Nat) : Int)]
   congr 1
   rw [UInt8.toNat_ofNat']
   omega
  rw [dirty_Bytes.l0, if_pos z2_, if_pos z2_, if_pos z2_, Dirty.rd63 m i hl2, w64 z2_ z2_, put4 b2 b3 z2_]
  simp only [Option.bind_some]
  rw [if_pos (by rw [bytesOf_length, mk_size]; omega)]
  rw [if_pos (by rw [List.length_append, bytesOf_length, mk_size, mk_size, digs_length]; simp only [List.length_singleton]; omega), e1, ← bytesOf_append, mk_append, w64 z2_ z2_, show ((i : Int) + 1) = ((i + 1 : Nat) : Int) from z2_]
  rw [ih (i + 1) k _ z2_ (by simp only [List.length_append, digs_length]; omega) z2_, List.drop_eq_getElem_cons hl2, List.flatMap_cons]
  simp only [List.append_assoc]
theorem rgt_len : ∀ (m : List S166) (a : Int), 0 ≤ a → a ≤ 255 → Dirty.rgt a m = true → (m.length : Int) ≤ 255 - a := by
 intro m
 induction m with
 | nil => intro a h0 h1 _; simp; omega
 | cons b r ih =>
  intro a h0 h1 h
  have hb := Dirty.rgt_mem h h0 b List.mem_cons_self
  have h2 : Dirty.rgt b.f0 r = true := by
   rw [Dirty.rgt] at h
   simp only [Bool.and_eq_true] at h
   exact h.2
  have := ih b.f0 z2_ z2_ h2
  rw [List.length_cons]
  omega
theorem bits_eq {m : List S166} (h : Dirty.rgt 0 m = true) (hw : ∀ b ∈ m, 0 ≤ b.f1) {k : Nat} (hk : 700 ≤ k) : dirty_Bytes.f k m = some (mk (bitsL m), 0) := by
 have hl := rgt_len m 0 z2_ z2_ h
 have hn : ∀ b ∈ m, (0 ≤ b.f0 ∧ b.f0 ≤ 255) ∧ 0 ≤ b.f1 ∧ b.f1 < 4294967296 := fun b hb => by
  have h1 := Dirty.rgt_mem h z2_ b hb
  have h2 := hw b hb
  omega
 unfold dirty_Bytes.f
 rw [Dirty.right_eq m z2_ z2_, h]
 simp only [Option.bind_some]
 rw [if_pos trivial]
 have e1 : [(m.length : Int) % 256] = bytesOf (mk (digs m.length 1)) := by
  rw [show digs m.length 1 = digs (m.length / 256) 0 ++ [UInt8.ofNat m.length] from digs_snoc _ 0]
  show _ = [(((UInt8.ofNat m.length).toNat : Nat) : Int)]
  congr 1
 rw [e1]
 have h0 := bits_l0 m z2_ hn m.length 0 k (digs m.length 1) z2_ z173_ z2_
 rw [Int.ofNat_zero, List.drop_zero] at h0
 exact h0
theorem fit_mem {w : S120} (h : fitB w = true) : 1 ≤ w.f0 ∧ w.f0 ≤ 255 ∧ 0 ≤ w.f1 ∧ w.f1 < 32 ∧ w.f2.size ≤ 8 := of_decide_eq_true h
theorem byte_of {n : Int} (h0 : 0 ≤ n) (h1 : n < 256) : [n % 256] = bytesOf (mk (digs n.toNat 1)) := by
 rw [show digs n.toNat 1 = digs (n.toNat / 256) 0 ++ [UInt8.ofNat n.toNat] from digs_snoc _ 0]
 show _ = [(((UInt8.ofNat n.toNat).toNat : Nat) : Int)]
 congr 1
 rw [UInt8.toNat_ofNat']
 omega
theorem wrs_go (d : Nat) : ∀ (l : List S120) (k : Nat) (acc : List UInt8), l.length ≤ d → (∀ w ∈ l, fitB w = true) → acc.length + 100 * d ≤ 100000 → 20 ≤ k →
  msg_PutWrites.go k l (bytesOf (mk acc)) = some (mk (acc ++ l.flatMap fun w => digs w.f0.toNat 1 ++ (digs w.f1.toNat 1 ++ (digs w.f2.size 2 ++ w.f2.data.toList))), 0) := by
 induction d with
 | zero =>
  intro l k acc hl _ _ _
  have e : l = [] := List.eq_nil_of_length_eq_zero z2_
  subst e
  rw [msg_PutWrites.go, strOfNums_bytesOf, List.flatMap_nil, List.append_nil]
 | succ d ih =>
  intro l k acc hl hf ha hk
  cases l with
  | nil => rw [msg_PutWrites.go, strOfNums_bytesOf, List.flatMap_nil, List.append_nil]
  | cons w r =>
   obtain ⟨a1, a2, a3, a4, a5⟩ := fit_mem (hf w List.mem_cons_self)
   have ht : (mk (digs w.f2.size 2) ++ w.f2).size = 2 + w.f2.size := by rw [ByteArray.size_append, mk_size, digs_length]
   have hd : w.f2.data.toList.length = w.f2.size := by rw [Array.length_toList]; rfl
   rw [msg_PutWrites.go, text_eq w.f2 z2_ z2_, textS_size w.f2 z2_]
   simp only [Option.bind_some]
   rw [if_pos (by rw [bytesOf_length, mk_size, ht]; omega)]
   have e1 : bytesOf (mk acc) ++ [w.f0 % 256, w.f1 % 256] ++ bytesOf (mk (digs w.f2.size 2) ++ w.f2) = bytesOf (mk (acc ++ (digs w.f0.toNat 1 ++ (digs w.f1.toNat 1 ++ (digs w.f2.size 2 ++ w.f2.data.toList))))) := by
    rw [show [w.f0 % 256, w.f1 % 256] = [w.f0 % 256] ++ [w.f1 % 256] from rfl, byte_of z2_ z2_, byte_of a3 z2_]
    rw [← data_mk w.f2, mk_append, ← bytesOf_append, ← bytesOf_append, ← bytesOf_append, mk_append, mk_append, mk_append, data_mk]
    simp only [List.append_assoc]
   rw [e1, ih r k _ (by rw [List.length_cons] at hl; omega) (fun x hx => hf x (List.mem_cons_of_mem _ hx)) (by simp only [List.length_append, digs_length, hd]; omega) hk, List.flatMap_cons]
   simp only [List.append_assoc]
theorem put2 (n : Nat) (h : n < 65536) {k : Nat} (hk : 12 ≤ k) : octet_Put.f k (n : Int) 2 = some (mk (digs n 2), 0) := by
 rw [put_eq (wf_i64.2 z2_) (wf_i64.2 z2_) hk]
 exact congrArg some (putS_of (w := 2) z2_ z2_ z2_)
theorem wrs_eq {l : List S120} (h : writB l = true) {k : Nat} (hk : 1100 ≤ k) : msg_PutWrites.f k l = some (mk (wrsL l), 0) := by
 have h0 := h
 unfold writB at h0
 rw [Bool.and_eq_true, Bool.and_eq_true, decide_eq_true_eq] at h0
 unfold msg_PutWrites.f
 rw [writ_eq l hk, h]
 simp only [Option.bind_some]
 rw [if_pos trivial, put2 l.length z2_ z2_]
 simp only [Option.bind_some]
 rw [if_pos (by rw [mk_size, digs_length]; omega)]
 exact wrs_go l.length l k (digs l.length 2) (Nat.le_refl _) (fun w hw => List.all_eq_true.1 h0.2.2 w hw) z173_ z2_
theorem sizes_run (m : S53) (a b c d : ByteArray) (f : Int) (hl : m.f9.length ≤ 8) (hn : ∀ y ∈ m.f9, 0 ≤ y ∧ y ≤ 255) (r : ByteArray × Int) (e : Nat) : ∀ (i k : Nat) (acc : List UInt8), i + e = m.f9.length → acc.length ≤ 1 + i → e + 1 ≤ k →
  (∀ k', k - e ≤ k' → k' ≤ k → msg_Bytes.l0 k' a b c d f (bytesOf (mk (acc ++ (m.f9.drop i).flatMap fun n => digs n.toNat 1))) m.f9 (m.f9.length : Int) (m.f9.length : Int) m.f0 m.f1 m.f2 m.f3 m.f4 m.f5 m.f6 m.f7.f0 m.f7.f1 m.f8 m.f9 m.f10.f0 m.f10.f1 m.f10.f2 = some r) →
  msg_Bytes.l0 k a b c d f (bytesOf (mk acc)) m.f9 (m.f9.length : Int) (i : Int) m.f0 m.f1 m.f2 m.f3 m.f4 m.f5 m.f6 m.f7.f0 m.f7.f1 m.f8 m.f9 m.f10.f0 m.f10.f1 m.f10.f2 = some r := by
 induction e with
 | zero =>
  intro i k acc hi ha hk h
  have h0 := h k z2_ (Nat.le_refl _)
  rw [List.drop_eq_nil_of_le z2_, List.flatMap_nil, List.append_nil] at h0
  rw [show (i : Int) = (m.f9.length : Int) from z2_]
  exact h0
 | succ e ih =>
  intro i k acc hi ha hk h
  obtain ⟨k, rfl⟩ : ∃ j, k = j + 1 := ⟨k - 1, z2_⟩
  have hl2 : i < m.f9.length := by omega
  obtain ⟨b0, b1⟩ := hn _ (List.getElem_mem hl2)
  rw [msg_Bytes.l0, if_pos z2_, if_pos z2_, if_pos z2_, rdI m.f9 i hl2, if_pos (by rw [bytesOf_length, mk_size]; omega), byte_of b0 z2_, ← bytesOf_append, mk_append, w64 z2_ z2_, show ((i : Int) + 1) = ((i + 1 : Nat) : Int) from z2_]
  refine ih (i + 1) k _ z2_ (by rw [List.length_append, digs_length]; omega) z2_ (fun k' h1 h2 => ?_)
  have h0 := h k' z2_ z2_
  rw [List.drop_eq_getElem_cons hl2, List.flatMap_cons, ← List.append_assoc] at h0
  exact h0
theorem flat_len {α : Type} (f : α → List UInt8) (c : Nat) (l : List α) (h : ∀ x ∈ l, (f x).length ≤ c) : (l.flatMap f).length ≤ c * l.length := by
 induction l with
 | nil => simp
 | cons a r ih =>
  rw [List.flatMap_cons, List.length_append, List.length_cons, Nat.mul_add]
  have := h a List.mem_cons_self
  have := ih (fun x hx => h x (List.mem_cons_of_mem _ hx))
  omega
theorem eightL_len (l : List Int) : (eightL l).length ≤ 8 * l.length := flat_len _ 8 l (fun _ _ => z184_)
theorem lineL_len (l : List S160) : (lineL l).length ≤ 1 + 16 * l.length := by
 unfold lineL
 rw [List.length_append, digs_length]
 have := flat_len (fun b : S160 => eightL [b.f0, b.f1]) 16 l (fun b _ => eightL_len [b.f0, b.f1])
 omega
theorem bitsL_len (l : List S166) : (bitsL l).length ≤ 1 + 5 * l.length := by
 unfold bitsL
 rw [List.length_append, digs_length]
 have := flat_len (fun b : S166 => digs b.f0.toNat 1 ++ digs b.f1.toNat 4) 5 l (fun b _ => by rw [List.length_append, digs_length, digs_length]; exact Nat.le_refl _)
 omega
theorem wrsL_len (l : List S120) (h : ∀ w ∈ l, fitB w = true) : (wrsL l).length ≤ 2 + 12 * l.length := by
 unfold wrsL
 rw [List.length_append, digs_length]
 have := flat_len (fun w : S120 => digs w.f0.toNat 1 ++ (digs w.f1.toNat 1 ++ (digs w.f2.size 2 ++ w.f2.data.toList))) 12 l (fun w hw => by
  have hf := fit_mem (h w hw)
  have hd : w.f2.data.toList.length = w.f2.size := by rw [Array.length_toList]; rfl
  simp only [List.length_append, digs_length, hd]
  omega)
 omega
structure RightM (m : S53) : Prop where
 kind : 1 ≤ m.f0 ∧ m.f0 ≤ 9
 sizes : m.f9.length ≤ 8 ∧ ∀ y ∈ m.f9, 0 ≤ y ∧ y ≤ 255
 nums : ∀ n ∈ [m.f1, m.f3, m.f4, m.f5, m.f10.f0, m.f10.f1], 0 ≤ n ∧ n ≤ 1099511627776
 line : linesB m.f2 = true
 placed : placedB m.f7.f0 m.f7.f1 = true
 bits : Dirty.rgt 0 m.f8 = true
 writ : writB m.f10.f2 = true
theorem rightM {m : S53} (h : rightB m = true) : RightM m := by
 unfold rightB restB at h
 simp only [Bool.and_eq_true] at h
 obtain ⟨h1, h2, h3, h4, h5, h6, h7, h8⟩ := h
 exact ⟨of_decide_eq_true h1, blank_mem h2, fun n hn => of_decide_eq_true (List.all_eq_true.1 h4 n hn), h5, h6, h7, h8⟩
theorem RightM.aline {m : S53} (h : RightM m) : linesB m.f7.f0 = true ∧ 0 ≤ m.f7.f1 ∧ m.f7.f1 ≤ 1099511627776 := by
 have hp := h.placed
 unfold placedB at hp
 unfold linesB
 rcases Bool.or_eq_true_iff.1 hp with hp | hp
 ·obtain ⟨h1, h2⟩ := of_decide_eq_true hp
  exact ⟨by rw [decide_eq_true h1, Bool.true_or], z2_, z2_⟩
 ·rw [Bool.and_eq_true] at hp
  have h2 := of_decide_eq_true hp.2
  have hl := lineB_len hp.1
  refine ⟨by rw [hp.1, Bool.or_true], ?_, h2.2⟩
  have h3 := hp.1
  unfold lineB at h3
  rw [Bool.and_eq_true] at h3
  have h4 := lrun_mem h3.2 z2_ z2_ _ (List.getElem_mem (show m.f7.f0.length - 1 < m.f7.f0.length from z2_))
  have h5 : lastAt m.f7.f0 = (m.f7.f0[m.f7.f0.length - 1]'z2_).f1 := by unfold lastAt; rw [rdB _ _ z2_]
  omega
end Go.Proofs.Ytecfndblgefhdaa.Msg
