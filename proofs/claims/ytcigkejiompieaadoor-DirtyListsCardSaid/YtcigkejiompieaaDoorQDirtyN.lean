/- Blocks by name: what writes name, all blocks of volumes, and whether masks lie within. -/
import Derived.Test.YtcigkejiompieaaDoorPx0
import Derived.Test.YtcigkejiompieaaDoorPx10
import Derived.Test.YtcigkejiompieaaDoorPx3
import Derived.Test.YtcigkejiompieaaDoorQDirtyV
set_option linter.unusedVariables false
set_option linter.unusedSimpArgs false
namespace Go.Proofs.YtcigkejiompieaaDoor.Dirty
open Go.RowKit Go.Proofs.YtcigkejiompieaaDoor.P Go.Proofs.YtcigkejiompieaaDoorW.PrintWords Go.Proofs.YtcigkejiompieaaDoorW.PrintLast Go.Proofs.YtcigkejiompieaaDoorW.PrintMore

theorem gath_snoc (l : List S33) (v n : Nat) (hv : 1 ≤ v) (hn : n < 32) (u : Nat) : gath (l ++ [(⟨(v : Int), (n : Int)⟩ : S33)]) u = if u = v then gath l v ||| 2 ^ n else gath l u := by
  have hp : 2 ^ n < 2 ^ 32 := Nat.pow_lt_pow_right (by omega) hn
  refine eq_of_bits (gath_lt _ u) ?_ (fun i hi => ?_)
  · split
    · exact Nat.or_lt_two_pow (n := 32) (gath_lt l v) hp
    · exact gath_lt l u
  · unfold gath
    by_cases h0 : u = 0
    · subst h0
      rw [if_pos rfl, if_neg (by omega), if_pos rfl]
    · rw [if_neg h0, sumBits_bit, decide_eq_true hi, Bool.true_and, named_append]
      show (named l u i || (decide ((v : Int) = (u : Int)) && decide ((n : Int) = (i : Int)) || false)) = _
      by_cases h : u = v
      · subst h
        rw [if_pos rfl, if_neg h0, Nat.testBit_or, sumBits_bit, decide_eq_true hi, Nat.testBit_two_pow, decide_eq_true rfl, Bool.true_and, Bool.true_and, Bool.or_false]
        congr 1
        rw [decide_eq_decide]
        omega
      · rw [if_neg h, if_neg h0, sumBits_bit, decide_eq_true hi, Bool.true_and, decide_eq_false (show ¬ (v : Int) = (u : Int) by omega)]
        simp
theorem markOne_nat (M : Nat → Nat) (hM : ∀ v, M v < 4294967296) (v n : Nat) (hn : n < 32) : markOne (fun v => ((M v : Nat) : Int)) v n = fun u => (((if u = v then M v ||| 2 ^ n else M u : Nat)) : Int) := by
  have hp : 2 ^ n < 2 ^ 32 := Nat.pow_lt_pow_right (by omega) hn
  have hpi : IntKind.u64.wrap (2 ^ n) = ((2 ^ n : Nat) : Int) := by
    rw [IntKind.wrap_u64, show (2 : Int) ^ n = ((2 ^ n : Nat) : Int) from by norm_cast]
    generalize 2 ^ n = x at hp ⊢
    omega
  funext u
  unfold markOne upd
  by_cases h : u = v
  · have := hM v
    rw [if_pos h, if_pos h, hpi, bits_or64 _ _ (by omega) (by omega)]
  · rw [if_neg h, if_neg h]
def nameS (ws : List S45) : List S33 := ws.map fun x => (⟨x.f0, x.f1⟩ : S33)
theorem ofTo_gath (ws : List S45) (hok : ∀ b ∈ ws, okW b) (i : Nat) (hi : i ≤ ws.length) : ofTo ws i = fun u => ((gath (nameS (ws.take i)) u : Nat) : Int) := by
  induction i with
  | zero =>
    funext u
    show (0 : Int) = ((gath [] u : Nat) : Int)
    have : gath [] u = 0 := by
      refine eq_of_bits (gath_lt _ u) (by omega) (fun i hi => ?_)
      unfold gath
      by_cases h0 : u = 0
      · rw [if_pos h0]
      · rw [if_neg h0, sumBits_bit, Nat.zero_testBit]
        simp [named]
    rw [this]; rfl
  | succ i ih =>
    have hl : i < ws.length := by omega
    have ho := hok _ (List.getElem_mem hl)
    obtain ⟨h1, h2, h3, h4⟩ := ho
    obtain ⟨v, hv⟩ := Int.eq_ofNat_of_zero_le (show 0 ≤ (ws[i]).f0 by omega)
    obtain ⟨n, hn⟩ := Int.eq_ofNat_of_zero_le h3
    rw [ofTo_succ ws i hl, ih (by omega), rd60 ws i hl]
    unfold ofOne
    rw [hv, hn, Int.toNat_natCast, Int.toNat_natCast, markOne_nat _ (fun v => gath_lt _ v) v n (by omega)]
    funext u
    have e : nameS (ws.take (i + 1)) = nameS (ws.take i) ++ [(⟨(v : Int), (n : Int)⟩ : S33)] := by
      rw [List.take_add_one, List.getElem?_eq_getElem hl]
      unfold nameS
      rw [List.map_append]
      show _ ++ [(⟨(ws[i]).f0, (ws[i]).f1⟩ : S33)] = _
      rw [hv, hn]
    rw [e, gath_snoc _ v n (by omega) (by omega)]
theorem names_may (ws : List S45) : (nameS ws).all mayS = true ↔ ∀ b ∈ ws, okW b := by
  unfold nameS
  rw [List.all_map, List.all_eq_true]
  constructor
  · intro h b hb
    have := h b hb
    simp only [Function.comp, mayS, decide_eq_true_eq] at this
    unfold okW
    omega
  · intro h b hb
    have := h b hb
    unfold okW at this
    simp only [Function.comp, mayS, decide_eq_true_eq]
    omega
/-- Right masks with the same blocks are the same. -/
theorem rgt_ext : ∀ (m m' : List S48) (last : Int), 0 ≤ last → rgt last m = true → rgt last m' = true → (∀ x ∈ m, 0 ≤ x.f1) → (∀ x ∈ m', 0 ≤ x.f1) → (∀ v n : Nat, hasI m (v : Int) n = hasI m' (v : Int) n) → m = m' := by
  have nonempty : ∀ (b : S48) (r : List S48) (last : Int), 0 ≤ last → rgt last (b :: r) = true → 0 ≤ b.f1 → ∃ v n : Nat, (v : Int) = b.f0 ∧ b.f1.toNat.testBit n = true ∧ hasI (b :: r) (v : Int) n = true := by
    intro b r last h0 h hb
    have h1 := rgt_mem h h0 b List.mem_cons_self
    obtain ⟨n, hn⟩ := Nat.exists_testBit_of_ne_zero (x := b.f1.toNat) (by omega)
    refine ⟨b.f0.toNat, n, by omega, hn, ?_⟩
    show (decide (b.f0 = ((b.f0.toNat : Nat) : Int)) && b.f1.toNat.testBit n || _) = true
    rw [decide_eq_true (by omega), hn]; rfl
  have above : ∀ (r : List S48) (last : Int) (v n : Nat), 0 ≤ last → rgt last r = true → (v : Int) ≤ last → hasI r (v : Int) n = false := by
    intro r last v n h0 h hv
    rw [hasI, List.any_eq_false]
    intro b hb
    have := rgt_mem h h0 b hb
    rw [decide_eq_false (by omega)]
    simp
  intro m
  induction m with
  | nil =>
    intro m' last h0 _ h' _ w' hh
    match m' with
    | [] => rfl
    | b :: r =>
      obtain ⟨v, n, _, _, h3⟩ := nonempty b r last h0 h' (w' b List.mem_cons_self)
      rw [← hh v n] at h3
      cases h3
  | cons b m ih =>
    intro m' last h0 h h' w w' hh
    match m' with
    | [] =>
      obtain ⟨v, n, _, _, h3⟩ := nonempty b m last h0 h (w b List.mem_cons_self)
      rw [hh v n] at h3
      cases h3
    | b' :: r =>
      have k1 := rgt_mem h h0 b List.mem_cons_self
      have k2 := rgt_mem h' h0 b' List.mem_cons_self
      have t1 := h
      have t2 := h'
      rw [rgt, Bool.and_eq_true] at t1 t2
      have wb := w b List.mem_cons_self
      have wb' := w' b' List.mem_cons_self
      have e0 : b.f0 = b'.f0 := by
        rcases Int.lt_trichotomy b.f0 b'.f0 with hlt | heq | hgt
        · obtain ⟨v, n, e, _, h3⟩ := nonempty b m last h0 h wb
          rw [hh v n] at h3
          have h4 := above r b'.f0 v n (by omega) t2.2 (by omega)
          have : hasI (b' :: r) (v : Int) n = (decide (b'.f0 = (v : Int)) && b'.f1.toNat.testBit n || hasI r (v : Int) n) := rfl
          rw [this, h4, decide_eq_false (by omega)] at h3
          cases h3
        · exact heq
        · obtain ⟨v, n, e, _, h3⟩ := nonempty b' r last h0 h' wb'
          rw [← hh v n] at h3
          have h4 := above m b.f0 v n (by omega) t1.2 (by omega)
          have : hasI (b :: m) (v : Int) n = (decide (b.f0 = (v : Int)) && b.f1.toNat.testBit n || hasI m (v : Int) n) := rfl
          rw [this, h4, decide_eq_false (by omega)] at h3
          cases h3
      have hcons : ∀ v n : Nat, (decide (b.f0 = (v : Int)) && b.f1.toNat.testBit n || hasI m (v : Int) n) = (decide (b'.f0 = (v : Int)) && b'.f1.toNat.testBit n || hasI r (v : Int) n) := hh
      have e1 : b.f1.toNat = b'.f1.toNat := by
        apply Nat.eq_of_testBit_eq
        intro n
        have h2 := hcons b.f0.toNat n
        rw [above m b.f0 _ n (by omega) t1.2 (by omega), above r b'.f0 _ n (by omega) t2.2 (by omega), decide_eq_true (by omega), decide_eq_true (by omega)] at h2
        simpa using h2
      have eb : b = b' := by
        have e2 : b.f1 = b'.f1 := by omega
        cases b; cases b'
        simp only at e0 e2
        rw [e0, e2]
      subst eb
      congr 1
      refine ih r b.f0 (by omega) t1.2 t2.2 (fun x hx => w x (List.mem_cons_of_mem _ hx)) (fun x hx => w' x (List.mem_cons_of_mem _ hx)) (fun v n => ?_)
      by_cases hv : (v : Int) ≤ b.f0
      · rw [above m b.f0 v n (by omega) t1.2 hv, above r b.f0 v n (by omega) t2.2 hv]
      · have h2 := hcons v n
        rw [decide_eq_false (by omega)] at h2
        simpa using h2
def inV (vs : List S40) (v n : Nat) : Bool := vs.any fun x => decide (x.f0 = (v : Int)) && decide (n < x.f1.length)
theorem all_named (vs : List S40) (v n : Nat) : named (allS vs) v n = inV vs v n := by
  unfold named allS inV
  rw [List.any_flatMap]
  congr 1
  funext x
  have := marks_named x.f0 (fun _ => true) v n x.f1.length 0
  unfold named at this
  rw [this]
  congr 1
  simp
theorem all_bits (vs : List S40) (v n : Nat) : hasI (vs.map maskV) (v : Int) n = inV vs v n := by
  unfold hasI inV
  rw [List.any_map]
  congr 1
  funext x
  show (decide (x.f0 = (v : Int)) && (((2 ^ x.f1.length - 1 : Nat) : Int)).toNat.testBit n) = _
  rw [Int.toNat_natCast, Nat.testBit_two_pow_sub_one]
theorem maskV_rgt {vs : List S40} : ∀ {last : Int}, rgtV last vs = true → rgt last (vs.map maskV) = true := by
  induction vs with
  | nil => intro _ _; rfl
  | cons x vs ih =>
    intro last h
    rw [rgtV, Bool.and_eq_true, Bool.and_eq_true, decide_eq_true_eq] at h
    have h1 : 2 ≤ 2 ^ x.f1.length := by
      have := Nat.pow_le_pow_right (n := 2) (by omega) h.1.1.2.2.1
      simpa using this
    have h2 : (2 : Nat) ^ x.f1.length ≤ 2 ^ 32 := Nat.pow_le_pow_right (by omega) h.1.1.2.2.2
    show (decide (last < x.f0 ∧ x.f0 ≤ 255 ∧ ((2 ^ x.f1.length - 1 : Nat) : Int) ≠ 0 ∧ ((2 ^ x.f1.length - 1 : Nat) : Int) < 4294967296) && rgt x.f0 (vs.map maskV)) = true
    rw [ih h.2, Bool.and_true, decide_eq_true_eq]
    generalize 2 ^ x.f1.length = y at h1 h2
    omega
theorem maskV_nonneg (vs : List S40) : ∀ x ∈ vs.map maskV, 0 ≤ x.f1 := by
  intro x hx
  obtain ⟨y, _, rfl⟩ := List.mem_map.1 hx
  show (0 : Int) ≤ ((2 ^ y.f1.length - 1 : Nat) : Int)
  omega
theorem rightV_mem {vs : List S40} (h : rightV vs = true) : vs.length ≤ 4 ∧ rgtV 0 vs = true := by
  unfold rightV at h
  rw [Bool.and_eq_true, decide_eq_true_eq] at h
  exact h
theorem gath_nat (l : List S33) : (∀ u, (fun v => ((gath l v : Nat) : Int)) u < 4294967296) ∧ (∀ j, ∀ x ∈ bitsTo (fun v => ((gath l v : Nat) : Int)) j, 0 ≤ x.f1) := by
  constructor
  · intro u
    have := gath_lt l u
    show ((gath l u : Nat) : Int) < _
    omega
  · intro j x hx
    obtain ⟨u, _, rfl, _⟩ := bitsTo_mem _ j x hx
    show (0 : Int) ≤ ((gath l u : Nat) : Int)
    omega
theorem all_same {vs : List S40} (h : rightV vs = true) : vs.map maskV = bitsTo (fun v => ((gath (allS vs) v : Nat) : Int)) 256 := by
  obtain ⟨h4, hr⟩ := rightV_mem h
  have hg := gath_nat (allS vs)
  have hm := maskV_rgt hr
  refine rgt_ext _ _ 0 (Int.le_refl _) hm (bitsTo_rgt (fun v => ((gath (allS vs) v : Nat) : Int)) rfl hg.1 256 (Nat.le_refl _)) (maskV_nonneg vs) (hg.2 256) (fun v n => ?_)
  rw [all_bits, bitsTo_has]
  show _ = (decide (v < 256) && (gath (allS vs) v).testBit n)
  have hin : inV vs v n = true → 1 ≤ v ∧ v < 256 ∧ n < 32 := by
    intro h
    unfold inV at h
    rw [List.any_eq_true] at h
    obtain ⟨x, hx, h⟩ := h
    rw [Bool.and_eq_true, decide_eq_true_eq, decide_eq_true_eq] at h
    have := rgtV_mem hr (Int.le_refl _) x hx
    omega
  unfold gath
  by_cases h0 : v = 0
  · rw [if_pos h0, Nat.zero_testBit, Bool.and_false]
    cases hc : inV vs v n with
    | false => rfl
    | true => have := hin hc; omega
  · rw [if_neg h0, sumBits_bit, all_named]
    cases hc : inV vs v n with
    | false => simp
    | true =>
      have := hin hc
      rw [decide_eq_true this.2.1, decide_eq_true this.2.2]; rfl
theorem all_may {vs : List S40} (h : rightV vs = true) : (allS vs).all mayS = true := by
  obtain ⟨h4, hr⟩ := rightV_mem h
  unfold allS
  rw [List.all_flatMap, List.all_eq_true]
  intro x hx
  have := rgtV_mem hr (Int.le_refl _) x hx
  exact marks_may x.f0 (fun _ => true) (by omega) x.f1.length 0 (by omega)
theorem all_len (vs : List S40) (hb : ∀ x ∈ vs, x.f1.length ≤ 100) : (allS vs).length ≤ 100 * vs.length := by
  induction vs with
  | nil => exact Nat.le_refl _
  | cons x vs ih =>
    have h1 := ih fun y hy => hb y (List.mem_cons_of_mem _ hy)
    have h2 := marks_len x.f0 (fun _ => true) x.f1.length 0
    have h3 := hb x List.mem_cons_self
    show (marks x.f0 (fun _ => true) 0 x.f1.length ++ allS vs).length ≤ _
    rw [List.length_append, List.length_cons]
    omega
/-- What of a mask is left behind those of another. -/
theorem andNot_zero (a b : Nat) (ha : a < 4294967296) (hb : b < 4294967296) : (Go.bits .andNot .u64 (a : Int) (b : Int) == 0) = (List.range 32).all fun n => !(a.testBit n) || b.testBit n := by
  have hz : Go.bits .andNot .u64 (a : Int) (b : Int) = (((BitVec.ofNat 64 a &&& ~~~ BitVec.ofNat 64 b).toNat : Nat) : Int) := by
    simp only [Go.bits, BitVec.ofInt_natCast]
    show IntKind.u64.wrap (((BitVec.ofNat 64 a &&& ~~~ BitVec.ofNat 64 b).toNat : Nat) : Int) = _
    have := (BitVec.ofNat 64 a &&& ~~~ BitVec.ofNat 64 b).isLt
    rw [IntKind.wrap_u64]
    omega
  have hbit : ∀ n, (BitVec.ofNat 64 a &&& ~~~ BitVec.ofNat 64 b).toNat.testBit n = (decide (n < 64) && (a.testBit n && !b.testBit n)) := by
    intro n
    rw [BitVec.testBit_toNat, BitVec.getLsbD_and, BitVec.getLsbD_not, BitVec.getLsbD_ofNat, BitVec.getLsbD_ofNat]
    by_cases h : n < 64
    · simp [h]
    · simp [h]
  rw [hz]
  generalize (BitVec.ofNat 64 a &&& ~~~ BitVec.ofNat 64 b).toNat = z at hbit
  rw [Bool.eq_iff_iff, beq_iff_eq, List.all_eq_true]
  constructor
  · intro h n hn
    have h0 : z = 0 := by omega
    have hb := hbit n
    have hn2 := List.mem_range.1 hn
    rw [h0, Nat.zero_testBit, decide_eq_true (show n < 64 by omega)] at hb
    cases h1 : a.testBit n <;> cases h2 : b.testBit n <;> rw [h1, h2] at hb <;> first | rfl | cases hb
  · intro h
    have : z = 0 := by
      apply Nat.eq_of_testBit_eq
      intro n
      rw [hbit, Nat.zero_testBit]
      by_cases hn : n < 32
      · have h1 := h n (List.mem_range.2 hn)
        cases h1' : a.testBit n <;> cases h2' : b.testBit n <;> rw [h1', h2'] at h1 <;> first | (cases h1; done) | simp
      · rw [Nat.testBit_lt_two_pow (Nat.lt_of_lt_of_le ha (show 4294967296 ≤ 2 ^ n from Nat.pow_le_pow_right (n := 2) (by omega) (show 32 ≤ n by omega)))]
        simp
    omega
/-- Are masks within volumes? -/
def within (m : List S48) (vs : List S40) : Bool := m.all fun b => (List.range 32).all fun n => !(b.f1.toNat.testBit n) || inV vs b.f0.toNat n
theorem within_eq (m : List S48) (vs : List S40) (hm : m.length ≤ 600) (hw : ∀ x ∈ m, 0 ≤ x.f1) (hv : vs.length ≤ 10) {k : Nat} (hk : 1000 ≤ k) : dirty_Within.f k m vs = some (rgt 0 m && (rightV vs && within m vs)) := by
  unfold dirty_Within.f
  rw [right_eq m (by omega) (by omega), vright_eq vs (by omega) (by omega), all_eq vs hv hk]
  simp only [Option.bind_some]
  by_cases hr : rgt 0 m = true
  · rw [if_pos hr, hr, Bool.true_and]
    by_cases hq : rightV vs = true
    · obtain ⟨h4, hrv⟩ := rightV_mem hq
      have hmr := maskV_rgt hrv
      rw [if_pos hq, if_pos hq, hq, Bool.true_and, if_pos ⟨rgt_inB hr, rgt_inB hmr⟩]
      congr 1
      obtain ⟨M, hM, he, hbit⟩ := spr_one (vs.map maskV) (rgt_small hmr (maskV_nonneg vs))
      rw [he]
      unfold withinB within
      have hall : ∀ b ∈ m, (Go.bits .andNot .u64 b.f1 ((M b.f0.toNat : Nat) : Int) == 0) = (List.range 32).all fun n => !(b.f1.toNat.testBit n) || inV vs b.f0.toNat n := by
       intro b hb
       have h1 := rgt_mem hr (Int.le_refl _) b hb
       have h2 := hw b hb
       have e := andNot_zero b.f1.toNat (M b.f0.toNat) (by omega) (hM _)
       rw [show ((b.f1.toNat : Nat) : Int) = b.f1 from by omega] at e
       rw [e]
       congr 1
       funext n
       rw [hbit]
       congr 1
       exact all_bits vs b.f0.toNat n
      rw [Bool.eq_iff_iff, List.all_eq_true, List.all_eq_true]
      exact ⟨fun h b hb => by rw [← hall b hb]; exact h b hb, fun h b hb => by have := h b hb; rw [← hall b hb] at this; exact this⟩
    · rw [if_neg hq, Bool.eq_false_iff.2 hq]; rfl
  · rw [if_neg hr, Bool.eq_false_iff.2 hr]; rfl
end Go.Proofs.YtcigkejiompieaaDoor.Dirty
