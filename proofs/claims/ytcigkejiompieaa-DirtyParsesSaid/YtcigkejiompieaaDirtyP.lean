/- The document's reading of bytes. -/
import Derived.Test.YtcigkejiompieaaPx0
import Derived.Test.YtcigkejiompieaaPx11
import Derived.Test.YtcigkejiompieaaDirtyG
set_option linter.unusedVariables false
set_option linter.unusedSimpArgs false
namespace Go.Proofs.Ytcigkejiompieaa.Dirty
open Go.RowKit Go.Proofs.Ytcigkejiompieaa.P Go.Proofs.Ytcigkejiompieaa.Core Go.Proofs.Ytcigkejiompieaa.Oct Go.Proofs.YtcigkejiompieaaW.PrintWords Go.Proofs.YtcigkejiompieaaW.PrintLast Go.Proofs.YtcigkejiompieaaW.PrintMore

theorem bt_mk (l : List UInt8) (i : Nat) (h : i < l.length) : bt (mk l) (i : Int) = ((l[i]).toNat : Int) := bt_data (mk l) i (by rw [mk_size]; exact h)
theorem four_num (a b c d : UInt8) : IntKind.u64.wrap ((IntKind.u64.wrap ((IntKind.u64.wrap ((IntKind.u64.wrap ((IntKind.u64.wrap (a.toNat : Int)) * 16777216)) + (IntKind.u64.wrap ((IntKind.u64.wrap (b.toNat : Int)) * 65536)))) + (IntKind.u64.wrap ((IntKind.u64.wrap (c.toNat : Int)) * 256)))) + (IntKind.u64.wrap (d.toNat : Int))) = (num [a, b, c, d] : Int) := by
  have ha := a.toNat_lt
  have hb := b.toNat_lt
  have hc := c.toNat_lt
  have hd := d.toNat_lt
  have e : num [a, b, c, d] = 256 * (256 * (256 * (256 * 0 + a.toNat) + b.toNat) + c.toNat) + d.toNat := rfl
  rw [e]
  simp only [IntKind.wrap_u64]
  omega
theorem rparse_l0 (b : UInt8) (l : List UInt8) (hl : l.length ≤ 4611686018427387904) (hn : 5 * b.toNat ≤ l.length) (d : Nat) : ∀ (i k : Nat) (acc : List S63), i + d = b.toNat → d + 600 < k → acc.length ≤ i →
    counterfoilref10_Parse.l0 k (mk (b :: l)) acc (i : Int) = some (if rgt 0 (acc ++ outL d (l.drop (5 * i))) = true then (acc ++ outL d (l.drop (5 * i)), mk (l.drop (5 * b.toNat)), 0) else ([], mk [], 3)) := by
  have hb := b.toNat_lt
  have b0 : bt (mk (b :: l)) 0 = (b.toNat : Int) := bt_mk (b :: l) 0 (by simp)
  have hsz : ((mk (b :: l)).size : Int) = (l.length : Int) + 1 := by rw [mk_size, List.length_cons]; omega
  induction d with
  | zero =>
    intro i k acc hi hk ha
    obtain ⟨k, rfl⟩ : ∃ j, k = j + 1 := ⟨k - 1, by omega⟩
    have e1 : wrap64 (1 + wrap64 (5 * (b.toNat : Int))) = ((1 + 5 * b.toNat : Nat) : Int) := by rw [w64 (n := 5 * (b.toNat : Int)) (by omega) (by omega), w64 (by omega) (by omega)]; omega
    have e2 : (mk (b :: l)).extract (1 + 5 * b.toNat) (mk (b :: l)).size = mk (l.drop (5 * b.toNat)) := ba_ext (by
      rw [data_extract_list, mk_data, mk_data, mk_size, List.take_length, Nat.add_comm 1, List.drop_succ_cons])
    rw [counterfoilref10_Parse.l0, if_pos (by omega), b0, w64 (n := (b.toNat : Int)) (by omega) (by omega), if_neg (by omega), rright_eq acc (by omega) (by omega)]
    simp only [Option.bind_some, outL, List.append_nil]
    by_cases hr : rgt 0 acc = true
    · rw [if_pos hr, if_pos hr, e1, if_pos (by omega), if_pos (by omega), Int.toNat_natCast, e2]
    · rw [if_neg hr, if_neg hr]; rfl
  | succ d ih =>
    intro i k acc hi hk ha
    obtain ⟨k, rfl⟩ : ∃ j, k = j + 1 := ⟨k - 1, by omega⟩
    have e1 : wrap64 (1 + wrap64 (5 * (i : Int))) = ((1 + 5 * i : Nat) : Int) := by rw [w64 (n := 5 * (i : Int)) (by omega) (by omega), w64 (by omega) (by omega)]; omega
    have e2 : wrap64 (6 + wrap64 (5 * (i : Int))) = ((6 + 5 * i : Nat) : Int) := by rw [w64 (n := 5 * (i : Int)) (by omega) (by omega), w64 (by omega) (by omega)]; omega
    have e3 : (mk (b :: l)).extract (1 + 5 * i) (6 + 5 * i) = mk ((l.drop (5 * i)).take 5) := ba_ext (by
      rw [data_extract_list, mk_data, mk_data, Nat.add_comm 1, show 6 + 5 * i = (5 * i + 5) + 1 from by omega, List.take_succ_cons, List.drop_succ_cons, List.drop_take]
      congr 1
      omega)
    have hq : 5 ≤ (l.drop (5 * i)).length := by rw [List.length_drop]; omega
    have hd2 : l.drop (5 * (i + 1)) = (l.drop (5 * i)).drop 5 := by rw [List.drop_drop]; congr 1
    have H := ih (i + 1) k (acc ++ [(⟨(((l.drop (5 * i)).take 1).map fun b => (b.toNat : Int)).sum, (num (((l.drop (5 * i)).take 5).drop 1) : Int)⟩ : S63)]) (by omega) (by omega) (by rw [List.length_append, List.length_singleton]; omega)
    rw [hd2, List.append_assoc] at H
    have hsz2 : (mk ((l.drop (5 * i)).take 5)).size = 5 := by rw [mk_size, List.length_take]; omega
    rw [counterfoilref10_Parse.l0, if_pos (by omega), b0, w64 (n := (b.toNat : Int)) (by omega) (by omega), if_pos (by omega), e1, e2, if_pos (by omega), if_pos (by omega), if_pos (by omega), Int.toNat_natCast, Int.toNat_natCast, e3, hsz2]
    rw [if_pos (by decide), if_pos (by decide), if_pos (by decide), if_pos (by decide), if_pos (by decide), if_pos (by omega), w64 (n := (i : Int) + 1) (by omega) (by omega), show (i : Int) + 1 = ((i + 1 : Nat) : Int) from by omega]
    revert H
    generalize l.drop (5 * i) = q at hq
    match q, hq with
    | p0 :: p1 :: p2 :: p3 :: p4 :: rest, _ =>
      intro H
      have c0 : bt (mk [p0, p1, p2, p3, p4]) 0 = (p0.toNat : Int) := bt_mk [p0, p1, p2, p3, p4] 0 (by simp)
      have c1 : bt (mk [p0, p1, p2, p3, p4]) 1 = (p1.toNat : Int) := bt_mk [p0, p1, p2, p3, p4] 1 (by simp)
      have c2 : bt (mk [p0, p1, p2, p3, p4]) 2 = (p2.toNat : Int) := bt_mk [p0, p1, p2, p3, p4] 2 (by simp)
      have c3 : bt (mk [p0, p1, p2, p3, p4]) 3 = (p3.toNat : Int) := bt_mk [p0, p1, p2, p3, p4] 3 (by simp)
      have c4 : bt (mk [p0, p1, p2, p3, p4]) 4 = (p4.toNat : Int) := bt_mk [p0, p1, p2, p3, p4] 4 (by simp)
      have h0 := p0.toNat_lt
      rw [show (p0 :: p1 :: p2 :: p3 :: p4 :: rest).take 5 = [p0, p1, p2, p3, p4] from rfl, c0, c1, c2, c3, c4, four_num, w64 (by omega) (by omega)]
      have h1 : (((p0 :: p1 :: p2 :: p3 :: p4 :: rest).take 1).map fun b => (b.toNat : Int)).sum = (p0.toNat : Int) := by simp
      rw [h1] at H
      rw [outL, h1]
      exact H
theorem rparse_eq (l : List UInt8) (hl : l.length ≤ 4611686018427387904) {k : Nat} (hk : 1000 ≤ k) : counterfoilref10_Parse.f k (mk l) = some (parseS l) := by
  obtain ⟨k, rfl⟩ : ∃ j, k = j + 1 := ⟨k - 1, by omega⟩
  unfold counterfoilref10_Parse.f
  match l, hl with
  | [], _ =>
    rw [if_pos (by rw [mk_size]; rfl), counterfoilref10_Parse.j0, if_pos rfl]
    rfl
  | b :: l, hl =>
    rw [List.length_cons] at hl
    have hb := b.toNat_lt
    have b0 : bt (mk (b :: l)) 0 = (b.toNat : Int) := bt_mk (b :: l) 0 (by simp)
    have hsz : ((mk (b :: l)).size : Int) = (l.length : Int) + 1 := by rw [mk_size, List.length_cons]; omega
    have e1 : wrap64 (wrap64 ((b.toNat : Int))) = (b.toNat : Int) := by rw [w64 (n := (b.toNat : Int)) (by omega) (by omega), w64 (by omega) (by omega)]
    rw [if_neg (by omega), if_pos (by omega), b0, hsz, w64 (n := (b.toNat : Int)) (by omega) (by omega), w64 (n := 5 * (b.toNat : Int)) (by omega) (by omega), w64 (n := (l.length : Int) + 1 - 1) (by omega) (by omega), counterfoilref10_Parse.j0]
    by_cases h : l.length < 5 * b.toNat
    · rw [if_pos (by rw [decide_eq_true_eq]; omega)]
      show _ = some (if _ then _ else _)
      rw [if_pos h]
      rfl
    · have := rparse_l0 b l (by omega) (by omega) b.toNat 0 k [] (by omega) (by omega) (Nat.zero_le _)
      rw [if_neg (by rw [decide_eq_true_eq]; omega)]
      show _ = some (if _ then _ else _)
      rw [if_neg h]
      exact this
end Go.Proofs.Ytcigkejiompieaa.Dirty
