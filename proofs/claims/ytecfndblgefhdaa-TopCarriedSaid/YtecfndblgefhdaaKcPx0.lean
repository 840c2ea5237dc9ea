import Derived.Test.YtecfndblgefhdaaKcWz
import Derived.Test.YtecfndblgefhdaaKcHSum
namespace Go.Proofs.Ytecfndblgefhdaa.P
open Go.RowKit Go.Proofs.YtecfndblgefhdaaW.PrintWords Go.Proofs.YtecfndblgefhdaaW.PrintLast Go.Proofs.YtecfndblgefhdaaW.PrintMore
attribute [local go_sem] max2_int min2_int max_two min_two max_three min_three max_four min_four
set_option linter.unusedVariables false
set_option linter.unusedSimpArgs false
def errW : Option Int → Value
 | none => .nilIface
 | some c => .iface 0 (.int .i64 c)
theorem errW_none : errW none = .nilIface := rfl
theorem errW_some (c : Int) : errW (some c) = .iface 0 (.int .i64 c) := rfl
abbrev T_ : Bool := true
abbrev F_ : Bool := false
theorem w64m (x : Int) : wrap64 x % 256 = x % 256 := by unfold wrap64; omega
theorem info5 : (Try.prog.info? 5).map (fun i => (i.zero, i.size, i.bytes)) = some (some (.int .u8 0), 1, 1) := by kernel_rfl
theorem info9 : (Try.prog.info? 9).map (fun i => (i.zero, i.size, i.bytes)) = some (some (.string ⟨#[]⟩), 1, 16) := by kernel_rfl
theorem info137 : (Try.prog.info? 137).map (fun i => (i.zero, i.size, i.bytes)) = some (some (.agg #[(.int .i64 0), (.slice none 0 0)]), 2, 32) := by kernel_rfl
theorem info160 : (Try.prog.info? 160).map (fun i => (i.zero, i.size, i.bytes)) = some (some (.agg #[(.int .i64 0), (.int .i64 0)]), 2, 16) := by kernel_rfl
theorem info166 : (Try.prog.info? 166).map (fun i => (i.zero, i.size, i.bytes)) = some (some (.agg #[(.int .i64 0), (.int .u64 0)]), 2, 16) := by kernel_rfl
structure S120 where
 f0 : Int
 f1 : Int
 f2 : ByteArray
def z120 : S120 := ⟨(0 : Int), (0 : Int), (⟨#[]⟩ : ByteArray)⟩
def k120 : Kd S120 := Kd.iso (Kd.pair (Kd.int .i64) (Kd.pair (Kd.int .i64) Kd.string)) (fun x : S120 => (x.f0, x.f1, x.f2))
theorem k120_open {w : World} {x : S120} {cs : List Value} (h : k120.K w x cs) : cs = [.int .i64 x.f0, .int .i64 x.f1, .string x.f2] := by
 obtain ⟨_, _, rfl, rfl, ⟨_, _, rfl, rfl, rfl⟩⟩ := h
 exact rfl
theorem k120_mkM (w : World) (base : Nat) (ok : Nat → Prop) (x : S120)  : k120.M w base ok x [.int .i64 x.f0, .int .i64 x.f1, .string x.f2] := ⟨[.int .i64 x.f0], [.int .i64 x.f1, .string x.f2], rfl, rfl, ⟨[.int .i64 x.f1], [.string x.f2], rfl, rfl, rfl⟩⟩
def rd_T120 (xs : List S120) (i : Int) : S120 := xs.getD i.toNat z120
theorem at_T120 {w : World} {A : Option Addr} {n : Nat} {xs : List S120} (h : Kd.C k120 w A n xs) (i : Int) (h0 : 0 ≤ i) (h1 : i < n) : ∃ ad , A = some ad ∧ w.cell? (ad.add (i.toNat * 3)) = some (.int .i64 (rd_T120 xs i).f0) ∧ w.cell? ⟨(ad.add (i.toNat * 3)).block, (ad.add (i.toNat * 3)).off + 1, none⟩ = some (.int .i64 (rd_T120 xs i).f1) ∧ w.cell? ⟨(ad.add (i.toNat * 3)).block, (ad.add (i.toNat * 3)).off + 2, none⟩ = some (.string (rd_T120 xs i).f2) := by
 obtain ⟨ad, c, e, _, hK, hc0⟩ := Kd.C_get h z120 i h0 h1
 have hc : ∀ j u, c[j]? = some u → w.cell? (ad.add (i.toNat * 3 + j)) = some u := hc0
 obtain rfl := k120_open hK
 exact ⟨ad, e, hc 0 _ rfl, z0_, z1_⟩
structure S160 where
 f0 : Int
 f1 : Int
def z160 : S160 := ⟨(0 : Int), (0 : Int)⟩
def k160 : Kd S160 := Kd.iso (Kd.pair (Kd.int .i64) (Kd.int .i64)) (fun x : S160 => (x.f0, x.f1))
theorem k160_open {w : World} {x : S160} {cs : List Value} (h : k160.K w x cs) : cs = [.int .i64 x.f0, .int .i64 x.f1] := by
 obtain ⟨_, _, rfl, rfl, rfl⟩ := h
 exact rfl
theorem k160_mkM (w : World) (base : Nat) (ok : Nat → Prop) (x : S160)  : k160.M w base ok x [.int .i64 x.f0, .int .i64 x.f1] := ⟨[.int .i64 x.f0], [.int .i64 x.f1], rfl, rfl, rfl⟩
def rd_T160 (xs : List S160) (i : Int) : S160 := xs.getD i.toNat z160
theorem at_T160 {w : World} {A : Option Addr} {n : Nat} {xs : List S160} (h : Kd.C k160 w A n xs) (i : Int) (h0 : 0 ≤ i) (h1 : i < n) : ∃ ad , A = some ad ∧ w.cell? (ad.add (i.toNat * 2)) = some (.int .i64 (rd_T160 xs i).f0) ∧ w.cell? ⟨(ad.add (i.toNat * 2)).block, (ad.add (i.toNat * 2)).off + 1, none⟩ = some (.int .i64 (rd_T160 xs i).f1) := by
 obtain ⟨ad, c, e, _, hK, hc0⟩ := Kd.C_get h z160 i h0 h1
 have hc : ∀ j u, c[j]? = some u → w.cell? (ad.add (i.toNat * 2 + j)) = some u := hc0
 obtain rfl := k160_open hK
 exact ⟨ad, e, hc 0 _ rfl, z0_⟩
structure S166 where
 f0 : Int
 f1 : Int
def z166 : S166 := ⟨(0 : Int), (0 : Int)⟩
def k166 : Kd S166 := Kd.iso (Kd.pair (Kd.int .i64) (Kd.int .u64)) (fun x : S166 => (x.f0, x.f1))
theorem k166_open {w : World} {x : S166} {cs : List Value} (h : k166.K w x cs) : cs = [.int .i64 x.f0, .int .u64 x.f1] := by
 obtain ⟨_, _, rfl, rfl, rfl⟩ := h
 exact rfl
theorem k166_mkM (w : World) (base : Nat) (ok : Nat → Prop) (x : S166)  : k166.M w base ok x [.int .i64 x.f0, .int .u64 x.f1] := ⟨[.int .i64 x.f0], [.int .u64 x.f1], rfl, rfl, rfl⟩
def rd_T166 (xs : List S166) (i : Int) : S166 := xs.getD i.toNat z166
theorem at_T166 {w : World} {A : Option Addr} {n : Nat} {xs : List S166} (h : Kd.C k166 w A n xs) (i : Int) (h0 : 0 ≤ i) (h1 : i < n) : ∃ ad , A = some ad ∧ w.cell? (ad.add (i.toNat * 2)) = some (.int .i64 (rd_T166 xs i).f0) ∧ w.cell? ⟨(ad.add (i.toNat * 2)).block, (ad.add (i.toNat * 2)).off + 1, none⟩ = some (.int .u64 (rd_T166 xs i).f1) := by
 obtain ⟨ad, c, e, _, hK, hc0⟩ := Kd.C_get h z166 i h0 h1
 have hc : ∀ j u, c[j]? = some u → w.cell? (ad.add (i.toNat * 2 + j)) = some u := hc0
 obtain rfl := k166_open hK
 exact ⟨ad, e, hc 0 _ rfl, z0_⟩
structure S137 where
 f0 : Int
 f1 : (List ByteArray)
def z137 : S137 := ⟨(0 : Int), ([] : List ByteArray)⟩
def k137 : Kd S137 := Kd.iso (Kd.pair (Kd.int .i64) (Kd.slice 9 Kd.string)) (fun x : S137 => (x.f0, x.f1))
theorem k137_open {w : World} {x : S137} {cs : List Value} (h : k137.K w x cs) : ∃ A1 c1, cs = [.int .i64 x.f0, .slice A1 x.f1.length c1] ∧ x.f1.length ≤ c1 ∧ Kd.string.C w A1 x.f1.length x.f1 := by
 obtain ⟨_, _, rfl, rfl, ⟨A1, c1, rfl, l1, g1⟩⟩ := h
 exact ⟨A1, c1, rfl, l1, g1⟩
theorem k137_mkM (w : World) (base : Nat) (ok : Nat → Prop) (x : S137) {v1 : Value} (g1 : Kd.string.R 9 w base ok v1 x.f1) : k137.M w base ok x [.int .i64 x.f0, v1] := ⟨[.int .i64 x.f0], [v1], rfl, rfl, ⟨v1, rfl, g1⟩⟩
def rd_T137 (xs : List S137) (i : Int) : S137 := xs.getD i.toNat z137
theorem at_T137 {w : World} {A : Option Addr} {n : Nat} {xs : List S137} (h : Kd.C k137 w A n xs) (i : Int) (h0 : 0 ≤ i) (h1 : i < n) : ∃ ad A1 c1, A = some ad ∧ w.cell? (ad.add (i.toNat * 2)) = some (.int .i64 (rd_T137 xs i).f0) ∧ w.cell? ⟨(ad.add (i.toNat * 2)).block, (ad.add (i.toNat * 2)).off + 1, none⟩ = some (.slice A1 (rd_T137 xs i).f1.length c1) ∧ (rd_T137 xs i).f1.length ≤ c1 ∧ Kd.string.C w A1 (rd_T137 xs i).f1.length (rd_T137 xs i).f1 := by
 obtain ⟨ad, c, e, _, hK, hc0⟩ := Kd.C_get h z137 i h0 h1
 have hc : ∀ j u, c[j]? = some u → w.cell? (ad.add (i.toNat * 2 + j)) = some u := hc0
 obtain ⟨A1, c1, rfl, l1, g1⟩ := k137_open hK
 exact ⟨ad, A1, c1, e, hc 0 _ rfl, z0_, l1, g1⟩
structure S46 where
 f0 : (List S160)
 f1 : Int
def z46 : S46 := ⟨([] : List S160), (0 : Int)⟩
def k46 : Kd S46 := Kd.iso (Kd.pair (Kd.slice 160 k160) (Kd.int .i64)) (fun x : S46 => (x.f0, x.f1))
theorem k46_open {w : World} {x : S46} {cs : List Value} (h : k46.K w x cs) : ∃ A0 c0, cs = [.slice A0 x.f0.length c0, .int .i64 x.f1] ∧ x.f0.length ≤ c0 ∧ k160.C w A0 x.f0.length x.f0 := by
 obtain ⟨_, _, rfl, ⟨A0, c0, rfl, l0, g0⟩, rfl⟩ := h
 exact ⟨A0, c0, rfl, l0, g0⟩
theorem k46_mk (w : World) (x : S46) {A0 : Option Addr} {c0 : Nat} (l0 : x.f0.length ≤ c0) (g0 : k160.C w A0 x.f0.length x.f0) : k46.K w x [.slice A0 x.f0.length c0, .int .i64 x.f1] := ⟨[.slice A0 x.f0.length c0], [.int .i64 x.f1], rfl, ⟨A0, c0, rfl, l0, g0⟩, rfl⟩
structure S51 where
 f0 : Int
 f1 : Int
 f2 : (List S120)
def z51 : S51 := ⟨(0 : Int), (0 : Int), ([] : List S120)⟩
def k51 : Kd S51 := Kd.iso (Kd.pair (Kd.int .i64) (Kd.pair (Kd.int .i64) (Kd.slice 120 k120))) (fun x : S51 => (x.f0, x.f1, x.f2))
theorem k51_open {w : World} {x : S51} {cs : List Value} (h : k51.K w x cs) : ∃ A2 c2, cs = [.int .i64 x.f0, .int .i64 x.f1, .slice A2 x.f2.length c2] ∧ x.f2.length ≤ c2 ∧ k120.C w A2 x.f2.length x.f2 := by
 obtain ⟨_, _, rfl, rfl, ⟨_, _, rfl, rfl, ⟨A2, c2, rfl, l2, g2⟩⟩⟩ := h
 exact ⟨A2, c2, rfl, l2, g2⟩
theorem k51_mk (w : World) (x : S51) {A2 : Option Addr} {c2 : Nat} (l2 : x.f2.length ≤ c2) (g2 : k120.C w A2 x.f2.length x.f2) : k51.K w x [.int .i64 x.f0, .int .i64 x.f1, .slice A2 x.f2.length c2] := ⟨[.int .i64 x.f0], [.int .i64 x.f1, .slice A2 x.f2.length c2], rfl, rfl, ⟨[.int .i64 x.f1], [.slice A2 x.f2.length c2], rfl, rfl, ⟨A2, c2, rfl, l2, g2⟩⟩⟩
structure S53 where
 f0 : Int
 f1 : Int
 f2 : (List S160)
 f3 : Int
 f4 : Int
 f5 : Int
 f6 : Bool
 f7 : S46
 f8 : (List S166)
 f9 : (List Int)
 f10 : S51
def z53 : S53 := ⟨(0 : Int), (0 : Int), ([] : List S160), (0 : Int), (0 : Int), (0 : Int), false, z46, ([] : List S166), ([] : List Int), z51⟩
def k53 : Kd S53 := Kd.iso (Kd.pair (Kd.int .i64) (Kd.pair (Kd.int .i64) (Kd.pair (Kd.slice 160 k160) (Kd.pair (Kd.int .i64) (Kd.pair (Kd.int .i64) (Kd.pair (Kd.int .i64) (Kd.pair Kd.bool (Kd.pair k46 (Kd.pair (Kd.slice 166 k166) (Kd.pair (Kd.slice 3 (Kd.int .i64)) k51)))))))))) (fun x : S53 => (x.f0, x.f1, x.f2, x.f3, x.f4, x.f5, x.f6, x.f7, x.f8, x.f9, x.f10))
theorem k53_open {w : World} {x : S53} {cs : List Value} (h : k53.K w x cs) : ∃ A2 c2 A7 c7 A9 c9 A10 c10 A13 c13, cs = [.int .i64 x.f0, .int .i64 x.f1, .slice A2 x.f2.length c2, .int .i64 x.f3, .int .i64 x.f4, .int .i64 x.f5, .bool x.f6, .slice A7 x.f7.f0.length c7, .int .i64 x.f7.f1, .slice A9 x.f8.length c9, .slice A10 x.f9.length c10, .int .i64 x.f10.f0, .int .i64 x.f10.f1, .slice A13 x.f10.f2.length c13] ∧ x.f2.length ≤ c2 ∧ k160.C w A2 x.f2.length x.f2 ∧ x.f7.f0.length ≤ c7 ∧ k160.C w A7 x.f7.f0.length x.f7.f0 ∧ x.f8.length ≤ c9 ∧ k166.C w A9 x.f8.length x.f8 ∧ x.f9.length ≤ c10 ∧ (Kd.int .i64).C w A10 x.f9.length x.f9 ∧ x.f10.f2.length ≤ c13 ∧ k120.C w A13 x.f10.f2.length x.f10.f2 := by
 obtain ⟨_, _, rfl, rfl, ⟨_, _, rfl, rfl, ⟨_, _, rfl, ⟨A2, c2, rfl, l2, g2⟩, ⟨_, _, rfl, rfl, ⟨_, _, rfl, rfl, ⟨_, _, rfl, rfl, ⟨_, _, rfl, rfl, ⟨_, _, rfl, s7, ⟨_, _, rfl, ⟨A9, c9, rfl, l9, g9⟩, ⟨_, _, rfl, ⟨A10, c10, rfl, l10, g10⟩, s11⟩⟩⟩⟩⟩⟩⟩⟩⟩⟩ := h
 obtain ⟨A7, c7, rfl, l7, g7⟩ := k46_open s7
 obtain ⟨A13, c13, rfl, l13, g13⟩ := k51_open s11
 exact ⟨A2, c2, A7, c7, A9, c9, A10, c10, A13, c13, rfl, l2, g2, l7, g7, l9, g9, l10, g10, l13, g13⟩
theorem k53_mk (w : World) (x : S53) {A2 : Option Addr} {c2 : Nat} (l2 : x.f2.length ≤ c2) (g2 : k160.C w A2 x.f2.length x.f2) {A7 : Option Addr} {c7 : Nat} (l7 : x.f7.f0.length ≤ c7) (g7 : k160.C w A7 x.f7.f0.length x.f7.f0) {A9 : Option Addr} {c9 : Nat} (l9 : x.f8.length ≤ c9) (g9 : k166.C w A9 x.f8.length x.f8) {A10 : Option Addr} {c10 : Nat} (l10 : x.f9.length ≤ c10) (g10 : (Kd.int .i64).C w A10 x.f9.length x.f9) {A13 : Option Addr} {c13 : Nat} (l13 : x.f10.f2.length ≤ c13) (g13 : k120.C w A13 x.f10.f2.length x.f10.f2) : k53.K w x [.int .i64 x.f0, .int .i64 x.f1, .slice A2 x.f2.length c2, .int .i64 x.f3, .int .i64 x.f4, .int .i64 x.f5, .bool x.f6, .slice A7 x.f7.f0.length c7, .int .i64 x.f7.f1, .slice A9 x.f8.length c9, .slice A10 x.f9.length c10, .int .i64 x.f10.f0, .int .i64 x.f10.f1, .slice A13 x.f10.f2.length c13] := ⟨[.int .i64 x.f0], [.int .i64 x.f1, .slice A2 x.f2.length c2, .int .i64 x.f3, .int .i64 x.f4, .int .i64 x.f5, .bool x.f6, .slice A7 x.f7.f0.length c7, .int .i64 x.f7.f1, .slice A9 x.f8.length c9, .slice A10 x.f9.length c10, .int .i64 x.f10.f0, .int .i64 x.f10.f1, .slice A13 x.f10.f2.length c13], rfl, rfl, ⟨[.int .i64 x.f1], [.slice A2 x.f2.length c2, .int .i64 x.f3, .int .i64 x.f4, .int .i64 x.f5, .bool x.f6, .slice A7 x.f7.f0.length c7, .int .i64 x.f7.f1, .slice A9 x.f8.length c9, .slice A10 x.f9.length c10, .int .i64 x.f10.f0, .int .i64 x.f10.f1, .slice A13 x.f10.f2.length c13], rfl, rfl, ⟨[.slice A2 x.f2.length c2], [.int .i64 x.f3, .int .i64 x.f4, .int .i64 x.f5, .bool x.f6, .slice A7 x.f7.f0.length c7, .int .i64 x.f7.f1, .slice A9 x.f8.length c9, .slice A10 x.f9.length c10, .int .i64 x.f10.f0, .int .i64 x.f10.f1, .slice A13 x.f10.f2.length c13], rfl, ⟨A2, c2, rfl, l2, g2⟩, ⟨[.int .i64 x.f3], [.int .i64 x.f4, .int .i64 x.f5, .bool x.f6, .slice A7 x.f7.f0.length c7, .int .i64 x.f7.f1, .slice A9 x.f8.length c9, .slice A10 x.f9.length c10, .int .i64 x.f10.f0, .int .i64 x.f10.f1, .slice A13 x.f10.f2.length c13], rfl, rfl, ⟨[.int .i64 x.f4], [.int .i64 x.f5, .bool x.f6, .slice A7 x.f7.f0.length c7, .int .i64 x.f7.f1, .slice A9 x.f8.length c9, .slice A10 x.f9.length c10, .int .i64 x.f10.f0, .int .i64 x.f10.f1, .slice A13 x.f10.f2.length c13], rfl, rfl, ⟨[.int .i64 x.f5], [.bool x.f6, .slice A7 x.f7.f0.length c7, .int .i64 x.f7.f1, .slice A9 x.f8.length c9, .slice A10 x.f9.length c10, .int .i64 x.f10.f0, .int .i64 x.f10.f1, .slice A13 x.f10.f2.length c13], rfl, rfl, ⟨[.bool x.f6], [.slice A7 x.f7.f0.length c7, .int .i64 x.f7.f1, .slice A9 x.f8.length c9, .slice A10 x.f9.length c10, .int .i64 x.f10.f0, .int .i64 x.f10.f1, .slice A13 x.f10.f2.length c13], rfl, rfl, ⟨[.slice A7 x.f7.f0.length c7, .int .i64 x.f7.f1], [.slice A9 x.f8.length c9, .slice A10 x.f9.length c10, .int .i64 x.f10.f0, .int .i64 x.f10.f1, .slice A13 x.f10.f2.length c13], rfl, (k46_mk w x.f7 l7 g7), ⟨[.slice A9 x.f8.length c9], [.slice A10 x.f9.length c10, .int .i64 x.f10.f0, .int .i64 x.f10.f1, .slice A13 x.f10.f2.length c13], rfl, ⟨A9, c9, rfl, l9, g9⟩, ⟨[.slice A10 x.f9.length c10], [.int .i64 x.f10.f0, .int .i64 x.f10.f1, .slice A13 x.f10.f2.length c13], rfl, ⟨A10, c10, rfl, l10, g10⟩, (k51_mk w x.f10 l13 g13)⟩⟩⟩⟩⟩⟩⟩⟩⟩⟩
def rd_T53 (xs : List S53) (i : Int) : S53 := xs.getD i.toNat z53
theorem at_T53 {w : World} {A : Option Addr} {n : Nat} {xs : List S53} (h : Kd.C k53 w A n xs) (i : Int) (h0 : 0 ≤ i) (h1 : i < n) : ∃ ad A2 c2 A7 c7 A9 c9 A10 c10 A13 c13, A = some ad ∧ w.cell? (ad.add (i.toNat * 14)) = some (.int .i64 (rd_T53 xs i).f0) ∧ w.cell? ⟨(ad.add (i.toNat * 14)).block, (ad.add (i.toNat * 14)).off + 1, none⟩ = some (.int .i64 (rd_T53 xs i).f1) ∧ w.cell? ⟨(ad.add (i.toNat * 14)).block, (ad.add (i.toNat * 14)).off + 2, none⟩ = some (.slice A2 (rd_T53 xs i).f2.length c2) ∧ w.cell? ⟨(ad.add (i.toNat * 14)).block, (ad.add (i.toNat * 14)).off + 3, none⟩ = some (.int .i64 (rd_T53 xs i).f3) ∧ w.cell? ⟨(ad.add (i.toNat * 14)).block, (ad.add (i.toNat * 14)).off + 4, none⟩ = some (.int .i64 (rd_T53 xs i).f4) ∧ w.cell? ⟨(ad.add (i.toNat * 14)).block, (ad.add (i.toNat * 14)).off + 5, none⟩ = some (.int .i64 (rd_T53 xs i).f5) ∧ w.cell? ⟨(ad.add (i.toNat * 14)).block, (ad.add (i.toNat * 14)).off + 6, none⟩ = some (.bool (rd_T53 xs i).f6) ∧ w.cell? ⟨(ad.add (i.toNat * 14)).block, (ad.add (i.toNat * 14)).off + 7, none⟩ = some (.slice A7 (rd_T53 xs i).f7.f0.length c7) ∧ w.cell? ⟨(ad.add (i.toNat * 14)).block, (ad.add (i.toNat * 14)).off + 8, none⟩ = some (.int .i64 (rd_T53 xs i).f7.f1) ∧ w.cell? ⟨(ad.add (i.toNat * 14)).block, (ad.add (i.toNat * 14)).off + 9, none⟩ = some (.slice A9 (rd_T53 xs i).f8.length c9) ∧ w.cell? ⟨(ad.add (i.toNat * 14)).block, (ad.add (i.toNat * 14)).off + 10, none⟩ = some (.slice A10 (rd_T53 xs i).f9.length c10) ∧ w.cell? ⟨(ad.add (i.toNat * 14)).block, (ad.add (i.toNat * 14)).off + 11, none⟩ = some (.int .i64 (rd_T53 xs i).f10.f0) ∧ w.cell? ⟨(ad.add (i.toNat * 14)).block, (ad.add (i.toNat * 14)).off + 12, none⟩ = some (.int .i64 (rd_T53 xs i).f10.f1) ∧ w.cell? ⟨(ad.add (i.toNat * 14)).block, (ad.add (i.toNat * 14)).off + 13, none⟩ = some (.slice A13 (rd_T53 xs i).f10.f2.length c13) ∧ (rd_T53 xs i).f2.length ≤ c2 ∧ k160.C w A2 (rd_T53 xs i).f2.length (rd_T53 xs i).f2 ∧ (rd_T53 xs i).f7.f0.length ≤ c7 ∧ k160.C w A7 (rd_T53 xs i).f7.f0.length (rd_T53 xs i).f7.f0 ∧ (rd_T53 xs i).f8.length ≤ c9 ∧ k166.C w A9 (rd_T53 xs i).f8.length (rd_T53 xs i).f8 ∧ (rd_T53 xs i).f9.length ≤ c10 ∧ (Kd.int .i64).C w A10 (rd_T53 xs i).f9.length (rd_T53 xs i).f9 ∧ (rd_T53 xs i).f10.f2.length ≤ c13 ∧ k120.C w A13 (rd_T53 xs i).f10.f2.length (rd_T53 xs i).f10.f2 := by
 obtain ⟨ad, c, e, _, hK, hc0⟩ := Kd.C_get h z53 i h0 h1
 have hc : ∀ j u, c[j]? = some u → w.cell? (ad.add (i.toNat * 14 + j)) = some u := hc0
 obtain ⟨A2, c2, A7, c7, A9, c9, A10, c10, A13, c13, rfl, l2, g2, l7, g7, l9, g9, l10, g10, l13, g13⟩ := k53_open hK
 exact ⟨ad, A2, c2, A7, c7, A9, c9, A10, c10, A13, c13, e, hc 0 _ rfl, z0_, z1_, by rw [← add_field _ _ 3 z2_]; exact hc 3 _ rfl, by rw [← add_field _ _ 4 z2_]; exact hc 4 _ rfl, by rw [← add_field _ _ 5 z2_]; exact hc 5 _ rfl, by rw [← add_field _ _ 6 z2_]; exact hc 6 _ rfl, by rw [← add_field _ _ 7 z2_]; exact hc 7 _ rfl, by rw [← add_field _ _ 8 z2_]; exact hc 8 _ rfl, by rw [← add_field _ _ 9 z2_]; exact hc 9 _ rfl, by rw [← add_field _ _ 10 z2_]; exact hc 10 _ rfl, by rw [← add_field _ _ 11 z2_]; exact hc 11 _ rfl, by rw [← add_field _ _ 12 z2_]; exact hc 12 _ rfl, by rw [← add_field _ _ 13 z2_]; exact hc 13 _ rfl, l2, g2, l7, g7, l9, g9, l10, g10, l13, g13⟩
structure S26 where
 f0 : Int
 f1 : Int
 f2 : Int
 f3 : (List ByteArray)
 f4 : Int
structure S93 where
 f0 : Int
 f1 : ByteArray
def z93 : S93 := ⟨(0 : Int), (⟨#[]⟩ : ByteArray)⟩
def k93 : Kd S93 := Kd.iso (Kd.pair (Kd.int .i64) Kd.string) (fun x : S93 => (x.f0, x.f1))
theorem k93_open {w : World} {x : S93} {cs : List Value} (h : k93.K w x cs) : cs = [.int .i64 x.f0, .string x.f1] := by
 obtain ⟨_, _, rfl, rfl, rfl⟩ := h
 exact rfl
theorem k93_mkM (w : World) (base : Nat) (ok : Nat → Prop) (x : S93)  : k93.M w base ok x [.int .i64 x.f0, .string x.f1] := ⟨[.int .i64 x.f0], [.string x.f1], rfl, rfl, rfl⟩
def rd_T93 (xs : List S93) (i : Int) : S93 := xs.getD i.toNat z93
theorem at_T93 {w : World} {A : Option Addr} {n : Nat} {xs : List S93} (h : Kd.C k93 w A n xs) (i : Int) (h0 : 0 ≤ i) (h1 : i < n) : ∃ ad , A = some ad ∧ w.cell? (ad.add (i.toNat * 2)) = some (.int .i64 (rd_T93 xs i).f0) ∧ w.cell? ⟨(ad.add (i.toNat * 2)).block, (ad.add (i.toNat * 2)).off + 1, none⟩ = some (.string (rd_T93 xs i).f1) := by
 obtain ⟨ad, c, e, _, hK, hc0⟩ := Kd.C_get h z93 i h0 h1
 have hc : ∀ j u, c[j]? = some u → w.cell? (ad.add (i.toNat * 2 + j)) = some u := hc0
 obtain rfl := k93_open hK
 exact ⟨ad, e, hc 0 _ rfl, z0_⟩
structure S42 where
 f0 : Int
 f1 : Int
def z42 : S42 := ⟨(0 : Int), (0 : Int)⟩
def k42 : Kd S42 := Kd.iso (Kd.pair (Kd.int .i64) (Kd.int .i64)) (fun x : S42 => (x.f0, x.f1))
theorem k42_open {w : World} {x : S42} {cs : List Value} (h : k42.K w x cs) : cs = [.int .i64 x.f0, .int .i64 x.f1] := by
 obtain ⟨_, _, rfl, rfl, rfl⟩ := h
 exact rfl
def rd_T42 (xs : List S42) (i : Int) : S42 := xs.getD i.toNat z42
theorem at_T42 {w : World} {A : Option Addr} {n : Nat} {xs : List S42} (h : Kd.C k42 w A n xs) (i : Int) (h0 : 0 ≤ i) (h1 : i < n) : ∃ ad , A = some ad ∧ w.cell? (ad.add (i.toNat * 2)) = some (.int .i64 (rd_T42 xs i).f0) ∧ w.cell? ⟨(ad.add (i.toNat * 2)).block, (ad.add (i.toNat * 2)).off + 1, none⟩ = some (.int .i64 (rd_T42 xs i).f1) := by
 obtain ⟨ad, c, e, _, hK, hc0⟩ := Kd.C_get h z42 i h0 h1
 have hc : ∀ j u, c[j]? = some u → w.cell? (ad.add (i.toNat * 2 + j)) = some u := hc0
 obtain rfl := k42_open hK
 exact ⟨ad, e, hc 0 _ rfl, z0_⟩
end Go.Proofs.Ytecfndblgefhdaa.P
