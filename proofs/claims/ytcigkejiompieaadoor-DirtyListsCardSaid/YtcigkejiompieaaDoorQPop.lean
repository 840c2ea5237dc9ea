/- Counting: how many bits a number has, and how many blocks are marked. -/
import Derived.Test.YtcigkejiompieaaDoorPx0
import Derived.Test.YtcigkejiompieaaDoorPx3
import Derived.Test.YtcigkejiompieaaDoorPx9
import Derived.Test.YtcigkejiompieaaDoorQDirtyE
set_option linter.unusedVariables false
set_option linter.unusedSimpArgs false
namespace Go.Proofs.YtcigkejiompieaaDoor.Dirty
open Go.RowKit Go.Proofs.YtcigkejiompieaaDoor.P Go.Proofs.YtcigkejiompieaaDoorW.PrintWords Go.Proofs.YtcigkejiompieaaDoorW.PrintLast Go.Proofs.YtcigkejiompieaaDoorW.PrintMore

def pc : Nat → Nat → Nat
  | 0, _ => 0
  | n + 1, x => pc n x + (if x.testBit n = true then 1 else 0)
theorem pc_or (n x y : Nat) : pc n (x ||| y) ≤ pc n x + pc n y := by
  induction n with
  | zero => exact Nat.le_refl _
  | succ n ih =>
    show pc n (x ||| y) + _ ≤ (pc n x + _) + (pc n y + _)
    rw [Nat.testBit_or]
    cases h1 : x.testBit n <;> cases h2 : y.testBit n <;> simp <;> omega
theorem pc_congr (n : Nat) {x y : Nat} (h : ∀ i, i < n → x.testBit i = y.testBit i) : pc n x = pc n y := by
  induction n with
  | zero => rfl
  | succ n ih =>
    show pc n x + _ = pc n y + _
    rw [ih fun i hi => h i (by omega), h n (by omega)]
theorem pc_split (m n x : Nat) : pc (m + n) x = pc m (x % 2 ^ m) + pc n (x / 2 ^ m) := by
  induction n with
  | zero =>
    show pc m x = pc m (x % 2 ^ m) + 0
    rw [Nat.add_zero]
    exact pc_congr m fun i hi => by rw [Nat.testBit_mod_two_pow, decide_eq_true hi, Bool.true_and]
  | succ n ih =>
    show pc (m + n) x + _ = pc m (x % 2 ^ m) + (pc n (x / 2 ^ m) + _)
    rw [ih, Nat.testBit_div_two_pow, Nat.add_comm n m, Nat.add_assoc]
    rfl
theorem and_bytes (x c M : Nat) (hc : c < 256) : x &&& (c + 256 * M) = (x % 256 &&& c) + 256 * (x / 256 &&& M) := by
  have h1 := Nat.and_mod_two_pow (a := x) (b := c + 256 * M) (n := 8)
  have h2 := Nat.and_div_two_pow (a := x) (b := c + 256 * M) (n := 8)
  have e1 : (c + 256 * M) % 2 ^ 8 = c := by omega
  have e2 : (c + 256 * M) / 2 ^ 8 = M := by omega
  rw [e1] at h1
  rw [e2] at h2
  have := Nat.mod_add_div (x &&& (c + 256 * M)) (2 ^ 8)
  rw [h1, h2] at this
  exact this.symm
theorem b1 : ∀ b < 256, ∀ e < 2, ((b / 2 + 128 * e) &&& 85) = (b / 2 &&& 85) := by decide +kernel
theorem b2 : ∀ b < 256, ∀ e < 4, ((b / 4 + 64 * e) &&& 51) = (b / 4 &&& 51) := by decide +kernel
def g1 (b : Nat) : Nat := (b / 2 &&& 85) + (b &&& 85)
def g2 (b : Nat) : Nat := (b / 4 &&& 51) + (b &&& 51)
theorem st1 (x M : Nat) : (x / 2 &&& (85 + 256 * M)) + (x &&& (85 + 256 * M)) = g1 (x % 256) + 256 * ((x / 256 / 2 &&& M) + (x / 256 &&& M)) := by
  rw [and_bytes _ _ _ (by omega), and_bytes x _ _ (by omega)]
  have := b1 (x % 256) (by omega) (x / 256 % 2) (by omega)
  rw [show x % 256 / 2 + 128 * (x / 256 % 2) = x / 2 % 256 by omega] at this
  rw [this, show x / 2 / 256 = x / 256 / 2 by omega]
  unfold g1
  omega
theorem st2 (x M : Nat) : (x / 4 &&& (51 + 256 * M)) + (x &&& (51 + 256 * M)) = g2 (x % 256) + 256 * ((x / 256 / 4 &&& M) + (x / 256 &&& M)) := by
  rw [and_bytes _ _ _ (by omega), and_bytes x _ _ (by omega)]
  have := b2 (x % 256) (by omega) (x / 256 % 4) (by omega)
  rw [show x % 256 / 4 + 64 * (x / 256 % 4) = x / 4 % 256 by omega] at this
  rw [this, show x / 4 / 256 = x / 256 / 4 by omega]
  unfold g2
  omega
theorem g12 : ∀ b < 256, g1 b < 256 ∧ g2 (g1 b) < 256 ∧ g2 (g1 b) % 16 ≤ 4 ∧ g2 (g1 b) / 16 ≤ 4 ∧ g2 (g1 b) % 16 + g2 (g1 b) / 16 = pc 8 b := by decide +kernel
theorem f1 (x : Nat) (hx : x < 4294967296) : (x / 2 &&& 6148914691236517205) + (x &&& 6148914691236517205) = g1 (x % 256) + 256 * (g1 (x / 256 % 256) + 256 * (g1 (x / 256 / 256 % 256) + 256 * g1 (x / 256 / 256 / 256 % 256))) := by
  rw [show 6148914691236517205 = 85 + 256 * (85 + 256 * (85 + 256 * (85 + 256 * 1431655765))) from rfl, st1, st1, st1, st1, show x / 256 / 256 / 256 / 256 = 0 by omega]
  simp
theorem f2 (x : Nat) (hx : x < 4294967296) : (x / 4 &&& 3689348814741910323) + (x &&& 3689348814741910323) = g2 (x % 256) + 256 * (g2 (x / 256 % 256) + 256 * (g2 (x / 256 / 256 % 256) + 256 * g2 (x / 256 / 256 / 256 % 256))) := by
  rw [show 3689348814741910323 = 51 + 256 * (51 + 256 * (51 + 256 * (51 + 256 * 858993459))) from rfl, st2, st2, st2, st2, show x / 256 / 256 / 256 / 256 = 0 by omega]
  simp
theorem b3 : ∀ b < 256, (b &&& 15) = b % 16 := by decide +kernel
theorem f3 (x : Nat) (hx : x < 4294967296) : (x &&& 1085102592571150095) = x % 16 + 256 * (x / 256 % 16 + 256 * (x / 256 / 256 % 16 + 256 * (x / 256 / 256 / 256 % 16))) := by
  rw [show 1085102592571150095 = 15 + 256 * (15 + 256 * (15 + 256 * (15 + 256 * 252645135))) from rfl, and_bytes _ _ _ (by omega), and_bytes _ _ _ (by omega), and_bytes _ _ _ (by omega), and_bytes _ _ _ (by omega), show x / 256 / 256 / 256 / 256 = 0 by omega, b3 _ (by omega), b3 _ (by omega), b3 _ (by omega), b3 _ (by omega)]
  simp only [Nat.zero_and, Nat.mul_zero, Nat.add_zero]
  rw [show x % 256 % 16 = x % 16 by omega, show x / 256 % 256 % 16 = x / 256 % 16 by omega, show x / 256 / 256 % 256 % 16 = x / 256 / 256 % 16 by omega, show x / 256 / 256 / 256 % 256 % 16 = x / 256 / 256 / 256 % 16 by omega]
def s1 (x : Nat) : Nat := (x / 2 &&& 6148914691236517205) + (x &&& 6148914691236517205)
def s2 (x : Nat) : Nat := (x / 4 &&& 3689348814741910323) + (x &&& 3689348814741910323)
def s3 (x : Nat) : Nat := (x / 16 + x) &&& 1085102592571150095
def s4 (x : Nat) : Nat := x + x / 256
def s5 (x : Nat) : Nat := x + x / 65536
def s6 (x : Nat) : Nat := x + x / 4294967296
theorem pc32 (x : Nat) : pc 32 x = pc 8 (x % 256) + (pc 8 (x / 256 % 256) + (pc 8 (x / 256 / 256 % 256) + pc 8 (x / 256 / 256 / 256 % 256))) := by
  rw [show (32 : Nat) = 8 + 24 from rfl, pc_split, show (24 : Nat) = 8 + 16 from rfl, pc_split, show (16 : Nat) = 8 + 8 from rfl, pc_split 8 8]
  have : pc 8 (x / 2 ^ 8 / 2 ^ 8 / 2 ^ 8) = pc 8 (x / 2 ^ 8 / 2 ^ 8 / 2 ^ 8 % 2 ^ 8) := pc_congr 8 fun i hi => by rw [Nat.testBit_mod_two_pow, decide_eq_true hi, Bool.true_and]
  rw [this]
def cat (a b c d : Nat) : Nat := a + 256 * (b + 256 * (c + 256 * d))
theorem cat_lt {a b c d : Nat} (ha : a < 256) (hb : b < 256) (hc : c < 256) (hd : d < 256) : cat a b c d < 4294967296 := by unfold cat; omega
theorem cat_div {a b c d : Nat} (ha : a < 256) : cat a b c d / 256 = b + 256 * (c + 256 * d) := by unfold cat; omega
theorem cat_div2 {a b c d : Nat} (ha : a < 256) (hb : b < 256) : cat a b c d / 256 / 256 = c + 256 * d := by rw [cat_div ha]; omega
theorem cat_div3 {a b c d : Nat} (ha : a < 256) (hb : b < 256) (hc : c < 256) : cat a b c d / 256 / 256 / 256 = d := by rw [cat_div2 ha hb]; omega
theorem cat_0 {a b c d : Nat} (ha : a < 256) : cat a b c d % 256 = a := by unfold cat; omega
theorem cat_1 {a b c d : Nat} (ha : a < 256) (hb : b < 256) : cat a b c d / 256 % 256 = b := by rw [cat_div ha]; omega
theorem cat_2 {a b c d : Nat} (ha : a < 256) (hb : b < 256) (hc : c < 256) : cat a b c d / 256 / 256 % 256 = c := by rw [cat_div2 ha hb]; omega
theorem cat_3 {a b c d : Nat} (ha : a < 256) (hb : b < 256) (hc : c < 256) (hd : d < 256) : cat a b c d / 256 / 256 / 256 % 256 = d := by rw [cat_div3 ha hb hc]; omega
theorem n3 {a b c d p q r s : Nat} (ha : a ≤ 4) (hb : b ≤ 4) (hc : c ≤ 4) (hd : d ≤ 4) (hp : p ≤ 4) (hq : q ≤ 4) (hr : r ≤ 4) (hs : s ≤ 4) :
    cat (a + 16 * p) (b + 16 * q) (c + 16 * r) (d + 16 * s) / 16 + cat (a + 16 * p) (b + 16 * q) (c + 16 * r) (d + 16 * s) = cat (a + p + 16 * (p + b)) (b + q + 16 * (q + c)) (c + r + 16 * (r + d)) (d + s + 16 * s) := by
  have : cat (a + 16 * p) (b + 16 * q) (c + 16 * r) (d + 16 * s) / 16 = p + 16 * (b + 16 * q + 256 * (c + 16 * r + 256 * (d + 16 * s))) := by unfold cat; omega
  rw [this]; unfold cat; omega
theorem n4 {a b c d : Nat} (ha : a ≤ 8) (hb : b ≤ 8) (hc : c ≤ 8) (hd : d ≤ 8) : s4 (cat a b c d) = cat (a + b) (b + c) (c + d) d := by
  unfold s4; rw [cat_div (by omega)]; unfold cat; omega
theorem n5 {a b c d : Nat} (ha : a ≤ 16) (hb : b ≤ 16) (hc : c ≤ 16) (hd : d ≤ 16) : s5 (cat a b c d) = cat (a + c) (b + d) c d := by
  unfold s5; rw [show (65536 : Nat) = 256 * 256 from rfl, ← Nat.div_div_eq_div_mul, cat_div2 (by omega) (by omega)]; unfold cat; omega
theorem n6 {a b c d : Nat} (ha : a < 256) (hb : b < 256) (hc : c < 256) (hd : d < 256) : s6 (cat a b c d) = cat a b c d := by
  have := cat_lt ha hb hc hd
  unfold s6; omega
theorem n7 (a b c d : Nat) : cat a b c d % 128 = a % 128 := by unfold cat; omega
theorem pop_all (x : Nat) (hx : x < 4294967296) : s1 x < 4294967296 ∧ s2 (s1 x) < 4294967296 ∧ s2 (s1 x) / 16 + s2 (s1 x) < 4294967296 ∧ s3 (s2 (s1 x)) < 4294967296 ∧ s4 (s3 (s2 (s1 x))) < 4294967296 ∧ s5 (s4 (s3 (s2 (s1 x)))) < 4294967296 ∧ s6 (s5 (s4 (s3 (s2 (s1 x))))) < 4294967296 ∧ s6 (s5 (s4 (s3 (s2 (s1 x))))) % 128 = pc 32 x := by
  have h0 := g12 (x % 256) (Nat.mod_lt _ (by decide))
  have h1 := g12 (x / 256 % 256) (Nat.mod_lt _ (by decide))
  have h2 := g12 (x / 256 / 256 % 256) (Nat.mod_lt _ (by decide))
  have h3 := g12 (x / 256 / 256 / 256 % 256) (Nat.mod_lt _ (by decide))
  have e1 : s1 x = cat _ _ _ _ := f1 x hx
  have p := pc32 x
  rw [← h0.2.2.2.2, ← h1.2.2.2.2, ← h2.2.2.2.2, ← h3.2.2.2.2] at p
  rw [p, e1]
  clear p e1
  have l1 := cat_lt h0.1 h1.1 h2.1 h3.1
  have e2 : s2 (cat _ _ _ _) = cat _ _ _ _ := f2 _ l1
  rw [cat_0 h0.1, cat_1 h0.1 h1.1, cat_2 h0.1 h1.1 h2.1, cat_3 h0.1 h1.1 h2.1 h3.1] at e2
  rw [e2]
  refine ⟨l1, cat_lt h0.2.1 h1.2.1 h2.2.1 h3.2.1, ?_⟩
  replace h0 := h0.2.2
  replace h1 := h1.2.2
  replace h2 := h2.2.2
  replace h3 := h3.2.2
  clear e2 l1
  generalize g2 (g1 (x % 256)) = u0 at *
  generalize g2 (g1 (x / 256 % 256)) = u1 at *
  generalize g2 (g1 (x / 256 / 256 % 256)) = u2 at *
  generalize g2 (g1 (x / 256 / 256 / 256 % 256)) = u3 at *
  replace h0 := And.intro h0.1 h0.2.1
  replace h1 := And.intro h1.1 h1.2.1
  replace h2 := And.intro h2.1 h2.2.1
  replace h3 := And.intro h3.1 h3.2.1
  clear hx
  have a0 : u0 = u0 % 16 + 16 * (u0 / 16) := by omega
  have a1 : u1 = u1 % 16 + 16 * (u1 / 16) := by omega
  have a2 : u2 = u2 % 16 + 16 * (u2 / 16) := by omega
  have a3 : u3 = u3 % 16 + 16 * (u3 / 16) := by omega
  revert h0 h1 h2 h3 a0 a1 a2 a3
  generalize u0 % 16 = l0
  generalize u1 % 16 = l1
  generalize u2 % 16 = l2
  generalize u3 % 16 = l3
  generalize u0 / 16 = k0
  generalize u1 / 16 = k1
  generalize u2 / 16 = k2
  generalize u3 / 16 = k3
  rintro ⟨c0, d0⟩ ⟨c1, d1⟩ ⟨c2, d2⟩ ⟨c3, d3⟩ rfl rfl rfl rfl
  have z := n3 c0 c1 c2 c3 d0 d1 d2 d3
  have r0 : l0 + k0 + 16 * (k0 + l1) < 256 := by omega
  have r1 : l1 + k1 + 16 * (k1 + l2) < 256 := by omega
  have r2 : l2 + k2 + 16 * (k2 + l3) < 256 := by omega
  have r3 : l3 + k3 + 16 * k3 < 256 := by omega
  have q := cat_lt r0 r1 r2 r3
  have e3 := f3 _ q
  rw [← z] at e3
  rw [z] at e3 ⊢
  rw [← z] at e3
  have m0 : cat (l0 + k0 + 16 * (k0 + l1)) (l1 + k1 + 16 * (k1 + l2)) (l2 + k2 + 16 * (k2 + l3)) (l3 + k3 + 16 * k3) % 16 = l0 + k0 := by unfold cat; omega
  have m1 : cat (l0 + k0 + 16 * (k0 + l1)) (l1 + k1 + 16 * (k1 + l2)) (l2 + k2 + 16 * (k2 + l3)) (l3 + k3 + 16 * k3) / 256 % 16 = l1 + k1 := by rw [cat_div r0]; omega
  have m2 : cat (l0 + k0 + 16 * (k0 + l1)) (l1 + k1 + 16 * (k1 + l2)) (l2 + k2 + 16 * (k2 + l3)) (l3 + k3 + 16 * k3) / 256 / 256 % 16 = l2 + k2 := by rw [cat_div2 r0 r1]; omega
  have m3 : cat (l0 + k0 + 16 * (k0 + l1)) (l1 + k1 + 16 * (k1 + l2)) (l2 + k2 + 16 * (k2 + l3)) (l3 + k3 + 16 * k3) / 256 / 256 / 256 % 16 = l3 + k3 := by rw [cat_div3 r0 r1 r2]; omega
  have e4 : s3 (cat (l0 + 16 * k0) (l1 + 16 * k1) (l2 + 16 * k2) (l3 + 16 * k3)) = cat (l0 + k0) (l1 + k1) (l2 + k2) (l3 + k3) := by
    unfold s3
    rw [z, f3 _ q, m0, m1, m2, m3]
    rfl
  clear e3 m0 m1 m2 m3 z
  have b0 : l0 + k0 ≤ 8 := by omega
  have b1 : l1 + k1 ≤ 8 := by omega
  have b2 : l2 + k2 ≤ 8 := by omega
  have b3 : l3 + k3 ≤ 8 := by omega
  clear r0 r1 r2 r3
  generalize l0 + k0 = v0 at *
  generalize l1 + k1 = v1 at *
  generalize l2 + k2 = v2 at *
  generalize l3 + k3 = v3 at *
  rw [e4, n4 b0 b1 b2 b3, n5 (by omega) (by omega) (by omega) (by omega), n6 (by omega) (by omega) (by omega) (by omega), n7]
  exact ⟨q, cat_lt (by omega) (by omega) (by omega) (by omega), cat_lt (by omega) (by omega) (by omega) (by omega), cat_lt (by omega) (by omega) (by omega) (by omega), cat_lt (by omega) (by omega) (by omega) (by omega), by omega⟩
theorem bits_and64 (a b : Nat) (ha : a < 18446744073709551616) (hb : b < 18446744073709551616) : Go.bits .and .u64 (a : Int) (b : Int) = ((a &&& b : Nat) : Int) := by
  have h := Nat.and_lt_two_pow (n := 64) a hb
  simp only [Go.bits, BitVec.ofInt_natCast, BitVec.toNat_and, BitVec.toNat_ofNat]
  rw [show IntKind.u64.bits = 64 from rfl, Nat.mod_eq_of_lt ha, Nat.mod_eq_of_lt hb]
  rw [IntKind.wrap_u64]
  omega
theorem wrapN (a : Nat) (h : a < 18446744073709551616) : IntKind.u64.wrap (a : Int) = (a : Int) := by rw [IntKind.wrap_u64]; omega
theorem i1 (x : Nat) (h : x < 4294967296) (h1 : s1 x < 4294967296) : IntKind.u64.wrap ((Go.bits .and .u64 ((x : Int) / 2) 6148914691236517205) + (Go.bits .and .u64 (x : Int) 6148914691236517205)) = ((s1 x : Nat) : Int) := by
  have e1 : Go.bits .and .u64 (x : Int) 6148914691236517205 = _ := bits_and64 x 6148914691236517205 (by omega) (by decide)
  have e2 : Go.bits .and .u64 ((x : Int) / 2) 6148914691236517205 = _ := bits_and64 (x / 2) 6148914691236517205 (by omega) (by decide)
  rw [e1, e2, ← Int.natCast_add]
  exact wrapN _ (by unfold s1 at h1; omega)
theorem i2 (x : Nat) (h : x < 4294967296) (h1 : s2 x < 4294967296) : IntKind.u64.wrap ((Go.bits .and .u64 ((x : Int) / 4) 3689348814741910323) + (Go.bits .and .u64 (x : Int) 3689348814741910323)) = ((s2 x : Nat) : Int) := by
  have e1 : Go.bits .and .u64 (x : Int) 3689348814741910323 = _ := bits_and64 x 3689348814741910323 (by omega) (by decide)
  have e2 : Go.bits .and .u64 ((x : Int) / 4) 3689348814741910323 = _ := bits_and64 (x / 4) 3689348814741910323 (by omega) (by decide)
  rw [e1, e2, ← Int.natCast_add]
  exact wrapN _ (by unfold s2 at h1; omega)
theorem i3 (x : Nat) (h : x < 4294967296) : Go.bits .and .u64 (IntKind.u64.wrap ((x : Int) / 16 + (x : Int))) 1085102592571150095 = ((s3 x : Nat) : Int) := by
  rw [show (x : Int) / 16 + (x : Int) = ((x / 16 + x : Nat) : Int) by omega, wrapN _ (by omega)]
  exact bits_and64 (x / 16 + x) 1085102592571150095 (by omega) (by decide)
theorem i4 (x : Nat) (h : x < 4294967296) : IntKind.u64.wrap ((x : Int) + (x : Int) / 256) = ((s4 x : Nat) : Int) := by
  unfold s4; rw [show (x : Int) + (x : Int) / 256 = ((x + x / 256 : Nat) : Int) by omega, wrapN _ (by omega)]
theorem i5 (x : Nat) (h : x < 4294967296) : IntKind.u64.wrap ((x : Int) + (x : Int) / 65536) = ((s5 x : Nat) : Int) := by
  unfold s5; rw [show (x : Int) + (x : Int) / 65536 = ((x + x / 65536 : Nat) : Int) by omega, wrapN _ (by omega)]
theorem i6 (x : Nat) (h : x < 4294967296) : IntKind.u64.wrap ((x : Int) + (x : Int) / 4294967296) = ((s6 x : Nat) : Int) := by
  unfold s6; rw [show (x : Int) + (x : Int) / 4294967296 = ((x + x / 4294967296 : Nat) : Int) by omega, wrapN _ (by omega)]
theorem i7 (x : Nat) (h : x < 4294967296) : Go.bits .and .i64 (wrap64 (x : Int)) 127 = ((x % 128 : Nat) : Int) := by
  rw [w64 (by omega) (by omega)]
  have := bits_mask .i64 63 (by decide) (fun n h0 h1 => by rw [IntKind.wrap_i64]; omega) 7 (by decide) (x : Int) (by omega) (by omega)
  rw [show ((2 : Int) ^ 7 - 1) = 127 from rfl, show ((2 : Int) ^ 7) = 128 from rfl] at this
  rw [this]
  omega
theorem ones_eq (x : Nat) (hx : x < 4294967296) : bits_OnesCount64.f (x : Int) = some ((pc 32 x : Nat) : Int) := by
  obtain ⟨h1, h2, h3, h4, h5, h6, h7, h8⟩ := pop_all x hx
  unfold bits_OnesCount64.f
  rw [i1 x hx h1]
  generalize s1 x = y1 at *
  rw [i2 y1 h1 h2]
  generalize s2 y1 = y2 at *
  rw [i3 y2 h2]
  generalize s3 y2 = y3 at *
  rw [i4 y3 h4]
  generalize s4 y3 = y4 at *
  rw [i5 y4 h5]
  generalize s5 y4 = y5 at *
  rw [i6 y5 h6]
  generalize s6 y5 = y6 at *
  rw [i7 y6 h7, h8]
/-- How many blocks are marked. -/
def cntS (m : List S48) : Nat := (m.map fun b => pc 32 b.f1.toNat).sum
theorem pc_le (n x : Nat) : pc n x ≤ n := by
  induction n with
  | zero => exact Nat.le_refl _
  | succ n ih => show pc n x + _ ≤ _; split <;> omega
theorem pc_zero (n : Nat) : pc n 0 = 0 := by
  induction n with
  | zero => rfl
  | succ n ih => show pc n 0 + _ = 0; rw [ih, Nat.zero_testBit]; rfl
theorem cntS_le (m : List S48) : cntS m ≤ 32 * m.length := by
  induction m with
  | nil => exact Nat.le_refl _
  | cons b m ih =>
    have := pc_le 32 b.f1.toNat
    show pc 32 b.f1.toNat + cntS m ≤ _
    rw [List.length_cons]; omega
theorem count_l0 (m : List S48) (hm : m.length ≤ 600) (hr : ∀ b ∈ m, 0 ≤ b.f1 ∧ b.f1 < 4294967296) (d : Nat) : ∀ (i k a : Nat), i + d = m.length → d < k → a ≤ 32 * i → dirty_Count.l0 k (a : Int) m (m.length : Int) (i : Int) = some ((a + cntS (m.drop i) : Nat) : Int) := by
  induction d with
  | zero =>
    intro i k a hi hk ha
    obtain ⟨k, rfl⟩ : ∃ j, k = j + 1 := ⟨k - 1, by omega⟩
    rw [dirty_Count.l0, if_neg (by omega), List.drop_eq_nil_of_le (by omega)]
    rfl
  | succ d ih =>
    intro i k a hi hk ha
    obtain ⟨k, rfl⟩ : ∃ j, k = j + 1 := ⟨k - 1, by omega⟩
    have hl : i < m.length := by omega
    have hb := hr _ (List.getElem_mem hl)
    have hp := pc_le 32 (m[i]).f1.toNat
    have e := ones_eq (m[i]).f1.toNat (by omega)
    rw [show (((m[i]).f1.toNat : Nat) : Int) = (m[i]).f1 from by omega] at e
    rw [dirty_Count.l0, if_pos (by omega), if_pos (by omega), if_pos (by omega), rd63 m i hl, e]
    simp only [Option.bind_some]
    rw [← Int.natCast_add, w64 (by omega) (by omega), w64 (by omega) (by omega), show (i : Int) + 1 = ((i + 1 : Nat) : Int) from by omega, ih (i + 1) k _ (by omega) (by omega) (by omega), List.drop_eq_getElem_cons hl]
    show _ = some ((a + (pc 32 (m[i]).f1.toNat + cntS (m.drop (i + 1))) : Nat) : Int)
    rw [Nat.add_assoc]
theorem count_eq (m : List S48) (hm : m.length ≤ 600) (hw : ∀ x ∈ m, 0 ≤ x.f1) {k : Nat} (hk : 1000 ≤ k) : dirty_Count.f k m = some (if rgt 0 m = true then ((cntS m : Nat) : Int) else 0) := by
  unfold dirty_Count.f
  rw [right_eq m (by omega) (by omega)]
  simp only [Option.bind_some]
  by_cases hr : rgt 0 m = true
  · have := count_l0 m hm (fun b hb => ⟨hw b hb, (rgt_mem hr (by omega) b hb).2.2.2⟩) m.length 0 k 0 (by omega) (by omega) (Nat.zero_le _)
    rw [List.drop_zero, Nat.zero_add] at this
    rw [if_pos hr, if_pos hr]
    exact this
  · rw [if_neg hr, if_neg hr]
def sumV (T : Nat → Nat) : Nat → Nat
  | 0 => 0
  | j + 1 => sumV T j + pc 32 (T j)
theorem sumV_upd (T : Nat → Nat) (c x j : Nat) : sumV (fun v => if v = c then T v ||| x else T v) j ≤ sumV T j + if c < j then pc 32 x else 0 := by
  induction j with
  | zero => exact Nat.zero_le _
  | succ j ih =>
    show sumV _ j + pc 32 (if j = c then T j ||| x else T j) ≤ (sumV T j + pc 32 (T j)) + _
    by_cases h : j = c
    · subst h
      rw [if_neg (by omega)] at ih
      rw [if_pos rfl, if_pos (by omega)]
      have := pc_or 32 (T j) x
      omega
    · rw [if_neg h]
      by_cases h2 : c < j
      · rw [if_pos h2] at ih
        rw [if_pos (by omega)]
        omega
      · rw [if_neg h2] at ih
        rw [if_neg (by omega)]
        omega
theorem sumV_orN (m : List S48) (j : Nat) : ∀ T : Nat → Nat, sumV (orN T m) j ≤ sumV T j + cntS m := by
  induction m with
  | nil => intro T; exact Nat.le_refl _
  | cons b m ih =>
    intro T
    have h1 := ih (fun v => if v = b.f0.toNat then T v ||| b.f1.toNat else T v)
    have h2 := sumV_upd T b.f0.toNat b.f1.toNat j
    show sumV (orN (fun v => if v = b.f0.toNat then T v ||| b.f1.toNat else T v) m) j ≤ sumV T j + (pc 32 b.f1.toNat + cntS m)
    split at h2 <;> omega
theorem sumV_zero (j : Nat) : sumV (fun _ => 0) j = 0 := by
  induction j with
  | zero => rfl
  | succ j ih => show sumV _ j + pc 32 0 = 0; rw [ih, pc_zero]
theorem cntS_bits (M : Nat → Nat) (j : Nat) : cntS (bitsTo (fun v => ((M v : Nat) : Int)) j) = sumV M j := by
  induction j with
  | zero => rfl
  | succ j ih =>
    unfold bitsTo
    show cntS (if _ then _ else _) = sumV M j + pc 32 (M j)
    by_cases h : ((M j : Nat) : Int) = 0
    · have h2 : M j = 0 := by omega
      simp only [h2, pc_zero]
      simpa using ih
    · simp only [h]
      have : ∀ l x, cntS (l ++ [x]) = cntS l + pc 32 x.f1.toNat := by intro l x; simp [cntS]
      simp [this, ih]
end Go.Proofs.YtcigkejiompieaaDoor.Dirty
