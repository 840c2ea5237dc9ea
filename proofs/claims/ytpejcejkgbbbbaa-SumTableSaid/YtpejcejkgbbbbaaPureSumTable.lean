/- For all bytes n, SumTable answers true: each place of the table is what the sum of one byte says. -/
import Derived.Test.YtpejcejkgbbbbaaPx0
import Derived.Test.YtpejcejkgbbbbaaSumB
import Derived.Test.YtpejcejkgbbbbaaHSumTable
namespace Go.Proofs.Ytpejcejkgbbbbaa.Pure
open Go.RowKit Go.Proofs.Ytpejcejkgbbbbaa.P Go.Proofs.Ytpejcejkgbbbbaa.Core Go.Proofs.Ytpejcejkgbbbbaa.Crc Go.Proofs.Ytpejcejkgbbbbaa.Conv Go.Proofs.Ytpejcejkgbbbbaa.Sum Go.Proofs.YtpejcejkgbbbbaaW.PrintWords Go.Proofs.YtpejcejkgbbbbaaW.PrintLast Go.Proofs.YtpejcejkgbbbbaaW.PrintMore
set_option linter.unusedVariables false
set_option linter.unusedSimpArgs false

theorem SumTable : counterfoillaw02_SumTable.Pure := by
  intro y hy
  have hy2 : 0 ≤ y ∧ y ≤ 255 := by simpa [Lit.wf, IntKind.min, IntKind.max, IntKind.signed, IntKind.bits] using hy
  obtain ⟨b, rfl⟩ := byte_of hy2.1 hy2.2
  have hb := b.toNat_lt
  have e : strOfNums [(b.toNat : Int)] = mk [b] := nums_ints [b]
  have hr := ron_eq 4294967295 (mk [b]) (by omega) (by rw [mk_size]; simp) (k := 11) (by rw [mk_size]; simp)
  refine ⟨11, (crc 4294967295 (mk [b]) : Int), by rw [e]; exact hr, by omega, by have := crc_lt 4294967295 (mk [b]); omega, ?_, awake_eq⟩
  have ht := tab_lt hb
  have h1 : crcByte 0 b.toNat = tab b.toNat := by
    unfold crcByte
    rw [Nat.zero_div, Nat.zero_xor, Nat.zero_mod, Nat.zero_xor]
  rw [Int.toNat_natCast]
  unfold crc
  rw [mk_data]
  simp only [crcL, List.foldl_cons, List.foldl_nil, Nat.sub_self, h1]
  omega
end Go.Proofs.Ytpejcejkgbbbbaa.Pure
