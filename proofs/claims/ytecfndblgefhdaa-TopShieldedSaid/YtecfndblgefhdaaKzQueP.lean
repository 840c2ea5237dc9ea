import Derived.Test.YtecfndblgefhdaaKzRx6
import Derived.Test.YtecfndblgefhdaaKzVolB
set_option linter.unusedVariables false
set_option linter.unusedSimpArgs false
namespace Go.Proofs.Ytecfndblgefhdaa.Law
open Go.RowKit Go.Proofs.Ytecfndblgefhdaa.R Go.Proofs.Ytecfndblgefhdaa.Sort Go.Proofs.YtecfndblgefhdaaW.PrintWords Go.Proofs.YtecfndblgefhdaaW.PrintLast Go.Proofs.YtecfndblgefhdaaW.PrintMore
abbrev Se := S51
def chain : Int → List Se → Int → Prop
 | at_, [], e => at_ = e
 | at_, s :: r, e => s.f0 = at_ ∧ s.f0 < s.f1 ∧ SSrt s.f2 ∧ s.f2.length ≤ 1000 ∧ bytesW s.f2 ≤ 1000000000 ∧ chain s.f1 r e
def tl (sets : List Se) (fr : Int) : Int := match sets with
 | [] => fr
 | s :: _ => s.f0
structure QOk (sets : List Se) (opn : List Wr) (fr tq : Int) : Prop where
 ch : chain (tl sets fr) sets fr
 t0 : 0 ≤ tl sets fr
 ft : fr ≤ tq
 tm : tq ≤ 100
 os : SSrt opn
 ol : opn.length ≤ 1000
 ob : bytesW opn ≤ 1000000000
 oe : fr < tq ∨ opn = []
theorem chain_le : ∀ {sets : List Se} {a e : Int}, chain a sets e → a + (sets.length : Int) ≤ e
 | [], a, e, h => by have : a = e := h; simp only [List.length_nil]; omega
 | s :: r, a, e, h => by
  obtain ⟨h1, h2, _, _, _, h3⟩ := h
  have := chain_le h3
  simp only [List.length_cons]
  omega
def bytesS (sets : List Se) : Nat := (sets.map fun s => bytesW s.f2).sum
end Go.Proofs.Ytecfndblgefhdaa.Law
