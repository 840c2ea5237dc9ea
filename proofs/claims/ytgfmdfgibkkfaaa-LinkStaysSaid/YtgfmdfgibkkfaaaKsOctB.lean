/- What octet's functions on texts and lists answer, as plain functions. -/
import Derived.Test.YtgfmdfgibkkfaaaKsPx7
import Derived.Test.YtgfmdfgibkkfaaaKsOct
import Derived.Laws.BitsLemmas
set_option linter.unusedVariables false
set_option linter.unusedSimpArgs false
namespace Go.Proofs.Ytgfmdfgibkkfaaa.Oct
open Go.RowKit Go.Proofs.Ytgfmdfgibkkfaaa.P Go.Proofs.Ytgfmdfgibkkfaaa.Core Go.Proofs.YtgfmdfgibkkfaaaW.PrintWords Go.Proofs.YtgfmdfgibkkfaaaW.PrintLast Go.Proofs.YtgfmdfgibkkfaaaW.PrintMore

def takeS (s : ByteArray) : ByteArray × ByteArray × Int :=
  if s.size < 2 then (mk [], mk [], 2) else
    if s.size - 2 < num (s.data.toList.take 2) then (mk [], mk [], 2) else
      (s.extract 2 (2 + num (s.data.toList.take 2)), s.extract (2 + num (s.data.toList.take 2)) s.size, 0)
/-! Items -/
end Go.Proofs.Ytgfmdfgibkkfaaa.Oct
