-- PRINTED BY print.sh 35421559b90ae4d0a3588c463048766b98c2df88dd9212a6774a882060cdf62d: not written by this session
import Derived.Test.YtelibndkkokadaaGreatWInv
import Derived.Test.YtelibndkkokadaaGreatWFootNe
namespace Go.Proofs.YtelibndkkokadaaGreatW.PrintWords
open Go.RowKit
end Go.Proofs.YtelibndkkokadaaGreatW.PrintWords
namespace Go.Proofs.YtelibndkkokadaaGreatW.PrintLast
section
variable {ops : Array Oper} {a : Act} {o og : Oper} {g : Nat} {t : Tmp} {u : Bool}
/-- A guarded operation whose guard has yielded what it wants. -/
theorem wanted_on (hg : o.guard = some (g, u)) (ho : ops[g]? = some og) (hd : og.dst = some t) (hv : a.tmps[t]? = some (.bool u)) : Region.wanted o (yielded ops a.tmps) = true := by
  simp [Region.wanted, hg, yielded, ho, hd, hv]
end
end Go.Proofs.YtelibndkkokadaaGreatW.PrintLast
