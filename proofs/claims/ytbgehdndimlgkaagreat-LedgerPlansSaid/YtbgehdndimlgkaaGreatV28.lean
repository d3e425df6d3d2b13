/- Lemmas for laws of the ledger. -/
import Derived.Test.YtbgehdndimlgkaaGreatV26
import Derived.Test.YtbgehdndimlgkaaGreatV27
set_option linter.all false
namespace Go.Proofs.YtbgehdndimlgkaaGreat
open Go Go.RowKit Go.Av
set_option maxRecDepth 100000
noncomputable def foR:Code:=iZ (iZ (iZ (iZ (Tryz.f27.body.getD .skip))))
attribute [local irreducible] Still Adds AWL AW Drw bN bP AC AWR cM Frz Go.Av.Src dB Out InK ItK AsK RdK eA dZ ACT ACA eL ACG eR AWS lec
structure FoC (n:Nat) (C cs:Dp) (k day plan step rk:Int) (vs:List Ver) (ss:List Src) (nv ns:Nat):Prop where
 hn:n<=1000
 hC:C.length=n*65
 hl:cs.length=65
 hnv:vs.length=nv
 hns:ss.length=ns
 hb1:nv<=1000
 hb2:ns<=1000
 hc0:cs[0]? = some (iv k)
 hc1:cs[1]? = some (iv day)
 hc2:cs[2]? = some (iv plan)
 hc3:cs[3]? = some (iv step)
 hc4:cs[4]? = some (iv rk)
 hc31:cs[31]? = some (.sl 3 nv (vrc vs))
 hc32:cs[32]? = some (.sl 2 ns (src ss))
end Go.Proofs.YtbgehdndimlgkaaGreat
