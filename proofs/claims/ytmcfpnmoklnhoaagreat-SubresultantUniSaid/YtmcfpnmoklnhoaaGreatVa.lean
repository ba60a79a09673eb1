/- Va -/
import Derived.Test.YtmcfpnmoklnhoaaGreatTa
import Derived.Test.YtmcfpnmoklnhoaaGreatTf
import Derived.Test.YtmcfpnmoklnhoaaGreatQc
import Derived.Test.YtmcfpnmoklnhoaaGreatDr
set_option linter.unusedVariables false
set_option linter.unusedSimpArgs false
namespace Go.Proofs.YtmcfpnmoklnhoaaGreat
open Go.RowKit
def hrn(ξ:Int):List Int->Int
 |[]=>0
 |a::l=>a+ξ*hrn ξ l
end Go.Proofs.YtmcfpnmoklnhoaaGreat
namespace Go.Proofs.YtmcfpnmoklnhoaaGreat
set_option maxRecDepth 10000
def cv(m p:Nat)(F H:Nat->Int)(k:Nat):Int:=sm (λi=>F i*(if k<i then 0 else if p<k-i then 0 else H (k-i))) (m+1)
end Go.Proofs.YtmcfpnmoklnhoaaGreat
namespace Go.Proofs.YtmcfpnmoklnhoaaGreat
open Go.RowKit
section
variable{J:Nat}(h1:1<=J)(h4:J<=4)
include h1 h4
end
section
variable{J:Nat}(h1:1<=J)(h4:J<=4)
include h1 h4
end
section
variable{J:Nat}(h1:1<=J)(h4:J<=4)
include h1 h4
end
section
variable{J:Nat}(h1:1<=J)(h4:J<=4)
include h1 h4
end
section
variable{J:Nat}(h1:1<=J)(h4:J<=4)
include h1 h4
end
section
variable{J:Nat}(h1:1<=J)(h4:J<=4)
include h1 h4
end
section
variable{J:Nat}(h1:1<=J)(h4:J<=4)
include h1 h4
end
section
variable{J m n:Nat}{f g:List Tm}(h1:1<=J)(h4:J<=4)(nf:NN f)(ng:NN g)(df:bD J f m)(dg:bD J g n)(hm:m=1\/m=2)(hn:n=1\/n=2)
include h1 h4 nf ng df dg hm hn
end
end Go.Proofs.YtmcfpnmoklnhoaaGreat
