import Derived.Test.YtaajajngnmaggaaGreatENA11
set_option maxRecDepth 100000
set_option maxHeartbeats 8000000
set_option linter.unusedVariables false
set_option linter.unusedSimpArgs false
namespace Go.Proofs.YtaajajngnmaggaaGreat
section
section
open Go Go.RowKit Go.Proofs Pl
structure SymParts (a m b mid s f n N:Nat) (p X1 X2 Y1 Y2 r ys:List Tm):Prop where
 row:ys=(p++X1)++(X2++(Y1++(Y2++r)))
 la:p.length=a
 l1:a+X1.length=s
 l2:s+X2.length=m
 l3:m+Y1.length=f
 l4:f+Y2.length=b
 l5:s+Y1.length=mid
 l6:mid+X2.length=f
 u1:Up X1
 u2:Up X2
 u3:Up Y1
 u4:Up Y2
 le:∀ u∈X1++Y1,∀ v∈X2++Y2,u.c<=v.c
 n1:mid - a<=N
 n2:b - mid<=N
 ln:ys.length=n
 am:a<mid
 mb:mid<b
theorem SymParts.al {a m b mid s f n N:Nat} {p X1 X2 Y1 Y2 r ys:List Tm} (h:SymParts a m b mid s f n N p X1 X2 Y1 Y2 r ys):a+X1.length=s/\s+X2.length=m/\m+Y1.length=f/\f+Y2.length=b/\s+Y1.length=mid/\mid+X2.length=f:=⟨h.l1,h.l2,h.l3,h.l4,h.l5,h.l6⟩
end
end
end Go.Proofs.YtaajajngnmaggaaGreat
