import Derived.Test.YtclaiidoomdklaaGreatM26
import Derived.Test.YtclaiidoomdklaaGreatNA1
set_option maxRecDepth 100000
set_option maxHeartbeats 8000000
set_option linter.unusedVariables false
set_option linter.unusedSimpArgs false
namespace Go.Proofs.YtclaiidoomdklaaGreat
section
open Go Go.ChangeShapes Go.WideShapes Go.ChangeAt Go.RowKit Pl
section
variable {H:Type} {enc:TypeId × Value->H} {W W':World} {base:Nat} {v:Value} {d:DataW H} {p:List MemPlace}
set_option maxRecDepth 1000000 in
theorem rats_arg (hval:Value.okWide Tryz.prog W .any base 24 v) (h:DataW.Trod enc Tryz.prog W 0 (fun _=>true) true 24 v d p):∃ fs,Rx W v fs/\(Wg 24 d->∀ f∈fs,Cnt f):=by
 obtain ⟨a,len,cap,rfl⟩:=okWide_slice Tryz.underlying24 hval
 obtain ⟨fuel,hf⟩:=h
 exact rats_w (y:=(d,p)) (by simpa [Value.cells] using hf)
end
end
end Go.Proofs.YtclaiidoomdklaaGreat
