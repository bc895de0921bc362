/- Parts: EvX. -/
import Derived.Test.YtljebeflbbgibaaGreatWCM
set_option linter.unusedSimpArgs false
set_option linter.unusedVariables false
set_option linter.unusedSectionVars false
set_option linter.defProp false
set_option maxHeartbeats 32000000
namespace Go.Proofs.YtljebeflbbgibaaGreat
set_option maxRecDepth 20000
open Go Go.Ab
noncomputable def B3:En:=⟨15,false,fun Y=>lZ knEvEx.list 15 Y⟩
theorem Pt(ρ:Nat->Int):QM Tryz.prog ρ B3:=fun Y r hr=>rr (knEvEx.ok ρ) _ Y r hr
section
variable {tb:List En} {S:Nat -> Prop} {n:Nat} {H:Hp}
end
end Go.Proofs.YtljebeflbbgibaaGreat
