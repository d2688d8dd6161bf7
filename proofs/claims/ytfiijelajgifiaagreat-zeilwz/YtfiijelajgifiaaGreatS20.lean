/-
  The law at classes of inputs, part 20.
-/
import Derived.Test.YtfiijelajgifiaaGreatS00
namespace Go.Proofs.YtfiijelajgifiaaGreat
open Go Go.Mach Go.Flow
set_option maxRecDepth 1000000
set_option linter.all false
set_option linter.defProp false
theorem rxx9200:Syx 9 2 0 0:=Kr
theorem rxx9201:Syx 9 2 0 1:=Kr
theorem rxx9202:Syx 9 2 0 2:=Kr
theorem rxx9210:Syx 9 2 1 0:=Kr
theorem rxx9211:Syx 9 2 1 1:=Kr
theorem rxx9212:Syx 9 2 1 2:=Kr
theorem rxx9220:Syx 9 2 2 0:=Kr
theorem rxx9221:Syx 9 2 2 1:=Kr
theorem rxx9222:Syx 9 2 2 2:=Kr
theorem rxx9230:Syx 9 2 3 0:=Kr
theorem rxx9231:Syx 9 2 3 1:=Kr
theorem rxx9232:Syx 9 2 3 2:=Kr
theorem gxx92:∀ a,a<4→∀ c,c<3→Syx 9 2 a c:=Pb (Pa rxx9200 rxx9201 rxx9202) (Pa rxx9210 rxx9211 rxx9212) (Pa rxx9220 rxx9221 rxx9222) (Pa rxx9230 rxx9231 rxx9232)
theorem rxx9300:Syx 9 3 0 0:=Kr
theorem rxx9301:Syx 9 3 0 1:=Kr
theorem rxx9302:Syx 9 3 0 2:=Kr
theorem rxx9310:Syx 9 3 1 0:=Kr
theorem rxx9311:Syx 9 3 1 1:=Kr
theorem rxx9312:Syx 9 3 1 2:=Kr
theorem rxx9320:Syx 9 3 2 0:=Kr
theorem rxx9321:Syx 9 3 2 1:=Kr
theorem rxx9322:Syx 9 3 2 2:=Kr
theorem rxx9330:Syx 9 3 3 0:=Kr
theorem rxx9331:Syx 9 3 3 1:=Kr
theorem rxx9332:Syx 9 3 3 2:=Kr
theorem gxx93:∀ a,a<4→∀ c,c<3→Syx 9 3 a c:=Pb (Pa rxx9300 rxx9301 rxx9302) (Pa rxx9310 rxx9311 rxx9312) (Pa rxx9320 rxx9321 rxx9322) (Pa rxx9330 rxx9331 rxx9332)
end Go.Proofs.YtfiijelajgifiaaGreat
