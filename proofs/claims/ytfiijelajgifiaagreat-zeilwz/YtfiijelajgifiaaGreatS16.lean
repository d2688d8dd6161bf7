/-
  The law at classes of inputs, part 16.
-/
import Derived.Test.YtfiijelajgifiaaGreatS00
namespace Go.Proofs.YtfiijelajgifiaaGreat
open Go Go.Mach Go.Flow
set_option maxRecDepth 1000000
set_option linter.all false
set_option linter.defProp false
theorem rxx7200:Syx 7 2 0 0:=Kr
theorem rxx7201:Syx 7 2 0 1:=Kr
theorem rxx7202:Syx 7 2 0 2:=Kr
theorem rxx7210:Syx 7 2 1 0:=Kr
theorem rxx7211:Syx 7 2 1 1:=Kr
theorem rxx7212:Syx 7 2 1 2:=Kr
theorem rxx7220:Syx 7 2 2 0:=Kr
theorem rxx7221:Syx 7 2 2 1:=Kr
theorem rxx7222:Syx 7 2 2 2:=Kr
theorem rxx7230:Syx 7 2 3 0:=Kr
theorem rxx7231:Syx 7 2 3 1:=Kr
theorem rxx7232:Syx 7 2 3 2:=Kr
theorem gxx72:∀ a,a<4→∀ c,c<3→Syx 7 2 a c:=Pb (Pa rxx7200 rxx7201 rxx7202) (Pa rxx7210 rxx7211 rxx7212) (Pa rxx7220 rxx7221 rxx7222) (Pa rxx7230 rxx7231 rxx7232)
theorem rxx7300:Syx 7 3 0 0:=Kr
theorem rxx7301:Syx 7 3 0 1:=Kr
theorem rxx7302:Syx 7 3 0 2:=Kr
theorem rxx7310:Syx 7 3 1 0:=Kr
theorem rxx7311:Syx 7 3 1 1:=Kr
theorem rxx7312:Syx 7 3 1 2:=Kr
theorem rxx7320:Syx 7 3 2 0:=Kr
theorem rxx7321:Syx 7 3 2 1:=Kr
theorem rxx7322:Syx 7 3 2 2:=Kr
theorem rxx7330:Syx 7 3 3 0:=Kr
theorem rxx7331:Syx 7 3 3 1:=Kr
theorem rxx7332:Syx 7 3 3 2:=Kr
theorem gxx73:∀ a,a<4→∀ c,c<3→Syx 7 3 a c:=Pb (Pa rxx7300 rxx7301 rxx7302) (Pa rxx7310 rxx7311 rxx7312) (Pa rxx7320 rxx7321 rxx7322) (Pa rxx7330 rxx7331 rxx7332)
end Go.Proofs.YtfiijelajgifiaaGreat
