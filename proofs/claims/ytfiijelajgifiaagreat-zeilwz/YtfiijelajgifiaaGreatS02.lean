/-
  The law at classes of inputs, part 2.
-/
import Derived.Test.YtfiijelajgifiaaGreatS00
namespace Go.Proofs.YtfiijelajgifiaaGreat
open Go Go.Mach Go.Flow
set_option maxRecDepth 1000000
set_option linter.all false
set_option linter.defProp false
theorem rxx0200:Syx 0 2 0 0:=Kr
theorem rxx0201:Syx 0 2 0 1:=Kr
theorem rxx0202:Syx 0 2 0 2:=Kr
theorem rxx0210:Syx 0 2 1 0:=Kr
theorem rxx0211:Syx 0 2 1 1:=Kr
theorem rxx0212:Syx 0 2 1 2:=Kr
theorem rxx0220:Syx 0 2 2 0:=Kr
theorem rxx0221:Syx 0 2 2 1:=Kr
theorem rxx0222:Syx 0 2 2 2:=Kr
theorem rxx0230:Syx 0 2 3 0:=Kr
theorem rxx0231:Syx 0 2 3 1:=Kr
theorem rxx0232:Syx 0 2 3 2:=Kr
theorem gxx02:∀ a,a<4→∀ c,c<3→Syx 0 2 a c:=Pb (Pa rxx0200 rxx0201 rxx0202) (Pa rxx0210 rxx0211 rxx0212) (Pa rxx0220 rxx0221 rxx0222) (Pa rxx0230 rxx0231 rxx0232)
theorem rxx0300:Syx 0 3 0 0:=Kr
theorem rxx0301:Syx 0 3 0 1:=Kr
theorem rxx0302:Syx 0 3 0 2:=Kr
theorem rxx0310:Syx 0 3 1 0:=Kr
theorem rxx0311:Syx 0 3 1 1:=Kr
theorem rxx0312:Syx 0 3 1 2:=Kr
theorem rxx0320:Syx 0 3 2 0:=Kr
theorem rxx0321:Syx 0 3 2 1:=Kr
theorem rxx0322:Syx 0 3 2 2:=Kr
theorem rxx0330:Syx 0 3 3 0:=Kr
theorem rxx0331:Syx 0 3 3 1:=Kr
theorem rxx0332:Syx 0 3 3 2:=Kr
theorem gxx03:∀ a,a<4→∀ c,c<3→Syx 0 3 a c:=Pb (Pa rxx0300 rxx0301 rxx0302) (Pa rxx0310 rxx0311 rxx0312) (Pa rxx0320 rxx0321 rxx0322) (Pa rxx0330 rxx0331 rxx0332)
end Go.Proofs.YtfiijelajgifiaaGreat
