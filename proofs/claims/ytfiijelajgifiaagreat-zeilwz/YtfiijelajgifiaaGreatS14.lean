/-
  The law at classes of inputs, part 14.
-/
import Derived.Test.YtfiijelajgifiaaGreatS00
namespace Go.Proofs.YtfiijelajgifiaaGreat
open Go Go.Mach Go.Flow
set_option maxRecDepth 1000000
set_option linter.all false
set_option linter.defProp false
theorem rxx6200:Syx 6 2 0 0:=Kr
theorem rxx6201:Syx 6 2 0 1:=Kr
theorem rxx6202:Syx 6 2 0 2:=Kr
theorem rxx6210:Syx 6 2 1 0:=Kr
theorem rxx6211:Syx 6 2 1 1:=Kr
theorem rxx6212:Syx 6 2 1 2:=Kr
theorem rxx6220:Syx 6 2 2 0:=Kr
theorem rxx6221:Syx 6 2 2 1:=Kr
theorem rxx6222:Syx 6 2 2 2:=Kr
theorem rxx6230:Syx 6 2 3 0:=Kr
theorem rxx6231:Syx 6 2 3 1:=Kr
theorem rxx6232:Syx 6 2 3 2:=Kr
theorem gxx62:∀ a,a<4→∀ c,c<3→Syx 6 2 a c:=Pb (Pa rxx6200 rxx6201 rxx6202) (Pa rxx6210 rxx6211 rxx6212) (Pa rxx6220 rxx6221 rxx6222) (Pa rxx6230 rxx6231 rxx6232)
theorem rxx6300:Syx 6 3 0 0:=Kr
theorem rxx6301:Syx 6 3 0 1:=Kr
theorem rxx6302:Syx 6 3 0 2:=Kr
theorem rxx6310:Syx 6 3 1 0:=Kr
theorem rxx6311:Syx 6 3 1 1:=Kr
theorem rxx6312:Syx 6 3 1 2:=Kr
theorem rxx6320:Syx 6 3 2 0:=Kr
theorem rxx6321:Syx 6 3 2 1:=Kr
theorem rxx6322:Syx 6 3 2 2:=Kr
theorem rxx6330:Syx 6 3 3 0:=Kr
theorem rxx6331:Syx 6 3 3 1:=Kr
theorem rxx6332:Syx 6 3 3 2:=Kr
theorem gxx63:∀ a,a<4→∀ c,c<3→Syx 6 3 a c:=Pb (Pa rxx6300 rxx6301 rxx6302) (Pa rxx6310 rxx6311 rxx6312) (Pa rxx6320 rxx6321 rxx6322) (Pa rxx6330 rxx6331 rxx6332)
end Go.Proofs.YtfiijelajgifiaaGreat
