/-
  The law at classes of inputs, part 18.
-/
import Derived.Test.YtfiijelajgifiaaGreatS00
namespace Go.Proofs.YtfiijelajgifiaaGreat
open Go Go.Mach Go.Flow
set_option maxRecDepth 1000000
set_option linter.all false
set_option linter.defProp false
theorem rxx8200:Syx 8 2 0 0:=Kr
theorem rxx8201:Syx 8 2 0 1:=Kr
theorem rxx8202:Syx 8 2 0 2:=Kr
theorem rxx8210:Syx 8 2 1 0:=Kr
theorem rxx8211:Syx 8 2 1 1:=Kr
theorem rxx8212:Syx 8 2 1 2:=Kr
theorem rxx8220:Syx 8 2 2 0:=Kr
theorem rxx8221:Syx 8 2 2 1:=Kr
theorem rxx8222:Syx 8 2 2 2:=Kr
theorem rxx8230:Syx 8 2 3 0:=Kr
theorem rxx8231:Syx 8 2 3 1:=Kr
theorem rxx8232:Syx 8 2 3 2:=Kr
theorem gxx82:∀ a,a<4→∀ c,c<3→Syx 8 2 a c:=Pb (Pa rxx8200 rxx8201 rxx8202) (Pa rxx8210 rxx8211 rxx8212) (Pa rxx8220 rxx8221 rxx8222) (Pa rxx8230 rxx8231 rxx8232)
theorem rxx8300:Syx 8 3 0 0:=Kr
theorem rxx8301:Syx 8 3 0 1:=Kr
theorem rxx8302:Syx 8 3 0 2:=Kr
theorem rxx8310:Syx 8 3 1 0:=Kr
theorem rxx8311:Syx 8 3 1 1:=Kr
theorem rxx8312:Syx 8 3 1 2:=Kr
theorem rxx8320:Syx 8 3 2 0:=Kr
theorem rxx8321:Syx 8 3 2 1:=Kr
theorem rxx8322:Syx 8 3 2 2:=Kr
theorem rxx8330:Syx 8 3 3 0:=Kr
theorem rxx8331:Syx 8 3 3 1:=Kr
theorem rxx8332:Syx 8 3 3 2:=Kr
theorem gxx83:∀ a,a<4→∀ c,c<3→Syx 8 3 a c:=Pb (Pa rxx8300 rxx8301 rxx8302) (Pa rxx8310 rxx8311 rxx8312) (Pa rxx8320 rxx8321 rxx8322) (Pa rxx8330 rxx8331 rxx8332)
end Go.Proofs.YtfiijelajgifiaaGreat
