/-
  The law at classes of inputs, part 6.
-/
import Derived.Test.YtfiijelajgifiaaGreatS00
namespace Go.Proofs.YtfiijelajgifiaaGreat
open Go Go.Mach Go.Flow
set_option maxRecDepth 1000000
set_option linter.all false
set_option linter.defProp false
theorem rxx2200:Syx 2 2 0 0:=Kr
theorem rxx2201:Syx 2 2 0 1:=Kr
theorem rxx2202:Syx 2 2 0 2:=Kr
theorem rxx2210:Syx 2 2 1 0:=Kr
theorem rxx2211:Syx 2 2 1 1:=Kr
theorem rxx2212:Syx 2 2 1 2:=Kr
theorem rxx2220:Syx 2 2 2 0:=Kr
theorem rxx2221:Syx 2 2 2 1:=Kr
theorem rxx2222:Syx 2 2 2 2:=Kr
theorem rxx2230:Syx 2 2 3 0:=Kr
theorem rxx2231:Syx 2 2 3 1:=Kr
theorem rxx2232:Syx 2 2 3 2:=Kr
theorem gxx22:∀ a,a<4→∀ c,c<3→Syx 2 2 a c:=Pb (Pa rxx2200 rxx2201 rxx2202) (Pa rxx2210 rxx2211 rxx2212) (Pa rxx2220 rxx2221 rxx2222) (Pa rxx2230 rxx2231 rxx2232)
theorem rxx2300:Syx 2 3 0 0:=Kr
theorem rxx2301:Syx 2 3 0 1:=Kr
theorem rxx2302:Syx 2 3 0 2:=Kr
theorem rxx2310:Syx 2 3 1 0:=Kr
theorem rxx2311:Syx 2 3 1 1:=Kr
theorem rxx2312:Syx 2 3 1 2:=Kr
theorem rxx2320:Syx 2 3 2 0:=Kr
theorem rxx2321:Syx 2 3 2 1:=Kr
theorem rxx2322:Syx 2 3 2 2:=Kr
theorem rxx2330:Syx 2 3 3 0:=Kr
theorem rxx2331:Syx 2 3 3 1:=Kr
theorem rxx2332:Syx 2 3 3 2:=Kr
theorem gxx23:∀ a,a<4→∀ c,c<3→Syx 2 3 a c:=Pb (Pa rxx2300 rxx2301 rxx2302) (Pa rxx2310 rxx2311 rxx2312) (Pa rxx2320 rxx2321 rxx2322) (Pa rxx2330 rxx2331 rxx2332)
end Go.Proofs.YtfiijelajgifiaaGreat
