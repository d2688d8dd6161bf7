/-
  The law at classes of inputs, part 8.
-/
import Derived.Test.YtfiijelajgifiaaGreatS00
namespace Go.Proofs.YtfiijelajgifiaaGreat
open Go Go.Mach Go.Flow
set_option maxRecDepth 1000000
set_option linter.all false
set_option linter.defProp false
theorem rxx3200:Syx 3 2 0 0:=Kr
theorem rxx3201:Syx 3 2 0 1:=Kr
theorem rxx3202:Syx 3 2 0 2:=Kr
theorem rxx3210:Syx 3 2 1 0:=Kr
theorem rxx3211:Syx 3 2 1 1:=Kr
theorem rxx3212:Syx 3 2 1 2:=Kr
theorem rxx3220:Syx 3 2 2 0:=Kr
theorem rxx3221:Syx 3 2 2 1:=Kr
theorem rxx3222:Syx 3 2 2 2:=Kr
theorem rxx3230:Syx 3 2 3 0:=Kr
theorem rxx3231:Syx 3 2 3 1:=Kr
theorem rxx3232:Syx 3 2 3 2:=Kr
theorem gxx32:∀ a,a<4→∀ c,c<3→Syx 3 2 a c:=Pb (Pa rxx3200 rxx3201 rxx3202) (Pa rxx3210 rxx3211 rxx3212) (Pa rxx3220 rxx3221 rxx3222) (Pa rxx3230 rxx3231 rxx3232)
theorem rxx3300:Syx 3 3 0 0:=Kr
theorem rxx3301:Syx 3 3 0 1:=Kr
theorem rxx3302:Syx 3 3 0 2:=Kr
theorem rxx3310:Syx 3 3 1 0:=Kr
theorem rxx3311:Syx 3 3 1 1:=Kr
theorem rxx3312:Syx 3 3 1 2:=Kr
theorem rxx3320:Syx 3 3 2 0:=Kr
theorem rxx3321:Syx 3 3 2 1:=Kr
theorem rxx3322:Syx 3 3 2 2:=Kr
theorem rxx3330:Syx 3 3 3 0:=Kr
theorem rxx3331:Syx 3 3 3 1:=Kr
theorem rxx3332:Syx 3 3 3 2:=Kr
theorem gxx33:∀ a,a<4→∀ c,c<3→Syx 3 3 a c:=Pb (Pa rxx3300 rxx3301 rxx3302) (Pa rxx3310 rxx3311 rxx3312) (Pa rxx3320 rxx3321 rxx3322) (Pa rxx3330 rxx3331 rxx3332)
end Go.Proofs.YtfiijelajgifiaaGreat
