/-
  The law at classes of inputs, part 10.
-/
import Derived.Test.YtfiijelajgifiaaGreatS00
namespace Go.Proofs.YtfiijelajgifiaaGreat
open Go Go.Mach Go.Flow
set_option maxRecDepth 1000000
set_option linter.all false
set_option linter.defProp false
theorem rxx4200:Syx 4 2 0 0:=Kr
theorem rxx4201:Syx 4 2 0 1:=Kr
theorem rxx4202:Syx 4 2 0 2:=Kr
theorem rxx4210:Syx 4 2 1 0:=Kr
theorem rxx4211:Syx 4 2 1 1:=Kr
theorem rxx4212:Syx 4 2 1 2:=Kr
theorem rxx4220:Syx 4 2 2 0:=Kr
theorem rxx4221:Syx 4 2 2 1:=Kr
theorem rxx4222:Syx 4 2 2 2:=Kr
theorem rxx4230:Syx 4 2 3 0:=Kr
theorem rxx4231:Syx 4 2 3 1:=Kr
theorem rxx4232:Syx 4 2 3 2:=Kr
theorem gxx42:∀ a,a<4→∀ c,c<3→Syx 4 2 a c:=Pb (Pa rxx4200 rxx4201 rxx4202) (Pa rxx4210 rxx4211 rxx4212) (Pa rxx4220 rxx4221 rxx4222) (Pa rxx4230 rxx4231 rxx4232)
theorem rxx4300:Syx 4 3 0 0:=Kr
theorem rxx4301:Syx 4 3 0 1:=Kr
theorem rxx4302:Syx 4 3 0 2:=Kr
theorem rxx4310:Syx 4 3 1 0:=Kr
theorem rxx4311:Syx 4 3 1 1:=Kr
theorem rxx4312:Syx 4 3 1 2:=Kr
theorem rxx4320:Syx 4 3 2 0:=Kr
theorem rxx4321:Syx 4 3 2 1:=Kr
theorem rxx4322:Syx 4 3 2 2:=Kr
theorem rxx4330:Syx 4 3 3 0:=Kr
theorem rxx4331:Syx 4 3 3 1:=Kr
theorem rxx4332:Syx 4 3 3 2:=Kr
theorem gxx43:∀ a,a<4→∀ c,c<3→Syx 4 3 a c:=Pb (Pa rxx4300 rxx4301 rxx4302) (Pa rxx4310 rxx4311 rxx4312) (Pa rxx4320 rxx4321 rxx4322) (Pa rxx4330 rxx4331 rxx4332)
end Go.Proofs.YtfiijelajgifiaaGreat
