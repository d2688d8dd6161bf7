/-
  The law at classes of inputs, part 12.
-/
import Derived.Test.YtfiijelajgifiaaGreatS00
namespace Go.Proofs.YtfiijelajgifiaaGreat
open Go Go.Mach Go.Flow
set_option maxRecDepth 1000000
set_option linter.all false
set_option linter.defProp false
theorem rxx5200:Syx 5 2 0 0:=Kr
theorem rxx5201:Syx 5 2 0 1:=Kr
theorem rxx5202:Syx 5 2 0 2:=Kr
theorem rxx5210:Syx 5 2 1 0:=Kr
theorem rxx5211:Syx 5 2 1 1:=Kr
theorem rxx5212:Syx 5 2 1 2:=Kr
theorem rxx5220:Syx 5 2 2 0:=Kr
theorem rxx5221:Syx 5 2 2 1:=Kr
theorem rxx5222:Syx 5 2 2 2:=Kr
theorem rxx5230:Syx 5 2 3 0:=Kr
theorem rxx5231:Syx 5 2 3 1:=Kr
theorem rxx5232:Syx 5 2 3 2:=Kr
theorem gxx52:∀ a,a<4→∀ c,c<3→Syx 5 2 a c:=Pb (Pa rxx5200 rxx5201 rxx5202) (Pa rxx5210 rxx5211 rxx5212) (Pa rxx5220 rxx5221 rxx5222) (Pa rxx5230 rxx5231 rxx5232)
theorem rxx5300:Syx 5 3 0 0:=Kr
theorem rxx5301:Syx 5 3 0 1:=Kr
theorem rxx5302:Syx 5 3 0 2:=Kr
theorem rxx5310:Syx 5 3 1 0:=Kr
theorem rxx5311:Syx 5 3 1 1:=Kr
theorem rxx5312:Syx 5 3 1 2:=Kr
theorem rxx5320:Syx 5 3 2 0:=Kr
theorem rxx5321:Syx 5 3 2 1:=Kr
theorem rxx5322:Syx 5 3 2 2:=Kr
theorem rxx5330:Syx 5 3 3 0:=Kr
theorem rxx5331:Syx 5 3 3 1:=Kr
theorem rxx5332:Syx 5 3 3 2:=Kr
theorem gxx53:∀ a,a<4→∀ c,c<3→Syx 5 3 a c:=Pb (Pa rxx5300 rxx5301 rxx5302) (Pa rxx5310 rxx5311 rxx5312) (Pa rxx5320 rxx5321 rxx5322) (Pa rxx5330 rxx5331 rxx5332)
end Go.Proofs.YtfiijelajgifiaaGreat
