/-
  The law at classes of inputs, part 4.
-/
import Derived.Test.YtfiijelajgifiaaGreatS00
namespace Go.Proofs.YtfiijelajgifiaaGreat
open Go Go.Mach Go.Flow
set_option maxRecDepth 1000000
set_option linter.all false
set_option linter.defProp false
theorem rxx1200:Syx 1 2 0 0:=Kr
theorem rxx1201:Syx 1 2 0 1:=Kr
theorem rxx1202:Syx 1 2 0 2:=Kr
theorem rxx1210:Syx 1 2 1 0:=Kr
theorem rxx1211:Syx 1 2 1 1:=Kr
theorem rxx1212:Syx 1 2 1 2:=Kr
theorem rxx1220:Syx 1 2 2 0:=Kr
theorem rxx1221:Syx 1 2 2 1:=Kr
theorem rxx1222:Syx 1 2 2 2:=Kr
theorem rxx1230:Syx 1 2 3 0:=Kr
theorem rxx1231:Syx 1 2 3 1:=Kr
theorem rxx1232:Syx 1 2 3 2:=Kr
theorem gxx12:∀ a,a<4→∀ c,c<3→Syx 1 2 a c:=Pb (Pa rxx1200 rxx1201 rxx1202) (Pa rxx1210 rxx1211 rxx1212) (Pa rxx1220 rxx1221 rxx1222) (Pa rxx1230 rxx1231 rxx1232)
theorem rxx1300:Syx 1 3 0 0:=Kr
theorem rxx1301:Syx 1 3 0 1:=Kr
theorem rxx1302:Syx 1 3 0 2:=Kr
theorem rxx1310:Syx 1 3 1 0:=Kr
theorem rxx1311:Syx 1 3 1 1:=Kr
theorem rxx1312:Syx 1 3 1 2:=Kr
theorem rxx1320:Syx 1 3 2 0:=Kr
theorem rxx1321:Syx 1 3 2 1:=Kr
theorem rxx1322:Syx 1 3 2 2:=Kr
theorem rxx1330:Syx 1 3 3 0:=Kr
theorem rxx1331:Syx 1 3 3 1:=Kr
theorem rxx1332:Syx 1 3 3 2:=Kr
theorem gxx13:∀ a,a<4→∀ c,c<3→Syx 1 3 a c:=Pb (Pa rxx1300 rxx1301 rxx1302) (Pa rxx1310 rxx1311 rxx1312) (Pa rxx1320 rxx1321 rxx1322) (Pa rxx1330 rxx1331 rxx1332)
end Go.Proofs.YtfiijelajgifiaaGreat
