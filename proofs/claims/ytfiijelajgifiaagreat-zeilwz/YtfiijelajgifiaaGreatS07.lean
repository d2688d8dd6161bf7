/-
  The law at classes of inputs, part 7.
-/
import Derived.Test.YtfiijelajgifiaaGreatS00
namespace Go.Proofs.YtfiijelajgifiaaGreat
open Go Go.Mach Go.Flow
set_option maxRecDepth 1000000
set_option linter.all false
set_option linter.defProp false
theorem rxx3000:Syx 3 0 0 0:=Kr
theorem rxx3001:Syx 3 0 0 1:=Kr
theorem rxx3002:Syx 3 0 0 2:=Kr
theorem rxx3010:Syx 3 0 1 0:=Kr
theorem rxx3011:Syx 3 0 1 1:=Kr
theorem rxx3012:Syx 3 0 1 2:=Kr
theorem rxx3020:Syx 3 0 2 0:=Kr
theorem rxx3021:Syx 3 0 2 1:=Kr
theorem rxx3022:Syx 3 0 2 2:=Kr
theorem rxx3030:Syx 3 0 3 0:=Kr
theorem rxx3031:Syx 3 0 3 1:=Kr
theorem rxx3032:Syx 3 0 3 2:=Kr
theorem gxx30:∀ a,a<4→∀ c,c<3→Syx 3 0 a c:=Pb (Pa rxx3000 rxx3001 rxx3002) (Pa rxx3010 rxx3011 rxx3012) (Pa rxx3020 rxx3021 rxx3022) (Pa rxx3030 rxx3031 rxx3032)
theorem rxx3100:Syx 3 1 0 0:=Kr
theorem rxx3101:Syx 3 1 0 1:=Kr
theorem rxx3102:Syx 3 1 0 2:=Kr
theorem rxx3110:Syx 3 1 1 0:=Kr
theorem rxx3111:Syx 3 1 1 1:=Kr
theorem rxx3112:Syx 3 1 1 2:=Kr
theorem rxx3120:Syx 3 1 2 0:=Kr
theorem rxx3121:Syx 3 1 2 1:=Kr
theorem rxx3122:Syx 3 1 2 2:=Kr
theorem rxx3130:Syx 3 1 3 0:=Kr
theorem rxx3131:Syx 3 1 3 1:=Kr
theorem rxx3132:Syx 3 1 3 2:=Kr
theorem gxx31:∀ a,a<4→∀ c,c<3→Syx 3 1 a c:=Pb (Pa rxx3100 rxx3101 rxx3102) (Pa rxx3110 rxx3111 rxx3112) (Pa rxx3120 rxx3121 rxx3122) (Pa rxx3130 rxx3131 rxx3132)
end Go.Proofs.YtfiijelajgifiaaGreat
