/-
  The law at classes of inputs, part 15.
-/
import Derived.Test.YtfiijelajgifiaaGreatS00
namespace Go.Proofs.YtfiijelajgifiaaGreat
open Go Go.Mach Go.Flow
set_option maxRecDepth 1000000
set_option linter.all false
set_option linter.defProp false
theorem rxx7000:Syx 7 0 0 0:=Kr
theorem rxx7001:Syx 7 0 0 1:=Kr
theorem rxx7002:Syx 7 0 0 2:=Kr
theorem rxx7010:Syx 7 0 1 0:=Kr
theorem rxx7011:Syx 7 0 1 1:=Kr
theorem rxx7012:Syx 7 0 1 2:=Kr
theorem rxx7020:Syx 7 0 2 0:=Kr
theorem rxx7021:Syx 7 0 2 1:=Kr
theorem rxx7022:Syx 7 0 2 2:=Kr
theorem rxx7030:Syx 7 0 3 0:=Kr
theorem rxx7031:Syx 7 0 3 1:=Kr
theorem rxx7032:Syx 7 0 3 2:=Kr
theorem gxx70:∀ a,a<4→∀ c,c<3→Syx 7 0 a c:=Pb (Pa rxx7000 rxx7001 rxx7002) (Pa rxx7010 rxx7011 rxx7012) (Pa rxx7020 rxx7021 rxx7022) (Pa rxx7030 rxx7031 rxx7032)
theorem rxx7100:Syx 7 1 0 0:=Kr
theorem rxx7101:Syx 7 1 0 1:=Kr
theorem rxx7102:Syx 7 1 0 2:=Kr
theorem rxx7110:Syx 7 1 1 0:=Kr
theorem rxx7111:Syx 7 1 1 1:=Kr
theorem rxx7112:Syx 7 1 1 2:=Kr
theorem rxx7120:Syx 7 1 2 0:=Kr
theorem rxx7121:Syx 7 1 2 1:=Kr
theorem rxx7122:Syx 7 1 2 2:=Kr
theorem rxx7130:Syx 7 1 3 0:=Kr
theorem rxx7131:Syx 7 1 3 1:=Kr
theorem rxx7132:Syx 7 1 3 2:=Kr
theorem gxx71:∀ a,a<4→∀ c,c<3→Syx 7 1 a c:=Pb (Pa rxx7100 rxx7101 rxx7102) (Pa rxx7110 rxx7111 rxx7112) (Pa rxx7120 rxx7121 rxx7122) (Pa rxx7130 rxx7131 rxx7132)
end Go.Proofs.YtfiijelajgifiaaGreat
