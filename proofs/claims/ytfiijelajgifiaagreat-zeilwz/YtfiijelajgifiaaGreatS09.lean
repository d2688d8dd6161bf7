/-
  The law at classes of inputs, part 9.
-/
import Derived.Test.YtfiijelajgifiaaGreatS00
namespace Go.Proofs.YtfiijelajgifiaaGreat
open Go Go.Mach Go.Flow
set_option maxRecDepth 1000000
set_option linter.all false
set_option linter.defProp false
theorem rxx4000:Syx 4 0 0 0:=Kr
theorem rxx4001:Syx 4 0 0 1:=Kr
theorem rxx4002:Syx 4 0 0 2:=Kr
theorem rxx4010:Syx 4 0 1 0:=Kr
theorem rxx4011:Syx 4 0 1 1:=Kr
theorem rxx4012:Syx 4 0 1 2:=Kr
theorem rxx4020:Syx 4 0 2 0:=Kr
theorem rxx4021:Syx 4 0 2 1:=Kr
theorem rxx4022:Syx 4 0 2 2:=Kr
theorem rxx4030:Syx 4 0 3 0:=Kr
theorem rxx4031:Syx 4 0 3 1:=Kr
theorem rxx4032:Syx 4 0 3 2:=Kr
theorem gxx40:∀ a,a<4→∀ c,c<3→Syx 4 0 a c:=Pb (Pa rxx4000 rxx4001 rxx4002) (Pa rxx4010 rxx4011 rxx4012) (Pa rxx4020 rxx4021 rxx4022) (Pa rxx4030 rxx4031 rxx4032)
theorem rxx4100:Syx 4 1 0 0:=Kr
theorem rxx4101:Syx 4 1 0 1:=Kr
theorem rxx4102:Syx 4 1 0 2:=Kr
theorem rxx4110:Syx 4 1 1 0:=Kr
theorem rxx4111:Syx 4 1 1 1:=Kr
theorem rxx4112:Syx 4 1 1 2:=Kr
theorem rxx4120:Syx 4 1 2 0:=Kr
theorem rxx4121:Syx 4 1 2 1:=Kr
theorem rxx4122:Syx 4 1 2 2:=Kr
theorem rxx4130:Syx 4 1 3 0:=Kr
theorem rxx4131:Syx 4 1 3 1:=Kr
theorem rxx4132:Syx 4 1 3 2:=Kr
theorem gxx41:∀ a,a<4→∀ c,c<3→Syx 4 1 a c:=Pb (Pa rxx4100 rxx4101 rxx4102) (Pa rxx4110 rxx4111 rxx4112) (Pa rxx4120 rxx4121 rxx4122) (Pa rxx4130 rxx4131 rxx4132)
end Go.Proofs.YtfiijelajgifiaaGreat
