/-
  The law at classes of inputs, part 19.
-/
import Derived.Test.YtfiijelajgifiaaGreatS00
namespace Go.Proofs.YtfiijelajgifiaaGreat
open Go Go.Mach Go.Flow
set_option maxRecDepth 1000000
set_option linter.all false
set_option linter.defProp false
theorem rxx9000:Syx 9 0 0 0:=Kr
theorem rxx9001:Syx 9 0 0 1:=Kr
theorem rxx9002:Syx 9 0 0 2:=Kr
theorem rxx9010:Syx 9 0 1 0:=Kr
theorem rxx9011:Syx 9 0 1 1:=Kr
theorem rxx9012:Syx 9 0 1 2:=Kr
theorem rxx9020:Syx 9 0 2 0:=Kr
theorem rxx9021:Syx 9 0 2 1:=Kr
theorem rxx9022:Syx 9 0 2 2:=Kr
theorem rxx9030:Syx 9 0 3 0:=Kr
theorem rxx9031:Syx 9 0 3 1:=Kr
theorem rxx9032:Syx 9 0 3 2:=Kr
theorem gxx90:∀ a,a<4→∀ c,c<3→Syx 9 0 a c:=Pb (Pa rxx9000 rxx9001 rxx9002) (Pa rxx9010 rxx9011 rxx9012) (Pa rxx9020 rxx9021 rxx9022) (Pa rxx9030 rxx9031 rxx9032)
theorem rxx9100:Syx 9 1 0 0:=Kr
theorem rxx9101:Syx 9 1 0 1:=Kr
theorem rxx9102:Syx 9 1 0 2:=Kr
theorem rxx9110:Syx 9 1 1 0:=Kr
theorem rxx9111:Syx 9 1 1 1:=Kr
theorem rxx9112:Syx 9 1 1 2:=Kr
theorem rxx9120:Syx 9 1 2 0:=Kr
theorem rxx9121:Syx 9 1 2 1:=Kr
theorem rxx9122:Syx 9 1 2 2:=Kr
theorem rxx9130:Syx 9 1 3 0:=Kr
theorem rxx9131:Syx 9 1 3 1:=Kr
theorem rxx9132:Syx 9 1 3 2:=Kr
theorem gxx91:∀ a,a<4→∀ c,c<3→Syx 9 1 a c:=Pb (Pa rxx9100 rxx9101 rxx9102) (Pa rxx9110 rxx9111 rxx9112) (Pa rxx9120 rxx9121 rxx9122) (Pa rxx9130 rxx9131 rxx9132)
end Go.Proofs.YtfiijelajgifiaaGreat
