/-
  The law at classes of inputs, part 3.
-/
import Derived.Test.YtfiijelajgifiaaGreatS00
namespace Go.Proofs.YtfiijelajgifiaaGreat
open Go Go.Mach Go.Flow
set_option maxRecDepth 1000000
set_option linter.all false
set_option linter.defProp false
theorem rxx1000:Syx 1 0 0 0:=Kr
theorem rxx1001:Syx 1 0 0 1:=Kr
theorem rxx1002:Syx 1 0 0 2:=Kr
theorem rxx1010:Syx 1 0 1 0:=Kr
theorem rxx1011:Syx 1 0 1 1:=Kr
theorem rxx1012:Syx 1 0 1 2:=Kr
theorem rxx1020:Syx 1 0 2 0:=Kr
theorem rxx1021:Syx 1 0 2 1:=Kr
theorem rxx1022:Syx 1 0 2 2:=Kr
theorem rxx1030:Syx 1 0 3 0:=Kr
theorem rxx1031:Syx 1 0 3 1:=Kr
theorem rxx1032:Syx 1 0 3 2:=Kr
theorem gxx10:∀ a,a<4→∀ c,c<3→Syx 1 0 a c:=Pb (Pa rxx1000 rxx1001 rxx1002) (Pa rxx1010 rxx1011 rxx1012) (Pa rxx1020 rxx1021 rxx1022) (Pa rxx1030 rxx1031 rxx1032)
theorem rxx1100:Syx 1 1 0 0:=Kr
theorem rxx1101:Syx 1 1 0 1:=Kr
theorem rxx1102:Syx 1 1 0 2:=Kr
theorem rxx1110:Syx 1 1 1 0:=Kr
theorem rxx1111:Syx 1 1 1 1:=Kr
theorem rxx1112:Syx 1 1 1 2:=Kr
theorem rxx1120:Syx 1 1 2 0:=Kr
theorem rxx1121:Syx 1 1 2 1:=Kr
theorem rxx1122:Syx 1 1 2 2:=Kr
theorem rxx1130:Syx 1 1 3 0:=Kr
theorem rxx1131:Syx 1 1 3 1:=Kr
theorem rxx1132:Syx 1 1 3 2:=Kr
theorem gxx11:∀ a,a<4→∀ c,c<3→Syx 1 1 a c:=Pb (Pa rxx1100 rxx1101 rxx1102) (Pa rxx1110 rxx1111 rxx1112) (Pa rxx1120 rxx1121 rxx1122) (Pa rxx1130 rxx1131 rxx1132)
end Go.Proofs.YtfiijelajgifiaaGreat
