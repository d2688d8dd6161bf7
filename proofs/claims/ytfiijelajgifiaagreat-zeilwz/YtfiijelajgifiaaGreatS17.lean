/-
  The law at classes of inputs, part 17.
-/
import Derived.Test.YtfiijelajgifiaaGreatS00
namespace Go.Proofs.YtfiijelajgifiaaGreat
open Go Go.Mach Go.Flow
set_option maxRecDepth 1000000
set_option linter.all false
set_option linter.defProp false
theorem rxx8000:Syx 8 0 0 0:=Kr
theorem rxx8001:Syx 8 0 0 1:=Kr
theorem rxx8002:Syx 8 0 0 2:=Kr
theorem rxx8010:Syx 8 0 1 0:=Kr
theorem rxx8011:Syx 8 0 1 1:=Kr
theorem rxx8012:Syx 8 0 1 2:=Kr
theorem rxx8020:Syx 8 0 2 0:=Kr
theorem rxx8021:Syx 8 0 2 1:=Kr
theorem rxx8022:Syx 8 0 2 2:=Kr
theorem rxx8030:Syx 8 0 3 0:=Kr
theorem rxx8031:Syx 8 0 3 1:=Kr
theorem rxx8032:Syx 8 0 3 2:=Kr
theorem gxx80:∀ a,a<4→∀ c,c<3→Syx 8 0 a c:=Pb (Pa rxx8000 rxx8001 rxx8002) (Pa rxx8010 rxx8011 rxx8012) (Pa rxx8020 rxx8021 rxx8022) (Pa rxx8030 rxx8031 rxx8032)
theorem rxx8100:Syx 8 1 0 0:=Kr
theorem rxx8101:Syx 8 1 0 1:=Kr
theorem rxx8102:Syx 8 1 0 2:=Kr
theorem rxx8110:Syx 8 1 1 0:=Kr
theorem rxx8111:Syx 8 1 1 1:=Kr
theorem rxx8112:Syx 8 1 1 2:=Kr
theorem rxx8120:Syx 8 1 2 0:=Kr
theorem rxx8121:Syx 8 1 2 1:=Kr
theorem rxx8122:Syx 8 1 2 2:=Kr
theorem rxx8130:Syx 8 1 3 0:=Kr
theorem rxx8131:Syx 8 1 3 1:=Kr
theorem rxx8132:Syx 8 1 3 2:=Kr
theorem gxx81:∀ a,a<4→∀ c,c<3→Syx 8 1 a c:=Pb (Pa rxx8100 rxx8101 rxx8102) (Pa rxx8110 rxx8111 rxx8112) (Pa rxx8120 rxx8121 rxx8122) (Pa rxx8130 rxx8131 rxx8132)
end Go.Proofs.YtfiijelajgifiaaGreat
