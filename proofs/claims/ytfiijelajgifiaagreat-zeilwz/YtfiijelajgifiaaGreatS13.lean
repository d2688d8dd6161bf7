/-
  The law at classes of inputs, part 13.
-/
import Derived.Test.YtfiijelajgifiaaGreatS00
namespace Go.Proofs.YtfiijelajgifiaaGreat
open Go Go.Mach Go.Flow
set_option maxRecDepth 1000000
set_option linter.all false
set_option linter.defProp false
theorem rxx6000:Syx 6 0 0 0:=Kr
theorem rxx6001:Syx 6 0 0 1:=Kr
theorem rxx6002:Syx 6 0 0 2:=Kr
theorem rxx6010:Syx 6 0 1 0:=Kr
theorem rxx6011:Syx 6 0 1 1:=Kr
theorem rxx6012:Syx 6 0 1 2:=Kr
theorem rxx6020:Syx 6 0 2 0:=Kr
theorem rxx6021:Syx 6 0 2 1:=Kr
theorem rxx6022:Syx 6 0 2 2:=Kr
theorem rxx6030:Syx 6 0 3 0:=Kr
theorem rxx6031:Syx 6 0 3 1:=Kr
theorem rxx6032:Syx 6 0 3 2:=Kr
theorem gxx60:∀ a,a<4→∀ c,c<3→Syx 6 0 a c:=Pb (Pa rxx6000 rxx6001 rxx6002) (Pa rxx6010 rxx6011 rxx6012) (Pa rxx6020 rxx6021 rxx6022) (Pa rxx6030 rxx6031 rxx6032)
theorem rxx6100:Syx 6 1 0 0:=Kr
theorem rxx6101:Syx 6 1 0 1:=Kr
theorem rxx6102:Syx 6 1 0 2:=Kr
theorem rxx6110:Syx 6 1 1 0:=Kr
theorem rxx6111:Syx 6 1 1 1:=Kr
theorem rxx6112:Syx 6 1 1 2:=Kr
theorem rxx6120:Syx 6 1 2 0:=Kr
theorem rxx6121:Syx 6 1 2 1:=Kr
theorem rxx6122:Syx 6 1 2 2:=Kr
theorem rxx6130:Syx 6 1 3 0:=Kr
theorem rxx6131:Syx 6 1 3 1:=Kr
theorem rxx6132:Syx 6 1 3 2:=Kr
theorem gxx61:∀ a,a<4→∀ c,c<3→Syx 6 1 a c:=Pb (Pa rxx6100 rxx6101 rxx6102) (Pa rxx6110 rxx6111 rxx6112) (Pa rxx6120 rxx6121 rxx6122) (Pa rxx6130 rxx6131 rxx6132)
end Go.Proofs.YtfiijelajgifiaaGreat
