/-
  The law at classes of inputs, part 1.
-/
import Derived.Test.YtfiijelajgifiaaGreatS00
namespace Go.Proofs.YtfiijelajgifiaaGreat
open Go Go.Mach Go.Flow
set_option maxRecDepth 1000000
set_option linter.all false
set_option linter.defProp false
theorem rxx0000:Syx 0 0 0 0:=Kr
theorem rxx0001:Syx 0 0 0 1:=Kr
theorem rxx0002:Syx 0 0 0 2:=Kr
theorem rxx0010:Syx 0 0 1 0:=Kr
theorem rxx0011:Syx 0 0 1 1:=Kr
theorem rxx0012:Syx 0 0 1 2:=Kr
theorem rxx0020:Syx 0 0 2 0:=Kr
theorem rxx0021:Syx 0 0 2 1:=Kr
theorem rxx0022:Syx 0 0 2 2:=Kr
theorem rxx0030:Syx 0 0 3 0:=Kr
theorem rxx0031:Syx 0 0 3 1:=Kr
theorem rxx0032:Syx 0 0 3 2:=Kr
theorem gxx00:∀ a,a<4→∀ c,c<3→Syx 0 0 a c:=Pb (Pa rxx0000 rxx0001 rxx0002) (Pa rxx0010 rxx0011 rxx0012) (Pa rxx0020 rxx0021 rxx0022) (Pa rxx0030 rxx0031 rxx0032)
theorem rxx0100:Syx 0 1 0 0:=Kr
theorem rxx0101:Syx 0 1 0 1:=Kr
theorem rxx0102:Syx 0 1 0 2:=Kr
theorem rxx0110:Syx 0 1 1 0:=Kr
theorem rxx0111:Syx 0 1 1 1:=Kr
theorem rxx0112:Syx 0 1 1 2:=Kr
theorem rxx0120:Syx 0 1 2 0:=Kr
theorem rxx0121:Syx 0 1 2 1:=Kr
theorem rxx0122:Syx 0 1 2 2:=Kr
theorem rxx0130:Syx 0 1 3 0:=Kr
theorem rxx0131:Syx 0 1 3 1:=Kr
theorem rxx0132:Syx 0 1 3 2:=Kr
theorem gxx01:∀ a,a<4→∀ c,c<3→Syx 0 1 a c:=Pb (Pa rxx0100 rxx0101 rxx0102) (Pa rxx0110 rxx0111 rxx0112) (Pa rxx0120 rxx0121 rxx0122) (Pa rxx0130 rxx0131 rxx0132)
end Go.Proofs.YtfiijelajgifiaaGreat
