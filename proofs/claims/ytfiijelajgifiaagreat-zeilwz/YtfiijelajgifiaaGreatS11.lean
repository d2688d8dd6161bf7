/-
  The law at classes of inputs, part 11.
-/
import Derived.Test.YtfiijelajgifiaaGreatS00
namespace Go.Proofs.YtfiijelajgifiaaGreat
open Go Go.Mach Go.Flow
set_option maxRecDepth 1000000
set_option linter.all false
set_option linter.defProp false
theorem rxx5000:Syx 5 0 0 0:=Kr
theorem rxx5001:Syx 5 0 0 1:=Kr
theorem rxx5002:Syx 5 0 0 2:=Kr
theorem rxx5010:Syx 5 0 1 0:=Kr
theorem rxx5011:Syx 5 0 1 1:=Kr
theorem rxx5012:Syx 5 0 1 2:=Kr
theorem rxx5020:Syx 5 0 2 0:=Kr
theorem rxx5021:Syx 5 0 2 1:=Kr
theorem rxx5022:Syx 5 0 2 2:=Kr
theorem rxx5030:Syx 5 0 3 0:=Kr
theorem rxx5031:Syx 5 0 3 1:=Kr
theorem rxx5032:Syx 5 0 3 2:=Kr
theorem gxx50:∀ a,a<4→∀ c,c<3→Syx 5 0 a c:=Pb (Pa rxx5000 rxx5001 rxx5002) (Pa rxx5010 rxx5011 rxx5012) (Pa rxx5020 rxx5021 rxx5022) (Pa rxx5030 rxx5031 rxx5032)
theorem rxx5100:Syx 5 1 0 0:=Kr
theorem rxx5101:Syx 5 1 0 1:=Kr
theorem rxx5102:Syx 5 1 0 2:=Kr
theorem rxx5110:Syx 5 1 1 0:=Kr
theorem rxx5111:Syx 5 1 1 1:=Kr
theorem rxx5112:Syx 5 1 1 2:=Kr
theorem rxx5120:Syx 5 1 2 0:=Kr
theorem rxx5121:Syx 5 1 2 1:=Kr
theorem rxx5122:Syx 5 1 2 2:=Kr
theorem rxx5130:Syx 5 1 3 0:=Kr
theorem rxx5131:Syx 5 1 3 1:=Kr
theorem rxx5132:Syx 5 1 3 2:=Kr
theorem gxx51:∀ a,a<4→∀ c,c<3→Syx 5 1 a c:=Pb (Pa rxx5100 rxx5101 rxx5102) (Pa rxx5110 rxx5111 rxx5112) (Pa rxx5120 rxx5121 rxx5122) (Pa rxx5130 rxx5131 rxx5132)
end Go.Proofs.YtfiijelajgifiaaGreat
