/-
  The law at classes of inputs, part 5.
-/
import Derived.Test.YtfiijelajgifiaaGreatS00
namespace Go.Proofs.YtfiijelajgifiaaGreat
open Go Go.Mach Go.Flow
set_option maxRecDepth 1000000
set_option linter.all false
set_option linter.defProp false
theorem rxx2000:Syx 2 0 0 0:=Kr
theorem rxx2001:Syx 2 0 0 1:=Kr
theorem rxx2002:Syx 2 0 0 2:=Kr
theorem rxx2010:Syx 2 0 1 0:=Kr
theorem rxx2011:Syx 2 0 1 1:=Kr
theorem rxx2012:Syx 2 0 1 2:=Kr
theorem rxx2020:Syx 2 0 2 0:=Kr
theorem rxx2021:Syx 2 0 2 1:=Kr
theorem rxx2022:Syx 2 0 2 2:=Kr
theorem rxx2030:Syx 2 0 3 0:=Kr
theorem rxx2031:Syx 2 0 3 1:=Kr
theorem rxx2032:Syx 2 0 3 2:=Kr
theorem gxx20:∀ a,a<4→∀ c,c<3→Syx 2 0 a c:=Pb (Pa rxx2000 rxx2001 rxx2002) (Pa rxx2010 rxx2011 rxx2012) (Pa rxx2020 rxx2021 rxx2022) (Pa rxx2030 rxx2031 rxx2032)
theorem rxx2100:Syx 2 1 0 0:=Kr
theorem rxx2101:Syx 2 1 0 1:=Kr
theorem rxx2102:Syx 2 1 0 2:=Kr
theorem rxx2110:Syx 2 1 1 0:=Kr
theorem rxx2111:Syx 2 1 1 1:=Kr
theorem rxx2112:Syx 2 1 1 2:=Kr
theorem rxx2120:Syx 2 1 2 0:=Kr
theorem rxx2121:Syx 2 1 2 1:=Kr
theorem rxx2122:Syx 2 1 2 2:=Kr
theorem rxx2130:Syx 2 1 3 0:=Kr
theorem rxx2131:Syx 2 1 3 1:=Kr
theorem rxx2132:Syx 2 1 3 2:=Kr
theorem gxx21:∀ a,a<4→∀ c,c<3→Syx 2 1 a c:=Pb (Pa rxx2100 rxx2101 rxx2102) (Pa rxx2110 rxx2111 rxx2112) (Pa rxx2120 rxx2121 rxx2122) (Pa rxx2130 rxx2131 rxx2132)
end Go.Proofs.YtfiijelajgifiaaGreat
