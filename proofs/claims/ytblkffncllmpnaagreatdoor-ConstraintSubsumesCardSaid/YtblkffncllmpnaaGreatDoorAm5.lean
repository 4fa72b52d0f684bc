/- Helpers of this claim: an abstract machine over the model, proved sound; what it computes. Part 5. -/
import Derived.Test.YtblkffncllmpnaaGreatDoorAm4
import Derived.Test.YtblkffncllmpnaaGreatDoorAm3
import Derived.KernelRfl
import Derived.Shelf.Strings.Builder1
import Derived.Shelf.Small.Bits
import Derived.Shelf.Small.Strs
import Derived.Shelf.Strconv.Itoa0
import Derived.Shelf.Strconv.Itoa1
import Derived.Shelf.LaysM
import Derived.Shelf.Strconv.Itoa2
import Derived.Shelf.Strconv.Itoa3
import Derived.Shelf.Strings.Search1
import Derived.Shelf.Sort.Plain
import Derived.Shelf.Bits.Mul64
import Derived.Shelf.Slices.Turned
import Derived.Shelf.Slices.Reverse
import Derived.Ground.Names2Prog
import Derived.Shelf.Slices.Clone
import Derived.Shelf.Slices.CompactI
import Derived.Shelf.Slices.SearchI
import Derived.Shelf.Slices.Cells
import Derived.Shelf.Slices.In.SortNone
import Derived.Ground.SlgnProg
import Derived.Shelf.SlicesE.Clone
import Derived.Test.YtblkffncllmpnaaGreatDoorProg
namespace Go.Proofs.AM
open Go
set_option maxRecDepth 100000
theorem g3 : Go.Proofs.Tryz.prog.funcs[3]? = some Tryz.f3 := by kernel_rfl
theorem g4 : Go.Proofs.Tryz.prog.funcs[4]? = some Tryz.f4 := by kernel_rfl
theorem g7 : Go.Proofs.Tryz.prog.funcs[7]? = some Tryz.f7 := by kernel_rfl
theorem g8 : Go.Proofs.Tryz.prog.funcs[8]? = some Tryz.f8 := by kernel_rfl
theorem g9 : Go.Proofs.Tryz.prog.funcs[9]? = some Tryz.f9 := by kernel_rfl
theorem g10 : Go.Proofs.Tryz.prog.funcs[10]? = some Tryz.f10 := by kernel_rfl
theorem g11 : Go.Proofs.Tryz.prog.funcs[11]? = some Tryz.f11 := by kernel_rfl
theorem g12 : Go.Proofs.Tryz.prog.funcs[12]? = some Tryz.f12 := by kernel_rfl
theorem g13 : Go.Proofs.Tryz.prog.funcs[13]? = some Tryz.f13 := by kernel_rfl
theorem g14 : Go.Proofs.Tryz.prog.funcs[14]? = some Tryz.f14 := by kernel_rfl
theorem g15 : Go.Proofs.Tryz.prog.funcs[15]? = some Tryz.f15 := by kernel_rfl
theorem g16 : Go.Proofs.Tryz.prog.funcs[16]? = some Tryz.f16 := by kernel_rfl
theorem g17 : Go.Proofs.Tryz.prog.funcs[17]? = some Tryz.f17 := by kernel_rfl
theorem g18 : Go.Proofs.Tryz.prog.funcs[18]? = some Tryz.f18 := by kernel_rfl
theorem g20 : Go.Proofs.Tryz.prog.funcs[20]? = some Tryz.f20 := by kernel_rfl
theorem g21 : Go.Proofs.Tryz.prog.funcs[21]? = some Tryz.f21 := by kernel_rfl
theorem g23 : Go.Proofs.Tryz.prog.funcs[23]? = some Tryz.f23 := by kernel_rfl
theorem g25 : Go.Proofs.Tryz.prog.funcs[25]? = some Tryz.f25 := by kernel_rfl
theorem g26 : Go.Proofs.Tryz.prog.funcs[26]? = some Tryz.f26 := by kernel_rfl
theorem g27 : Go.Proofs.Tryz.prog.funcs[27]? = some Tryz.f27 := by kernel_rfl
theorem g28 : Go.Proofs.Tryz.prog.funcs[28]? = some Tryz.f28 := by kernel_rfl
theorem g29 : Go.Proofs.Tryz.prog.funcs[29]? = some Tryz.f29 := by kernel_rfl
theorem g30 : Go.Proofs.Tryz.prog.funcs[30]? = some Tryz.f30 := by kernel_rfl
theorem g31 : Go.Proofs.Tryz.prog.funcs[31]? = some Tryz.f31 := by kernel_rfl
theorem g32 : Go.Proofs.Tryz.prog.funcs[32]? = some Tryz.f32 := by kernel_rfl
theorem g33 : Go.Proofs.Tryz.prog.funcs[33]? = some Tryz.f33 := by kernel_rfl
theorem g34 : Go.Proofs.Tryz.prog.funcs[34]? = some Tryz.f34 := by kernel_rfl
theorem g35 : Go.Proofs.Tryz.prog.funcs[35]? = some Tryz.f35 := by kernel_rfl
theorem g36 : Go.Proofs.Tryz.prog.funcs[36]? = some Tryz.f36 := by kernel_rfl
theorem g37 : Go.Proofs.Tryz.prog.funcs[37]? = some Tryz.f37 := by kernel_rfl
theorem g38 : Go.Proofs.Tryz.prog.funcs[38]? = some Tryz.f38 := by kernel_rfl
theorem g39 : Go.Proofs.Tryz.prog.funcs[39]? = some Tryz.f39 := by kernel_rfl
theorem g40 : Go.Proofs.Tryz.prog.funcs[40]? = some Tryz.f40 := by kernel_rfl
theorem g41 : Go.Proofs.Tryz.prog.funcs[41]? = some Tryz.f41 := by kernel_rfl
theorem g42 : Go.Proofs.Tryz.prog.funcs[42]? = some Tryz.f42 := by kernel_rfl
theorem g43 : Go.Proofs.Tryz.prog.funcs[43]? = some Tryz.f43 := by kernel_rfl
theorem g44 : Go.Proofs.Tryz.prog.funcs[44]? = some Tryz.f44 := by kernel_rfl
theorem g45 : Go.Proofs.Tryz.prog.funcs[45]? = some Tryz.f45 := by kernel_rfl
theorem g46 : Go.Proofs.Tryz.prog.funcs[46]? = some Tryz.f46 := by kernel_rfl
theorem g50 : Go.Proofs.Tryz.prog.funcs[50]? = some Tryz.f50 := by kernel_rfl
theorem g51 : Go.Proofs.Tryz.prog.funcs[51]? = some Tryz.f51 := by kernel_rfl
theorem g52 : Go.Proofs.Tryz.prog.funcs[52]? = some Tryz.f52 := by kernel_rfl
theorem g53 : Go.Proofs.Tryz.prog.funcs[53]? = some Tryz.f53 := by kernel_rfl
theorem g54 : Go.Proofs.Tryz.prog.funcs[54]? = some Tryz.f54 := by kernel_rfl
theorem g55 : Go.Proofs.Tryz.prog.funcs[55]? = some Tryz.f55 := by kernel_rfl
theorem g56 : Go.Proofs.Tryz.prog.funcs[56]? = some Tryz.f56 := by kernel_rfl
theorem g57 : Go.Proofs.Tryz.prog.funcs[57]? = some Tryz.f57 := by kernel_rfl
theorem g58 : Go.Proofs.Tryz.prog.funcs[58]? = some Tryz.f58 := by kernel_rfl
theorem g59 : Go.Proofs.Tryz.prog.funcs[59]? = some Tryz.f59 := by kernel_rfl
theorem g61 : Go.Proofs.Tryz.prog.funcs[61]? = some Tryz.f61 := by kernel_rfl
theorem g62 : Go.Proofs.Tryz.prog.funcs[62]? = some Tryz.f62 := by kernel_rfl
theorem g63 : Go.Proofs.Tryz.prog.funcs[63]? = some Tryz.f63 := by kernel_rfl
theorem g64 : Go.Proofs.Tryz.prog.funcs[64]? = some Tryz.f64 := by kernel_rfl
theorem g65 : Go.Proofs.Tryz.prog.funcs[65]? = some Tryz.f65 := by kernel_rfl
theorem g66 : Go.Proofs.Tryz.prog.funcs[66]? = some Tryz.f66 := by kernel_rfl
theorem g67 : Go.Proofs.Tryz.prog.funcs[67]? = some Tryz.f67 := by kernel_rfl
theorem g68 : Go.Proofs.Tryz.prog.funcs[68]? = some Tryz.f68 := by kernel_rfl
theorem g69 : Go.Proofs.Tryz.prog.funcs[69]? = some Tryz.f69 := by kernel_rfl
theorem g70 : Go.Proofs.Tryz.prog.funcs[70]? = some Tryz.f70 := by kernel_rfl
theorem g71 : Go.Proofs.Tryz.prog.funcs[71]? = some Tryz.f71 := by kernel_rfl
theorem g72 : Go.Proofs.Tryz.prog.funcs[72]? = some Tryz.f72 := by kernel_rfl
theorem g73 : Go.Proofs.Tryz.prog.funcs[73]? = some Tryz.f73 := by kernel_rfl
theorem g74 : Go.Proofs.Tryz.prog.funcs[74]? = some Tryz.f74 := by kernel_rfl
theorem g75 : Go.Proofs.Tryz.prog.funcs[75]? = some Tryz.f75 := by kernel_rfl
theorem g76 : Go.Proofs.Tryz.prog.funcs[76]? = some Tryz.f76 := by kernel_rfl
theorem g77 : Go.Proofs.Tryz.prog.funcs[77]? = some Tryz.f77 := by kernel_rfl
theorem g78 : Go.Proofs.Tryz.prog.funcs[78]? = some Tryz.f78 := by kernel_rfl
theorem g79 : Go.Proofs.Tryz.prog.funcs[79]? = some Tryz.f79 := by kernel_rfl
theorem g80 : Go.Proofs.Tryz.prog.funcs[80]? = some Tryz.f80 := by kernel_rfl
theorem g81 : Go.Proofs.Tryz.prog.funcs[81]? = some Tryz.f81 := by kernel_rfl
theorem g82 : Go.Proofs.Tryz.prog.funcs[82]? = some Tryz.f82 := by kernel_rfl
theorem g83 : Go.Proofs.Tryz.prog.funcs[83]? = some Tryz.f83 := by kernel_rfl
theorem g84 : Go.Proofs.Tryz.prog.funcs[84]? = some Tryz.f84 := by kernel_rfl
theorem g85 : Go.Proofs.Tryz.prog.funcs[85]? = some Tryz.f85 := by kernel_rfl
theorem g86 : Go.Proofs.Tryz.prog.funcs[86]? = some Tryz.f86 := by kernel_rfl
theorem g87 : Go.Proofs.Tryz.prog.funcs[87]? = some Tryz.f87 := by kernel_rfl
theorem g88 : Go.Proofs.Tryz.prog.funcs[88]? = some Tryz.f88 := by kernel_rfl
theorem g90 : Go.Proofs.Tryz.prog.funcs[90]? = some Tryz.f90 := by kernel_rfl
theorem g91 : Go.Proofs.Tryz.prog.funcs[91]? = some Tryz.f91 := by kernel_rfl
theorem g92 : Go.Proofs.Tryz.prog.funcs[92]? = some Tryz.f92 := by kernel_rfl
theorem g93 : Go.Proofs.Tryz.prog.funcs[93]? = some Tryz.f93 := by kernel_rfl
theorem g94 : Go.Proofs.Tryz.prog.funcs[94]? = some Tryz.f94 := by kernel_rfl
theorem g95 : Go.Proofs.Tryz.prog.funcs[95]? = some Tryz.f95 := by kernel_rfl
theorem g96 : Go.Proofs.Tryz.prog.funcs[96]? = some Tryz.f96 := by kernel_rfl
theorem g97 : Go.Proofs.Tryz.prog.funcs[97]? = some Tryz.f97 := by kernel_rfl
theorem g98 : Go.Proofs.Tryz.prog.funcs[98]? = some Tryz.f98 := by kernel_rfl
theorem g99 : Go.Proofs.Tryz.prog.funcs[99]? = some Tryz.f99 := by kernel_rfl
theorem g100 : Go.Proofs.Tryz.prog.funcs[100]? = some Tryz.f100 := by kernel_rfl
theorem g101 : Go.Proofs.Tryz.prog.funcs[101]? = some Tryz.f101 := by kernel_rfl
theorem g102 : Go.Proofs.Tryz.prog.funcs[102]? = some Tryz.f102 := by kernel_rfl
theorem g103 : Go.Proofs.Tryz.prog.funcs[103]? = some Tryz.f103 := by kernel_rfl
theorem g105 : Go.Proofs.Tryz.prog.funcs[105]? = some Tryz.f105 := by kernel_rfl
theorem g106 : Go.Proofs.Tryz.prog.funcs[106]? = some Tryz.f106 := by kernel_rfl
theorem g107 : Go.Proofs.Tryz.prog.funcs[107]? = some Tryz.f107 := by kernel_rfl
theorem g108 : Go.Proofs.Tryz.prog.funcs[108]? = some Tryz.f108 := by kernel_rfl
theorem g109 : Go.Proofs.Tryz.prog.funcs[109]? = some Tryz.f109 := by kernel_rfl
theorem g110 : Go.Proofs.Tryz.prog.funcs[110]? = some Tryz.f110 := by kernel_rfl
theorem g111 : Go.Proofs.Tryz.prog.funcs[111]? = some Tryz.f111 := by kernel_rfl
theorem g112 : Go.Proofs.Tryz.prog.funcs[112]? = some Tryz.f112 := by kernel_rfl
theorem g113 : Go.Proofs.Tryz.prog.funcs[113]? = some Tryz.f113 := by kernel_rfl
theorem g114 : Go.Proofs.Tryz.prog.funcs[114]? = some Tryz.f114 := by kernel_rfl
theorem g115 : Go.Proofs.Tryz.prog.funcs[115]? = some Tryz.f115 := by kernel_rfl
theorem g116 : Go.Proofs.Tryz.prog.funcs[116]? = some Tryz.f116 := by kernel_rfl
theorem g117 : Go.Proofs.Tryz.prog.funcs[117]? = some Tryz.f117 := by kernel_rfl
theorem g118 : Go.Proofs.Tryz.prog.funcs[118]? = some Tryz.f118 := by kernel_rfl
theorem g119 : Go.Proofs.Tryz.prog.funcs[119]? = some Tryz.f119 := by kernel_rfl
theorem g120 : Go.Proofs.Tryz.prog.funcs[120]? = some Tryz.f120 := by kernel_rfl
theorem g121 : Go.Proofs.Tryz.prog.funcs[121]? = some Tryz.f121 := by kernel_rfl
theorem g122 : Go.Proofs.Tryz.prog.funcs[122]? = some Tryz.f122 := by kernel_rfl
theorem g123 : Go.Proofs.Tryz.prog.funcs[123]? = some Tryz.f123 := by kernel_rfl
theorem g124 : Go.Proofs.Tryz.prog.funcs[124]? = some Tryz.f124 := by kernel_rfl
theorem g125 : Go.Proofs.Tryz.prog.funcs[125]? = some Tryz.f125 := by kernel_rfl
theorem g126 : Go.Proofs.Tryz.prog.funcs[126]? = some Tryz.f126 := by kernel_rfl
theorem g127 : Go.Proofs.Tryz.prog.funcs[127]? = some Tryz.f127 := by kernel_rfl
theorem g128 : Go.Proofs.Tryz.prog.funcs[128]? = some Tryz.f128 := by kernel_rfl
theorem g129 : Go.Proofs.Tryz.prog.funcs[129]? = some Tryz.f129 := by kernel_rfl
theorem g130 : Go.Proofs.Tryz.prog.funcs[130]? = some Tryz.f130 := by kernel_rfl
theorem g131 : Go.Proofs.Tryz.prog.funcs[131]? = some Tryz.f131 := by kernel_rfl
theorem g132 : Go.Proofs.Tryz.prog.funcs[132]? = some Tryz.f132 := by kernel_rfl
theorem g133 : Go.Proofs.Tryz.prog.funcs[133]? = some Tryz.f133 := by kernel_rfl
theorem g134 : Go.Proofs.Tryz.prog.funcs[134]? = some Tryz.f134 := by kernel_rfl
theorem g135 : Go.Proofs.Tryz.prog.funcs[135]? = some Tryz.f135 := by kernel_rfl
theorem g136 : Go.Proofs.Tryz.prog.funcs[136]? = some Tryz.f136 := by kernel_rfl
theorem g138 : Go.Proofs.Tryz.prog.funcs[138]? = some Tryz.f138 := by kernel_rfl
theorem g139 : Go.Proofs.Tryz.prog.funcs[139]? = some Tryz.f139 := by kernel_rfl
theorem g140 : Go.Proofs.Tryz.prog.funcs[140]? = some Tryz.f140 := by kernel_rfl
theorem g141 : Go.Proofs.Tryz.prog.funcs[141]? = some Tryz.f141 := by kernel_rfl
theorem g143 : Go.Proofs.Tryz.prog.funcs[143]? = some Tryz.f143 := by kernel_rfl
theorem g144 : Go.Proofs.Tryz.prog.funcs[144]? = some Tryz.f144 := by kernel_rfl
theorem g145 : Go.Proofs.Tryz.prog.funcs[145]? = some Tryz.f145 := by kernel_rfl
theorem g146 : Go.Proofs.Tryz.prog.funcs[146]? = some Tryz.f146 := by kernel_rfl
theorem g147 : Go.Proofs.Tryz.prog.funcs[147]? = some Tryz.f147 := by kernel_rfl
theorem g148 : Go.Proofs.Tryz.prog.funcs[148]? = some Tryz.f148 := by kernel_rfl
theorem g149 : Go.Proofs.Tryz.prog.funcs[149]? = some Tryz.f149 := by kernel_rfl
theorem g152 : Go.Proofs.Tryz.prog.funcs[152]? = some Tryz.f152 := by kernel_rfl
theorem g153 : Go.Proofs.Tryz.prog.funcs[153]? = some Tryz.f153 := by kernel_rfl
theorem g154 : Go.Proofs.Tryz.prog.funcs[154]? = some Tryz.f154 := by kernel_rfl
theorem g155 : Go.Proofs.Tryz.prog.funcs[155]? = some Tryz.f155 := by kernel_rfl
theorem g156 : Go.Proofs.Tryz.prog.funcs[156]? = some Tryz.f156 := by kernel_rfl
theorem g157 : Go.Proofs.Tryz.prog.funcs[157]? = some Tryz.f157 := by kernel_rfl
theorem g158 : Go.Proofs.Tryz.prog.funcs[158]? = some Tryz.f158 := by kernel_rfl
theorem g159 : Go.Proofs.Tryz.prog.funcs[159]? = some Tryz.f159 := by kernel_rfl
theorem g160 : Go.Proofs.Tryz.prog.funcs[160]? = some Tryz.f160 := by kernel_rfl
theorem g165 : Go.Proofs.Tryz.prog.funcs[165]? = some Tryz.f165 := by kernel_rfl
theorem g166 : Go.Proofs.Tryz.prog.funcs[166]? = some Tryz.f166 := by kernel_rfl
theorem g167 : Go.Proofs.Tryz.prog.funcs[167]? = some Tryz.f167 := by kernel_rfl
theorem g168 : Go.Proofs.Tryz.prog.funcs[168]? = some Tryz.f168 := by kernel_rfl
theorem g169 : Go.Proofs.Tryz.prog.funcs[169]? = some Tryz.f169 := by kernel_rfl
theorem g170 : Go.Proofs.Tryz.prog.funcs[170]? = some Tryz.f170 := by kernel_rfl
theorem g171 : Go.Proofs.Tryz.prog.funcs[171]? = some Tryz.f171 := by kernel_rfl
theorem g172 : Go.Proofs.Tryz.prog.funcs[172]? = some Tryz.f172 := by kernel_rfl
theorem g173 : Go.Proofs.Tryz.prog.funcs[173]? = some Tryz.f173 := by kernel_rfl
theorem g174 : Go.Proofs.Tryz.prog.funcs[174]? = some Tryz.f174 := by kernel_rfl
theorem g175 : Go.Proofs.Tryz.prog.funcs[175]? = some Tryz.f175 := by kernel_rfl
theorem g176 : Go.Proofs.Tryz.prog.funcs[176]? = some Tryz.f176 := by kernel_rfl
theorem g177 : Go.Proofs.Tryz.prog.funcs[177]? = some Tryz.f177 := by kernel_rfl
theorem g181 : Go.Proofs.Tryz.prog.funcs[181]? = some Tryz.f181 := by kernel_rfl
theorem g182 : Go.Proofs.Tryz.prog.funcs[182]? = some Tryz.f182 := by kernel_rfl
theorem g183 : Go.Proofs.Tryz.prog.funcs[183]? = some Tryz.f183 := by kernel_rfl
theorem g184 : Go.Proofs.Tryz.prog.funcs[184]? = some Tryz.f184 := by kernel_rfl
theorem g185 : Go.Proofs.Tryz.prog.funcs[185]? = some Tryz.f185 := by kernel_rfl
theorem g186 : Go.Proofs.Tryz.prog.funcs[186]? = some Tryz.f186 := by kernel_rfl
theorem g187 : Go.Proofs.Tryz.prog.funcs[187]? = some Tryz.f187 := by kernel_rfl
theorem g193 : Go.Proofs.Tryz.prog.funcs[193]? = some Tryz.f193 := by kernel_rfl
theorem g194 : Go.Proofs.Tryz.prog.funcs[194]? = some Tryz.f194 := by kernel_rfl
theorem g195 : Go.Proofs.Tryz.prog.funcs[195]? = some Tryz.f195 := by kernel_rfl
theorem g196 : Go.Proofs.Tryz.prog.funcs[196]? = some Tryz.f196 := by kernel_rfl
theorem g197 : Go.Proofs.Tryz.prog.funcs[197]? = some Tryz.f197 := by kernel_rfl
theorem g198 : Go.Proofs.Tryz.prog.funcs[198]? = some Tryz.f198 := by kernel_rfl
theorem g199 : Go.Proofs.Tryz.prog.funcs[199]? = some Tryz.f199 := by kernel_rfl
theorem g200 : Go.Proofs.Tryz.prog.funcs[200]? = some Tryz.f200 := by kernel_rfl
theorem g212 : Go.Proofs.Tryz.prog.funcs[212]? = some Tryz.f212 := by kernel_rfl
theorem fnsP : Tr.AllP (fun f fn => Go.Proofs.Tryz.prog.funcs[f]? = some fn) fnsT := by unfold fnsT; exact (.node g99 (.node g54 (.node g29 (.node g15 (.node g10 (.node g7 (.node g4 (.node g3 .leaf .leaf) .leaf) (.node g9 (.node g8 .leaf .leaf) .leaf)) (.node g13 (.node g12 (.node g11 .leaf .leaf) .leaf) (.node g14 .leaf .leaf))) (.node g23 (.node g18 (.node g17 (.node g16 .leaf .leaf) .leaf) (.node g21 (.node g20 .leaf .leaf) .leaf)) (.node g27 (.node g26 (.node g25 .leaf .leaf) .leaf) (.node g28 .leaf .leaf)))) (.node g40 (.node g35 (.node g32 (.node g31 (.node g30 .leaf .leaf) .leaf) (.node g34 (.node g33 .leaf .leaf) .leaf)) (.node g38 (.node g37 (.node g36 .leaf .leaf) .leaf) (.node g39 .leaf .leaf))) (.node g46 (.node g43 (.node g42 (.node g41 .leaf .leaf) .leaf) (.node g45 (.node g44 .leaf .leaf) .leaf)) (.node g52 (.node g51 (.node g50 .leaf .leaf) .leaf) (.node g53 .leaf .leaf))))) (.node g77 (.node g66 (.node g61 (.node g57 (.node g56 (.node g55 .leaf .leaf) .leaf) (.node g59 (.node g58 .leaf .leaf) .leaf)) (.node g64 (.node g63 (.node g62 .leaf .leaf) .leaf) (.node g65 .leaf .leaf))) (.node g72 (.node g69 (.node g68 (.node g67 .leaf .leaf) .leaf) (.node g71 (.node g70 .leaf .leaf) .leaf)) (.node g75 (.node g74 (.node g73 .leaf .leaf) .leaf) (.node g76 .leaf .leaf)))) (.node g88 (.node g83 (.node g80 (.node g79 (.node g78 .leaf .leaf) .leaf) (.node g82 (.node g81 .leaf .leaf) .leaf)) (.node g86 (.node g85 (.node g84 .leaf .leaf) .leaf) (.node g87 .leaf .leaf))) (.node g94 (.node g92 (.node g91 (.node g90 .leaf .leaf) .leaf) (.node g93 .leaf .leaf)) (.node g97 (.node g96 (.node g95 .leaf .leaf) .leaf) (.node g98 .leaf .leaf)))))) (.node g145 (.node g122 (.node g111 (.node g106 (.node g102 (.node g101 (.node g100 .leaf .leaf) .leaf) (.node g105 (.node g103 .leaf .leaf) .leaf)) (.node g109 (.node g108 (.node g107 .leaf .leaf) .leaf) (.node g110 .leaf .leaf))) (.node g117 (.node g114 (.node g113 (.node g112 .leaf .leaf) .leaf) (.node g116 (.node g115 .leaf .leaf) .leaf)) (.node g120 (.node g119 (.node g118 .leaf .leaf) .leaf) (.node g121 .leaf .leaf)))) (.node g133 (.node g128 (.node g125 (.node g124 (.node g123 .leaf .leaf) .leaf) (.node g127 (.node g126 .leaf .leaf) .leaf)) (.node g131 (.node g130 (.node g129 .leaf .leaf) .leaf) (.node g132 .leaf .leaf))) (.node g139 (.node g136 (.node g135 (.node g134 .leaf .leaf) .leaf) (.node g138 .leaf .leaf)) (.node g143 (.node g141 (.node g140 .leaf .leaf) .leaf) (.node g144 .leaf .leaf))))) (.node g173 (.node g158 (.node g153 (.node g148 (.node g147 (.node g146 .leaf .leaf) .leaf) (.node g152 (.node g149 .leaf .leaf) .leaf)) (.node g156 (.node g155 (.node g154 .leaf .leaf) .leaf) (.node g157 .leaf .leaf))) (.node g168 (.node g165 (.node g160 (.node g159 .leaf .leaf) .leaf) (.node g167 (.node g166 .leaf .leaf) .leaf)) (.node g171 (.node g170 (.node g169 .leaf .leaf) .leaf) (.node g172 .leaf .leaf)))) (.node g187 (.node g182 (.node g176 (.node g175 (.node g174 .leaf .leaf) .leaf) (.node g181 (.node g177 .leaf .leaf) .leaf)) (.node g185 (.node g184 (.node g183 .leaf .leaf) .leaf) (.node g186 .leaf .leaf))) (.node g197 (.node g195 (.node g194 (.node g193 .leaf .leaf) .leaf) (.node g196 .leaf .leaf)) (.node g200 (.node g199 (.node g198 .leaf .leaf) .leaf) (.node g212 .leaf .leaf)))))))
theorem fnsN : Tr.all (fun _ fn => !(fn.name == "runtime.NumGoroutine")) fnsT = true := by kernel_rfl
theorem oneB : Tr.all (fun f sg => !E.one f || (match sg.rs with | [(a, ps)] => !(a == Nat.beq (sizeOfPs E ps) 1) | _ => false)) sigsT = true := by kernel_rfl
theorem mixed : Go.Proofs.Tryz.prog.follows .mixedOrders = true := by kernel_rfl
end Go.Proofs.AM

namespace Go.Proofs
open Go.Shelf
def Tryz.lays137_ren : Go.Shelf.Ren := ⟨fun | 137 => 178 | 217 => 201 | 266 => 215 | n => n, fun | 9 => 9 | 5 => 5 | 3 => 3 | n => n, fun | n => n⟩
theorem Tryz.lays137 : Go.Proofs.Lays.n137 Tryz.prog Tryz.lays137_ren := {
  mixed := by kernel_rfl
  f137 := Tryz.func178.trans (congrArg some (by kernel_rfl))
  f217 := Tryz.func201.trans (congrArg some (by kernel_rfl))
  f266 := Tryz.func215.trans (congrArg some (by kernel_rfl))
  t3 := Tryz.underlying3
  a3 := Tryz.isAgg3
  z3 := Tryz.sizeOf3
  v3 := Tryz.zeroValue3
  t5 := Tryz.underlying5
  a5 := Tryz.isAgg5
  z5 := Tryz.sizeOf5
  v5 := Tryz.zeroValue5
  t9 := Tryz.underlying9
  a9 := Tryz.isAgg9
  z9 := Tryz.sizeOf9
  v9 := Tryz.zeroValue9 }
open Go.RowKit in
theorem Tryz.strings_IndexByte (s : ByteArray) (c : Int) (w : World) :
    Calls Tryz.prog 178 #[.string s, .int .u8 c] w fun e w' => e = .returned (.int .i64 (Lib.indexByte s.data.toList c.toNat.toUInt8)) ∧ w' = w := Any.strings_IndexByte Tryz.lays137 s c w
def Tryz.lays171_ren : Go.Shelf.Ren := ⟨fun | 171 => 60 | 243 => 104 | 246 => 142 | 283 => 161 | 284 => 162 | 285 => 163 | 286 => 164 | 129 => 189 | 317 => 188 | 318 => 190 | 319 => 191 | 320 => 192 | 337 => 213 | 338 => 214 | n => n, fun | 3 => 3 | 9 => 9 | 2 => 2 | 4 => 4 | 171 => 218 | 0 => 0 | 53 => 219 | 37 => 58 | 5 => 5 | 173 => 222 | 212 => 247 | 51 => 248 | 20 => 20 | 213 => 249 | 46 => 231 | 232 => 274 | 233 => 275 | n => n, fun | 17 => 0 | 18 => 1 | 19 => 2 | n => n⟩
theorem Tryz.lays171 : Go.Proofs.Lays.n171 Tryz.prog Tryz.lays171_ren := {
  mixed := by kernel_rfl
  f129 := Tryz.func189.trans (congrArg some (by kernel_rfl))
  f171 := Tryz.func60.trans (congrArg some (by kernel_rfl))
  f243 := Tryz.func104.trans (congrArg some (by kernel_rfl))
  f246 := Tryz.func142.trans (congrArg some (by kernel_rfl))
  f283 := Tryz.func161.trans (congrArg some (by kernel_rfl))
  f284 := Tryz.func162.trans (congrArg some (by kernel_rfl))
  f285 := Tryz.func163.trans (congrArg some (by kernel_rfl))
  f286 := Tryz.func164.trans (congrArg some (by kernel_rfl))
  f317 := Tryz.func188.trans (congrArg some (by kernel_rfl))
  f318 := Tryz.func190.trans (congrArg some (by kernel_rfl))
  f319 := Tryz.func191.trans (congrArg some (by kernel_rfl))
  f320 := Tryz.func192.trans (congrArg some (by kernel_rfl))
  f337 := Tryz.func213.trans (congrArg some (by kernel_rfl))
  f338 := Tryz.func214.trans (congrArg some (by kernel_rfl))
  t0 := Tryz.underlying0
  a0 := Tryz.isAgg0
  z0 := Tryz.sizeOf0
  v0 := Tryz.zeroValue0
  t2 := Tryz.underlying2
  a2 := Tryz.isAgg2
  z2 := Tryz.sizeOf2
  v2 := Tryz.zeroValue2
  t3 := Tryz.underlying3
  a3 := Tryz.isAgg3
  z3 := Tryz.sizeOf3
  v3 := Tryz.zeroValue3
  t4 := Tryz.underlying4
  a4 := Tryz.isAgg4
  z4 := Tryz.sizeOf4
  v4 := Tryz.zeroValue4
  t5 := Tryz.underlying5
  a5 := Tryz.isAgg5
  z5 := Tryz.sizeOf5
  v5 := Tryz.zeroValue5
  t9 := Tryz.underlying9
  a9 := Tryz.isAgg9
  z9 := Tryz.sizeOf9
  v9 := Tryz.zeroValue9
  t20 := Tryz.underlying20
  a20 := Tryz.isAgg20
  z20 := Tryz.sizeOf20
  v20 := Tryz.zeroValue20
  t37 := Tryz.underlying58
  a37 := Tryz.isAgg58
  z37 := Tryz.sizeOf58
  v37 := Tryz.zeroValue58
  t46 := Tryz.underlying231
  a46 := Tryz.isAgg231
  z46 := Tryz.sizeOf231
  v46 := Tryz.zeroValue231
  t51 := Tryz.underlying248
  a51 := Tryz.isAgg248
  z51 := Tryz.sizeOf248
  v51 := Tryz.zeroValue248
  t53 := Tryz.underlying219
  a53 := Tryz.isAgg219
  z53 := Tryz.sizeOf219
  v53 := Tryz.zeroValue219
  t171 := Tryz.underlying218
  a171 := Tryz.isAgg218
  z171 := Tryz.sizeOf218
  v171 := Tryz.zeroValue218
  t173 := Tryz.underlying222
  a173 := Tryz.isAgg222
  z173 := Tryz.sizeOf222
  v173 := Tryz.zeroValue222
  t212 := Tryz.underlying247
  a212 := Tryz.isAgg247
  z212 := Tryz.sizeOf247
  v212 := Tryz.zeroValue247
  t213 := Tryz.underlying249
  a213 := Tryz.isAgg249
  z213 := Tryz.sizeOf249
  t232 := Tryz.underlying274
  a232 := Tryz.isAgg274
  z232 := Tryz.sizeOf274
  v232 := Tryz.zeroValue274
  t233 := Tryz.underlying275
  a233 := Tryz.isAgg275
  z233 := Tryz.sizeOf275
  v233 := Tryz.zeroValue275
  g17 := by kernel_rfl
  g18 := by kernel_rfl
  g19 := by kernel_rfl }
open Go.RowKit Go.Sort Go.Lib in
theorem Tryz.strconv_Itoa_small (i : Nat) (hi : i < 100) (w : World) :
    Calls Tryz.prog 60 #[.int .i64 i] w fun e w' => e = .returned (.string ⟨(Lib.decDigits i).toArray⟩) ∧ w' = w := Any.strconv_Itoa_small Tryz.lays171 i hi w
def Tryz.lays189_ren : Go.Shelf.Ren := ⟨fun | 189 => 150 | 125 => 180 | 257 => 179 | 128 => 211 | 129 => 189 | 294 => 202 | 295 => 203 | 296 => 204 | 297 => 205 | 298 => 206 | 299 => 207 | 216 => 208 | 300 => 209 | 301 => 210 | 328 => 216 | 329 => 217 | 330 => 218 | 331 => 219 | 332 => 220 | 215 => 221 | 343 => 222 | n => n, fun | 28 => 26 | 3 => 3 | 46 => 231 | 0 => 0 | 51 => 248 | 53 => 219 | 4 => 4 | 183 => 260 | 182 => 259 | 131 => 264 | 5 => 5 | 9 => 9 | 218 => 268 | 222 => 272 | 228 => 276 | 229 => 277 | n => n, fun | n => n⟩
theorem Tryz.lays189 : Go.Proofs.Lays.n189 Tryz.prog Tryz.lays189_ren := {
  mixed := by kernel_rfl
  f125 := Tryz.func180.trans (congrArg some (by kernel_rfl))
  f128 := Tryz.func211.trans (congrArg some (by kernel_rfl))
  f129 := Tryz.func189.trans (congrArg some (by kernel_rfl))
  f189 := Tryz.func150.trans (congrArg some (by kernel_rfl))
  f215 := Tryz.func221.trans (congrArg some (by kernel_rfl))
  f216 := Tryz.func208.trans (congrArg some (by kernel_rfl))
  f257 := Tryz.func179.trans (congrArg some (by kernel_rfl))
  f294 := Tryz.func202.trans (congrArg some (by kernel_rfl))
  f295 := Tryz.func203.trans (congrArg some (by kernel_rfl))
  f296 := Tryz.func204.trans (congrArg some (by kernel_rfl))
  f297 := Tryz.func205.trans (congrArg some (by kernel_rfl))
  f298 := Tryz.func206.trans (congrArg some (by kernel_rfl))
  f299 := Tryz.func207.trans (congrArg some (by kernel_rfl))
  f300 := Tryz.func209.trans (congrArg some (by kernel_rfl))
  f301 := Tryz.func210.trans (congrArg some (by kernel_rfl))
  f328 := Tryz.func216.trans (congrArg some (by kernel_rfl))
  f329 := Tryz.func217.trans (congrArg some (by kernel_rfl))
  f330 := Tryz.func218.trans (congrArg some (by kernel_rfl))
  f331 := Tryz.func219.trans (congrArg some (by kernel_rfl))
  f332 := Tryz.func220.trans (congrArg some (by kernel_rfl))
  f343 := Tryz.func222.trans (congrArg some (by kernel_rfl))
  t0 := Tryz.underlying0
  a0 := Tryz.isAgg0
  z0 := Tryz.sizeOf0
  v0 := Tryz.zeroValue0
  t3 := Tryz.underlying3
  a3 := Tryz.isAgg3
  z3 := Tryz.sizeOf3
  v3 := Tryz.zeroValue3
  t4 := Tryz.underlying4
  a4 := Tryz.isAgg4
  z4 := Tryz.sizeOf4
  v4 := Tryz.zeroValue4
  t5 := Tryz.underlying5
  a5 := Tryz.isAgg5
  z5 := Tryz.sizeOf5
  v5 := Tryz.zeroValue5
  t9 := Tryz.underlying9
  a9 := Tryz.isAgg9
  z9 := Tryz.sizeOf9
  v9 := Tryz.zeroValue9
  t28 := Tryz.underlying26
  a28 := Tryz.isAgg26
  z28 := Tryz.sizeOf26
  v28 := Tryz.zeroValue26
  t46 := Tryz.underlying231
  a46 := Tryz.isAgg231
  z46 := Tryz.sizeOf231
  v46 := Tryz.zeroValue231
  t51 := Tryz.underlying248
  a51 := Tryz.isAgg248
  z51 := Tryz.sizeOf248
  v51 := Tryz.zeroValue248
  t53 := Tryz.underlying219
  a53 := Tryz.isAgg219
  z53 := Tryz.sizeOf219
  v53 := Tryz.zeroValue219
  t131 := Tryz.underlying264
  a131 := Tryz.isAgg264
  z131 := Tryz.sizeOf264
  v131 := Tryz.zeroValue264
  t182 := Tryz.underlying259
  a182 := Tryz.isAgg259
  z182 := Tryz.sizeOf259
  v182 := Tryz.zeroValue259
  t183 := Tryz.underlying260
  a183 := Tryz.isAgg260
  z183 := Tryz.sizeOf260
  v183 := Tryz.zeroValue260
  t218 := Tryz.underlying268
  a218 := Tryz.isAgg268
  z218 := Tryz.sizeOf268
  v218 := Tryz.zeroValue268
  t222 := Tryz.underlying272
  a222 := Tryz.isAgg272
  z222 := Tryz.sizeOf272
  v222 := Tryz.zeroValue272
  t228 := Tryz.underlying276
  a228 := Tryz.isAgg276
  z228 := Tryz.sizeOf276
  v228 := Tryz.zeroValue276
  t229 := Tryz.underlying277
  a229 := Tryz.isAgg277
  z229 := Tryz.sizeOf277
  v229 := Tryz.zeroValue277 }
open Go.Sort Go.RowKit in
theorem Tryz.slices_Sort_int (blk off cap : Nat) (zs : List Int) (w : World) (hH : Holds (Value.int .i64) w blk off zs.toArray) (hblk : blk < w.heap.size) (hsz : zs.length < 4611686018427387904) :
    Calls Tryz.prog 150 #[.slice (some ⟨blk, off, none⟩) zs.length cap] w fun e w' =>
      e = .returned (.tuple #[]) ∧ ∃ n os, w' = grow (putRow (Value.int .i64) (Sort.ahead w n) blk off (zs.mergeSort fun x y => decide (x ≤ y)).toArray) os := Any.slices_Sort_int Tryz.lays189 blk off cap zs w hH hblk hsz
def Tryz.laysNm220_ren : Go.Shelf.Ren := ⟨fun | 20 => 151 | n => n, fun | 22 => 26 | 3 => 3 | 4 => 4 | 0 => 0 | n => n, fun | n => n⟩
theorem Tryz.laysNm220 : Go.Proofs.Lays2.n20 Tryz.prog Tryz.laysNm220_ren := {
  mixed := by kernel_rfl
  f20 := Tryz.func151.trans (congrArg some (by kernel_rfl))
  t0 := Tryz.underlying0
  a0 := Tryz.isAgg0
  z0 := Tryz.sizeOf0
  v0 := Tryz.zeroValue0
  t3 := Tryz.underlying3
  a3 := Tryz.isAgg3
  z3 := Tryz.sizeOf3
  v3 := Tryz.zeroValue3
  t4 := Tryz.underlying4
  a4 := Tryz.isAgg4
  z4 := Tryz.sizeOf4
  v4 := Tryz.zeroValue4
  t22 := Tryz.underlying26
  a22 := Tryz.isAgg26
  z22 := Tryz.sizeOf26
  v22 := Tryz.zeroValue26
  i3 := by kernel_rfl }
open Go.RowKit Go.Lib Go.Sort in
theorem Tryz.slices_Compact_int (blk off cap : Nat) (zs : List Int) (w : World) (hH : Holds (Value.int .i64) w blk off zs.toArray) (hsz : zs.length ≤ 9223372036854775807) (hcap : zs.length ≤ cap) :
    Calls Tryz.prog 151 #[.slice (some ⟨blk, off, none⟩) zs.length cap] w fun e w' => e = .returned (.slice (some ⟨blk, off, none⟩) (Lib.compact zs).length cap) ∧ ∃ q, w' = putRow (Value.int .i64) (Sort.ahead w q) blk off (Lib.compact zs ++ List.replicate (zs.length - (Lib.compact zs).length) 0).toArray := Any.slices_Compact_int Tryz.laysNm220 blk off cap zs w hH hsz hcap
open Go.RowKit Go.Lib Go.Sort in
theorem Tryz.slices_Compact_int_empty (a : Option Addr) (cap : Nat) (w : World) :
    Calls Tryz.prog 151 #[.slice a 0 cap] w fun e w' => e = .returned (.slice a 0 cap) ∧ w' = w := Any.slices_Compact_int_empty Tryz.laysNm220 a cap w
open Go.RowKit Go.Sort in
theorem Tryz.slices_Sort_int_none (p : Option Addr) (cap : Nat) (w : World) :
    Calls Tryz.prog 150 #[.slice p 0 cap] w fun e w' => e = .returned (.tuple #[]) ∧ w' = w := Any.slices_Sort_int_none Tryz.lays189 p cap w
end Go.Proofs

namespace Go.Proofs.AM
open Go Go.RowKit
set_option maxRecDepth 100000
theorem extOk : ∀ f g, M.ext.find f = some g → ∀ xs r, g xs = some r → FnOk1 Tryz.prog M f xs r := by
  intro f g h
  have hA : Tr.AllP (fun f (g : List (Arg E) → Res E) => ∀ xs r, g xs = some r → FnOk1 Tryz.prog M f xs r) M.ext := by
    refine .node ?_ (.node ?_ .leaf .leaf) (.node ?_ (.node ?_ .leaf .leaf) .leaf)
    · exact sort_ok Tryz.func150 (by kernel_rfl) (c := Tryz.f150.body.get!) (by kernel_rfl) (by kernel_rfl) (fun b o c z w h1 h2 h3 => Tryz.slices_Sort_int b o c z w h1 h2 h3) (fun p c w => Tryz.slices_Sort_int_none p c w)
    · exact itoa_ok Tryz.func60 (by kernel_rfl) (c := Tryz.f60.body.get!) (by kernel_rfl) (by kernel_rfl) (fun i w h => Tryz.strconv_Itoa_small i h w)
    · exact indexByte_ok Tryz.func178 (by kernel_rfl) (c := Tryz.f178.body.get!) (by kernel_rfl) (by kernel_rfl) (fun s x w => Tryz.strings_IndexByte s x w)
    · exact compact_ok Tryz.func151 (by kernel_rfl) (c := Tryz.f151.body.get!) (by kernel_rfl) (by kernel_rfl) (fun b o c z w h1 h2 h3 => Tryz.slices_Compact_int b o c z w h1 h2 h3) (fun p c w => Tryz.slices_Compact_int_empty p c w)
  exact hA.find h
theorem machOk : MOk Tryz.prog M := mOk envOk tysAll oneB fnsP fnsN extOk mixed
end Go.Proofs.AM
