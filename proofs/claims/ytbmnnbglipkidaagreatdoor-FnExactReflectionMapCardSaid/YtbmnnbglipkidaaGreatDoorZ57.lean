/-
  The library's functions strings.Join and strings.Split at this seat's program: that it bears what their contracts ask (printed by a program out of the library's own command).
-/
import Derived.Test.YtbmnnbglipkidaaGreatDoorOps2
import Derived.Shelf.Strings.OnBuilder
import Derived.Shelf.Strings.SplitShaped
import Derived.Shelf.Strconv.Itoa3
import Derived.Shelf.SlSortCmp.Whole1
import Derived.Lib.ItoaLen
import Derived.MapKept
namespace Go.Proofs
set_option linter.unusedVariables false
set_option linter.unusedSimpArgs false
open Go.Shelf
def Tryz.l156_ren:Go.Shelf.Ren:=⟨fun | 156=>153 | 165=>180 | 166=>181 | 169=>182 | 240=>202 | 241=>203 | 276=>215 | 277=>216 | n=>n,fun | 31=>113 | 9=>9 | 3=>3 | 4=>4 | 0=>0 | 20=>20 | 72=>171 | 76=>175 | 70=>169 | 37=>33 | 75=>174 | 127=>193 | 164=>204 | 5=>5 | 80=>177 | n=>n,fun | n=>n⟩
theorem Tryz.l156:Go.Proofs.Lays.n156 Tryz.prog Tryz.l156_ren:={
  mixed:=by kernel_rfl,
  f156:=Tryz.func153.trans (congrArg some (by kernel_rfl)),
  f165:=Tryz.func180.trans (congrArg some (by kernel_rfl)),
  f166:=Tryz.func181.trans (congrArg some (by kernel_rfl)),
  f169:=Tryz.func182.trans (congrArg some (by kernel_rfl)),
  f240:=Tryz.func202.trans (congrArg some (by kernel_rfl)),
  f241:=Tryz.func203.trans (congrArg some (by kernel_rfl)),
  f276:=Tryz.func215.trans (congrArg some (by kernel_rfl)),
  f277:=Tryz.func216.trans (congrArg some (by kernel_rfl)),
  t0:=Tryz.underlying0,
  a0:=Tryz.isAgg0,
  z0:=Tryz.sizeOf0,
  v0:=Tryz.zeroValue0,
  t3:=Tryz.underlying3,
  a3:=Tryz.isAgg3,
  z3:=Tryz.sizeOf3,
  v3:=Tryz.zeroValue3,
  t4:=Tryz.underlying4,
  a4:=Tryz.isAgg4,
  z4:=Tryz.sizeOf4,
  v4:=Tryz.zeroValue4,
  t9:=Tryz.underlying9,
  a9:=Tryz.isAgg9,
  z9:=Tryz.sizeOf9,
  v9:=Tryz.zeroValue9,
  t20:=Tryz.underlying20,
  a20:=Tryz.isAgg20,
  z20:=Tryz.sizeOf20,
  v20:=Tryz.zeroValue20,
  t31:=Tryz.underlying113,
  a31:=Tryz.isAgg113,
  z31:=Tryz.sizeOf113,
  v31:=Tryz.zeroValue113,
  t37:=Tryz.underlying33,
  a37:=Tryz.isAgg33,
  z37:=Tryz.sizeOf33,
  v37:=Tryz.zeroValue33,
  t70:=Tryz.underlying169,
  a70:=Tryz.isAgg169,
  z70:=Tryz.sizeOf169,
  v70:=Tryz.zeroValue169,
  t72:=Tryz.underlying171,
  a72:=Tryz.isAgg171,
  z72:=Tryz.sizeOf171,
  v72:=Tryz.zeroValue171,
  t75:=Tryz.underlying174,
  a75:=Tryz.isAgg174,
  z75:=Tryz.sizeOf174,
  v75:=Tryz.zeroValue174,
  t76:=Tryz.underlying175,
  a76:=Tryz.isAgg175,
  z76:=Tryz.sizeOf175,
  v76:=Tryz.zeroValue175,
  t127:=Tryz.underlying193,
  a127:=Tryz.isAgg193,
  z127:=Tryz.sizeOf193,
  v127:=Tryz.zeroValue193,
  t164:=Tryz.underlying204,
  a164:=Tryz.isAgg204,
  z164:=Tryz.sizeOf204,
  v164:=Tryz.zeroValue204 }
def Tryz.l146_ren:Go.Shelf.Ren:=⟨fun | 146=>184 | 221=>204 | 268=>217 | 138=>218 | 143=>219 | 195=>226 | 197=>227 | 218=>228 | 219=>229 | 260=>234 | 217=>235 | 225=>236 | 224=>237 | 267=>238 | 266=>241 | 314=>242 | n=>n,fun | 9=>9 | 31=>113 | 3=>3 | 4=>4 | 0=>0 | 105=>217 | 21=>21 | 5=>5 | 46=>159 | 119=>224 | 139=>227 | 138=>226 | 146=>228 | 51=>189 | n=>n,fun | 1=>0 | 3=>2 | 4=>3 | n=>n⟩
theorem Tryz.l146:Go.Proofs.LaysM.n146 Tryz.prog Tryz.l146_ren:={
  mixed:=by kernel_rfl,
  f138:=Tryz.func218.trans (congrArg some (by kernel_rfl)),
  f143:=Tryz.func219.trans (congrArg some (by kernel_rfl)),
  f146:=Tryz.func184.trans (congrArg some (by kernel_rfl)),
  f195:=Tryz.func226.trans (congrArg some (by kernel_rfl)),
  f197:=Tryz.func227.trans (congrArg some (by kernel_rfl)),
  f217:=Tryz.func235.trans (congrArg some (by kernel_rfl)),
  f218:=Tryz.func228.trans (congrArg some (by kernel_rfl)),
  f219:=Tryz.func229.trans (congrArg some (by kernel_rfl)),
  f221:=Tryz.func204.trans (congrArg some (by kernel_rfl)),
  f224:=Tryz.func237.trans (congrArg some (by kernel_rfl)),
  f225:=Tryz.func236.trans (congrArg some (by kernel_rfl)),
  f260:=Tryz.func234.trans (congrArg some (by kernel_rfl)),
  f266:=Tryz.func241.trans (congrArg some (by kernel_rfl)),
  f267:=Tryz.func238.trans (congrArg some (by kernel_rfl)),
  f268:=Tryz.func217.trans (congrArg some (by kernel_rfl)),
  f314:=Tryz.func242.trans (congrArg some (by kernel_rfl)),
  t0:=Tryz.underlying0,
  a0:=Tryz.isAgg0,
  z0:=Tryz.sizeOf0,
  v0:=Tryz.zeroValue0,
  t3:=Tryz.underlying3,
  a3:=Tryz.isAgg3,
  z3:=Tryz.sizeOf3,
  v3:=Tryz.zeroValue3,
  t4:=Tryz.underlying4,
  a4:=Tryz.isAgg4,
  z4:=Tryz.sizeOf4,
  v4:=Tryz.zeroValue4,
  t5:=Tryz.underlying5,
  a5:=Tryz.isAgg5,
  z5:=Tryz.sizeOf5,
  v5:=Tryz.zeroValue5,
  t9:=Tryz.underlying9,
  a9:=Tryz.isAgg9,
  z9:=Tryz.sizeOf9,
  v9:=Tryz.zeroValue9,
  t21:=Tryz.underlying21,
  a21:=Tryz.isAgg21,
  z21:=Tryz.sizeOf21,
  v21:=Tryz.zeroValue21,
  t31:=Tryz.underlying113,
  a31:=Tryz.isAgg113,
  z31:=Tryz.sizeOf113,
  v31:=Tryz.zeroValue113,
  t46:=Tryz.underlying159,
  a46:=Tryz.isAgg159,
  z46:=Tryz.sizeOf159,
  v46:=Tryz.zeroValue159,
  t51:=Tryz.underlying189,
  a51:=Tryz.isAgg189,
  z51:=Tryz.sizeOf189,
  v51:=Tryz.zeroValue189,
  t105:=Tryz.underlying217,
  a105:=Tryz.isAgg217,
  z105:=Tryz.sizeOf217,
  v105:=Tryz.zeroValue217,
  t119:=Tryz.underlying224,
  a119:=Tryz.isAgg224,
  z119:=Tryz.sizeOf224,
  t138:=Tryz.underlying226,
  a138:=Tryz.isAgg226,
  z138:=Tryz.sizeOf226,
  v138:=Tryz.zeroValue226,
  t139:=Tryz.underlying227,
  a139:=Tryz.isAgg227,
  z139:=Tryz.sizeOf227,
  v139:=Tryz.zeroValue227,
  t146:=Tryz.underlying228,
  a146:=Tryz.isAgg228,
  z146:=Tryz.sizeOf228,
  v146:=Tryz.zeroValue228,
  g1:=by kernel_rfl,
  g3:=by kernel_rfl,
  g4:=by kernel_rfl,
  i0:=by kernel_rfl,
  i3:=by kernel_rfl,
  i4:=by kernel_rfl,
  i5:=by kernel_rfl,
  i9:=by kernel_rfl,
  i21:=by kernel_rfl,
  i31:=by kernel_rfl,
  i46:=by kernel_rfl,
  i51:=by kernel_rfl,
  i105:=by kernel_rfl,
  i138:=by kernel_rfl,
  i139:=by kernel_rfl,
  i146:=by kernel_rfl,
  m1:=by kernel_rfl,
  s1_3:=fun w h=>Go.Proofs.cell_of_shapedOpen_int (zero:=#[.int .i64 0]) (t:=3) h (of_decide_eq_true (by kernel_rfl)) (by kernel_rfl) rfl (by kernel_rfl) (by kernel_rfl) Tryz.underlying3,
  m3:=by kernel_rfl,
  m4:=by kernel_rfl }
def Tryz.l171_ren:Go.Shelf.Ren:=⟨fun | 171=>179 | 243=>201 | 246=>214 | 283=>222 | 284=>223 | 285=>224 | 286=>225 | 129=>197 | 317=>230 | 318=>231 | 319=>232 | 320=>233 | 337=>239 | 338=>240 | n=>n,fun | 3=>3 | 9=>9 | 2=>2 | 4=>4 | 171=>212 | 0=>0 | 53=>191 | 37=>33 | 5=>5 | 173=>214 | 212=>222 | 51=>189 | 20=>20 | 213=>223 | 46=>159 | 232=>230 | 233=>231 | n=>n,fun | 17=>1 | 18=>4 | 19=>5 | n=>n⟩
theorem Tryz.l171:Go.Proofs.LaysM.n171 Tryz.prog Tryz.l171_ren:={
  mixed:=by kernel_rfl,
  f129:=Tryz.func197.trans (congrArg some (by kernel_rfl)),
  f171:=Tryz.func179.trans (congrArg some (by kernel_rfl)),
  f243:=Tryz.func201.trans (congrArg some (by kernel_rfl)),
  f246:=Tryz.func214.trans (congrArg some (by kernel_rfl)),
  f283:=Tryz.func222.trans (congrArg some (by kernel_rfl)),
  f284:=Tryz.func223.trans (congrArg some (by kernel_rfl)),
  f285:=Tryz.func224.trans (congrArg some (by kernel_rfl)),
  f286:=Tryz.func225.trans (congrArg some (by kernel_rfl)),
  f317:=Tryz.func230.trans (congrArg some (by kernel_rfl)),
  f318:=Tryz.func231.trans (congrArg some (by kernel_rfl)),
  f319:=Tryz.func232.trans (congrArg some (by kernel_rfl)),
  f320:=Tryz.func233.trans (congrArg some (by kernel_rfl)),
  f337:=Tryz.func239.trans (congrArg some (by kernel_rfl)),
  f338:=Tryz.func240.trans (congrArg some (by kernel_rfl)),
  t0:=Tryz.underlying0,
  a0:=Tryz.isAgg0,
  z0:=Tryz.sizeOf0,
  v0:=Tryz.zeroValue0,
  t2:=Tryz.underlying2,
  a2:=Tryz.isAgg2,
  z2:=Tryz.sizeOf2,
  v2:=Tryz.zeroValue2,
  t3:=Tryz.underlying3,
  a3:=Tryz.isAgg3,
  z3:=Tryz.sizeOf3,
  v3:=Tryz.zeroValue3,
  t4:=Tryz.underlying4,
  a4:=Tryz.isAgg4,
  z4:=Tryz.sizeOf4,
  v4:=Tryz.zeroValue4,
  t5:=Tryz.underlying5,
  a5:=Tryz.isAgg5,
  z5:=Tryz.sizeOf5,
  v5:=Tryz.zeroValue5,
  t9:=Tryz.underlying9,
  a9:=Tryz.isAgg9,
  z9:=Tryz.sizeOf9,
  v9:=Tryz.zeroValue9,
  t20:=Tryz.underlying20,
  a20:=Tryz.isAgg20,
  z20:=Tryz.sizeOf20,
  v20:=Tryz.zeroValue20,
  t37:=Tryz.underlying33,
  a37:=Tryz.isAgg33,
  z37:=Tryz.sizeOf33,
  v37:=Tryz.zeroValue33,
  t46:=Tryz.underlying159,
  a46:=Tryz.isAgg159,
  z46:=Tryz.sizeOf159,
  v46:=Tryz.zeroValue159,
  t51:=Tryz.underlying189,
  a51:=Tryz.isAgg189,
  z51:=Tryz.sizeOf189,
  v51:=Tryz.zeroValue189,
  t53:=Tryz.underlying191,
  a53:=Tryz.isAgg191,
  z53:=Tryz.sizeOf191,
  v53:=Tryz.zeroValue191,
  t171:=Tryz.underlying212,
  a171:=Tryz.isAgg212,
  z171:=Tryz.sizeOf212,
  v171:=Tryz.zeroValue212,
  t173:=Tryz.underlying214,
  a173:=Tryz.isAgg214,
  z173:=Tryz.sizeOf214,
  v173:=Tryz.zeroValue214,
  t212:=Tryz.underlying222,
  a212:=Tryz.isAgg222,
  z212:=Tryz.sizeOf222,
  v212:=Tryz.zeroValue222,
  t213:=Tryz.underlying223,
  a213:=Tryz.isAgg223,
  z213:=Tryz.sizeOf223,
  t232:=Tryz.underlying230,
  a232:=Tryz.isAgg230,
  z232:=Tryz.sizeOf230,
  v232:=Tryz.zeroValue230,
  t233:=Tryz.underlying231,
  a233:=Tryz.isAgg231,
  z233:=Tryz.sizeOf231,
  v233:=Tryz.zeroValue231,
  g17:=by kernel_rfl,
  g18:=by kernel_rfl,
  g19:=by kernel_rfl,
  i0:=by kernel_rfl,
  i2:=by kernel_rfl,
  i3:=by kernel_rfl,
  i4:=by kernel_rfl,
  i5:=by kernel_rfl,
  i9:=by kernel_rfl,
  i20:=by kernel_rfl,
  i37:=by kernel_rfl,
  i46:=by kernel_rfl,
  i51:=by kernel_rfl,
  i53:=by kernel_rfl,
  i171:=by kernel_rfl,
  i173:=by kernel_rfl,
  i212:=by kernel_rfl,
  i232:=by kernel_rfl,
  i233:=by kernel_rfl,
  m17:=by kernel_rfl,
  m18:=by kernel_rfl,
  m19:=by kernel_rfl }
theorem Tryz.x156:Builder.Extra Tryz.prog Tryz.l156_ren:={
  sizeBuilder:=by kernel_rfl,
  liesBuilder:=by kernel_rfl,
  t5:=Tryz.underlying5,
  a5:=Tryz.isAgg5,
  z5:=Tryz.sizeOf5,
  v5:=Tryz.zeroValue5,
  infoByte:=by kernel_rfl,
  cellsByte:=by kernel_rfl,
  sizeByte:=by kernel_rfl,
  neB5:=by decide }
end Go.Proofs
namespace Go.Proofs
set_option linter.unusedVariables false
set_option linter.unusedSimpArgs false
open Go.Shelf
def Tryz.l6_ren:Go.Shelf.Ren:=⟨fun | 6=>112 | 15=>160 | 14=>159 | 28=>196 | 29=>197 | 20=>188 | 21=>189 | 22=>190 | 23=>191 | 24=>192 | 25=>193 | 26=>194 | 27=>195 | 46=>209 | 47=>210 | 48=>211 | 49=>212 | 50=>213 | 57=>221 | n=>n,fun | 22=>60 | 24=>22 | 25=>68 | 3=>3 | 39=>159 | 0=>0 | 53=>189 | 55=>191 | 4=>4 | 46=>183 | 45=>182 | 50=>122 | 5=>5 | 9=>9 | 66=>197 | 70=>201 | 76=>210 | 77=>40 | n=>n,fun | n=>n⟩
theorem Tryz.l6:Go.Proofs.SlLaysF.n6 Tryz.prog Tryz.l6_ren:={
  mixed:=by kernel_rfl,
  f6:=⟨"slices.SortFunc[[][]int,[]int]",by decide,Tryz.func112.trans (congrArg some (by kernel_rfl))⟩,
  f14:=⟨"slices.pdqsortCmpFunc[[]int]",by decide,Tryz.func159.trans (congrArg some (by kernel_rfl))⟩,
  f15:=Tryz.func160.trans (congrArg some (by kernel_rfl)),
  f20:=⟨"slices.insertionSortCmpFunc[[]int]",by decide,Tryz.func188.trans (congrArg some (by kernel_rfl))⟩,
  f21:=⟨"slices.heapSortCmpFunc[[]int]",by decide,Tryz.func189.trans (congrArg some (by kernel_rfl))⟩,
  f22:=⟨"slices.breakPatternsCmpFunc[[]int]",by decide,Tryz.func190.trans (congrArg some (by kernel_rfl))⟩,
  f23:=⟨"slices.choosePivotCmpFunc[[]int]",by decide,Tryz.func191.trans (congrArg some (by kernel_rfl))⟩,
  f24:=⟨"slices.reverseRangeCmpFunc[[]int]",by decide,Tryz.func192.trans (congrArg some (by kernel_rfl))⟩,
  f25:=⟨"slices.partialInsertionSortCmpFunc[[]int]",by decide,Tryz.func193.trans (congrArg some (by kernel_rfl))⟩,
  f26:=⟨"slices.partitionEqualCmpFunc[[]int]",by decide,Tryz.func194.trans (congrArg some (by kernel_rfl))⟩,
  f27:=⟨"slices.partitionCmpFunc[[]int]",by decide,Tryz.func195.trans (congrArg some (by kernel_rfl))⟩,
  f28:=Tryz.func196.trans (congrArg some (by kernel_rfl)),
  f29:=Tryz.func197.trans (congrArg some (by kernel_rfl)),
  f46:=⟨"slices.siftDownCmpFunc[[]int]",by decide,Tryz.func209.trans (congrArg some (by kernel_rfl))⟩,
  f47:=Tryz.func210.trans (congrArg some (by kernel_rfl)),
  f48:=Tryz.func211.trans (congrArg some (by kernel_rfl)),
  f49:=⟨"slices.medianAdjacentCmpFunc[[]int]",by decide,Tryz.func212.trans (congrArg some (by kernel_rfl))⟩,
  f50:=⟨"slices.medianCmpFunc[[]int]",by decide,Tryz.func213.trans (congrArg some (by kernel_rfl))⟩,
  f57:=⟨"slices.order2CmpFunc[[]int]",by decide,Tryz.func221.trans (congrArg some (by kernel_rfl))⟩,
  t0:=Tryz.underlying0,
  a0:=Tryz.isAgg0,
  z0:=Tryz.sizeOf0,
  v0:=Tryz.zeroValue0,
  t3:=Tryz.underlying3,
  a3:=Tryz.isAgg3,
  z3:=Tryz.sizeOf3,
  v3:=Tryz.zeroValue3,
  t4:=Tryz.underlying4,
  a4:=Tryz.isAgg4,
  z4:=Tryz.sizeOf4,
  v4:=Tryz.zeroValue4,
  t5:=Tryz.underlying5,
  a5:=Tryz.isAgg5,
  z5:=Tryz.sizeOf5,
  v5:=Tryz.zeroValue5,
  t9:=Tryz.underlying9,
  a9:=Tryz.isAgg9,
  z9:=Tryz.sizeOf9,
  v9:=Tryz.zeroValue9,
  t22:=Tryz.underlying60,
  a22:=Tryz.isAgg60,
  z22:=Tryz.sizeOf60,
  v22:=Tryz.zeroValue60,
  a24:=Tryz.isAgg22,
  z24:=Tryz.sizeOf22,
  t25:=Tryz.underlying68,
  a25:=Tryz.isAgg68,
  z25:=Tryz.sizeOf68,
  v25:=Tryz.zeroValue68,
  t39:=Tryz.underlying159,
  a39:=Tryz.isAgg159,
  z39:=Tryz.sizeOf159,
  v39:=Tryz.zeroValue159,
  t45:=Tryz.underlying182,
  a45:=Tryz.isAgg182,
  z45:=Tryz.sizeOf182,
  v45:=Tryz.zeroValue182,
  t46:=Tryz.underlying183,
  a46:=Tryz.isAgg183,
  z46:=Tryz.sizeOf183,
  v46:=Tryz.zeroValue183,
  t50:=Tryz.underlying122,
  a50:=Tryz.isAgg122,
  z50:=Tryz.sizeOf122,
  v50:=Tryz.zeroValue122,
  t53:=Tryz.underlying189,
  a53:=Tryz.isAgg189,
  z53:=Tryz.sizeOf189,
  v53:=Tryz.zeroValue189,
  t55:=Tryz.underlying191,
  a55:=Tryz.isAgg191,
  z55:=Tryz.sizeOf191,
  v55:=Tryz.zeroValue191,
  t66:=Tryz.underlying197,
  a66:=Tryz.isAgg197,
  z66:=Tryz.sizeOf197,
  v66:=Tryz.zeroValue197,
  t70:=Tryz.underlying201,
  a70:=Tryz.isAgg201,
  z70:=Tryz.sizeOf201,
  v70:=Tryz.zeroValue201,
  t76:=Tryz.underlying210,
  a76:=Tryz.isAgg210,
  z76:=Tryz.sizeOf210,
  v76:=Tryz.zeroValue210,
  t77:=Tryz.underlying40,
  a77:=Tryz.isAgg40,
  z77:=Tryz.sizeOf40,
  v77:=Tryz.zeroValue40 }
end Go.Proofs
namespace Go.Proofs.YtbmnnbglipkidaaGreatDoor
set_option linter.unusedVariables false
set_option linter.unusedSimpArgs false
open Go.RowKit
def Ae (s:ByteArray):List ByteArray:=Lib.splitB ⟨#[43]⟩ 0 (Lib.countB s ⟨#[43]⟩) s
theorem FD (s:ByteArray):(Ae s).length=Lib.countB s ⟨#[43]⟩+1:=Lib.splitB_all ⟨#[43]⟩ (by decide) 0 _ s rfl
def DB (xs:List ByteArray):ByteArray:=⟨(Lib.join (xs.map (·.data.toList)) [43]).toArray⟩
theorem YG {W:World}{own:List Asn}(s:ByteArray)(hg:Ent own fun w=>∃ m,w.cell? ⟨Tryz.l146_ren.g 1,0,none⟩=some (.int .i64 m))(hs:s.size<4294967281) :
    Spec Tryz.prog 184 [.string s,.string ⟨#[43]⟩] W own fun v ow=>∃ r0:Value,v=r0∧Ab r0∧ow=strs 9 r0 (Ae s)::own:=fun w hst=>by
  obtain⟨m,hm⟩:=hg W w hst
  have h:=Any.strings_Split { Tryz.l146 with } Tryz.l146.i9 s ⟨#[43]⟩ m w hs hm (by decide)
  refine h.mono fun e w' ⟨he,hw⟩=>?_
  have hl:=FD s
  have hcs:((Ae s).map Value.string).length=(Lib.countB s ⟨#[43]⟩+1)*1:=by rw[List.length_map,hl,Nat.mul_one]
  have hcb:=Lib.countB_le ⟨#[43]⟩ (by decide) s.size s (Nat.le_refl _)
  subst hw
  refine⟨_,_,he,⟨_,rfl,⟨_,_,_,rfl⟩,rfl⟩,?_⟩
  refine C0 hst (.inr ⟨by simp,w.heap.size,Lib.countB s ⟨#[43]⟩+1,((Ae s).map Value.string).toArray,by rw[hl],Nat.le_refl _,heap_alloc_new w _,by omega,by simp only[maxLen];omega,by simpa using hl,?_⟩) ((Below.refl _ _).alloc (Nat.le_refl _) _)
  rw[List.take_of_length_le (by simp[hl])]
theorem cP {W:World}{own:List Asn}{v:Value}{xs:List ByteArray}(_:Ab v)(hv:Ent own fun w=>KQ w v xs)(hl:(DB xs).size≤140737488355328)(hN:xs.length≤140737488355328) :
    Spec Tryz.prog 153 [v,.string ⟨#[43]⟩] W own fun u ow=>u = .string (DB xs)∧ow=own:=Spec.below fun w hst=>by
  obtain⟨_,ao,cap,rfl,h1,_,_,h4⟩:=hv W w hst
  cases xs with
  | nil=>exact(Any.strings_Join_none Tryz.l156 Tryz.x156 ao cap ⟨#[43]⟩ w).mono fun e w' ⟨he,hw⟩=>⟨he,hw ▸ Below.refl _ _⟩
  | cons x r =>
    obtain⟨b,o,rfl,hb,hc⟩:=h4 (by simp)
    refine Any.strings_Join Tryz.l156 Tryz.x156 b o cap (x::r) ⟨#[43]⟩ w (fun j y hy=>?_) hb hN h1 (by simpa [DB,ByteArray.size] using hl)
    have hj:j<(x::r).length:=(List.getElem?_eq_some_iff.1 hy).1
    rw[hc j (by omega)]
    simp only[List.getD,List.getElem?_map,hy]
    rfl
def Zx (l:List UInt8):Nat:=l.foldl (fun a b=>a*10+(b.toNat - 48)) 0
theorem S3 (l:List UInt8)(b:UInt8):Zx (l++[b])=Zx l*10+(b.toNat - 48):=by simp[Zx]
theorem Gd {k:Nat}(h:k<10):(UInt8.ofNat (48+k)).toNat=48+k:=by
  rw[UInt8.toNat_ofNat']
  omega
theorem Cp (u:Nat):Zx (Lib.decDigits u)=u∧(∀ b∈Lib.decDigits u,48≤b.toNat∧b.toNat≤57):=by
  induction u using Nat.strongRecOn with
  | _ u ih =>
    by_cases h:u<10
    · rw[Lib.decDigits,dif_pos h]
      refine⟨?_,fun b hb=>?_⟩
      · show 0*10+((UInt8.ofNat (48+u)).toNat - 48)=u
        rw[Gd h]
        omega
      · simp only[List.mem_singleton] at hb
        subst hb
        rw[Gd h]
        omega
    · rw[Lib.decDigits,dif_neg h]
      obtain⟨h1,h2⟩:=ih (u / 10) (by omega)
      refine⟨?_,fun b hb=>?_⟩
      · rw[S3,h1,Gd (Nat.mod_lt _ (by omega))]
        omega
      · rcases List.mem_append.1 hb with hb | hb
        · exact h2 b hb
        · simp only[List.mem_singleton] at hb
          subst hb
          rw[Gd (Nat.mod_lt _ (by omega))]
          omega
theorem Mn (u:Nat):Lib.decDigits u≠[]:=by
  rw[Lib.decDigits]
  split <;> simp
theorem Ec (n:Int):∀ b∈Lib.itoa n,b.toNat≠32∧b.toNat≠44:=by
  intro b hb
  unfold Lib.itoa at hb
  split at hb
  · rcases List.mem_cons.1 hb with rfl | hb
    · decide
    · have:=(Cp _).2 b hb
      omega
  · have:=(Cp _).2 b hb
    omega
theorem NU {m n:Int}(h:Lib.itoa m=Lib.itoa n):m=n:=by
  have hd:∀ {u v:Nat},Lib.decDigits u=Lib.decDigits v→u=v:=fun {u v} e=>by rw[← (Cp u).1,e,(Cp v).1]
  have hn:∀ {u v:Nat},(45:UInt8)::Lib.decDigits u≠Lib.decDigits v:=fun {u v} e=>by
    have:=(Cp v).2 45 (by rw[← e];simp)
    simp at this
  unfold Lib.itoa at h
  split at h <;> split at h
  · have:=hd (List.cons.inj h).2
    omega
  · exact absurd h hn
  · exact absurd h.symm hn
  · have:=hd h
    omega
theorem MD {c:UInt8}:∀ {a b s t:List UInt8},(∀ x∈a,x≠c)→(∀ x∈b,x≠c)→(s = []∨∃ r,s=c::r)→(t = []∨∃ r,t=c::r)→a++s=b++t→a=b∧s=t
  | [],[],s,t,_,_,_,_,h=>⟨rfl,h⟩
  | [],y::b,s,t,_,hb,hs,_,h=>by
    rcases hs with rfl | ⟨r,rfl⟩
    · simp at h
    · simp only[List.nil_append,List.cons_append,List.cons.injEq] at h
      exact absurd h.1.symm (hb y (by simp))
  | x::a,[],s,t,ha,_,_,ht,h=>by
    rcases ht with rfl | ⟨r,rfl⟩
    · simp at h
    · simp only[List.nil_append,List.cons_append,List.cons.injEq] at h
      exact absurd h.1 (ha x (by simp))
  | x::a,y::b,s,t,ha,hb,hs,ht,h=>by
    simp only[List.cons_append,List.cons.injEq] at h
    obtain⟨e1,e2⟩:=MD (fun z hz=>ha z (by simp[hz])) (fun z hz=>hb z (by simp[hz])) hs ht h.2
    exact⟨by rw[h.1,e1],e2⟩
def ER (xs:List Int):List UInt8:=Lib.join (xs.map Lib.itoa) [32]
def Ca (xs:List Int):ByteArray:=⟨(ER xs).toArray⟩
def DU (n:Int):ByteArray:=⟨(Lib.itoa n).toArray⟩
theorem Fj (r:List (List UInt8)):Lib.joinTail [32] r = []∨∃ q,Lib.joinTail [32] r=32::q:=by
  cases r with
  | nil=>exact .inl rfl
  | cons x r=>exact .inr ⟨x++Lib.joinTail [32] r,by simp[Lib.joinTail]⟩
theorem NA:∀ {xs ys:List Int},Lib.joinTail [32] (xs.map Lib.itoa)=Lib.joinTail [32] (ys.map Lib.itoa)→xs=ys
  | [],[],_=>rfl
  | [],y::ys,h=>by simp[Lib.joinTail] at h
  | x::xs,[],h=>by simp[Lib.joinTail] at h
  | x::xs,y::ys,h=>by
    have h':Lib.itoa x++Lib.joinTail [32] (xs.map Lib.itoa)=Lib.itoa y++Lib.joinTail [32] (ys.map Lib.itoa):=by simpa [Lib.joinTail] using h
    obtain⟨e1,e2⟩:=MD (c:=32) (fun z hz e=>(Ec x z hz).1 (by rw[e];rfl)) (fun z hz e=>(Ec y z hz).1 (by rw[e];rfl)) (Fj _) (Fj _) h'
    rw[NU e1,NA e2]
theorem QT (n:Int):Lib.itoa n≠[]:=by
  unfold Lib.itoa
  split
  · simp
  · exact Mn _
theorem KV {xs ys:List Int}(h:ER xs=ER ys):xs=ys:=by
  unfold ER at h
  cases xs with
  | nil =>
    cases ys with
    | nil=>rfl
    | cons y ys =>
      rw[List.map_cons,Lib.join_cons] at h
      have:Lib.itoa y++Lib.joinTail [32] (ys.map Lib.itoa) = []:=h.symm
      exact absurd (List.append_eq_nil_iff.1 this).1 (QT y)
  | cons x xs =>
    cases ys with
    | nil =>
      rw[List.map_cons,Lib.join_cons] at h
      have:Lib.itoa x++Lib.joinTail [32] (xs.map Lib.itoa) = []:=h
      exact absurd (List.append_eq_nil_iff.1 this).1 (QT x)
    | cons y ys =>
      rw[List.map_cons,Lib.join_cons,List.map_cons,Lib.join_cons] at h
      have h':Lib.itoa x++Lib.joinTail [32] (xs.map Lib.itoa)=Lib.itoa y++Lib.joinTail [32] (ys.map Lib.itoa):=h
      obtain⟨e1,e2⟩:=MD (c:=32) (fun z hz e=>(Ec x z hz).1 (by rw[e];rfl)) (fun z hz e=>(Ec y z hz).1 (by rw[e];rfl)) (Fj _) (Fj _) h'
      rw[NU e1,NA e2]
theorem Ve {xs ys:List Int}(h:Ca xs=Ca ys):xs=ys:=by
  refine KV ?_
  have:=congrArg (fun b:ByteArray=>b.data.toList) h
  simpa [Ca] using this
theorem Yn (xs ys:List Int):Ca xs=Ca ys↔xs=ys:=⟨Ve,fun h=>by rw[h]⟩
theorem R4 (xs:List Int):(⟨(Lib.join ((xs.map DU).map (·.data.toList)) [32]).toArray⟩:ByteArray)=Ca xs:=by
  unfold Ca ER
  rw[List.map_map]
  rfl
theorem OR:∀ (xs:List Int),(∀ x∈xs, -9223372036854775808≤x∧x≤9223372036854775807)→(Lib.joinTail [32] (xs.map Lib.itoa)).length≤22*xs.length
  | [],_=>by simp[Lib.joinTail]
  | x::xs,h=>by
    have e:Lib.joinTail [32] ((x::xs).map Lib.itoa) = [32]++(Lib.itoa x++Lib.joinTail [32] (xs.map Lib.itoa)):=by simp[Lib.joinTail]
    have h1:=Lib.itoa_length_le x (h x (by simp)).1 (h x (by simp)).2
    have h2:=OR xs fun y hy=>h y (by simp[hy])
    rw[e,List.length_append,List.length_append,List.length_cons,List.length_nil,List.length_cons]
    omega
theorem G0 {xs:List Int}(h:∀ x∈xs, -9223372036854775808≤x∧x≤9223372036854775807):(Ca xs).size≤22*xs.length:=by
  show (ER xs).toArray.size≤_
  rw[List.size_toArray]
  cases xs with
  | nil=>simp[ER,Lib.join]
  | cons x xs =>
    have h1:=Lib.itoa_length_le x (h x (by simp)).1 (h x (by simp)).2
    have h2:=OR xs fun y hy=>h y (by simp[hy])
    have e:ER (x::xs)=Lib.itoa x++Lib.joinTail [32] (xs.map Lib.itoa):=by rw[ER,List.map_cons,Lib.join_cons]
    rw[e,List.length_append,List.length_cons]
    omega
section
variable {α β:Type}[DecidableEq α]
def BP (k:α):List (α × β)→Option β
  | []=>none
  | (a,b)::t=>if k=a then some b else BP k t
def Hx (k:α)(v:β):List (α × β)→List (α × β)
  | []=>[(k,v)]
  | (a,b)::t=>if k=a then(a,v)::t else(a,b)::Hx k v t
def afind (k:α):List (α × β)→Nat→Option (Nat × β)
  | [],_=>none
  | (a,b)::t,i=>if k=a then some (i,b) else afind k t (i+1)
def XJ (k:α):List (α × β)→Nat
  | []=>0
  | (a,_)::t=>if k=a then 0 else XJ k t+1
theorem LN (k:α):∀ (l:List (α × β)) (i:Nat),(afind k l i).map (·.2)=BP k l
  | [],_=>rfl
  | (a,b)::t,i=>by
    rw[afind,BP]
    split
    · rfl
    · exact LN k t (i+1)
theorem H3 (k j:α)(v:β):∀ l:List (α × β),BP j (Hx k v l)=if j=k then some v else BP j l
  | []=>by simp[Hx,BP]
  | (a,b)::t=>by
    rw[Hx]
    split
    · rename_i hn
      subst hn
      rw[BP,BP]
      split <;> rfl
    · rename_i hn
      rw[BP,BP,H3 k j v t]
      split
      · rename_i hj
        rw[if_neg (fun e=>hn (e.symm.trans hj))]
      · rfl
end
structure KeyE (P:Program)(kt:TypeId){α:Type}[DecidableEq α](kE:α→Value):Prop where
  desc:∃ d,P.underlying kt=some d∧(∀ a,MapKept.IsKey d (kE a))∧∀ a b,Instr.sameNow d (kE a) (kE b)=some (decide (a=b))
  bits:∀ a,Instr.sameBits 10000 (kE a) (kE a)=true
def Bc (x:List Int):Value := .string (Ca x)
def valI (x:Int):Value := .int .i64 x
theorem MU (a b:ByteArray):(a==b)=decide (a=b):=by
  cases a with | mk x =>
  cases b with | mk y =>
  show (x==y)=_
  by_cases h:x=y <;> simp[h]
theorem aK {P:Program}{kt:TypeId}(h:P.underlying kt=some .string):KeyE P kt Bc :=
  ⟨⟨_,h,fun _=>trivial,fun a b=>by
    show some (Ca a==Ca b)=_
    rw[MU]
    exact congrArg some (decide_eq_decide.2 (Yn a b))⟩,fun a=>by
    show (Ca a==Ca a)=true
    rw[MU,decide_eq_true rfl]⟩
section
variable {α β:Type}[DecidableEq α](kE:α→Value)(vE:β→Value)
def Cz:Nat→List (α × β)→List MapEntry
  | _,[]=>[]
  | n,(a,b)::t=>⟨kE a,vE b,n⟩::Cz (n+1) t
omit [DecidableEq α] in
theorem OS:∀ (n:Nat) (l r:List (α × β)),Cz kE vE n (l++r)=Cz kE vE n l++Cz kE vE (n+l.length) r
  | n,[],r=>by simp[Cz]
  | n,(a,b)::t,r=>by
    rw[List.cons_append,Cz,Cz,OS (n+1) t r,List.cons_append,List.length_cons]
    congr 3
    omega
def mapA (g:Nat)(l:List (α × β)):Asn where
  p F w:=(∀ k,F k↔k=g)∧w.heap[g]?=some (.map (Cz kE vE 0 l).toArray l.length)
  loc h hw:=⟨h.1,(hw g ((h.1 g).2 rfl)).trans h.2⟩
variable {kE vE}{P:Program}{kt:TypeId}
theorem ES {d:TypeDesc}(hs:∀ a b,Instr.sameNow d (kE a) (kE b)=some (decide (a=b)))(k:α):∀ (l:List (α × β)) (n i:Nat),Instr.findNow d (kE k) (Cz kE vE n l) i=some ((afind k l i).map fun p=>(p.1,vE p.2))
  | [],_,_=>rfl
  | (a,b)::t,n,i=>by
    rw[Cz,afind]
    by_cases h:k=a
    · simp[Instr.findNow,hs,h]
    · simp[Instr.findNow,hs,h,ES hs k t]
theorem Ke (k:α):∀ {l:List (α × β)} {i:Nat},afind k l i=none→BP k l=none∧∀ v,Hx k v l=l++[(k,v)]
  | [],_,_=>⟨rfl,fun _=>rfl⟩
  | (a,b)::t,i,h=>by
    rw[afind] at h
    split at h
    · cases h
    · rename_i hn
      obtain⟨h1,h2⟩:=Ke k h
      exact⟨by rw[BP,if_neg hn,h1],fun v=>by rw[Hx,if_neg hn,h2];rfl⟩
theorem Kq (k:α):∀ {l:List (α × β)} {i j:Nat} {b:β},afind k l i=some (j,b)→i≤j∧j - i=XJ k l∧j - i<l.length∧BP k l=some b ∧
    ∀ n,(∃ e,(Cz kE vE n l)[j - i]?=some e∧e.key=kE k∧e.born=n+(j - i))∧∀ (v:β),(Cz kE vE n l).modify (j - i) (fun e=>{ e with key:=kE k,val:=vE v })=Cz kE vE n (Hx k v l)∧(Cz kE vE n l).modify (j - i) (fun e=>{ e with key:=kE k })=Cz kE vE n l∧(Hx k v l).length=l.length
  | [],_,_,_,h=>by cases h
  | (a,b)::t,i,j,c,h=>by
    rw[afind] at h
    split at h
    · rename_i hk
      simp only[Option.some.injEq,Prod.mk.injEq] at h
      obtain⟨rfl,rfl⟩:=h
      subst hk
      refine⟨Nat.le_refl _,by simp[XJ],by simp,by simp[BP],fun n=>⟨⟨⟨kE k,vE b,n⟩,by simp[Cz],rfl,by simp⟩,fun v=>?_⟩⟩
      rw[Hx,if_pos rfl,Cz,Cz,Nat.sub_self]
      exact⟨rfl,rfl,rfl⟩
    · rename_i hn
      obtain⟨h1,h2,h3,h4,h5⟩:=Kq k h
      have e:j - i=(j - (i+1))+1:=by omega
      refine⟨by omega,by rw[XJ,if_neg hn,← h2,e],by rw[List.length_cons];omega,by rw[BP,if_neg hn,h4],fun n=>?_⟩
      obtain⟨⟨x,x1,x2,x3⟩,h6⟩:=h5 (n+1)
      refine⟨⟨x,by rw[e,Cz,List.getElem?_cons_succ];exact x1,x2,by omega⟩,fun v=>?_⟩
      obtain⟨y1,y2,y3⟩:=h6 v
      rw[Hx,if_neg hn,Cz,Cz,e]
      exact⟨by rw[List.modify_succ_cons,y1],by rw[List.modify_succ_cons,y2],by rw[List.length_cons,List.length_cons,y3]⟩
end
section
variable {P:Program}{o:Oper}{n:Nat}{env:List (Nat × Value)}{W:World}{own:List Asn}
variable {α β:Type}[DecidableEq α]{kE:α→Value}{vE:β→Value}{t kt e g i:Nat}{x y:Operand}{l:List (α × β)}{k:α}{z:β}
structure MT (P:Program)(t kt e:TypeId)(z:Value):Prop where
  ht:P.underlying t=some (.map kt e)
  hz:∀ w,(zeroValue e).run P w = .ok z w
omit [DecidableEq α] in
theorem St.map {w:World}(h:St W w own)(hi:own[i]?=some (mapA kE vE g l)):w.heap[g]?=some (.map (Cz kE vE 0 l).toArray l.length):=by
  obtain⟨_,_,_,F,_,hH⟩:=h
  obtain⟨F1,_,h1⟩:=hH.get hi
  exact h1.2
def BO (kE:α→Value)(vE:β→Value)(g:Nat)(l:List (α × β))(w:World):Prop:=w.heap[g]?=some (.map (Cz kE vE 0 l).toArray l.length)
omit [DecidableEq α] in
theorem Ent.map (h:own[i]?=some (mapA kE vE g l)):Ent own (BO kE vE g l):=fun _ _ hs=>hs.map h
omit [DecidableEq α] in
theorem OG.makeMap (kE:α→Value)(vE:β→Value){r:Option Operand}(hop:o.op = .makeMap t r)(hr:r=none):OG P o n env W own fun v own'=>∃ g,v = .map (some g)∧own'=mapA kE vE g []::own:=fun a w next Q hf hs hk=>by
  subst hr
  have hr:(execOp a.eval o).run P w = .ok (.value (.map (some w.heap.size))) (w.alloc (.map #[] 0)):=by
    simp only[execOp,hop]
    refine run_val ?_
    simp[Instr.makeMap]
  unfold Oper.wp
  rw[hr]
  exact hk _ _ _ ⟨_,rfl,rfl⟩ (hs.push ((Below.refl _ _).alloc (Nat.le_refl _) _) (mapA kE vE w.heap.size []) (fun k=>k=w.heap.size) ⟨fun _=>Iff.rfl,heap_alloc_new w _⟩ fun g hg=>by subst hg;simp)
theorem N9 {w:World}(m:MT P t kt e (vE z))(K:KeyE P kt kE)(hb:w.heap[g]?=some (.map (Cz kE vE 0 l).toArray l.length))(c:Bool) :
    (Instr.lookup t (.map (some g)) (kE k) c).run P w = .ok (if c then .tuple #[vE ((BP k l).getD z),.bool (BP k l).isSome] else vE ((BP k l).getD z)) w:=by
  obtain⟨d,hd,hK,hS⟩:=K.desc
  have h1:=MapKept.run_findKey (P:=P) (w:=w) (k:=kE k) hd (ES (vE:=vE) hS k l 0 0)
  simp only[Instr.lookup,Sem.run_bind,run_underlying m.ht,Result.andThen_ok,MapKept.run_getObj_map hb,Sem.run_pure,MapKept.run_checkKey hd (hK k),h1]
  rw[← LN k l 0]
  cases afind k l 0 with
  | none =>
    simp only[Option.map_none,Sem.run_bind,m.hz,Result.andThen_ok,Sem.run_pure,Option.getD_none,Option.isSome_none]
  | some p =>
    obtain⟨j,b⟩:=p
    simp only[Option.map_some,Sem.run_bind,Result.andThen_ok,Sem.run_pure,Option.getD_some,Option.isSome_some]
theorem OD.lookup (hop:o.op = .lookup t x y false)(m:MT P t kt e (vE z))(K:KeyE P kt kE)(hx:ev env x=some (.map (some g)))(hy:ev env y=some (kE k))(hi:Ent own (BO kE vE g l)):OD P o n env W own (vE ((BP k l).getD z)) own :=
  .of fun a w hf hs=>by
    simp only[execOp,hop,hf.ev hx,hf.ev hy]
    exact run_val (N9 m K (hi W w hs) false)
theorem OD.lookupOk (hop:o.op = .lookup t x y true)(m:MT P t kt e (vE z))(K:KeyE P kt kE)(hx:ev env x=some (.map (some g)))(hy:ev env y=some (kE k))(hi:Ent own (BO kE vE g l)):OD P o n env W own (.tuple #[vE ((BP k l).getD z),.bool (BP k l).isSome]) own :=
  .of fun a w hf hs=>by
    simp only[execOp,hop,hf.ev hx,hf.ev hy]
    exact run_val (N9 m K (hi W w hs) true)
omit [DecidableEq α] in
theorem Tt {w:World}{l':List (α × β)}(hs:St W w own)(hi:own[i]?=some (mapA kE vE g l))(o':Obj)(ho:o' = .map (Cz kE vE 0 l').toArray l'.length):St W { w with heap:=w.heap.setIfInBounds g o' } (own.set i (mapA kE vE g l')):=by
  obtain⟨F1,⟨f0,f1⟩,f2,f3⟩:=hs.upd hi
  have hg:g<w.heap.size:=f2 _ ((f0 _).2 rfl)
  subst ho
  refine f3 _ _ (fun k=>k=g) rfl rfl rfl (by simp) ⟨fun _=>Iff.rfl,by simp[hg]⟩ (fun k _ hk=>?_) fun k hk=>?_
  · have hne:g≠k:=fun e=>hk ((f0 k).2 e.symm)
    simp[Array.getElem?_setIfInBounds_ne hne]
  · subst hk
    exact⟨.inl ((f0 _).2 rfl),by simpa using hg⟩
theorem YA {w:World}(ht:P.underlying t=some (.map kt e))(K:KeyE P kt kE)(hb:w.heap[g]?=some (.map (Cz kE vE 0 l).toArray l.length))(b:β) :
    (Instr.mapUpdate t (.map (some g)) (kE k) (vE b)).run P w = .ok () { w with heap:=w.heap.setIfInBounds g (.map (Cz kE vE 0 (Hx k b l)).toArray (Hx k b l).length) }:=by
  obtain⟨d,hd,hK,hS⟩:=K.desc
  have h1:=MapKept.run_findKey (P:=P) (w:=w) (k:=kE k) hd (ES (vE:=vE) hS k l 0 0)
  simp only[Instr.mapUpdate,Sem.run_bind,run_underlying ht,Result.andThen_ok,MapKept.run_getObj_map hb,MapKept.run_checkKey hd (hK k),h1]
  cases h:afind k l 0 with
  | none =>
    obtain⟨_,h2⟩:=Ke k h
    simp only[Option.map_none]
    rw[MapKept.run_setObj_map _ hb,h2 b,OS]
    simp[Cz]
  | some p =>
    obtain⟨j,c⟩:=p
    obtain⟨_,_,_,_,h5⟩:=Kq (kE:=kE) (vE:=vE) k h
    obtain⟨⟨x,x1,x2,_⟩,h6⟩:=h5 0
    obtain⟨y1,_,y3⟩:=h6 b
    simp only[Nat.sub_zero] at x1 y1
    simp only[Option.map_some]
    have e1:((Cz kE vE 0 l).toArray[j]?)=some x:=by simpa using x1
    simp only[e1,Option.map_some,Option.getD_some,x2,Instr.keyThatStays,K.bits,if_true,Sem.run_bind,Sem.run_pure,Result.andThen_ok]
    rw[MapKept.run_setObj_map _ hb,List.modify_toArray,y1,y3]
theorem OD.mapUpdate {u:Operand}{b:β}(hop:o.op = .mapUpdate t x y u)(ht:P.underlying t=some (.map kt e))(K:KeyE P kt kE)(hx:ev env x=some (.map (some g)))(hy:ev env y=some (kE k))(hu:ev env u=some (vE b))(hi:own[i]?=some (mapA kE vE g l)):OD P o n env W own undef (own.set i (mapA kE vE g (Hx k b l))):=fun a w next Q hf hs hk=>by
  have hr:(execOp a.eval o).run P w = .ok .skip { w with heap:=w.heap.setIfInBounds g (.map (Cz kE vE 0 (Hx k b l)).toArray (Hx k b l).length) }:=by
    simp[execOp,hop,hf.ev hx,hf.ev hy,hf.ev hu,YA ht K (hs.map hi) b]
  unfold Oper.wp
  rw[hr]
  exact hk _ _ _ ⟨rfl,rfl⟩ (Tt hs hi _ rfl)
end
end Go.Proofs.YtbmnnbglipkidaaGreatDoor
