/- The types of the seat as a table, and that the loaded program has them so. -/
import Derived.Test.YthboaankaaeemaaDoorC3
import Derived.Test.YthboaankaaeemaaDoorChecked
import Derived.KernelRfl
import Derived.Laws.MakeOwn
import Derived.Laws.Small
import Derived.Laws.Cover3
import Derived.Sort.Row
import Derived.Sort.Grow
import Derived.Laws.CopyRow
set_option maxRecDepth 10000
set_option linter.unusedVariables false
set_option linter.unusedSimpArgs false
namespace Go.Proofs.YthboaankaaeemaaDoor
open Go Go.Abs
theorem tokK{t:TypeId}{ti:TI}{d:TypeDesc}(z:Value)(hU:Tryd.prog.underlying t=some d)(hk:kindOf ti d)(hI:(Tryd.prog.info? t).map (fun i=>(i.zero,i.size,i.bytes))=some (some z,ti.size,ti.bytes):=by kernel_rfl)(hz:z.cells.toList=ti.zero:=by rfl)(ha:aggOf d=ti.agg:=by rfl)(h1:ti.zero.all Value.oneCell'=true:=by rfl)(hl:ti.zero.length=ti.size:=by rfl)(hp:Nat.beq ti.size 0=false:=by rfl):TIOk Tryd.prog t ti:=TIOk.of hI hU hz ha hk h1 hl hp
def ti1:TI:=⟨1,8,false,[.nilFunc],0,[],0,0⟩
theorem tok1:TIOk Tryd.prog 1 ti1:=tokK (.nilFunc) Tryd.underlying1 trivial
def ti2:TI:=⟨1,8,false,[.int .i64 0],0,[],0,0⟩
theorem tok2:TIOk Tryd.prog 2 ti2:=tokK (.int .i64 0) Tryd.underlying2 trivial
def ti3:TI:=⟨1,8,false,[.int .i64 0],0,[],0,0⟩
theorem tok3:TIOk Tryd.prog 3 ti3:=tokK (.int .i64 0) Tryd.underlying3 trivial
def ti4:TI:=⟨1,1,false,[.bool false],0,[],0,0⟩
theorem tok4:TIOk Tryd.prog 4 ti4:=tokK (.bool false) Tryd.underlying4 trivial
def ti5:TI:=⟨1,1,false,[.int .u8 0],0,[],0,0⟩
theorem tok5:TIOk Tryd.prog 5 ti5:=tokK (.int .u8 0) Tryd.underlying5 trivial
def ti6:TI:=⟨1,1,false,[.int .u8 0],0,[],0,0⟩
theorem tok6:TIOk Tryd.prog 6 ti6:=tokK (.int .u8 0) Tryd.underlying6 trivial
def ti7:TI:=⟨4,24,true,[.int .i64 0,.int .i64 0,.bool false,.int .u8 0],1,[(0,2),(1,3),(2,4),(3,6)],0,0⟩
theorem tok7:TIOk Tryd.prog 7 ti7:=tokK (.agg #[.int .i64 0,.int .i64 0,.bool false,.int .u8 0]) Tryd.underlying7 ⟨_,rfl,rfl⟩
def ti8:TI:=⟨4,24,true,[.int .i64 0,.int .i64 0,.bool false,.int .u8 0],1,[(0,2),(1,3),(2,4),(3,6)],0,0⟩
theorem tok8:TIOk Tryd.prog 8 ti8:=tokK (.agg #[.int .i64 0,.int .i64 0,.bool false,.int .u8 0]) Tryd.underlying8 ⟨_,rfl,rfl⟩
def ti9:TI:=⟨1,16,false,[.string ⟨#[]⟩],5,[],0,0⟩
theorem tok9:TIOk Tryd.prog 9 ti9:=tokK (.string ⟨#[]⟩) Tryd.underlying9 rfl
def ti10:TI:=⟨1,16,false,[.string ⟨#[]⟩],5,[],0,0⟩
theorem tok10:TIOk Tryd.prog 10 ti10:=tokK (.string ⟨#[]⟩) Tryd.underlying10 rfl
def ti11:TI:=⟨1,16,false,[.string ⟨#[]⟩],5,[],0,0⟩
theorem tok11:TIOk Tryd.prog 11 ti11:=tokK (.string ⟨#[]⟩) Tryd.underlying11 rfl
def ti12:TI:=⟨1,8,false,[.int .u64 0],0,[],0,0⟩
theorem tok12:TIOk Tryd.prog 12 ti12:=tokK (.int .u64 0) Tryd.underlying12 trivial
def ti13:TI:=⟨2,24,true,[.string ⟨#[]⟩,.int .u64 0],1,[(0,9),(1,12)],0,0⟩
theorem tok13:TIOk Tryd.prog 13 ti13:=tokK (.agg #[.string ⟨#[]⟩,.int .u64 0]) Tryd.underlying13 ⟨_,rfl,rfl⟩
def ti14:TI:=⟨2,24,true,[.string ⟨#[]⟩,.int .u64 0],1,[(0,9),(1,12)],0,0⟩
theorem tok14:TIOk Tryd.prog 14 ti14:=tokK (.agg #[.string ⟨#[]⟩,.int .u64 0]) Tryd.underlying14 ⟨_,rfl,rfl⟩
def ti15:TI:=⟨1,8,false,[.pointer none],6,[],198,0⟩
theorem tok15:TIOk Tryd.prog 15 ti15:=tokK (.pointer none) Tryd.underlying15 rfl
def ti16:TI:=⟨1,8,false,[.pointer none],6,[],201,0⟩
theorem tok16:TIOk Tryd.prog 16 ti16:=tokK (.pointer none) Tryd.underlying16 rfl
def ti17:TI:=⟨1,8,false,[.pointer none],6,[],210,0⟩
theorem tok17:TIOk Tryd.prog 17 ti17:=tokK (.pointer none) Tryd.underlying17 rfl
def ti19:TI:=⟨1,8,true,[.pointer none],1,[(0,17)],0,0⟩
theorem tok19:TIOk Tryd.prog 19 ti19:=tokK (.agg #[.pointer none]) Tryd.underlying19 ⟨_,rfl,rfl⟩
def ti22:TI:=⟨1,24,false,[.slice none 0 0],2,[],69,0⟩
theorem tok22:TIOk Tryd.prog 22 ti22:=tokK (.slice none 0 0) Tryd.underlying22 rfl
def ti23:TI:=⟨1,24,false,[.slice none 0 0],2,[],41,0⟩
theorem tok23:TIOk Tryd.prog 23 ti23:=tokK (.slice none 0 0) Tryd.underlying23 rfl
def ti24:TI:=⟨1,8,false,[.int .i64 0],0,[],0,0⟩
theorem tok24:TIOk Tryd.prog 24 ti24:=tokK (.int .i64 0) Tryd.underlying24 trivial
def ti26:TI:=⟨1,8,false,[.nilFunc],0,[],0,0⟩
theorem tok26:TIOk Tryd.prog 26 ti26:=tokK (.nilFunc) Tryd.underlying26 trivial
def ti27:TI:=⟨1,8,false,[.nilFunc],0,[],0,0⟩
theorem tok27:TIOk Tryd.prog 27 ti27:=tokK (.nilFunc) Tryd.underlying27 trivial
def ti28:TI:=⟨1,8,false,[.pointer none],6,[],33,0⟩
theorem tok28:TIOk Tryd.prog 28 ti28:=tokK (.pointer none) Tryd.underlying28 rfl
def ti29:TI:=⟨1,24,false,[.slice none 0 0],2,[],168,0⟩
theorem tok29:TIOk Tryd.prog 29 ti29:=tokK (.slice none 0 0) Tryd.underlying29 rfl
def ti30:TI:=⟨1,24,false,[.slice none 0 0],2,[],3,0⟩
theorem tok30:TIOk Tryd.prog 30 ti30:=tokK (.slice none 0 0) Tryd.underlying30 rfl
def ti31:TI:=⟨1,24,false,[.slice none 0 0],2,[],38,0⟩
theorem tok31:TIOk Tryd.prog 31 ti31:=tokK (.slice none 0 0) Tryd.underlying31 rfl
def ti32:TI:=⟨6,112,true,[.slice none 0 0,.slice none 0 0,.int .i64 0,.int .i64 0,.slice none 0 0,.slice none 0 0],1,[(0,22),(1,29),(2,3),(3,3),(4,30),(5,31)],0,0⟩
theorem tok32:TIOk Tryd.prog 32 ti32:=tokK (.agg #[.slice none 0 0,.slice none 0 0,.int .i64 0,.int .i64 0,.slice none 0 0,.slice none 0 0]) Tryd.underlying32 ⟨_,rfl,rfl⟩
def ti33:TI:=⟨6,112,true,[.slice none 0 0,.slice none 0 0,.int .i64 0,.int .i64 0,.slice none 0 0,.slice none 0 0],1,[(0,22),(1,29),(2,3),(3,3),(4,30),(5,31)],0,0⟩
theorem tok33:TIOk Tryd.prog 33 ti33:=tokK (.agg #[.slice none 0 0,.slice none 0 0,.int .i64 0,.int .i64 0,.slice none 0 0,.slice none 0 0]) Tryd.underlying33 ⟨_,rfl,rfl⟩
def ti35:TI:=⟨3,40,true,[.slice none 0 0,.int .i64 0,.int .i64 0],1,[(0,30),(1,3),(2,3)],0,0⟩
theorem tok35:TIOk Tryd.prog 35 ti35:=tokK (.agg #[.slice none 0 0,.int .i64 0,.int .i64 0]) Tryd.underlying35 ⟨_,rfl,rfl⟩
def ti37:TI:=⟨1,8,false,[.nilFunc],0,[],0,0⟩
theorem tok37:TIOk Tryd.prog 37 ti37:=tokK (.nilFunc) Tryd.underlying37 trivial
def ti38:TI:=⟨2,16,true,[.int .i64 0,.int .i64 0],3,[],3,2⟩
theorem tok38:TIOk Tryd.prog 38 ti38:=tokK (.agg #[.int .i64 0,.int .i64 0]) Tryd.underlying38 rfl
def ti41:TI:=⟨3,40,true,[.int .i64 0,.slice none 0 0,.bool false],1,[(0,3),(1,30),(2,4)],0,0⟩
theorem tok41:TIOk Tryd.prog 41 ti41:=tokK (.agg #[.int .i64 0,.slice none 0 0,.bool false]) Tryd.underlying41 ⟨_,rfl,rfl⟩
def ti44:TI:=⟨1,8,false,[.nilFunc],0,[],0,0⟩
theorem tok44:TIOk Tryd.prog 44 ti44:=tokK (.nilFunc) Tryd.underlying44 trivial
def ti46:TI:=⟨1,8,false,[.nilFunc],0,[],0,0⟩
theorem tok46:TIOk Tryd.prog 46 ti46:=tokK (.nilFunc) Tryd.underlying46 trivial
def ti47:TI:=⟨1,8,false,[.pointer none],6,[],117,0⟩
theorem tok47:TIOk Tryd.prog 47 ti47:=tokK (.pointer none) Tryd.underlying47 rfl
def ti49:TI:=⟨1,8,false,[.nilFunc],0,[],0,0⟩
theorem tok49:TIOk Tryd.prog 49 ti49:=tokK (.nilFunc) Tryd.underlying49 trivial
def ti50:TI:=⟨3,56,true,[.int .i64 0,.slice none 0 0,.slice none 0 0],1,[(0,3),(1,22),(2,22)],0,0⟩
theorem tok50:TIOk Tryd.prog 50 ti50:=tokK (.agg #[.int .i64 0,.slice none 0 0,.slice none 0 0]) Tryd.underlying50 ⟨_,rfl,rfl⟩
def ti51:TI:=⟨3,56,true,[.int .i64 0,.slice none 0 0,.slice none 0 0],1,[(0,3),(1,22),(2,22)],0,0⟩
theorem tok51:TIOk Tryd.prog 51 ti51:=tokK (.agg #[.int .i64 0,.slice none 0 0,.slice none 0 0]) Tryd.underlying51 ⟨_,rfl,rfl⟩
def ti56:TI:=⟨1,24,false,[.slice none 0 0],2,[],51,0⟩
theorem tok56:TIOk Tryd.prog 56 ti56:=tokK (.slice none 0 0) Tryd.underlying56 rfl
def ti57:TI:=⟨1,8,false,[.nilFunc],0,[],0,0⟩
theorem tok57:TIOk Tryd.prog 57 ti57:=tokK (.nilFunc) Tryd.underlying57 trivial
def ti58:TI:=⟨1,8,false,[.nilFunc],0,[],0,0⟩
theorem tok58:TIOk Tryd.prog 58 ti58:=tokK (.nilFunc) Tryd.underlying58 trivial
def ti59:TI:=⟨1,8,false,[.nilFunc],0,[],0,0⟩
theorem tok59:TIOk Tryd.prog 59 ti59:=tokK (.nilFunc) Tryd.underlying59 trivial
def ti60:TI:=⟨1,8,false,[.nilFunc],0,[],0,0⟩
theorem tok60:TIOk Tryd.prog 60 ti60:=tokK (.nilFunc) Tryd.underlying60 trivial
def ti62:TI:=⟨1,8,false,[.nilFunc],0,[],0,0⟩
theorem tok62:TIOk Tryd.prog 62 ti62:=tokK (.nilFunc) Tryd.underlying62 trivial
def ti64:TI:=⟨1,8,false,[.nilFunc],0,[],0,0⟩
theorem tok64:TIOk Tryd.prog 64 ti64:=tokK (.nilFunc) Tryd.underlying64 trivial
def ti65:TI:=⟨1,8,false,[.pointer none],6,[],76,0⟩
theorem tok65:TIOk Tryd.prog 65 ti65:=tokK (.pointer none) Tryd.underlying65 rfl
def ti67:TI:=⟨1,24,false,[.slice none 0 0],2,[],135,0⟩
theorem tok67:TIOk Tryd.prog 67 ti67:=tokK (.slice none 0 0) Tryd.underlying67 rfl
def ti68:TI:=⟨5,88,true,[.int .i64 0,.int .i64 0,.slice none 0 0,.slice none 0 0,.slice none 0 0],1,[(0,3),(1,3),(2,30),(3,30),(4,67)],0,0⟩
theorem tok68:TIOk Tryd.prog 68 ti68:=tokK (.agg #[.int .i64 0,.int .i64 0,.slice none 0 0,.slice none 0 0,.slice none 0 0]) Tryd.underlying68 ⟨_,rfl,rfl⟩
def ti69:TI:=⟨5,88,true,[.int .i64 0,.int .i64 0,.slice none 0 0,.slice none 0 0,.slice none 0 0],1,[(0,3),(1,3),(2,30),(3,30),(4,67)],0,0⟩
theorem tok69:TIOk Tryd.prog 69 ti69:=tokK (.agg #[.int .i64 0,.int .i64 0,.slice none 0 0,.slice none 0 0,.slice none 0 0]) Tryd.underlying69 ⟨_,rfl,rfl⟩
def ti70:TI:=⟨1,8,false,[.nilFunc],0,[],0,0⟩
theorem tok70:TIOk Tryd.prog 70 ti70:=tokK (.nilFunc) Tryd.underlying70 trivial
def ti72:TI:=⟨1,24,false,[.slice none 0 0],2,[],111,0⟩
theorem tok72:TIOk Tryd.prog 72 ti72:=tokK (.slice none 0 0) Tryd.underlying72 rfl
def ti73:TI:=⟨1,24,false,[.slice none 0 0],2,[],72,0⟩
theorem tok73:TIOk Tryd.prog 73 ti73:=tokK (.slice none 0 0) Tryd.underlying73 rfl
def ti74:TI:=⟨1,8,false,[.map none],4,[],72,0⟩
theorem tok74:TIOk Tryd.prog 74 ti74:=tokK (.map none) Tryd.underlying74 ⟨_,rfl⟩
def ti76:TI:=⟨6,112,true,[.slice none 0 0,.slice none 0 0,.map none,.slice none 0 0,.slice none 0 0,.bool false],1,[(0,22),(1,73),(2,74),(3,72),(4,72),(5,4)],0,0⟩
theorem tok76:TIOk Tryd.prog 76 ti76:=tokK (.agg #[.slice none 0 0,.slice none 0 0,.map none,.slice none 0 0,.slice none 0 0,.bool false]) Tryd.underlying76 ⟨_,rfl,rfl⟩
def ti84:TI:=⟨1,8,false,[.pointer none],6,[],122,0⟩
theorem tok84:TIOk Tryd.prog 84 ti84:=tokK (.pointer none) Tryd.underlying84 rfl
def ti85:TI:=⟨1,8,false,[.nilFunc],0,[],0,0⟩
theorem tok85:TIOk Tryd.prog 85 ti85:=tokK (.nilFunc) Tryd.underlying85 trivial
def ti90:TI:=⟨1,8,false,[.pointer none],6,[],133,0⟩
theorem tok90:TIOk Tryd.prog 90 ti90:=tokK (.pointer none) Tryd.underlying90 rfl
def ti93:TI:=⟨1,8,false,[.nilFunc],0,[],0,0⟩
theorem tok93:TIOk Tryd.prog 93 ti93:=tokK (.nilFunc) Tryd.underlying93 trivial
def ti94:TI:=⟨1,8,false,[.nilFunc],0,[],0,0⟩
theorem tok94:TIOk Tryd.prog 94 ti94:=tokK (.nilFunc) Tryd.underlying94 trivial
def ti95:TI:=⟨1,8,false,[.pointer none],6,[],22,0⟩
theorem tok95:TIOk Tryd.prog 95 ti95:=tokK (.pointer none) Tryd.underlying95 rfl
def ti98:TI:=⟨1,8,false,[.map none],4,[],3,0⟩
theorem tok98:TIOk Tryd.prog 98 ti98:=tokK (.map none) Tryd.underlying98 ⟨_,rfl⟩
def ti99:TI:=⟨1,24,false,[.slice none 0 0],2,[],90,0⟩
theorem tok99:TIOk Tryd.prog 99 ti99:=tokK (.slice none 0 0) Tryd.underlying99 rfl
def ti102:TI:=⟨1,8,false,[.nilFunc],0,[],0,0⟩
theorem tok102:TIOk Tryd.prog 102 ti102:=tokK (.nilFunc) Tryd.underlying102 trivial
def ti106:TI:=⟨1,8,false,[.nilFunc],0,[],0,0⟩
theorem tok106:TIOk Tryd.prog 106 ti106:=tokK (.nilFunc) Tryd.underlying106 trivial
def ti111:TI:=⟨1,8,false,[.int .u64 0],0,[],0,0⟩
theorem tok111:TIOk Tryd.prog 111 ti111:=tokK (.int .u64 0) Tryd.underlying111 trivial
def ti113:TI:=⟨1,8,false,[.nilFunc],0,[],0,0⟩
theorem tok113:TIOk Tryd.prog 113 ti113:=tokK (.nilFunc) Tryd.underlying113 trivial
def ti114:TI:=⟨1,8,false,[.nilFunc],0,[],0,0⟩
theorem tok114:TIOk Tryd.prog 114 ti114:=tokK (.nilFunc) Tryd.underlying114 trivial
def ti115:TI:=⟨1,24,false,[.slice none 0 0],2,[],47,0⟩
theorem tok115:TIOk Tryd.prog 115 ti115:=tokK (.slice none 0 0) Tryd.underlying115 rfl
def ti117:TI:=⟨6,112,true,[.int .i64 0,.int .i64 0,.slice none 0 0,.slice none 0 0,.slice none 0 0,.slice none 0 0],1,[(0,69),(5,115)],0,0⟩
theorem tok117:TIOk Tryd.prog 117 ti117:=tokK (.agg #[.int .i64 0,.int .i64 0,.slice none 0 0,.slice none 0 0,.slice none 0 0,.slice none 0 0]) Tryd.underlying117 ⟨_,rfl,rfl⟩
def ti118:TI:=⟨1,8,false,[.pointer none],6,[],155,0⟩
theorem tok118:TIOk Tryd.prog 118 ti118:=tokK (.pointer none) Tryd.underlying118 rfl
def ti120:TI:=⟨1,24,false,[.slice none 0 0],2,[],84,0⟩
theorem tok120:TIOk Tryd.prog 120 ti120:=tokK (.slice none 0 0) Tryd.underlying120 rfl
def ti122:TI:=⟨6,80,true,[.int .i64 0,.int .i64 0,.slice none 0 0,.slice none 0 0,.pointer none,.nilFunc],1,[(0,3),(1,3),(2,30),(3,120),(4,118),(5,85)],0,0⟩
theorem tok122:TIOk Tryd.prog 122 ti122:=tokK (.agg #[.int .i64 0,.int .i64 0,.slice none 0 0,.slice none 0 0,.pointer none,.nilFunc]) Tryd.underlying122 ⟨_,rfl,rfl⟩
def ti124:TI:=⟨1,8,false,[.nilFunc],0,[],0,0⟩
theorem tok124:TIOk Tryd.prog 124 ti124:=tokK (.nilFunc) Tryd.underlying124 trivial
def ti126:TI:=⟨1,8,false,[.nilFunc],0,[],0,0⟩
theorem tok126:TIOk Tryd.prog 126 ti126:=tokK (.nilFunc) Tryd.underlying126 trivial
def ti133:TI:=⟨5,88,true,[.int .i64 0,.int .i64 0,.slice none 0 0,.slice none 0 0,.slice none 0 0],1,[(0,3),(1,3),(2,30),(3,99),(4,67)],0,0⟩
theorem tok133:TIOk Tryd.prog 133 ti133:=tokK (.agg #[.int .i64 0,.int .i64 0,.slice none 0 0,.slice none 0 0,.slice none 0 0]) Tryd.underlying133 ⟨_,rfl,rfl⟩
def ti134:TI:=⟨2,32,true,[.int .i64 0,.slice none 0 0],1,[(0,3),(1,30)],0,0⟩
theorem tok134:TIOk Tryd.prog 134 ti134:=tokK (.agg #[.int .i64 0,.slice none 0 0]) Tryd.underlying134 ⟨_,rfl,rfl⟩
def ti135:TI:=⟨2,32,true,[.int .i64 0,.slice none 0 0],1,[(0,3),(1,30)],0,0⟩
theorem tok135:TIOk Tryd.prog 135 ti135:=tokK (.agg #[.int .i64 0,.slice none 0 0]) Tryd.underlying135 ⟨_,rfl,rfl⟩
def ti138:TI:=⟨1,8,false,[.nilFunc],0,[],0,0⟩
theorem tok138:TIOk Tryd.prog 138 ti138:=tokK (.nilFunc) Tryd.underlying138 trivial
def ti147:TI:=⟨1,8,false,[.nilFunc],0,[],0,0⟩
theorem tok147:TIOk Tryd.prog 147 ti147:=tokK (.nilFunc) Tryd.underlying147 trivial
def ti153:TI:=⟨1,8,false,[.int .u64 0],0,[],0,0⟩
theorem tok153:TIOk Tryd.prog 153 ti153:=tokK (.int .u64 0) Tryd.underlying153 trivial
def ti155:TI:=⟨3,24,true,[.int .i64 0,.pointer none,.pointer none],1,[(0,3),(1,84),(2,118)],0,0⟩
theorem tok155:TIOk Tryd.prog 155 ti155:=tokK (.agg #[.int .i64 0,.pointer none,.pointer none]) Tryd.underlying155 ⟨_,rfl,rfl⟩
def ti163:TI:=⟨1,8,false,[.map none],4,[],164,0⟩
theorem tok163:TIOk Tryd.prog 163 ti163:=tokK (.map none) Tryd.underlying163 ⟨_,rfl⟩
def ti168:TI:=⟨3,56,true,[.int .i64 0,.slice none 0 0,.slice none 0 0],1,[(0,3),(1,30),(2,22)],0,0⟩
theorem tok168:TIOk Tryd.prog 168 ti168:=tokK (.agg #[.int .i64 0,.slice none 0 0,.slice none 0 0]) Tryd.underlying168 ⟨_,rfl,rfl⟩
def ti171:TI:=⟨12,96,true,[.int .i64 0,.int .i64 0,.int .i64 0,.int .i64 0,.int .i64 0,.int .i64 0,.int .i64 0,.int .i64 0,.int .i64 0,.int .i64 0,.int .i64 0,.int .i64 0],3,[],3,12⟩
theorem tok171:TIOk Tryd.prog 171 ti171:=tokK (.agg #[.int .i64 0,.int .i64 0,.int .i64 0,.int .i64 0,.int .i64 0,.int .i64 0,.int .i64 0,.int .i64 0,.int .i64 0,.int .i64 0,.int .i64 0,.int .i64 0]) Tryd.underlying171 rfl
def ti175:TI:=⟨1,8,false,[.nilFunc],0,[],0,0⟩
theorem tok175:TIOk Tryd.prog 175 ti175:=tokK (.nilFunc) Tryd.underlying175 trivial
def ti177:TI:=⟨1,8,false,[.int .i64 0],0,[],0,0⟩
theorem tok177:TIOk Tryd.prog 177 ti177:=tokK (.int .i64 0) Tryd.underlying177 trivial
def ti185:TI:=⟨1,4,false,[.int .u32 0],0,[],0,0⟩
theorem tok185:TIOk Tryd.prog 185 ti185:=tokK (.int .u32 0) Tryd.underlying185 trivial
def ti187:TI:=⟨1,8,false,[.int .u64 0],0,[],0,0⟩
theorem tok187:TIOk Tryd.prog 187 ti187:=tokK (.int .u64 0) Tryd.underlying187 trivial
def ti191:TI:=⟨1,8,false,[.pointer none],6,[],3,0⟩
theorem tok191:TIOk Tryd.prog 191 ti191:=tokK (.pointer none) Tryd.underlying191 rfl
def ti193:TI:=⟨1,8,false,[.pointer none],6,[],187,0⟩
theorem tok193:TIOk Tryd.prog 193 ti193:=tokK (.pointer none) Tryd.underlying193 rfl
def ti198:TI:=⟨4,40,true,[.pointer none,.pointer none,.pointer none,.string ⟨#[]⟩],1,[(0,17),(1,17),(2,17),(3,9)],0,0⟩
theorem tok198:TIOk Tryd.prog 198 ti198:=tokK (.agg #[.pointer none,.pointer none,.pointer none,.string ⟨#[]⟩]) Tryd.underlying198 ⟨_,rfl,rfl⟩
def ti203:TI:=⟨1,1,false,[.int .u8 0],0,[],0,0⟩
theorem tok203:TIOk Tryd.prog 203 ti203:=tokK (.int .u8 0) Tryd.underlying203 trivial
def ti204:TI:=⟨1,1,false,[.int .u8 0],0,[],0,0⟩
theorem tok204:TIOk Tryd.prog 204 ti204:=tokK (.int .u8 0) Tryd.underlying204 trivial
def ti205:TI:=⟨1,8,false,[.nilFunc],0,[],0,0⟩
theorem tok205:TIOk Tryd.prog 205 ti205:=tokK (.nilFunc) Tryd.underlying205 trivial
def ti206:TI:=⟨1,8,false,[.pointer none],6,[],5,0⟩
theorem tok206:TIOk Tryd.prog 206 ti206:=tokK (.pointer none) Tryd.underlying206 rfl
def ti207:TI:=⟨1,4,false,[.int .i32 0],0,[],0,0⟩
theorem tok207:TIOk Tryd.prog 207 ti207:=tokK (.int .i32 0) Tryd.underlying207 trivial
def ti208:TI:=⟨1,4,false,[.int .i32 0],0,[],0,0⟩
theorem tok208:TIOk Tryd.prog 208 ti208:=tokK (.int .i32 0) Tryd.underlying208 trivial
def ti210:TI:=⟨11,48,true,[.int .u64 0,.int .u64 0,.int .u32 0,.int .u8 0,.int .u8 0,.int .u8 0,.int .u8 0,.nilFunc,.pointer none,.int .i32 0,.int .i32 0],1,[(0,12),(1,12),(2,185),(3,203),(4,5),(5,5),(6,204),(7,205),(8,206),(9,207),(10,208)],0,0⟩
theorem tok210:TIOk Tryd.prog 210 ti210:=tokK (.agg #[.int .u64 0,.int .u64 0,.int .u32 0,.int .u8 0,.int .u8 0,.int .u8 0,.int .u8 0,.nilFunc,.pointer none,.int .i32 0,.int .i32 0]) Tryd.underlying210 ⟨_,rfl,rfl⟩
def tab:Tab:=[(1,ti1),(2,ti2),(3,ti3),(4,ti4),(5,ti5),(6,ti6),(7,ti7),(8,ti8),(9,ti9),(10,ti10),(11,ti11),(12,ti12),(13,ti13),(14,ti14),(15,ti15),(16,ti16),(17,ti17),(19,ti19),(22,ti22),(23,ti23),(24,ti24),(26,ti26),(27,ti27),(28,ti28),(29,ti29),(30,ti30),(31,ti31),(32,ti32),(33,ti33),(35,ti35),(37,ti37),(38,ti38),(41,ti41),(44,ti44),(46,ti46),(47,ti47),(49,ti49),(50,ti50),(51,ti51),(56,ti56),(57,ti57),(58,ti58),(59,ti59),(60,ti60),(62,ti62),(64,ti64),(65,ti65),(67,ti67),(68,ti68),(69,ti69),(70,ti70),(72,ti72),(73,ti73),(74,ti74),(76,ti76),(84,ti84),(85,ti85),(90,ti90),(93,ti93),(94,ti94),(95,ti95),(98,ti98),(99,ti99),(102,ti102),(106,ti106),(111,ti111),(113,ti113),(114,ti114),(115,ti115),(117,ti117),(118,ti118),(120,ti120),(122,ti122),(124,ti124),(126,ti126),(133,ti133),(134,ti134),(135,ti135),(138,ti138),(147,ti147),(153,ti153),(155,ti155),(163,ti163),(168,ti168),(171,ti171),(175,ti175),(177,ti177),(185,ti185),(187,ti187),(191,ti191),(193,ti193),(198,ti198),(203,ti203),(204,ti204),(205,ti205),(206,ti206),(207,ti207),(208,ti208),(210,ti210)]
set_option maxRecDepth 20000 in
theorem tabOk:TabOk Tryd.prog tab:=TabOk.of (by
 simp only[tab,List.forall_mem_cons]
 exact⟨tok1,tok2,tok3,tok4,tok5,tok6,tok7,tok8,tok9,tok10,tok11,tok12,tok13,tok14,tok15,tok16,tok17,tok19,tok22,tok23,tok24,tok26,tok27,tok28,tok29,tok30,tok31,tok32,tok33,tok35,tok37,tok38,tok41,tok44,tok46,tok47,tok49,tok50,tok51,tok56,tok57,tok58,tok59,tok60,tok62,tok64,tok65,tok67,tok68,tok69,tok70,tok72,tok73,tok74,tok76,tok84,tok85,tok90,tok93,tok94,tok95,tok98,tok99,tok102,tok106,tok111,tok113,tok114,tok115,tok117,tok118,tok120,tok122,tok124,tok126,tok133,tok134,tok135,tok138,tok147,tok153,tok155,tok163,tok168,tok171,tok175,tok177,tok185,tok187,tok191,tok193,tok198,tok203,tok204,tok205,tok206,tok207,tok208,tok210,fun _ h=>by cases h⟩)
end Go.Proofs.YthboaankaaeemaaDoor
namespace Go.Abs
section
variable {E:Env}{o:Oper}{fr:Fr}{σ:St}
theorem RV.replicate{w:World}{C:Ctx}{c:AC}{v:Value}(h:R w C c v):∀n:Nat,RV w C (List.replicate n c) (List.replicate n v)
 |0=>by simp[RV]
 |n+1=>⟨v,List.replicate n v,by simp[List.replicate_succ],h,RV.replicate h n⟩
theorem AStep.makeArr{t:TypeId}{ti tj:TI}{x y:Operand}{n:Nat}{z:Value}(hT:TabOk E.P E.T)(ho:o.op=.makeSlice t x y)(ht:Tab.get t E.T=some ti)(hk:Nat.beq ti.kind 2=true)(hj:Tab.get ti.elem E.T=some tj)(hs:Nat.beq tj.size 1=true)(hz:tj.zero=[z])
  (hx:aEval E.Γ fr x=some (.one (.lit (.int .i64 n)))) (hy:aEval E.Γ fr y=some (.one (.lit (.int .i64 n)))) (hb:tj.bytes * n<=281474976710656) (hn:n<=281474976710656):
  AStep E o fr σ (.one (.arr (.l σ.n) 1 0 n n)) (σ.push (.cells (List.replicate n (.lit z)))):=by
 intro F w C tmps hi hf next Q hk2
 have e1:=Q01 (a:=⟨tmps,E.ds⟩) hi hf hx
 have e2:=Q01 (a:=⟨tmps,E.ds⟩) hi hf hy
 simp only[RF,R]at e1 e2
 have hs':tj.size=1:=Nat.eq_of_beq_eq_true hs
 have hsl:=(hT t ti ht).slice (Nat.eq_of_beq_eq_true hk)
 have htj:=hT _ _ hj
 obtain⟨i,d,z',h1,h2,h3,h4,h5,h6,h7,h8⟩:=htj.ex
 have hone:z.oneCell'=true:=by have:=htj.one;rw[hz]at this;simpa using this
 have hbi:(i.bytes:Int) * (n:Int)<=281474976710656:=by
  rw[h4]
  have h:((tj.bytes * n:Nat):Int)<=281474976710656:=by omega
  rwa [Int.natCast_mul]at h
 have hr:=run_make (P:=E.P) w t ti.elem i z' hsl h1 h5 .i64 .i64 n n (by omega) (Int.le_refl _) hbi (by omega)
 have hcells:madeCells z'.cells ((n:Int).toNat * i.size)=(List.replicate n z).toArray:=by
  rw[h3,hs']
  have:z'.cells=#[z]:=by apply Array.ext';rw[h6,hz]
  rw[this]
  apply Array.ext'
  simp[madeCells,Nat.mod_one]
  rw[List.map_const'];simp
 rw[hcells]at hr
 obtain⟨C',he,hno,hnp,hin,hok,hblk⟩:=hi.newObj (cs:=List.replicate n (.lit z)) (xs:=List.replicate n z) (RV.replicate (by simp only[R];exact⟨trivial,hone⟩) n) ti.elem
 have hrun:(execOp (Act.eval ⟨tmps,E.ds⟩) o).run E.P w=.ok (.value (.slice (some ⟨w.heap.size,0,none⟩) n n)) (w.alloc (.cells (List.replicate n z).toArray ti.elem)):=by
  unfold execOp
  simp only[ho,e1.1,e2.1,Sem.run_bind,hr,Result.andThen_ok]
  simp
 unfold Oper.wp
 rw[hrun,Oper.upon_value]
 exact hk2 _ _ C' ⟨Stp.alloc hi.base _ _,he,Nat.le_of_eq hno.symm,hnp⟩ hin (by simp only[RF,R];exact⟨hok,by rw[hblk,Nat.zero_mul],Nat.le_refl _⟩)
theorem AStep.idxOwn{t:TypeId}{ti tj:TI}{x i:Operand}{k:IntKind}{j:Id}{s off len cap:Nat}{n:Nat}(hT:TabOk E.P E.T)(ho:o.op=.indexAddr t x i)(ht:Tab.get t E.T=some ti)(hk:Nat.beq ti.kind 2=true)(hj:Tab.get ti.elem E.T=some tj)(hs:Nat.beq tj.size s=true)
  (hx:aEval E.Γ fr x=some (.one (.arr j s off len cap))) (hi':aEval E.Γ fr i=some (.one (.lit (.int k n)))) (hn:n < len):AStep E o fr σ (.one (.ptr j (off * s+n * s))) σ:=by
 refine AStep.quiet fun F w C tmps hi hf=>?_
 have h1:=Q01 (a:=⟨tmps,E.ds⟩) hi hf hx
 have h2:=Q01 (a:=⟨tmps,E.ds⟩) hi hf hi'
 have hsz:=(hT _ _ hj).run_sizeOf w
 have hsl:=(hT t ti ht).slice (Nat.eq_of_beq_eq_true hk)
 have hs':tj.size=s:=Nat.eq_of_beq_eq_true hs
 simp only[RF,R]at h1 h2
 obtain⟨hok,hx1,hc⟩:=h1
 have hlt':(n:Int) < len:=by omega
 refine⟨.pointer (some ((⟨C.blk j,off * s,none⟩:Addr).add (n * s))),?_,hok,?_⟩
 ·unfold execOp
  simp only[ho,hx1,h2.1]
  simp[Instr.indexAt,asIntOf,run_underlying hsl,hlt',hn,hsz,hs']
 ·rw[Addr.add_none rfl]
theorem AStep.loadOwn{t:TypeId}{ti:TI}{x:Operand}{j:Id}{off:Nat}{cs:List AC}{c:AC}(hT:TabOk E.P E.T)(ho:o.op=.load t x)(ht:Tab.get t E.T=some ti)(ha:ti.agg=false)(hs:Nat.beq ti.size 1=true)(hx:aEval E.Γ fr x=some (.one (.ptr j off)))
  (hg:σ.get j=some (.cells cs)) (hc:cs[off]?=some c):AStep E o fr σ (.one c) σ:=by
 refine AStep.ofOp hT ?_
 have hs':ti.size=1:=Nat.eq_of_beq_eq_true hs
 have hlt:off < cs.length:=(List.getElem?_eq_some_iff.1 hc).1
 have e1:(cs.drop off).take 1=[c]:=by
  rw[List.drop_eq_getElem_cons hlt]
  simp[(List.getElem?_eq_some_iff.1 hc).2]
 have hb:Nat.ble (off+1) cs.length=true:=Nat.ble_eq▸(show off+1<=cs.length by omega)
 simp only[ho,aOp,ht,ha,hs',hx,aLoad,hg,hb,cond_true,Q13,e1,mkFV]
 rfl
theorem AStep.storeOwn{t:TypeId}{ti:TI}{x y:Operand}{j:Id}{off:Nat}{cs:List AC}{c:AC}(hT:TabOk E.P E.T)(ho:o.op=.store t x y)(ht:Tab.get t E.T=some ti)(hs:Nat.beq ti.size 1=true)(hx:aEval E.Γ fr x=some (.one (.ptr j off)))
  (hy : aEval E.Γ fr y = some (.one c)) (hg : σ.get j = some (.cells cs)) (hlt : off < cs.length) : aOp E.T E.Γ o.op fr σ = some (none, σ.set j (.cells (cs.set off c))) := by
 have hs':ti.size=1:=Nat.eq_of_beq_eq_true hs
 have hb:Nat.ble (off+1) cs.length=true:=Nat.ble_eq▸(show off+1<=cs.length by omega)
 have ov:∀(xs:List AC) (n:Nat),n < xs.length->over xs n [c]=xs.set n c:=by
  intro xs
  induction xs with
  |nil=>intro n h;simp at h
  |cons a xs ih=>
   intro n h
   cases n with
   |zero=>cases xs <;> simp[over]
   |succ n=>simp only[over,List.set_cons_succ];rw[ih n (by simpa using h)]
 simp only[ho,aOp,ht,hx,hy,Qd0,hg,FV.cells,hs',hb,List.length_singleton,Q3h,cond_true,Bool.and_self,Q13,ov cs off hlt]
end
theorem AOps.storeOwn{E:Env}{ops:Array Oper}{rest:List Oper}{o:Oper}{K:Cont}{fr:Fr}{σ:St}{t:TypeId}{ti:TI}{x y:Operand}{j:Id}{off:Nat}{cs:List AC}{c:AC}(hT:TabOk E.P E.T)(hgd:o.guard=none)(hd:o.dst=none)(ho:o.op=.store t x y)(ht:Tab.get t E.T=some ti)(hs:Nat.beq ti.size 1=true)(hx:aEval E.Γ fr x=some (.one (.ptr j off)))
  (hy:aEval E.Γ fr y=some (.one c)) (hg:σ.get j=some (.cells cs)) (hlt:off < cs.length) (h:AOps E ops rest K fr (σ.set j (.cells (cs.set off c)))):AOps E ops (o::rest) K fr σ:=
 AOps.store hT hgd hd (AStep.storeOwn hT ho ht hs hx hy hg hlt) h
end Go.Abs
namespace Go.Abs
def vec (s:Nat)(es:List (List AC))(cap:Nat):List AC:=es.flatten++List.replicate ((cap - es.length) * s) .any
inductive BaseO (σ:St):AC->Nat->List (List AC)->Nat->St->Prop
 |nil (s:Nat):BaseO σ (.lit (.slice none 0 0)) s [] 0 σ
 |own (s cap:Nat) (es:List (List AC)) (i:Id) (h:σ.get i=some (.cells (vec s es cap))) (hl:∀x∈es,x.length=s) (hn:es.length<=cap):BaseO σ (.arr i s 0 es.length cap) s es cap (σ.set i .dead)
theorem Qak{z:Array Value}(h:z.toList.all Value.oneCell'=true)(hp:z.size≠0)(n:Nat):∀x∈(Builtin.zeroCells z n).toList,x.oneCell'=true:=by
 intro x hx
 simp only[Builtin.zeroCells,Array.toList_map,List.mem_map]at hx
 obtain⟨i,_,rfl⟩:=hx
 have hlt:i % z.size < z.size:=Nat.mod_lt _ (by omega)
 rw[getElem!_pos z _ hlt]
 exact List.all_eq_true.1 h _ (by simp)
theorem RV.anys{w:World}{C:Ctx}:∀(l:List Value),(∀x∈l,x.oneCell'=true)->RV w C (List.replicate l.length .any) l
 |[],_=>by simp[RV]
 |x::l,h=>⟨x,l,rfl,h x (by simp),RV.anys l fun y hy=>h y (by simp[hy])⟩
theorem RV.toAny{w:World}{C:Ctx}{cs:List AC}{l:List Value}(h:RV w C cs l):RV w C (List.replicate cs.length .any) l:=by
 rw[←h.length];exact RV.anys l h.one
theorem Q42{s:Nat}:∀{es:List (List AC)},(∀x∈es,x.length=s)->es.flatten.length=es.length * s
 |[],_=>by simp
 |e::es,h=>by
  have ih:=Q42 (es:=es) (fun x hx=>h x (List.mem_cons_of_mem _ hx))
  have he:=h e (List.mem_cons_self ..)
  simp only[List.flatten_cons,List.length_append,List.length_cons,ih,he,Nat.add_mul,Nat.one_mul];omega
section
variable {Γ:List (Nat×List AC)}{F:Nat->Prop}{w:World}{C:Ctx}{σ:St}
theorem Qh9{P:Program}{w:World}(t ty e T:TypeId)(i:TypeInfo)(ht:P.underlying t=some (.slice e))(hi:P.info? e=some i)(g n cap:Nat)(cur:Array Value)(hg:w.heap[g]?=some (.cells cur T (0,0)))
  (a:Addr) (m c:Nat) (news:List Value) (hl:news.length=m * i.size) (hnews:∀j u,news[j]?=some u->w.cell? (a.add j)=some u) (h1:∀u∈news,u.oneCell'=true) (hroom:n+m<=cap) (hfit:n * i.size+news.length<=cur.size):
  (Builtin.append_ #[t,t] ty #[.slice (some ⟨g,0,none⟩) n cap,.slice (some a) m c]).run P w=.ok (.slice (some ⟨g,0,none⟩) (n+m) cap) (w.setRow g (cur.toList.take (n * i.size)++news++cur.toList.drop (n * i.size+news.length)).toArray):=by
 have k1:=run_firstCells_some (P:=P) w i.size m a m c news hl hnews
 have k2:=run_storeCells_at P g (n * i.size) T news 0 cur w hg (by simpa using hfit) h1
 rw[Nat.add_zero]at k2
 simp[Builtin.append_,run_underlying ht,sizeOf,typeInfo,hi,Builtin.lenOf,hroom,k1,Addr.add_lit,k2]
theorem Qhe{s cap:Nat}{es:List (List AC)}(hl:∀x∈es,x.length=s)(hn:es.length<=cap):(vec s es cap).length=cap * s:=by
 rw[vec,List.length_append,Q42 hl,List.length_replicate,←Nat.add_mul];congr 1;omega
theorem vec_put{s cap:Nat}{es news:List (List AC)}{xs nv:List Value}(hel:∀x∈es,x.length=s)(hnc:es.length<=cap)(hxe:RV w C es.flatten (xs.take (es.length * s)))(hnr:RV w C news.flatten nv)(hnvl:nv.length=news.length * s)(o3:RV w C (vec s es cap) xs):
  RV w C (vec s (es++news) cap) (xs.take (es.length * s)++nv++xs.drop (es.length * s+nv.length)):=by
 have e1:((vec s es cap).drop (es.length * s+nv.length)).length=(cap - (es++news).length) * s:=by
  rw[List.length_drop,Qhe hel hnc,hnvl,←Nat.add_mul,List.length_append,Nat.sub_mul]
 have e2:vec s (es++news) cap=es.flatten++news.flatten++List.replicate ((cap - (es++news).length) * s) .any:=by rw[vec,List.flatten_append]
 rw[e2,←e1]
 exact (hxe.append hnr).append (o3.drop _).toAny
theorem Inv.appendOwn(hi:Inv Γ F w C σ){P:Program}{t ty e:TypeId}{tj:TI}(hsl:P.underlying t=some (.slice e))(hj:TIOk P e tj){c d:AC}{s cap0:Nat}{es news:List (List AC)}{σ1:St}(hb:BaseO σ c s es cap0 σ1)(hsrc:Src d s news)(hne:news≠[])
  (hs:tj.size=s) (hbytes:(es.length+news.length) * tj.bytes<=140737488355328) (h63:es.length+news.length<=140737488355328){v u:Value}(hv:R w C c v) (hu:R w C d u):
  ∃v' w' C' cap,(Builtin.append_ #[t,t] ty #[v,u]).run P w=.ok v' w'/\Goes F (fun _=>True) w C w' C'/\Inv Γ F w' C' (σ1.push (.cells (vec s (es++news) cap)))/\R w' C' (.arr (.l σ.n) s 0 (es++news).length cap) v'/\(es++news).length<=cap:=by
 obtain⟨i0,dd,z,g1,g2,g3,g4,g5,g6,g7,g8⟩:=hj.ex
 have hzl:z.cells.size=tj.size:=by have:=hj.len;rw[←g6]at this;simpa using this
 have hpos:=hj.pos
 obtain⟨hnl,b,capn,nv,rfl,hnvl,hnr,hheld,_⟩:=hsrc.held hu
 obtain⟨ad,rfl,hh2⟩:=hheld.resolve_left hne
 have hm0:0 < news.length:=List.length_pos_iff.2 hne
 have hnv1:∀x∈nv,x.oneCell'=true:=RV.one hnr
 have hnvl':nv.length=news.length * i0.size:=by rw[hnvl,g3,hs]
 have hone:=hj.one
 rw[←g6]at hone
 -- a new row
 have newrow:∀(σ1:St) (hi1:Inv Γ F w C σ1) (hn1:σ1.n=σ.n) (xs:List Value) (capk:Nat),RV w C es.flatten xs->(es++news).length<=capk->∀zc:Array Value,zc=Builtin.zeroCells z.cells (capk - (es++news).length)->
   ∃C',Goes F (fun _=>True) w C (w.drew.alloc (.cells (xs.toArray++nv.toArray++zc) e)) C'/\Inv Γ F (w.drew.alloc (.cells (xs.toArray++nv.toArray++zc) e)) C' (σ1.push (.cells (vec s (es++news) capk)))/\
    R (w.drew.alloc (.cells (xs.toArray++nv.toArray++zc) e)) C' (.arr (.l σ.n) s 0 (es++news).length capk) (.slice (some ⟨w.heap.size,0,none⟩) (es++news).length capk):=by
  intro σ1 hi1 hn1 xs capk hxr hck zc hzc
  obtain⟨he0,hid⟩:=hi1.drew
  have hz1:∀x∈zc.toList,x.oneCell'=true:=by rw[hzc];exact Qak hone (by rw[hzl];exact hpos) _
  have hzn:zc.toList.length=(capk - (es++news).length) * s:=by rw[Array.length_toList,hzc,size_zeroCells,hzl,hs]
  have hr:RV w.drew C (vec s (es++news) capk) (xs++nv++zc.toList):=by
   rw[vec,List.flatten_append,←hzn]
   exact ((hxr.append hnr).ext he0).append (RV.anys _ hz1)
  obtain⟨C',he,hno,hnp,hin,hok,hblk⟩:=hid.newObj hr e
  have heq:(xs++nv++zc.toList).toArray=xs.toArray++nv.toArray++zc:=by apply Array.ext';simp
  rw[heq]at he hin
  refine⟨C',⟨(Stp.drew F w).trans (Stp.alloc (w:=w.drew) hi.base _ _),he0.trans he,by rw[hno];exact Nat.le_refl _,hnp⟩,hin,⟨by rw[←hn1];exact hok,?_,hck⟩⟩
  rw[←hn1,hblk,Nat.zero_mul];rfl
 cases hb with
 |nil=>
  simp only[R]at hv
  obtain⟨rfl,_⟩:=hv
  have hr:=run_append_nil (P:=P) w t ty e i0 z hsl g1 g5 ad news.length capn nv hnvl' hh2 hm0 (by simp at h63;omega) (by rw[g4];simp at hbytes;omega)
  have hge:=grownCap_ge w news.length 0 e
  obtain⟨C',k1,k2,k3⟩:=newrow σ hi rfl [] (grownCap w news.length 0 e) (by simp[RV]) (by simpa using hge) _ rfl
  refine⟨_,_,C',_,hr,?_,?_,?_,by simpa using hge⟩
  ·simpa using k1
  ·simpa using k2
  ·simpa using k3
 |own _ _ _ i h hel hnc=>
  simp only[R,Nat.zero_mul]at hv
  obtain⟨hok,rfl,_⟩:=hv
  obtain⟨xs,T,o1,o2,o3,o4⟩:=(hi.obj i _ h).2
  have hkill:=hi.kill h
  have hxl:=RV.length o3
  have hfl:=Q42 hel
  have hle:es.length * s<=xs.length:=by rw[hxl,vec,List.length_append,hfl];omega
  have hxe:RV w C es.flatten (xs.take (es.length * s)):=by
   have:=o3.take (es.length * s)
   rwa [vec,List.take_append_of_le_length (by omega),List.take_of_length_le (by omega)]at this
  have hall:∀x∈es++news,x.length=s:=fun x hx=>(List.mem_append.1 hx).elim (hel x) (hnl x)
  by_cases hroom:es.length+news.length<=cap0
  ·have hxs:xs.length=cap0 * s:=by rw[hxl,Qhe hel hnc]
   have hfit:es.length * i0.size+nv.length<=xs.toArray.size:=by
    rw[g3,hs,hnvl,←Nat.add_mul]
    simp only[List.size_toArray,hxs]
    exact Nat.mul_le_mul_right _ hroom
   have hr:=Qh9 (P:=P) (w:=w) t ty e T i0 hsl g1 (C.blk i) es.length cap0 xs.toArray o1 ad news.length capn nv hnvl' hh2 hnv1 hroom hfit
   rw[g3,hs]at hr hfit
   simp only[List.toList_toArray]at hr
   have hrv:=vec_put hel hnc hxe hnr hnvl o3
   have hgh:=Q4c w (C.blk i) xs.toArray (xs.take (es.length * s)++nv++xs.drop (es.length * s+nv.length)).toArray T o1
   have hne2:∀j p g,(σ.set i .dead).get j=some p->p.block C j=some g->g≠C.blk i:=fun j p g hp hbk e=>by
    by_cases e':i=j
    ·subst e';rw[St.get_set_same]at hp;cases hp;simp[AObj.block]at hbk
    ·rw[St.get_set_ne σ e']at hp
     exact e' (hi.inj i j _ p g h hp (by rw[e];rfl) hbk)
   have he:Ext w C (w.setRow (C.blk i) (xs.take (es.length * s)++nv++xs.drop (es.length * s+nv.length)).toArray) (C.more (C.blk i) none) :=
    ⟨fun a ha => World.cell?_of_block (setRow_other w _ _ _ fun e' => o4 a e' ha), fun a ha => ha, fun j _ ho => Ctx.more_old C _ _ ho⟩
   have hsz:(w.setRow (C.blk i) (xs.take (es.length * s)++nv++xs.drop (es.length * s+nv.length)).toArray).heap.size=w.heap.size:=by simp
   have hnw:=Ctx.more_new C (C.blk i) none (n:=(σ.set i .dead).n) (by rw[←hkill.next])
   have hadd:Inv Γ F (w.setRow (C.blk i) (xs.take (es.length * s)++nv++xs.drop (es.length * s+nv.length)).toArray) (C.more (C.blk i) none) ((σ.set i .dead).push (.cells (vec s (es++news) cap0))):=by
    refine hkill.addObj (o:=.cells (vec s (es++news) cap0)) (d:=.l (σ.set i .dead).n) (St.get_push _ _) he ?_ ?_ ?_ ?_ ?_ hnw.1 ?_ ?_
    ·show C.nl+1=(σ.set i .dead).n+1
     rw[hkill.next]
    ·intro k hk;rw[hsz];exact hi.base k hk
    ·intro a ha;rw[hsz];exact hi.prot a ha
    ·intro j p hp g x hbk hx
     rw[setRow_other w _ g _ (hne2 j p g hp hbk)];exact hx
    ·exact fun _ _ _ _ _ _ ha=>ha
    ·exact⟨_,T,by rw[hnw.2.1];exact hgh,by rw[hnw.2.1];exact o2,hrv.ext he,fun a ha hp=>o4 a (by rw[ha,hnw.2.1]) hp⟩
    ·intro j p g hp hbk hb2
     simp only[AObj.block,Option.some.injEq]at hb2
     exact hne2 j p g hp hbk (by rw[←hb2,hnw.2.1])
   have hgo:Goes F (fun _=>True) w C (w.setRow (C.blk i) (xs.take (es.length * s)++nv++xs.drop (es.length * s+nv.length)).toArray) (C.more (C.blk i) none):=by
    refine⟨⟨rfl,rfl,rfl,Nat.le_of_eq hsz.symm,fun k hk=>setRow_other w _ k _ (by rintro rfl;exact o2 hk),fun a _=>?_⟩,he,Nat.le_refl _,fun a ha=>.inl ha⟩
    by_cases e':a.block=C.blk i
    ·simp only[World.frozen?,e',hgh,o1]
    ·exact World.frozen?_of_block (setRow_other w _ a.block _ e')
   have hn2:(σ.set i .dead).n=σ.n:=St.n_set ..
   rw[hn2]at hnw
   refine⟨_,_,C.more (C.blk i) none,cap0,hr,hgo,hadd,?_,by rw[List.length_append];exact hroom⟩
   simp only[R]
   exact⟨hnw.1,by rw[hnw.2.1,Nat.zero_mul,List.length_append],by rw[List.length_append];exact hroom⟩
  ·clear hkill
   have hkill:=hi.kill h
   have hheld2:Held w (xs.take (es.length * s)) ⟨C.blk i,0,none⟩:=fun j v hj=>by
    have h2:j < es.length * s:=by have:=(List.getElem?_eq_some_iff.1 hj).1;simp at this;omega
    rw[List.getElem?_take_of_lt h2]at hj
    rw[Addr.add_none rfl,cell_of_row _ _ _ _ _ _ o1]
    simpa using hj
   have hr:=run_append_grow (P:=P) w t ty e i0 z hsl g1 g5 ⟨C.blk i,0,none⟩ es.length cap0 (xs.take (es.length * s)) (by simp[g3,hs];omega) hheld2 ad news.length capn nv hnvl' hh2 (by omega) (by omega) (growslice_fits (by omega) (by rw[g4];exact hbytes))
   have hge:=grownCap_ge w (es.length+news.length) cap0 e
   obtain⟨C',k1,k2,k3⟩:=newrow _ hkill (St.n_set ..) (xs.take (es.length * s)) (grownCap w (es.length+news.length) cap0 e) hxe (by simpa using hge) _ rfl
   refine⟨_,_,C',_,?_,k1,k2,k3,by simpa using hge⟩
   simpa using hr
end
theorem AOps.appOwn{E:Env}{ops:Array Oper}{rest:List Oper}{K:Cont}{o:Oper}{fr:Fr}{σ σ1:St}{dd:Nat}{t:TypeId}{ti tj:TI}{x y:Operand}{c d:AC}{s cap0:Nat}{es news:List (List AC)}(hT:TabOk E.P E.T)(hgd:o.guard=none)(hdst:o.dst=some dd)(hdd:Nat.ble (dd+1) E.N=true)
  (ho:o.op=.call { callee:=.builtin .append,args:=#[x,y],argTypes:=#[t,t] }) (ht:Tab.get t E.T=some ti) (hk:Nat.beq ti.kind 2=true) (hj:Tab.get ti.elem E.T=some tj) (hx:aEval E.Γ fr x=some (.one c)) (hy:aEval E.Γ fr y=some (.one d)) (hb:BaseO σ c s es cap0 σ1) (hsrc:Src d s news) (hne:news≠[])
  (hs:Nat.beq tj.size s=true) (hbytes:(es.length+news.length) * tj.bytes<=140737488355328) (h63:es.length+news.length<=140737488355328)
  (h:∀cap,(es++news).length<=cap->AOps E ops rest K ((dd,.one (.arr (.l σ.n) s 0 (es++news).length cap))::fr) (σ1.push (.cells (vec s (es++news) cap)))):AOps E ops (o::rest) K fr σ:=by
 intro F w0 C0 w C tmps hg hi hf
 refine wpList_plain hgd fun N' hN=>?_
 have h1:=Q01 (a:=⟨tmps,E.ds⟩) hi hf hx
 have h2:=Q01 (a:=⟨tmps,E.ds⟩) hi hf hy
 simp only[RF]at h1 h2
 obtain⟨v',w',C',cap,hrun,hgo,hi',hr,hle⟩:=hi.appendOwn (ty:=o.type) ((hT t ti ht).slice (Nat.eq_of_beq_eq_true hk)) (hT _ _ hj) hb hsrc hne (Nat.eq_of_beq_eq_true hs) hbytes h63 h1 h2
 have hex:(execOp (Act.eval ⟨tmps,E.ds⟩) o).run E.P w=.ok (.value v') w':=by
  unfold execOp
  simp only[ho,resolve,invoke,builtin,Sem.run_bind,Sem.run_pure,Result.andThen_ok,List.map_toArray,List.map_cons,List.map_nil,hrun]
 unfold Oper.wp
 rw[hex,Oper.upon_value]
 refine hN _ _ ?_
 rw[Q37,hdst]
 exact h cap hle F w0 C0 w' C' _ (hg.trans hgo.toO) hi' (Q2j (dst:=some dd) (hf.ext hgo.chg) hdd hr)
end Go.Abs
namespace Go.Abs
open Go.MapKept
section
variable {E:Env}{o:Oper}{fr:Fr}{σ:St}
theorem AStep.lookupZ{t kt et:TypeId}{d:TypeDesc}{x i:Operand}{m:Id}{ck:Nat}{es:List (Nat×Value×FV)}{u zv:Value}{z v:FV}{cm:Bool}(ho:o.op=.lookup t x i cm)(hm:E.P.underlying t=some (.map kt et))(hd:E.P.underlying kt=some d)
  (hx:aEval E.Γ fr x=some (.one (.mp m))) (hg:σ.get m=some (.map ck es)) (hu:aEval E.Γ fr i=some (.one (.lit u))) (hku:IsKey d u) (hks:Qg4 d es) (hzv:(E.P.info? et).map (·.zero)=some (some zv)) (hz:∀w C,RF w C z zv) (hv:(match mFind u es with|some v=>v|none=>z)=v):
  AStep E o fr σ (if cm=true then .tup [v,.one (.lit (.bool (mFind u es).isSome))]else v) σ:=by
 refine AStep.quiet fun F w C tmps hi hf=>?_
 have h1:=Q01 (a:=⟨tmps,E.ds⟩) hi hf hx
 have h2:=Q01 (a:=⟨tmps,E.ds⟩) hi hf hu
 simp only[RF,R]at h1 h2
 obtain⟨hok,ents,he,_,hrm⟩:=hi.obj m _ hg
 have hzr:(zeroValue et).run E.P w=.ok zv w:=Qd4 hzv
 have hzf:RF w C z zv:=hz w C
 rcases Q6q hku 0 hrm hks with ⟨a1,a2,a3⟩|⟨j,e,v0,a1,a2,a3,a4,a5,a6⟩
 ·rw[a1]at hv ⊢
  simp only at hv
  subst hv
  cases cm with
  |true=>
   refine⟨.tuple #[zv,.bool false],?_,[zv,.bool false],rfl,zv,[.bool false],rfl,hzf,.bool false,[],rfl,⟨rfl,rfl⟩,rfl⟩
   unfold execOp
   simp only[ho]
   simp[Instr.lookup,run_underlying hm,h1.2,h2.1,MapKept.run_getObj_map he,run_checkKey hd hku,run_findKey hd a2,hzr,Result.andThen]
  |false=>
   refine⟨zv,?_,hzf⟩
   unfold execOp
   simp only[ho]
   simp[Instr.lookup,run_underlying hm,h1.2,h2.1,MapKept.run_getObj_map he,run_checkKey hd hku,run_findKey hd a2,hzr,Result.andThen]
 ·rw[a2]at hv ⊢
  simp only at hv
  subst hv
  cases cm with
  |true=>
   refine⟨.tuple #[e.val,.bool true],?_,[e.val,.bool true],rfl,e.val,[.bool true],rfl,a3,.bool true,[],rfl,⟨rfl,rfl⟩,rfl⟩
   unfold execOp
   simp only[ho]
   simp[Instr.lookup,run_underlying hm,h1.2,h2.1,MapKept.run_getObj_map he,run_checkKey hd hku,run_findKey hd a5,Result.andThen]
  |false=>
   refine⟨e.val,?_,a3⟩
   unfold execOp
   simp only[ho]
   simp[Instr.lookup,run_underlying hm,h1.2,h2.1,MapKept.run_getObj_map he,run_checkKey hd hku,run_findKey hd a5,Result.andThen]
theorem AStep.buildU{t:TypeId}(ho:o.op=.build t #[])(hu:E.P.underlying t=some (.struct #[]))(hz:(E.P.info? t).map (·.zero)=some (some (.agg #[]))):AStep E o fr σ (.agg []) σ:=by
 refine AStep.quiet fun F w C tmps hi hf=>⟨.agg #[],?_,[],rfl,rfl⟩
 unfold execOp
 simp only[ho]
 simp[Instr.build,Qd4 hz,run_underlying hu]
 rfl
theorem AStep.allocU{t:TypeId}(ho:o.op=.alloc t)(hz:(E.P.info? t).map (·.zero)=some (some (.agg #[]))):AStep E o fr σ (.one (.ptr (.l σ.n) 0)) (σ.push (.cells [])):=by
 intro F w C tmps hi hf next Q hk
 obtain⟨C',he,hno,hnp,hin,hok,hblk⟩:=hi.newObj (cs:=[]) (xs:=[]) (by simp[RV]) t
 have hrun:(execOp (Act.eval ⟨tmps,E.ds⟩) o).run E.P w=.ok (.value (.pointer (some ⟨w.heap.size,0,none⟩))) (w.alloc (.cells #[] t)):=by
  unfold execOp
  simp only[ho]
  simp[Instr.alloc,Qd4 hz,newVar,newRow,Value.cells]
 unfold Oper.wp
 rw[hrun,Oper.upon_value]
 exact hk _ _ C' ⟨Stp.alloc hi.base _ _,he,Nat.le_of_eq hno.symm,hnp⟩ hin (by simp only[RF,R];exact⟨hok,by rw[hblk]⟩)
theorem AStep.storeU{t:TypeId}{x y:Operand}{j:Id}(ho:o.op=.store t x y)(hz:(E.P.info? t).map (·.size)=some 0)(hx:aEval E.Γ fr x=some (.one (.ptr j 0)))(hy:aEval E.Γ fr y=some (.agg []))(hg:σ.get j=some (.cells [])):AStep E o fr σ .bot σ:=by
 intro F w C tmps hi hf next Q hk
 have h1:=Q01 (a:=⟨tmps,E.ds⟩) hi hf hx
 have h2:=Q01 (a:=⟨tmps,E.ds⟩) hi hf hy
 simp only[RF,R,RV]at h1 h2
 obtain⟨xs,h2,rfl⟩:=h2
 have hrun:(execOp (Act.eval ⟨tmps,E.ds⟩) o).run E.P w=.ok .skip w:=by
  unfold execOp
  simp only[ho,h1.2,h2]
  cases hi:E.P.info? t with
  |none=>rw[hi]at hz;cases hz
  |some i=>
   rw[hi]at hz
   simp only[Option.map_some,Option.some.injEq]at hz
   simp[Instr.storeAt,Instr.sureAddr,storeVar,sizeOf,typeInfo,hi,hz,Value.cells,storeCells]
 unfold Oper.wp
 rw[hrun,Oper.upon_skip]
 exact hk undef _ C (Goes.refl _ _ _ _) hi (by simp[RF])
theorem AStep.eqBool{t yt:TypeId}{x y:Operand}{a b:Bool}(ht:E.P.underlying t=some .bool)(ho:o.op=.binOp .eql t x y yt)(hx:aEval E.Γ fr x=some (.one (.lit (.bool a))))(hy:aEval E.Γ fr y=some (.one (.lit (.bool b)))):AStep E o fr σ (.one (.lit (.bool (a==b)))) σ:=by
 refine AStep.quiet fun F w C tmps hi hf=>⟨.bool (a==b),?_,rfl,rfl⟩
 have h1:=Q01 (a:=⟨tmps,E.ds⟩) hi hf hx
 have h2:=Q01 (a:=⟨tmps,E.ds⟩) hi hf hy
 simp only[RF,R]at h1 h2
 unfold execOp
 simp only[ho,h1.1,h2.1,eqGuard_at_bool,Sem.run_bind,Sem.run_pure,Result.andThen_ok]
 simp[binOp,run_equal_bool _ _ _ _ ht]
theorem AStep.neBool{t yt:TypeId}{x y:Operand}{a b:Bool}(ht:E.P.underlying t=some .bool)(ho:o.op=.binOp .neq t x y yt)(hx:aEval E.Γ fr x=some (.one (.lit (.bool a))))(hy:aEval E.Γ fr y=some (.one (.lit (.bool b)))):AStep E o fr σ (.one (.lit (.bool (!(a==b))))) σ:=by
 refine AStep.quiet fun F w C tmps hi hf=>⟨.bool (!(a==b)),?_,rfl,rfl⟩
 have h1:=Q01 (a:=⟨tmps,E.ds⟩) hi hf hx
 have h2:=Q01 (a:=⟨tmps,E.ds⟩) hi hf hy
 simp only[RF,R]at h1 h2
 unfold execOp
 simp only[ho,h1.1,h2.1,eqGuard_at_bool,Sem.run_bind,Sem.run_pure,Result.andThen_ok]
 simp[binOp,run_equal_bool _ _ _ _ ht]
theorem AStep.min2{t ty:TypeId}{x y:Operand}{k:IntKind}{a b:Int}{tys:Array TypeId}(ho:o.op=.call { callee:=.builtin .min,args:=#[x,y],argTypes:=tys })(hx:aEval E.Γ fr x=some (.one (.lit (.int k a))))(hy:aEval E.Γ fr y=some (.one (.lit (.int k b)))):
  AStep E o fr σ (.one (.lit (.int k (if b < a then b else a)))) σ:=by
 refine AStep.quiet fun F w C tmps hi hf=>⟨.int k (if b < a then b else a),?_,rfl,rfl⟩
 have h1:=Q01 (a:=⟨tmps,E.ds⟩) hi hf hx
 have h2:=Q01 (a:=⟨tmps,E.ds⟩) hi hf hy
 simp only[RF,R]at h1 h2
 unfold execOp
 simp[ho,h1.1,h2.1,resolve,invoke,builtin,Builtin.min_,Builtin.min2]
end
theorem ACode.condS{E:Env}{x y:Code}{K:Cont}{fr:Fr}{σ:St}{d:Nat}{b:Bool}(hb:Fr.get d fr=some (.one (.lit (.bool b))))(ht:b=true->ACode E x K ((d,.one (.lit (.bool true)))::fr) σ)(hf:b=false->ACode E y K ((d,.one (.lit (.bool false)))::fr) σ):ACode E (.cond (.tmp d) x y) K fr σ:=by
 refine ACode.cond (c:=.tmp d) (b:=b) hb (fun h=>?_) (fun h=>?_)
 ·subst h
  intro F w0 C0 w C tmps hg hi hfr
  exact ht rfl F w0 C0 w C tmps hg hi (hfr.refine hb (fun _ h=>h))
 ·subst h
  intro F w0 C0 w C tmps hg hi hfr
  exact hf rfl F w0 C0 w C tmps hg hi (hfr.refine hb (fun _ h=>h))
theorem AStep.loadBox{E:Env}{o:Oper}{fr:Fr}{σ:St}{t:TypeId}{ti:TI}{x:Operand}{cs:List AC}{c:AC}(hT:TabOk E.P E.T)(ho:o.op=.load t x)(ht:Tab.get t E.T=some ti)(ha:ti.agg=false)(hs:Nat.beq ti.size 1=true)(hx:aEval E.Γ fr x=some (.one (.box cs)))
  (hc:cs[0]?=some c):AStep E o fr σ (.one c) σ:=by
 refine AStep.ofOp hT ?_
 have hs':ti.size=1:=Nat.eq_of_beq_eq_true hs
 obtain⟨d,ds,rfl⟩:∃d ds,cs=d::ds:=by cases cs with|nil=>simp at hc|cons d ds=>exact⟨d,ds,rfl⟩
 simp only[List.getElem?_cons_zero,Option.some.injEq]at hc
 subst hc
 simp only[ho,aOp,ht,ha,hs',hx,aLoad,Q13,List.length_cons,List.take_succ_cons,List.take_zero,mkFV]
 rfl
theorem AOps.nilTest{E:Env}{ops:Array Oper}{rest:List Oper}{K:Cont}{o:Oper}{fr:Fr}{σ:St}{dd:Nat}{t e yt:TypeId}{x y:Operand}{s:Nat}{es:List (List AC)}(hgd:o.guard=none)(hdst:o.dst=some dd)(hdd:Nat.ble (dd+1) E.N=true)(ho:o.op=.binOp .eql t x y yt)
  (ht:E.P.underlying t=some (.slice e)) (hx:aEval E.Γ fr x=some (.one (.sl s es))) (hy:aEval E.Γ fr y=some (.one (.lit (.slice none 0 0)))) (h:∀b,(b=true->es=[])->AOps E ops rest K ((dd,.one (.lit (.bool b)))::fr) σ):AOps E ops (o::rest) K fr σ:=by
 intro F w0 C0 w C tmps hg hi hf
 refine wpList_plain hgd fun N' hN=>?_
 have h1:=Q01 (a:=⟨tmps,E.ds⟩) hi hf hx
 have h2:=Q01 (a:=⟨tmps,E.ds⟩) hi hf hy
 simp only[RF,R]at h1 h2
 obtain⟨a,cap,hv,hc,hor⟩:=h1
 have hex:(execOp (Act.eval ⟨tmps,E.ds⟩) o).run E.P w=.ok (.value (.bool a.isNone)) w:=by
  unfold execOp
  simp only[ho,hv,h2.1,eqGuard_at_slice,Sem.run_bind,Sem.run_pure,Result.andThen_ok]
  simp[binOp,run_equal_slice_nil _ _ _ _ _ _ ht]
 unfold Oper.wp
 rw[hex,Oper.upon_value]
 refine hN _ _ ?_
 rw[Q37,hdst]
 refine h a.isNone (fun hb=>?_) F w0 C0 w C _ hg hi (Q2j (dst:=some dd) hf hdd (by simp only[RF,R];exact⟨trivial,rfl⟩))
 rcases hor with rfl|⟨ad,rfl,_⟩
 ·rfl
 ·cases hb
end Go.Abs
namespace Go.Abs
def Q0m (l:List Oper)(vals:Nat->Option FV)(o:Oper):Fr:=
 o.after.toList.filterMap fun e=>bif Region.binds .any e then (match (l[e.on]?).bind (·.dst),vals e.on with|some d,some v=>some (d,v)|_,_=>none)else none
def Q0e (vals:Nat->Option FV):Nat->List Oper->Fr
 |k,o::os=>match o.dst,vals k with
  |some d,some v=>(d,v)::Q0e vals (k+1) os
  |_,_=>Q0e vals (k+1) os
 |_,[]=>[]
def updV (vals:Nat->Option FV)(i:Nat)(v:FV):Nat->Option FV:=fun j=>if i=j then some v else vals j
theorem Q3z{vals:Nat->Option FV}:∀{os:List Oper}{k d:Nat}{v:FV},(d,v)∈Q0e vals k os->∃(i:Nat)(o:Oper),os[i]?=some o/\o.dst=some d/\vals (k+i)=some v
 |[],k,d,v,h=>by simp[Q0e]at h
 |o::os,k,d,v,h=>by
  simp only[Q0e]at h
  have rec':(d,v)∈Q0e vals (k+1) os->∃(i:Nat) (o':Oper),(o::os)[i]?=some o'/\o'.dst=some d/\vals (k+i)=some v:=fun h=>by
   obtain⟨i,o',h1,h2,h3⟩:=Q3z h
   exact⟨i+1,o',by simpa using h1,h2,by rw[show k+(i+1)=k+1+i by omega];exact h3⟩
  split at h
  ·rename_i d' w hd hw
   rcases List.mem_cons.1 h with h|h
   ·cases h;exact⟨0,o,rfl,hd,hw⟩
   ·exact rec' h
  ·exact rec' h
section
variable {E:Env}{l:List Oper}{frb:Fr}{n:Nat}{K:Cont}{J:Array Bool->St->(Nat->Option FV)->Prop}
structure MidJ (E:Env)(l:List Oper)(n:Nat)(frb:Fr)(J:Array Bool->St->(Nat->Option FV)->Prop)(F:Nat->Prop)(w0:World)(C0:Ctx)(listed:Array Bool)(a:Act)(w:World):Prop where
 defers:a.defers=E.ds
 ex:∃C σ vals,J listed σ vals/\Goes F isO w0 C0 w C/\Inv E.Γ F w C σ/\FrOk w C E.N frb a.tmps/\
  ∀(i:Nat) (o:Oper) (d:Nat) (v:FV),i < n->l[i]?=some o->o.dst=some d->vals i=some v->∃u,a.tmps[d]?=some u/\RF w C v u
theorem Ql8(hB:drawB l n=true)(hfb:(dsts (l.take n)).all (fun d=>(Fr.get d frb).isNone)=true)
  (hstep : ∀ (listed : Array Bool) (σ : St) (vals : Nat -> Option FV) (i : Nat) (o : Oper), i < n -> l[i]? = some o -> listed.getD i false = false -> listed.size = l.length -> (∀ e ∈ o.after.toList, Region.binds .any e = true -> listed.getD e.on false = true) -> J listed σ vals ->
   o.dst.isSome=true/\dstOk E.N o.dst=true/\∃σ' v,HStep E l.toArray o (Q0m l vals o++frb) σ σ' v/\J (listed.setIfInBounds i true) σ' (updV vals i v))
  (htail : ∀ σ vals, J (Q07 l.length n) σ vals -> AOps E l.toArray (l.drop n) K (Q0e vals 0 (l.take n) ++ frb) σ) {F : Nat -> Prop} {w0 : World} {C0 : Ctx} :
  ∀(c:Nat) (listed:Array Bool) (a:Act) (w:World),((List.range n).filter fun j=>!listed.getD j false).length=c->HeadInv .any l.toArray n listed->MidJ E l n frb J F w0 C0 listed a w->
   wpAny E.P .any l.toArray (Post E F w0 C0 K) (c+(l.length - n)) listed a w:=by
 simp only[drawB,Bool.and_eq_true,decide_eq_true_eq]at hB
 obtain⟨⟨⟨⟨⟨hn,hs⟩,hc⟩,hsq⟩,hdi⟩,haf⟩:=hB
 have hsz:l.toArray.size=l.length:=by simp
 intro c
 induction c with
 |zero=>
  intro listed a w hcnt hinv hmid
  have hall:∀j,j < n->listed.getD j false=true:=by
   intro j hj
   have:(List.range n).filter (fun j=>!listed.getD j false)=[]:=List.eq_nil_of_length_eq_zero hcnt
   have h2:=List.filter_eq_nil_iff.1 this j (List.mem_range.2 hj)
   simpa using h2
  have hl:listed=Q07 l.length n:=by
   apply Array.ext
   ·simp[Q07,hinv.size]
   ·intro j h1 h2
    have hj:j < l.length:=by simpa[Q07]using h2
    have h3:listed.getD j false=listed[j]:=by simp[h1]
    simp only[Q07,Array.getElem_map,Array.getElem_range]
    by_cases hjn:j < n
    ·rw[←h3,hall j hjn];simp[hjn]
    ·have:=hinv.tail j (by omega) (by rw[hsz];exact hj)
     rw[Q40 h1]at this
     rw[←h3,this];simp[hjn]
  have hdl:(l.drop n).length=l.length - n:=by simp
  rw[Nat.zero_add,←hdl]
  refine wpAny_of_seq (md:=.any) (l.drop n) n listed a w (fun j=>by simp[List.getElem?_drop]) (by rw[hl,hdl];exact hsq) ?_
  obtain⟨hd,C,σ,vals,hJ,hg,hi,hf,hv⟩:=hmid
  have ha:a=⟨a.tmps,E.ds⟩:=by cases a;simp_all
  rw[ha]
  rw[hl]at hJ
  refine htail σ vals hJ F w0 C0 w C a.tmps hg hi ⟨hf.1,fun k x hk=>?_⟩
  rcases Fr.get_append hk with hk|⟨_,hk⟩
  ·obtain⟨i,o,h1,h2,h3⟩:=Q3z (Fr.get_mem hk)
   rw[Nat.zero_add]at h3
   have hin:i < n:=by
    have:=(List.getElem?_eq_some_iff.1 h1).1
    simp at this;omega
   rw[List.getElem?_take_of_lt hin]at h1
   exact hv i o k x hin h1 h2 h3
  ·exact hf.2 k x hk
 |succ c ih=>
  intro listed a w hcnt hinv hmid
  -- some head is not listed
  have hex:∃i,i < n/\listed.getD i false=false/\∀j,j < i->listed.getD j false=true:=by
   have hne:∃i,i < n/\listed.getD i false=false:=by
    cases hL:(List.range n).filter (fun j=>!listed.getD j false) with
    |nil=>rw[hL]at hcnt;simp at hcnt
    |cons i L=>
     have:i∈(List.range n).filter (fun j=>!listed.getD j false):=by rw[hL];simp
     obtain⟨h1,h2⟩:=List.mem_filter.1 this
     exact⟨i,List.mem_range.1 h1,by simpa using h2⟩
   obtain⟨i,hi⟩:=hne
   induction i using Nat.strongRecOn with
   |_ i ih2=>
    by_cases h:∃j,j < i/\listed.getD j false=false
    ·obtain⟨j,hj,hj2⟩:=h
     exact ih2 j hj ⟨by omega,hj2⟩
    ·exact⟨i,hi.1,hi.2,fun j hj=>(Bool.not_eq_false _).mp (fun hb=>h ⟨j,hj,hb⟩)⟩
  obtain⟨i0,hi0n,hi0u,hi0m⟩:=hex
  have hready:i0∈Region.ready .any l.toArray listed:=by
   rw[mem_ready]
   have hlt:i0 < l.length:=by omega
   refine⟨by rw[Q40 (by rw[hinv.size,hsz];exact hlt)];exact hi0u,l[i0],by simp[hlt],fun e he hb=>?_⟩
   have h1:=List.all_eq_true.1 haf (l[i0],i0) (by
    rw[List.mem_zipIdx_iff_getElem?]
    rw[List.getElem?_take_of_lt hi0n]
    simp[hlt])
   have h2:=Array.all_eq_true_iff_forall_mem.1 h1 e he
   simp only[hb,Bool.not_true,Bool.false_or,decide_eq_true_eq]at h2
   exact hi0m _ h2
  rw[show c+1+(l.length - n)=(c+(l.length - n))+1 by omega]
  refine⟨fun h=>absurd hready (by rw[h];simp),fun i hi=>?_⟩
  have hi0t:listed.getD i0 true=false:=(mem_ready.1 hready).1
  have hin:i < n:=by
   rcases Nat.lt_or_ge i n with h|h
   ·exact h
   ·exact absurd hi (tail_waits hs hc (by rw[hsz];exact hn) hinv _ i0 rfl hi0n hi0t i h)
  obtain⟨hun,o,ho,hall⟩:=mem_ready.1 hi
  have hlo:l[i]?=some o:=by simpa using ho
  obtain⟨hd,C,σ,vals,hJ,hg,hinvw,hf,hvals⟩:=hmid
  have ha:a=⟨a.tmps,E.ds⟩:=by cases a;simp_all
  rw[ha]
  have huni:listed.getD i false=false:=getD_both hun
  have hil:i < listed.size:=by rw[hinv.size,hsz];omega
  have hlast:∀e∈o.after.toList,Region.binds .any e=true->e.on < n:=fun e he hb=>by
   have h1:=List.all_eq_true.1 haf (o,i) (by
    rw[List.mem_zipIdx_iff_getElem?]
    rw[List.getElem?_take_of_lt hin]
    simpa using hlo)
   have h2:=Array.all_eq_true_iff_forall_mem.1 h1 e (by simpa using he)
   simp only[hb,Bool.not_true,Bool.false_or,decide_eq_true_eq]at h2
   omega
  obtain⟨hds,hdo,σ',v,hst,hJ'⟩:=hstep listed σ vals i o hin hlo huni (by rw[hinv.size,hsz]) (fun e he hb=>hall e (by simpa using he) hb) hJ
  have hfr:FrOk w C E.N (Q0m l vals o++frb) a.tmps:=by
   refine⟨hf.1,fun k x hk=>?_⟩
   rcases Fr.get_append hk with hk|⟨_,hk⟩
   ·have hm:=Fr.get_mem hk
    obtain⟨e,he,he2⟩:=List.mem_filterMap.1 hm
    cases hb:Region.binds .any e with
    |false=>rw[hb]at he2;cases he2
    |true=>
     rw[hb]at he2;simp only[cond_true]at he2
     cases h1:(l[e.on]?).bind (·.dst) with
     |none=>rw[h1]at he2;cases he2
     |some d=>
      cases h2:vals e.on with
      |none=>rw[h1,h2]at he2;cases he2
      |some v'=>
       rw[h1,h2]at he2;cases he2
       cases h3:l[e.on]? with
       |none=>rw[h3]at h1;cases h1
       |some oe=>
        rw[h3]at h1
        exact hvals e.on oe k x (hlast e he hb) h3 h1 h2
   ·exact hf.2 k x hk
  obtain⟨d,hdd⟩:=Option.isSome_iff_exists.1 hds
  refine Q8g hst hinvw hfr ho fun u w' C' hgo hi' hr=>?_
  refine ih _ _ _ ?_ (hinv.set hi hin) ⟨put_defers ..,C',σ',_,hJ',hg.trans hgo.toO,hi',?_,fun j oj dj vj hj hoj hdj hvj=>?_⟩
  ·have h2:((List.range n).filter fun j=>!(listed.setIfInBounds i true).getD j false).length+1=((List.range n).filter fun j=>!listed.getD j false).length:=Q7g hin huni hil
   omega
  ·refine⟨by rw[hdd];simp[Act.put,hf.1],fun k x hk=>?_⟩
   obtain⟨u',hu',hr'⟩:=hf.2 k x hk
   have hne:d≠k:=by
    rintro rfl
    have h1:=List.all_eq_true.1 hfb d (List.mem_filterMap.2 ⟨o,List.mem_of_getElem? (i:=i) (by rw[List.getElem?_take_of_lt hin];exact hlo),hdd⟩)
    rw[hk]at h1;cases h1
   refine⟨u',?_,hr'.ext hgo.chg⟩
   rw[hdd]
   simp only[Act.put]
   rw[Array.getElem?_setIfInBounds_ne hne];exact hu'
  ·by_cases e:i=j
   ·subst e
    rw[hlo]at hoj;cases hoj
    rw[hdd]at hdj;cases hdj
    rw[updV,if_pos rfl]at hvj
    cases hvj
    have hdN:d < a.tmps.size:=by
     rw[hf.1]
     rw[hdd]at hdo
     exact Nat.le_of_ble_eq_true (show Nat.ble (d+1) E.N=true from hdo)
    exact⟨u,by rw[hdd];simp[Act.put,hdN],hr⟩
   ·simp only[updV,if_neg e]at hvj
    obtain⟨u',hu',hr'⟩:=hvals j oj dj vj hj hoj hdj hvj
    have hne:d≠dj:=by
     rintro rfl
     exact e (Q1y hdi (by rw[List.getElem?_take_of_lt hin];exact hlo) (by rw[List.getElem?_take_of_lt hj];exact hoj) hdd hdj)
    refine⟨u',?_,hr'.ext hgo.chg⟩
    rw[hdd]
    simp only[Act.put]
    rw[Array.getElem?_setIfInBounds_ne hne];exact hu'
theorem ACode.drawJ{id:Nat}{fr:Fr}{σ0:St}(n:Nat)(J:Array Bool->St->(Nat->Option FV)->Prop)(hm:E.P.follows .mixedOrders=true)(hB:drawB l n=true)(hfb:Fr.woO (dsts (l.take n)) fr=some frb)(h0:J (Array.replicate l.length false) σ0 (fun _=>none))
  (hstep : ∀ (listed : Array Bool) (σ : St) (vals : Nat -> Option FV) (i : Nat) (o : Oper), i < n -> l[i]? = some o -> listed.getD i false = false -> listed.size = l.length -> (∀ e ∈ o.after.toList, Region.binds .any e = true -> listed.getD e.on false = true) -> J listed σ vals ->
   o.dst.isSome=true/\dstOk E.N o.dst=true/\∃σ' v,HStep E l.toArray o (Q0m l vals o++frb) σ σ' v/\J (listed.setIfInBounds i true) σ' (updV vals i v))
  (htail : ∀ σ vals, J (Q07 l.length n) σ vals -> AOps E l.toArray (l.drop n) K (Q0e vals 0 (l.take n) ++ frb) σ) : ACode E (.region id l.toArray true) K fr σ0 := by
 have h3:=Fr.woO_eq hfb
 intro F w0 C0 w C tmps hg hi hf
 have hn:n < l.length:=by
  simp only[drawB,Bool.and_eq_true,decide_eq_true_eq]at hB
  exact hB.1.1.1.1.1
 refine wp_region_any hm ?_
 have h:=Ql8 (F:=F) (w0:=w0) (C0:=C0) (J:=J) hB (by rw[←h3];exact Fr.wo_none _ _) hstep htail n (Array.replicate l.toArray.size false) ⟨tmps,E.ds⟩ w.drew (by
   have:∀j,(!(Array.replicate l.toArray.size false).getD j false)=true:=fun j=>by rw[getD_replicate_false];rfl
   simp only[this];rw[List.filter_eq_self.2 (fun _ _=>rfl),List.length_range])
  ⟨by simp,fun j oj _ hl=>(by rw[getD_replicate_false]at hl;cases hl),fun t _ ht=>getD_in (by simpa using ht) (getD_replicate_false _ _)⟩
  ⟨rfl,C,σ0,fun _=>none,by simpa using h0,hg.trans (Goes.drew hi).toO,hi.drew.2,⟨hf.1,fun k x hk=>by
    obtain⟨u,hu,hr⟩:=hf.2 k x (by rw[←h3]at hk;exact (Fr.wo_get hk).1)
    exact⟨u,hu,hr.ext hi.drew.1⟩⟩,fun i o d v _ _ _ hv=>by cases hv⟩
 rw[show n+(l.length - n)=l.toArray.size by simp;omega]at h
 exact h
def mixV (S:List Nat)(vs:List FV)(f:Nat->Option FV):Nat->Option FV:=fun j=>bif S.any (fun k=>Nat.beq k j)then f j else vs[j]?
theorem ACode.drawS{id:Nat}{fr:Fr}{σ0:St}{hd tl:List Oper}(n:Nat)(S:List Nat)(vs:List FV)(M:(Nat->Option FV)->St->Prop)(hm:E.P.follows .mixedOrders=true)(hB:drawB l n=true)(hsp:Q35 n l=some (hd,tl))(hfb:Fr.woO (dsts hd) fr=some frb)(h0:M (fun _=>none) σ0)
  (hM : ∀ f σ, M f σ -> ∀ i, S.any (fun k => Nat.beq k i) = false -> f i = none)
  (hq : ∀ i o, i < n -> S.any (fun k => Nat.beq k i) = false -> l[i]? = some o -> ∃ v, vs[i]? = some v /\ o.dst.isSome = true /\ dstOk E.N o.dst = true /\ (o.after.toList.all fun e => !Region.binds .any e || !(S.any fun k => Nat.beq k e.on)) = true /\ ∀ f σ, M f σ -> HStep E l.toArray o (depFr l vs o ++ frb) σ σ v)
  (hs : ∀ f σ i o, M f σ -> S.any (fun k => Nat.beq k i) = true -> l[i]? = some o -> f i = none -> (∀ e ∈ o.after.toList, Region.binds .any e = true -> S.any (fun k => Nat.beq k e.on) = true -> (f e.on).isSome = true) ->
   o.dst.isSome=true/\dstOk E.N o.dst=true/\∃σ' v,HStep E l.toArray o (Q0m l (mixV S vs f) o++frb) σ σ' v/\M (updV f i v) σ')
  (htail:∀f σ,M f σ->(∀i∈S,i < n->(f i).isSome=true)->AOps E l.toArray tl K (Q0e (mixV S vs f) 0 hd++frb) σ):ACode E (.region id l.toArray true) K fr σ0:=by
 obtain⟨hsp1,hsp2⟩:=Q21 hsp
 subst hsp1;subst hsp2
 have depEq:∀(o:Oper) (v1 v2:Nat->Option FV),(∀e∈o.after.toList,Region.binds .any e=true->v1 e.on=v2 e.on)->Q0m l v1 o=Q0m l v2 o:=fun o v1 v2 h=>by
  unfold Q0m
  refine Q0t fun e he=>?_
  cases hb:Region.binds .any e with
  |false=>rfl
  |true=>simp only[cond_true];rw[h e he hb]
 refine ACode.drawJ n (fun listed σ vals=>listed.size=l.length/\∃f,M f σ/\(∀i,i < n->listed.getD i false=true->vals i=mixV S vs f i)/\(∀i,S.any (fun k=>Nat.beq k i)=true->listed.getD i false=(f i).isSome)) hm hB hfb
  ⟨by simp, _, h0, fun i _ h => absurd h (by rw [getD_replicate_false]; simp), fun i _ => by rw [getD_replicate_false]; rfl⟩ ?_ ?_
 ·intro listed σ vals i o hi hlo hun hsz hall ⟨_,f,hMf,hv,hf⟩
  have hn:n < l.length:=by
   have:=hB
   simp only[drawB,Bool.and_eq_true,decide_eq_true_eq]at this
   exact this.1.1.1.1.1
  have hset:∀(v:FV) j,(listed.setIfInBounds i true).getD j false=if i=j then true else listed.getD j false:=fun _ j=>by
   by_cases e:i=j
   ·subst e;simp[show i < listed.size by omega]
   ·rw[getD_set_ne false e,if_neg e]
  have hlast:∀e∈o.after.toList,Region.binds .any e=true->e.on < n:=fun e he hb=>by
   have hB2:=hB
   simp only[drawB,Bool.and_eq_true,decide_eq_true_eq]at hB2
   have h1:=List.all_eq_true.1 hB2.2 (o,i) (by
    rw[List.mem_zipIdx_iff_getElem?]
    rw[List.getElem?_take_of_lt hi]
    simpa using hlo)
   have h2:=Array.all_eq_true_iff_forall_mem.1 h1 e (by simpa using he)
   simp only[hb,Bool.not_true,Bool.false_or,decide_eq_true_eq]at h2
   omega
  have hdj:Q0m l vals o=Q0m l (mixV S vs f) o:=depEq o _ _ fun e he hb=>hv e.on (hlast e he hb) (hall e he hb)
  rw[hdj]
  cases hS:S.any (fun k=>Nat.beq k i) with
  |true=>
   have hfi:f i=none:=by
    have:=hf i hS
    rw[hun]at this
    cases h:f i with
    |none=>rfl
    |some v=>rw[h]at this;cases this
   obtain⟨k1,k2,σ',v,k3,k4⟩:=hs f σ i o hMf hS hlo hfi fun e he hb hSe=>by rw[←hf _ hSe];exact hall e he hb
   refine⟨k1,k2,σ',v,k3,by simp[hsz],updV f i v,k4,fun j hj hlj=>?_,fun j hj=>?_⟩
   ·by_cases e:i=j
    ·subst e
     simp[mixV,hS,updV]
    ·rw[hset v,if_neg e]at hlj
     rw[updV,if_neg e,hv j hj hlj]
     simp only[mixV,updV,if_neg e]
   ·rw[hset v]
    by_cases e:i=j
    ·subst e;simp[updV]
    ·simp only[if_neg e,updV];exact hf j hj
  |false=>
   obtain⟨v,q1,q2,q3,q4,q5⟩:=hq i o hi hS hlo
   have hdd:Q0m l (mixV S vs f) o=depFr l vs o:=by
    unfold Q0m depFr
    refine Q0t fun e he=>?_
    cases hb:Region.binds .any e with
    |false=>rfl
    |true=>
     have h1:=List.all_eq_true.1 q4 e he
     rw[hb]at h1
     simp only[Bool.not_true,Bool.false_or,Bool.not_eq_true']at h1
     simp only[cond_true,mixV,h1,cond_false]
     rfl
   rw[hdd]
   refine⟨q2,q3,σ,v,q5 f σ hMf,by simp[hsz],f,hMf,fun j hj hlj=>?_,fun j hj=>?_⟩
   ·by_cases e:i=j
    ·subst e
     rw[updV,if_pos rfl];simp only[mixV,hS,cond_false];exact q1.symm
    ·rw[hset v,if_neg e]at hlj
     rw[updV,if_neg e,hv j hj hlj]
   ·rw[hset v]
    by_cases e:i=j
    ·subst e;rw[hS]at hj;cases hj
    ·simp only[if_neg e];exact hf j hj
 ·intro σ vals ⟨_,f,hMf,hv,hf⟩
  have hn:n < l.length:=by
   have:=hB
   simp only[drawB,Bool.and_eq_true,decide_eq_true_eq]at this
   exact this.1.1.1.1.1
  have hl:∀j,j < n->(Q07 l.length n).getD j false=true:=fun j hj=>by
   have:j < (Q07 l.length n).size:=by simp[Q07];omega
   simp[Q07,show j < l.length by omega,hj]
  have heq:Q0e vals 0 (l.take n)=Q0e (mixV S vs f) 0 (l.take n):=by
   have:∀(os:List Oper) (k:Nat),k+os.length<=n->Q0e vals k os=Q0e (mixV S vs f) k os:=by
    intro os
    induction os with
    |nil=>intro k _;rfl
    |cons o os ih=>
     intro k hk
     simp only[List.length_cons]at hk
     simp only[Q0e]
     rw[hv k (by omega) (hl k (by omega)),ih (k+1) (by omega)]
   exact this _ 0 (by simp;omega)
  rw[heq]
  exact htail f σ hMf fun i hi hin=>by
   rw[←hf i (List.any_eq_true.2 ⟨i,hi,Q3h i⟩)]
   exact hl i hin
end
end Go.Abs
namespace Go.Abs
def Q2z (E:Env)(o:Oper)(fr:Fr)(σ:St)(P:FV->St->Prop):Prop:=
 ∀(F:Nat->Prop) (w:World) (C:Ctx) (tmps:Array Value),Inv E.Γ F w C σ->FrOk w C E.N fr tmps->
  ∀(next:Act->World->Prop) (Q:Exit->Act->World->Prop),
   (∀(u:Value) (w':World) (C':Ctx) (v:FV) (σ':St),P v σ'->Goes F (fun _=>True) w C w' C'->Inv E.Γ F w' C' σ'->RF w' C' v u->next (Act.put ⟨tmps,E.ds⟩ o.dst u) w')->o.wp E.P ⟨tmps,E.ds⟩ w next Q
def Q64 (E:Env)(ops:Array Oper)(o:Oper)(fr:Fr)(σ:St)(P:FV->St->Prop):Prop:=
 (∃v σ',HStep E ops o fr σ σ' v/\P v σ')∨(o.guard=none/\Q2z E o fr σ P)
theorem Qa4{E:Env}{ops:Array Oper}{o:Oper}{fr:Fr}{σ:St}{P:FV->St->Prop}(h:Q64 E ops o fr σ P){F:Nat->Prop}{w:World}{C:Ctx}{tmps:Array Value}(hi:Inv E.Γ F w C σ)(hf:FrOk w C E.N fr tmps){i:Nat}(ho:ops[i]?=some o)
  {next:Act->World->Prop}{Q:Exit->Act->World->Prop}(hk:∀(u:Value) (w':World) (C':Ctx) (v:FV) (σ':St),P v σ'->Goes F (fun _=>True) w C w' C'->Inv E.Γ F w' C' σ'->RF w' C' v u->next (Act.put ⟨tmps,E.ds⟩ o.dst u) w'):wpOp E.P ops Q i next ⟨tmps,E.ds⟩ w:=by
 rcases h with ⟨v,σ',h1,h2⟩|⟨hg,h⟩
 ·exact Q8g h1 hi hf ho fun u w' C' a b c=>hk u w' C' v σ' h2 a b c
 ·unfold wpOp
  simp only[ho]
  rw[if_pos (by simp[Region.wanted,hg])]
  exact .inl (h F w C tmps hi hf next Q hk)
theorem Q2z.call{E:Env}{o:Oper}{fr:Fr}{σ:St}{f:Operand}{args:Array Operand}{tys:Array TypeId}{g:Nat}{first caps:List AC}{vs us:List FV}{Q:FV->Outer->Prop}{P:FV->St->Prop}
  (hΓ:∀g cs,(g,cs)∈E.Γ->idsL isO cs) (ho:o.op=.call { callee:=.value f,args:=args,argTypes:=tys })
  (hf:aEval E.Γ fr f=some (.one (.fn (.func g) first caps))) (hargs:Q2p E.Γ fr args.toList=some vs) (has:first.map .one++vs++caps.map .one=us) (hids:idsF isO us) (hou:OuOk σ.ou)
  (hc:AFn E.P E.Γ g us σ.ou Q) (h:∀r ou',Q r ou'->r.ids isO->OuOk ou'->P r { σ with ou:=ou' }):Q2z E o fr σ P:=by
 subst has
 intro F w C tmps hi hfr next Qx hk
 have hcallee:=Q01 (a:=⟨tmps,E.ds⟩) hi hfr hf
 simp only[RF,R]at hcallee
 obtain⟨xs,ys,hfv,hx,hy⟩:=hcallee
 have hvs:=Q2x (a:=⟨tmps,E.ds⟩) hi hfr hargs
 have hall:RFs w C (first.map .one++vs++caps.map .one) (xs++args.toList.map (Act.eval ⟨tmps,E.ds⟩)++ys):=(RFs.ones hx |>.append hvs).append (RFs.ones hy)
 have hrun:(execOp (Act.eval ⟨tmps,E.ds⟩) o).run E.P w=.ok (.enter g (xs++args.toList.map (Act.eval ⟨tmps,E.ds⟩)++ys).toArray) w:=by
  unfold execOp
  simp only[ho,resolve,Sem.run_bind,hfv,Deferred.ofValue,Sem.run_pure,Result.andThen_ok,invoke,hc.1]
  congr 2
  apply Array.ext'
  simp
 unfold Oper.wp
 rw[hrun,Oper.upon_enter]
 have hc1:Chg isO w C w { C with nl:=0 }:=⟨fun _ _=>rfl,fun _ h=>h,fun i hp ho=>⟨by cases i with|l k=>cases hp|o k=>exact ho,rfl,rfl⟩⟩
 refine (hc.2 (Q3l w C σ.ou) w { C with nl:=0 } _ rfl (hi.forCallee hou hΓ) (RFs.chg hc1 _ _ hids hall)).mono fun e w' ⟨v,r,ou',C',he,hgo,h0,hi',hr,hQ⟩=>?_
 subst he
 obtain⟨hb1,hb2,hb3⟩:=hi.back hgo h0 hi'
 have hrid:r.ids isO:=FV.ids_mono (Q52 h0) r (RF.idsOk r v hr)
 exact hk _ _ _ r _ (h r ou' hQ hrid (OuOk.of_inv hi' h0)) hb1 hb2 (RF.chg hb3 r v hrid hr)
theorem Q3j{E:Env}{l:List Oper}{frb:Fr}{σ:St}{cs:List (Nat×FV)}{n al:Nat}{vs:List FV}{va:FV}(hT:TabOk E.P E.T)(hall:∀(k:Nat)(o:Oper),l[k]?=some o->k < n->o.after.all (fun e=>!Region.binds .any e||decide (e.on < k))=true)(hcs:Q0n E l frb σ vs cs):
  ∀(os:List Oper) (k:Nat) (acc ws:List FV),acc.length=k->(∀(i:Nat) (o:Oper),os[i]?=some o->l[k+i]?=some o/\k+i < n)->Q0f E l.toArray l frb σ ((al,va)::cs) k os acc=some ws->acc++ws=vs->
   os.length=ws.length/\∀(i:Nat) (o:Oper),os[i]?=some o->∃v,ws[i]?=some v/\o.dst.isSome=true/\dstOk E.N o.dst=true/\(k+i=al->v=va)/\(k+i≠al->HStep E l.toArray o (depFr l vs o++frb) σ σ v)
 |[],k,acc,ws,_,_,h,_=>by simp only[Q0f,Option.some.injEq]at h;subst h;exact⟨rfl,fun i o h=>by simp at h⟩
 |o::os,k,acc,ws,hl,hos,h,hv=>by
  have ho:=hos 0 o rfl
  simp only[Nat.add_zero]at ho
  simp only[Q0f,Q13]at h
  cases hb:(o.dst.isSome&&dstOk E.N o.dst) with
  |false=>rw[hb]at h;cases h
  |true=>
   rw[hb]at h
   simp only[Bool.and_eq_true]at hb
   simp only[cond_true]at h
   have rest:∀{v:FV},(k=al->v=va)->(k≠al->(∀ws',ws=v::ws'->HStep E l.toArray o (depFr l vs o++frb) σ σ v))->(match Q0f E l.toArray l frb σ ((al,va)::cs) (k+1) os (acc++[v]) with|some vs=>some (v::vs)|none=>none)=some ws ->
     (o :: os).length = ws.length /\ ∀ (i : Nat) (p : Oper), (o :: os)[i]? = some p -> ∃ v, ws[i]? = some v /\ p.dst.isSome = true /\ dstOk E.N p.dst = true /\ (k + i = al -> v = va) /\ (k + i ≠ al -> HStep E l.toArray p (depFr l vs p ++ frb) σ σ v) := by
    intro v hva hst h
    split at h
    ·rename_i ws' hw
     simp only[Option.some.injEq]at h;subst h
     obtain⟨q1,q2⟩:=Q3j hT hall hcs os (k+1) (acc++[v]) ws' (by simp[hl]) (fun i o hi=>by have:=hos (i+1) o hi;rw[show k+1+i=k+(i+1) by omega];exact this) hw (by simpa using hv)
     refine⟨by simp[q1],fun i p hi=>?_⟩
     cases i with
     |zero=>simp at hi;subst hi;exact⟨v,rfl,hb.1,hb.2,hva,fun hne=>hst hne ws' rfl⟩
     |succ i=>
      obtain⟨u,u1,u2,u3,u4,u5⟩:=q2 i p (by simpa using hi)
      rw[show k+1+i=k+(i+1) by omega]at u4 u5
      exact⟨u,by simpa using u1,u2,u3,u4,u5⟩
    ·cases h
   by_cases hka:al=k
   ·subst hka
    have hc:lookC al ((al,va)::cs)=some va:=by simp[lookC]
    rw[hc]at h
    exact rest (fun _=>rfl) (fun hne=>absurd rfl hne) h
   ·have hc:lookC k ((al,va)::cs)=lookC k cs:=by simp only[lookC,Q09 hka,cond_false]
    rw[hc]at h
    cases hc2:lookC k cs with
    |some v=>
     rw[hc2]at h
     obtain⟨o',ho',hs0⟩:=hcs.get hc2
     rw[ho.1]at ho'
     cases ho'
     exact rest (fun e=>absurd e.symm hka) (fun _ _ _=>hs0) h
    |none=>
     rw[hc2]at h
     simp only at h
     cases hp:Q5n o.op with
     |false=>rw[hp]at h;cases h
     |true=>
      rw[hp]at h
      simp only[cond_true]at h
      have hpure:∀{τ τ':St}{v:FV},aHead E l.toArray o (depFr l acc o++frb) τ=some (v,τ')->τ'=τ:=by
       intro τ τ' v ha
       have key:∀{y:FV}{τ2:St},(match aOp E.T E.Γ o.op (depFr l acc o++frb) τ with|some (some x,σ')=>some (x,σ')|_=>none)=some (y,τ2)->τ2=τ:=by
        intro y τ2 h
        split at h
        ·rename_i h1
         simp only[Option.some.injEq,Prod.mk.injEq]at h
         obtain⟨rfl,rfl⟩:=h
         exact Q63 hp h1
        ·cases h
       unfold aHead at ha
       split at ha
       ·exact key ha
       ·split at ha
        ·split at ha
         ·exact key ha
         ·exact key ha
         ·cases ha;rfl
         ·cases ha;rfl
         ·cases ha;rfl
         ·cases ha
        ·cases ha
      split at h
      ·rename_i v σ' ha
       refine rest (fun e=>absurd e.symm hka) (fun _ ws' hw=>?_) h
       have hdep:depFr l vs o=depFr l acc o:=by rw[←hv];exact Q2v (by rw[hl];exact hall k o ho.1 ho.2)
       have e1:=hpure ha
       subst e1
       have hs0:=HStep.auto (ops:=l.toArray) hT ha
       rw[←hdep]at hs0
       exact hs0
      ·cases h
section
variable {E:Env}{l:List Oper}{frb:Fr}{n:Nat}{K:Cont}{J:Array Bool->St->(Nat->Option FV)->Prop}
theorem Ql7(hB:drawB l n=true)(hfb:(dsts (l.take n)).all (fun d=>(Fr.get d frb).isNone)=true)
  (hstep : ∀ (listed : Array Bool) (σ : St) (vals : Nat -> Option FV) (i : Nat) (o : Oper), i < n -> l[i]? = some o -> listed.getD i false = false -> listed.size = l.length -> (∀ e ∈ o.after.toList, Region.binds .any e = true -> listed.getD e.on false = true) -> J listed σ vals ->
   o.dst.isSome=true/\dstOk E.N o.dst=true/\Q64 E l.toArray o (Q0m l vals o++frb) σ (fun v σ'=>J (listed.setIfInBounds i true) σ' (updV vals i v)))
  (htail : ∀ σ vals, J (Q07 l.length n) σ vals -> AOps E l.toArray (l.drop n) K (Q0e vals 0 (l.take n) ++ frb) σ) {F : Nat -> Prop} {w0 : World} {C0 : Ctx} :
  ∀(c:Nat) (listed:Array Bool) (a:Act) (w:World),((List.range n).filter fun j=>!listed.getD j false).length=c->HeadInv .any l.toArray n listed->MidJ E l n frb J F w0 C0 listed a w->
   wpAny E.P .any l.toArray (Post E F w0 C0 K) (c+(l.length - n)) listed a w:=by
 simp only[drawB,Bool.and_eq_true,decide_eq_true_eq]at hB
 obtain⟨⟨⟨⟨⟨hn,hs⟩,hc⟩,hsq⟩,hdi⟩,haf⟩:=hB
 have hsz:l.toArray.size=l.length:=by simp
 intro c
 induction c with
 |zero=>
  intro listed a w hcnt hinv hmid
  have hall:∀j,j < n->listed.getD j false=true:=by
   intro j hj
   have:(List.range n).filter (fun j=>!listed.getD j false)=[]:=List.eq_nil_of_length_eq_zero hcnt
   have h2:=List.filter_eq_nil_iff.1 this j (List.mem_range.2 hj)
   simpa using h2
  have hl:listed=Q07 l.length n:=by
   apply Array.ext
   ·simp[Q07,hinv.size]
   ·intro j h1 h2
    have hj:j < l.length:=by simpa[Q07]using h2
    have h3:listed.getD j false=listed[j]:=by simp[h1]
    simp only[Q07,Array.getElem_map,Array.getElem_range]
    by_cases hjn:j < n
    ·rw[←h3,hall j hjn];simp[hjn]
    ·have:=hinv.tail j (by omega) (by rw[hsz];exact hj)
     rw[Q40 h1]at this
     rw[←h3,this];simp[hjn]
  have hdl:(l.drop n).length=l.length - n:=by simp
  rw[Nat.zero_add,←hdl]
  refine wpAny_of_seq (md:=.any) (l.drop n) n listed a w (fun j=>by simp[List.getElem?_drop]) (by rw[hl,hdl];exact hsq) ?_
  obtain⟨hd,C,σ,vals,hJ,hg,hi,hf,hv⟩:=hmid
  have ha:a=⟨a.tmps,E.ds⟩:=by cases a;simp_all
  rw[ha]
  rw[hl]at hJ
  refine htail σ vals hJ F w0 C0 w C a.tmps hg hi ⟨hf.1,fun k x hk=>?_⟩
  rcases Fr.get_append hk with hk|⟨_,hk⟩
  ·obtain⟨i,o,h1,h2,h3⟩:=Q3z (Fr.get_mem hk)
   rw[Nat.zero_add]at h3
   have hin:i < n:=by
    have:=(List.getElem?_eq_some_iff.1 h1).1
    simp at this;omega
   rw[List.getElem?_take_of_lt hin]at h1
   exact hv i o k x hin h1 h2 h3
  ·exact hf.2 k x hk
 |succ c ih=>
  intro listed a w hcnt hinv hmid
  -- some head is not listed
  have hex:∃i,i < n/\listed.getD i false=false/\∀j,j < i->listed.getD j false=true:=by
   have hne:∃i,i < n/\listed.getD i false=false:=by
    cases hL:(List.range n).filter (fun j=>!listed.getD j false) with
    |nil=>rw[hL]at hcnt;simp at hcnt
    |cons i L=>
     have:i∈(List.range n).filter (fun j=>!listed.getD j false):=by rw[hL];simp
     obtain⟨h1,h2⟩:=List.mem_filter.1 this
     exact⟨i,List.mem_range.1 h1,by simpa using h2⟩
   obtain⟨i,hi⟩:=hne
   induction i using Nat.strongRecOn with
   |_ i ih2=>
    by_cases h:∃j,j < i/\listed.getD j false=false
    ·obtain⟨j,hj,hj2⟩:=h
     exact ih2 j hj ⟨by omega,hj2⟩
    ·exact⟨i,hi.1,hi.2,fun j hj=>(Bool.not_eq_false _).mp (fun hb=>h ⟨j,hj,hb⟩)⟩
  obtain⟨i0,hi0n,hi0u,hi0m⟩:=hex
  have hready:i0∈Region.ready .any l.toArray listed:=by
   rw[mem_ready]
   have hlt:i0 < l.length:=by omega
   refine⟨by rw[Q40 (by rw[hinv.size,hsz];exact hlt)];exact hi0u,l[i0],by simp[hlt],fun e he hb=>?_⟩
   have h1:=List.all_eq_true.1 haf (l[i0],i0) (by
    rw[List.mem_zipIdx_iff_getElem?]
    rw[List.getElem?_take_of_lt hi0n]
    simp[hlt])
   have h2:=Array.all_eq_true_iff_forall_mem.1 h1 e he
   simp only[hb,Bool.not_true,Bool.false_or,decide_eq_true_eq]at h2
   exact hi0m _ h2
  rw[show c+1+(l.length - n)=(c+(l.length - n))+1 by omega]
  refine⟨fun h=>absurd hready (by rw[h];simp),fun i hi=>?_⟩
  have hi0t:listed.getD i0 true=false:=(mem_ready.1 hready).1
  have hin:i < n:=by
   rcases Nat.lt_or_ge i n with h|h
   ·exact h
   ·exact absurd hi (tail_waits hs hc (by rw[hsz];exact hn) hinv _ i0 rfl hi0n hi0t i h)
  obtain⟨hun,o,ho,hall⟩:=mem_ready.1 hi
  have hlo:l[i]?=some o:=by simpa using ho
  obtain⟨hd,C,σ,vals,hJ,hg,hinvw,hf,hvals⟩:=hmid
  have ha:a=⟨a.tmps,E.ds⟩:=by cases a;simp_all
  rw[ha]
  have huni:listed.getD i false=false:=getD_both hun
  have hil:i < listed.size:=by rw[hinv.size,hsz];omega
  have hlast:∀e∈o.after.toList,Region.binds .any e=true->e.on < n:=fun e he hb=>by
   have h1:=List.all_eq_true.1 haf (o,i) (by
    rw[List.mem_zipIdx_iff_getElem?]
    rw[List.getElem?_take_of_lt hin]
    simpa using hlo)
   have h2:=Array.all_eq_true_iff_forall_mem.1 h1 e (by simpa using he)
   simp only[hb,Bool.not_true,Bool.false_or,decide_eq_true_eq]at h2
   omega
  obtain⟨hds,hdo,hst⟩:=hstep listed σ vals i o hin hlo huni (by rw[hinv.size,hsz]) (fun e he hb=>hall e (by simpa using he) hb) hJ
  have hfr:FrOk w C E.N (Q0m l vals o++frb) a.tmps:=by
   refine⟨hf.1,fun k x hk=>?_⟩
   rcases Fr.get_append hk with hk|⟨_,hk⟩
   ·have hm:=Fr.get_mem hk
    obtain⟨e,he,he2⟩:=List.mem_filterMap.1 hm
    cases hb:Region.binds .any e with
    |false=>rw[hb]at he2;cases he2
    |true=>
     rw[hb]at he2;simp only[cond_true]at he2
     cases h1:(l[e.on]?).bind (·.dst) with
     |none=>rw[h1]at he2;cases he2
     |some d=>
      cases h2:vals e.on with
      |none=>rw[h1,h2]at he2;cases he2
      |some v'=>
       rw[h1,h2]at he2;cases he2
       cases h3:l[e.on]? with
       |none=>rw[h3]at h1;cases h1
       |some oe=>
        rw[h3]at h1
        exact hvals e.on oe k x (hlast e he hb) h3 h1 h2
   ·exact hf.2 k x hk
  obtain⟨d,hdd⟩:=Option.isSome_iff_exists.1 hds
  refine Qa4 hst hinvw hfr ho fun u w' C' v σ' hJ' hgo hi' hr=>?_
  refine ih _ _ _ ?_ (hinv.set hi hin) ⟨put_defers ..,C',σ',_,hJ',hg.trans hgo.toO,hi',?_,fun j oj dj vj hj hoj hdj hvj=>?_⟩
  ·have h2:((List.range n).filter fun j=>!(listed.setIfInBounds i true).getD j false).length+1=((List.range n).filter fun j=>!listed.getD j false).length:=Q7g hin huni hil
   omega
  ·refine⟨by rw[hdd];simp[Act.put,hf.1],fun k x hk=>?_⟩
   obtain⟨u',hu',hr'⟩:=hf.2 k x hk
   have hne:d≠k:=by
    rintro rfl
    have h1:=List.all_eq_true.1 hfb d (List.mem_filterMap.2 ⟨o,List.mem_of_getElem? (i:=i) (by rw[List.getElem?_take_of_lt hin];exact hlo),hdd⟩)
    rw[hk]at h1;cases h1
   refine⟨u',?_,hr'.ext hgo.chg⟩
   rw[hdd]
   simp only[Act.put]
   rw[Array.getElem?_setIfInBounds_ne hne];exact hu'
  ·by_cases e:i=j
   ·subst e
    rw[hlo]at hoj;cases hoj
    rw[hdd]at hdj;cases hdj
    rw[updV,if_pos rfl]at hvj
    cases hvj
    have hdN:d < a.tmps.size:=by
     rw[hf.1]
     rw[hdd]at hdo
     exact Nat.le_of_ble_eq_true (show Nat.ble (d+1) E.N=true from hdo)
    exact⟨u,by rw[hdd];simp[Act.put,hdN],hr⟩
   ·simp only[updV,if_neg e]at hvj
    obtain⟨u',hu',hr'⟩:=hvals j oj dj vj hj hoj hdj hvj
    have hne:d≠dj:=by
     rintro rfl
     exact e (Q1y hdi (by rw[List.getElem?_take_of_lt hin];exact hlo) (by rw[List.getElem?_take_of_lt hj];exact hoj) hdd hdj)
    refine⟨u',?_,hr'.ext hgo.chg⟩
    rw[hdd]
    simp only[Act.put]
    rw[Array.getElem?_setIfInBounds_ne hne];exact hu'
theorem ACode.drawJR{id:Nat}{fr:Fr}{σ0:St}(n:Nat)(J:Array Bool->St->(Nat->Option FV)->Prop)(hm:E.P.follows .mixedOrders=true)(hB:drawB l n=true)(hfb:Fr.woO (dsts (l.take n)) fr=some frb)(h0:J (Array.replicate l.length false) σ0 (fun _=>none))
  (hstep : ∀ (listed : Array Bool) (σ : St) (vals : Nat -> Option FV) (i : Nat) (o : Oper), i < n -> l[i]? = some o -> listed.getD i false = false -> listed.size = l.length -> (∀ e ∈ o.after.toList, Region.binds .any e = true -> listed.getD e.on false = true) -> J listed σ vals ->
   o.dst.isSome=true/\dstOk E.N o.dst=true/\Q64 E l.toArray o (Q0m l vals o++frb) σ (fun v σ'=>J (listed.setIfInBounds i true) σ' (updV vals i v)))
  (htail : ∀ σ vals, J (Q07 l.length n) σ vals -> AOps E l.toArray (l.drop n) K (Q0e vals 0 (l.take n) ++ frb) σ) : ACode E (.region id l.toArray true) K fr σ0 := by
 have h3:=Fr.woO_eq hfb
 intro F w0 C0 w C tmps hg hi hf
 have hn:n < l.length:=by
  simp only[drawB,Bool.and_eq_true,decide_eq_true_eq]at hB
  exact hB.1.1.1.1.1
 refine wp_region_any hm ?_
 have h:=Ql7 (F:=F) (w0:=w0) (C0:=C0) (J:=J) hB (by rw[←h3];exact Fr.wo_none _ _) hstep htail n (Array.replicate l.toArray.size false) ⟨tmps,E.ds⟩ w.drew (by
   have:∀j,(!(Array.replicate l.toArray.size false).getD j false)=true:=fun j=>by rw[getD_replicate_false];rfl
   simp only[this];rw[List.filter_eq_self.2 (fun _ _=>rfl),List.length_range])
  ⟨by simp,fun j oj _ hl=>(by rw[getD_replicate_false]at hl;cases hl),fun t _ ht=>getD_in (by simpa using ht) (getD_replicate_false _ _)⟩
  ⟨rfl,C,σ0,fun _=>none,by simpa using h0,hg.trans (Goes.drew hi).toO,hi.drew.2,⟨hf.1,fun k x hk=>by
    obtain⟨u,hu,hr⟩:=hf.2 k x (by rw[←h3]at hk;exact (Fr.wo_get hk).1)
    exact⟨u,hu,hr.ext hi.drew.1⟩⟩,fun i o d v _ _ _ hv=>by cases hv⟩
 rw[show n+(l.length - n)=l.toArray.size by simp;omega]at h
 exact h

theorem ACode.drawXR{id:Nat}{fr fr':Fr}{σ0:St}{hd tl:List Oper}{vs:List FV}{va:FV}{oal:Oper}(hT:TabOk E.P E.T)(n al:Nat)(cs:List (Nat×FV))(S:St->Prop)(hm:E.P.follows .mixedOrders=true)(hB:drawB l n=true)(haln:Nat.ble (al+1) n=true)(hsp:Q35 n l=some (hd,tl))(hfb:Fr.woO (dsts hd) fr=some frb)
  (hoal:l[al]?=some oal) (hrun:Q0f E l.toArray l frb σ0 ((al,va)::cs) 0 hd []=some vs) (hrun1:∀σ,S σ->Q0f E l.toArray l frb σ ((al,va)::cs) 0 hd []=some vs) (hfr:frOf hd vs frb=some fr')
  (hds:oal.dst.isSome=true/\dstOk E.N oal.dst=true) (hg:oal.guard=none) (hal:Q2z E oal (depFr l vs oal++frb) σ0 (fun v σ=>v=va/\S σ)) (hcs:Q0n E l frb σ0 vs cs) (hcs1:∀σ,S σ->Q0n E l frb σ vs cs)
  (htail:∀σ,S σ->AOps E l.toArray tl K fr' σ):ACode E (.region id l.toArray true) K fr σ0:=by
 obtain⟨hsp1,hsp2⟩:=Q21 hsp
 subst hsp1;subst hsp2
 have h4:=Q6o hfr
 have hn:n < l.length:=by
  have:=hB
  simp only[drawB,Bool.and_eq_true,decide_eq_true_eq]at this
  exact this.1.1.1.1.1
 have hlast:∀(i:Nat) (o:Oper),l[i]?=some o->i < n->o.after.all (fun e=>!Region.binds .any e||decide (e.on < i))=true:=fun i o hlo hi=>by
  have hB2:=hB
  simp only[drawB,Bool.and_eq_true,decide_eq_true_eq]at hB2
  exact List.all_eq_true.1 hB2.2 (o,i) (by
   rw[List.mem_zipIdx_iff_getElem?]
   rw[List.getElem?_take_of_lt hi]
   simpa using hlo)
 have hos:∀i o,(l.take n)[i]?=some o->l[0+i]?=some o/\0+i < n:=fun i o hi=>by
  have hi2:i < n:=by
   have:=(List.getElem?_eq_some_iff.1 hi).1
   simp at this;omega
  rw[List.getElem?_take_of_lt hi2]at hi
  exact⟨by simpa using hi,by omega⟩
 -- a head that turns nothing, seen from each state
 have H:∀σ,Q0f E l.toArray l frb σ ((al,va)::cs) 0 (l.take n) []=some vs->Q0n E l frb σ vs cs->(l.take n).length=vs.length/\∀i o,l[i]?=some o->i < n->i≠al->∃v,vs[i]?=some v/\o.dst.isSome=true/\dstOk E.N o.dst=true/\HStep E l.toArray o (depFr l vs o++frb) σ σ v:=fun σ hr hc=>by
  have hq:=Q3j (n:=n) (al:=al) (va:=va) hT hlast hc _ 0 [] vs rfl hos hr rfl
  refine⟨hq.1,fun i o hlo hi hne=>?_⟩
  obtain⟨v,q1,q2,q3,_,q4⟩:=hq.2 i o (by rw[List.getElem?_take_of_lt hi];exact hlo)
  exact⟨v,q1,q2,q3,q4 (by omega)⟩
 have hva:vs[al]?=some va:=by
  have hq:=Q3j (n:=n) (al:=al) (va:=va) hT hlast hcs _ 0 [] vs rfl hos hrun rfl
  obtain⟨v,q1,_,_,q4,_⟩:=hq.2 al oal (by rw[List.getElem?_take_of_lt (Nat.le_of_ble_eq_true haln)];exact hoal)
  rw[q1,q4 (by omega)]
 obtain⟨hlen,H0⟩:=H σ0 hrun hcs
 refine ACode.drawJR n (fun listed σ vals=>listed.size=l.length/\(∀i,i < n->listed.getD i false=true->vals i=vs[i]?)/\((listed.getD al false=false/\σ=σ0)∨(listed.getD al false=true/\S σ))) hm hB hfb ⟨by simp,fun i _ h=>absurd h (by rw[getD_replicate_false];simp),.inl ⟨getD_replicate_false _ _,rfl⟩⟩ ?_ ?_
 ·intro listed σ vals i o hi hlo hun hsz hall ⟨_,hv,hst⟩
  have hset:∀j,(listed.setIfInBounds i true).getD j false=if i=j then true else listed.getD j false:=fun j=>by
   by_cases e:i=j
   ·subst e;simp[show i < listed.size by omega]
   ·rw[getD_set_ne false e,if_neg e]
  have hdd:Q0m l vals o=depFr l vs o:=by
   unfold Q0m depFr
   refine Q0t fun e he=>?_
   cases hb:Region.binds .any e with
   |false=>rfl
   |true=>
    have h1:=Array.all_eq_true_iff_forall_mem.1 (hlast i o hlo hi) e (by simpa using he)
    simp only[hb,Bool.not_true,Bool.false_or,decide_eq_true_eq]at h1
    simp only[cond_true]
    rw[hv e.on (by omega) (hall e he hb)]
    rfl
  rw[hdd]
  have hnew:∀v,vs[i]?=some v->∀j,j < n->(listed.setIfInBounds i true).getD j false=true->updV vals i v j=vs[j]?:=fun v hvv j hj hlj=>by
   by_cases e:i=j
   ·subst e;rw[updV,if_pos rfl,hvv]
   ·rw[hset,if_neg e]at hlj
    rw[updV,if_neg e];exact hv j hj hlj
  by_cases e:i=al
  ·subst e
   rw[hoal]at hlo;cases hlo
   rcases hst with ⟨_,rfl⟩|⟨h,_⟩
   ·refine⟨hds.1,hds.2,.inr ⟨hg,?_⟩⟩
    intro F w C tmps hi2 hf2 next Q hk
    refine hal F w C tmps hi2 hf2 next Q fun u w' C' v σ' ⟨hv1,hS⟩=>?_
    subst hv1
    exact hk u w' C' _ σ' ⟨by simp[hsz],hnew _ hva,.inr ⟨by rw[hset,if_pos rfl],hS⟩⟩
   ·rw[hun]at h;cases h
  ·have hq:∃v,vs[i]?=some v/\o.dst.isSome=true/\dstOk E.N o.dst=true/\HStep E l.toArray o (depFr l vs o++frb) σ σ v:=by
    rcases hst with ⟨_,rfl⟩|⟨_,hS⟩
    ·exact H0 i o hlo hi e
    ·exact (H σ (hrun1 σ hS) (hcs1 σ hS)).2 i o hlo hi e
   obtain⟨v,q1,q2,q3,q4⟩:=hq
   refine⟨q2,q3,.inl ⟨v,σ,q4,by simp[hsz],hnew v q1,?_⟩⟩
   rw[hset,if_neg e];exact hst
 ·intro σ vals ⟨_,hv,hst⟩
  have hl:∀j,j < n->(Q07 l.length n).getD j false=true:=fun j hj=>by
   have:j < (Q07 l.length n).size:=by simp[Q07];omega
   simp[Q07,show j < l.length by omega,hj]
  have hS:S σ:=by
   rcases hst with ⟨h,_⟩|⟨_,h⟩
   ·rw[hl al (Nat.le_of_ble_eq_true haln)]at h;cases h
   ·exact h
  have heq:Q0e vals 0 (l.take n)=Q2q (l.take n) vs:=by
   have:∀(os:List Oper) (ws:List FV) (k:Nat),os.length=ws.length->(∀i,i < os.length->vals (k+i)=ws[i]?)->(∀o∈os,o.dst.isSome=true)->Q0e vals k os=Q2q os ws:=by
    intro os
    induction os with
    |nil=>intro ws k _ _ _;cases ws <;> rfl
    |cons o os ih=>
     intro ws k hl h hd
     cases ws with
     |nil=>simp at hl
     |cons v ws=>
      have h0:=h 0 (by simp)
      simp at h0
      obtain⟨d,hdd⟩:=Option.isSome_iff_exists.1 (hd o (by simp))
      simp only[Q0e,Q2q,hdd,h0]
      rw[ih ws (k+1) (by simpa using hl) (fun i hi=>by have:=h (i+1) (by simpa using hi);rw[show k+1+i=k+(i+1) by omega,this];simp) (fun o ho=>hd o (by simp[ho]))]
   refine this _ _ 0 hlen (fun i hi=>by rw[Nat.zero_add];exact hv i (by simp at hi;omega) (hl i (by simp at hi;omega))) fun o ho=>?_
   obtain⟨i,hi⟩:=List.mem_iff_getElem?.1 ho
   obtain⟨h1,h2⟩:=hos i o hi
   rw[Nat.zero_add]at h1 h2
   by_cases e:i=al
   ·subst e;rw[hoal]at h1;cases h1;exact hds.1
   ·obtain⟨_,_,h,_⟩:=H0 i o h1 h2 e;exact h
  rw[heq,h4]
  exact htail σ hS
end
structure Ced (j k:Nat)(fr:Fr)(σ:St)(fr':Fr)(σ':St):Prop where
 fr:∀d x,Fr.get d fr'=some x->∃y,Fr.get d fr=some y/\WkF (y.sub (toO j k)) x
 n:σ'.n=σ.n
 obj:∀i x,σ'.get i=some x->∃i0 y,σ.get i0=some y/\toO j k i0=i/\x=y.sub (toO j k)
theorem AObj.ids_all(o:AObj):o.ids (fun _=>True):=by
 cases o with
 |cells cs=>exact Q23 cs
 |map ck es=>exact fun x hx=>FV.ids_true _
 |iter m a b c=>trivial
 |sit s q=>trivial
 |tok e s u=>trivial
 |dead=>trivial
theorem AOps.cede{E:Env}{ops:Array Oper}{rest:List Oper}{K:Cont}{fr:Fr}{σ:St}(j:Nat)(hj:j < σ.n)(h:∀k,σ.ou k=none->∃fr' σ',Ced j k fr σ fr' σ'/\AOps E ops rest K fr' σ'):AOps E ops rest K fr σ:=by
 intro F w0 C0 w C tmps hg hi hf
 have hnone:σ.ou C.no=none:=by
  cases hx:σ.ou C.no with
  |none=>rfl
  |some x=>exact absurd (hi.obj (.o C.no) x hx).1 (Nat.lt_irrefl _)
 obtain⟨fr',σ',hc,h⟩:=h _ hnone
 let C2:Ctx:={ C with no:=C.no+1,phi:=fun i=>match i with|.o m=>if m=C.no then C.phi (.l j)else C.phi (.o m)|.l m=>C.phi (.l m),tk:=fun i=>match i with|.o m=>if m=C.no then C.tk (.l j)else C.tk (.o m)|.l m=>C.tk (.l m) }
 have hx:Ext w C w C2:=⟨fun _ _=>rfl,fun _ h=>h,fun i _ ho=>by
  cases i with
  |l m=>exact⟨ho,rfl,rfl⟩
  |o m=>
   have hm:m < C.no:=ho
   refine⟨Nat.lt_succ_of_lt hm,?_,?_⟩
   ·show (if m=C.no then _ else _)=_;rw[if_neg (by omega)];rfl
   ·show (if m=C.no then _ else _)=_;rw[if_neg (by omega)];rfl⟩
 have hb:Bus (toO j C.no) (fun _=>True) w C2 C:=⟨fun _ h=>h,fun i _ ho=>by
  cases i with
  |o m=>exact hx.id (.o m) trivial ho
  |l m=>
   by_cases e:m=j
   ·subst e
    simp only[toO,Q3h,cond_true]
    refine⟨Nat.lt_succ_self _,?_,?_⟩
    ·show (if C.no=C.no then _ else _)=_;rw[if_pos rfl];rfl
    ·show (if C.no=C.no then _ else _)=_;rw[if_pos rfl];rfl
   ·simp only[toO,Q09 e,cond_false]
    exact⟨ho,rfl,rfl⟩⟩
 have hok:∀i0 y,σ.get i0=some y->C.ok i0:=fun i0 y hy=>(hi.obj i0 y hy).1
 have hi':Inv E.Γ F w C2 σ':=by
  refine⟨hi.base,by rw[hc.n];exact hi.next,fun g cs hm=>(hi.glob g cs hm).ext hx,hi.prot,fun i x hxx=>?_,fun i1 i2 x1 x2 g h1 h2 h3 h4=>?_⟩
  ·obtain⟨i0,y,hy,rfl,rfl⟩:=hc.obj i x hxx
   obtain⟨k1,k2⟩:=hi.obj i0 y hy
   exact⟨(hb.id i0 trivial k1).1,ObjOk.bus hb (AObj.ids_all y) trivial k1 (fun _ h=>h) k2⟩
  ·obtain⟨a,y,hy,rfl,rfl⟩:=hc.obj i1 x1 h1
   obtain⟨b,z,hz,rfl,rfl⟩:=hc.obj i2 x2 h2
   rw[AObj.block_bus hb trivial (hok a y hy)]at h3
   rw[AObj.block_bus hb trivial (hok b z hz)]at h4
   rw[hi.inj a b y z g hy hz h3 h4]
 refine h F w0 C0 w C2 tmps (hg.trans ⟨Stp.refl _ _,hx.weaken (fun _ _=>trivial),Nat.le_succ _,NewP.refl _ _⟩) hi' ⟨hf.1,fun d x hd=>?_⟩
 obtain⟨y,hy,hw⟩:=hc.fr d x hd
 obtain⟨u,hu,hr⟩:=hf.2 d y hy
 exact⟨u,hu,hw _ _ _ (RF.bus hb y u (FV.ids_true y) hr)⟩
theorem AOps.lessO{E:Env}{ops:Array Oper}{rest:List Oper}{K:Cont}{fr:Fr}{σ:St}(σ':St)(hn:σ'.n=σ.n)(hs:∀i o,σ'.get i=some o->σ.get i=some o)(h:AOps E ops rest K fr σ'):AOps E ops rest K fr σ:=by
 intro F w0 C0 w C tmps hg hi hf
 exact h F w0 C0 w C tmps hg ⟨hi.base,by rw[hn];exact hi.next,hi.glob,hi.prot,fun i o ho=>hi.obj i o (hs i o ho),fun i j o o' g h1 h2 h3 h4=>hi.inj i j o o' g (hs i o h1) (hs j o' h2) h3 h4⟩ hf
end Go.Abs
namespace Go.Abs
section
variable {j k:Nat}
theorem Q7l:∀i:Id,isO i->toO j k i=i
 |.o _,_=>rfl
 |.l _,h=>h.elim
mutual
theorem AC.sub_o:∀c:AC,c.ids isO->c.sub (toO j k)=c
 |.lit _,_=>rfl
 |.any,_=>rfl
 |.sl s es,h=>by simp only[AC.ids]at h;simp only[AC.sub];rw[Qbv es h]
 |.box cs,h=>by simp only[AC.ids]at h;simp only[AC.sub];rw[Q6x cs h]
 |.ptr i off,h=>by simp only[AC.ids]at h;simp only[AC.sub];rw[Q7l i h]
 |.gs s es i,h=>by simp only[AC.ids]at h;simp only[AC.sub];rw[Q7l i h.1,Qbv es h.2]
 |.arr i s off len cap,h=>by simp only[AC.ids]at h;simp only[AC.sub];rw[Q7l i h]
 |.mp i,h=>by simp only[AC.ids]at h;simp only[AC.sub];rw[Q7l i h]
 |.fn f a b,h=>by simp only[AC.ids]at h;simp only[AC.sub];rw[Q6x a h.1,Q6x b h.2]
 |.ifc t ag cs,h=>by simp only[AC.ids]at h;simp only[AC.sub];rw[Q6x cs h]
theorem Qbv:∀es:List (List AC),idsS isO es->subS (toO j k) es=es
 |[],_=>rfl
 |e::es,h=>by simp only[idsS]at h;simp only[subS];rw[Q6x e h.1,Qbv es h.2]
theorem Q6x:∀cs:List AC,idsL isO cs->subL (toO j k) cs=cs
 |[],_=>rfl
 |c::cs,h=>by simp only[idsL]at h;simp only[subL];rw[AC.sub_o c h.1,Q6x cs h.2]
end
mutual
theorem FV.sub_o:∀x:FV,x.ids isO->x.sub (toO j k)=x
 |.bot,_=>rfl
 |.one c,h=>by simp only[FV.ids]at h;simp only[FV.sub];rw[AC.sub_o c h]
 |.agg cs,h=>by simp only[FV.ids]at h;simp only[FV.sub];rw[Q6x cs h]
 |.tup vs,h=>by simp only[FV.ids]at h;simp only[FV.sub];rw[subF_o vs h]
theorem subF_o:∀vs:List FV,idsF isO vs->subF (toO j k) vs=vs
 |[],_=>rfl
 |v::vs,h=>by simp only[idsF]at h;simp only[subF];rw[FV.sub_o v h.1,subF_o vs h.2]
end
theorem AObj.sub_o(o:AObj)(h:o.ids isO):o.sub (toO j k)=o:=by
 cases o with
 |cells cs=>simp only[AObj.sub];rw[Q6x cs h]
 |map ck es=>
  simp only[AObj.sub]
  congr 1
  rw[List.map_congr_left (g:=id),List.map_id]
  intro x hx
  have:=h x hx
  obtain⟨a,b,c⟩:=x
  simp only[FV.sub_o c this,id]
 |iter m a b d=>simp only[AObj.sub];rw[Q7l m h]
 |sit s q=>rfl
 |tok e s u=>rfl
 |dead=>rfl
end
theorem AFn.fin'{E:Env}{fn:Func}{fr:Fr}{σ:St}{Q:FV->Outer->Prop}{r r':FV}(h:aRes E.T fr σ fn.results.toList=some r)(hw:WkF r r')(hi:r'.ids isO)(ho:OuOk σ.ou)(hq:Q r' σ.ou):Fin E fn Q fr σ:=⟨r,r',h,hw,hi,ho,hq⟩
end Go.Abs
namespace Go.Abs
open Go.Sort
abbrev iC (n:Int):List AC:=[.lit (.int .i64 n)]
theorem Qdt:∀l:List Int,(l.map iC).flatten=l.map fun n=>AC.lit (.int .i64 n)
 |[]=>rfl
 |n::l=>by simp[Qdt l]
theorem RV.ints{w:World}{C:Ctx}:∀{l:List Int}{cs:List AC}{xs:List Value},RV w C ((l.map fun n=>AC.lit (.int .i64 n))++cs) xs->xs=l.map (Value.int .i64)++xs.drop l.length/\RV w C cs (xs.drop l.length)
 |[],cs,xs,h=>⟨by simp,by simpa using h⟩
 |n::l,cs,xs,h=>by
  simp only[List.map_cons,List.cons_append,RV]at h
  obtain⟨v,ys,rfl,h1,h2⟩:=h
  simp only[R]at h1
  obtain⟨h3,h4⟩:=RV.ints h2
  refine⟨?_,by simpa using h4⟩
  simp only[List.map_cons,List.length_cons,List.drop_succ_cons,List.cons_append]
  rw[←h3,h1.1]
theorem RV.ofInts{w:World}{C:Ctx}:∀(l:List Int){cs:List AC}{xs:List Value},RV w C cs xs->RV w C ((l.map fun n=>AC.lit (.int .i64 n))++cs) (l.map (Value.int .i64)++xs)
 |[],cs,xs,h=>by simpa using h
 |n::l,cs,xs,h=>by
  simp only[List.map_cons,List.cons_append,RV]
  exact⟨_,_,rfl,by simp[R,Value.oneCell'],RV.ofInts l h⟩
theorem Q95(d:List Int)(xs:List Value)(h:d.length<=xs.length):putCells (Value.int .i64) 0 d.toArray xs.toArray=(d.map (Value.int .i64)++xs.drop d.length).toArray:=by
 apply Array.ext_getElem?
 intro k
 unfold putCells
 rw[Array.getElem?_mapIdx]
 simp only[List.getElem?_toArray,List.size_toArray,Nat.zero_le,true_and,Nat.zero_add,Nat.sub_zero]
 by_cases hk:k < d.length
 ·rw[List.getElem?_append_left (by simpa using hk)]
  have hx:k < xs.length:=by omega
  simp[List.getElem?_eq_getElem hx,hk]
 ·rw[List.getElem?_append_right (by simp;omega)]
  simp only[List.length_map,List.getElem?_drop]
  rw[show d.length+(k - d.length)=k by omega]
  simp[hk]
theorem AOps.sortI{E:Env}{ops:Array Oper}{rest:List Oper}{o:Oper}{K:Cont}{fr:Fr}{σ:St}{d:Nat}{f:Operand}{args:Array Operand}{tys:Array TypeId}{g:Nat}{i:Id}{l:List Int}{cap:Nat}(hgd:o.guard=none)(hdst:o.dst=some d)(hd:Nat.ble (d+1) E.N=true)
  (ho : o.op = .call { callee := .value f, args := args, argTypes := tys }) (hf : aEval E.Γ fr f = some (.one (.fn (.func g) [] []))) (hargs : Q2p E.Γ fr args.toList = some [.one (.arr i 1 0 l.length cap)])
  (hcf : ∀ us (w : World), (callFunc g us).run E.P w = .ok (.enter g us) w)
  (hc : ∀ (blk off cap : Nat) (zs : List Int) (w : World), Holds (Value.int .i64) w blk off zs.toArray -> blk < w.heap.size -> zs.length < 4611686018427387904 -> Calls E.P g #[.slice (some ⟨blk, off, none⟩) zs.length cap] w fun e w' =>
   e=.returned (.tuple #[])/\∃n os,w'=grow (putRow (Value.int .i64) (Sort.ahead w n) blk off (zs.mergeSort fun x y=>decide (x<=y)).toArray) os)
  (hg:σ.get i=some (.cells (vec 1 (l.map iC) cap))) (hlen:l.length < 4611686018427387904)
  (h:AOps E ops rest K ((d,.tup [])::fr) (σ.set i (.cells (vec 1 ((l.mergeSort fun x y=>decide (x<=y)).map iC) cap)))):AOps E ops (o::rest) K fr σ:=by
 intro F w0 C0 w C tmps hgo hi hfr
 refine wpList_plain hgd fun N' hN=>?_
 have hcallee:=Q01 (a:=⟨tmps,E.ds⟩) hi hfr hf
 simp only[RF,R]at hcallee
 obtain⟨xs,ys,hfv,hx,hy⟩:=hcallee
 simp only[RV]at hx hy
 subst hx;subst hy
 have hvs:=Q2x (a:=⟨tmps,E.ds⟩) hi hfr hargs
 simp only[RFs,RF,R]at hvs
 obtain⟨v,us,hv,⟨hok,hv2,hcapl⟩,hus⟩:=hvs
 subst hus
 rw[hv2]at hv
 simp only[Nat.zero_mul]at hv
 obtain⟨hok',zs,T,b1,b2,b3,b4⟩:=hi.obj i _ hg
 have hzs:=b3
 unfold vec at hzs
 rw[Qdt]at hzs
 obtain⟨hz1,hz2⟩:=RV.ints hzs
 have hzl:l.length<=zs.length:=by rw[hz1];simp
 have hcell:∀j:Nat,w.cell? ⟨C.blk i,j,none⟩=zs[j]?:=fun j=>by rw[cell_of_row _ _ _ _ _ _ b1];simp
 have hH:Holds (Value.int .i64) w (C.blk i) 0 l.toArray:=fun j hj=>by
  have hj':j < l.length:=by simpa using hj
  refine⟨?_,?_⟩
  ·rw[Nat.zero_add,hcell,hz1,List.getElem?_append_left (by simpa using hj')]
   simp[hj']
  ·simp[World.frozen?,b1]
 have hblk:C.blk i < w.heap.size:=Q0b b1
 have hrun:(execOp (Act.eval ⟨tmps,E.ds⟩) o).run E.P w=.ok (.enter g #[.slice (some ⟨C.blk i,0,none⟩) l.length cap]) w:=by
  unfold execOp
  simp only[ho,resolve,Sem.run_bind,hfv,Deferred.ofValue,Sem.run_pure,Result.andThen_ok,invoke,hcf]
  congr 2
  apply Array.ext'
  simpa using hv
 unfold Oper.wp
 rw[hrun,Oper.upon_enter]
 refine (hc (C.blk i) 0 cap l w hH hblk hlen).mono fun e w' ⟨he,n,os,hw'⟩=>?_
 subst he
 subst hw'
 obtain⟨l',hl'⟩:∃l',l'=(l.mergeSort fun x y=>decide (x<=y)):=⟨_,rfl⟩
 rw[←hl']at h ⊢
 have hll:l'.length=l.length:=by rw[hl'];simp
 -- the row, turned
 have hsz:(putRow (Value.int .i64) (Sort.ahead w n) (C.blk i) 0 l'.toArray).heap.size=w.heap.size:=by simp[Sort.ahead]
 have hoth:∀k,k≠C.blk i->(putRow (Value.int .i64) (Sort.ahead w n) (C.blk i) 0 l'.toArray).heap[k]?=w.heap[k]?:=fun k hk=>by
  unfold putRow mapBlock
  show (w.heap.modify _ _)[k]?=_
  rw[Array.getElem?_modify,if_neg (Ne.symm hk)]
 have hat:(putRow (Value.int .i64) (Sort.ahead w n) (C.blk i) 0 l'.toArray).heap[C.blk i]?=some (.cells (l'.map (Value.int .i64)++zs.drop l.length).toArray T (0,0)):=by
  unfold putRow mapBlock
  show (w.heap.modify _ _)[C.blk i]?=_
  rw[Array.getElem?_modify,if_pos rfl,b1]
  simp only[Option.map_some,onCells]
  rw[Q95 l' zs (by omega),hll]
 obtain⟨he1,hi1⟩:=hi.turn (o':=.cells (vec 1 (l'.map iC) cap)) hg (show AObj.block C i (.cells _)=some (C.blk i)from rfl) hsz hoth (fun a ha hp=>absurd hp (b4 a ha)) rfl fun he=>by
  refine⟨_,T,hat,b2,?_,b4⟩
  unfold vec
  rw[Qdt]
  have hcl:(l'.map iC).length=(l.map iC).length:=by simp[hll]
  rw[hcl]
  exact RV.ofInts l' (hz2.ext he)
 have hsz2:(putRow (Value.int .i64) (Sort.ahead w n) (C.blk i) 0 l'.toArray).heap.size<=(grow (putRow (Value.int .i64) (Sort.ahead w n) (C.blk i) 0 l'.toArray) os).heap.size:=by simp[grow]
 have hold:∀k,k < (putRow (Value.int .i64) (Sort.ahead w n) (C.blk i) 0 l'.toArray).heap.size->(grow (putRow (Value.int .i64) (Sort.ahead w n) (C.blk i) 0 l'.toArray) os).heap[k]?=(putRow (Value.int .i64) (Sort.ahead w n) (C.blk i) 0 l'.toArray).heap[k]?:=fun k hk=>by
  show (_++os)[k]?=_
  rw[Array.getElem?_append_left hk]
 obtain⟨he2,hi2⟩:=hi1.grown hsz2 hold
 have hstp:Stp F w (grow (putRow (Value.int .i64) (Sort.ahead w n) (C.blk i) 0 l'.toArray) os):=by
  refine⟨rfl,rfl,rfl,by rw[←hsz];exact hsz2,fun k hk=>?_,fun a ha=>?_⟩
  ·have hk2:=hi.base k hk
   rw[hold k (by rw[hsz];exact hk2),hoth k (fun e=>b2 (e▸hk))]
  ·have h1:World.frozen? (grow (putRow (Value.int .i64) (Sort.ahead w n) (C.blk i) 0 l'.toArray) os) a=World.frozen? (putRow (Value.int .i64) (Sort.ahead w n) (C.blk i) 0 l'.toArray) a:=by
    unfold World.frozen?
    rw[hold a.block (by rw[hsz];exact ha)]
   rw[h1,frozen?_putRow];rfl
 refine hN _ _ ?_
 rw[Q37]
 have hext:=he1.trans he2
 rw[hdst]
 exact h F w0 C0 _ C _ (hgo.trans ⟨hstp,hext.weaken (fun _ _=>trivial),Nat.le_refl _,NewP.refl _ _⟩) hi2 (Q2j (dst:=some d) (hfr.ext hext) hd (by simp only[RF,RFs];exact⟨[],rfl,rfl⟩))
end Go.Abs
namespace Go.Abs
theorem AOps.freezeArr{E:Env}{ops:Array Oper}{l:List Oper}{K:Cont}{fr:Fr}{σ:St}(i:Id)(d:Nat){s cap:Nat}{es:List (List AC)}(hg:σ.get i=some (.cells (vec s es cap)))(hl:∀x∈es,x.length=s)(hd:Fr.get d fr=some (.one (.arr i s 0 es.length cap)))
  (h:AOps E ops l K ((d,.one (.sl s es))::fr) (σ.set i .dead)):AOps E ops l K fr σ:=by
 intro F w0 C0 w C tmps hgo hi hf
 obtain⟨h1,h2,h3⟩:=Q8h hi hf hg (fr':=[]) trivial
 obtain⟨hok,zs,T,b1,b2,b3,b4⟩:=hi.obj i _ hg
 refine h F w0 C0 w _ tmps (hgo.trans h1.toO) h2 ⟨hf.1,fun k x hk=>?_⟩
 simp only[Fr.get]at hk
 by_cases e:d=k
 ·subst e
  simp at hk
  subst hk
  obtain⟨u,hu,hr⟩:=hf.2 d _ hd
  simp only[RF,R,Nat.zero_mul]at hr
  refine⟨u,hu,some ⟨C.blk i,0,none⟩,cap,hr.2.1,hr.2.2,.inr ⟨_,rfl,rfl,?_⟩⟩
  have hfl:=Q42 hl
  have hzl:=RV.length b3
  have hv:RV w (C.froze (C.blk i)) es.flatten (zs.take (es.length * s)):=by
   have:=(b3.take (es.length * s)).ext h1.chg
   rwa [vec,List.take_append_of_le_length (by omega),List.take_of_length_le (by omega)]at this
  refine RS.ofVals 0 hl hv fun j v hj=>⟨?_,.inr rfl⟩
  have h2:j < es.length * s:=by have:=(List.getElem?_eq_some_iff.1 hj).1;simp at this;omega
  rw[List.getElem?_take_of_lt h2]at hj
  rw[Nat.zero_add,cell_of_row _ _ _ _ _ _ b1]
  simpa using hj
 ·rw[Q09 e]at hk
  obtain⟨u,hu,hr⟩:=hf.2 k x hk
  exact⟨u,hu,hr.ext h1.chg⟩
theorem AOps.callNo{E:Env}{ops:Array Oper}{rest:List Oper}{o:Oper}{K:Cont}{fr:Fr}{σ:St}{d:Nat}{f:Operand}{args:Array Operand}{tys:Array TypeId}{g:Nat}{u:Value}(hgd:o.guard=none)(hdst:o.dst=some d)(hd:Nat.ble (d+1) E.N=true)
  (ho:o.op=.call { callee:=.value f,args:=args,argTypes:=tys }) (hf:aEval E.Γ fr f=some (.one (.fn (.func g) [] []))) (hargs:Q2p E.Γ fr args.toList=some [.one (.lit u)])
  (hcf:∀us (w:World),(callFunc g us).run E.P w=.ok (.enter g us) w) (hc:∀w:World,Calls E.P g #[u] w fun e w'=>e=.returned (.tuple #[])/\w'=w)
  (h:AOps E ops rest K ((d,.tup [])::fr) σ):AOps E ops (o::rest) K fr σ:=by
 intro F w0 C0 w C tmps hgo hi hfr
 refine wpList_plain hgd fun N' hN=>?_
 have hcallee:=Q01 (a:=⟨tmps,E.ds⟩) hi hfr hf
 simp only[RF,R]at hcallee
 obtain⟨xs,ys,hfv,hx,hy⟩:=hcallee
 simp only[RV]at hx hy
 subst hx;subst hy
 have hvs:=Q2x (a:=⟨tmps,E.ds⟩) hi hfr hargs
 simp only[RFs,RF,R]at hvs
 obtain⟨v,us,hv,⟨hv2,_⟩,hus⟩:=hvs
 subst hus
 rw[hv2]at hv
 have hrun:(execOp (Act.eval ⟨tmps,E.ds⟩) o).run E.P w=.ok (.enter g #[u]) w:=by
  unfold execOp
  simp only[ho,resolve,Sem.run_bind,hfv,Deferred.ofValue,Sem.run_pure,Result.andThen_ok,invoke,hcf]
  congr 2
  apply Array.ext'
  simpa using hv
 unfold Oper.wp
 rw[hrun,Oper.upon_enter]
 refine (hc w).mono fun e w' ⟨he,hw'⟩=>?_
 subst he
 subst hw'
 refine hN _ _ ?_
 rw[Q37]
 rw[hdst]
 exact h F w0 C0 w' C _ hgo hi (Q2j (dst:=some d) hfr hd (by simp only[RF,RFs];exact⟨[],rfl,rfl⟩))
end Go.Abs
namespace Go.Abs
def Ctx.still (C:Ctx)(w:World):Ctx:=⟨fun a=>a.block < w.heap.size,0,C.no,C.phi,C.tk⟩
def LendFs (σ:St)(xs ys:List FV):Prop:=∀(Γ:List (Nat×List AC))(F:Nat->Prop)(w:World)(C:Ctx)(vs:List Value),Inv Γ F w C σ->RFs w C xs vs->RFs w (C.still w) ys vs
theorem LendFs.nil{σ:St}:LendFs σ [] []:=fun _ _ _ _ _ _ h=>h
def Plain (r:FV):Prop:=∀(w w':World)(C C':Ctx)(v:Value),RF w C r v->RF w' C' r v
theorem Plain.lit(u:Value):Plain (.one (.lit u)):=fun w w' C C' v h=>by simpa only [RF,R]using h
end Go.Abs
namespace Go.Abs
section
variable {E:Env}{o:Oper}{fr:Fr}{σ:St}
end
section
variable {Γ:List (Nat×List AC)}{F:Nat->Prop}{w:World}{C:Ctx}{σ:St}
end
end Go.Abs
