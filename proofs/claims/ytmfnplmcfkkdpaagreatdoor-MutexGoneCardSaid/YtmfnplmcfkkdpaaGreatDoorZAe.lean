import Derived.Shelf.Small.Strs
import Derived.Shelf.Strings.Search1
import Derived.Shelf.Strings.Count
import Derived.Shelf.Strings.Prefix
import Derived.Shelf.Strings.Split
import Derived.Test.YtmfnplmcfkkdpaaGreatDoorProg
import Derived.Test.YtmfnplmcfkkdpaaGreatDoorZAa
set_option linter.all false
set_option maxRecDepth 100000
set_option maxHeartbeats 0
namespace Go.Proofs.YtmfnplmcfkkdpaaGreatDoor
open Go.RowKit Go.Proofs.Tryz
def e5(op:Int):Bool×Bool×Bool×Bool:=
 if op=3∨op=4∨op=5∨op=6∨op=7∨op=8∨op=9∨op=10∨op=11∨op=21∨op=32 then(true,true,true,true)
 else if op=24∨op=25∨op=26∨op=27∨op=48 then(true,true,true,false)
 else if op=2∨op=23∨op=49∨op=50∨op=47∨op=39∨op=54 then(true,true,false,false)
 else if op=17∨op=18∨op=19∨op=20∨op=31∨op=43∨op=45 then(true,true,false,true)
 else if op=1∨op=13∨op=14 then(true,false,false,true)
 else if op=12∨op=15∨op=22 then(false,false,false,true)
 else if op=28∨op=29∨op=30∨op=34∨op=35∨op=36∨op=37∨op=38∨op=40∨op=41∨op=42∨op=44∨op=46∨op=51∨op=52∨op=53∨op=57 then(true,false,false,false)
 else(false,false,false,false)
def BL(p:Bool×Bool×Bool×Bool)(w:World)(e:Ending)(w':World):Prop:=
 e=.returned (.tuple #[.bool p.1,.bool p.2.1,.bool p.2.2.1,.bool p.2.2.2])/\w=w'
theorem BL.mk{p:Bool×Bool×Bool×Bool}{a b c d:Bool}{w:World}(h:p=(a,b,c,d)):BL p w (.returned (.tuple #[.bool a,.bool b,.bool c,.bool d])) w:=by subst h;exact⟨rfl,rfl⟩
theorem du{a:Func}{t u r s:Tmp}(h:a.results=#[.tmp t,.tmp u,.tmp r,.tmp s])(tmps:Array Value)(P:Program)(w:World):
 (results a tmps).run P w=.ok (.tuple #[tmps.getD t undef,tmps.getD u undef,tmps.getD r undef,tmps.getD s undef]) w:=by
 simp[results,h]
set_option maxRecDepth 100000
theorem nB(op:Int)(w:World):Calls prog 163 #[op] w (BL (e5 op) w):=by
 go_wp2
 all_goals
  refine bodyPost_ret (du rfl _ _ _) rfl (BL.mk ?_);simp only[beq_iff_eq,beq_eq_false_iff_ne,ne_eq]at*;unfold e5
  repeat first
   |rfl
   |rw[if_pos (by omega)]
   |rw[if_neg (by omega)]
open Go.Shelf
def JR:Go.Shelf.Ren:=⟨fun|137=>161|217=>203|266=>222|n=>n,fun|9=>9|5=>5|3=>3|n=>n,fun|n=>n⟩
theorem La:Go.Proofs.Lays.n137 prog JR:={
 mixed:=by kernel_rfl
 f137:=func161.trans (congrArg some (by kernel_rfl))
 f217:=func203.trans (congrArg some (by kernel_rfl))
 f266:=func222.trans (congrArg some (by kernel_rfl))
 t3:=underlying3
 a3:=Tryz.isAgg3
 z3:=Tryz.sizeOf3
 v3:=Tryz.zeroValue3
 t5:=underlying5
 a5:=Tryz.isAgg5
 z5:=Tryz.sizeOf5
 v5:=Tryz.zeroValue5
 t9:=underlying9
 a9:=Tryz.isAgg9
 z9:=Tryz.sizeOf9
 v9:=Tryz.zeroValue9}
open Go.RowKit in
theorem Iq(s:ByteArray)(c:Int)(w:World):
 Calls prog 161 #[.string s,.int .u8 c] w fun e w'=>e=.returned (.int .i64 (Lib.indexByte s.data.toList c.toNat.toUInt8))/\w'=w:=Any.strings_IndexByte La s c w
def JS:Go.Shelf.Ren:=⟨fun|100=>166|207=>205|n=>n,fun|9=>9|4=>4|3=>3|n=>n,fun|n=>n⟩
theorem Lb:Go.Proofs.Lays.n100 prog JS:={
 mixed:=by kernel_rfl
 f100:=func166.trans (congrArg some (by kernel_rfl))
 f207:=func205.trans (congrArg some (by kernel_rfl))
 t3:=underlying3
 a3:=Tryz.isAgg3
 z3:=Tryz.sizeOf3
 v3:=Tryz.zeroValue3
 t4:=underlying4
 a4:=Tryz.isAgg4
 z4:=Tryz.sizeOf4
 v4:=Tryz.zeroValue4
 t9:=underlying9
 a9:=Tryz.isAgg9
 z9:=Tryz.sizeOf9
 v9:=Tryz.zeroValue9}
open Go.RowKit Go.Lib in
theorem I2(s p:ByteArray)(w:World)(a:s.size<=9223372036854775807):
 Calls prog 166 #[.string s,.string p] w fun e w'=>e=.returned (.bool (Lib.hasSuffix s.data.toList p.data.toList))/\w'=w:=Any.strings_HasSuffix Lb s p w a
def JT:Go.Shelf.Ren:=⟨fun|146=>70|221=>114|268=>158|138=>159|143=>160|195=>199|197=>200|218=>201|219=>202|260=>218|217=>203|225=>219|224=>220|267=>221|266=>222|314=>227|n=>n,fun|9=>9|31=>145|3=>3|4=>4|0=>0|105=>340|21=>21|5=>5|46=>88|119=>368|139=>371|138=>370|146=>373|51=>372|n=>n,fun|1=>1|3=>2|4=>3|n=>n⟩
theorem Lc:Go.Proofs.Lays.n146 prog JT:={
 mixed:=by kernel_rfl
 f138:=func159.trans (congrArg some (by kernel_rfl))
 f143:=func160.trans (congrArg some (by kernel_rfl))
 f146:=func70.trans (congrArg some (by kernel_rfl))
 f195:=func199.trans (congrArg some (by kernel_rfl))
 f197:=func200.trans (congrArg some (by kernel_rfl))
 f217:=func203.trans (congrArg some (by kernel_rfl))
 f218:=func201.trans (congrArg some (by kernel_rfl))
 f219:=func202.trans (congrArg some (by kernel_rfl))
 f221:=func114.trans (congrArg some (by kernel_rfl))
 f224:=func220.trans (congrArg some (by kernel_rfl))
 f225:=func219.trans (congrArg some (by kernel_rfl))
 f260:=func218.trans (congrArg some (by kernel_rfl))
 f266:=func222.trans (congrArg some (by kernel_rfl))
 f267:=func221.trans (congrArg some (by kernel_rfl))
 f268:=func158.trans (congrArg some (by kernel_rfl))
 f314:=func227.trans (congrArg some (by kernel_rfl))
 t0:=underlying0
 a0:=Tryz.isAgg0
 z0:=Tryz.sizeOf0
 v0:=Tryz.zeroValue0
 t3:=underlying3
 a3:=Tryz.isAgg3
 z3:=Tryz.sizeOf3
 v3:=Tryz.zeroValue3
 t4:=underlying4
 a4:=Tryz.isAgg4
 z4:=Tryz.sizeOf4
 v4:=Tryz.zeroValue4
 t5:=underlying5
 a5:=Tryz.isAgg5
 z5:=Tryz.sizeOf5
 v5:=Tryz.zeroValue5
 t9:=underlying9
 a9:=Tryz.isAgg9
 z9:=Tryz.sizeOf9
 v9:=Tryz.zeroValue9
 t21:=underlying21
 a21:=Tryz.isAgg21
 z21:=Tryz.sizeOf21
 v21:=Tryz.zeroValue21
 t31:=underlying145
 a31:=Tryz.isAgg145
 z31:=Tryz.sizeOf145
 v31:=Tryz.zeroValue145
 t46:=underlying88
 a46:=Tryz.isAgg88
 z46:=Tryz.sizeOf88
 v46:=Tryz.zeroValue88
 t51:=underlying372
 a51:=Tryz.isAgg372
 z51:=Tryz.sizeOf372
 v51:=Tryz.zeroValue372
 t105:=underlying340
 a105:=Tryz.isAgg340
 z105:=Tryz.sizeOf340
 v105:=Tryz.zeroValue340
 t119:=underlying368
 a119:=Tryz.isAgg368
 z119:=Tryz.sizeOf368
 t138:=underlying370
 a138:=Tryz.isAgg370
 z138:=Tryz.sizeOf370
 v138:=Tryz.zeroValue370
 t139:=underlying371
 a139:=Tryz.isAgg371
 z139:=Tryz.sizeOf371
 v139:=Tryz.zeroValue371
 t146:=underlying373
 a146:=Tryz.isAgg373
 z146:=Tryz.sizeOf373
 v146:=Tryz.zeroValue373
 g1:=by kernel_rfl
 g3:=by kernel_rfl
 g4:=by kernel_rfl}
open Go.RowKit Go.Lib in
theorem JA(s sep:ByteArray)(m:Int)(w:World)(c:s.size<4294967281)(b:w.cell? ⟨1,0,none⟩=some (.int .i64 m))(a:1<=sep.size):
 Calls prog 70 #[.string s,.string sep] w fun e w'=>
  e=.returned (.slice (some ⟨w.heap.size,0,none⟩) (Lib.countB s sep+1) (Lib.countB s sep+1))/\w'=w.alloc (.cells ((Lib.splitB sep 0 (Lib.countB s sep) s).map Value.string).toArray 9):=Any.strings_Split Lc (by kernel_rfl) s sep m w c b a
