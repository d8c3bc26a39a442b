import Derived.Test.YtlihkblppjgebaaGreatDoorZAa
set_option linter.all false
set_option maxRecDepth 100000
set_option maxHeartbeats 0
namespace Go.Proofs.YtlihkblppjgebaaGreatDoor
open Go.RowKit Go.Proofs.Tryz
def e5(op:Int):Bool×Bool×Bool×Bool:=
 if op=3∨op=4∨op=5∨op=6∨op=7∨op=8∨op=9∨op=10∨op=11∨op=21∨op=32 then(true,true,true,true)
 else if op=24∨op=25∨op=26∨op=27∨op=48 then(true,true,true,false)
 else if op=2∨op=23∨op=49∨op=50∨op=47∨op=39∨op=54 then(true,true,false,false)
 else if op=17∨op=18∨op=19∨op=20∨op=31∨op=43∨op=45 then(true,true,false,true)
 else if op=1∨op=13∨op=14 then(true,false,false,true)
 else if op=12∨op=15∨op=22 then(false,false,false,true)
 else if op=28∨op=29∨op=30∨op=34∨op=35∨op=36∨op=37∨op=38∨op=40∨op=41∨op=42∨op=44∨op=46∨op=51∨op=52∨op=53∨op=57 then(true,false,false,false)
 else(false,false,false,false)
def BL(p:Bool×Bool×Bool×Bool)(w:World)(e:Ending)(w':World):Prop:=
 e=.returned (.tuple #[.bool p.1,.bool p.2.1,.bool p.2.2.1,.bool p.2.2.2])/\w=w'
theorem BL.mk{p:Bool×Bool×Bool×Bool}{a b c d:Bool}{w:World}(h:p=(a,b,c,d)):BL p w (.returned (.tuple #[.bool a,.bool b,.bool c,.bool d])) w:=by subst h;exact⟨rfl,rfl⟩
theorem du{a:Func}{t u r s:Tmp}(h:a.results=#[.tmp t,.tmp u,.tmp r,.tmp s])(tmps:Array Value)(P:Program)(w:World):
 (results a tmps).run P w=.ok (.tuple #[tmps.getD t undef,tmps.getD u undef,tmps.getD r undef,tmps.getD s undef]) w:=by
 simp[results,h]
set_option maxRecDepth 100000
theorem nB(op:Int)(w:World):Calls prog 218 #[op] w (BL (e5 op) w):=by
 go_wp2
 all_goals
  refine bodyPost_ret (du rfl _ _ _) rfl (BL.mk ?_);simp only[beq_iff_eq,beq_eq_false_iff_ne,ne_eq]at*;unfold e5
  repeat first
   |rfl
   |rw[if_pos (by omega)]
   |rw[if_neg (by omega)]
