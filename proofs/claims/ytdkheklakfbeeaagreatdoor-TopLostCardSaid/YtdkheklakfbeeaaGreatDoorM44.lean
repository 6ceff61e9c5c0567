/- With whatever disks dead, each Read of the test's volume tells what was written, or that it is lost; what can't be synced waits still: TopLost is true of every input, the five listed tables as the program's text lays them. -/
import Derived.Test.YtdkheklakfbeeaaGreatDoorCards
import Derived.Test.YtdkheklakfbeeaaGreatDoorTie
import Derived.SevenTiedAt
import Derived.Test.YtdkheklakfbeeaaGreatDoorM43
set_option linter.all false
set_option maxRecDepth 100000
set_option maxHeartbeats 16000000
section
open Go.Proofs.Tryz
namespace Go.Proofs.YtdkheklakfbeeaaGreatDoor.lawTopLost
open Go.ChangeShapes Go.WideShapes Go.ChangeAt Go.RowKit
theorem proved:Rows.TopLostCardSaid :=
 Claim7.holds_tied_plain_at .later [] [.data,.data,.widerDeep,.data,.data] true (true,"0d98da8ab76e0b27464a6a49c77c299958157883d428431ae47bf2de1f79fb92") false
  row (fun _ h=>by cases h) (by kernel_rfl) (fun _ h=>by cases h) topLost_row_tie rfl ⟨rfl,rfl⟩ (by kernel_rfl) rfl
  (fun f fn hf Nu=>by
   obtain rfl:f=3:=Option.some.inj ((show prog.funcNamed "cofferdam/cofferdamtop.TopLost" = some 3 by kernel_rfl).symm.trans hf) |>.symm
   obtain rfl:fn=Tryz.f3:=(Option.some.inj (func3.symm.trans Nu)).symm
   exact ⟨by kernel_rfl,fun j t ht=>by
    rw[Tryz.params3] at ht
    have hm:t∈[22,23,24]:=by simpa using Array.mem_of_getElem? ht
    have aD:([22,23,24].all fun u=>!prog.wantsStandIn u)=true:=by kernel_rfl
    exact (show prog.wantsStandIn t=false by simpa using List.all_eq_true.1 aD t hm)⟩)
  (by kernel_rfl)
#print axioms proved
end Go.Proofs.YtdkheklakfbeeaaGreatDoor.lawTopLost
end
