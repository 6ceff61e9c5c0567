/- All disks put back to what they had when the anchor had its count: the test's volume is mounted as it was; put back to an elder time: it is not; or two unlike texts that were summed have one sum: TopOld is true of every input, the five listed tables as the program's text lays them. -/
import Derived.Test.YtdkheklakfbeeaaGreatDoorCards
import Derived.Test.YtdkheklakfbeeaaGreatDoorTie
import Derived.SevenTiedAt
import Derived.Test.YtdkheklakfbeeaaGreatDoorM23
set_option linter.all false
set_option maxRecDepth 100000
set_option maxHeartbeats 16000000
section
open Go.Proofs.Tryz
namespace Go.Proofs.YtdkheklakfbeeaaGreatDoor.lawTopOld
open Go.ChangeShapes Go.WideShapes Go.ChangeAt Go.RowKit
theorem proved:Rows.TopOldCardSaid :=
 Claim7.holds_tied_plain_at .later [] [.data,.data,.widerDeep,.data,.data] true (true,"0d98da8ab76e0b27464a6a49c77c299958157883d428431ae47bf2de1f79fb92") false
  row (fun _ h=>by cases h) k_ (fun _ h=>by cases h) topOld_row_tie rfl ⟨rfl,rfl⟩ k_ rfl
  (fun f fn k g=>by
   obtain rfl:f=4:=Option.some.inj ((show prog.funcNamed "cofferdam/cofferdamtop.TopOld" = some 4 by kernel_rfl).symm.trans k) |>.symm
   obtain rfl:fn=Tryz.f4:=(Option.some.inj (func4.symm.trans g)).symm
   exact ⟨k_,fun j t e=>by
    rw[Tryz.params4] at e
    have hm:t∈[22,23,3]:=by simpa using Array.mem_of_getElem? e
    have i:([22,23,3].all fun u=>!prog.wantsStandIn u)=true:=k_
    exact (show prog.wantsStandIn t=false by simpa using List.all_eq_true.1 i t hm)⟩)
  k_
#print axioms proved
end Go.Proofs.YtdkheklakfbeeaaGreatDoor.lawTopOld
end
