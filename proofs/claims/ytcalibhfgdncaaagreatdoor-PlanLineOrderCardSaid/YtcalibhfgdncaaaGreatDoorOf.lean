/- The places of the fields of the program's structs, for the steps that the goal's form decides. -/
import Derived.Test.YtcalibhfgdncaaaGreatDoorTypes
set_option linter.all false
namespace Go.Proofs.YtcalibhfgdncaaaGreatDoor
instance:Go.Dc.KD:=⟨fun s i=>match s,i with|76,1=>4|76,2=>5|104,1=>4|104,2=>12|104,3=>13|104,4=>14|158,1=>4|158,2=>12|_,i=>i,fun t=>match t with|26=>true|35=>true|56=>true|58=>true|71=>true|79=>true|81=>true|84=>true|86=>true|87=>true|90=>true|92=>true|94=>true|108=>true|183=>true|185=>true|191=>true|209=>true|254=>true|256=>true|269=>true|_=>false⟩
end Go.Proofs.YtcalibhfgdncaaaGreatDoor
