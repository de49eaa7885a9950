/- strings.Index at a substring of one byte: its contract. -/
import Derived.Test.YtcalibhfgdncaaaGreatDoorTypes
import Derived.Test.YtcalibhfgdncaaaGreatDoorSh
set_option linter.all false
namespace Go.Proofs.YtcalibhfgdncaaaGreatDoor
open Go.Dc Go.RowKit
def Y0(s t:Str):Option Int:=
 match t.l with
 |[c]=>some (Lib.indexByte s.l c)
 |_=>none
def awH(s t:Str):Option Int:=Y0 s t
def afK(s t:Str):Option Int:=Y0 s t
theorem ahL{s t:Str}{y:Int}(h:Y0 s t=some y):∃c,t=⟨[c]⟩∧y=Lib.indexByte s.l c:=by
 unfold Y0 at h
 split at h
 ·rename_i c e
  obtain⟨l⟩:=t
  simp only at e
  subst e
  exact⟨c,rfl,(Option.some.inj h).symm⟩
 ·cases h
theorem akd{P:Program}{f:FuncId}{args:Array Value}{w:World}{v:Value}(h:Calls P f args w fun e w'=>e= .returned v∧w'=w):Calls P f args w (bM w v):=
 h.mono fun e w' ⟨he,hw⟩=>by subst hw;exact⟨he,Below.refl _ _⟩
theorem awI(S:aW)(w:World)(s0:Str)(WT:Str)(y:Int)(hM:awH s0 WT=some y)(_hS:∀k,S k→k<w.heap.size):
  Calls Tryz.prog 184 #[.string s0.ba,.string WT.ba] w (bM w (.int .i64 y)):=by
 obtain⟨c,rfl,rfl⟩:=ahL hM
 exact akd (Tryz.strings_Index_one s0.ba c w)
theorem awO(S:aW)(w:World)(s0:Str)(WT:Str)(y:Int)(hM:afK s0 WT=some y)(_hS:∀k,S k→k<w.heap.size):
  Calls Tryz.prog 196 #[.string s0.ba,.string WT.ba] w (bM w (.int .i64 y)):=by
 obtain⟨c,rfl,rfl⟩:=ahL hM
 exact akd (Tryz.stringslite_Index_one s0.ba c w)
end Go.Proofs.YtcalibhfgdncaaaGreatDoor
