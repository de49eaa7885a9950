/- strings.Index at a substring of one byte: its contract. -/
import Derived.Test.YtcalibhfgdncaaaGreatDoorTypes
import Derived.Test.YtcalibhfgdncaaaGreatDoorSh
set_option linter.all false
namespace Go.Proofs.YtcalibhfgdncaaaGreatDoor
open Go.Dc Go.RowKit
def U6(s t:Str):Option Int:=
 match t.l with
 |[c]=>some (Lib.indexByte s.l c)
 |_=>none
def apP(s t:Str):Option Int:=U6 s t
def abz(s t:Str):Option Int:=U6 s t
theorem ad6{s t:Str}{y:Int}(h:U6 s t=some y):∃c,t=⟨[c]⟩∧y=Lib.indexByte s.l c:=by
 unfold U6 at h
 split at h
 ·rename_i c e
  obtain⟨l⟩:=t
  simp only at e
  subst e
  exact⟨c,rfl,(Option.some.inj h).symm⟩
 ·cases h
theorem afW{P:Program}{f:FuncId}{args:Array Value}{w:World}{v:Value}(h:Calls P f args w fun e w'=>e= .returned v∧w'=w):Calls P f args w (cu w v):=
 h.mono fun e w' ⟨he,hw⟩=>by subst hw;exact⟨he,Below.refl _ _⟩
theorem apQ(S:bB)(w:World)(s0:Str)(Tp:Str)(y:Int)(hM:apP s0 Tp=some y)(_hS:∀k,S k→k<w.heap.size):
  Calls Tryz.prog 184 #[.string s0.ba,.string Tp.ba] w (cu w (.int .i64 y)):=by
 obtain⟨c,rfl,rfl⟩:=ad6 hM
 exact afW (Tryz.strings_Index_one s0.ba c w)
theorem apW(S:bB)(w:World)(s0:Str)(Tp:Str)(y:Int)(hM:abz s0 Tp=some y)(_hS:∀k,S k→k<w.heap.size):
  Calls Tryz.prog 196 #[.string s0.ba,.string Tp.ba] w (cu w (.int .i64 y)):=by
 obtain⟨c,rfl,rfl⟩:=ad6 hM
 exact afW (Tryz.stringslite_Index_one s0.ba c w)
end Go.Proofs.YtcalibhfgdncaaaGreatDoor
