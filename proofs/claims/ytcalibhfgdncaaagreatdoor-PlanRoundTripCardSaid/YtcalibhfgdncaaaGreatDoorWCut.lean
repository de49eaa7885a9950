/- strings.Cut at a separator of any length: its contract over the engine. -/
import Derived.Test.YtcalibhfgdncaaaGreatDoorWIdx
import Derived.Test.YtcalibhfgdncaaaGreatDoorDn
set_option linter.all false
namespace Go.Proofs.YtcalibhfgdncaaaGreatDoor
open Go.Dc Go.RowKit
def WR(s t:Str):Option (Str×Str×Bool):=
 if s.l.length<4294967281 then some (⟨(Lib.cut s.l t.l).1⟩,⟨(Lib.cut s.l t.l).2.1⟩,(Lib.cut s.l t.l).2.2) else none
theorem apM(S:bB)(w:World)(s0:Str)(pz:Str)(y:Str×Str×Bool)(hM:WR s0 pz=some y)(_hS:∀k,S k→k<w.heap.size)(hg:(kR 2).φ S w):
  Calls Tryz.prog 153 #[.string s0.ba,.string pz.ba] w (cu w (.tuple #[.string y.1.ba,.string y.2.1.ba,.bool y.2.2])):=by
 obtain⟨_,m,hm⟩:=hg
 unfold WR at hM
 split at hM
 ·rename_i hl
  obtain rfl:=Option.some.inj hM
  refine (Tryz.strings_Cut s0.ba pz.ba m w (by rw[Str.Eu];exact hl) hm).mono ?_
  rintro e w' ⟨rfl,n,rfl⟩
  exact⟨rfl,⟨rfl,rfl,rfl,Nat.le_refl _,fun _ _=>rfl⟩⟩
 ·cases hM
theorem ai8{w:World}(h:w.ShapedOpen Tryz.prog):(kR 2).φ (fun k=>k<w.heap.size) w:=
 let ⟨m,hm⟩:=Tryz.laysM145.s1_3 w h
 ⟨World.block_lt_of_cell? _ _ hm,m,hm⟩
end Go.Proofs.YtcalibhfgdncaaaGreatDoor
