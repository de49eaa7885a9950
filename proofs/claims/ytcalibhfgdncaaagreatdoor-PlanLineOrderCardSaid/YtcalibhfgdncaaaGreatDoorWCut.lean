/- strings.Cut at a separator of any length: its contract over the engine. -/
import Derived.Test.YtcalibhfgdncaaaGreatDoorWIdx
set_option linter.all false
namespace Go.Proofs.YtcalibhfgdncaaaGreatDoor
open Go.Dc Go.RowKit
def aa0(s t:Str):Option (Str×Str×Bool):=
 if s.l.length<4294967281 then some (⟨(Lib.cut s.l t.l).1⟩,⟨(Lib.cut s.l t.l).2.1⟩,(Lib.cut s.l t.l).2.2) else none
theorem awE(S:aW)(w:World)(s0:Str)(qh:Str)(y:Str×Str×Bool)(hM:aa0 s0 qh=some y)(_hS:∀k,S k→k<w.heap.size)(hg:(lY 2).φ S w):
  Calls Tryz.prog 153 #[.string s0.ba,.string qh.ba] w (bM w (.tuple #[.string y.1.ba,.string y.2.1.ba,.bool y.2.2])):=by
 obtain⟨_,m,hm⟩:=hg
 unfold aa0 at hM
 split at hM
 ·rename_i hl
  obtain rfl:=Option.some.inj hM
  refine (Tryz.strings_Cut s0.ba qh.ba m w (by rw[Str.F5];exact hl) hm).mono ?_
  rintro e w' ⟨rfl,n,rfl⟩
  exact⟨rfl,⟨rfl,rfl,rfl,Nat.le_refl _,fun _ _=>rfl⟩⟩
 ·cases hM
theorem anI{w:World}(h:w.ShapedOpen Tryz.prog):(lY 2).φ (fun k=>k<w.heap.size) w:=
 let ⟨m,hm⟩:=Tryz.laysM145.s1_3 w h
 ⟨World.block_lt_of_cell? _ _ hm,m,hm⟩
end Go.Proofs.YtcalibhfgdncaaaGreatDoor
