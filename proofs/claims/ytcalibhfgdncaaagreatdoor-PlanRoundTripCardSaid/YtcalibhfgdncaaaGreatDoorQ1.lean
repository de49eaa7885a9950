/- Plain laws, the kit: options with a value of a kind, lists by number, sums. -/
import Derived.Test.YtcalibhfgdncaaaGreatDoorPk
import Derived.IntWalk
set_option linter.all false
namespace Go.Dc
def WP{α:Type}(o:Option α)(Q:α→Prop):Prop:=∃y,o=some y∧Q y
def gi(l:List Int)(i:Int):Int:=l.getD i.toNat 0
def gb(l:List Bool)(i:Int):Bool:=l.getD i.toNat false
def gll(l:List (List Int))(i:Int):List Int:=l.getD i.toNat []
theorem vR{α:Type}{y:α}{Q:α→Prop}(h:Q y):WP (some y) Q:=⟨y,rfl,h⟩
theorem ahh{α:Type}{o:Option α}{Q R:α→Prop}(h:WP o Q)(hq:∀y,Q y→R y):WP o R:=by
 obtain⟨y,h1,h2⟩:=h;exact⟨y,h1,hq y h2⟩
theorem wp_bind{α β:Type}{o:Option α}{K:α→Option β}{Q:β→Prop}(R:α→Prop)(h:WP o R)(hk:∀y,R y→WP (K y) Q):WP (o.bind K) Q:=by
 obtain⟨y,rfl,h2⟩:=h;exact hk y h2
theorem qZ{α:Type}{c:Bool}{k:Option α}{Q:α→Prop}(h:c=true)(hk:WP k Q):WP (bG c k) Q:=by subst h;exact hk
theorem jq{α:Type}{x:Int}{k:Option α}{Q:α→Prop}(h1: -9223372036854775808≤x∧x≤9223372036854775807)(hk:WP k Q):WP (bG (bW x) k) Q:=qZ (by simp[bW];omega) hk
theorem ahf{β:Type}{xs:List Int}{i:Int}{K:Int→Option β}{Q:β→Prop}(h:0≤i∧i<xs.length)(hk:WP (K (gi xs i)) Q):WP ((idx xs i).bind K) Q:=by
 have e:idx xs i=some (gi xs i):=by
  have:i.toNat<xs.length:=by omega
  simp[idx,h.1,gi,this]
 rw[e];exact hk
theorem wT{α:Type}{c:Bool}{a b:Option α}{Q:α→Prop}(h1:c=true→WP a Q)(h2:c=false→WP b Q):WP (if c then a else b) Q:=by
 cases c with
 |true=>exact h1 rfl
 |false=>exact h2 rfl
theorem Ec{σ β:Type}{B:(σ→Option β)→σ→Option β}(I:σ→Prop)(μ:σ→Nat)(Q:β→Prop)
  (h:∀c s,I s→(∀s',I s'→μ s'<μ s→WP (c s') Q)→WP (B c s) Q):∀n s,I s→μ s<n→WP (iter B n s) Q:=by
 intro n
 induction n with
 |zero=>intro s _ h;omega
 |succ n ih=>intro s hI hn;exact h _ s hI (fun s' hI' hlt=>ih s' hI' (by omega))
theorem iW{n:Nat}(h:n≤1000000000000000000):n<FUEL:=by
 have:FUEL=18446744073709551616:=rfl
 omega
theorem adb(l:List Bool)(i j:Int)(x:Bool)(hi:0≤i)(hj:0≤j)(hl:i<l.length):gb (l.set i.toNat x) j=if j=i then x else gb l j:=by
 unfold gb
 by_cases h:j=i
 ·subst h
  have:j.toNat<l.length:=by omega
  simp[this]
 ·have:i.toNat≠j.toNat:=by omega
  simp[h,List.getElem?_set_ne this]
theorem ai6(n:Nat)(x:Bool)(i:Int)(hi:0≤i)(h:i<n):gb (List.replicate n x) i=x:=by
 have:i.toNat<n:=by omega
 simp[gb,this]
end Go.Dc
