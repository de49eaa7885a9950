import Derived.Test.YtlbfmjolchehbaaGreatDoorMoh
set_option linter.all false
namespace Go.Z
open Go Go.Proofs Go.Dc Go.R
set_option maxRecDepth 100000
noncomputable section
abbrev MK:=Option (List Word×Bool)
abbrev V3:=List Word×Int
def aEQ:Nat->Option (List R.Item):=λi=>match i with|11=>some [⟨[6],.o (.st 24)⟩,⟨[7],.v (.int .i64)⟩,⟨[17],.v (.int .i64)⟩]|30=>some [⟨[6],.o (.st 24)⟩,⟨[7],.v (.int .i64)⟩]|32=>some [⟨[6],.o (.st 24)⟩,⟨[7],.v (.int .i64)⟩]|_=>none
def arb(p:Str×Int)(e:Str×Str×Bool)(h:V3->MK)(g:List Word×Int×Int->MK)(a:List Word×Int×Int):MK:=if decide (a.2.2<(e.1.1.length:Int)) then au (λ(f:V3)=>ah (aj (a.2.2+1))<|g (f.1,f.2,a.2.2+1)) λd=>(fq e.1 a.2.2).bind λi=>(rz i).bind λb=>if decide (b=4) then if decide (a.2.1<0) then d (a.1,a.2.2) else d (a.1,a.2.1) else if decide (b=1) then if decide (a.2.1<0) then d (a.1,-1) else (mX e.1 a.2.1 a.2.2).bind λc=>ah (aj (a.2.1+1))<|ah (aS 32 (a.1++[Word.mk c p.2 (a.2.1+1)]).length)<|d (a.1++[Word.mk c p.2 (a.2.1+1)],-1) else some ([],false) else h (a.1,a.2.1)
def L9(p:Str×Int):MK:=(DV (p.1,Str.mk [35])).bind λb=>au (λ(a:V3)=>if decide (a.2<0) then some (a.1,true) else (mX b.1 a.2 (b.1.1.length:Int)).bind λc=>ah (aj (a.2+1))<|ah (aS 32 (a.1++[Word.mk c p.2 (a.2+1)]).length)<|some (a.1++[Word.mk c p.2 (a.2+1)],true)) λd=>iter (arb p b d) FUEL ([],-1,0)
def c146:aN Zτ.S:=⟨[.str,.int .i64],[.list (.st 24),.bool],L9⟩
theorem atD:FZ Z.P Zτ 146 c146:=aT (C:=Z) (wr:=false) (T:=(aI [(220,Xq),(216,Xp)])) (I:=(aJ [(221,alo)])) (sp:=aEQ) (aG.get (.cons agB (.cons agA .nil))) (aH.get (.cons aAX .nil)) λp=>by kernel_rfl
end
end Go.Z
