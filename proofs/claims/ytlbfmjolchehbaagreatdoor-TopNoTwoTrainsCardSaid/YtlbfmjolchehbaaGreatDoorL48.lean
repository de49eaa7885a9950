/- Plain theory: TopNoTwoTrains. -/
import Derived.Test.YtlbfmjolchehbaaGreatDoorPlh
import Derived.Test.YtlbfmjolchehbaaGreatDoorMoo
set_option linter.all false
namespace Go.Z
open Go Go.Proofs Go.Dc Go.R
instance s12{l:Layout}{p:Plan}{b:Int}:Spec (LH (l,p,b)) (1<=p.4.length) λy=>y.2.2.2=0->∃n,sS (l,p)=some (n,0)/\kQ n=some true/\kK n y.1.2/\rD n y.1.2:=⟨λw=>by
 unfold LH
 dsimp only
 refine D5 trivial λr d s=>aR (λh=>aD λe=>absurd e (by simpa using h)) λh0=>?_
 have m:r.2=0:=by simpa using h0
 obtain⟨n,e⟩:=r
 dsimp only at m
 subst m
 obtain⟨aU,run,C,a⟩:=s rfl
 have a:NB l p n aU run:=a
 dsimp only
 have c:n.2≠[]:=λe=>by
  obtain⟨f,q⟩:=a.bc
  have v:=q.pv.2.2.2.1 0 om om
  have h1:=q.ride (i:=0) (k:=0) ⟨om,om,om,om⟩
  have h2:=a.n2
  rw[e] at h2
  have:(([]:List Event).length:Int)=0:=rfl
  omega
 refine D5 trivial λA g hs=>aB (λh=>aP c λD _=>aR (λh2=>aD λe=>absurd e (by simpa using h2)) λ_=>aD λe=>absurd e (by dsimp only;decide)) λB=>aR (λh2=>aD λe=>absurd e (by simpa using h2)) λh2=>?_
 have o:A.2.2.2=0:=by simpa using h2
 obtain⟨_,x,u⟩:=hs o
 have t:=ava g o
 exact aP trivial λE z=>aP om λF j=>aP ⟨om,j.2⟩ λG _=>aD λ_=>⟨n,d,t,x,u⟩⟩
instance s11{a b:Str}:Spec (Lf (a,b)) True λy=>y.2.2=true->b=⟨[]⟩\/LB b.l->1<=y.2.1.4.length:=⟨λ_=>by
 unfold Lf
 exact aP trivial λd _=>aP trivial λe c=>aD λh=>c (by simp only[Bool.and_eq_true,decide_eq_true_eq] at h;exact h.2)⟩
instance s4{p:List Int}:Spec (TJ p) (p.length<=4611686018427387904) λy=>y.2.2.2=true->1<=y.2.1.4.length/\∃n,sS (y.1,y.2.1)=some (n,0)/\kQ n=some true/\kK n y.2.2.1.2/\rD n y.2.2.1.2:=⟨λhp=>by
 unfold TJ
 refine aP hp λd a=>aP trivial λf b=>aR (λh=>aD λe=>absurd e sm) λh=>?_
 have h1:=b (by simpa using h) (a.imp id arU)
 exact aP h1 λg c=>aD λe=>⟨h1,c (by simpa using e)⟩⟩
instance s8{l:Layout}:Spec (Sl l) True λy=>0<=y/\y<=1000:=⟨λ_=>by
 unfold Sl
 refine kW trivial (λv b=>aD dc) λa=>ak (aD om)⟩
theorem t5:adE PUnit.unit=some true:=by decide+kernel
theorem t3(p:List Int×Int)(hp:p.1.length<=4611686018427387904):TI p=some true:=by
 suffices WP (TI p) λb=>b=true by obtain⟨b,c,rfl⟩:=this;exact c
 unfold TI;refine aP hp λf e=>aR (λh=>?_) λh=>?_;·rw[t5];exact aD rfl
 ·obtain⟨h1,n,c,k,r,m⟩:=e (by simpa using h);refine wp_bind _ (aI6 c k r m h1) λI ⟨w,y,z,aU,run,W,a,j,t⟩=>aR (λh2=>?_) λ_=>?_
  ·simp only[Bool.or_eq_true,Bool.not_eq_true',decide_eq_false_iff_not,decide_eq_true_eq] at h2;rcases h2 with h2|h2;·exact absurd w h2
   ·exact absurd (List.length_eq_zero_iff.1 om) y
  ·obtain⟨o,q,_⟩:=KY a;obtain⟨s,hs,G,H⟩:=apf (v:=p.2) (n:=f.2.1.1) om;rw[hs,Option.bind_some];refine av (λ_=>True) (λ_ _=>aD rfl) λE d=>?_;obtain⟨R,i,u,F⟩:=(s8 (l:=f.1)).h trivial;refine wp_loop (λx=>0<=x/\x<=R) (λx=>(R-x).toNat) ⟨om,u⟩ om λB x ⟨C,D⟩ g=>?_;unfold apE;rw[i,Option.bind_some];exact aB (λh=>wp_bind _ (asV a j z t om) λA J=>aB (λh=>absurd h om) λ_=>ak (g _ ⟨om,om⟩ om)) λh=>d _ trivial
end Go.Z
