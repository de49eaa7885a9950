/- Several parts of the engine, one behind the other. -/
import Derived.Test.YtlbfmjolchehbaaGreatDoorPlf
import Derived.Test.YtlbfmjolchehbaaGreatDoorMon
set_option linter.all false
namespace Go.Z
open Go Go.Proofs Go.Dc Go.R
abbrev VQ:=Int×Int×Bool×List bO×List bg×List Line×List Change×List Turn×List Sync×List dG
abbrev PSt:=Int×List Str×Int×Int×Bool×List bO×List bg×List Line×List Change×List Turn×List Sync×List dG×Int×List bO×List bg×List Line×List Change×List Turn×List Sync×List dG
def PS(i:Int)(y:VQ):Prop:=(y.2.2.2.1.length:Int)<=i/\(y.2.2.2.2.1.length:Int)<=i/\(y.2.2.2.2.2.1.length:Int)<=i/\(y.2.2.2.2.2.2.1.length:Int)<=i/\(y.2.2.2.2.2.2.2.1.length:Int)<=i/\(y.2.2.2.2.2.2.2.2.1.length:Int)<=i/\(y.2.2.2.2.2.2.2.2.2.length:Int)<=i/\All y.2.2.2.2.2.1 λl=>(l.4.length:Int)<=i
def asq(s:PSt):VQ:=(s.2.2.1,s.2.2.2.1,s.2.2.2.2.1,s.2.2.2.2.2.1,s.2.2.2.2.2.2.1,s.2.2.2.2.2.2.2.1,s.2.2.2.2.2.2.2.2.1,s.2.2.2.2.2.2.2.2.2.1,s.2.2.2.2.2.2.2.2.2.2.1,s.2.2.2.2.2.2.2.2.2.2.2.1)
def HL(rows:List (List Word))(i:Int):Prop:=∃j:Int,0<=j/\j<i/\(gi (gi rows j) 0).1=⟨LN⟩
def PI(rows:List (List Word))(s:PSt):Prop:=0<=s.1/\s.1<=rows.length/\PS s.1 (asq s)/\(HL rows s.1->1<=s.2.2.2.2.2.2.2.1.length)/\(s.1=0->s.2.2.2.1=0)
theorem aDE{Q:Plan×Int×Int->Prop}{ls:List Line}{n:Int}{k:Option (Plan×Int×Int)}{r:gL}(h:All ls λl=>(l.4.length:Int)<=n)(h1:1<=ls.length)(b:n<=65537)(a:WP k Q):WP (ah (aS 32 ((gi ls ((ls.length:Int)-1)).4++[r]).length) k) Q:=by have:=h ((ls.length:Int)-1) om om;exact aW a
section
variable {Q:Plan×Int×Int->Prop}
theorem aDk{c:Int×List Str×Int×Int×Bool×List bO×List bg×List Line×List Change×List Turn×List Sync×List dG×Int×List bO×List bg×List Line×List Change×List Turn×List Sync×List dG}{i:List Str}{B:Unit×Int}{j:Int×Int->Option (Plan×Int×Int)}{g:Unit->Option (Plan×Int×Int)}(h:All i λs=>s.l.length<=65536)(E:c.2.2.2.2.2.1.length<=65537)(k:∀x,True->WP (j x) Q)(m:∀x,True->WP (g x) Q):WP (iter (adh c i B j g) FUEL 0) Q:=by refine wp_loop (λx=>0<=x/\x<=c.2.2.2.2.2.1.length) (λx=>(c.2.2.2.2.2.1.length-x).toNat) ⟨om,om⟩ om λu xP ⟨F,G⟩ d=>?_;unfold adh;exact aB (λh1=>aA (aA (av (λy=>y.1.l.length<=65536) (λv n=>aB (λh2=>av (λ_=>True) (λD o=>k _ trivial) λC e=>av (λ_=>True) (λw p=>e _ trivial) λr a=>dW (λz=>a _ trivial) λz=>a _ trivial) λh2=>ak (d _ ⟨om,om⟩ om)) λt b=>aB (λA=>b _ sm) λA=>aO h λq=>aO h λf=>b _ f))) λh1=>m _ trivial
theorem aDl{c:Int×List Str×Int×Int×Bool×List bO×List bg×List Line×List Change×List Turn×List Sync×List dG×Int×List bO×List bg×List Line×List Change×List Turn×List Sync×List dG}{h:List Str}{D:Int×Int}{i:Int×Int->Option (Plan×Int×Int)}{j:Unit->Option (Plan×Int×Int)}(g:All h λs=>s.l.length<=65536)(E:c.2.2.2.2.2.2.2.1.length<=65537)(k:∀x,True->WP (i x) Q)(m:∀x,True->WP (j x) Q):WP (iter (adi c h D i j) FUEL 0) Q:=by refine wp_loop (λx=>0<=x/\x<=c.2.2.2.2.2.2.2.1.length) (λx=>(c.2.2.2.2.2.2.2.1.length-x).toNat) ⟨om,om⟩ om λv H ⟨F,G⟩ d=>?_;unfold adi;exact aB (λh1=>aA (aA (av (λy=>y.1.l.length<=65536) (λw n=>aB (λh2=>av (λ_=>True) (λr o=>k _ trivial) λA e=>av (λ_=>True) (λz p=>e _ trivial) λt a=>dW (λB=>a _ trivial) λB=>a _ trivial) λh2=>ak (d _ ⟨om,om⟩ om)) λu b=>aB (λC=>b _ sm) λC=>aO g λq=>aO g λf=>b _ f))) λh1=>m _ trivial
theorem aDm{c:Int×List Str×Int×Int×Bool×List bO×List bg×List Line×List Change×List Turn×List Sync×List dG×Int×List bO×List bg×List Line×List Change×List Turn×List Sync×List dG}{h:List Str}{B:(Int×Int)×Int}{i:Int×Int->Option (Plan×Int×Int)}{f:Unit->Option (Plan×Int×Int)}(g:All h λs=>s.l.length<=65536)(E:c.2.2.2.2.2.2.2.1.length<=65537)(j:∀x,True->WP (i x) Q)(k:∀x,True->WP (f x) Q):WP (iter (adj c h B i f) FUEL 0) Q:=by refine wp_loop (λx=>0<=x/\x<=c.2.2.2.2.2.2.2.1.length) (λx=>(c.2.2.2.2.2.2.2.1.length-x).toNat) ⟨om,om⟩ om λt H ⟨F,G⟩ d=>?_;unfold adj;exact aB (λh1=>aA (aA (av (λy=>y.1.l.length<=65536) (λu n=>aB (λh2=>av (λ_=>True) (λC w=>j _ trivial) λD m=>av (λ_=>True) (λv o=>m _ trivial) λq a=>dW (λz=>a _ trivial) λz=>a _ trivial) λh2=>ak (d _ ⟨om,om⟩ om)) λr b=>aB (λA=>b _ sm) λA=>aO g λp=>aO g λe=>b _ e))) λh1=>k _ trivial
theorem aDn{c:Int×List Str×Int×Int×Bool×List bO×List bg×List Line×List Change×List Turn×List Sync×List dG×Int×List bO×List bg×List Line×List Change×List Turn×List Sync×List dG}{i:List Str}{D:Int×Int}{j:Int×Int->Option (Plan×Int×Int)}{g:Unit->Option (Plan×Int×Int)}(h:All i λs=>s.l.length<=65536)(E:c.2.2.2.2.2.2.2.1.length<=65537)(k:∀x,True->WP (j x) Q)(m:∀x,True->WP (g x) Q):WP (iter (adk c i D j g) FUEL 0) Q:=by refine wp_loop (λx=>0<=x/\x<=c.2.2.2.2.2.2.2.1.length) (λx=>(c.2.2.2.2.2.2.2.1.length-x).toNat) ⟨om,om⟩ om λv xS ⟨F,G⟩ d=>?_;unfold adk;exact aB (λh1=>aA (aA (av (λy=>y.1.l.length<=65536) (λw n=>aB (λh2=>av (λ_=>True) (λu o=>k _ trivial) λA e=>av (λ_=>True) (λz p=>e _ trivial) λr b=>dW (λB=>b _ trivial) λB=>b _ trivial) λh2=>ak (d _ ⟨om,om⟩ om)) λt a=>aB (λC=>a _ sm) λC=>aO h λq=>aO h λf=>a _ f))) λh1=>m _ trivial
theorem aDo{c:Int×List Str×Int×Int×Bool×List bO×List bg×List Line×List Change×List Turn×List Sync×List dG×Int×List bO×List bg×List Line×List Change×List Turn×List Sync×List dG}{i:List Str}{C:(Int×Int)×Int}{j:Int×Int->Option (Plan×Int×Int)}{g:Unit->Option (Plan×Int×Int)}(h:All i λs=>s.l.length<=65536)(E:c.2.2.2.2.2.2.2.1.length<=65537)(k:∀x,True->WP (j x) Q)(m:∀x,True->WP (g x) Q):WP (iter (adl c i C j g) FUEL 0) Q:=by refine wp_loop (λx=>0<=x/\x<=c.2.2.2.2.2.2.2.1.length) (λx=>(c.2.2.2.2.2.2.2.1.length-x).toNat) ⟨om,om⟩ om λt H ⟨F,G⟩ d=>?_;unfold adl;exact aB (λh1=>aA (aA (av (λy=>y.1.l.length<=65536) (λu n=>aB (λh2=>av (λ_=>True) (λD o=>k _ trivial) λw e=>av (λ_=>True) (λv p=>e _ trivial) λq a=>dW (λA=>a _ trivial) λA=>a _ trivial) λh2=>ak (d _ ⟨om,om⟩ om)) λr b=>aB (λB=>b _ sm) λB=>aO h λz=>aO h λf=>b _ f))) λh1=>m _ trivial
theorem aDp{c:Int×List Str×Int×Int×Bool×List bO×List bg×List Line×List Change×List Turn×List Sync×List dG×Int×List bO×List bg×List Line×List Change×List Turn×List Sync×List dG}{i:List Str}{D:Int×Int}{j:Int×Int->Option (Plan×Int×Int)}{g:Unit->Option (Plan×Int×Int)}(h:All i λs=>s.l.length<=65536)(E:c.2.2.2.2.2.2.2.1.length<=65537)(k:∀x,True->WP (j x) Q)(m:∀x,True->WP (g x) Q):WP (iter (adn c i D j g) FUEL 0) Q:=by refine wp_loop (λx=>0<=x/\x<=c.2.2.2.2.2.2.2.1.length) (λx=>(c.2.2.2.2.2.2.2.1.length-x).toNat) ⟨om,om⟩ om λv H ⟨F,G⟩ d=>?_;unfold adn;exact aB (λh1=>aA (aA (av (λy=>y.1.l.length<=65536) (λw n=>aB (λh2=>av (λ_=>True) (λu o=>k _ trivial) λA e=>av (λ_=>True) (λz p=>e _ trivial) λr a=>dW (λB=>a _ trivial) λB=>a _ trivial) λh2=>ak (d _ ⟨om,om⟩ om)) λt b=>aB (λC=>b _ sm) λC=>aO h λq=>aO h λf=>b _ f))) λh1=>m _ trivial
theorem aDq{c:Int×List Str×Int×Int×Bool×List bO×List bg×List Line×List Change×List Turn×List Sync×List dG×Int×List bO×List bg×List Line×List Change×List Turn×List Sync×List dG}{i:List Str}{D:Unit×Int}{j:Int×Int->Option (Plan×Int×Int)}{g:Unit->Option (Plan×Int×Int)}(h:All i λs=>s.l.length<=65536)(F:c.2.2.2.2.2.2.2.1.length<=65537)(k:∀x,True->WP (j x) Q)(m:∀x,True->WP (g x) Q):WP (iter (ado c i D j g) FUEL 0) Q:=by refine wp_loop (λx=>0<=x/\x<=c.2.2.2.2.2.2.2.1.length) (λx=>(c.2.2.2.2.2.2.2.1.length-x).toNat) ⟨om,om⟩ om λv E ⟨G,H⟩ d=>?_;unfold ado;exact aB (λh1=>aA (aA (av (λy=>y.1.l.length<=65536) (λw n=>aB (λh2=>av (λ_=>True) (λu o=>k _ trivial) λA e=>av (λ_=>True) (λz p=>e _ trivial) λr a=>dW (λB=>a _ trivial) λB=>a _ trivial) λh2=>ak (d _ ⟨om,om⟩ om)) λt b=>aB (λC=>b _ sm) λC=>aO h λq=>aO h λf=>b _ f))) λh1=>m _ trivial
theorem p95{p:Layout×Str}{i:List Str}{g:Int×Int×List Step}{k:Int×Int->Option (Plan×Int×Int)}{j:Unit->Option (Plan×Int×Int)}(h:All i λs=>s.l.length<=65536)(D:p.1.3.length<=65537)(A:0<=g.1)(m:∀x,True->WP (k x) Q)(c:∀x,True->WP (j x) Q):WP (iter (adq p i g k j) FUEL 0) Q:=by refine wp_loop (λx=>0<=x/\x<=p.1.3.length) (λx=>(p.1.3.length-x).toNat) ⟨om,om⟩ om λC G ⟨E,F⟩ d=>?_;unfold adq;exact aB (λh1=>aA (av (λy=>y.1.l.length<=65536) (λB r=>aB (λh2=>av (λ_=>True) (λt n=>m _ trivial) λv e=>av (λ_=>True) (λu o=>e _ trivial) λH a=>dW (λw=>a _ trivial) λw=>a _ trivial) λh2=>ak (d _ ⟨om,om⟩ om)) λI b=>aB (λz=>b _ sm) λz=>aO h λq=>aO h λf=>b _ f)) λh1=>c _ trivial
theorem p78{p:Layout×Str}{c:List Str}{m:Int×Int}{e:Int}{k:Int×List Step->Option (Plan×Int×Int)}(i:All c λs=>s.l.length<=65536)(E:p.1.3.length<=65537)(O:c.length<=64)(D:m.1<=c.length)(n:∀x,(x.2.length:Int)<=100->WP (k x) Q):WP (iter (adp p c m k) FUEL (1,e,[])) Q:=by refine wp_loop (λx=>1<=x.1/\x.1<=66/\(x.2.2.length:Int)<=x.1) (λx=>(66-x.1).toNat) ⟨om,om,om⟩ om λM A ⟨P,R,S⟩ f=>?_;unfold adp;exact ak (aB (λh1=>av (λy=>(y.2.length:Int)<=A.1+2) (λF o=>ak (f _ ⟨om,om,om⟩ om)) λH g=>av (λ_=>True) (λU q=>av (λ_=>True) (λL r=>aW (g _ om)) λW a=>ak (aO i λw=>aO i λz=>aB (λh2=>a _ trivial) λh2=>aB (λB=>a _ trivial) λB=>a _ trivial)) λV j=>av (λ_=>True) (λJ t=>av (λ_=>True) (λG u=>j _ trivial) λI h=>av (λ_=>True) (λN v=>h _ trivial) λK b=>dW (λC=>b _ trivial) λC=>b _ trivial) λT d=>p95 i E om j d) λh1=>n _ om)
end
theorem aDD{ls:List Line}{n:Int}{a:Str}{b c:Int}{r:gL}(h:All ls λl=>(l.4.length:Int)<=n)(h1:1<=ls.length):All (ls.set ((ls.length:Int)-1).toNat (Line.mk a b c ((gi ls ((ls.length:Int)-1)).4++[r]))) λl=>(l.4.length:Int)<=n+1:=by have:=h ((ls.length:Int)-1) om om;exact All.set (bB.imp h λl d=>om) (by simp;omega) om om
instance s26{l t}:Spec (Tp (l,t)) True λy=>y.2.2=0->t=⟨[]⟩\/LB t.l->1<=y.1.4.length:=⟨λ_=>by
 unfold Tp
 dsimp only
 refine kW trivial (λv hv=>aD λe=>absurd e (by dsimp only;decide)) λhL=>aP trivial λi en=>aR (λh=>aD λe=>absurd e (by simpa using h)) λh0=>?_
 obtain⟨r1,r2,r3,r4⟩:=en (by simpa using h0)
 refine av (λy=>(HL i.1 i.1.length->1<=y.2.2.2.2.2.2.1.length)/\(i.1.length=0->y.2.2.1=0)) (λj2 ⟨g1,g2⟩=>aP trivial λv3 er=>aR (λh=>aD λe=>absurd e (by simpa using h)) λh3=>aD λ_ ht=>?_) λk4 el=>?_
 ·rcases ht with ht|ht
  ·have hp:=er (by simpa using h3)
   have e:i.1.length=0:=by rw[r4 ht];rfl
   have:=g2 e
   have h2:2<=j2.2.2.1:=hp.1.2.2.2.2.2.2.2.2.1
   omega
  ·obtain⟨ws,hw,ew⟩:=r3 ht
   obtain⟨j,j0,j1,rfl⟩:=iH hw
   exact g1 ⟨j,j0,j1,ew⟩
 have dg:l.3.length<=65537:=by omega
 refine wp_loop (PI i.1) (λx=>(i.1.length-x.1).toNat) ⟨om,om,⟨Int.le_refl 0,Int.le_refl 0,Int.le_refl 0,Int.le_refl 0,Int.le_refl 0,Int.le_refl 0,Int.le_refl 0,All.nil⟩,λ⟨j,a,b,_⟩=>by (dsimp only at b;omega),λ_=>rfl⟩ om λK6 f ⟨q0,q1,⟨p1,p2,p3,p4,p5,p6,p7,p8⟩,q3,q4⟩ ek=>?_
 have p1:(f.2.2.2.2.2.1.length:Int)<=f.1:=p1
 have p2:(f.2.2.2.2.2.2.1.length:Int)<=f.1:=p2
 have p3:(f.2.2.2.2.2.2.2.1.length:Int)<=f.1:=p3
 have p4:(f.2.2.2.2.2.2.2.2.1.length:Int)<=f.1:=p4
 have p5:(f.2.2.2.2.2.2.2.2.2.1.length:Int)<=f.1:=p5
 have p6:(f.2.2.2.2.2.2.2.2.2.2.1.length:Int)<=f.1:=p6
 have p7:(f.2.2.2.2.2.2.2.2.2.2.2.1.length:Int)<=f.1:=p7
 have p8:All f.2.2.2.2.2.2.2.1 λl=>(l.4.length:Int)<=f.1:=p8
 have m:All f.2.2.2.2.2.2.2.1 λl=>(l.4.length:Int)<=f.1+1:=bB.imp p8 λl hl=>by omega
 unfold apj
 refine aB (λh6=>bW ⟨q0,h6⟩ ?_) λh6=>el _ ⟨λh=>q3 (by rwa [show f.1=i.1.length by omega]),λe=>q4 om⟩
 have k:=r2 _ (dF ⟨q0,h6⟩)
 have bk:(gi (gi i.1 f.1) 0).1≠⟨LN⟩->HL i.1 (f.1+1)->1<=f.2.2.2.2.2.2.2.1.length:=λem ⟨j,a,b,c⟩=>by
  by_cases e:j=f.1
  ·subst e;exact absurd c em
  ·exact q3 ⟨j,a,om,c⟩
 generalize gi i.1 f.1=v8 at k bk |-
 have wQ:=k.1
 refine av (λy:List Str=>y.length=v8.length/\All y (λs=>s.l.length<=65536)/\gi y 0=(gi v8 0).1) (λj9 ⟨w1,d,w3⟩=>?_) λRX de=>?_
 ·have bz:j9.length<=64:=by omega
  have o:gi j9 0≠⟨LN⟩->HL i.1 (f.1+1)->1<=f.2.2.2.2.2.2.2.1.length:=by rw[w3];exact bk
  exact av (λy:VQ=>PS (f.1+1) y/\(HL i.1 (f.1+1)->1<=y.2.2.2.2.2.1.length)) (λlp rX=>dW (λh1=>aA (aD (λe=>absurd e (by assumption)))) λh1=>ak (ek _ ⟨om,om,rX.1,rX.2,λe=>by (dsimp only at e;omega)⟩ om)) λlv n=>aO d λlj=>aO d λBS=>aB (λh2=>av (λ_=>True) (λiP e8=>n _ ⟨⟨om,om,om,om,om,om,om,m⟩,λg=>o (by rw[h2];decide) g⟩) λlw ZV=>av (λ_=>True) (λiq Qh=>av (λ_=>True) (λmI ZH=>av (λ_=>True) (λCh fj=>ZV _ trivial) λlx J=>dW (λh3=>J _ trivial) λh3=>J _ trivial) λly ZX=>av (λy=>y.1.l.length<=65536) (λFJ bm=>aP bm λlF lm=>av (λ_=>True) (λFK gb=>ZX _ trivial) λlz Qq=>aR (λh4=>Qq _ trivial) λh4=>Qq _ trivial) λlA Fq=>aB (λh5=>Fq _ sm) λh5=>aO d λey=>aO d λbn=>Fq _ bn) λCB V=>dW (λh6=>V _ trivial) λh6=>V _ trivial) λh2=>aB (λh7=>av (λ_=>True) (λCj fI=>av (λy=>y.1.l.length<=65536) (λFP fL=>av (λ_=>True) (λiw fN=>av (λ_=>True) (λxk fY=>av (λ_=>True) (λRn f4=>av (λ_=>True) (λxq f8=>aW (n _ ⟨⟨om,om,om,om,om,om,om,m⟩,λg=>o (by rw[h7];decide) g⟩)) λuT cw=>av (λy=>y.1.l.length<=65536) (λuO ZJ=>aP ZJ λlG ez=>av (λ_=>True) (λCm ZL=>cw _ trivial) λnP JI=>aR (λh8=>JI _ trivial) λh8=>JI _ trivial) λlX Fu=>aB (λh9=>Fu _ sm) λh9=>aO d λju=>aO d λwP=>Fu _ wP) λqE bt=>av (λy=>y.1.l.length<=65536) (λCo bv=>aP bv λlH jy=>av (λ_=>True) (λiG Qi=>bt _ trivial) λlg rY=>aR (λdi=>rY _ trivial) λdi=>rY _ trivial) λo9 Fv=>aB (λdj=>Fv _ sm) λdj=>aO d λeF=>aO d λbp=>Fv _ bp) λF4 df=>av (λy=>y.1.l.length<=65536) (λnN ZN=>aP ZN λlI hB=>av (λ_=>True) (λuQ hi=>df _ trivial) λqH JJ=>aR (λdk=>JJ _ trivial) λdk=>JJ _ trivial) λjR JK=>aB (λmF=>JK _ sm) λmF=>aO d λhC=>aO d λbu=>JK _ bu) λxG Qv=>av (λy=>y.1.l.length<=65536) (λRs cz=>aP cz λlN eI=>av (λ_=>True) (λRt hj=>Qv _ trivial) λsM Qw=>aR (λBL=>Qw _ trivial) λBL=>Qw _ trivial) λlE a8=>aB (λuE=>a8 _ sm) λuE=>aO d λhD=>aO d λbr=>a8 _ br) λsN a9=>aB (λdl=>a9 _ sm) λdl=>aO d λhE=>aO d λbw=>a9 _ bw) λmK Qx=>dW (λE9=>Qx _ trivial) λE9=>Qx _ trivial) λh7=>aB (λbb=>av (λy=>(y.2.2.length:Int)<=f.1+1) (λxB lf=>n _ ⟨⟨om,om,om,om,om,om,om,m⟩,λg=>o (by rw[bb];decide) g⟩) λqJ JM=>av (λy=>y.1<=j9.length) (λqC cE=>fB sm (av (λ_=>True) (λKj js=>av (λy=>(y.2.length:Int)<=100) (λoZ jt=>aW (JM _ om)) λlq JN=>p78 d dg bz cE JN) λis X=>dW (λdm=>X _ trivial) λdm=>X _ trivial)) λCr Y=>ak (av (λy=>y.1.l.length<=65536) (λjz b2=>aP b2 λl9 gB=>fB (Gi λhg=>by (simp only[Bool.and_eq_true,decide_eq_true_eq] at hg;simp[aj];omega)) (ni (λy=>y.l.length<=65536) (λhg=>by (simp only[Bool.and_eq_true,decide_eq_true_eq] at hg;exact⟨_,JZ om,d _ om om⟩)) λGI gC=>ni (λy=>y.l.length<=65536) (λhg=>by (simp only[Bool.and_eq_true,decide_eq_true_eq] at hg;exact⟨_,JZ om,d _ om om⟩)) λLU eo=>dW (λdn=>ak (Y _ om)) λdn=>Y _ om)) λzB Z=>aB (λdp=>Z _ sm) λdp=>aO d λep=>aO d λp=>Z _ p)) λbb=>aB (λbe=>av (λ_=>True) (λoN e2=>av (λy=>y.1.l.length<=65536) (λJ6 e3=>av (λ_=>True) (λQ5 e4=>av (λ_=>True) (λQ6 e5=>aW (n _ ⟨⟨om,om,om,om,om,om,om,All.app m (by simp;omega)⟩,λ_=>sm⟩)) λjN cF=>av (λy=>y.1.l.length<=65536) (λiF b3=>aP b3 λpU li=>av (λ_=>True) (λoO e6=>cF _ trivial) λCt aa=>aR (λdq=>aa _ trivial) λdq=>aa _ trivial) λit ab=>aB (λBM=>ab _ sm) λBM=>aO d λgE=>aO d λcU=>ab _ cU) λzC Ql=>av (λ_=>True) (λeJ e7=>av (λ_=>True) (λzq jp=>Ql _ trivial) λFU Qm=>av (λ_=>True) (λfK ld=>Qm _ trivial) λiu ae=>dW (λZd=>ae _ trivial) λZd=>ae _ trivial) λCu ZR=>aDk d om Ql ZR) λo7 zf=>aB (λwJ=>zf _ sm) λwJ=>aO d λgH=>aO d λq=>zf _ q) λsH af=>dW (λdr=>af _ trivial) λdr=>af _ trivial) λbe=>aB (λbh=>av (λy=>y.2.2.length=f.2.2.2.2.2.2.2.1.length/\All y.2.2 λl=>(l.4.length:Int)<=f.1+1) (λhF W=>n _ ⟨⟨om,om,om,om,om,om,om,W.2⟩,λg=>by (have:=o (by rw[bh];decide) g;have:=W.1;dsimp only;omega)⟩) λiv ag=>av (λ_=>True) (λkj e9=>av (λ_=>True) (λQ7 fa=>av (λ_=>True) (λJ9 fb=>av (λ_=>True) (λFH fc=>aB (λPU=>ag _ ⟨sm,bB.imp m λl hl=>hl⟩) λPU=>ak (aA (aA (aA (aDE p8 om om (rO (aA (ag _ ⟨sm,aDD p8 om⟩)))))))) λzD an=>aB (λds=>av (λ_=>True) (λQ8 fd=>an _ trivial) λjQ cG=>av (λy=>y.1.l.length<=65536) (λkk b4=>aP b4 λGL gN=>av (λ_=>True) (λkl ff=>cG _ trivial) λix ao=>aR (λdt=>ao _ trivial) λdt=>ao _ trivial) λiz D=>aB (λdu=>D _ sm) λdu=>aO d λgO=>aO d λcV=>D _ cV) λds=>an _ trivial) λk5 cH=>av (λy=>y.1.l.length<=65536) (λqy b5=>aP b5 λjm gP=>av (λ_=>True) (λkm fg=>cH _ trivial) λiA E=>aR (λZe=>E _ trivial) λZe=>E _ trivial) λiC F=>aB (λdw=>F _ sm) λdw=>aO d λgR=>aO d λcW=>F _ cW) λk6 cJ=>av (λy=>y.1.l.length<=65536) (λkn b6=>aP b6 λeA gS=>av (λ_=>True) (λko fh=>cJ _ trivial) λFV G=>aR (λdy=>G _ trivial) λdy=>G _ trivial) λiM H=>aB (λZf=>H _ sm) λZf=>aO d λgZ=>aO d λcX=>H _ cX) λhR I=>dW (λdz=>I _ trivial) λdz=>I _ trivial) λbh=>aB (λbi=>av (λ_=>True) (λkp fi=>av (λ_=>True) (λoP fk=>av (λ_=>True) (λQ9 fo=>av (λ_=>True) (λsu eR=>av (λ_=>True) (λRa eS=>av (λ_=>True) (λlU eT=>av (λ_=>True) (λRb eU=>aW (n _ ⟨⟨om,om,om,om,om,om,om,m⟩,λg=>o (by rw[bi];decide) g⟩)) λk7 cL=>av (λy=>y.1.l.length<=65536) (λqz b7=>aP b7 λeB g0=>av (λ_=>True) (λkq eV=>cL _ trivial) λhS K=>aR (λdA=>K _ trivial) λdA=>K _ trivial) λhT L=>aB (λdB=>L _ sm) λdB=>aO d λg3=>aO d λcY=>L _ cY) λk8 cM=>av (λy=>y.1.l.length<=65536) (λkr bH=>aP bH λeC g4=>av (λ_=>True) (λks eW=>cM _ trivial) λhU M=>aR (λZg=>M _ trivial) λZg=>M _ trivial) λFW N=>aB (λdC=>N _ sm) λdC=>aO d λg5=>aO d λc0=>N _ c0) λsI Qo=>av (λ_=>True) (λeK eZ=>av (λ_=>True) (λhG e0=>Qo _ trivial) λKl ci=>av (λ_=>True) (λkt e1=>ci _ trivial) λhV O=>dW (λdE=>O _ trivial) λdE=>O _ trivial) λuR ZY=>aDl d om Qo ZY) λk9 cj=>av (λy=>y.1.l.length<=65536) (λku bL=>aP bL λeE g6=>av (λ_=>True) (λkw ga=>cj _ trivial) λFX P=>aR (λZh=>P _ trivial) λZh=>P _ trivial) λhW Q=>aB (λdR=>Q _ sm) λdR=>aO d λg7=>aO d λda=>Q _ da) λzF Qp=>av (λ_=>True) (λeL gc=>av (λ_=>True) (λhI gd=>Qp _ trivial) λla ck=>av (λ_=>True) (λky gf=>ck _ trivial) λhX R=>dW (λdT=>R _ trivial) λdT=>R _ trivial) λCx Z4=>aDm d om Qp Z4) λlb cm=>av (λy=>y.1.l.length<=65536) (λkz bN=>aP bN λUR g8=>av (λ_=>True) (λkA gg=>cm _ trivial) λhY S=>aR (λdV=>S _ trivial) λdV=>S _ trivial) λCy JH=>aB (λd1=>JH _ sm) λd1=>aO d λlo=>aO d λdb=>JH _ db) λhZ T=>dW (λd2=>T _ trivial) λd2=>T _ trivial) λbi=>aB (λbj=>av (λ_=>True) (λkB gh=>av (λ_=>True) (λoQ gj=>av (λ_=>True) (λsD gk=>av (λ_=>True) (λRh gl=>aW (n _ ⟨⟨om,om,om,om,om,om,om,m⟩,λg=>o (by rw[bj];decide) g⟩)) λzG Qr=>av (λ_=>True) (λeM gn=>av (λ_=>True) (λhJ gp=>Qr _ trivial) λlc cn=>av (λ_=>True) (λjT gr=>cn _ trivial) λia U=>dW (λuF=>U _ trivial) λuF=>U _ trivial) λCz Z6=>aDn d om Qr Z6) λzH Qs=>av (λ_=>True) (λeN gs=>av (λ_=>True) (λik gu=>Qs _ trivial) λkC co=>av (λ_=>True) (λjV fD=>co _ trivial) λib r=>dW (λd3=>r _ trivial) λd3=>r _ trivial) λCF Z7=>aDo d om Qs Z7) λkM cp=>av (λy=>y.1.l.length<=65536) (λuN bY=>aP bY λUW gv=>av (λ_=>True) (λjW fM=>cp _ trivial) λic u=>aR (λd4=>u _ trivial) λd4=>u _ trivial) λFY w=>aB (λd5=>w _ sm) λd5=>aO d λgw=>aO d λcN=>w _ cN) λF3 z=>dW (λd6=>z _ trivial) λd6=>z _ trivial) λbj=>aB (λJA=>av (λ_=>True) (λxg fO=>av (λ_=>True) (λRi fR=>av (λ_=>True) (λsF fS=>av (λ_=>True) (λRj fU=>av (λ_=>True) (λRk fW=>av (λ_=>True) (λRm fX=>aW (n _ ⟨⟨om,om,om,om,om,om,om,m⟩,λg=>o (by rw[JA];decide) g⟩)) λkO cq=>av (λy=>y.1.l.length<=65536) (λj3 b0=>aP b0 λi7 gy=>av (λ_=>True) (λj4 f0=>cq _ trivial) λie A=>aR (λd7=>A _ trivial) λd7=>A _ trivial) λih B=>aB (λd8=>B _ sm) λd8=>aO d λgz=>aO d λcP=>B _ cP) λkS cr=>av (λy=>y.1.l.length<=65536) (λj5 b1=>aP b1 λi8 gA=>av (λ_=>True) (λj6 f3=>cr _ trivial) λii C=>aR (λZi=>C _ trivial) λZi=>C _ trivial) λij ap=>aB (λea=>ap _ sm) λea=>aO d λhk=>aO d λcQ=>ap _ cQ) λzI Qt=>av (λ_=>True) (λeO f5=>av (λ_=>True) (λil f6=>Qt _ trivial) λkU ct=>av (λ_=>True) (λj7 f7=>ct _ trivial) λhK aq=>dW (λeb=>aq _ trivial) λeb=>aq _ trivial) λCJ Z8=>aDp d om Qt Z8) λkV b9=>av (λy=>y.1.l.length<=65536) (λj8 cx=>aP cx λi9 hm=>av (λ_=>True) (λka f9=>b9 _ trivial) λhM aw=>aR (λZj=>aw _ trivial) λZj=>aw _ trivial) λhN ax=>aB (λec=>ax _ sm) λec=>aO d λhn=>aO d λcR=>ax _ cR) λzJ Qu=>av (λ_=>True) (λeQ fp=>av (λ_=>True) (λim ft=>Qu _ trivial) λkY ca=>av (λ_=>True) (λkb fu=>ca _ trivial) λhO az=>dW (λee=>az _ trivial) λee=>az _ trivial) λCK Z9=>aDq d om Qu Z9) λhP aE=>dW (λef=>aE _ trivial) λef=>aE _ trivial) λJA=>aB (λPW=>av (λ_=>True) (λio fv=>av (λ_=>True) (λKi fw=>av (λ_=>True) (λRo fx=>av (λ_=>True) (λRp fy=>aW (n _ ⟨⟨om,om,om,om,om,om,om,m⟩,λg=>o (by rw[PW];decide) g⟩)) λkZ cb=>av (λy=>y.1.l.length<=65536) (λkc cy=>aP cy λja hq=>av (λ_=>True) (λkd g9=>cb _ trivial) λhQ a1=>aR (λZk=>a1 _ trivial) λZk=>a1 _ trivial) λiO a2=>aB (λeg=>a2 _ sm) λeg=>aO d λhr=>aO d λcS=>a2 _ cS) λk0 cc=>av (λy=>y.1.l.length<=65536) (λke ha=>aP om λjc hu=>av (λ_=>True) (λip hb=>cc _ trivial) λk1 ce=>av (λ_=>True) (λkf hc=>ce _ trivial) λiS a3=>dW (λeh=>a3 _ trivial) λeh=>a3 _ trivial) λiU a4=>aB (λei=>a4 _ sm) λei=>aO d λhx=>aO d λcT=>a4 _ cT) λk2 cf=>av (λy=>y.1.l.length<=65536) (λkh hd=>aP om λje hy=>av (λ_=>True) (λir he=>cf _ trivial) λk3 cg=>av (λ_=>True) (λki hf=>cg _ trivial) λiV a5=>dW (λPX=>a5 _ trivial) λPX=>a5 _ trivial) λi5 a6=>aB (λej=>a6 _ sm) λej=>aO d λhz=>aO d λbo=>a6 _ bo) λi6 a7=>dW (λZl=>a7 _ trivial) λZl=>a7 _ trivial) λPW=>n _ ⟨⟨om,om,om,om,om,om,om,m⟩,λg=>o be g⟩
 ·refine wp_loop (λx=>0<=x.1/\x.1<=v8.length/\(x.2.length:Int)=x.1/\All x.2 (λs=>s.l.length<=65536)/\(1<=x.1->gi x.2 0=(gi v8 0).1)) (λx=>(v8.length-x.1).toNat) ⟨om,om,om,All.nil,λe=>by (dsimp only at e;omega)⟩ om λjn x ⟨i0,i1,i2,i3,i4⟩ b8=>?_
  unfold apk
  refine aB (λh=>bW ⟨i0,h⟩ (aW (ak (b8 _ ⟨om,om,om,All.app i3 (k.2.2 _ (dF ⟨i0,h⟩)),λ_=>?_⟩ om)))) λh=>de _ ⟨om,i3,i4 om⟩
  by_cases e:x.1=0
  ·have:x.2=[]:=List.length_eq_zero_iff.1 om
   rw[this,e];rfl
  ·dsimp only
   rw[Y8 om]
   exact i4 om⟩
theorem aiz{a b:Int}(i: -1000000000000<=a/\a<=1000000000000)(k:1<=b/\b<=7200):WP (Bc (a,b)) λy=>y.1*b<=a/\a<y.1*b+b/\ -1000000000001<=y.1/\y.1<=1000000000001:=by
 unfold Bc;dsimp only;have h1:=Int.mul_tdiv_add_tmod a b;have h2: -b<a.tmod b/\a.tmod b<b:=⟨by have:=Int.lt_tmod_of_pos a (show 0<b by omega);omega,Int.tmod_lt_of_pos a om⟩
 have g: -1000000000000<=a.tdiv b/\a.tdiv b<=1000000000000:=by
  generalize a.tdiv b=q at*;generalize a.tmod b=r at*;constructor
  ·by_cases h: -1000000000000<=q;·exact h
   ·have:=Int.mul_le_mul_of_nonneg_left (show q<= -1000000000001 by omega) (show 0<=b by omega);omega
  ·by_cases h:q<=1000000000000;·exact h
   ·have:=Int.mul_le_mul_of_nonneg_left (show 1000000000001<=q by omega) (show 0<=b by omega);omega
 have hw:=G5 (x:=a.tdiv b) om om;rw[hw];have d:(a.tdiv b-1)*b=b*a.tdiv b-b:=by rw[Int.sub_mul,Int.mul_comm];omega
 have e:a.tdiv b*b=b*a.tdiv b:=Int.mul_comm _ _;refine aB (λh=>absurd h om) λ_=>uY (av (λy=>y*b<=a/\a<y*b+b/\ -1000000000001<=y/\y<=1000000000001) (λj f=>aD f) λl c=>uY (aB (λh=>ak (c _ ?_)) λh=>c _ ?_));·rw[d];omega
 ·rw[e];have:0<=a.tmod b:=by omega
  omega
theorem au8{a b:Int}(i: -1000000000000<=a/\a<=1000000000000)(k:1<=b/\b<=7200):WP (vU (a,b)) λy=>a<=y.1*b/\y.1*b<a+b/\ -1000000000001<=y.1/\y.1<=1000000000001:=by
 unfold vU;dsimp only;have h1:=Int.mul_tdiv_add_tmod a b;have h2: -b<a.tmod b/\a.tmod b<b:=⟨by have:=Int.lt_tmod_of_pos a (show 0<b by omega);omega,Int.tmod_lt_of_pos a om⟩
 have g: -1000000000000<=a.tdiv b/\a.tdiv b<=1000000000000:=by
  generalize a.tdiv b=q at*;generalize a.tmod b=r at*;constructor
  ·by_cases h: -1000000000000<=q;·exact h
   ·have:=Int.mul_le_mul_of_nonneg_left (show q<= -1000000000001 by omega) (show 0<=b by omega);omega
  ·by_cases h:q<=1000000000000;·exact h
   ·have:=Int.mul_le_mul_of_nonneg_left (show 1000000000001<=q by omega) (show 0<=b by omega);omega
 have hw:=G5 (x:=a.tdiv b) om om;rw[hw];have d:(a.tdiv b+1)*b=b*a.tdiv b+b:=by rw[Int.add_mul,Int.mul_comm];omega
 have e:a.tdiv b*b=b*a.tdiv b:=Int.mul_comm _ _;refine aB (λh=>absurd h om) λ_=>uY (av (λy=>a<=y*b/\y*b<a+b/\ -1000000000001<=y/\y<=1000000000001) (λj f=>aD f) λl c=>uY (aB (λh=>ak (c _ ?_)) λh=>c _ ?_));·rw[d];omega
 ·rw[e];omega
def Hg(n:Network)(c:Cycle):Prop:=c.1.length=c.2.length/\2<=c.1.length/\(All c.1 λx=>0<=x/\x<n.3.length)/\All c.2 λx=>x=1\/x= -1
instance aOB{a s}:Spec (EI (a,s)) True λy=>y=(if s<0 then (a.3,a.2) else (a.2,a.3)):=⟨λ_=>by
 unfold EI
 exact aB (λh=>aD (by rw[if_pos h])) λh=>aD (by rw[if_neg h])⟩
instance aOC{n c}:Spec (Je (n,c)) (c.1.length<=1000000) λb=>b=true->gK n/\Hg n c:=⟨λY=>by
 unfold Je
 dsimp only
 refine aP trivial λv0 q=>aR (λh=>aD λe=>absurd e dc) λh=>?_
 simp only[Bool.or_eq_false_iff,Bool.not_eq_false',decide_eq_true_eq,decide_eq_false_iff_not] at h
 obtain⟨⟨rfl,h1⟩,h2⟩:=h
 have g:=q rfl
 have W:=g.2.2.1
 have X:=g.2.2.2.1
 refine iJ om (av (λ_=>Hg n c) (λZ l=>iJ om (ak (aO l.2.2.1 λD=>aO g.2.2.2.2 (λU=>aA (aP trivial λv5 G=>av (λ_=>True) (λj6 R=>aD λ_=>⟨g,l⟩) λk7 A=>?_)) D))) λI B=>?_)
 ·refine wp_loop (λx=>0<=x.2.1/\x.2.1<=c.1.length/\x.2.2.length=n.2.length) (λx=>(c.1.length-x.2.1).toNat) ⟨om,om,sm⟩ om λP x ⟨r,H,s⟩ p=>?_
  unfold ahN
  dsimp only
  have F:=l.1
  refine aB (λh=>aO l.2.2.1 λE=>aO g.2.2.2.2 (λV=>aA (aP trivial λj z=>?_)) E) λh=>A _ trivial
  have k:0<=j.1/\j.1<x.2.2.length:=by rw[z];split<;>(dsimp only;omega)
  exact fC (λ_=>k) λJ C=>fC (λ_=>k) λK O=>aR (λh=>aD λe=>absurd e dc) λh=>bW k (bW k (ak (p _ ⟨om,om,by simpa using s⟩ om)))
 ·refine wp_loop (λx=>0<=x.1/\x.1<=c.1.length/\x.2.length=n.3.length/\bB c.1 x.1 (λx=>0<=x/\x<n.3.length)/\bB c.2 x.1 λx=>x=1\/x= -1) (λx=>(c.1.length-x.1).toNat) ⟨om,om,sm,bB.zero (Int.le_refl _),bB.zero (Int.le_refl _)⟩ om λQ x ⟨r,H,s,w,y⟩ o=>?_
  unfold ahM
  dsimp only
  refine aB (λh=>aA (fC (λa=>?_) λL u=>fC (λa=>?_) λM v=>fC (λa=>⟨r,om⟩) λt m=>fC (λa=>⟨r,om⟩) λN i=>aR (λh=>aD λe=>absurd e dc) λa=>?_)) λh=>B _ ⟨om,om,w.mono om,y.mono om⟩
  ·simp only[Bool.not_eq_true',Bool.or_eq_false_iff,decide_eq_false_iff_not] at a
   omega
  ·simp only[Bool.not_eq_true',Bool.or_eq_false_iff,decide_eq_false_iff_not] at a
   omega
  ·simp only[Bool.or_eq_false_iff,decide_eq_false_iff_not,Bool.and_eq_false_iff,Bool.not_eq_false',decide_eq_true_eq] at a
   obtain⟨⟨⟨S,T⟩,rfl⟩,d⟩:=a
   have hs:gi c.2 x.1=1\/gi c.2 x.1= -1:=by
    have f:=m (by simp;omega)
    rcases d with d|d
    ·left;rw[<-f];exact d
    ·by_cases e:t=1
     ·left;rw[<-f];exact e
     ·right
      have:=i (by simp[e];omega)
      rw[<-this];exact d
   exact aA (aA (ak (o _ ⟨om,om,by simpa using s,w.succ ⟨om,om⟩,y.succ hs⟩ om)))⟩
instance aO2{n c}:Spec (J3 (n,c)) (gK n/\Hg n c/\c.1.length<=1000) λy=>(-65536000<=y.1/\y.1<=65536000)/\(0<=y.2.1/\y.2.1<=131072000)/\0<=y.2.2/\y.2.2<=131072000:=⟨λ⟨k,⟨c1,c2,c3,c4⟩,p⟩=>by
 unfold J3
 refine av (λy=>(-65536000<=y.1/\y.1<=65536000)/\(0<=y.2.1/\y.2.1<=131072000)/\0<=y.2.2/\y.2.2<=131072000) (λw d=>aD d) λB f=>?_
 refine wp_loop (λx=>0<=x.2.2.2/\x.2.2.2<=c.1.length/\(-65536*x.2.2.2<=x.1/\x.1<=65536*x.2.2.2)/\(0<=x.2.1/\x.2.1<=131072*x.2.2.2)/\0<=x.2.2.1/\x.2.2.1<=131072*x.2.2.2) (λx=>(c.1.length-x.2.2.2).toNat) ⟨om,om,⟨om,om⟩,⟨om,om⟩,om,om⟩ om λm x ⟨r,s,t,u,v⟩ b=>?_
 unfold alY
 dsimp only
 refine aB (λh=>av (λy=>(-65536*(x.2.2.2+1)<=y.1/\y.1<=65536*(x.2.2.2+1))/\(0<=y.2.1/\y.2.1<=131072*(x.2.2.2+1))/\0<=y.2.2/\y.2.2<=131072*(x.2.2.2+1)) (λA l=>ak (b _ ⟨om,om,l⟩ om)) λC g=>aO c3 λi=>aO k.2.2.2.2 (λo=>aO c4 λj=>?_) i) λh=>f _ ⟨om,om,om⟩
 generalize gi n.3 (gi c.1 x.2.2.2)=a at*
 have q: -65536<=gi c.2 x.2.2.2*a.4/\gi c.2 x.2.2.2*a.4<=65536:=by
  rcases j with e|e<;>rw[e]<;>omega
 generalize gi c.2 x.2.2.2*a.4=z at*
 exact ak (ak (aA (aB (λh=>ak (ak (g _ ⟨om,om,om⟩))) λh=>ak (ak (g _ ⟨om,om,om⟩)))))⟩
instance cK{n c}:Spec (QZ (n,c)) (c.1.length<=1000) λy=>y.2.2=true->(gK n/\Hg n c)/\(-400000000<=y.1*n.1/\y.1*n.1<=400000000)/\ -400000000<=y.2.1*n.1/\y.2.1*n.1<=400000000:=⟨λg=>by
 unfold QZ
 dsimp only
 refine aP om λl b=>aR (λh=>aD λe=>absurd e dc) λh=>?_
 simp only[Bool.not_eq_false'] at h
 obtain⟨a,d⟩:=b h
 have f:1<=n.1/\n.1<=7200:=⟨by have:=a.1;omega,a.2.1⟩
 exact aP ⟨a,d,g⟩ λm i=>ak (wp_bind _ (au8 om f) λo j=>ak (wp_bind _ (aiz om f) λp k=>aB (λh=>aD λe=>absurd e dc) λh=>aD λ_=>⟨⟨a,d⟩,om,om⟩))⟩
instance aO3{a b}:Spec (J2 (a,b)) ((-1000000000000<=a/\a<=1000000000000)/\ -1000000000000<=b/\b<=1000000000000) λy=>y=max (a-b) (b-a):=⟨λh=>by
 unfold J2
 exact ak (ak (aD rfl))⟩
theorem ahw{f lo hi t:Int}(h1: -400000000<=f*t/\f*t<=400000000)(h2: -400000000<=lo*t/\lo*t<=400000000)(a: -400000000<=hi*t/\hi*t<=400000000): -400000000<=min (max f lo) hi*t/\min (max f lo) hi*t<=400000000:=by
 have:min (max f lo) hi=f\/min (max f lo) hi=lo\/min (max f lo) hi=hi:=by omega
 rcases this with e|e|e<;>rw[e]<;>assumption
instance aOD{n c}:Spec (QY (n,c)) (c.1.length<=1000) λy=>0<=y.1/\y.1<=500000000:=⟨λi=>by
 unfold QY
 dsimp only
 refine aP i λb g=>aR (λh=>aD sm) λh=>?_
 simp only[Bool.not_eq_false'] at h
 obtain⟨⟨d,l⟩,j,k⟩:=g h
 have m:1<=n.1/\n.1<=7200:=⟨by have:=d.1;omega,d.2.1⟩
 refine aP ⟨d,l,i⟩ λu o=>wp_bind _ (aiz om m) λa p=>?_
 have e:(a.1+1)*n.1=a.1*n.1+n.1:=by rw[Int.add_mul,Int.one_mul]
 have s:=ahw (f:=a.1) om j k
 have t:=ahw (f:=a.1+1) om j k
 generalize min (max a.1 b.1) b.2.1*n.1=x at*
 generalize min (max (a.1+1) b.1) b.2.1*n.1=y at*
 exact ak (ak (ak (aP om λv q=>aP om λw r=>aD om)))⟩
instance s88{n c}:Spec (IY (n,c)) (c.1.length<=1000) λy=>(0<=y.1/\y.1<=500000000)/\(y.2=0->gK n/\Hg n c):=⟨λd=>by
 unfold IY
 dsimp only
 refine aP om λf a=>aR (λh=>aD ⟨sm,λe=>absurd e dc⟩) λh=>aP d λg b=>aR (λh=>aD ⟨sm,λe=>absurd e dc⟩) λ_=>aD ⟨b,λ_=>a (by simpa using h)⟩⟩
def afe(n:Network)(t:List Int)(e:Int):Prop:=∀i:Int,0<=i->i<n.3.length->max (gi n.3 i).2 (gi n.3 i).3<e->mW n t (gi n.3 i)<=(gi n.3 i).5-(gi n.3 i).4
def Hu(n:Network)(f:Bool)(t:List Int)(c:Int):Prop:=f=true->kK n t/\rD n t/\ -1000000000000000<=c/\c<=1000000000000000
structure SOk(n:Network)(lim:List Int)(dH:List (List Int))(uj:Int):Prop where
 nn:gK n
 l1:lim.length=n.2.length
 l2:All lim λx=>0<=x/\x<=n.1
 c1:dH.length=n.2.length
 c2:∀e:Int,0<=e->e<n.2.length->(gi dH e).length<=512/\∀k:Int,0<=k->k<(gi dH e).length->0<=gi (gi dH e) k/\gi (gi dH e) k<n.3.length/\max (gi n.3 (gi (gi dH e) k)).2 (gi n.3 (gi (gi dH e) k)).3=e
 c3:∀i:Int,0<=i->i<n.3.length->∃k:Int,0<=k/\k<(gi dH (max (gi n.3 i).2 (gi n.3 i).3)).length/\gi (gi dH (max (gi n.3 i).2 (gi n.3 i).3)) k=i
 b:1<=uj/\uj<=1048576
abbrev CBd(c e:Int):Prop:= -100000000000000<=c/\c<=100000000000000+e*10000000000000
theorem awc{n:Network}{lim:List Int}{dH:List (List Int)}{uj:Int}{all:Bool}(hS:SOk n lim dH uj):∀(f:Nat) (ev g d rc:Int) (b p:List Int) (m B:Bool),n.2.length-ev<f->0<=ev->ev<=n.2.length->kK n b->afe n b ev->CBd g ev->0<=d->d<=uj->Hu n B p rc->WP (Df f (ev,g,n.1,n.2,n.3,lim,dH,b,all,uj,d,m,p,rc,B)) λy=>kK n y.2.1/\(∀i:Int,0<=i->i<ev->gi y.2.1 i=gi b i)/\d<=y.2.2.1/\y.2.2.1<=uj/\Hu n y.2.2.2.2.2.2 y.2.2.2.2.1 y.2.2.2.2.2.1:=by
 obtain⟨⟨n1,n2,n3,n4,D⟩,l1,l2,c1,c2,c3,hb⟩:=hS;have hN:gK n:=⟨n1,n2,n3,n4,D⟩;intro f;induction f with|zero=>intro ev g d rc b p m B hf h0 h1;omega|succ f ih=>
 intro ev g d rc b p m B hf h0 h1 C hs hc ab u hF;have aa:=C.1;unfold Df ap5;dsimp only;refine aB (λh=>aW (aD ⟨C,λ_ _ _=>rfl,Int.le_refl _,u,λ_=>⟨C,λi l o=>hs i l o ?_,om,om⟩⟩)) λh=>?_;·have:=D i l o;omega
 have M:ev<n.2.length:=by omega
 have hl:=l2 ev h0 om;refine av (λj=>kK n j.2.2.2.2.2/\(∀i:Int,0<=i->i<ev->gi j.2.2.2.2.2 i=gi b i)/\d<=j.2.1/\j.2.1<=uj/\Hu n j.2.2.2.2.1 j.2.2.1 j.2.2.2.1) (λj N=>aD N) λT F=>aA ?_;refine wp_loop (λx=>0<=x.1/\x.1<=gi lim ev/\d<=x.2.2.1/\x.2.2.1<=uj/\Hu n x.2.2.2.2.2.1 x.2.2.2.1 x.2.2.2.2.1/\kK n x.2.2.2.2.2.2/\∀i:Int,0<=i->i<ev->gi x.2.2.2.2.2.2 i=gi b i) (λx=>(gi lim ev-x.1).toNat) ⟨sm,om,sm,u,hF,C,λ_ _ _=>rfl⟩ om λc x ⟨x0,x1,V,W,w,E,Q⟩ J=>?_;unfold ap6;dsimp only;refine aB (λh2=>?_) λh2=>F _ ⟨E,Q,V,W,w⟩;refine av (λj=>d<=j.2.1/\j.2.1<=uj/\Hu n j.2.2.2.2.1 j.2.2.1 j.2.2.2.1/\kK n j.2.2.2.2.2/\∀i:Int,0<=i->i<ev->gi j.2.2.2.2.2 i=gi b i) (λj N=>ak (J _ ⟨om,om,N⟩ om)) λk7 H=>aB (λ_=>aD ⟨E,Q,V,W,w⟩) λh3=>?_;have P:=E.1;have q:kK n (x.2.2.2.2.2.2.set ev.toNat x.1):=⟨by simp[P],All.set E.2 om h0 om⟩;have v:∀i:Int,0<=i->i<ev->gi (x.2.2.2.2.2.2.set ev.toNat x.1) i=gi b i:=λi l o=>by rw[dU h0 l om,if_neg om];exact Q i l o
 generalize nJ:x.2.2.2.2.2.2.set ev.toNat x.1=tm at*;refine ak (aA (aA ?_));have K:=c2 ev h0 M;refine av (λnx=>CBd nx (ev+1)/\afe n tm (ev+1)) (λnx r=>?_) λae G=>aA ?_
 ·refine aR (λ_=>H _ ⟨om,om,w,q,v⟩) λ_=>ak ?_;obtain⟨y,hy,X,y2,y3,Y,Z⟩:=ih (ev+1) nx (x.2.2.1+1) x.2.2.2.2.1 tm x.2.2.2.1 x.2.1 x.2.2.2.2.2.1 om om om q r.2 r.1 om om w;rw[hy];have A:∀i:Int,0<=i->i<ev->gi y.2.1 i=gi b i:=λi l o=>by rw[y2 i l om];exact v i l o
  exact aR (λ_=>aD ⟨X,A,om,Y,Z⟩) λ_=>H _ ⟨om,Y,Z,X,A⟩
 ·refine wp_loop (λz=>0<=z.2/\z.2<=(gi dH ev).length/\ -100000000000000<=z.1/\z.1<=100000000000000+ev*10000000000000+z.2*8000000000/\bB (gi dH ev) z.2 λi=>mW n tm (gi n.3 i)<=(gi n.3 i).5-(gi n.3 i).4) (λz=>((gi dH ev).length-z.2).toNat) ⟨sm,sm,hc.1,om,bB.zero sm⟩ om λc z ⟨z0,z1,z2,z3,z4⟩ L=>?_;unfold ap7;simp only[nJ];refine aB (λR=>?_) λR=>G _ ⟨⟨z2,om⟩,λi l o hm=>?_⟩;·have S:=K.2 z.2 z0 R;have ha:=D _ S.1 S.2.1;have s:=aed hN (t:=tm) (a:=gi n.3 (gi (gi dH ev) z.2));have b1:=q.2 (gi n.3 (gi (gi dH ev) z.2)).2 om om;have b2:=q.2 (gi n.3 (gi (gi dH ev) z.2)).3 om om;have af:=q.1;refine aA (aA (aA (aA (aA (aA (ak (ak ?_)))))));rw[Gf om om];have e:(gi tm (gi n.3 (gi (gi dH ev) z.2)).3-gi tm (gi n.3 (gi (gi dH ev) z.2)).2-(gi n.3 (gi (gi dH ev) z.2)).4) % n.1=mW n tm (gi n.3 (gi (gi dH ev) z.2)):=rfl;rw[e];generalize I:gi n.3 (gi (gi dH ev) z.2)=a at*;generalize O:mW n tm a=sl at*;have hm:0<=a.6*sl/\a.6*sl<=8000000000:=⟨Int.mul_nonneg om s.1,by have:=Int.mul_le_mul (show a.6<=1048576 by omega) (show sl<=7200 by omega) s.1 om;omega⟩;exact ak (aB (λ_=>H _ ⟨om,om,w,q,v⟩) λh5=>ak (ak (ak (L _ ⟨om,om,om,om,z4.succ (by rw[I,O];omega)⟩ om))))
  ·by_cases e:max (gi n.3 i).2 (gi n.3 i).3=ev;·obtain⟨k,k0,T,U⟩:=c3 i l o;rw[e] at T U;have:=z4 k k0 om;rw[U] at this;exact this
   ·have ha:=D i l o;have e1:mW n tm (gi n.3 i)=mW n b (gi n.3 i):=by unfold mW;rw[v _ om om,v _ om om]
    rw[e1];exact hs i l o om
def He(n:Network)(m:Int)(dH:List (List Int)):Prop:=dH.length=n.2.length/\(∀e:Int,0<=e->e<n.2.length->(gi dH e).length<=m/\∀k:Int,0<=k->k<(gi dH e).length->0<=gi (gi dH e) k/\gi (gi dH e) k<n.3.length/\max (gi n.3 (gi (gi dH e) k)).2 (gi n.3 (gi (gi dH e) k)).3=e)/\
 ∀i:Int,0<=i->i<m->∃k:Int,0<=k/\k<(gi dH (max (gi n.3 i).2 (gi n.3 i).3)).length/\gi (gi dH (max (gi n.3 i).2 (gi n.3 i).3)) k=i
theorem He.succ{n:Network}(q:All n.3 (D7 n)){m:Int}{dH:List (List Int)}(h:He n m dH)(h0:0<=m)(h1:m<n.3.length){e:Int}(j:max (gi n.3 m).2 (gi n.3 m).3=e)(a:0<=e)(s:e<n.2.length):He n (m+1) (dH.set e.toNat (gi dH e++[m])):=by
 obtain⟨c1,c2,c3⟩:=h;refine⟨by simp[c1],λf g f1=>?_,λi l t=>?_⟩
 ·have:=c2 f g f1;rw[dU a g om];split
  ·rename_i d;subst d;refine⟨by simp;omega,λk b c=>?_⟩;rw[fP b];split;·exact this.2 k b (by assumption)
   ·rw[show k-(gi dH f).length=0 by simp at c;omega];exact⟨h0,h1,j⟩
  ·exact⟨om,this.2⟩
 ·by_cases p:i=m
  ·subst p;rw[j];refine⟨(gi dH e).length,om,?_,?_⟩;·rw[dU a a om,if_pos rfl,List.length_append,List.length_singleton];omega
   ·rw[dU a a om,if_pos rfl,fP om,if_neg om,Int.sub_self];rfl
  ·obtain⟨k,b,c,o⟩:=c3 i l om;have r:0<=max (gi n.3 i).2 (gi n.3 i).3:=by have:=q i l om;omega
   generalize max (gi n.3 i).2 (gi n.3 i).3=f at*;rw[dU a r om];split
   ·rename_i d;subst d;refine⟨k,b,?_,?_⟩;·rw[List.length_append];omega
    ·rw[fP b,if_pos c];exact o
   ·exact⟨k,b,c,o⟩
instance s72{n b all}:Spec (Gy (n,b,all)) True λy=>(y.2.2.2=0->gK n/\kK n y.1/\rD n y.1)/\0<=y.2.2.1/\(y.2.2.1=0\/y.2.2.1<=b):=⟨λ_=>by
 unfold Gy
 dsimp only
 refine D5 trivial λv K w=>aR (λ_=>aD ⟨λe=>absurd e (by dsimp only;decide),sm⟩) λh=>?_
 obtain rfl:v=true:=by simpa using h
 have l:=w rfl
 refine aR (λ_=>aD ⟨λe=>absurd e (by dsimp only;decide),sm⟩) λF=>?_
 simp only[Bool.or_eq_false_iff,decide_eq_false_iff_not] at F
 refine iJ om (iJ om (av (λdH=>He n n.3.length dH) (λdH p=>?_) λQ u=>?_))
 ·refine av (λlim:List Int=>lim.length=n.2.length/\All lim λx=>0<=x/\x<=n.1) (λlim d=>?_) λO t=>?_
  ·refine av (λc=> -100000000000000<=c/\c<=100000000000000) (λc f=>?_) λY C=>?_
   ·have D:SOk n lim dH b:=⟨l,d.1,d.2,p.1,λe r s=>⟨by have:=(p.2.1 e r s).1;omega,(p.2.1 e r s).2⟩,p.2.2,om⟩
    obtain⟨y,L,Z,y2,A,B,T⟩:=awc (all:=all) D FUEL 0 c 0 0 (List.replicate (n.2.length:Int).toNat 0) [] false false (by have:(FUEL:Int)=18446744073709551616:=rfl;omega) om om ⟨sm,All.rep om⟩ (λi g q J=>by have:=l.2.2.2.2 i g q;omega) ⟨f.1,om⟩ om om (λh=>by cases h)
    show WP ((Df FUEL _).bind _) _
    rw[L]
    refine aR (λ_=>aD ⟨λe=>absurd e (by dsimp only;decide),sm⟩) λ_=>aR (λ_=>aD ⟨λe=>absurd e (by dsimp only;decide),A,.inr B⟩) λH=>aD ⟨λ_=>?_,A,.inr B⟩
    have:=T (by simpa using H)
    exact⟨l,this.1,this.2.1⟩
   ·refine wp_loop (λx=>0<=x.2/\x.2<=n.3.length/\ -150000000000*x.2<=x.1/\x.1<=150000000000*x.2) (λx=>(n.3.length-x.2).toNat) sm (by simp;omega) λc x ⟨g,q,o,M⟩ f=>?_
    unfold ap4
    dsimp only
    refine aB (λh=>?_) λh=>C _ om
    have E:=l.2.2.2.2 x.2 g h
    refine aA ?_
    generalize gi n.3 x.2=a at*
    have J: -68719476736<=a.6*a.4/\a.6*a.4<=137438953472:=by
     have R:=Int.mul_le_mul (show a.6<=1048576 by omega) (show a.4+65536<=131072 by omega) om om
     have S:=Int.mul_nonneg (show 0<=a.6 by omega) (show 0<=a.4+65536 by omega)
     rw[Int.mul_add] at R S;omega
    exact ak (ak (ak (f _ ⟨om,om,om,om⟩ om)))
  ·refine aP K λcs G=>?_
   refine wp_loop (λx=>0<=x.2.1/\x.2.1<=cs.length/\(x.2.2.length:Int)=x.2.1/\0<=x.1/\x.1<=x.2.1/\All x.2.2 λx=>0<=x/\x<=n.1) (λx=>(cs.length-x.2.1).toNat) ⟨sm,sm,sm,sm,sm,All.nil⟩ (by simp;omega) λc x ⟨g,q,o,M,W,z⟩ f=>?_
   unfold ap2
   dsimp only
   refine aB (λh=>?_) λh=>t _ ⟨om,z⟩
   refine av (λj=>(j.2.length:Int)=x.2.1+1/\0<=j.1/\j.1<=x.2.1+1/\All j.2 λx=>0<=x/\x<=n.1) (λj I=>ak (f _ ⟨om,om,I⟩ om)) λP m=>aA (aB (λ_=>aW (ak (m _ ⟨by simp;omega,om,om,All.app z om⟩))) λ_=>aW (m _ ⟨by simp;omega,om,om,All.app z om⟩))
 ·refine wp_loop (λx=>0<=x.1/\x.1<=n.3.length/\He n x.1 x.2) (λx=>(n.3.length-x.1).toNat) ⟨sm,sm,sm,λe r s=>by rw[aiQ];exact⟨sm,λk X N=>by simp at N;omega⟩,λi a b=>by dsimp only at b;omega⟩ (by simp;omega) λc x ⟨g,q,o⟩ f=>?_
  unfold ap3
  dsimp only
  refine aB (λh=>?_) λh=>u _ (by rwa [show (n.3.length:Int)=x.1 by omega])
  have E:=l.2.2.2.2 x.1 g h
  have V:=o.1
  have U:=(o.2.1 (max (gi n.3 x.1).2 (gi n.3 x.1).3) om om).1
  exact aA (aA (aA (aA (aW (aA (xZ rfl (aA (ak (f _ ⟨om,om,o.succ l.2.2.2.2 g h rfl om om⟩ om)))))))))⟩
instance eD{n b}:Spec (Gx (n,b)) True λy=>y.2.2.2=0->gK n/\kK n y.1/\rD n y.1:=⟨λ_=>by
 unfold Gx
 exact aP trivial λv a=>aD λe=>a.1 e⟩
instance aOy{n b}:Spec (Gw (n,b)) True λy=>(y.2.2=0->gK n/\kK n y.1/\rD n y.1)/\0<=y.2.1/\(y.2.1=0\/y.2.1<=b):=⟨λ_=>by
 unfold Gw
 exact aP trivial λv a=>aD a⟩
end Go.Z
