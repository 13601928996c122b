/- The parts SR, SR2, SR3, SR5, SK, SX, SIR, Eta, Err, Err2, BA, BS, BF, BE, BN, BR, BP, BQ, BT, BG, BL, BM, BO. -/
import Derived.Test.YtgighdoacajmfaaGreatDoorQ5
set_option maxRecDepth 100000
namespace Go.Proofs.YtgighdoacajmfaaGreatDoor
open Go.RowKit
def SV.dgs (x n:Nat):SV:=.sl 1 (λi=>iN (dg x i)) n
theorem bifT{P Q:Prop} [Decidable P] [Decidable Q](h:(bif decide P then decide Q else false)=true):P/\Q:=by
 by_cases p:P
 ·exact⟨p,by simpa [p] using h⟩
 ·simp[p] at h
theorem bifF{P Q:Prop} [Decidable P] [Decidable Q](h:(bif decide P then decide Q else false)=false):¬(P/\Q):=λ⟨p,q⟩=>by simp[p,q] at h
theorem orT{P Q:Prop} [Decidable P] [Decidable Q](h:(bif decide P then true else decide Q)=true):P∨Q:=by
 by_cases p:P
 ·exact .inl p
 ·exact .inr (by simpa [p] using h)
theorem orF{P Q:Prop} [Decidable P] [Decidable Q](h:(bif decide P then true else decide Q)=false):¬P/\¬Q:=by
 by_cases p:P
 ·simp[p] at h
 ·exact⟨p,by simpa [p] using h⟩
theorem quo_u64{a h:Nat}(ha:a<18446744073709551616):IntKind.wrap .u64 ((((a/65536^h:Nat):Int)).tdiv 65536)=((a/65536^(h+1):Nat):Int):=by
 have e:(((a/65536^h:Nat):Int)).tdiv 65536=((a/65536^h/65536:Nat):Int):=rfl
 have h1:=Nat.div_le_self a (65536^h)
 rw[e,Nat.pow_succ,←Nat.div_div_eq_div_mul,IntKind.wrap_u64]
 generalize a/65536^h=v at*
 omega
theorem quo_i64{a b:Nat}(ha:a<9223372036854775808):IntKind.wrap .i64 ((a:Int).tdiv (b:Int))=((a/b:Nat):Int):=by
 have e:((a:Int)).tdiv (b:Int)=((a/b:Nat):Int):=rfl
 have h1:=Nat.div_le_self a b
 rw[e,IntKind.wrap_i64]
 generalize a/b=v at*
 omega
theorem dg_val{w:Nat->Nat}{n g k:Nat}(hw:Wf w n)(hg:g<n)(hk:k<4):dg (val w n) (4*g+k)=w g/65536^k%65536:=by
 have h:=wd_val w n g hw hg
 unfold wd at h
 unfold dg
 rw[show 16*(4*g+k)=64*g+16*k by omega,Nat.pow_add,←Nat.div_div_eq_div_mul,←h]
 generalize val w n/2^(64*g)=v
 match k,hk with
 | 0,_=>omega
 | 1,_=>show v/65536%65536=v%18446744073709551616/65536%65536;omega
 | 2,_=>show v/4294967296%65536=v%18446744073709551616/4294967296%65536;omega
 | 3,_=>show v/281474976710656%65536=v%18446744073709551616/281474976710656%65536;omega
theorem val_dg{w:Nat->Nat}{n:Nat}(hw:Wf w n):val w n<2^(16*(4*n)):=by
 rw[show 16*(4*n)=64*n by omega];exact val_lt w n hw
theorem or3T{P Q R:Prop} [Decidable P] [Decidable Q] [Decidable R](h:(bif (bif decide P then true else decide Q) then true else decide R)=true):P∨Q∨R:=by
 by_cases p:P
 ·exact .inl p
 ·by_cases q:Q
  ·exact .inr (.inl q)
  ·exact .inr (.inr (by simpa [p,q] using h))
theorem or3F{P Q R:Prop} [Decidable P] [Decidable Q] [Decidable R](h:(bif (bif decide P then true else decide Q) then true else decide R)=false):¬P/\¬Q/\¬R:=by
 by_cases p:P
 ·simp[p] at h
 ·by_cases q:Q
  ·simp[p,q] at h
  ·exact⟨p,q,by simpa [p,q] using h⟩
theorem mul_i64{a b:Nat}(h:a*b<9223372036854775808):IntKind.wrap .i64 ((a:Int)*(b:Int))=((a*b:Nat):Int):=by
 rw[←Int.natCast_mul,IntKind.wrap_i64];omega
theorem pow_i64{g:Nat}(h:g<62):IntKind.wrap .i64 ((2:Int)*((2^g:Nat):Int))=((2^(g+1):Nat):Int):=by
 have h1:2^g<=2^61:=Nat.pow_le_pow_right zd zo
 have h2:(2:Nat)^61=2305843009213693952:=by decide
 rw[Nat.pow_succ,IntKind.wrap_i64];omega
theorem dg_shl{x k g j:Nat}(h:g=k/16):dg (x*2^(k%16)) j=dg (x*2^k) (g+j):=by
 rw[dg_mul_pow (x:=x) (k:=k) (i:=g+j),if_neg zo,show g+j-k/16=j by omega]
theorem dg_shl0{x k g:Nat}(h:g<k/16):dg (x*2^k) g=0:=by rw[dg_mul_pow,if_pos h]
theorem pow16_le{k:Nat}:2^(k%16)<=32768:=Nat.pow_le_pow_right zd (show k%16<=15 by omega)
def dn (g y i:Nat):Nat:=if g<=i then dg y i else 0
theorem dn_lo{g y i:Nat}(h:i<g):dn g y i=0:=if_neg zo
theorem dn_hi{g y i:Nat}(h:g<=i):dn g y i=dg y i:=if_pos h
theorem dn_ne{g y t:Nat}(h:t≠g-1):dn (g-1) y t=dn g y t:=by
 unfold dn
 by_cases e:g<=t
 ·rw[if_pos e,if_pos zo]
 ·rw[if_neg e,if_neg zo]
theorem half_at{x m g:Nat}(hm:0<m)(hg:0<g):(x/2^(16*g)%m*65536+dg x (g-1))%m=x/2^(16*(g-1))%m/\(x/2^(16*g)%m*65536+dg x (g-1))/m=dg (x/m) (g-1):=by
 have h:=half_step (x:=x) hm (g-1)
 rw[show g-1+1=g by omega] at h
 exact h
theorem nd_zero_div{y:Nat}:y/2^(16*nd y)=0:=Nat.div_eq_of_lt (lt_nd y)
theorem even_dg(x:Nat):x%2=dg x 0%2:=by
 unfold dg
 simp only[Nat.mul_zero,Nat.pow_zero,Nat.div_one]
 omega
theorem nd_div(x y:Nat):nd (x/y)<=nd x:=jB (Nat.div_le_self x y)
theorem nd_mod(x y:Nat):nd (x%y)<=nd x:=jB (Nat.mod_le x y)
theorem nd_one:nd 1=1:=rfl
theorem nd_x2(x:Nat):nd (x*2)<=nd x+1:=by
 have:=nd_mul x 2
 have:nd 2=1:=rfl
 omega
theorem sTrim{x n:Nat}(hn:n<=68719476736)(hx:x<2^(16*n)):CallOK Tryz.prog 136 [.dgs x n] (.dgs x (nd x)) []:=by
 exact kP (ch:=[.loop 2 (Nat) (λg=>g<=n/\x<2^(16*g)) (λg=>g) (λg=>⟨[(0,.dgs x n),(3,iN g)],[],0⟩) [] (λ_=>[]) (λg=>[.reg 2 [(6,.k (g-1))],.reg 5 [(3,.kk 0 g),(4,.row 0 (λi0=>iN (dg x i0)))]])]) Tryz.func136 ((∀j0,j0<n->True)/\(((λX1 X2:Prop=>∃g0:Nat,X1/\X2/\((n:Int)=(g0:Int))/\(g0<=n/\x<2^(16*g0))) _ _)/\∀g:Nat,(g<=n/\x<2^(16*g))->_/\(((decide ((0:Int)<(g:Int)))==true)=true->IntKind.wrap .i64 ((g:Int)-1)=((g:Int)-1))/\_/\_/\(((decide ((0:Int)<(g:Int)))==true)=true->((g:Int)-1:Int)=((g-1:Nat):Int))/\(((decide ((0:Int)<(g:Int)))==true)=true->(g-1)<n)/\_/\_/\((decide ((0:Int)<(g:Int)))=true->((decide ((0:Int)<(g:Int)))==true)=true)/\(((bif (decide ((0:Int)<(g:Int))) then(decide (((dg x (g-1):Nat):Int)=0)) else false)=true->(IntKind.wrap .i64 ((g:Int)-1)=((g:Int)-1))/\((λX1 X2:Prop=>∃g1:Nat,X1/\X2/\(((g:Int)-1:Int)=(g1:Int))/\(g1<=n/\x<2^(16*g1))/\(g1<g)) _ _))/\((bif (decide ((0:Int)<(g:Int))) then(decide (((dg x (g-1):Nat):Int)=0)) else false)=false->_/\(g<=n)/\(g<=68719476736)/\_/\(((g:Nat)=(nd x))/\_)))))
  ⟨(λ_ _=>trivial),⟨n,(rf n),(leS (λi0=>iN (dg x i0)) n),zo,Nat.le_refl _,hx⟩,λg hg=>have hg1:=hg.1;⟨(idB ((decide ((0:Int)<(g:Int)))==true)),(λhg=>(by rw[IntKind.wrap_i64];omega)),(idB ((decide ((0:Int)<(g:Int)))==true)),(idB ((decide ((0:Int)<(g:Int)))==true)),(λhg=>(by simp at hg;omega)),(λhg=>(by simp at hg;omega)),(idB ((decide ((0:Int)<(g:Int)))==true)),(idB ((decide ((0:Int)<(g:Int)))==true)),(by first | (simp;done) | (simp;omega)),λhc16=>have hc:=bifT hc16;⟨(by rw[IntKind.wrap_i64];omega),g-1,(rf n),(leS (λi0=>iN (dg x i0)) n),zo,⟨by omega,nd_step (by rw[show g-1+1=g by omega];exact hg.2) zo⟩,zo⟩,λhc16=>have hc:=bifF hc16;have hnd:=nd_end hg.2 zo;⟨(rf (g:Int)),zo,zo,(leS (λi0=>iN (dg x i0)) g),hnd.symm,(leS (λi0=>iN (dg x i0)) g)⟩⟩⟩
theorem sRefOf{w:Nat->Nat}{n:Nat}(hn:n<=1073741824)(hw:Wf w n):CallOK Tryz.prog 104 [.sl 1 (λi0=>uZ (w i0:Int)) n] (.dgs (val w n) (nd (val w n))) []:=by
 exact kP (ch:=[.loop 3 (Nat) (λg=>g<=n) (λg=>n-g) (λg=>⟨[(0,.sl 1 (λi0=>uZ (w i0:Int)) n),(3,.own 0 0),(4,iN g)],[(0,.one (.row 3 1 (λi0=>iN (dg (val w n) i0)) (4*g)))],1⟩) [(0,.nil)] (λ_=>[(0,.id 0)]) (λg=>[.reg 5 [(2,.k g)],.loop 7 (Nat) (λh=>h<=4) (λh=>4-h) (λh=>⟨[(0,.sl 1 (λi0=>uZ (w i0:Int)) n),(3,.own 0 0),(4,iN g),(5,uZ ((w g/65536^h:Nat):Int)),(6,iN h)],[(0,.one (.row 3 1 (λi0=>iN (dg (val w n) i0)) (4*g+h)))],1⟩) [(0,.id 0)] (λ_=>[(0,.id 1)]) (λh=>[.reg 9 [(2,.z (dg (val w n) (4*g+h):Int)),(3,.z (dg (val w n) (4*g+h):Int)),(5,.row 0 (λi0=>iN (dg (val w n) i0)))],.reg 10 [(1,.z ((w g/65536^(h+1):Nat):Int))],.reg 8 [(1,.z ((h+1:Nat):Int))],.reg 4 [(1,.z ((g+1:Nat):Int))]]),.conv 11 [] ⟨[(3,.dgs (val w n) (4*g))],[],1⟩,.reg 11 [(1,.callS (.dgs (val w n) (nd (val w n))) [])]])]) Tryz.func104 ((∀j0,j0<n->True)/\(((λX1 X2 X3:Prop=>∃g0:Nat,X1/\X2/\X3/\((0:Int)=(g0:Int))/\((4*g0:Nat)=0)/\(g0<=n)) _ _ _)/\∀g:Nat,(g<=n)->(((decide ((g:Int)<(n:Int)))=true->_/\(g<n)/\(((λX1 X2 X3 X4 X5:Prop=>∃h0:Nat,X1/\X2/\X3/\X4/\(((w g:Nat):Int)=((w g/65536^h0:Nat):Int))/\((0:Int)=(h0:Int))/\((4*g:Nat)=(4*g+h0))/\X5/\(h0<=4)) _ _ _ _ _)/\∀h:Nat,(h<=4)->(((decide ((h:Int)<4))=true->((65536:Int)≠0)/\(((w g/65536^h:Nat):Int).tmod 65536=(((dg (val w n) (4*g+h):Nat):Int)))/\(IntKind.wrap .i64 (dg (val w n) (4*g+h):Int)=(((dg (val w n) (4*g+h):Nat):Int)))/\((4*g+h)+1<=68719476736)/\_/\_/\((65536:Int)≠0)/\(IntKind.wrap .u64 (((w g/65536^h:Nat):Int).tdiv 65536)=(((w g/65536^(h+1):Nat):Int)))/\_/\((λX1 X2 X3 X4 X5:Prop=>∃h1:Nat,X1/\X2/\X3/\X4/\(((w g/65536^(h+1):Nat):Int)=((w g/65536^h1:Nat):Int))/\(((h+1:Nat):Int)=(h1:Int))/\(((4*g+h)+1:Nat)=(4*g+h1))/\X5/\(h1<=4)/\(4-h1<4-h)) _ _ _ _ _))/\((decide ((h:Int)<4))=false->_/\((λX1 X2 X3 X4:Prop=>∃g1:Nat,X1/\X2/\X3/\(((g+1:Nat):Int)=(g1:Int))/\((4*g+h:Nat)=(4*g1))/\X4/\(g1<=n)/\(n-g1<n-g)) _ _ _ _)))))/\((decide ((g:Int)<(n:Int)))=false->_/\_/\_/\(_/\_)))))
  ⟨(λ_ _=>trivial),⟨0,(rf n),(leS (λi0=>uZ (w i0:Int)) n),(rf 0),zo,zo,zo⟩,λg hg=>⟨λhc10=>have hc10:=dT hc10;have hgn:g<n:=zo;⟨(rf (g:Int)),zo,⟨0,(rf n),(leS (λi0=>uZ (w i0:Int)) n),(rf 0),(rf (g:Int)),zs,zo,zo,(leS (λi0=>iN (dg (val w n) i0)) (4*g)),zo⟩,λh hh=>⟨λhc18=>have hc18:=dT hc18;have hwd:=dg_val hw hgn (k:=h) zo;have hd:=dg_lt (val w n) (4*g+h);⟨zd,(by rw[hwd];rfl),(by rw[IntKind.wrap_i64];omega),zo,(oldS (λi0=>iN (dg (val w n) i0)) (4*g+h)),(newS (λi0=>iN (dg (val w n) i0)) (4*g+h)),zd,(quo_u64 (hw g hgn)),(wI (g:=h) zo),h+1,(rf n),(leS (λi0=>uZ (w i0:Int)) n),(rf 0),(rf (g:Int)),zo,zo,zo,(leS (λi0=>iN (dg (val w n) i0)) ((4*g+h)+1)),zo,zo⟩,λhc18=>have hc18:=dF hc18;have hi3:h=4:=zo;⟨(wI (g:=g) zo),g+1,(rf n),(leS (λi0=>uZ (w i0:Int)) n),(rf 0),zo,zo,(leS (λi0=>iN (dg (val w n) i0)) (4*g+h)),zo,zo⟩⟩⟩,λhc10=>have hc10:=dF hc10;have hi2:g=n:=zo;⟨(rf (4*g:Nat)),(leS (λi0=>iN (dg (val w n) i0)) (4*g)),sTrim (x:=val w n) (n:=4*g) zo (by subst hi2;exact val_dg hw),(rf (nd (val w n):Nat)),(leS (λi0=>iN (dg (val w n) i0)) (nd (val w n)))⟩⟩⟩
theorem sDigit{x k:Nat}:CallOK Tryz.prog 162 [.dgs x (nd x),iN k] (iN (dg x k)) []:=by
 exact kP (ch:=[.reg 3 [(2,.k k)]]) Tryz.func162 ((∀j0,j0<(nd x)->True)/\_/\_/\_/\((!(decide ((k:Int)<0)))=true->((decide ((k:Int)<0))==false)=true)/\(((bif (decide ((k:Int)<0)) then true else(decide (((nd x:Nat):Int)<=(k:Int))))=true->(((0:Int)=(dg x k:Int))))/\((bif (decide ((k:Int)<0)) then true else(decide (((nd x:Nat):Int)<=(k:Int))))=false->_/\(k<(nd x))/\(_))))
  ⟨(λ_ _=>trivial),(idB ((decide ((k:Int)<0))==false)),(idB ((decide ((k:Int)<0))==false)),(idB ((decide ((k:Int)<0))==false)),(by first | (simp;done) | (simp;omega)),λhc12=>have hc:=orT hc12;have hz:=dg_nd (x:=x) (i:=k) zo;zo,λhc12=>have hc:=orF hc12;⟨(rf (k:Int)),zo,(rf (dg x k:Int))⟩⟩
theorem sRefAdd{x y:Nat}(hx:nd x<=17179869184)(hy:nd y<=17179869184):CallOK Tryz.prog 139 [.dgs x (nd x),.dgs y (nd y)] (.dgs (x+y) (nd (x+y))) []:=by
 exact kP (ch:=[.loop 4 (Nat) (λg=>g<=max (nd x) (nd y)+1) (λg=>max (nd x) (nd y)+1-g) (λg=>⟨[(0,.dgs x (nd x)),(1,.dgs y (nd y)),(5,.own 0 0),(6,iN (cry x y g)),(7,iN g)],[(0,.one (.row 3 1 (λi0=>iN (dg (x+y) i0)) g))],1⟩) [(0,.nil)] (λ_=>[(0,.id 1)]) (λg=>[.reg 6 [(2,.callS (iN (dg x g)) []),(5,.callS (iN (dg y g)) []),(6,.z ((dg x g+dg y g:Nat):Int)),(8,.z ((dg x g+dg y g+cry x y g:Nat):Int))],.reg 7 [(2,.z (dg (x+y) g:Int)),(4,.row 0 (λi0=>iN (dg (x+y) i0)))],.reg 8 [(1,.z (cry x y (g+1):Int))],.reg 5 [(1,.z ((g+1:Nat):Int))],.conv 9 [] ⟨[(5,.dgs (x+y) g)],[],1⟩,.reg 9 [(1,.callS (.dgs (x+y) (nd (x+y))) [])]])]) Tryz.func139 ((∀j0,j0<(nd x)->True)/\(∀j0,j0<(nd y)->True)/\(((λX1 X2 X3 X4 X5:Prop=>∃g0:Nat,X1/\X2/\X3/\X4/\X5/\((0:Int)=(cry x y g0:Int))/\((0:Int)=(g0:Int))/\((g0:Nat)=0)/\(g0<=max (nd x) (nd y)+1)) _ _ _ _ _)/\∀g:Nat,(g<=max (nd x) (nd y)+1)->_/\_/\_/\((!(decide ((g:Int)<(nd x:Int))))=true->((decide ((g:Int)<(nd x:Int)))==false)=true)/\_/\((!(bif (decide ((g:Int)<(nd x:Int))) then true else(decide ((g:Int)<(nd y:Int)))))=true->((bif (decide ((g:Int)<(nd x:Int))) then true else(decide ((g:Int)<(nd y:Int))))==false)=true)/\(((bif (bif (decide ((g:Int)<(nd x:Int))) then true else(decide ((g:Int)<(nd y:Int)))) then true else(decide ((0:Int)<(cry x y g:Int))))=true->_/\_/\(IntKind.wrap .i64 (((dg x g:Nat):Int)+(dg y g:Int))=(((dg x g+dg y g:Nat):Int)))/\(IntKind.wrap .i64 (((dg x g+dg y g:Nat):Int)+(cry x y g:Int))=(((dg x g+dg y g+cry x y g:Nat):Int)))/\((65536:Int)≠0)/\(((dg x g+dg y g+cry x y g:Nat):Int).tmod 65536=(((dg (x+y) g:Nat):Int)))/\(g+1<=68719476736)/\_/\_/\((65536:Int)≠0)/\(IntKind.wrap .i64 (((dg x g+dg y g+cry x y g:Nat):Int).tdiv 65536)=(((cry x y (g+1):Nat):Int)))/\_/\((λX1 X2 X3 X4 X5 X6:Prop=>∃g1:Nat,X1/\X2/\X3/\X4/\X5/\(((cry x y (g+1):Nat):Int)=(cry x y g1:Int))/\(((g+1:Nat):Int)=(g1:Int))/\((g+1:Nat)=g1)/\X6/\(g1<=max (nd x) (nd y)+1)/\(max (nd x) (nd y)+1-g1<max (nd x) (nd y)+1-g)) _ _ _ _ _ _))/\((bif (bif (decide ((g:Int)<(nd x:Int))) then true else(decide ((g:Int)<(nd y:Int)))) then true else(decide ((0:Int)<(cry x y g:Int))))=false->_/\_/\_/\(_/\_)))))
  ⟨(λ_ _=>trivial),(λ_ _=>trivial),⟨0,(rf (nd x:Nat)),(leS (λi0=>iN (dg x i0)) (nd x)),(rf (nd y:Nat)),(leS (λi0=>iN (dg y i0)) (nd y)),(rf 0),(by rw[cry_zero];rfl),zo,zo,zo⟩,λg hg=>⟨(idB ((decide ((g:Int)<(nd x:Int)))==false)),(idB ((decide ((g:Int)<(nd x:Int)))==false)),(idB ((decide ((g:Int)<(nd x:Int)))==false)),(by simp;done),(idB ((bif (decide ((g:Int)<(nd x:Int))) then true else(decide ((g:Int)<(nd y:Int))))==false)),(by simp;done),λhc22=>have hc:=or3T hc22;have ho:max (nd x) (nd y)<g->cry x y g=0:=(λh=>cry_over zo zo);have h1:=dg_lt x g;have h2:=dg_lt y g;have h3:=cry_le x y g;⟨sDigit (x:=x) (k:=g),sDigit (x:=y) (k:=g),(by rw[IntKind.wrap_i64];omega),(by rw[IntKind.wrap_i64];omega),zd,(by rw[←(cry_step x y g).2];rfl),zo,(oldS (λi0=>iN (dg (x+y) i0)) g),(newS (λi0=>iN (dg (x+y) i0)) g),zd,(by rw[←(cry_step x y g).1];exact quo_i64 zo),(wI (g:=g) zo),g+1,(rf (nd x:Nat)),(leS (λi0=>iN (dg x i0)) (nd x)),(rf (nd y:Nat)),(leS (λi0=>iN (dg y i0)) (nd y)),(rf 0),zo,zo,zo,(leS (λi0=>iN (dg (x+y) i0)) (g+1)),zo,zo⟩,λhc22=>have hc:=or3F hc22;⟨(rf g),(leS (λi0=>iN (dg (x+y) i0)) g),sTrim (x:=x+y) (n:=g) zo (cry_top zo zo zo),(rf (nd (x+y):Nat)),(leS (λi0=>iN (dg (x+y) i0)) (nd (x+y)))⟩⟩⟩
theorem sRefSub{x y:Nat}(hx:nd x<=17179869184)(hyx:y<=x):CallOK Tryz.prog 143 [.dgs x (nd x),.dgs y (nd y)] (.dgs (x-y) (nd (x-y))) []:=by
 have hy:=jB hyx
 exact kP (ch:=[.loop 4 (Nat) (λg=>g<=nd x) (λg=>(nd x)-g) (λg=>⟨[(0,.dgs x (nd x)),(1,.dgs y (nd y)),(5,.own 0 0),(6,iN (brw x y g)),(7,iN g)],[(0,.one (.row 3 1 (λi0=>iN (dg (x-y) i0)) g))],1⟩) [(0,.nil)] (λ_=>[(0,.id 1)]) (λg=>[.reg 6 [(2,.k g),(6,.callS (iN (dg y g)) [])],.reg 9 [(1,.z (dg (x-y) g:Int))],.reg 11 [(3,.row 0 (λi0=>iN (dg (x-y) i0)))],.reg 5 [(1,.z ((g+1:Nat):Int))],.reg 11 [(3,.row 0 (λi0=>iN (dg (x-y) i0)))],.reg 5 [(1,.z ((g+1:Nat):Int))],.conv 12 [] ⟨[(5,.dgs (x-y) g)],[],1⟩,.reg 12 [(1,.callS (.dgs (x-y) (nd (x-y))) [])]])]) Tryz.func143 ((∀j0,j0<(nd x)->True)/\(∀j0,j0<(nd y)->True)/\(((λX1 X2 X3 X4 X5:Prop=>∃g0:Nat,X1/\X2/\X3/\X4/\X5/\((0:Int)=(brw x y g0:Int))/\((0:Int)=(g0:Int))/\((g0:Nat)=0)/\(g0<=nd x)) _ _ _ _ _)/\∀g:Nat,(g<=nd x)->(((decide ((g:Int)<(nd x:Int)))=true->_/\(g<(nd x))/\_/\(IntKind.wrap .i64 (((dg x g:Nat):Int)-(dg y g:Int))=(((dg x g:Nat):Int)-(dg y g:Int)))/\(IntKind.wrap .i64 (((dg x g:Int)-(dg y g:Int):Int)-(brw x y g:Int))=(((dg x g:Int)-(dg y g:Int):Int)-(brw x y g:Int)))/\(((decide (((((dg x g:Nat):Int)-(dg y g:Int):Int)-(brw x y g:Int):Int)<0))=true->(IntKind.wrap .i64 (((((dg x g:Nat):Int)-(dg y g:Int):Int)-(brw x y g:Int):Int)+65536)=(((dg (x-y) g:Nat):Int)))/\(g+1<=68719476736)/\_/\(∀j0,j0<1->(((dg (x-y) g:Nat):Int)=(dg (x-y) (g+j0):Int)))/\_/\((λX1 X2 X3 X4 X5 X6:Prop=>∃g1:Nat,X1/\X2/\X3/\X4/\X5/\((1:Int)=(brw x y g1:Int))/\(((g+1:Nat):Int)=(g1:Int))/\((g+1:Nat)=g1)/\X6/\(g1<=nd x)/\((nd x)-g1<(nd x)-g)) _ _ _ _ _ _))/\((decide (((((dg x g:Nat):Int)-(dg y g:Int):Int)-(brw x y g:Int):Int)<0))=false->(g+1<=68719476736)/\_/\(∀j0,j0<1->(((((dg x g:Nat):Int)-(dg y g:Int):Int)-(brw x y g:Int):Int)=(dg (x-y) (g+j0):Int)))/\_/\((λX1 X2 X3 X4 X5 X6:Prop=>∃g1:Nat,X1/\X2/\X3/\X4/\X5/\((0:Int)=(brw x y g1:Int))/\(((g+1:Nat):Int)=(g1:Int))/\((g+1:Nat)=g1)/\X6/\(g1<=nd x)/\((nd x)-g1<(nd x)-g)) _ _ _ _ _ _))))/\((decide ((g:Int)<(nd x:Int)))=false->_/\_/\_/\(_/\_)))))
  ⟨(λ_ _=>trivial),(λ_ _=>trivial),⟨0,(rf (nd x:Nat)),(leS (λi0=>iN (dg x i0)) (nd x)),(rf (nd y:Nat)),(leS (λi0=>iN (dg y i0)) (nd y)),(rf 0),(by rw[brw_zero];rfl),zo,zo,zo⟩,λg hg=>⟨λhc12=>have hc12:=dT hc12;have h1:=dg_lt x g;have h2:=dg_lt y g;have h3:=brw_le x y g;have h4:=brw_step hyx g;⟨(rf (g:Int)),zo,sDigit (x:=y) (k:=g),(by rw[IntKind.wrap_i64];omega),(by rw[IntKind.wrap_i64];omega),λhc26=>have hc26:=dT hc26;have hb:=h4.1 zo;⟨(by rw[IntKind.wrap_i64];omega),zo,(oldS (λi0=>iN (dg (x-y) i0)) g),(λj0 hj0=>(by obtain rfl:j0=0:=zo;show _=(dg (x-y) g:Int);omega)),(wI (g:=g) zo),g+1,(rf (nd x:Nat)),(leS (λi0=>iN (dg x i0)) (nd x)),(rf (nd y:Nat)),(leS (λi0=>iN (dg y i0)) (nd y)),(rf 0),zo,zo,zo,(leS (λi0=>iN (dg (x-y) i0)) (g+1)),zo,zo⟩,λhc26=>have hc26:=dF hc26;have hb:=h4.2 zo;⟨zo,(oldS (λi0=>iN (dg (x-y) i0)) g),(λj0 hj0=>(by obtain rfl:j0=0:=zo;show _=(dg (x-y) g:Int);omega)),(wI (g:=g) zo),g+1,(rf (nd x:Nat)),(leS (λi0=>iN (dg x i0)) (nd x)),(rf (nd y:Nat)),(leS (λi0=>iN (dg y i0)) (nd y)),(rf 0),zo,zo,zo,(leS (λi0=>iN (dg (x-y) i0)) (g+1)),zo,zo⟩⟩,λhc12=>have hc12:=dF hc12;have hi2:g=nd x:=zo;⟨(rf g),(leS (λi0=>iN (dg (x-y) i0)) g),sTrim (x:=x-y) (n:=g) zo (kJ (by have:=jB (Nat.sub_le x y);omega)),(rf (nd (x-y):Nat)),(leS (λi0=>iN (dg (x-y) i0)) (nd (x-y)))⟩⟩⟩
theorem sSmall{x m a:Nat}(hx:nd x<=17179869184)(hm:m<=65536)(ha:a<=65536):CallOK Tryz.prog 141 [.dgs x (nd x),iN m,iN a] (.dgs (x*m+a) (nd (x*m+a))) []:=by
 have hce:=cryM_end (m:=m) (a:=a) (lt_nd x) zo
 exact kP (ch:=[.loop 4 (Nat) (λg=>g<=nd x) (λg=>(nd x)-g) (λg=>⟨[(0,.dgs x (nd x)),(1,iN m),(7,.own 0 0),(8,iN (cryM x m a g)),(9,iN g)],[(0,.one (.row 3 1 (λi0=>iN (dg (x*m+a) i0)) g))],1⟩) [(0,.nil)] (λ_=>[(0,.id 1)]) (λg=>[.reg 6 [(2,.k g),(5,.z ((dg x g*m:Nat):Int)),(7,.z ((dg x g*m+cryM x m a g:Nat):Int))],.reg 7 [(2,.z (dg (x*m+a) g:Int)),(4,.row 0 (λi0=>iN (dg (x*m+a) i0)))],.reg 8 [(1,.z (cryM x m a (g+1):Int))],.reg 5 [(1,.z ((g+1:Nat):Int))],.reg 9 [(2,.z (dg (x*m+a) g:Int)),(4,.z (dg (x*m+a) (g+1):Int)),(5,.row 0 (λi0=>iN (dg (x*m+a) (g+i0)))),(6,.row 0 (λi0=>iN (dg (x*m+a) i0)))],.conv 10 [] ⟨[(7,.dgs (x*m+a) (g+2))],[],3⟩,.reg 10 [(1,.callS (.dgs (x*m+a) (nd (x*m+a))) [])]])]) Tryz.func141 ((∀j0,j0<(nd x)->True)/\(((λX1 X2 X3 X4:Prop=>∃g0:Nat,X1/\X2/\X3/\X4/\((a:Int)=(cryM x m a g0:Int))/\((0:Int)=(g0:Int))/\((g0:Nat)=0)/\(g0<=nd x)) _ _ _ _)/\∀g:Nat,(g<=nd x)->(((decide ((g:Int)<(nd x:Int)))=true->_/\(g<(nd x))/\(IntKind.wrap .i64 (((dg x g:Nat):Int)*(m:Int))=(((dg x g*m:Nat):Int)))/\(IntKind.wrap .i64 (((dg x g*m:Nat):Int)+(cryM x m a g:Int))=(((dg x g*m+cryM x m a g:Nat):Int)))/\((65536:Int)≠0)/\(((dg x g*m+cryM x m a g:Nat):Int).tmod 65536=(((dg (x*m+a) g:Nat):Int)))/\(g+1<=68719476736)/\_/\_/\((65536:Int)≠0)/\(IntKind.wrap .i64 (((dg x g*m+cryM x m a g:Nat):Int).tdiv 65536)=(((cryM x m a (g+1):Nat):Int)))/\_/\((λX1 X2 X3 X4 X5:Prop=>∃g1:Nat,X1/\X2/\X3/\X4/\(((cryM x m a (g+1):Nat):Int)=(cryM x m a g1:Int))/\(((g+1:Nat):Int)=(g1:Int))/\((g+1:Nat)=g1)/\X5/\(g1<=nd x)/\((nd x)-g1<(nd x)-g)) _ _ _ _ _))/\((decide ((g:Int)<(nd x:Int)))=false->((65536:Int)≠0)/\(((cryM x m a g:Nat):Int).tmod 65536=(((dg (x*m+a) g:Nat):Int)))/\((65536:Int)≠0)/\(IntKind.wrap .i64 (((cryM x m a g:Nat):Int).tdiv 65536)=(((dg (x*m+a) (g+1):Nat):Int)))/\(((dg (x*m+a) g:Nat):Int)=(dg (x*m+a) (g+0):Int))/\_/\(g+2<=68719476736)/\_/\(∀j0,j0<2->(((dg (x*m+a) (g+j0):Nat):Int)=(dg (x*m+a) (g+j0):Int)))/\_/\_/\_/\(_/\_)))))
  ⟨(λ_ _=>trivial),⟨0,(rf (nd x:Nat)),(leS (λi0=>iN (dg x i0)) (nd x)),(rf (m:Int)),(rf 0),(by rw[cryM_zero]),zo,zo,zo⟩,λg hg=>have h3:=cryM_le (x:=x) (m:=m) (a:=a) (g:=g);⟨λhc15=>have hc15:=dT hc15;have h1:=dgm_le (x:=x) (i:=g) hm;⟨(rf (g:Int)),zo,(mul_i64 zo),(by rw[IntKind.wrap_i64];omega),zd,(by rw[←(cryM_step x m a g).2];rfl),zo,(oldS (λi0=>iN (dg (x*m+a) i0)) g),(newS (λi0=>iN (dg (x*m+a) i0)) g),zd,(by rw[←(cryM_step x m a g).1];exact quo_i64 zo),(wI (g:=g) zo),g+1,(rf (nd x:Nat)),(leS (λi0=>iN (dg x i0)) (nd x)),(rf (m:Int)),(rf 0),zo,zo,zo,(leS (λi0=>iN (dg (x*m+a) i0)) (g+1)),zo,zo⟩,λhc15=>have hc15:=dF hc15;have hi2:g=nd x:=zo;⟨zd,(by subst hi2;rw[←hce.2.1];rfl),zd,(by subst hi2;rw[←hce.2.2];exact quo_i64 zo),rfl,(rf (dg (x*m+a) (g+1):Int)),zo,(oldS (λi0=>iN (dg (x*m+a) i0)) g),(λj0 hj0=>rfl),(rf (g+2:Nat)),(leS (λi0=>iN (dg (x*m+a) i0)) (g+2)),sTrim (x:=x*m+a) (n:=g+2) zo (by subst hi2;exact hce.1),(rf (nd (x*m+a):Nat)),(leS (λi0=>iN (dg (x*m+a) i0)) (nd (x*m+a)))⟩⟩⟩
theorem sSmall0{x m:Nat}(hx:nd x<=17179869184)(hm:m<=65536):CallOK Tryz.prog 141 [.dgs x (nd x),iN m,.ex (.int .i64 0)] (.dgs (x*m) (nd (x*m))) []:=sSmall (a:=0) hx hm zo
theorem sPower{k:Nat}(hk:k<=60):CallOK Tryz.prog 163 [iN k] (iN (2^k)) []:=by
 exact kP (ch:=[.loop 3 (Nat) (λg=>g<=k) (λg=>k-g) (λg=>⟨[(0,iN k),(3,iN (2^g)),(4,iN g)],[],0⟩) [] (λ_=>[]) (λg=>[.reg 5 [(1,.z ((2^(g+1):Nat):Int))],.reg 4 [(1,.z ((g+1:Nat):Int))]])]) Tryz.func163 ((((λX1:Prop=>∃g0:Nat,X1/\((1:Int)=((2^g0:Nat):Int))/\((0:Int)=(g0:Int))/\(g0<=k)) _)/\∀g:Nat,(g<=k)->(((decide ((g:Int)<(k:Int)))=true->(IntKind.wrap .i64 ((2:Int)*((2^g:Nat):Int))=(((2^(g+1):Nat):Int)))/\_/\((λX1:Prop=>∃g1:Nat,X1/\(((2^(g+1):Nat):Int)=((2^g1:Nat):Int))/\(((g+1:Nat):Int)=(g1:Int))/\(g1<=k)/\(k-g1<k-g)) _))/\((decide ((g:Int)<(k:Int)))=false->((((2^g:Nat):Int)=((2^k:Nat):Int)))))))
  ⟨⟨0,(rf (k:Int)),rfl,zo,zo⟩,λg hg=>⟨λhc7=>have hc7:=dT hc7;⟨(pow_i64 zo),(wI (g:=g) zo),g+1,(rf (k:Int)),zo,zo,zo,zo⟩,λhc7=>have hc7:=dF hc7;have hi2:g=k:=zo;(by rw[hi2])⟩⟩
theorem sRefShl{x k:Nat}(hx:nd x<=8589934592)(hk:k<=34359738368):CallOK Tryz.prog 140 [.dgs x (nd x),iN k] (.dgs (x*2^k) (nd (x*2^k))) []:=by
 have hp:=pow16_le (k:=k)
 have hq:=nd_mul x (2^(k%16))
 rw[nd_pow] at hq
 exact kP (ch:=[.loop 3 (Nat) (λg=>g<=k/16) (λg=>(k/16)-g) (λg=>⟨[(0,.dgs x (nd x)),(1,iN k),(5,.own 0 0),(6,iN g)],[(0,.one (.row 3 1 (λi0=>iN (dg (x*2^k) i0)) g))],1⟩) [(0,.nil)] (λ_=>[(0,.id 1)]) (λg=>[.reg 3 [(2,.z ((k/16:Nat):Int))],.reg 5 [(2,.row 0 (λi0=>iN (dg (x*2^k) i0)))],.reg 4 [(1,.z ((g+1:Nat):Int))],.reg 6 [(3,.z ((k%16:Nat):Int)),(4,.callS (iN (2^(k%16))) []),(5,.callS (.dgs (x*(2^(k%16))) (nd (x*(2^(k%16))))) []),(6,.row 0 (λi0=>iN (dg (x*2^k) i0)))],.conv 7 [] ⟨[(5,.dgs (x*2^k) (g+nd (x*2^(k%16))))],[],3⟩,.reg 7 [(1,.callS (.dgs (x*2^k) (nd (x*2^k))) [])]])]) Tryz.func140 ((∀j0,j0<(nd x)->True)/\(((λX1 X2 X3 X4:Prop=>∃g0:Nat,X1/\X2/\X3/\X4/\((0:Int)=(g0:Int))/\((g0:Nat)=0)/\(g0<=k/16)) _ _ _ _)/\∀g:Nat,(g<=k/16)->((16:Int)≠0)/\(IntKind.wrap .i64 ((k:Int).tdiv 16)=(((k/16:Nat):Int)))/\(((decide ((g:Int)<((k/16:Nat):Int)))=true->(g+1<=68719476736)/\_/\(∀j0,j0<1->((0:Int)=(dg (x*2^k) (g+j0):Int)))/\_/\((λX1 X2 X3 X4 X5:Prop=>∃g1:Nat,X1/\X2/\X3/\X4/\(((g+1:Nat):Int)=(g1:Int))/\((g+1:Nat)=g1)/\X5/\(g1<=k/16)/\((k/16)-g1<(k/16)-g)) _ _ _ _ _))/\((decide ((g:Int)<((k/16:Nat):Int)))=false->((16:Int)≠0)/\((k:Int).tmod 16=(((k%16:Nat):Int)))/\_/\_/\(g+(nd (x*(2^(k%16))))<=68719476736)/\_/\(∀j0,j0<(nd (x*(2^(k%16))))->(((dg (x*(2^(k%16))) j0:Nat):Int)=(dg (x*2^k) (g+j0):Int)))/\((g+(nd (x*(2^(k%16)))):Nat)=(g+nd (x*2^(k%16))))/\_/\_/\(_/\_)))))
  ⟨(λ_ _=>trivial),⟨0,(rf (nd x:Nat)),(leS (λi0=>iN (dg x i0)) (nd x)),(rf (k:Int)),(rf 0),zo,zo,zo⟩,λg hg=>⟨zd,(quo_i64 zo),λhc10=>have hc10:=dT hc10;⟨zo,(oldS (λi0=>iN (dg (x*2^k) i0)) g),(λj0 hj0=>(by rw[show j0=0 by omega,Nat.add_zero,dg_shl0 zo];rfl)),(wI (g:=g) zo),g+1,(rf (nd x:Nat)),(leS (λi0=>iN (dg x i0)) (nd x)),(rf (k:Int)),(rf 0),zo,zo,(leS (λi0=>iN (dg (x*2^k) i0)) (g+1)),zo,zo⟩,λhc10=>have hc10:=dF hc10;have hi2:g=k/16:=zo;⟨zd,rfl,sPower (k:=k%16) zo,sSmall0 (x:=x) (m:=2^(k%16)) zo zo,zo,(oldS (λi0=>iN (dg (x*2^k) i0)) g),(λj0 hj0=>(by rw[dg_shl hi2])),zo,(leS (λi0=>iN (dg (x*2^k) i0)) (g+(nd (x*(2^(k%16)))))),sTrim (x:=x*2^k) (n:=g+nd (x*2^(k%16))) zo (by subst hi2;exact mul_pow_lt),(rf (nd (x*2^k):Nat)),(leS (λi0=>iN (dg (x*2^k) i0)) (nd (x*2^k)))⟩⟩⟩
theorem sHalf{x m:Nat}(hx:nd x<=17179869184)(hm0:0<m)(hm:m<=65536):CallOK Tryz.prog 172 [.dgs x (nd x),iN m] (c2 (.dgs (x/m) (nd (x/m))) (iN (x%m))) []:=by
 exact kP (ch:=[.reg 1 [(2,.row (nd x) (λ_=>.ex (.int .i64 0)))],.loop 4 (Nat) (λg=>g<=nd x) (λg=>g) (λg=>⟨[(0,.dgs x (nd x)),(1,iN m),(6,.own 0 0),(7,iN (x/2^(16*g)%m)),(8,iZ ((g:Int)-1))],[(0,.one (.row 3 1 (λi0=>iN (dn g (x/m) i0)) (nd x)))],1⟩) [(0,.id 0)] (λ_=>[(0,.id 0)]) (λg=>[.reg 6 [(1,.z ((x/2^(16*g)%m*65536:Nat):Int)),(4,.k (g-1)),(6,.z ((x/2^(16*g)%m*65536+dg x (g-1):Nat):Int))],.reg 7 [(4,.z (dg (x/m) (g-1):Int)),(5,.k (g-1)),(6,.row 0 (λi0=>iN (dn (g-1) (x/m) i0)))],.reg 8 [(2,.z ((x/2^(16*(g-1))%m:Nat):Int))],.conv 9 [] ⟨[(6,.dgs (x/m) (nd x)),(7,iN (x%m))],[],1⟩,.reg 9 [(1,.callS (.dgs (x/m) (nd (x/m))) [])]])]) Tryz.func172 ((∀j0,j0<(nd x)->True)/\_/\_/\((nd x)<=68719476736)/\(∀j0,j0<(nd x)->((0:Int)=0))/\(IntKind.wrap .i64 (((nd x:Nat):Int)-1)=(((nd x:Nat):Int)-1))/\(((λX1 X2 X3 X4 X5:Prop=>∃g0:Nat,X1/\X2/\X3/\X4/\((0:Int)=((x/2^(16*g0)%m:Nat):Int))/\(((nd x:Int)-1:Int)=((g0:Int)-1))/\X5/\(∀j0,j0<(nd x)->((0:Int)=(dn g0 (x/m) j0:Int)))/\(g0<=nd x)) _ _ _ _ _)/\∀g:Nat,(g<=nd x)->(((decide ((0:Int)<=((g:Int)-1)))=true->(IntKind.wrap .i64 (((x/2^(16*g)%m:Nat):Int)*65536)=(((x/2^(16*g)%m*65536:Nat):Int)))/\(((g:Int)-1:Int)=((g-1:Nat):Int))/\((g-1)<(nd x))/\(IntKind.wrap .i64 (((x/2^(16*g)%m*65536:Nat):Int)+(dg x (g-1):Int))=(((x/2^(16*g)%m*65536+dg x (g-1):Nat):Int)))/\((m:Int)≠0)/\(IntKind.wrap .i64 (((x/2^(16*g)%m*65536+dg x (g-1):Nat):Int).tdiv (m:Int))=(((dg (x/m) (g-1):Nat):Int)))/\(((g:Int)-1:Int)=((g-1:Nat):Int))/\((g-1)<(nd x))/\((g-1)<(nd x))/\(((dg (x/m) (g-1):Int)=(dn (g-1) (x/m) (g-1):Int)))/\(∀t,t<(nd x)->t≠(g-1)->(iN (dn (g-1) (x/m) t):SV)=iN (dn g (x/m) t))/\((m:Int)≠0)/\(((x/2^(16*g)%m*65536+dg x (g-1):Nat):Int).tmod (m:Int)=(((x/2^(16*(g-1))%m:Nat):Int)))/\(IntKind.wrap .i64 (((g:Int)-1:Int)-1)=(((g:Int)-1:Int)-1))/\((λX1 X2 X3 X4 X5:Prop=>∃g1:Nat,X1/\X2/\X3/\X4/\(((x/2^(16*(g-1))%m:Nat):Int)=((x/2^(16*g1)%m:Nat):Int))/\((((g:Int)-1:Int)-1:Int)=((g1:Int)-1))/\X5/\(∀j0,j0<(nd x)->(((dn (g-1) (x/m) j0:Nat):Int)=(dn g1 (x/m) j0:Int)))/\(g1<=nd x)/\(g1<g)) _ _ _ _ _))/\((decide ((0:Int)<=((g:Int)-1)))=false->_/\(∀j0,j0<(nd x)->(((dn g (x/m) j0:Nat):Int)=(dg (x/m) j0:Int)))/\(((x/2^(16*g)%m:Nat):Int)=((x%m:Nat):Int))/\_/\(_/\_/\_)))))
  ⟨(λ_ _=>trivial),(rf (nd x:Int)),(rf (nd x:Int)),zo,(λj0 hj0=>rfl),(by rw[IntKind.wrap_i64];omega),⟨nd x,(rf (nd x:Nat)),(leS (λi0=>iN (dg x i0)) (nd x)),(rf (m:Int)),(rf 0),(by rw[nd_zero_div,Nat.zero_mod];rfl),zo,(rf (nd x:Nat)),(λj0 hj0=>(by rw[dn_lo zo];rfl)),zo⟩,λg hg=>⟨λhc17=>have hc17:=dT hc17;have hA:=Nat.mod_lt (x/2^(16*g)) hm0;have hD:=dg_lt x (g-1);have hst:=half_at (x:=x) hm0 (g:=g) zo;⟨(by rw[IntKind.wrap_i64];omega),zo,zo,(by rw[IntKind.wrap_i64];omega),zo,(by rw[←hst.2];exact quo_i64 zo),zo,zo,zo,(by rw[dn_hi (Nat.le_refl _)]),(λt ht hne=>by rw[dn_ne hne]),zo,(by rw[←hst.1];rfl),(by rw[IntKind.wrap_i64];omega),g-1,(rf (nd x:Nat)),(leS (λi0=>iN (dg x i0)) (nd x)),(rf (m:Int)),(rf 0),zo,zo,(rf (nd x:Nat)),(λj0 hj0=>zo),zo,zo⟩,λhc17=>have hc17:=dF hc17;have hi2:g=0:=zo;⟨(rf (nd x:Nat)),(λj0 hj0=>(by rw[dn_hi zo])),(by rw[hi2];simp),sTrim (x:=x/m) (n:=nd x) zo (kJ (nd_div x m)),(rf (nd (x/m):Nat)),(leS (λi0=>iN (dg (x/m) i0)) (nd (x/m))),(rf ((x%m:Nat):Int))⟩⟩⟩
theorem sRefBits{x:Nat}(hx:nd x<=17179869184):CallOK Tryz.prog 149 [.dgs x (nd x)] (iN (Wd.blen x)) []:=by
 have hbn:Wd.blen x<=16*nd x:=by unfold nd;omega
 exact kP (ch:=[.reg 3 [(2,.z ((nd x-1:Nat):Int)),(3,.z ((16*(nd x-1):Nat):Int))],.reg 4 [(3,.z ((nd x-1:Nat):Int)),(4,.k (nd x-1))],.loop 5 (Nat) (λg=>g<65536/\Wd.blen g<=Wd.blen x) (λg=>g) (λg=>⟨[(3,iN (Wd.blen x-Wd.blen g)),(4,iN g)],[],0⟩) [] (λ_=>[]) (λg=>[.reg 7 [(1,.z ((Wd.blen x-Wd.blen g+1:Nat):Int))],.reg 6 [(1,.z ((g/2:Nat):Int))]])]) Tryz.func149 ((∀j0,j0<(nd x)->True)/\(((decide (((nd x:Nat):Int)=0))=true->(((0:Int)=(Wd.blen x:Int))))/\((decide (((nd x:Nat):Int)=0))=false->(IntKind.wrap .i64 (((nd x:Nat):Int)-1)=(((nd x-1:Nat):Int)))/\(IntKind.wrap .i64 ((16:Int)*((nd x-1:Nat):Int))=(((16*(nd x-1):Nat):Int)))/\(IntKind.wrap .i64 (((nd x:Nat):Int)-1)=(((nd x-1:Nat):Int)))/\_/\((nd x-1)<(nd x))/\((∃g0:Nat,(((16*(nd x-1):Nat):Int)=((Wd.blen x-Wd.blen g0:Nat):Int))/\(((dg x (nd x-1):Nat):Int)=(g0:Int))/\(g0<65536/\Wd.blen g0<=Wd.blen x))/\∀g:Nat,(g<65536/\Wd.blen g<=Wd.blen x)->(((decide ((0:Int)<(g:Int)))=true->(IntKind.wrap .i64 (((Wd.blen x-Wd.blen g:Nat):Int)+1)=(((Wd.blen x-Wd.blen g+1:Nat):Int)))/\((2:Int)≠0)/\(IntKind.wrap .i64 ((g:Int).tdiv 2)=(((g/2:Nat):Int)))/\(∃g1:Nat,(((Wd.blen x-Wd.blen g+1:Nat):Int)=((Wd.blen x-Wd.blen g1:Nat):Int))/\(((g/2:Nat):Int)=(g1:Int))/\(g1<65536/\Wd.blen g1<=Wd.blen x)/\(g1<g)))/\((decide ((0:Int)<(g:Int)))=false->((((Wd.blen x-Wd.blen g:Nat):Int)=(Wd.blen x:Int)))))))))
  ⟨(λ_ _=>trivial),λhc7=>have hc7:=dT hc7;have hx0:=(kQ x).1 zo;(by rw[hx0];rfl),λhc7=>have hc7:=dF hc7;have hn0:nd x≠0:=zo;have hb:=blen_dg (x:=x) (λe=>hn0 ((kQ x).2 e));⟨(by rw[IntKind.wrap_i64];omega),(by rw[IntKind.wrap_i64];omega),(by rw[IntKind.wrap_i64];omega),(rf ((nd x-1:Nat):Int)),zo,⟨dg x (nd x-1),zo,zo,dg_lt _ _,by omega⟩,λg hg=>have hg1:=hg.1;have hg2:=hg.2;⟨λhc19=>have hc19:=dT hc19;have hv:=blen_half (x:=g) zo;⟨(by rw[IntKind.wrap_i64];omega),zd,(quo_i64 zo),g/2,zo,zo,⟨by omega,by omega⟩,zo⟩,λhc19=>have hc19:=dF hc19;have hv:g=0:=zo;(by rw[hv];rfl)⟩⟩⟩
theorem sRefBit{x k:Nat}(hk:k<=1099511627776):CallOK Tryz.prog 161 [.dgs x (nd x),iN k] (iN (x/2^k%2)) []:=by
 have h1:=dg_lt x (k/16)
 have h2:=Nat.pow_pos (n:=k%16) (show 0<2 by decide)
 exact kP (ch:=[.dec 6 false,.reg 3 [(2,.z ((k/16:Nat):Int)),(3,.callS (iN (dg x (k/16))) []),(5,.z ((k%16:Nat):Int)),(6,.callS (iN (2^(k%16))) []),(7,.z ((dg x (k/16)/2^(k%16):Nat):Int)),(8,.z ((x/2^k%2:Nat):Int))]]) Tryz.func161 ((∀j0,j0<(nd x)->True)/\((decide ((k:Int)<0))=false)/\((16:Int)≠0)/\(IntKind.wrap .i64 ((k:Int).tdiv 16)=(((k/16:Nat):Int)))/\_/\((16:Int)≠0)/\((k:Int).tmod 16=(((k%16:Nat):Int)))/\_/\(((2^(k%16):Nat):Int)≠0)/\(IntKind.wrap .i64 (((dg x (k/16):Nat):Int).tdiv ((2^(k%16):Nat):Int))=(((dg x (k/16)/2^(k%16):Nat):Int)))/\((2:Int)≠0)/\(((dg x (k/16)/2^(k%16):Nat):Int).tmod 2=(((x/2^k%2:Nat):Int)))/\(_))
  ⟨(λ_ _=>trivial),(decide_eq_false zo),zd,(quo_i64 zo),sDigit (x:=x) (k:=k/16),zd,rfl,sPower (k:=k%16) zo,zo,(quo_i64 zo),zd,(by rw[←bit_dg];rfl),(rf ((x/2^k%2:Nat):Int))⟩
theorem sRefCmp{x y:Nat}(hx:nd x<=17179869184):CallOK Tryz.prog 142 [.dgs x (nd x),.dgs y (nd y)] (iZ (cmpN x y)) []:=by
 exact kP (ch:=[.loop 6 (Nat) (λg=>g<=nd x/\x/2^(16*g)=y/2^(16*g)) (λg=>g) (λg=>⟨[(0,.dgs x (nd x)),(1,.dgs y (nd y)),(5,iZ ((g:Int)-1))],[],0⟩) [] (λ_=>[]) (λg=>[.reg 8 [(2,.k (g-1)),(6,.k (g-1))],.reg 10 [(2,.k (g-1)),(6,.k (g-1))]])]) Tryz.func142 ((∀j0,j0<(nd x)->True)/\(∀j0,j0<(nd y)->True)/\(((!decide (((nd x:Nat):Int)=(nd y:Int)))=true->(((decide (((nd x:Nat):Int)<(nd y:Int)))=true->(((-1:Int)=(cmpN x y))))/\((decide (((nd x:Nat):Int)<(nd y:Int)))=false->(((1:Int)=(cmpN x y))))))/\((!decide (((nd x:Nat):Int)=(nd y:Int)))=false->(IntKind.wrap .i64 (((nd x:Nat):Int)-1)=(((nd x:Nat):Int)-1))/\(((λX1 X2 X3 X4:Prop=>∃g0:Nat,X1/\X2/\X3/\X4/\(((nd x:Int)-1:Int)=((g0:Int)-1))/\(g0<=nd x/\x/2^(16*g0)=y/2^(16*g0))) _ _ _ _)/\∀g:Nat,(g<=nd x/\x/2^(16*g)=y/2^(16*g))->(((decide ((0:Int)<=((g:Int)-1)))=true->(((g:Int)-1:Int)=((g-1:Nat):Int))/\((g-1)<(nd x))/\(((g:Int)-1:Int)=((g-1:Nat):Int))/\((g-1)<(nd y))/\(((decide (((dg x (g-1):Nat):Int)<(dg y (g-1):Int)))=true->(((-1:Int)=(cmpN x y))))/\((decide (((dg x (g-1):Nat):Int)<(dg y (g-1):Int)))=false->(((g:Int)-1:Int)=((g-1:Nat):Int))/\((g-1)<(nd x))/\(((g:Int)-1:Int)=((g-1:Nat):Int))/\((g-1)<(nd y))/\(((decide (((dg y (g-1):Nat):Int)<(dg x (g-1):Int)))=true->(((1:Int)=(cmpN x y))))/\((decide (((dg y (g-1):Nat):Int)<(dg x (g-1):Int)))=false->(IntKind.wrap .i64 (((g:Int)-1:Int)-1)=(((g:Int)-1:Int)-1))/\((λX1 X2 X3 X4:Prop=>∃g1:Nat,X1/\X2/\X3/\X4/\((((g:Int)-1:Int)-1:Int)=((g1:Int)-1))/\(g1<=nd x/\x/2^(16*g1)=y/2^(16*g1))/\(g1<g)) _ _ _ _))))))/\((decide ((0:Int)<=((g:Int)-1)))=false->(((0:Int)=(cmpN x y)))))))))
  ⟨(λ_ _=>trivial),(λ_ _=>trivial),λhc10=>have hn:nd x≠nd y:=(by have h:=hc10;simp at h;omega);⟨λhc15=>have hc15:=dT hc15;(cmpN_len zo).symm,λhc15=>have hc15:=dF hc15;(cmpN_len' zo).symm⟩,λhc10=>have hn:nd x=nd y:=(by have h:=hc10;simp at h;omega);⟨(by rw[IntKind.wrap_i64];omega),⟨nd x,(rf (nd x:Nat)),(leS (λi0=>iN (dg x i0)) (nd x)),(rf (nd y:Nat)),(leS (λi0=>iN (dg y i0)) (nd y)),zo,Nat.le_refl _,by rw[nd_zero_div,Nat.div_eq_of_lt (kJ zo)]⟩,λg hg=>have hg1:=hg.1;⟨λhc20=>have hc20:=dT hc20;have he:x/2^(16*(g-1+1))=y/2^(16*(g-1+1)):=(by rw[show g-1+1=g by omega];exact hg.2);⟨zo,zo,zo,zo,λhc31=>have hc31:=dT hc31;(cmpN_lt he zo).symm,λhc31=>have hc31:=dF hc31;⟨zo,zo,zo,zo,λhc40=>have hc40:=dT hc40;(cmpN_gt he zo).symm,λhc40=>have hc40:=dF hc40;⟨(by rw[IntKind.wrap_i64];omega),g-1,(rf (nd x:Nat)),(leS (λi0=>iN (dg x i0)) (nd x)),(rf (nd y:Nat)),(leS (λi0=>iN (dg y i0)) (nd y)),zo,⟨by omega,eq_step16 he zo zo⟩,zo⟩⟩⟩,λhc20=>have hc20:=dF hc20;(cmpN_self (by rw[show 0=g by omega];exact hg.2)).symm⟩⟩⟩
theorem div_step{n d g:Nat}(hd:0<d)(hg:0<g):(n/2^g%d*2+n/2^(g-1)%2<d->n/2^g/d*2=n/2^(g-1)/d/\n/2^g%d*2+n/2^(g-1)%2=n/2^(g-1)%d)/\(d<=n/2^g%d*2+n/2^(g-1)%2->n/2^g/d*2+1=n/2^(g-1)/d/\n/2^g%d*2+n/2^(g-1)%2-d=n/2^(g-1)%d):=by
 have h:=bits_step n (g-1)
 rw[show g-1+1=g by omega] at h
 have hb:n/2^(g-1)%2<=1:=by omega
 have k:=div_bit (n:=n/2^g) (b:=n/2^(g-1)%2) hd rfl rfl hb
 rw[←h] at k
 exact⟨λe=>⟨(k.1 e).1.symm,(k.1 e).2.symm⟩,λe=>⟨(k.2 e).1.symm,(k.2 e).2.symm⟩⟩
theorem sRefDivMod{n d:Nat}(hn:nd n<=4294967296)(hd0:0<d):CallOK Tryz.prog 138 [.dgs n (nd n),.dgs d (nd d)] (c2 (.dgs (n/d) (nd (n/d))) (.dgs (n%d) (nd (n%d)))) []:=by
 have hz:n/2^Wd.blen n=0:=Nat.div_eq_of_lt (Wd.lt_two_pow_blen n)
 have hbn:Wd.blen n<=16*nd n:=by unfold nd;omega
 exact kP (ch:=[.reg 2 [(1,.callS (iN (Wd.blen n)) [])],.loop 3 (Nat) (λg=>g<=Wd.blen n) (λg=>g) (λg=>⟨[(0,.dgs n (nd n)),(1,.dgs d (nd d)),(6,.dgs (n/2^g/d) (nd (n/2^g/d))),(7,.dgs (n/2^g%d) (nd (n/2^g%d))),(8,iZ ((g:Int)-1))],[],0⟩) [] (λ_=>[]) (λg=>[.reg 5 [(3,.call [.dgs n (nd n),iN (g-1)] (iN (n/2^(g-1)%2)) []),(4,.call [.dgs (n/2^g%d) (nd (n/2^g%d)),iN 2,iN (n/2^(g-1)%2)] (.dgs ((n/2^g%d)*2+(n/2^(g-1)%2)) (nd ((n/2^g%d)*2+(n/2^(g-1)%2)))) [])],.reg 6 [(1,.call [.dgs (n/2^g/d) (nd (n/2^g/d)),iN 2,.ex (.int .i64 0)] (.dgs ((n/2^g/d)*2) (nd ((n/2^g/d)*2))) [])],.reg 7 [(2,.callS (iZ (cmpN ((n/2^g%d)*2+(n/2^(g-1)%2)) d)) [])],.reg 8 [(2,.callS (.dgs (((n/2^g%d)*2+(n/2^(g-1)%2))-d) (nd (((n/2^g%d)*2+(n/2^(g-1)%2))-d))) [])],.reg 9 [(2,.call [.dgs ((n/2^g/d)*2) (nd ((n/2^g/d)*2)),.dgs 1 (nd 1)] (.dgs (((n/2^g/d)*2)+1) (nd (((n/2^g/d)*2)+1))) [])]])]) Tryz.func138 ((∀j0,j0<(nd n)->True)/\(∀j0,j0<(nd d)->True)/\_/\(IntKind.wrap .i64 (((Wd.blen n:Nat):Int)-1)=(((Wd.blen n:Nat):Int)-1))/\(((λX1 X2 X3 X4:Prop=>∃g0:Nat,X1/\X2/\X3/\X4/\((nd (n/2^g0/d):Nat)=0)/\((nd (n/2^g0%d):Nat)=0)/\(((Wd.blen n:Int)-1:Int)=((g0:Int)-1))/\(g0<=Wd.blen n)) _ _ _ _)/\∀g:Nat,(g<=Wd.blen n)->(((decide ((0:Int)<=((g:Int)-1)))=true->_/\_/\_/\(((g:Int)-1:Int)=((g-1:Nat):Int))/\_/\_/\_/\((2:Int)=((2:Nat):Int))/\_/\_/\_/\_/\((2:Int)=((2:Nat):Int))/\_/\_/\(((decide ((0:Int)<=(cmpN ((n/2^g%d)*2+(n/2^(g-1)%2)) d)))=true->_/\_/\_/\_/\((1:Nat)=(nd 1))/\(∀j0,j0<1->((1:Int)=(dg 1 j0:Int)))/\(IntKind.wrap .i64 (((g:Int)-1:Int)-1)=(((g:Int)-1:Int)-1))/\((λX1 X2 X3 X4:Prop=>∃g1:Nat,X1/\X2/\X3/\X4/\((nd (((n/2^g/d)*2)+1):Nat)=(nd (n/2^g1/d)))/\(∀j0,j0<(nd (((n/2^g/d)*2)+1))->(((dg (((n/2^g/d)*2)+1) j0:Nat):Int)=(dg (n/2^g1/d) j0:Int)))/\((nd (((n/2^g%d)*2+(n/2^(g-1)%2))-d):Nat)=(nd (n/2^g1%d)))/\(∀j0,j0<(nd (((n/2^g%d)*2+(n/2^(g-1)%2))-d))->(((dg (((n/2^g%d)*2+(n/2^(g-1)%2))-d) j0:Nat):Int)=(dg (n/2^g1%d) j0:Int)))/\((((g:Int)-1:Int)-1:Int)=((g1:Int)-1))/\(g1<=Wd.blen n)/\(g1<g)) _ _ _ _))/\((decide ((0:Int)<=(cmpN ((n/2^g%d)*2+(n/2^(g-1)%2)) d)))=false->(IntKind.wrap .i64 (((g:Int)-1:Int)-1)=(((g:Int)-1:Int)-1))/\((λX1 X2 X3 X4:Prop=>∃g1:Nat,X1/\X2/\X3/\X4/\((nd ((n/2^g/d)*2):Nat)=(nd (n/2^g1/d)))/\(∀j0,j0<(nd ((n/2^g/d)*2))->(((dg ((n/2^g/d)*2) j0:Nat):Int)=(dg (n/2^g1/d) j0:Int)))/\((nd ((n/2^g%d)*2+(n/2^(g-1)%2)):Nat)=(nd (n/2^g1%d)))/\(∀j0,j0<(nd ((n/2^g%d)*2+(n/2^(g-1)%2)))->(((dg ((n/2^g%d)*2+(n/2^(g-1)%2)) j0:Nat):Int)=(dg (n/2^g1%d) j0:Int)))/\((((g:Int)-1:Int)-1:Int)=((g1:Int)-1))/\(g1<=Wd.blen n)/\(g1<g)) _ _ _ _))))/\((decide ((0:Int)<=((g:Int)-1)))=false->(((nd (n/2^g/d):Nat)=(nd (n/d)))/\(∀j0,j0<(nd (n/2^g/d))->(((dg (n/2^g/d) j0:Nat):Int)=(dg (n/d) j0:Int)))/\((nd (n/2^g%d):Nat)=(nd (n%d)))/\(∀j0,j0<(nd (n/2^g%d))->(((dg (n/2^g%d) j0:Nat):Int)=(dg (n%d) j0:Int))))))))
  ⟨(λ_ _=>trivial),(λ_ _=>trivial),sRefBits (x:=n) zo,(by rw[IntKind.wrap_i64];omega),⟨Wd.blen n,(rf (nd n:Nat)),(leS (λi0=>iN (dg n i0)) (nd n)),(rf (nd d:Nat)),(leS (λi0=>iN (dg d i0)) (nd d)),(by rw[hz,Nat.zero_div];rfl),(by rw[hz,Nat.zero_mod];rfl),zo,zo⟩,λg hg=>⟨λhc13=>have hc13:=dT hc13;have hb:=div_step hd0 (n:=n) (g:=g) zo;have h1:=nd_mod (n/2^g) d;have h2:=nd_div n (2^g);have h3:=nd_div (n/2^g) d;have h4:=nd_x2 (n/2^g/d);have h5:=nd_x2 (n/2^g%d);have h6:=nd_add (n/2^g%d*2) (n/2^(g-1)%2);have h7:nd (n/2^(g-1)%2)<=1:=((nd_le _ 1).2 (by have:=Nat.mod_lt (n/2^(g-1)) (show 0<2 by decide);omega));⟨sRefBit (x:=n) (k:=g-1) zo,(rf (nd n:Nat)),(leS (λi0=>iN (dg n i0)) (nd n)),zo,sSmall (x:=n/2^g%d) (m:=2) (a:=n/2^(g-1)%2) zo zo zo,(rf (nd (n/2^g%d):Nat)),(leS (λi0=>iN (dg (n/2^g%d) i0)) (nd (n/2^g%d))),rfl,(rf ((n/2^(g-1)%2:Nat):Int)),sSmall0 (x:=n/2^g/d) (m:=2) zo zo,(rf (nd (n/2^g/d):Nat)),(leS (λi0=>iN (dg (n/2^g/d) i0)) (nd (n/2^g/d))),rfl,(rf (0:Int)),sRefCmp (x:=(n/2^g%d)*2+(n/2^(g-1)%2)) (y:=d) zo,λhc26=>have hc26:=dT hc26;have hge:=cmpN_ge.1 hc26;have hq:=(hb.2 hge).1;have hr:=(hb.2 hge).2;⟨sRefSub (x:=(n/2^g%d)*2+(n/2^(g-1)%2)) (y:=d) zo zo,sRefAdd (x:=(n/2^g/d)*2) (y:=1) zo (by rw[nd_one];omega),(rf (nd ((n/2^g/d)*2):Nat)),(leS (λi0=>iN (dg ((n/2^g/d)*2) i0)) (nd ((n/2^g/d)*2))),rfl,(λj0 hj0=>(by rw[show j0=0 by omega];rfl)),(by rw[IntKind.wrap_i64];omega),g-1,(rf (nd n:Nat)),(leS (λi0=>iN (dg n i0)) (nd n)),(rf (nd d:Nat)),(leS (λi0=>iN (dg d i0)) (nd d)),(by rw[hq]),(λj0 hj0=>(by rw[hq])),(by rw[hr]),(λj0 hj0=>(by rw[hr])),zo,zo,zo⟩,λhc26=>have hc26:=dF hc26;have hlt:=Nat.lt_of_not_le (λe=>hc26 (cmpN_ge.2 e));have hq:=(hb.1 hlt).1;have hr:=(hb.1 hlt).2;⟨(by rw[IntKind.wrap_i64];omega),g-1,(rf (nd n:Nat)),(leS (λi0=>iN (dg n i0)) (nd n)),(rf (nd d:Nat)),(leS (λi0=>iN (dg d i0)) (nd d)),(by rw[hq]),(λj0 hj0=>(by rw[hq])),(by rw[hr]),(λj0 hj0=>(by rw[hr])),zo,zo,zo⟩⟩,λhc13=>have hc13:=dF hc13;have hi2:g=0:=zo;⟨(by rw[hi2];simp),(λj0 hj0=>(by rw[hi2];simp)),(by rw[hi2];simp),(λj0 hj0=>(by rw[hi2];simp))⟩⟩⟩
open Go.RowKit
theorem gcd_odd_2{a b:Nat}(ha:a%2=1)(hb:b%2=0):Nat.gcd a (b/2)=Nat.gcd a b:=by
 rw[Nat.gcd_comm,gcd_2_odd hb ha,Nat.gcd_comm]
theorem gcd_stp{q b:Nat}(hq:0<q)(hb:0<b)(ho:q%2=1)(hb2:b%2=1):Nat.gcd q b=Nat.gcd (max q b-min q b) (min q b)/\0<min q b/\min q b%2=1/\(max q b-min q b)+min q b<q+b/\max q b-min q b<=max q b/\min q b<=max q b:=by
 by_cases h:q<b
 ·rw[Nat.max_eq_right (Nat.le_of_lt h),Nat.min_eq_left (Nat.le_of_lt h)]
  exact⟨by rw[gcd_sub_left' (Nat.le_of_lt h),Nat.gcd_comm],hq,ho,by omega,by omega,by omega⟩
 ·rw[Nat.max_eq_left (Nat.le_of_not_lt h),Nat.min_eq_right (Nat.le_of_not_lt h)]
  exact⟨by rw[gcd_sub_left' (Nat.le_of_not_lt h)],hb,hb2,by omega,by omega,by omega⟩
theorem pow_lt_nd{a t x:Nat}(h:a*2^t=x)(ha:0<a):t<16*nd x:=by
 have h1:2^t<=x:=by rw[←h];exact Nat.le_mul_of_pos_left _ ha
 exact(Nat.pow_lt_pow_iff_right (a:=2) zd).1 (Nat.lt_of_le_of_lt h1 (lt_nd x))
theorem halve_inv{x y a b t:Nat}(h:Nat.gcd x y=Nat.gcd a b*2^t/\a*2^t=x/\0<a/\0<b/\nd b<=nd y/\nd a<=nd x)(ha:a%2=0)(hb:b%2=0):
  Nat.gcd x y=Nat.gcd (a/2) (b/2)*2^(t+1)/\a/2*2^(t+1)=x/\0<a/2/\0<b/2/\nd (b/2)<=nd y/\nd (a/2)<=nd x:=by
 obtain⟨h1,h2,h3,h4,h5,h6⟩:=h
 have:=nd_div b 2
 have:=nd_div a 2
 refine⟨by rw[h1,gcd_2_2 ha hb,Nat.pow_succ,Nat.mul_assoc,Nat.mul_comm 2],?_,by omega,by omega,by omega,by omega⟩
 rw[Nat.pow_succ,Nat.mul_comm (2^t),←Nat.mul_assoc,show a/2*2=a by omega,h2]
instance fzF:Fz:=⟨false,none⟩
instance fzT2:Fz:=⟨true,some (.iface 169 (.agg #[.pointer (some ⟨1,37,none⟩)]))⟩
theorem sEven{x:Nat}:CallOK Tryz.prog 159 [.dgs x (nd x)] (bX (decide (((x%2:Nat):Int)=0))) []:=by
 exact kP (ch:=[.reg 1 [(1,.call [.dgs x (nd x),iN 0] (iN (dg x 0)) []),(2,.z ((x%2:Nat):Int))]]) Tryz.func159 ((∀j0,j0<(nd x)->True)/\_/\_/\_/\((0:Int)=((0:Nat):Int))/\((2:Int)≠0)/\(((dg x 0:Nat):Int).tmod 2=(((x%2:Nat):Int)))/\(_))
  ⟨(λ_ _=>trivial),sDigit (x:=x) (k:=0),(rf (nd x:Nat)),(leS (λi0=>iN (dg x i0)) (nd x)),rfl,zd,(by rw[even_dg];rfl),(rf (decide (((x%2:Nat):Int)=0):Bool))⟩
theorem sHalved{x:Nat}(hx:nd x<=17179869184):CallOK Tryz.prog 160 [.dgs x (nd x)] (.dgs (x/2) (nd (x/2))) []:=by
 exact kP (ch:=[.reg 1 [(1,.call [.dgs x (nd x),iN 2] (c2 (.dgs (x/2) (nd (x/2))) (iN (x%2))) [])]]) Tryz.func160 ((∀j0,j0<(nd x)->True)/\_/\_/\_/\((2:Int)=((2:Nat):Int))/\(_/\_))
  ⟨(λ_ _=>trivial),sHalf (x:=x) (m:=2) zo zo zo,(rf (nd x:Nat)),(leS (λi0=>iN (dg x i0)) (nd x)),rfl,(rf (nd (x/2):Nat)),(leS (λi0=>iN (dg (x/2) i0)) (nd (x/2)))⟩
theorem sRefGcd{x y:Nat}(hx:nd x<=1073741824)(hy:nd y<=1073741824):CallOK Tryz.prog 137 [.dgs x (nd x),.dgs y (nd y)] (.dgs (Nat.gcd x y) (nd (Nat.gcd x y))) []:=by
 exact kP (ch:=[.loop 6 (Nat×Nat×Nat) (λg=>Nat.gcd x y=Nat.gcd g.1 g.2.1*2^g.2.2/\g.1*2^g.2.2=x/\0<g.1/\0<g.2.1/\nd g.2.1<=nd y/\nd g.1<=nd x) (λg=>g.1) (λg=>⟨[(0,.dgs g.1 (nd g.1)),(1,.dgs g.2.1 (nd g.2.1)),(5,iN (g.2.2))],[],0⟩) [] (λ_=>[]) (λg=>[.reg 6 [(1,.callS (bX (decide (((g.1%2:Nat):Int)=0))) []),(4,.callS (bX (decide (((g.2.1%2:Nat):Int)=0))) [])],.reg 7 [(1,.callS (.dgs (g.1/2) (nd (g.1/2))) [])],.reg 8 [(1,.callS (.dgs (g.2.1/2) (nd (g.2.1/2))) [])],.reg 9 [(1,.z ((g.2.2+1:Nat):Int))],.loop 10 (Nat) (λh=>Nat.gcd g.1 g.2.1=Nat.gcd g.1 h/\0<h/\(g.1%2=1∨h%2=1)/\nd h<=nd y) (λh=>h) (λh=>⟨[(0,.dgs g.1 (nd g.1)),(1,.dgs h (nd h)),(5,iN (g.2.2))],[],0⟩) [] (λ_=>[]) (λh=>[.reg 10 [(1,.callS (bX (decide (((h%2:Nat):Int)=0))) [])],.reg 11 [(1,.callS (.dgs (h/2) (nd (h/2))) [])],.loop 12 (Nat×Nat) (λp=>Nat.gcd g.1 g.2.1=Nat.gcd p.1 p.2/\0<p.2/\p.2%2=1/\nd p.1<=max (nd x) (nd y)/\nd p.2<=max (nd x) (nd y)) (λp=>p.1+p.2) (λp=>⟨[(0,.dgs p.1 (nd p.1)),(1,.dgs p.2 (nd p.2)),(5,iN (g.2.2))],[],0⟩) [] (λ_=>[]) (λp=>[.loop 13 (Nat) (λq=>Nat.gcd p.1 p.2=Nat.gcd q p.2/\0<q/\q<=p.1) (λq=>q) (λq=>⟨[(0,.dgs q (nd q)),(1,.dgs p.2 (nd p.2)),(5,iN (g.2.2))],[],0⟩) [] (λ_=>[]) (λq=>[.reg 13 [(1,.callS (bX (decide (((q%2:Nat):Int)=0))) [])],.reg 14 [(1,.callS (.dgs (q/2) (nd (q/2))) [])],.reg 15 [(2,.callS (iZ (cmpN q p.2)) [])],.conv 19 [] ⟨[(0,.dgs (max q p.2) (nd (max q p.2))),(1,.dgs (min q p.2) (nd (min q p.2))),(5,iN (g.2.2))],[],0⟩,.reg 19 [(2,.callS (.dgs ((max q p.2)-(min q p.2)) (nd ((max q p.2)-(min q p.2)))) [])],.conv 19 [] ⟨[(0,.dgs (max q p.2) (nd (max q p.2))),(1,.dgs (min q p.2) (nd (min q p.2))),(5,iN (g.2.2))],[],0⟩,.reg 19 [(2,.callS (.dgs ((max q p.2)-(min q p.2)) (nd ((max q p.2)-(min q p.2)))) [])]]),.reg 20 [(2,.callS (.dgs (p.2*2^g.2.2) (nd (p.2*2^g.2.2))) [])]])])])]) Tryz.func137 ((∀j0,j0<(nd x)->True)/\(∀j0,j0<(nd y)->True)/\(((decide (((nd x:Nat):Int)=0))=true->(((nd y:Nat)=(nd (Nat.gcd x y)))/\(∀j0,j0<(nd y)->(((dg y j0:Nat):Int)=(dg (Nat.gcd x y) j0:Int)))))/\((decide (((nd x:Nat):Int)=0))=false->(((decide (((nd y:Nat):Int)=0))=true->(((nd x:Nat)=(nd (Nat.gcd x y)))/\(∀j0,j0<(nd x)->(((dg x j0:Nat):Int)=(dg (Nat.gcd x y) j0:Int)))))/\((decide (((nd y:Nat):Int)=0))=false->((∃g0:Nat×Nat×Nat,((nd x:Nat)=(nd g0.1))/\(∀j0,j0<(nd x)->(((dg x j0:Nat):Int)=(dg g0.1 j0:Int)))/\((nd y:Nat)=(nd g0.2.1))/\(∀j0,j0<(nd y)->(((dg y j0:Nat):Int)=(dg g0.2.1 j0:Int)))/\((0:Int)=((g0.2.2:Nat):Int))/\(Nat.gcd x y=Nat.gcd g0.1 g0.2.1*2^g0.2.2/\g0.1*2^g0.2.2=x/\0<g0.1/\0<g0.2.1/\nd g0.2.1<=nd y/\nd g0.1<=nd x))/\∀g:Nat×Nat×Nat,(Nat.gcd x y=Nat.gcd g.1 g.2.1*2^g.2.2/\g.1*2^g.2.2=x/\0<g.1/\0<g.2.1/\nd g.2.1<=nd y/\nd g.1<=nd x)->_/\_/\(((decide (((g.1%2:Nat):Int)=0))==true)=true->_)/\((decide (((g.1%2:Nat):Int)=0))=true->((decide (((g.1%2:Nat):Int)=0))==true)=true)/\(((bif (decide (((g.1%2:Nat):Int)=0)) then(decide (((g.2.1%2:Nat):Int)=0)) else false)=true->_/\_/\_/\(∃g1:Nat×Nat×Nat,((nd (g.1/2):Nat)=(nd g1.1))/\(∀j0,j0<(nd (g.1/2))->(((dg (g.1/2) j0:Nat):Int)=(dg g1.1 j0:Int)))/\((nd (g.2.1/2):Nat)=(nd g1.2.1))/\(∀j0,j0<(nd (g.2.1/2))->(((dg (g.2.1/2) j0:Nat):Int)=(dg g1.2.1 j0:Int)))/\(((g.2.2+1:Nat):Int)=((g1.2.2:Nat):Int))/\(Nat.gcd x y=Nat.gcd g1.1 g1.2.1*2^g1.2.2/\g1.1*2^g1.2.2=x/\0<g1.1/\0<g1.2.1/\nd g1.2.1<=nd y/\nd g1.1<=nd x)/\(g1.1<g.1)))/\((bif (decide (((g.1%2:Nat):Int)=0)) then(decide (((g.2.1%2:Nat):Int)=0)) else false)=false->(((λX1 X2 X3:Prop=>∃h0:Nat,X1/\X2/\((nd g.2.1:Nat)=(nd h0))/\(∀j0,j0<(nd g.2.1)->(((dg g.2.1 j0:Nat):Int)=(dg h0 j0:Int)))/\X3/\(Nat.gcd g.1 g.2.1=Nat.gcd g.1 h0/\0<h0/\(g.1%2=1∨h0%2=1)/\nd h0<=nd y)) _ _ _)/\∀h:Nat,(Nat.gcd g.1 g.2.1=Nat.gcd g.1 h/\0<h/\(g.1%2=1∨h%2=1)/\nd h<=nd y)->_/\(((decide (((h%2:Nat):Int)=0))=true->_/\((λX1 X2 X3:Prop=>∃h1:Nat,X1/\X2/\((nd (h/2):Nat)=(nd h1))/\(∀j0,j0<(nd (h/2))->(((dg (h/2) j0:Nat):Int)=(dg h1 j0:Int)))/\X3/\(Nat.gcd g.1 g.2.1=Nat.gcd g.1 h1/\0<h1/\(g.1%2=1∨h1%2=1)/\nd h1<=nd y)/\(h1<h)) _ _ _))/\((decide (((h%2:Nat):Int)=0))=false->(((λX1:Prop=>∃p0:Nat×Nat,((nd g.1:Nat)=(nd p0.1))/\(∀j0,j0<(nd g.1)->(((dg g.1 j0:Nat):Int)=(dg p0.1 j0:Int)))/\((nd h:Nat)=(nd p0.2))/\(∀j0,j0<(nd h)->(((dg h j0:Nat):Int)=(dg p0.2 j0:Int)))/\X1/\(Nat.gcd g.1 g.2.1=Nat.gcd p0.1 p0.2/\0<p0.2/\p0.2%2=1/\nd p0.1<=max (nd x) (nd y)/\nd p0.2<=max (nd x) (nd y))) _)/\∀p:Nat×Nat,(Nat.gcd g.1 g.2.1=Nat.gcd p.1 p.2/\0<p.2/\p.2%2=1/\nd p.1<=max (nd x) (nd y)/\nd p.2<=max (nd x) (nd y))->(((decide ((0:Int)<(nd p.1:Int)))=true->(((λX1 X2 X3:Prop=>∃q0:Nat,((nd p.1:Nat)=(nd q0))/\(∀j0,j0<(nd p.1)->(((dg p.1 j0:Nat):Int)=(dg q0 j0:Int)))/\X1/\X2/\X3/\(Nat.gcd p.1 p.2=Nat.gcd q0 p.2/\0<q0/\q0<=p.1)) _ _ _)/\∀q:Nat,(Nat.gcd p.1 p.2=Nat.gcd q p.2/\0<q/\q<=p.1)->_/\(((decide (((q%2:Nat):Int)=0))=true->_/\((λX1 X2 X3:Prop=>∃q1:Nat,((nd (q/2):Nat)=(nd q1))/\(∀j0,j0<(nd (q/2))->(((dg (q/2) j0:Nat):Int)=(dg q1 j0:Int)))/\X1/\X2/\X3/\(Nat.gcd p.1 p.2=Nat.gcd q1 p.2/\0<q1/\q1<=p.1)/\(q1<q)) _ _ _))/\((decide (((q%2:Nat):Int)=0))=false->_/\(((decide ((cmpN q p.2:Int)<0))=true->((nd p.2:Nat)=(nd (max q p.2)))/\(∀j0,j0<(nd p.2)->(((dg p.2 j0:Nat):Int)=(dg (max q p.2) j0:Int)))/\((nd q:Nat)=(nd (min q p.2)))/\(∀j0,j0<(nd q)->(((dg q j0:Nat):Int)=(dg (min q p.2) j0:Int)))/\_/\_/\((λX1:Prop=>∃p1:Nat×Nat,((nd ((max q p.2)-(min q p.2)):Nat)=(nd p1.1))/\(∀j0,j0<(nd ((max q p.2)-(min q p.2)))->(((dg ((max q p.2)-(min q p.2)) j0:Nat):Int)=(dg p1.1 j0:Int)))/\((nd (min q p.2):Nat)=(nd p1.2))/\(∀j0,j0<(nd (min q p.2))->(((dg (min q p.2) j0:Nat):Int)=(dg p1.2 j0:Int)))/\X1/\(Nat.gcd g.1 g.2.1=Nat.gcd p1.1 p1.2/\0<p1.2/\p1.2%2=1/\nd p1.1<=max (nd x) (nd y)/\nd p1.2<=max (nd x) (nd y))/\(p1.1+p1.2<p.1+p.2)) _))/\((decide ((cmpN q p.2:Int)<0))=false->((nd q:Nat)=(nd (max q p.2)))/\(∀j0,j0<(nd q)->(((dg q j0:Nat):Int)=(dg (max q p.2) j0:Int)))/\((nd p.2:Nat)=(nd (min q p.2)))/\(∀j0,j0<(nd p.2)->(((dg p.2 j0:Nat):Int)=(dg (min q p.2) j0:Int)))/\_/\_/\((λX1:Prop=>∃p1:Nat×Nat,((nd ((max q p.2)-(min q p.2)):Nat)=(nd p1.1))/\(∀j0,j0<(nd ((max q p.2)-(min q p.2)))->(((dg ((max q p.2)-(min q p.2)) j0:Nat):Int)=(dg p1.1 j0:Int)))/\((nd (min q p.2):Nat)=(nd p1.2))/\(∀j0,j0<(nd (min q p.2))->(((dg (min q p.2) j0:Nat):Int)=(dg p1.2 j0:Int)))/\X1/\(Nat.gcd g.1 g.2.1=Nat.gcd p1.1 p1.2/\0<p1.2/\p1.2%2=1/\nd p1.1<=max (nd x) (nd y)/\nd p1.2<=max (nd x) (nd y))/\(p1.1+p1.2<p.1+p.2)) _)))))))/\((decide ((0:Int)<(nd p.1:Int)))=false->_/\(((nd (p.2*2^g.2.2):Nat)=(nd (Nat.gcd x y)))/\(∀j0,j0<(nd (p.2*2^g.2.2))->(((dg (p.2*2^g.2.2) j0:Nat):Int)=(dg (Nat.gcd x y) j0:Int))))))))))))))))))
  ⟨(λ_ _=>trivial),(λ_ _=>trivial),λhc9=>have hc9:=dT hc9;have hz:=(kQ x).1 zo;have he:Nat.gcd x y=y:=(by rw[hz];exact Nat.gcd_zero_left y);⟨(by rw[he]),(λj0 hj0=>(by rw[he]))⟩,λhc9=>have hc9:=dF hc9;have hx1:x≠0:=(λe=>by rw[e] at hc9;exact hc9 rfl);⟨λhc13=>have hc13:=dT hc13;have hz:=(kQ y).1 zo;have he:Nat.gcd x y=x:=(by rw[hz];exact Nat.gcd_zero_right x);⟨(by rw[he]),(λj0 hj0=>(by rw[he]))⟩,λhc13=>have hc13:=dF hc13;have hy1:y≠0:=(λe=>by rw[e] at hc13;exact hc13 rfl);⟨⟨(x,y,0),rfl,(λj0 hj0=>rfl),rfl,(λj0 hj0=>rfl),rfl,(Nat.mul_one _).symm,Nat.mul_one _,Nat.pos_of_ne_zero hx1,Nat.pos_of_ne_zero hy1,Nat.le_refl _,Nat.le_refl _⟩,λg hg=>have hg1:=hg.2.2.1;have hg2:=hg.2.2.2.1;have hg3:=hg.2.2.2.2.1;have hg4:=hg.2.2.2.2.2;have ht:=pow_lt_nd hg.2.1 hg1;⟨sEven (x:=g.1),(idB ((decide (((g.1%2:Nat):Int)=0))==true)),(λhg=>sEven (x:=g.2.1)),(by first | (simp;done) | (simp;omega)),λhc20=>have hc:=bifT hc20;⟨sHalved (x:=g.1) zo,sHalved (x:=g.2.1) zo,(wI (g:=g.2.2) zo),(g.1/2,g.2.1/2,g.2.2+1),rfl,(λj0 hj0=>rfl),rfl,(λj0 hj0=>rfl),rfl,(halve_inv hg zo zo),(by show g.1/2<g.1;omega)⟩,λhc20=>have hc:=bifF hc20;⟨⟨g.2.1,(rf (nd g.1:Nat)),(leS (λi0=>iN (dg g.1 i0)) (nd g.1)),zo,(λj0 hj0=>zo),(rf ((g.2.2:Nat):Int)),rfl,hg2,by omega,hg3⟩,λh hh=>have hh1:=hh.2.1;have hh2:=hh.2.2.1;have hh3:=hh.2.2.2;⟨sEven (x:=h),λhc28=>have hc28:=dT hc28;⟨sHalved (x:=h) zo,h/2,(rf (nd g.1:Nat)),(leS (λi0=>iN (dg g.1 i0)) (nd g.1)),zo,(λj0 hj0=>zo),(rf ((g.2.2:Nat):Int)),⟨by rw[hh.1,gcd_odd_2 zo zo],by omega,by omega,by have:=nd_div h 2;omega⟩,zo⟩,λhc28=>have hc28:=dF hc28;⟨⟨(g.1,h),rfl,(λj0 hj0=>rfl),rfl,(λj0 hj0=>rfl),(rf ((g.2.2:Nat):Int)),hh.1,hh1,by show h%2=1;omega,by show nd g.1<=_;omega,by show nd h<=_;omega⟩,λp hp=>have hp1:=hp.2.1;have hp2:=hp.2.2.1;have hp3:=hp.2.2.2.1;have hp4:=hp.2.2.2.2;⟨λhc33=>have hc33:=dT hc33;have hpn:p.1≠0:=(λe=>by rw[e] at hc33;exact absurd hc33 zd);⟨⟨p.1,zo,(λj0 hj0=>zo),(rf (nd p.2:Nat)),(leS (λi0=>iN (dg p.2 i0)) (nd p.2)),(rf ((g.2.2:Nat):Int)),rfl,by omega,Nat.le_refl _⟩,λq hq=>have hq1:=hq.2.1;have hq2:=hq.2.2;have hq3:=jB hq2;⟨sEven (x:=q),λhc35=>have hc35:=dT hc35;⟨sHalved (x:=q) zo,q/2,zo,(λj0 hj0=>zo),(rf (nd p.2:Nat)),(leS (λi0=>iN (dg p.2 i0)) (nd p.2)),(rf ((g.2.2:Nat):Int)),⟨by rw[hq.1,gcd_2_odd zo hp2],by omega,by omega⟩,zo⟩,λhc35=>have hc35:=dF hc35;⟨sRefCmp (x:=q) (y:=p.2) zo,λhc41=>have hc41:=dT hc41;have hlt:=cmpN_neg.1 hc41;have hmx:=Nat.max_eq_right (Nat.le_of_lt hlt);have hmn:=Nat.min_eq_left (Nat.le_of_lt hlt);have hmb:nd (max q p.2)<=max (nd x) (nd y):=(by rw[hmx];omega);⟨(by rw[hmx]),(λj0 hj0=>(by rw[hmx])),(by rw[hmn]),(λj0 hj0=>(by rw[hmn])),(rf ((g.2.2:Nat):Int)),sRefSub (x:=max q p.2) (y:=min q p.2) zo zo,(max q p.2-min q p.2,min q p.2),rfl,(λj0 hj0=>rfl),rfl,(λj0 hj0=>rfl),(rf ((g.2.2:Nat):Int)),(by have k:=gcd_stp hq1 hp1 zo hp2;have b1:=jB k.2.2.2.2.1;have b2:=jB k.2.2.2.2.2;have b3:nd (max q p.2)<=max (nd x) (nd y):=(by rcases Nat.le_total q p.2 with e | e;(rw[Nat.max_eq_right e];omega);(rw[Nat.max_eq_left e];omega));exact⟨hp.1.trans (hq.1.trans k.1),k.2.1,k.2.2.1,by show nd (max q p.2-min q p.2)<=_;omega,by show nd (min q p.2)<=_;omega⟩),(Nat.lt_of_lt_of_le (gcd_stp hq1 hp1 zo hp2).2.2.2.1 zo)⟩,λhc41=>have hc41:=dF hc41;have hlt:=Nat.le_of_not_lt (λe=>hc41 (cmpN_neg.2 e));have hmx:=Nat.max_eq_left hlt;have hmn:=Nat.min_eq_right hlt;have hmb:nd (max q p.2)<=max (nd x) (nd y):=(by rw[hmx];omega);⟨(by rw[hmx]),(λj0 hj0=>(by rw[hmx])),(by rw[hmn]),(λj0 hj0=>(by rw[hmn])),(rf ((g.2.2:Nat):Int)),sRefSub (x:=max q p.2) (y:=min q p.2) zo zo,(max q p.2-min q p.2,min q p.2),rfl,(λj0 hj0=>rfl),rfl,(λj0 hj0=>rfl),(rf ((g.2.2:Nat):Int)),(by have k:=gcd_stp hq1 hp1 zo hp2;have b1:=jB k.2.2.2.2.1;have b2:=jB k.2.2.2.2.2;have b3:nd (max q p.2)<=max (nd x) (nd y):=(by rcases Nat.le_total q p.2 with e | e;(rw[Nat.max_eq_right e];omega);(rw[Nat.max_eq_left e];omega));exact⟨hp.1.trans (hq.1.trans k.1),k.2.1,k.2.2.1,by show nd (max q p.2-min q p.2)<=_;omega,by show nd (min q p.2)<=_;omega⟩),(Nat.lt_of_lt_of_le (gcd_stp hq1 hp1 zo hp2).2.2.2.1 zo)⟩⟩⟩⟩,λhc33=>have hc33:=dF hc33;have hpz:=(kQ p.1).1 zo;have he:Nat.gcd x y=p.2*2^g.2.2:=(by rw[hg.1,hp.1,hpz,Nat.gcd_zero_left]);⟨sRefShl (x:=p.2) (k:=g.2.2) zo zo,(by rw[he]),(λj0 hj0=>(by rw[he]))⟩⟩⟩⟩⟩⟩⟩⟩⟩
open Go.RowKit
def SV.zt (z:Int):SV:=.agg (.cn (bX (decide (z<0))) (.cn (.dgs z.natAbs (nd z.natAbs)) .nl))
def SV.qt (q:Rat):SV:=.agg (.cn (.zt q.num) (.cn (.dgs q.den (nd q.den)) .nl))
theorem sgn_lt{b:Bool}{x:Nat}:(bif b then decide ((0:Int)<(nd x:Int)) else false)=decide (signed b x<0):=by
 have:=kQ x
 cases b
 ·simp[signed]
 ·simp only[signed,if_true,cond_true,decide_eq_decide];omega
theorem sZNew{b:Bool}{x:Nat}:CallOK Tryz.prog 103 [bX b,.dgs x (nd x)] (.zt (signed b x)) []:=by
 exact kP (ch:=[]) Tryz.func103 ((∀j0,j0<(nd x)->True)/\_/\_/\(b=true->(b==true)=true)/\(((bif b then(decide ((0:Int)<(nd x:Int))) else false:Bool)=(decide ((signed b x)<0)))/\((nd x:Nat)=(nd ((signed b x).natAbs)))/\(∀j0,j0<(nd x)->(((dg x j0:Nat):Int)=(dg ((signed b x).natAbs) j0:Int)))))
  ⟨(λ_ _=>trivial),(idB (b==true)),(idB (b==true)),(by first | (simp;done) | (simp;omega)),sgn_lt,(by rw[natAbs_sg]),(λj0 hj0=>(by rw[natAbs_sg]))⟩
theorem sQNew{p d:Int}(hd:d≠0)(hp2:nd p.natAbs<=1073741824)(hd2:nd d.natAbs<=1073741824):CallOK Tryz.prog 105 [.zt p,.zt d] (.qt (Rat.divInt p d)) []:=by
 have hg:0<Nat.gcd p.natAbs d.natAbs:=Nat.gcd_pos_of_pos_right _ zo
 exact kP (ch:=[.reg 1 [(4,.callS (.dgs (Nat.gcd p.natAbs d.natAbs) (nd (Nat.gcd p.natAbs d.natAbs))) [])],.reg 2 [(3,.callS (c2 (.dgs (p.natAbs/(Nat.gcd p.natAbs d.natAbs)) (nd (p.natAbs/(Nat.gcd p.natAbs d.natAbs)))) (.dgs (p.natAbs%(Nat.gcd p.natAbs d.natAbs)) (nd (p.natAbs%(Nat.gcd p.natAbs d.natAbs))))) [])],.reg 3 [(3,.callS (c2 (.dgs (d.natAbs/(Nat.gcd p.natAbs d.natAbs)) (nd (d.natAbs/(Nat.gcd p.natAbs d.natAbs)))) (.dgs (d.natAbs%(Nat.gcd p.natAbs d.natAbs)) (nd (d.natAbs%(Nat.gcd p.natAbs d.natAbs))))) [])],.reg 4 [(6,.callS (.zt (signed (!((decide (p<0))==(decide (d<0)))) (p.natAbs/(Nat.gcd p.natAbs d.natAbs)))) [])]]) Tryz.func105 ((∀j0,j0<(nd p.natAbs)->True)/\(∀j0,j0<(nd d.natAbs)->True)/\_/\_/\_/\_/\(((decide ((signed (!((decide (p<0))==(decide (d<0)))) (p.natAbs/(Nat.gcd p.natAbs d.natAbs)))<0):Bool)=(decide (((Rat.divInt p d).num)<0)))/\((nd ((signed (!((decide (p<0))==(decide (d<0)))) (p.natAbs/(Nat.gcd p.natAbs d.natAbs))).natAbs):Nat)=(nd (((Rat.divInt p d).num).natAbs)))/\(∀j0,j0<(nd ((signed (!((decide (p<0))==(decide (d<0)))) (p.natAbs/(Nat.gcd p.natAbs d.natAbs))).natAbs))->(((dg ((signed (!((decide (p<0))==(decide (d<0)))) (p.natAbs/(Nat.gcd p.natAbs d.natAbs))).natAbs) j0:Nat):Int)=(dg (((Rat.divInt p d).num).natAbs) j0:Int)))/\((nd (d.natAbs/(Nat.gcd p.natAbs d.natAbs)):Nat)=(nd ((Rat.divInt p d).den)))/\(∀j0,j0<(nd (d.natAbs/(Nat.gcd p.natAbs d.natAbs)))->(((dg (d.natAbs/(Nat.gcd p.natAbs d.natAbs)) j0:Nat):Int)=(dg ((Rat.divInt p d).den) j0:Int)))))
  ⟨(λ_ _=>trivial),(λ_ _=>trivial),sRefGcd (x:=p.natAbs) (y:=d.natAbs) zo zo,sRefDivMod (n:=p.natAbs) (d:=Nat.gcd p.natAbs d.natAbs) zo zo,sRefDivMod (n:=d.natAbs) (d:=Nat.gcd p.natAbs d.natAbs) zo zo,sZNew (b:=! ((decide (p<0))==(decide (d<0)))) (x:=p.natAbs/(Nat.gcd p.natAbs d.natAbs)),(by rw[new_num2 p d hd]),(by first | rw[new_num2 p d hd] | rw[new_den2 p d hd]),(λj0 hj0=>(by first | rw[new_num2 p d hd] | rw[new_den2 p d hd])),(by first | rw[new_num2 p d hd] | rw[new_den2 p d hd]),(λj0 hj0=>(by first | rw[new_num2 p d hd] | rw[new_den2 p d hd]))⟩
open Go.RowKit
theorem sRefOf1{k:Nat}(hk:k<18446744073709551616):CallOK Tryz.prog 104 [.sl 1 (λ_=>uZ (k:Int)) 1] (.dgs k (nd k)) []:=by
 have h:=sRefOf (w:=λ_=>k) (n:=1) zd (λ_ _=>hk)
 have e:val (λ_=>k) 1=k:=by simp[val]
 rw[e] at h
 exact h
theorem sg_self(x:Int):signed (decide (x<0)) x.natAbs=x:=by
 unfold signed
 by_cases h:x<0<;>simp[h]<;>omega
theorem nd_int{x:Int}(h:Wd64 x):nd ((x:Int):Rat).num.natAbs<=4:=by
 rw[Rat.num_intCast]
 refine(nd_le _ 4).2 ?_
 have h1:=h.1;have h2:=h.2
 have:(2:Nat)^(16*4)=18446744073709551616:=by decide
 omega
theorem sQInt{x:Int}(hl:-9223372036854775808<=x)(hu:x<9223372036854775808):CallOK Tryz.prog 69 [.ex (.int .i64 x)] (.qt ((x:Int):Rat)) []:=by
 exact kP (ch:=[.reg 1 [(1,.z (x%18446744073709551616))],.reg 3 [(1,.z ((x.natAbs:Nat):Int))],.conv 4 [(0,.id 0)] ⟨[(0,.ex (.int .i64 x)),(2,.own 0 0),(3,uZ ((x.natAbs:Nat):Int))],[(0,.one (.var 78 (.ex (.agg #[.bool false,.slice none 0 0,.slice none 0 0]))))],1⟩,.reg 4 [(4,.callS (.dgs x.natAbs (nd x.natAbs)) []),(5,.callS (.zt (signed (decide ((x:Int)<0)) x.natAbs)) [])],.conv 4 [(0,.id 0)] ⟨[(0,.ex (.int .i64 x)),(2,.own 0 0),(3,uZ ((x.natAbs:Nat):Int))],[(0,.one (.var 78 (.ex (.agg #[.bool false,.slice none 0 0,.slice none 0 0]))))],1⟩,.reg 4 [(4,.callS (.dgs x.natAbs (nd x.natAbs)) []),(5,.callS (.zt (signed (decide ((x:Int)<0)) x.natAbs)) [])]]) Tryz.func69 ((IntKind.wrap .u64 (x:Int)=(x%18446744073709551616))/\(((decide ((x:Int)<0))=true->(IntKind.wrap .u64 (0-(x%18446744073709551616))=(((x.natAbs:Nat):Int)))/\_/\_/\_/\((.agg #[.bool false,.slice none 0 0,.slice none 0 0]:Value)=.agg #[.bool false,.slice none 0 0,.slice none 0 0])/\_/\_/\(((decide ((signed (decide ((x:Int)<0)) x.natAbs)<0):Bool)=(decide ((((x:Int):Rat).num)<0)))/\((nd ((signed (decide ((x:Int)<0)) x.natAbs).natAbs):Nat)=(nd ((((x:Int):Rat).num).natAbs)))/\(∀j0,j0<(nd ((signed (decide ((x:Int)<0)) x.natAbs).natAbs))->(((dg ((signed (decide ((x:Int)<0)) x.natAbs).natAbs) j0:Nat):Int)=(dg ((((x:Int):Rat).num).natAbs) j0:Int)))/\((1:Nat)=(nd (((x:Int):Rat).den)))/\(∀j0,j0<1->((1:Int)=(dg (((x:Int):Rat).den) j0:Int)))))/\((decide ((x:Int)<0))=false->_/\_/\((x%18446744073709551616:Int)=((x.natAbs:Nat):Int))/\((.agg #[.bool false,.slice none 0 0,.slice none 0 0]:Value)=.agg #[.bool false,.slice none 0 0,.slice none 0 0])/\_/\_/\(((decide ((signed (decide ((x:Int)<0)) x.natAbs)<0):Bool)=(decide ((((x:Int):Rat).num)<0)))/\((nd ((signed (decide ((x:Int)<0)) x.natAbs).natAbs):Nat)=(nd ((((x:Int):Rat).num).natAbs)))/\(∀j0,j0<(nd ((signed (decide ((x:Int)<0)) x.natAbs).natAbs))->(((dg ((signed (decide ((x:Int)<0)) x.natAbs).natAbs) j0:Nat):Int)=(dg ((((x:Int):Rat).num).natAbs) j0:Int)))/\((1:Nat)=(nd (((x:Int):Rat).den)))/\(∀j0,j0<1->((1:Int)=(dg (((x:Int):Rat).den) j0:Int)))))))
  ⟨(by rw[IntKind.wrap_u64]),λhc7=>have hc7:=dT hc7;⟨(by rw[IntKind.wrap_u64];omega),(rf (x:Int)),(rf 0),(rf ((x.natAbs:Nat):Int)),rfl,sRefOf1 (k:=x.natAbs) zo,sZNew (b:=(decide ((x:Int)<0))) (x:=x.natAbs),(by rw[sg_self,Rat.num_intCast]),(by rw[sg_self,Rat.num_intCast]),(λj0 hj0=>(by rw[sg_self,Rat.num_intCast])),(by rw[Rat.den_intCast];rfl),(λj0 hj0=>(by rw[Rat.den_intCast,show j0=0 by omega];rfl))⟩,λhc7=>have hc7:=dF hc7;⟨(rf (x:Int)),(rf 0),zo,rfl,sRefOf1 (k:=x.natAbs) zo,sZNew (b:=(decide ((x:Int)<0))) (x:=x.natAbs),(by rw[sg_self,Rat.num_intCast]),(by rw[sg_self,Rat.num_intCast]),(λj0 hj0=>(by rw[sg_self,Rat.num_intCast])),(by rw[Rat.den_intCast];rfl),(λj0 hj0=>(by rw[Rat.den_intCast,show j0=0 by omega];rfl))⟩⟩
theorem sQOf{p q:Int}(hp:Wd64 p)(hq:Wd64 q):CallOK Tryz.prog 79 [.ex (.int .i64 p),.ex (.int .i64 q)] (.qt (oneQ p q)) []:=by
 have hp1:=hp.1;have hp2:=hp.2;have hq1:=hq.1;have hq2:=hq.2
 have n1:=nd_int (x:=p) hp
 have n2:=nd_int (x:=q) hq
 have m2:((q:Int):Rat).num=q:=Rat.num_intCast q
 exact kP (ch:=[.reg 2 [(1,.callS (.qt ((p:Int):Rat)) [])],.reg 3 [(1,.callS (.qt ((p:Int):Rat)) []),(4,.callS (.qt ((q:Int):Rat)) []),(6,.callS (.qt (Rat.divInt (((p:Int):Rat).num) (((q:Int):Rat).num))) [])]]) Tryz.func79 ((((decide ((q:Int)=0))=true->_/\(((decide ((((p:Int):Rat).num)<0):Bool)=(decide (((oneQ p q).num)<0)))/\((nd ((((p:Int):Rat).num).natAbs):Nat)=(nd (((oneQ p q).num).natAbs)))/\(∀j0,j0<(nd ((((p:Int):Rat).num).natAbs))->(((dg ((((p:Int):Rat).num).natAbs) j0:Nat):Int)=(dg (((oneQ p q).num).natAbs) j0:Int)))/\((nd (((p:Int):Rat).den):Nat)=(nd ((oneQ p q).den)))/\(∀j0,j0<(nd (((p:Int):Rat).den))->(((dg (((p:Int):Rat).den) j0:Nat):Int)=(dg ((oneQ p q).den) j0:Int)))))/\((decide ((q:Int)=0))=false->_/\_/\_/\(((decide (((Rat.divInt (((p:Int):Rat).num) (((q:Int):Rat).num)).num)<0):Bool)=(decide (((oneQ p q).num)<0)))/\((nd (((Rat.divInt (((p:Int):Rat).num) (((q:Int):Rat).num)).num).natAbs):Nat)=(nd (((oneQ p q).num).natAbs)))/\(∀j0,j0<(nd (((Rat.divInt (((p:Int):Rat).num) (((q:Int):Rat).num)).num).natAbs))->(((dg (((Rat.divInt (((p:Int):Rat).num) (((q:Int):Rat).num)).num).natAbs) j0:Nat):Int)=(dg (((oneQ p q).num).natAbs) j0:Int)))/\((nd ((Rat.divInt (((p:Int):Rat).num) (((q:Int):Rat).num)).den):Nat)=(nd ((oneQ p q).den)))/\(∀j0,j0<(nd ((Rat.divInt (((p:Int):Rat).num) (((q:Int):Rat).num)).den))->(((dg ((Rat.divInt (((p:Int):Rat).num) (((q:Int):Rat).num)).den) j0:Nat):Int)=(dg ((oneQ p q).den) j0:Int)))))))
  ⟨λhc6=>have hc6:=dT hc6;have e:oneQ p q=((p:Int):Rat):=if_pos hc6;⟨sQInt (x:=p) zo zo,(by rw[e]),(by rw[e]),(λj0 hj0=>(by rw[e])),(by rw[e]),(λj0 hj0=>(by rw[e]))⟩,λhc6=>have hc6:=dF hc6;have e:oneQ p q=Rat.divInt (((p:Int):Rat).num) (((q:Int):Rat).num):=(by rw[Rat.num_intCast,Rat.num_intCast];exact if_neg hc6);⟨sQInt (x:=p) zo zo,sQInt (x:=q) zo zo,sQNew (p:=(((p:Int):Rat).num)) (d:=(((q:Int):Rat).num)) (by rw[m2];exact hc6) zo zo,(by rw[e]),(by rw[e]),(λj0 hj0=>(by rw[e])),(by rw[e]),(λj0 hj0=>(by rw[e]))⟩⟩
theorem sRef10{p d:Nat->Int}{n:Nat}(hn:n<=68719476736)(h:∀i,i<n->Wd64 (p i)/\Wd64 (d i)):CallOK Tryz.prog 39 [fE p d n] (.sl 3 (λi0=>.qt (oneQ (p i0) (d i0))) n) []:=by
 exact kP (ch:=[.loop 3 (Nat) (λg=>g<=n) (λg=>n-g) (λg=>⟨[(0,fE p d n),(3,.own 0 0),(4,iN g)],[(0,.one (.row 78 3 (λi0=>.qt (oneQ (p i0) (d i0))) g))],1⟩) [(0,.nil)] (λ_=>[(0,.id 1)]) (λg=>[.reg 5 [(3,.k g),(8,.k g),(11,.callS (.qt (oneQ (p g) (d g))) []),(13,.row 0 (λi0=>.qt (oneQ (p i0) (d i0))))],.reg 4 [(1,.z ((g+1:Nat):Int))]])]) Tryz.func39 ((∀j0,j0<n->True)/\(((λX1 X2 X3:Prop=>∃g0:Nat,X1/\X2/\X3/\((0:Int)=(g0:Int))/\((g0:Nat)=0)/\(g0<=n)) _ _ _)/\∀g:Nat,(g<=n)->(((decide ((g:Int)<(n:Int)))=true->_/\(g<n)/\_/\(g<n)/\_/\(g+1<=68719476736)/\_/\_/\_/\((λX1 X2 X3 X4:Prop=>∃g1:Nat,X1/\X2/\X3/\(((g+1:Nat):Int)=(g1:Int))/\((g+1:Nat)=g1)/\X4/\(g1<=n)/\(n-g1<n-g)) _ _ _ _))/\((decide ((g:Int)<(n:Int)))=false->(((g:Nat)=n)/\_)))))
  ⟨(λ_ _=>trivial),⟨0,(rf n),(leS (λi0=>.agg (c2 (iZ (p i0)) (iZ (d i0)))) n),(rf 0),zo,zo,zo⟩,λg hg=>⟨λhc8=>have hc8:=dT hc8;have hg2:=h g zo;⟨(rf (g:Int)),zo,(rf (g:Int)),zo,sQOf (p:=p g) (q:=d g) hg2.1 hg2.2,zo,(oldS (λi0=>.qt (oneQ (p i0) (d i0))) g),(newS (λi0=>.qt (oneQ (p i0) (d i0))) g),(wI (g:=g) zo),g+1,(rf n),(leS (λi0=>.agg (c2 (iZ (p i0)) (iZ (d i0)))) n),(rf 0),zo,zo,(leS (λi0=>.qt (oneQ (p i0) (d i0))) (g+1)),zo,zo⟩,λhc8=>have hc8:=dF hc8;have hi2:g=n:=zo;⟨hi2,(leS (λi0=>.qt (oneQ (p i0) (d i0))) g)⟩⟩⟩
open Go.RowKit
theorem sRef11{z l:Nat}{k:Nat->Nat}{p d:Nat->Nat->Int}(h:∀r,r<l->∀c,c<k r->Wd64 (p r c)/\Wd64 (d r c)):CallOK Tryz.prog 66 [.agg (c2 (.ex (.int .u8 (z:Int))) (.sl 1 (λi0=>.sl 2 (λi1=>.agg (c2 (iZ (p i0 i1)) (iZ (d i0 i1)))) (k i0)) l))] (.agg (c2 (.sl 1 (λi0=>.sl 3 (λi1=>.qt (oneQ (padZ (k i0) (p i0) i1) (padZ (k i0) (d i0) i1))) (z%7)) (min l 6)) (iN (z%7)))) []:=by
 have hw:∀r,r<min l 6->∀c,c<z%7->Wd64 (padZ (k r) (p r) c)/\Wd64 (padZ (k r) (d r) c):=λr hr c _=>⟨padZ_wd λhc=>(h r zo c hc).1,padZ_wd λhc=>(h r zo c hc).2⟩
 exact kP (ch:=[.reg 1 [(1,.callS (c2 (.sl 1 (λi0=>.sl 2 (λi1=>.agg (c2 (iZ (padZ (k i0) (p i0) i1)) (iZ (padZ (k i0) (d i0) i1)))) (z%7)) (min l 6)) (iN (z%7))) [])],.loop 4 (Nat) (λg=>g<=(min l 6)) (λg=>min l 6-g) (λg=>⟨[(2,.own 1 0),(3,.sl 1 (λi0=>.sl 2 (λi1=>.agg (c2 (iZ (padZ (k i0) (p i0) i1)) (iZ (padZ (k i0) (d i0) i1)))) (z%7)) (min l 6)),(5,.own 2 0),(6,iN g)],[(0,.one (.var 24 (.agg (c2 (.ex (.int .u8 (z:Int))) (.sl 1 (λi0=>.sl 2 (λi1=>.agg (c2 (iZ (p i0 i1)) (iZ (d i0 i1)))) (k i0)) l))))),(1,.one (.var 68 (.ex (.agg #[.slice none 0 0,.int .i64 0])))),(2,.one (.var 68 (.agg (c2 (.own 3 0) (iN (z%7)))))),(3,.one (.row 86 1 (λi0=>.sl 3 (λi1=>.qt (oneQ (padZ (k i0) (p i0) i1) (padZ (k i0) (d i0) i1))) (z%7)) g))],4⟩) [(0,.id 0),(1,.id 1),(2,.id 2),(3,.nil)] (λ_=>[(0,.id 0),(1,.id 1),(2,.id 2),(3,.id 4)]) (λg=>[.reg 6 [(4,.k g),(6,.callS (.sl 3 (λi0=>.qt (oneQ (padZ (k g) (p g) i0) (padZ (k g) (d g) i0))) (z%7)) []),(8,.row 0 (λi0=>.sl 3 (λi1=>.qt (oneQ (padZ (k i0) (p i0) i1) (padZ (k i0) (d i0) i1))) (z%7)))],.reg 5 [(1,.z ((g+1:Nat):Int))]])]) Tryz.func66 ((∀j0,j0<l->(∀j1,j1<(k j0)->True))/\_/\(((λX1 X2 X3 X4 X5 X6 X7 X8 X9:Prop=>∃g0:Nat,X1/\X2/\X3/\X4/\((0:Int)=(g0:Int))/\X5/\X6/\X7/\((.agg #[.slice none 0 0,.int .i64 0]:Value)=.agg #[.slice none 0 0,.int .i64 0])/\X8/\X9/\((g0:Nat)=0)/\(g0<=(min l 6))) _ _ _ _ _ _ _ _ _)/\∀g:Nat,(g<=(min l 6))->(((decide ((g:Int)<((min l 6:Nat):Int)))=true->_/\(g<(min l 6))/\_/\(g+1<=68719476736)/\_/\_/\_/\((λX1 X2 X3 X4 X5 X6 X7 X8 X9 X10:Prop=>∃g1:Nat,X1/\X2/\X3/\X4/\(((g+1:Nat):Int)=(g1:Int))/\X5/\X6/\X7/\((.agg #[.slice none 0 0,.int .i64 0]:Value)=.agg #[.slice none 0 0,.int .i64 0])/\X8/\X9/\((g+1:Nat)=g1)/\X10/\(g1<=(min l 6))/\(min l 6-g1<min l 6-g)) _ _ _ _ _ _ _ _ _ _))/\((decide ((g:Int)<((min l 6:Nat):Int)))=false->(((g:Nat)=(min l 6))/\_/\_)))))
  ⟨(λ_ _=>(λ_ _=>trivial)),sRows11 (z:=z) (l:=l) (k:=k) (p:=p) (d:=d),⟨0,(rf 0),(rf (min l 6:Nat)),(leS (λi0=>.sl 2 (λi1=>.agg (c2 (iZ (padZ (k i0) (p i0) i1)) (iZ (padZ (k i0) (d i0) i1)))) (z%7)) (min l 6)),(rf 0),zo,(rf (z:Int)),(rf l),(leS (λi0=>.sl 2 (λi1=>.agg (c2 (iZ (p i0 i1)) (iZ (d i0 i1)))) (k i0)) l),rfl,(rf 0),(rf ((z%7:Nat):Int)),zo,zo⟩,λg hg=>⟨λhc17=>have hc17:=dT hc17;have hg2:=hw g zo;⟨(rf (g:Int)),zo,sRef10 (n:=z%7) (p:=λi=>padZ (k g) (p g) i) (d:=λi=>padZ (k g) (d g) i) zo hg2,zo,(oldS (λi0=>.sl 3 (λi1=>.qt (oneQ (padZ (k i0) (p i0) i1) (padZ (k i0) (d i0) i1))) (z%7)) g),(newS (λi0=>.sl 3 (λi1=>.qt (oneQ (padZ (k i0) (p i0) i1) (padZ (k i0) (d i0) i1))) (z%7)) g),(wI (g:=g) zo),g+1,(rf 0),(rf (min l 6:Nat)),(leS (λi0=>.sl 2 (λi1=>.agg (c2 (iZ (padZ (k i0) (p i0) i1)) (iZ (padZ (k i0) (d i0) i1)))) (z%7)) (min l 6)),(rf 0),zo,(rf (z:Int)),(rf l),(leS (λi0=>.sl 2 (λi1=>.agg (c2 (iZ (p i0 i1)) (iZ (d i0 i1)))) (k i0)) l),rfl,(rf 0),(rf ((z%7:Nat):Int)),zo,(leS (λi0=>.sl 3 (λi1=>.qt (oneQ (padZ (k i0) (p i0) i1) (padZ (k i0) (d i0) i1))) (z%7)) (g+1)),zo,zo⟩,λhc17=>have hc17:=dF hc17;have hi2:g=min l 6:=zo;⟨hi2,(leS (λi0=>.sl 3 (λi1=>.qt (oneQ (padZ (k i0) (p i0) i1) (padZ (k i0) (d i0) i1))) (z%7)) g),(rf ((z%7:Nat):Int))⟩⟩⟩
open Go.RowKit
theorem sgn_par:∀n,sgn n=if n%2=1 then-1 else 1
 | 0=>rfl
 | n+1=>by
  show-sgn n=_
  rw[sgn_par n]
  by_cases h:n%2=1
  ·rw[if_pos h,if_neg zo];rfl
  ·rw[if_neg h,if_pos zo]
def dB (E:Nat):Nat->Nat
 | 0=>1
 | n+1=>(n+1)*(E+dB E n+2)+1
theorem ht_sgnm(n:Nat)(x:Rat):htq (sgn n*x)=htq x:=by
 rw[sgn_par]
 split
 ·rw[show(-1:Rat)*x=-x by grind,ht_neg]
 ·rw[show(1:Rat)*x=x by grind]
theorem det_ht{E:Nat}:∀n {q:Nat->Nat->Rat},(∀i,i<n->∀j,j<n->htq (q i j)<=E)->htq (det n q)<=dB E n/\∀g,g<=n->htq (sumQ (λc=>sgn c*q 0 c*det (n-1) (zY q 0 c)) g)<=dB E n
 | 0,q,_=>⟨by show htq 1<=1;rw[ht_one];omega,λg hg=>(by cases Nat.le_zero.1 hg;show htq 0<=1;rw[ht_zero];omega)⟩
 | n+1,q,h=>by
  have hs:∀g,g<=n+1->htq (sumQ (λc=>sgn c*q 0 c*det n (zY q 0 c)) g)<=g*(E+dB E n+2)+1:=by
   intro g
   induction g with
   | zero=>intro _;show htq 0<=_;rw[ht_zero];omega
   | succ g ih=>
    intro hg
    have h1:=ih zo
    have h2:=(det_ht n (q:=zY q 0 g) λi hi j hj=>h _ (skp_lt hi) _ (skp_lt hj)).1
    have h3:=ht_add (sumQ (λc=>sgn c*q 0 c*det n (zY q 0 c)) g) (sgn g*q 0 g*det n (zY q 0 g))
    have h4:=ht_mul (sgn g*q 0 g) (det n (zY q 0 g))
    have h5:=ht_sgnm g (q 0 g)
    have h6:=h 0 zo g zo
    have h7:(g+1)*(E+dB E n+2)=g*(E+dB E n+2)+(E+dB E n+2):=Nat.succ_mul _ _
    show htq (sumQ (λc=>sgn c*q 0 c*det n (zY q 0 c)) g+sgn g*q 0 g*det n (zY q 0 g))<=_
    omega
  have hm:∀g,g<=n+1->g*(E+dB E n+2)+1<=dB E (n+1):=λg hg=>Nat.succ_le_succ (Nat.mul_le_mul_right _ hg)
  exact⟨Nat.le_trans (hs (n+1) (Nat.le_refl _)) (hm _ (Nat.le_refl _)),λg hg=>Nat.le_trans (hs g hg) (hm g hg)⟩
open Go.RowKit
def sgB (b:Bool):Rat:=if b=true then-1 else 1
theorem sgB_if(b:Bool)(x:Rat):sgB b*x=if b=true then-x else x:=by
 unfold sgB
 split<;>grind
theorem prodD_congr{U V:Nat->Nat->Rat}:∀c,(∀k,k<c->U k k=V k k)->jX U c=jX V c
 | 0,_=>rfl
 | c+1,h=>by show jX U c*U c c=jX V c*V c c;rw[prodD_congr c λk hk=>h k zo,h c (Nat.lt_succ_self c)]
theorem prodD_ne{U:Nat->Nat->Rat}:∀c,(∀k,k<c->U k k≠0)->jX U c≠0
 | 0,_=>by show(1:Rat)≠0;decide
 | c+1,h=>λe=>by
  have:=Rat.mul_eq_zero.1 (show jX U c*U c c=0 from e)
  exact this.elim (prodD_ne c λk hk=>h k zo) (h c (Nat.lt_succ_self c))
section
variable {s n:Nat} {q:Nat->Nat->Rat}
theorem lu_detI(hs:∀i,i<n->∀j,j<n->szq (q i j)<=s):∀c,c<=n->luOK n q c->DetI s n q (c,(luS n q c).1,sgB (luS n q c).2.2.2.2*jX (luS n q c).1 c)
 | 0,_,_=>by
  show DetI s n q (0,q,sgB false*1)
  rw[show sgB false*1=1 by unfold sgB;rw[if_neg zd];grind]
  exact DetI.start hs
 | c+1,hc,hok=>by
  have H:=lu_detI hs c zo λk hk=>hok k zo
  have hK:=hok c (Nat.lt_succ_self c)
  have hge:=luK_ge (n:=n) (s:=luS n q c) (c:=c)
  have hpv:(luS n q c).1 (luK n (luS n q c) c) c≠0:=leadK_at _ _ (show yH _ c c (n-c)<_ by have:luK n (luS n q c) c<n:=hK;unfold luK at this;omega)
  have N:=H.next (K:=luK n (luS n q c) c) (show c<n by omega) hge hK hpv
  show DetI s n q (c+1,(zS n (luS n q c) c).1,sgB (zS n (luS n q c) c).2.2.2.2*jX (zS n (luS n q c) c).1 (c+1))
  unfold zS
  generalize luK n (luS n q c) c=K at N hge hK
  generalize luS n q c=S at N
  obtain⟨U,L,P,R,b⟩:=S
  have e:sgB (if K=c then b else !b)*jX (zF (zA U c K) c n) (c+1)=(if K=c then sgB b*jX U c else-(sgB b*jX U c))*zA U c K c c:=by
   show sgB _*(jX (zF (zA U c K) c n) c*zF (zA U c K) c n c c)=_
   rw[prodD_congr (V:=U) c λk hk=>by
    rw[kU zo]
    show U (if k=c then K else if k=K then c else k) k=U k k
    rw[if_neg zo,if_neg zo],kU (Nat.le_refl c)]
   by_cases z:K=c
   ·rw[if_pos z,if_pos z,Rat.mul_assoc]
   ·rw[if_neg z,if_neg z]
    cases b<;>simp only[sgB,Bool.not_true,Bool.not_false,if_true,Bool.false_eq_true,if_false]<;>grind
  show DetI s n q (c+1,zF (zA U c K) c n,sgB (if K=c then b else !b)*jX (zF (zA U c K) c n) (c+1))
  rw[e]
  exact N
theorem lu_det(hs:∀i,i<n->∀j,j<n->szq (q i j)<=s)(h:luOK n q n):det n q=if(luS n q n).2.2.2.2=true then-(jX (luS n q n).1 n) else jX (luS n q n).1 n:=by
 rw[xS,←(lu_detI hs n (Nat.le_refl n) h).done rfl]
 exact sgB_if _ _
theorem lu_det_ne(hs:∀i,i<n->∀j,j<n->szq (q i j)<=s)(h:luOK n q n):det n q≠0:=by
 have hp:=prodD_ne n (lu_inv (A:=q) n (Nat.le_refl n) h).piv
 rw[lu_det hs h]
 split
 ·intro e;exact hp (by grind)
 ·exact hp
theorem lu_or(hs:∀i,i<n->∀j,j<n->szq (q i j)<=s):∀c,c<=n->luOK n q c∨cdet n q=0
 | 0,_=>.inl λk hk=>absurd hk (Nat.not_lt_zero k)
 | c+1,hc=>by
  rcases lu_or hs c zo with h | h
  ·by_cases k:luK n (luS n q c) c<n
   ·exact .inl (ok_next h k)
   ·refine .inr ((lu_detI hs c zo h).none (show c<n by omega) ?_)
    have:=(leadK_le (B:=(luS n q c).1) (c:=c) (n-c) c).2
    show yH (luS n q c).1 c c (n-c)=n
    have:luK n (luS n q c) c=yH (luS n q c).1 c c (n-c):=rfl
    omega
  ·exact .inr h
theorem cram_div{b x:Nat->Rat}(hd:det n q≠0)(h:∀r,r<n->sumQ (λj=>q r j*x j) n=b r){c:Nat}(hc:c<n):det n (putC q c b)/det n q=x c:=by
 rw[xS,xS] at*
 rw[cramer h hc,Rat.div_def,Rat.mul_assoc,Rat.mul_inv_cancel _ hd,Rat.mul_one]
end
theorem sRefCut{l0:Nat}{k0:Nat->Nat}{p0 d0:Nat->Nat->Int}{n m:Nat}(h0:∀r,r<l0->∀c,c<k0 r->Wd64 (p0 r c)/\Wd64 (d0 r c))(hn:n<=6)(hm:min l0 n=m):CallOK Tryz.prog 66 [.agg (c2 (.ex (.int .u8 (n:Int))) (.sl 1 (gE k0 p0 d0) m))] (.agg (c2 (.sl 1 (λi0=>.sl 3 (λi1=>.agg (c2 (.agg (c2 (bX (decide (((gQ k0 p0 d0 i0 i1).num)<0))) (.sl 1 (λi2=>iN (dg (((gQ k0 p0 d0 i0 i1).num).natAbs) i2)) (nd (((gQ k0 p0 d0 i0 i1).num).natAbs))))) (.sl 1 (λi2=>iN (dg ((gQ k0 p0 d0 i0 i1).den) i2)) (nd ((gQ k0 p0 d0 i0 i1).den))))) n) m) (iN n))) []:=by
 have h:=sRef11 (z:=n) (l:=m) (k:=k0) (p:=p0) (d:=d0) (λr hr=>h0 r zo)
 rw[Nat.mod_eq_of_lt (show n<7 by omega),Nat.min_eq_left (show m<=6 by omega)] at h
 exact h
open Go.RowKit
def offQ (k:Nat) (f:Nat->Rat) (j:Nat):Rat:=if j=k then 0 else f j
theorem off_self{k:Nat}{f:Nat->Rat}:offQ k f k=0:=if_pos rfl
theorem off_ne{k j:Nat}{f:Nat->Rat}(h:j≠k):offQ k f j=f j:=if_neg h
theorem sum_off{k n:Nat}(f:Nat->Rat)(hk:k<n):sumQ f n=f k+sumQ (offQ k f) n:=by
 have h1:sumQ f n=sumQ (λj=>(if j=k then f k else 0)+offQ k f j) n:=zG n λj _=>by
  by_cases e:j=k
  ·rw[if_pos e,e,off_self];grind
  ·rw[if_neg e,off_ne e];grind
 rw[h1,sumQ_add,jP (f:=λj=>if j=k then f k else 0) n hk λi _ hne=>if_neg hne,if_pos rfl]
def etaX (k:Nat) (w x:Nat->Rat) (j:Nat):Rat:=if j=k then x k/w k else x j-w j*(x k/w k)
def mulV (n:Nat) (A:Nat->Nat->Rat) (w:Nat->Rat) (i:Nat):Rat:=sumQ (λl=>A i l*w l) n
theorem rat_mul_div{a b:Rat}(h:b≠0):b*(a/b)=a:=by
 rw[Rat.div_def,Rat.mul_comm a,←Rat.mul_assoc,Rat.mul_inv_cancel _ h,Rat.one_mul]
theorem putC_self{A:Nat->Nat->Rat}{k i:Nat}{b:Nat->Rat}:putC A k b i k=b i:=if_pos rfl
theorem putC_ne{A:Nat->Nat->Rat}{k i j:Nat}{b:Nat->Rat}(h:j≠k):putC A k b i j=A i j:=if_neg h
theorem eta_step{n k:Nat}{A:Nat->Nat->Rat}{w x:Nat->Rat}(hk:k<n)(hw:w k≠0)(i:Nat):mulV n (putC A k (mulV n A w)) (etaX k w x) i=mulV n A x i:=by
 have hy:=rat_mul_div (a:=x k) hw
 show sumQ (λj=>putC A k (mulV n A w) i j*etaX k w x j) n=sumQ (λj=>A i j*x j) n
 rw[sum_off _ hk,sum_off (λj=>A i j*x j) hk]
 have e1:sumQ (offQ k λj=>putC A k (mulV n A w) i j*etaX k w x j) n=sumQ (λj=>offQ k (λj=>A i j*x j) j+-(x k/w k)*offQ k (λl=>A i l*w l) j) n:=zG n λj _=>by
  by_cases e:j=k
  ·rw[e,off_self,off_self,off_self];grind
  ·rw[off_ne e,off_ne e,off_ne e,putC_ne e]
   show A i j*(if j=k then _ else _)=_
   rw[if_neg e];grind
 have e2:putC A k (mulV n A w) i k*etaX k w x k=(A i k*w k+sumQ (offQ k λl=>A i l*w l) n)*(x k/w k):=by
  rw[putC_self]
  show sumQ (λl=>A i l*w l) n*(if k=k then x k/w k else _)=_
  rw[if_pos rfl,sum_off _ hk]
 have e3:A i k*x k=A i k*w k*(x k/w k):=by rw[Rat.mul_assoc,hy]
 rw[e1,e2,sumQ_add,yO,e3]
 grind
def etaP (k:Nat) (w z:Nat->Rat) (h:Nat):Rat:=z k-sumQ (offQ k λl=>w l*z l) h
def etaZ (n k:Nat) (w z:Nat->Rat) (j:Nat):Rat:=if j=k then etaP k w z n/w k else z j
def rowM (n:Nat) (A:Nat->Nat->Rat) (y:Nat->Rat) (j:Nat):Rat:=sumQ (λi=>y i*A i j) n
theorem row_mulV{n k:Nat}{A:Nat->Nat->Rat}{w y:Nat->Rat}:rowM n (putC A k (mulV n A w)) y k=sumQ (λl=>w l*rowM n A y l) n:=by
 show sumQ (λi=>y i*putC A k (mulV n A w) i k) n=_
 rw[show sumQ (λi=>y i*putC A k (mulV n A w) i k) n=sumQ (λi=>sumQ (λl=>w l*(y i*A i l)) n) n from zG n λi _=>by
  rw[putC_self]
  show y i*sumQ _ n=_
  rw[←yO]
  exact zG n λl _=>by grind,sumQ_comm]
 exact zG n λl _=>by rw[yO];rfl
theorem row_ne{n k j:Nat}{A:Nat->Nat->Rat}{b y:Nat->Rat}(h:j≠k):rowM n (putC A k b) y j=rowM n A y j:=zG n λi _=>by rw[putC_ne h]
theorem etaZ_back{n k:Nat}{A:Nat->Nat->Rat}{w y z:Nat->Rat}(hk:k<n)(hw:w k≠0)(h:∀j,j<n->rowM n A y j=etaZ n k w z j):∀j,j<n->rowM n (putC A k (mulV n A w)) y j=z j:=λj hj=>by
 by_cases e:j=k
 ·subst e
  rw[row_mulV,sum_off _ hk,h j hj,show sumQ (offQ j λl=>w l*rowM n A y l) n=sumQ (offQ j λl=>w l*z l) n from zG n λl hl=>by
   by_cases e:l=j
   ·rw[e,off_self,off_self]
   ·rw[off_ne e,off_ne e,h l hl];unfold etaZ;rw[if_neg e]]
  unfold etaZ
  rw[if_pos rfl,rat_mul_div hw]
  unfold etaP
  grind
 ·rw[row_ne e,h j hj];unfold etaZ;rw[if_neg e]
abbrev Etas:=Nat->Nat×(Nat->Rat)
def etaM (n:Nat) (A:Nat->Nat->Rat) (e:Etas):Nat->Nat->Nat->Rat
 | 0=>A
 | t+1=>putC (etaM n A e t) (e t).1 (mulV n (etaM n A e t) (e t).2)
def zH (x:Nat->Rat) (e:Etas):Nat->Nat->Rat
 | 0=>x
 | t+1=>etaX (e t).1 (e t).2 (zH x e t)
def zU (n m:Nat) (z:Nat->Rat) (e:Etas):Nat->Nat->Rat
 | 0=>z
 | g+1=>etaZ n (e (m-1-g)).1 (e (m-1-g)).2 (zU n m z e g)
structure EtaOK (n:Nat) (e:Etas) (m:Nat):Prop where
 at_:∀t,t<m->(e t).1<n
 ne:∀t,t<m->(e t).2 (e t).1≠0
section
variable {n m:Nat} {A:Nat->Nat->Rat} {e:Etas}
theorem etaXs_ok(H:EtaOK n e m)(x:Nat->Rat)(i:Nat):∀t,t<=m->mulV n (etaM n A e t) (zH x e t) i=mulV n A x i
 | 0,_=>rfl
 | t+1,ht=>(eta_step (H.at_ t zo) (H.ne t zo) i).trans (etaXs_ok H x i t zo)
theorem etaZs_back(H:EtaOK n e m){y z:Nat->Rat}(h:∀j,j<n->rowM n A y j=zU n m z e m j):∀g,g<=m->∀j,j<n->rowM n (etaM n A e g) y j=zU n m z e (m-g) j
 | 0,_=>h
 | g+1,hg=>by
  have ih:=etaZs_back H h g zo
  rw[show m-g=(m-(g+1))+1 by omega] at ih
  have e1:m-1-(m-(g+1))=g:=by omega
  refine etaZ_back (A:=etaM n A e g) (H.at_ g zo) (H.ne g zo) λj hj=>(ih j hj).trans ?_
  show etaZ n (e (m-1-(m-(g+1)))).1 (e (m-1-(m-(g+1)))).2 _ j=_
  rw[e1]
theorem etaM_det(H:EtaOK n e m)(hA:cdet n A≠0):∀t,t<=m->cdet n (etaM n A e t)≠0
 | 0,_=>hA
 | t+1,ht=>by
  show cdet n (putC _ _ _)≠0
  rw[cramer (A:=etaM n A e t) (b:=mulV n (etaM n A e t) (e t).2) (x:=(e t).2) (λr _=>rfl) (H.at_ t zo)]
  exact rat_mul_ne (H.ne t zo) (etaM_det H hA t zo)
theorem etaM_cong{e':Etas}:∀t,(∀i,i<t->e i=e' i)->etaM n A e t=etaM n A e' t
 | 0,_=>rfl
 | t+1,h=>by
  show putC (etaM n A e t) (e t).1 (mulV n (etaM n A e t) (e t).2)=putC (etaM n A e' t) (e' t).1 (mulV n (etaM n A e' t) (e' t).2)
  rw[etaM_cong t λi hi=>h i zo,h t (Nat.lt_succ_self t)]
end
open Go.RowKit Go.Extern.Stop Go.Stop Go.Extern
namespace Er
theorem rlm(z:Sem Value)(f:TypeId->Addr->Nat->Nat->Sem Value)(v:Value):
  ReflectliteValue.method z f #[v]=(do match←ReflectliteValue.parts v with | none=>z | some (t,a,fl)=>f t a fl (fl%32)):=rfl
theorem rls(v x:Value):ReflectliteValue.set #[v,x]=(do
  let (some (dst,a,fl),some (src,b,_)):=(←ReflectliteValue.parts v,←ReflectliteValue.parts x)
   | unsupported (.noEntry "extern/(internal/reflectlite.Value).Set.zeroValue")
  if fl/ReflectliteValue.flagAddr%2==0 then unsupported (.noEntry "extern/(internal/reflectlite.Value).Set.unaddressable")
  let val←loadVar src b
  if←Rtype.directlyAssignable dst src then storeVar dst a val
  else if←Rtype.implements dst src then
   if(←Rtype.kind src)==20 then
    match val with
    | .nilIface=>unsupported (.noEntry "extern/reflectlite: a nil value of one interface type handed on as a value of another")
    | _=>storeVar dst a val
   else storeVar dst a (.iface src val)
  else panicString ("reflectlite.Set: value of type " ++(←Rtype.spelt src)++ " is not assignable to type " ++(←Rtype.spelt dst))
  pure (.tuple #[])):=rfl
theorem methodKind(h:Value)(w:World):(Go.method 377 169 (.agg #[h]) "Kind").run Tryz.prog w=.ok (199,h) w:=by kernel_rfl
theorem methodElem(h:Value)(w:World):(Go.method 377 169 (.agg #[h]) "Elem").run Tryz.prog w=.ok (215,.agg #[h]) w:=by kernel_rfl
theorem methodImplements(h:Value)(w:World):(Go.method 377 169 (.agg #[h]) "Implements").run Tryz.prog w=.ok (216,.agg #[h]) w:=by kernel_rfl
theorem methodAssignableTo(h:Value)(w:World):(Go.method 377 169 (.agg #[h]) "AssignableTo").run Tryz.prog w=.ok (213,.agg #[h]) w:=by kernel_rfl
theorem valueOfTF(t:Addr)(w:World):(ReflectliteValue.unpack (.iface 115 (.pointer (some t)))).run Tryz.prog w
  =.ok (.agg #[.pointer (some ⟨1,115,none⟩),.pointer (some ⟨w.heap.size,0,none⟩),.int .u64 150]) (w.alloc (.cells #[.pointer (some t)] 115)):=by kernel_rfl
theorem typeTF(a:Addr)(w:World):(ReflectliteValue.methodAny (ReflectliteValue.valueError "reflectlite.Value.Type" 0) (λt _ _ _=>ReflectliteType.toType t) #[.agg #[.pointer (some ⟨1,115,none⟩),.pointer (some a),.int .u64 150]]).run Tryz.prog w=.ok (.iface 169 (.agg #[.pointer (some ⟨1,115,none⟩)])) w:=by kernel_rfl
theorem kindTF(w:World):((ReflectliteType.abiMethod λt=>(λa:Nat=>Value.int IntKind.u8 (a:Int))<$>Rtype.kind t) #[.pointer (some ⟨1,115,none⟩)]).run Tryz.prog w=.ok (.int .u8 22) w:=by kernel_rfl
theorem kindF(w:World):((ReflectliteType.abiMethod λt=>(λa:Nat=>Value.int IntKind.u8 (a:Int))<$>Rtype.kind t) #[.pointer (some ⟨1,113,none⟩)]).run Tryz.prog w=.ok (.int .u8 22) w:=by kernel_rfl
theorem partsTF(a:Addr)(w:World):(ReflectliteValue.parts (.agg #[.pointer (some ⟨1,115,none⟩),.pointer (some a),.int .u64 150])).run Tryz.prog w=.ok (some (115,a,150)) w:=by kernel_rfl
theorem isNilTF(a p:Addr)(W:World)(ha:W.cell? a=some (.pointer (some p))):
  (ReflectliteValue.method (ReflectliteValue.valueError "reflectlite.Value.IsNil" 0) ReflectliteValue.isNil #[.agg #[.pointer (some ⟨1,115,none⟩),.pointer (some a),.int .u64 150]]).run Tryz.prog W=.ok (.bool false) W:=by
 rw[rlm]
 simp only[Sem.run_bind,partsTF,Result.andThen]
 simp[ReflectliteValue.isNil,loadVar,isAgg,underlying,Tryz.underlying115,ha,Result.andThen]
theorem elemTF(w:World):(ReflectliteType.method ReflectliteType.elem #[.agg #[.pointer (some ⟨1,115,none⟩)]]).run Tryz.prog w=.ok (.iface 169 (.agg #[.pointer (some ⟨1,113,none⟩)])) w:=by kernel_rfl
theorem implementsF(w:World):(ReflectliteType.relation "Implements" ReflectliteType.implements_ #[.agg #[.pointer (some ⟨1,113,none⟩)],.iface 169 (.agg #[.pointer (some ⟨1,37,none⟩)])]).run Tryz.prog w=.ok (.bool true) w:=by kernel_rfl
theorem typeOfF(v:Value)(w:World):(ReflectliteType.typeOf #[.iface 113 v]).run Tryz.prog w=.ok (.iface 169 (.agg #[.pointer (some ⟨1,113,none⟩)])) w:=by kernel_rfl
theorem assignableFF(w:World):(ReflectliteType.relation "AssignableTo" ReflectliteType.assignableTo #[.agg #[.pointer (some ⟨1,113,none⟩)],.iface 169 (.agg #[.pointer (some ⟨1,113,none⟩)])]).run Tryz.prog w=.ok (.bool true) w:=by kernel_rfl
theorem assignableEF(w:World):(ReflectliteType.relation "AssignableTo" ReflectliteType.assignableTo #[.agg #[.pointer (some ⟨1,63,none⟩)],.iface 169 (.agg #[.pointer (some ⟨1,113,none⟩)])]).run Tryz.prog w=.ok (.bool false) w:=by kernel_rfl
theorem valueOfF(e:Addr)(w:World):(ReflectliteValue.unpack (.iface 113 (.pointer (some e)))).run Tryz.prog w
  =.ok (.agg #[.pointer (some ⟨1,113,none⟩),.pointer (some ⟨w.heap.size,0,none⟩),.int .u64 150]) (w.alloc (.cells #[.pointer (some e)] 113)):=by kernel_rfl
theorem elemOfTF(w:World):(Rtype.elem? 115).run Tryz.prog w=.ok (some 113) w:=by kernel_rfl
theorem mkF(p:Addr)(w:World):(ReflectliteValue.mk 113 p ReflectliteValue.flagAddr).run Tryz.prog w=.ok (.agg #[.pointer (some ⟨1,113,none⟩),.pointer (some p),.int .u64 406]) w:=by kernel_rfl
theorem elemVTF(a p:Addr)(W:World)(ha:W.cell? a=some (.pointer (some p))):
  (ReflectliteValue.method (ReflectliteValue.valueError "reflectlite.Value.Elem" 0) ReflectliteValue.elem #[.agg #[.pointer (some ⟨1, 115, none⟩), .pointer (some a), .int .u64 150]]).run Tryz.prog W
   =.ok (.agg #[.pointer (some ⟨1,113,none⟩),.pointer (some p),.int .u64 406]) W:=by
 rw[rlm]
 simp only[Sem.run_bind,partsTF,Result.andThen]
 simp[ReflectliteValue.elem,loadVar,isAgg,underlying,Tryz.underlying115,ha,Result.andThen,elemOfTF,mkF]
theorem partsAF(a:Addr)(w:World):(ReflectliteValue.parts (.agg #[.pointer (some ⟨1,113,none⟩),.pointer (some a),.int .u64 406])).run Tryz.prog w=.ok (some (113,a,406)) w:=by kernel_rfl
theorem partsF(a:Addr)(w:World):(ReflectliteValue.parts (.agg #[.pointer (some ⟨1,113,none⟩),.pointer (some a),.int .u64 150])).run Tryz.prog w=.ok (some (113,a,150)) w:=by kernel_rfl
theorem directF(w:World):(Rtype.directlyAssignable 113 113).run Tryz.prog w=.ok true w:=by kernel_rfl
theorem setF(ta b:Addr)(e:Addr)(old:Value)(W:World)(hb:W.cell? b=some (.pointer (some e)))(ht:W.cell? ta=some old)(hf:W.frozen? ta=false):
  (ReflectliteValue.set #[.agg #[.pointer (some ⟨1, 113, none⟩), .pointer (some ta), .int .u64 406], .agg #[.pointer (some ⟨1, 113, none⟩), .pointer (some b), .int .u64 150]]).run Tryz.prog W
   =.ok (.tuple #[]) (W.setCell ta (.pointer (some e))):=by
 rw[rls]
 simp only[Sem.run_bind,partsAF,partsF,Result.andThen]
 simp[ReflectliteValue.flagAddr,loadVar,isAgg,underlying,Tryz.underlying113,hb,Result.andThen,directF,storeVar,Value.cells,storeCells,Addr.add]
 rw[run_store Tryz.prog W ta _ _ (by rfl)]
 simp[ht,hf]
theorem valueOfTE(t:Addr)(w:World):(ReflectliteValue.unpack (.iface 165 (.pointer (some t)))).run Tryz.prog w
  =.ok (.agg #[.pointer (some ⟨1,165,none⟩),.pointer (some ⟨w.heap.size,0,none⟩),.int .u64 150]) (w.alloc (.cells #[.pointer (some t)] 165)):=by kernel_rfl
theorem typeTE(a:Addr)(w:World):(ReflectliteValue.methodAny (ReflectliteValue.valueError "reflectlite.Value.Type" 0) (λt _ _ _=>ReflectliteType.toType t) #[.agg #[.pointer (some ⟨1,165,none⟩),.pointer (some a),.int .u64 150]]).run Tryz.prog w=.ok (.iface 169 (.agg #[.pointer (some ⟨1,165,none⟩)])) w:=by kernel_rfl
theorem kindTE(w:World):((ReflectliteType.abiMethod λt=>(λa:Nat=>Value.int IntKind.u8 (a:Int))<$>Rtype.kind t) #[.pointer (some ⟨1,165,none⟩)]).run Tryz.prog w=.ok (.int .u8 22) w:=by kernel_rfl
theorem kindE(w:World):((ReflectliteType.abiMethod λt=>(λa:Nat=>Value.int IntKind.u8 (a:Int))<$>Rtype.kind t) #[.pointer (some ⟨1,63,none⟩)]).run Tryz.prog w=.ok (.int .u8 2) w:=by kernel_rfl
theorem partsTE(a:Addr)(w:World):(ReflectliteValue.parts (.agg #[.pointer (some ⟨1,165,none⟩),.pointer (some a),.int .u64 150])).run Tryz.prog w=.ok (some (165,a,150)) w:=by kernel_rfl
theorem isNilTE(a p:Addr)(W:World)(ha:W.cell? a=some (.pointer (some p))):
  (ReflectliteValue.method (ReflectliteValue.valueError "reflectlite.Value.IsNil" 0) ReflectliteValue.isNil #[.agg #[.pointer (some ⟨1,165,none⟩),.pointer (some a),.int .u64 150]]).run Tryz.prog W=.ok (.bool false) W:=by
 rw[rlm]
 simp only[Sem.run_bind,partsTE,Result.andThen]
 simp[ReflectliteValue.isNil,loadVar,isAgg,underlying,Tryz.underlying165,ha,Result.andThen]
theorem elemTE(w:World):(ReflectliteType.method ReflectliteType.elem #[.agg #[.pointer (some ⟨1,165,none⟩)]]).run Tryz.prog w=.ok (.iface 169 (.agg #[.pointer (some ⟨1,63,none⟩)])) w:=by kernel_rfl
theorem implementsE(w:World):(ReflectliteType.relation "Implements" ReflectliteType.implements_ #[.agg #[.pointer (some ⟨1,63,none⟩)],.iface 169 (.agg #[.pointer (some ⟨1,37,none⟩)])]).run Tryz.prog w=.ok (.bool true) w:=by kernel_rfl
theorem typeOfE(v:Value)(w:World):(ReflectliteType.typeOf #[.iface 63 v]).run Tryz.prog w=.ok (.iface 169 (.agg #[.pointer (some ⟨1,63,none⟩)])) w:=by kernel_rfl
theorem assignableFE(w:World):(ReflectliteType.relation "AssignableTo" ReflectliteType.assignableTo #[.agg #[.pointer (some ⟨1,113,none⟩)],.iface 169 (.agg #[.pointer (some ⟨1,63,none⟩)])]).run Tryz.prog w=.ok (.bool false) w:=by kernel_rfl
theorem assignableEE(w:World):(ReflectliteType.relation "AssignableTo" ReflectliteType.assignableTo #[.agg #[.pointer (some ⟨1,63,none⟩)],.iface 169 (.agg #[.pointer (some ⟨1,63,none⟩)])]).run Tryz.prog w=.ok (.bool true) w:=by kernel_rfl
theorem valueOfE(n:Int)(w:World):(ReflectliteValue.unpack (.iface 63 (.int .i64 n))).run Tryz.prog w
  =.ok (.agg #[.pointer (some ⟨1,63,none⟩),.pointer (some ⟨w.heap.size,0,none⟩),.int .u64 130]) (w.alloc (.cells #[.int .i64 n] 63)):=by kernel_rfl
theorem elemOfTE(w:World):(Rtype.elem? 165).run Tryz.prog w=.ok (some 63) w:=by kernel_rfl
theorem mkE(p:Addr)(w:World):(ReflectliteValue.mk 63 p ReflectliteValue.flagAddr).run Tryz.prog w=.ok (.agg #[.pointer (some ⟨1,63,none⟩),.pointer (some p),.int .u64 386]) w:=by kernel_rfl
theorem elemVTE(a p:Addr)(W:World)(ha:W.cell? a=some (.pointer (some p))):
  (ReflectliteValue.method (ReflectliteValue.valueError "reflectlite.Value.Elem" 0) ReflectliteValue.elem #[.agg #[.pointer (some ⟨1, 165, none⟩), .pointer (some a), .int .u64 150]]).run Tryz.prog W
   =.ok (.agg #[.pointer (some ⟨1,63,none⟩),.pointer (some p),.int .u64 386]) W:=by
 rw[rlm]
 simp only[Sem.run_bind,partsTE,Result.andThen]
 simp[ReflectliteValue.elem,loadVar,isAgg,underlying,Tryz.underlying165,ha,Result.andThen,elemOfTE,mkE]
theorem partsAE(a:Addr)(w:World):(ReflectliteValue.parts (.agg #[.pointer (some ⟨1,63,none⟩),.pointer (some a),.int .u64 386])).run Tryz.prog w=.ok (some (63,a,386)) w:=by kernel_rfl
theorem partsE(a:Addr)(w:World):(ReflectliteValue.parts (.agg #[.pointer (some ⟨1,63,none⟩),.pointer (some a),.int .u64 130])).run Tryz.prog w=.ok (some (63,a,130)) w:=by kernel_rfl
theorem directE(w:World):(Rtype.directlyAssignable 63 63).run Tryz.prog w=.ok true w:=by kernel_rfl
theorem setE(ta b:Addr)(n:Int)(old:Value)(W:World)(hb:W.cell? b=some (.int .i64 n))(ht:W.cell? ta=some old)(hf:W.frozen? ta=false):
  (ReflectliteValue.set #[.agg #[.pointer (some ⟨1, 63, none⟩), .pointer (some ta), .int .u64 386], .agg #[.pointer (some ⟨1, 63, none⟩), .pointer (some b), .int .u64 130]]).run Tryz.prog W
   =.ok (.tuple #[]) (W.setCell ta (.int .i64 n)):=by
 rw[rls]
 simp only[Sem.run_bind,partsAE,partsE,Result.andThen]
 simp[ReflectliteValue.flagAddr,loadVar,isAgg,underlying,Tryz.underlying63,hb,Result.andThen,directE,storeVar,Value.cells,storeCells,Addr.add]
 rw[run_store Tryz.prog W ta _ _ (by rfl)]
 simp[ht,hf]
theorem noAsF(v:Value)(xT:TypeId)(w:World):(Instr.typeAssert (.iface 113 v) xT 203 true).run Tryz.prog w=.ok (.tuple #[.nilIface,.bool false]) w:=run_typeAssert_lacksB Tryz.underlying203 zk zk v xT w
theorem hasUnF(v:Value)(xT:TypeId)(w:World):(Instr.typeAssert (.iface 113 v) xT 174 true).run Tryz.prog w=.ok (.tuple #[.iface 113 v,.bool true]) w:=run_typeAssert_hasB Tryz.underlying174 zk v xT w
theorem noAsE(v:Value)(xT:TypeId)(w:World):(Instr.typeAssert (.iface 63 v) xT 203 true).run Tryz.prog w=.ok (.tuple #[.nilIface,.bool false]) w:=run_typeAssert_lacksB Tryz.underlying203 zk zk v xT w
theorem noUnE(v:Value)(xT:TypeId)(w:World):(Instr.typeAssert (.iface 63 v) xT 174 true).run Tryz.prog w=.ok (.tuple #[.nilIface,.bool false]) w:=run_typeAssert_lacksB Tryz.underlying174 zk zk v xT w
theorem noUnsE(v:Value)(xT:TypeId)(w:World):(Instr.typeAssert (.iface 63 v) xT 176 true).run Tryz.prog w=.ok (.tuple #[.nilIface,.bool false]) w:=run_typeAssert_lacksB Tryz.underlying176 zk zk v xT w
theorem methodUnwrap(v:Value)(w:World):(Go.method 377 113 v "Unwrap").run Tryz.prog w=.ok (208,v) w:=by kernel_rfl
set_option maxHeartbeats 4000000 in
theorem as_FF(e:Addr)(t:Addr)(old:Value)(w:World)(hg:w.cell? ⟨0,0,none⟩=some (.iface 169 (.agg #[.pointer (some ⟨1,37,none⟩)])))(ht0:w.cell? t=some old)(hf0:w.frozen? t=false):
  Calls Tryz.prog 60 #[.iface 113 (.pointer (some e)),.iface 115 (.pointer (some t))] w λev w'=>ev=.returned (.bool true)/\w'=((((w.alloc (.cells #[.pointer (some t)] 115)).alloc (.cells #[.pointer (some ⟨1,115,none⟩),.pointer (some ⟨w.heap.size,0,none⟩),.int .u64 150] 158)).alloc (.cells #[.pointer (some ⟨1,115,none⟩),.pointer (some ⟨w.heap.size,0,none⟩),.int .u64 150] 158)).alloc (.cells #[.pointer (some e)] 113)).setCell t (.pointer (some e)):=by
 have hVO:=@run_callFunc_extern Tryz.prog 98 _ (λargs=>ReflectliteValue.unpack (args.getD 0 (.tuple #[]))) Tryz.func98 zk zk zk zk
 have hTy:=@run_callFunc_extern Tryz.prog 99 _ (ReflectliteValue.methodAny (ReflectliteValue.valueError "reflectlite.Value.Type" 0) (λt _ _ _=>ReflectliteType.toType t)) Tryz.func99 zk zk zk zk
 have hIN:=@run_callFunc_extern Tryz.prog 100 _ (ReflectliteValue.method (ReflectliteValue.valueError "reflectlite.Value.IsNil" 0) ReflectliteValue.isNil) Tryz.func100 zk zk zk zk
 have hKi:=@run_callFunc_extern Tryz.prog 199 _ (ReflectliteType.abiMethod λt=>do pure (.int .u8 (←Rtype.kind t))) Tryz.func199 zk zk zk zk
 have hEl:=@run_callFunc_extern Tryz.prog 215 _ (ReflectliteType.method ReflectliteType.elem) Tryz.func215 zk zk zk zk
 have hIm:=@run_callFunc_extern Tryz.prog 216 _ (ReflectliteType.relation "Implements" ReflectliteType.implements_) Tryz.func216 zk zk zk zk
 have hTO:=@run_callFunc_extern Tryz.prog 67 _ ReflectliteType.typeOf Tryz.func67 zk zk zk zk
 have hAT:=@run_callFunc_extern Tryz.prog 213 _ (ReflectliteType.relation "AssignableTo" ReflectliteType.assignableTo) Tryz.func213 zk zk zk zk
 have hEV:=@run_callFunc_extern Tryz.prog 134 _ (ReflectliteValue.method (ReflectliteValue.valueError "reflectlite.Value.Elem" 0) ReflectliteValue.elem) Tryz.func134 zk zk zk zk
 have hSe:=@run_callFunc_extern Tryz.prog 135 _ ReflectliteValue.set Tryz.func135 zk zk zk zk
 have xvalueOfTF:=valueOfTF
 have xtypeTF:=typeTF
 have xmethodKind:=methodKind
 have xmethodElem:=methodElem
 have xmethodImplements:=methodImplements
 have xmethodAssignableTo:=methodAssignableTo
 have xkindTF:=kindTF
 have xkindF:=kindF
 have xelemTF:=elemTF
 have ximplementsF:=implementsF
 have xvalueOfF:=valueOfF
 have xtypeOfF:=typeOfF
 have xassignableFF:=assignableFF
 have xnoAsF:=noAsF
 have xhasUnF:=hasUnF
 have xtypeOfE:=typeOfE
 have xassignableEF:=assignableEF
 have xnoAsE:=noAsE
 have xnoUnE:=noUnE
 have xnoUnsE:=noUnsE
 have n8:=isNilTF ⟨w.heap.size,0,none⟩ t ((w.alloc (.cells #[.pointer (some t)] 115)).alloc (.cells #[.pointer (some ⟨1,115,none⟩),.pointer (some ⟨w.heap.size,0,none⟩),.int .u64 150] 158)) (by simp)
 have hlt:0<w.heap.size:=by
  rcases Nat.eq_zero_or_pos w.heap.size with h0 | h
  ·simp[World.cell?,h0] at hg
  ·exact h
 have hg2:((w.alloc (.cells #[.pointer (some t)] 115)).alloc (.cells #[.pointer (some ⟨1,115,none⟩),.pointer (some ⟨w.heap.size,0,none⟩),.int .u64 150] 158)).cell? ⟨0,0,none⟩=some (.iface 169 (.agg #[.pointer (some ⟨1,37,none⟩)])):=by
  rw[World.cell?_alloc_lt _ _ ⟨0,0,none⟩ (by simp),World.cell?_alloc_lt _ _ ⟨0,0,none⟩ hlt];exact hg
 have htl:t.block<w.heap.size:=by
  rcases Nat.lt_or_ge t.block w.heap.size with h | h
  ·exact h
  ·simp[World.cell?,Array.getElem?_eq_none h] at ht0
 have el:=elemVTF ⟨w.heap.size,0,none⟩ t (((w.alloc (.cells #[.pointer (some t)] 115)).alloc (.cells #[.pointer (some ⟨1,115,none⟩),.pointer (some ⟨w.heap.size,0,none⟩),.int .u64 150] 158)).alloc (.cells #[.pointer (some ⟨1,115,none⟩),.pointer (some ⟨w.heap.size,0,none⟩),.int .u64 150] 158)) (by rw[World.cell?_alloc_lt _ _ ⟨w.heap.size,0,none⟩ (by simp;omega)];simp)
 have st:=setF t ⟨w.heap.size+1+1+1,0,none⟩ e old (((((w.alloc (.cells #[.pointer (some t)] 115)).alloc (.cells #[.pointer (some ⟨1,115,none⟩),.pointer (some ⟨w.heap.size,0,none⟩),.int .u64 150] 158)).alloc (.cells #[.pointer (some ⟨1,115,none⟩),.pointer (some ⟨w.heap.size,0,none⟩),.int .u64 150] 158)).alloc (.cells #[.pointer (some e)] 113)))
  (by rw[World.cell?_alloc_at _ _ _ _ (by simp)];rfl)
  (by rw[World.cell?_alloc_lt _ _ t (by simp;omega),World.cell?_alloc_lt _ _ t (by simp;omega),World.cell?_alloc_lt _ _ t (by simp;omega),World.cell?_alloc_lt _ _ t htl];exact ht0)
  (by rw[World.frozen?_alloc_old _ _ t (by simp;omega),World.frozen?_alloc_old _ _ t (by simp;omega),World.frozen?_alloc_old _ _ t (by simp;omega),World.frozen?_alloc_old _ _ t (Nat.ne_of_lt htl)];exact hf0)
 go_enter Tryz.func60,Tryz.ntmps60
 go_wp2
 refine wp_loop_rounds 1 ?_
 rw[rounds_succ]
 go_wp2
 go_ret
 exact⟨rfl,rfl⟩
set_option maxHeartbeats 4000000 in
theorem as_FE(n:Int)(g o:Nat)(t:Addr)(old:Value)(w:World)(hg:w.cell? ⟨0,0,none⟩=some (.iface 169 (.agg #[.pointer (some ⟨1,37,none⟩)])))(ht0:w.cell? t=some old)(hf0:w.frozen? t=false)(he:w.cell? ⟨g,o+2,none⟩=some (.iface 63 (.int .i64 n))):
  Calls Tryz.prog 60 #[.iface 113 (.pointer (some ⟨g,o,none⟩)),.iface 165 (.pointer (some t))] w λev w'=>ev=.returned (.bool true)/\w'=((((w.alloc (.cells #[.pointer (some t)] 165)).alloc (.cells #[.pointer (some ⟨1,165,none⟩),.pointer (some ⟨w.heap.size,0,none⟩),.int .u64 150] 158)).alloc (.cells #[.pointer (some ⟨1,165,none⟩),.pointer (some ⟨w.heap.size,0,none⟩),.int .u64 150] 158)).alloc (.cells #[.int .i64 n] 63)).setCell t (.int .i64 n):=by
 have hVO:=@run_callFunc_extern Tryz.prog 98 _ (λargs=>ReflectliteValue.unpack (args.getD 0 (.tuple #[]))) Tryz.func98 zk zk zk zk
 have hTy:=@run_callFunc_extern Tryz.prog 99 _ (ReflectliteValue.methodAny (ReflectliteValue.valueError "reflectlite.Value.Type" 0) (λt _ _ _=>ReflectliteType.toType t)) Tryz.func99 zk zk zk zk
 have hIN:=@run_callFunc_extern Tryz.prog 100 _ (ReflectliteValue.method (ReflectliteValue.valueError "reflectlite.Value.IsNil" 0) ReflectliteValue.isNil) Tryz.func100 zk zk zk zk
 have hKi:=@run_callFunc_extern Tryz.prog 199 _ (ReflectliteType.abiMethod λt=>do pure (.int .u8 (←Rtype.kind t))) Tryz.func199 zk zk zk zk
 have hEl:=@run_callFunc_extern Tryz.prog 215 _ (ReflectliteType.method ReflectliteType.elem) Tryz.func215 zk zk zk zk
 have hIm:=@run_callFunc_extern Tryz.prog 216 _ (ReflectliteType.relation "Implements" ReflectliteType.implements_) Tryz.func216 zk zk zk zk
 have hTO:=@run_callFunc_extern Tryz.prog 67 _ ReflectliteType.typeOf Tryz.func67 zk zk zk zk
 have hAT:=@run_callFunc_extern Tryz.prog 213 _ (ReflectliteType.relation "AssignableTo" ReflectliteType.assignableTo) Tryz.func213 zk zk zk zk
 have hEV:=@run_callFunc_extern Tryz.prog 134 _ (ReflectliteValue.method (ReflectliteValue.valueError "reflectlite.Value.Elem" 0) ReflectliteValue.elem) Tryz.func134 zk zk zk zk
 have hSe:=@run_callFunc_extern Tryz.prog 135 _ ReflectliteValue.set Tryz.func135 zk zk zk zk
 have xvalueOfTE:=valueOfTE
 have xtypeTE:=typeTE
 have xmethodKind:=methodKind
 have xmethodElem:=methodElem
 have xmethodImplements:=methodImplements
 have xmethodAssignableTo:=methodAssignableTo
 have xkindTE:=kindTE
 have xkindE:=kindE
 have xelemTE:=elemTE
 have ximplementsE:=implementsE
 have xvalueOfE:=valueOfE
 have xtypeOfF:=typeOfF
 have xassignableFE:=assignableFE
 have xnoAsF:=noAsF
 have xhasUnF:=hasUnF
 have xtypeOfE:=typeOfE
 have xassignableEE:=assignableEE
 have xnoAsE:=noAsE
 have xnoUnE:=noUnE
 have xnoUnsE:=noUnsE
 have xmethodUnwrap:=methodUnwrap
 have n8:=isNilTE ⟨w.heap.size,0,none⟩ t ((w.alloc (.cells #[.pointer (some t)] 165)).alloc (.cells #[.pointer (some ⟨1,165,none⟩),.pointer (some ⟨w.heap.size,0,none⟩),.int .u64 150] 158)) (by simp)
 have hlt:0<w.heap.size:=by
  rcases Nat.eq_zero_or_pos w.heap.size with h0 | h
  ·simp[World.cell?,h0] at hg
  ·exact h
 have hg2:((w.alloc (.cells #[.pointer (some t)] 165)).alloc (.cells #[.pointer (some ⟨1,165,none⟩),.pointer (some ⟨w.heap.size,0,none⟩),.int .u64 150] 158)).cell? ⟨0,0,none⟩=some (.iface 169 (.agg #[.pointer (some ⟨1,37,none⟩)])):=by
  rw[World.cell?_alloc_lt _ _ ⟨0,0,none⟩ (by simp),World.cell?_alloc_lt _ _ ⟨0,0,none⟩ hlt];exact hg
 have htl:t.block<w.heap.size:=by
  rcases Nat.lt_or_ge t.block w.heap.size with h | h
  ·exact h
  ·simp[World.cell?,Array.getElem?_eq_none h] at ht0
 have el:=elemVTE ⟨w.heap.size,0,none⟩ t (((w.alloc (.cells #[.pointer (some t)] 165)).alloc (.cells #[.pointer (some ⟨1,165,none⟩),.pointer (some ⟨w.heap.size,0,none⟩),.int .u64 150] 158)).alloc (.cells #[.pointer (some ⟨1,165,none⟩),.pointer (some ⟨w.heap.size,0,none⟩),.int .u64 150] 158)) (by rw[World.cell?_alloc_lt _ _ ⟨w.heap.size,0,none⟩ (by simp;omega)];simp)
 have st:=setE t ⟨w.heap.size+1+1+1,0,none⟩ n old (((((w.alloc (.cells #[.pointer (some t)] 165)).alloc (.cells #[.pointer (some ⟨1,165,none⟩),.pointer (some ⟨w.heap.size,0,none⟩),.int .u64 150] 158)).alloc (.cells #[.pointer (some ⟨1,165,none⟩),.pointer (some ⟨w.heap.size,0,none⟩),.int .u64 150] 158)).alloc (.cells #[.int .i64 n] 63)))
  (by rw[World.cell?_alloc_at _ _ _ _ (by simp)];rfl)
  (by rw[World.cell?_alloc_lt _ _ t (by simp;omega),World.cell?_alloc_lt _ _ t (by simp;omega),World.cell?_alloc_lt _ _ t (by simp;omega),World.cell?_alloc_lt _ _ t htl];exact ht0)
  (by rw[World.frozen?_alloc_old _ _ t (by simp;omega),World.frozen?_alloc_old _ _ t (by simp;omega),World.frozen?_alloc_old _ _ t (by simp;omega),World.frozen?_alloc_old _ _ t (Nat.ne_of_lt htl)];exact hf0)
 have xmethodUnwrap:=methodUnwrap
 have hgl:g<w.heap.size:=by
  rcases Nat.lt_or_ge g w.heap.size with h | h
  ·exact h
  ·simp[World.cell?,Array.getElem?_eq_none h] at he
 have he2:(((w.alloc (.cells #[.pointer (some t)] 165)).alloc (.cells #[.pointer (some ⟨1,165,none⟩),.pointer (some ⟨w.heap.size,0,none⟩),.int .u64 150] 158)).alloc (.cells #[.pointer (some ⟨1,165,none⟩),.pointer (some ⟨w.heap.size,0,none⟩),.int .u64 150] 158)).cell? ⟨g,o+2,none⟩=some (.iface 63 (.int .i64 n)):=by
  rw[World.cell?_alloc_lt _ _ ⟨g,o+2,none⟩ (by simp;omega),World.cell?_alloc_lt _ _ ⟨g,o+2,none⟩ (by simp;omega),World.cell?_alloc_lt _ _ ⟨g,o+2,none⟩ hgl];exact he
 go_enter Tryz.func60,Tryz.ntmps60
 go_wp2
 refine wp_loop_rounds 2 ?_
 rw[rounds_succ]
 go_wp2
 rw[rounds_succ]
 go_wp2
 go_ret
 exact⟨rfl,rfl⟩
end Er
open Go.RowKit Go.Extern.Stop Go.Stop Go.Extern
abbrev sNo:ByteArray:=⟨#[]⟩
abbrev sCol:ByteArray:=⟨#[99,111,108,117,109,110]⟩
namespace Er
set_option maxHeartbeats 4000000 in
theorem number_F(s:ByteArray)(k n:Int)(g o:Nat)(w:World)(hg:w.cell? ⟨0,0,none⟩=some (.iface 169 (.agg #[.pointer (some ⟨1,37,none⟩)])))(_:w.cell? ⟨g,o+0,none⟩=some (.string s))(_:w.cell? ⟨g,o+1,none⟩=some (.int .i64 k))(h2:w.cell? ⟨g,o+2,none⟩=some (.iface 63 (.int .i64 n))):Calls Tryz.prog 63 #[.iface 113 (.pointer (some ⟨g,o,none⟩))] w λe w'=>e=.returned (.int .i64 n)/\Grow w w':=by
 have hgl:g<w.heap.size:=by
  rcases Nat.lt_or_ge g w.heap.size with h | h
  ·exact h
  ·simp[World.cell?,Array.getElem?_eq_none h] at h2
 have hlt:0<w.heap.size:=by
  rcases Nat.eq_zero_or_pos w.heap.size with h0 | h
  ·simp[World.cell?,h0] at hg
  ·exact h
 have hgA:(w.alloc (.cells #[.int .i64 0] 63)).cell? ⟨0,0,none⟩=some (.iface 169 (.agg #[.pointer (some ⟨1,37,none⟩)])):=by
  rw[World.cell?_alloc_lt _ _ ⟨0,0,none⟩ hlt];exact hg
 have htA:(w.alloc (.cells #[.int .i64 0] 63)).cell? ⟨w.heap.size,0,none⟩=some (.int .i64 0):=by simp
 have hfA:(w.alloc (.cells #[.int .i64 0] 63)).frozen? ⟨w.heap.size,0,none⟩=false:=by simp
 have c2:(w.alloc (.cells #[.int .i64 0] 63)).cell? ⟨g,o+2,none⟩=some (.iface 63 (.int .i64 n)):=by
  rw[World.cell?_alloc_lt _ _ ⟨g,o+2,none⟩ hgl];exact h2
 go_enter Tryz.func63,Tryz.ntmps63
 go_wp2_with (go_at_call 60;refine(as_FE n g o _ _ _ hgA htA hfA c2).mono ?_;rintro e w' ⟨rfl,rfl⟩)
 go_ret
 refine⟨rfl,?_⟩
 exact Wz
set_option maxHeartbeats 4000000 in
theorem place_F(s:ByteArray)(k n:Int)(g o:Nat)(w:World)(hg:w.cell? ⟨0,0,none⟩=some (.iface 169 (.agg #[.pointer (some ⟨1,37,none⟩)])))(h0:w.cell? ⟨g,o+0,none⟩=some (.string s))(h1:w.cell? ⟨g,o+1,none⟩=some (.int .i64 k))(h2:w.cell? ⟨g,o+2,none⟩=some (.iface 63 (.int .i64 n))):Calls Tryz.prog 23 #[.iface 113 (.pointer (some ⟨g,o,none⟩))] w λe w'=>e=.returned (.tuple #[.string s,.int .i64 k,.bool true])/\Grow w w':=by
 have hgl:g<w.heap.size:=by
  rcases Nat.lt_or_ge g w.heap.size with h | h
  ·exact h
  ·simp[World.cell?,Array.getElem?_eq_none h] at h2
 have hlt:0<w.heap.size:=by
  rcases Nat.eq_zero_or_pos w.heap.size with h0 | h
  ·simp[World.cell?,h0] at hg
  ·exact h
 have hgA:(w.alloc (.cells #[.pointer none] 113)).cell? ⟨0,0,none⟩=some (.iface 169 (.agg #[.pointer (some ⟨1,37,none⟩)])):=by
  rw[World.cell?_alloc_lt _ _ ⟨0,0,none⟩ hlt];exact hg
 have htA:(w.alloc (.cells #[.pointer none] 113)).cell? ⟨w.heap.size,0,none⟩=some (.pointer none):=by simp
 have hfA:(w.alloc (.cells #[.pointer none] 113)).frozen? ⟨w.heap.size,0,none⟩=false:=by simp
 have d0:(((((w.alloc (.cells #[.pointer (some ⟨g,o,none⟩)] 113)).alloc (.cells #[.pointer (some ⟨w.heap.size,0,none⟩)] 115)).alloc (.cells #[.pointer (some ⟨1,115,none⟩),.pointer (some ⟨w.heap.size+1,0,none⟩),.int .u64 150] 158)).alloc (.cells #[.pointer (some ⟨1,115,none⟩),.pointer (some ⟨w.heap.size+1,0,none⟩),.int .u64 150] 158)).alloc (.cells #[.pointer (some ⟨g,o,none⟩)] 113)).cell? ⟨g,o,none⟩=some (.string s):=by
  rw[World.cell?_alloc_lt _ _ ⟨g,o,none⟩ (by simp;omega),World.cell?_alloc_lt _ _ ⟨g,o,none⟩ (by simp;omega),World.cell?_alloc_lt _ _ ⟨g,o,none⟩ (by simp;omega),World.cell?_alloc_lt _ _ ⟨g,o,none⟩ (by simp;omega),World.cell?_alloc_lt _ _ ⟨g,o,none⟩ hgl];exact h0
 have d1:(((((w.alloc (.cells #[.pointer (some ⟨g,o,none⟩)] 113)).alloc (.cells #[.pointer (some ⟨w.heap.size,0,none⟩)] 115)).alloc (.cells #[.pointer (some ⟨1,115,none⟩),.pointer (some ⟨w.heap.size+1,0,none⟩),.int .u64 150] 158)).alloc (.cells #[.pointer (some ⟨1,115,none⟩),.pointer (some ⟨w.heap.size+1,0,none⟩),.int .u64 150] 158)).alloc (.cells #[.pointer (some ⟨g,o,none⟩)] 113)).cell? ⟨g,o+1,none⟩=some (.int .i64 k):=by
  rw[World.cell?_alloc_lt _ _ ⟨g,o+1,none⟩ (by simp;omega),World.cell?_alloc_lt _ _ ⟨g,o+1,none⟩ (by simp;omega),World.cell?_alloc_lt _ _ ⟨g,o+1,none⟩ (by simp;omega),World.cell?_alloc_lt _ _ ⟨g,o+1,none⟩ (by simp;omega),World.cell?_alloc_lt _ _ ⟨g,o+1,none⟩ hgl];exact h1
 go_enter Tryz.func23,Tryz.ntmps23
 go_wp2_with (go_at_call 60;refine(as_FF ⟨g,o,none⟩ _ _ _ hgA htA hfA).mono ?_;rintro e w' ⟨rfl,rfl⟩)
 have dT:(((((w.alloc (.cells #[.pointer (some ⟨g,o,none⟩)] 113)).alloc (.cells #[.pointer (some ⟨w.heap.size,0,none⟩)] 115)).alloc (.cells #[.pointer (some ⟨1,115,none⟩),.pointer (some ⟨w.heap.size+1,0,none⟩),.int .u64 150] 158)).alloc (.cells #[.pointer (some ⟨1,115,none⟩),.pointer (some ⟨w.heap.size+1,0,none⟩),.int .u64 150] 158)).alloc (.cells #[.pointer (some ⟨g,o,none⟩)] 113)).cell? ⟨w.heap.size,0,none⟩=some (.pointer (some ⟨g,o,none⟩)):=by
  rw[World.cell?_alloc_lt _ _ ⟨w.heap.size,0,none⟩ (by simp;omega),World.cell?_alloc_lt _ _ ⟨w.heap.size,0,none⟩ (by simp;omega),World.cell?_alloc_lt _ _ ⟨w.heap.size,0,none⟩ (by simp;omega),World.cell?_alloc_lt _ _ ⟨w.heap.size,0,none⟩ (by simp)];simp
 go_region_held3 (λw'=>w'.cell? ⟨w.heap.size,0,none⟩=some (.pointer (some ⟨g,o,none⟩))/\w'.cell? ⟨g,o,none⟩=some (.string s)/\w'.cell? ⟨g,o+1,none⟩=some (.int .i64 k))
  (first | exact⟨dT,d0,d1⟩ | go_keep) (fail)
 go_wp2
 refine bodyPost_ret (v:=.tuple #[.string s,.int .i64 k,.bool true]) (by simp[results,go_sem]) rfl ⟨rfl,?_⟩
 exact Wz
end Er
theorem CallOK.of_raw{P:Program}{f:FuncId}{As:List SV}{R:SV}{u:Value}(cal:yF P f)(hR:∀(η:Eta) (A:Nat->Prop) (w:World),R.R η A w u)
  (h:∀(η:Eta) (F:Nat->Prop) (w:World) (vals:List Value),Gl w->xO As η F w vals->Calls P f vals.toArray w λe w'=>e=.returned u/\Grow w w'):CallOK P f As R []:=
 ⟨cal, λη0 F w vals hF hA => (h η0 F w vals hF.gl hA).mono λe w' ⟨e1, g⟩ => ⟨u, λ_ _ => none, e1,
  ⟨.of_grow g,(λk i o hk=>by rw[xG] at hk;cases hk),(λk i o _ _ hk=>by rw[xG] at hk;cases hk),(λk i o _ _ _ _ _ _ hk=>by rw[xG] at hk;cases hk),λ_ _ _=>rfl,hF.lt,hF.gl,λ_ h=>h⟩,hR _ _ _⟩⟩
abbrev fltS (s:ByteArray) (k n:Int):SV:=.ifc 113 (.ep (.agg (.cn (.ex (.string s)) (.cn (.ex (.int .i64 k)) (.cn (.ex (.iface 63 (.int .i64 n))) .nl)))))
theorem flt_open{s:ByteArray}{k n:Int}{η:Eta}{A:Nat->Prop}{w:World}{v:Value}(h:(fltS s k n).R η A w v):∃g o,v=.iface 113 (.pointer (some ⟨g,o,none⟩))/\w.cell? ⟨g,o+0,none⟩=some (.string s)/\w.cell? ⟨g,o+1,none⟩=some (.int .i64 k)/\w.cell? ⟨g,o+2,none⟩=some (.iface 63 (.int .i64 n)):=by
 obtain⟨u,rfl,g,o,rfl,_,_,e,⟨vs,rfl,x,xs,e1,hx,y,ys,e2,hy,z,zs,e3,hz,hn⟩,hc⟩:=h
 obtain rfl:=hx
 obtain rfl:=hy
 obtain rfl:=hz
 have hn:Value.tuple zs.toArray=.tuple #[]:=hn
 simp only[Value.tuple.injEq] at e1 e2 e3 hn
 obtain rfl:zs=[]:=by simpa using congrArg Array.toList hn
 obtain rfl:ys=_:=by simpa using congrArg Array.toList e3
 obtain rfl:xs=_:=by simpa using congrArg Array.toList e2
 obtain rfl:vs=_:=by simpa using congrArg Array.toList e1
 exact⟨g,o,rfl,hc 0 _ rfl,hc 1 _ rfl,hc 2 _ rfl⟩
abbrev PLC (s:ByteArray) (k:Int) (b:Bool):SV:=.cn (.ex (.string s)) (.cn (.ex (.int .i64 k)) (.cn (.ex (.bool b)) .nl))
theorem plc_R{s:ByteArray}{k:Int}{b:Bool}(η:Eta)(A:Nat->Prop)(w:World):(PLC s k b).R η A w (.tuple #[.string s,.int .i64 k,.bool b]):=
 ⟨.string s,[.int .i64 k,.bool b],rfl,rfl,.int .i64 k,[.bool b],rfl,rfl,.bool b,[],rfl,rfl,rfl⟩
theorem sPlaceF{s:ByteArray}{k n:Int}:CallOK Tryz.prog 23 [.ifc 113 (.ep (.agg (.cn (.ex (.string s)) (.cn (.ex (.int .i64 k)) (.cn (.ex (.iface 63 (.int .i64 n))) (.nl))))))] (.cn (.ex (.string s)) (.cn (.ex (.int .i64 k)) (.cn (.ex (.bool true)) (.nl)))) []:=
 .of_raw (zJ Tryz.func23 rfl zk) plc_R λη F w vals hg hA=>by
  match vals,hA with
  | [v0],hA=>obtain⟨g,o,rfl,h0,h1,h2⟩:=flt_open hA.1;exact Er.place_F s k n g o w (hg _ rfl).2 h0 h1 h2
theorem sNumberF{s:ByteArray}{k n:Int}:CallOK Tryz.prog 63 [.ifc 113 (.ep (.agg (.cn (.ex (.string s)) (.cn (.ex (.int .i64 k)) (.cn (.ex (.iface 63 (.int .i64 n))) (.nl))))))] (.ex (.int .i64 n)) []:=
 .of_raw (zJ Tryz.func63 rfl zk) (λ_ _ _=>rfl) λη F w vals hg hA=>by
  match vals,hA with
  | [v0],hA=>obtain⟨g,o,rfl,h0,h1,h2⟩:=flt_open hA.1;exact Er.number_F s k n g o w (hg _ rfl).2 h0 h1 h2
theorem CallOKm.tag0 [Fz]{P:Program}{f:FuncId}{T:TypeId}{a a':SV}{ins outs:List Hl}{A:List SV}{R:SV}{b:Nat}(h:CallOKm P f (.one (.var T a)::ins) A R (.one (.var T a')::outs)):CallOKm P f (.one (.var T a (some b))::ins) A R (.one (.var T a' (some b))::outs):=by
 refine⟨h.cal,λη0 M F w vals H hA=>?_⟩
 obtain⟨H1,hv1⟩:=H.retell (own':=zL 0 (.one (.var T a)::ins)) (λk i o' hk=>by
  rw[kT] at hk⊢
  cases k with
  | zero=>
   cases i with
   | zero=>
    obtain rfl:=Option.some.inj hk
    exact⟨_,rfl,λA h e ⟨b1,v,e1,e2,e3,e4,e5⟩=>⟨b1,v,e1,e2,e3,e4,λb0 hb=>by cases hb⟩⟩
   | succ i=>cases hk
  | succ k=>exact⟨o',hk,λ_ _ _ h=>h⟩) (λk i o hk=>by
  rw[kT] at hk⊢
  cases k with
  | zero=>
   cases i with
   | zero=>exact⟨_,rfl⟩
   | succ i=>cases hk
  | succ k=>exact⟨o,hk⟩) (λk i hk=>by
  rw[kT] at hk⊢
  cases k with
  | zero=>exact hk
  | succ k=>exact hk)
 rw[←hv1] at hA
 refine(h.run η0 M F w vals H1 hA).mono λe w'=>?_
 rintro⟨v,η',rfl,H2,hR,hx⟩
 obtain⟨hd,he,b1,u1,e1,e2,e3,e4,e5⟩:=H.ob 0 0 (.var T a (some b)) rfl
 have hbb:=e5 b rfl
 obtain⟨H3,hv3⟩:=H2.retell (own':=zL 0 (.one (.var T a' (some b))::outs)) (λk i o' hk=>by
  rw[kT] at hk⊢
  cases k with
  | zero=>
   cases i with
   | zero=>
    obtain rfl:=Option.some.inj hk
    refine⟨_,rfl,λA h eh ⟨b2,v2,q1,q2,q3,q4,q5⟩=>⟨b2,v2,q1,q2,q3,q4,λb0 hb=>?_⟩⟩
    have h6:=hx 0 (by simp) 0 h eh
    rw[he] at h6
    have h7:=(Option.some.inj h6).symm
    rw[q1,e1] at h7
    have h8:b2=b1:=by injection h7 with h7;injection h7 with h7;injection h7
    obtain rfl:=Option.some.inj hb
    rw[h8,hbb]
   | succ i=>cases hk
  | succ k=>exact⟨o',hk,λ_ _ _ h=>h⟩) (λk i o hk=>by
  rw[kT] at hk⊢
  cases k with
  | zero=>
   cases i with
   | zero=>exact⟨_,rfl⟩
   | succ i=>cases hk
  | succ k=>exact⟨o,hk⟩) (λk i hk=>by
  rw[kT] at hk⊢
  cases k with
  | zero=>exact hk
  | succ k=>exact hk)
 exact⟨v,η',rfl,H3,by rw[hv3];exact hR,λk hk=>hx k (by simpa using hk)⟩
open Go.RowKit
abbrev bV (a b:Nat) (S:LuS) (n:Nat) (t:Option Nat:=none):OB:=.var 100 (.agg (.cn (.own a 0) (.cn (.ep (lvE S n)) (.cn (.own b 0) .nl)))) t
abbrev eE (e:Etas) (n m:Nat):OB:=.row 108 2 (λi0=>.agg (.cn (iN ((e i0).1)) (.cn (vE (e i0).2 n) .nl))) m
def basX (n:Nat) (D:Nat->Nat->Rat) (v:Nat->Rat) (j:Nat):Rat:=luX n (luS n D n).1 (luS n D n).2.1 (λi=>v ((luS n D n).2.2.1 i)) j
def basY (n:Nat) (D:Nat->Nat->Rat) (v:Nat->Rat) (j:Nat):Rat:=luW n (luS n D n).1 (luS n D n).2.1 v ((luS n D n).2.2.2.1 j)
def etaI (k:Nat) (w x:Nat->Rat) (h j:Nat):Rat:=if j=k then x k/w k else if j<h then x j-w j*(x k/w k) else x j
def etaJ (k:Nat) (w z:Nat->Rat) (h j:Nat):Rat:=if j=k then etaP k w z h else z j
section
variable {k h j n:Nat} {w x z:Nat->Rat}
theorem etaI_put:x k/w k=etaI k w x 0 k:=(if_pos rfl).symm
theorem etaI_zero(e:j≠k):etaI k w x 0 j=x j:=by unfold etaI;rw[if_neg e,if_neg (Nat.not_lt_zero j)]
theorem etaI_self:etaI k w x h k=x k/w k:=if_pos rfl
theorem etaI_here(e:h≠k):etaI k w x h h=x h:=by unfold etaI;rw[if_neg e,if_neg (Nat.lt_irrefl h)]
theorem etaI_at(e:h≠k):etaI k w x h h-w h*etaI k w x h k=etaI k w x (h+1) h:=by
 rw[etaI_here e,etaI_self]
 unfold etaI
 rw[if_neg e,if_pos (Nat.lt_succ_self h)]
theorem etaI_ne(e:j≠h):etaI k w x (h+1) j=etaI k w x h j:=by
 unfold etaI
 by_cases e1:j=k
 ·rw[if_pos e1,if_pos e1]
 ·rw[if_neg e1,if_neg e1]
  by_cases e2:j<h
  ·rw[if_pos e2,if_pos zo]
  ·rw[if_neg e2,if_neg zo]
theorem etaI_skip(e:h=k):etaI k w x h j=etaI k w x (h+1) j:=by
 by_cases e1:j=h
 ·unfold etaI
  rw[if_pos zo,if_pos zo]
 ·exact(etaI_ne e1).symm
theorem etaI_all(hj:j<n):etaI k w x n j=etaX k w x j:=by
 unfold etaI etaX
 by_cases e1:j=k
 ·rw[if_pos e1,if_pos e1]
 ·rw[if_neg e1,if_neg e1,if_pos hj]
theorem eta_div(hx:htq (x k)<=30000)(hw:htq (w k)<=4000):szq (x k)+szq (w k)+1<=17179869184:=by
 have:=jC (x k)
 have:=jC (w k)
 omega
theorem eta_room(e:h≠k)(hx:htq (x k)<=4000)(hw:htq (w k)<=4000)(hx2:htq (x h)<=4000)(hw2:htq (w h)<=4000):szq (w h)+szq (etaI k w x h k)<=17179869184/\szq (etaI k w x h h)+szq (w h*etaI k w x h k)<=17179869184:=by
 rw[etaI_here e,etaI_self]
 have:=ht_div (x k) (w k)
 exact ht_room2 (S:=8000) zo zo zo zd
theorem etaJ_zero:z j=etaJ k w z 0 j:=by
 unfold etaJ etaP
 split
 ·rename_i e;subst e;show z j=z j-0;grind
 ·rfl
theorem kD:etaJ k w z h k=etaP k w z h:=if_pos rfl
theorem etaJ_ne(e:j≠k):etaJ k w z h j=z j:=if_neg e
theorem etaP_at(e:h≠k):etaJ k w z h k-w h*etaJ k w z h h=etaJ k w z (h+1) k:=by
 rw[kD,kD,etaJ_ne e]
 show z k-sumQ _ h-w h*z h=z k-(sumQ _ h+offQ k (λl=>w l*z l) h)
 rw[off_ne e];grind
theorem etaJ_skip(e:h=k):etaJ k w z h j=etaJ k w z (h+1) j:=by
 unfold etaJ
 split
 ·unfold etaP
  show z k-sumQ _ h=z k-(sumQ _ h+offQ k (λl=>w l*z l) h)
  rw[show offQ k (λl=>w l*z l) h=0 by rw[e];exact off_self];grind
 ·rfl
theorem etaJ_div:etaJ k w z n k/w k=etaZ n k w z k:=by rw[kD];exact(if_pos rfl).symm
theorem etaJ_all(e:j≠k):etaZ n k w z j=etaJ k w z n j:=by rw[etaJ_ne e];exact if_neg e
theorem etaP_ht(hz:∀j,j<n->htq (z j)<=20000)(hw:∀j,j<n->htq (w j)<=4000)(hk:k<n):∀h,h<=n->htq (etaP k w z h)<=20000+h*24001
 | 0,_=>by
  unfold etaP
  rw[show z k-sumQ (offQ k λl=>w l*z l) 0=z k by show z k-0=_;grind]
  have:=hz k hk;exact Nat.le_trans this (Nat.le_add_right _ _)
 | h+1,hh=>by
  have ih:=etaP_ht hz hw hk h zo
  by_cases e:h=k
  ·have:=etaJ_skip (j:=k) (w:=w) (z:=z) e
   rw[kD,kD] at this
   rw[←this,Nat.succ_mul];exact Nat.le_trans ih zo
  ·have h1:=etaP_at (w:=w) (z:=z) e
   rw[kD,kD,etaJ_ne e] at h1
   rw[←h1]
   have h2:=ht_sub (etaP k w z h) (w h*z h)
   have h3:=ht_mul (w h) (z h)
   have h4:=hz h zo
   have h5:=hw h zo
   rw[Nat.succ_mul]
   generalize h*24001=T at*
   omega
theorem etaP_room(hz:∀j,j<n->htq (z j)<=20000)(hw:∀j,j<n->htq (w j)<=4000)(hk:k<n)(hn:n<=64)(hh:h<n)(e:h≠k):szq (w h)+szq (etaJ k w z h h)<=17179869184/\szq (etaJ k w z h k)+szq (w h*etaJ k w z h h)<=17179869184:=by
 rw[etaJ_ne e,kD]
 have h1:=etaP_ht hz hw hk h zo
 have h2:=hz h hh
 have h3:=hw h hh
 have h4:h*24001<=64*24001:=Nat.mul_le_mul_right _ zo
 exact ht_room2 (S:=2000000) zo zo zo zd
theorem etaP_div(hz:∀j,j<n->htq (z j)<=20000)(hw:∀j,j<n->htq (w j)<=4000)(hk:k<n)(hn:n<=64):szq (etaJ k w z n k)+szq (w k)+1<=17179869184:=by
 rw[kD]
 have h1:=etaP_ht hz hw hk n (Nat.le_refl n)
 have h2:=hw k hk
 have h4:n*24001<=64*24001:=Nat.mul_le_mul_right _ hn
 have:=jC (etaP k w z n)
 have:=jC (w k)
 omega
end
theorem sMatOfM{D C:Nat->Nat->Rat}{e:Etas}{n m:Nat}(hn:n<=64):CallOKm Tryz.prog 58 [.one (bV 1 2 (luS n D n) n),cC C n,.one (eE e n m)] [iN n,.own 1 0] (c2 (.agg (c2 (.sl 1 (mE C n) n) (iN n))) (bX true)) [.one (bV 3 4 (luS n D n) n),.dead,.dead,cC C n,.one (eE e n m)]:=by
 exact zZ (ch:=λB=>[.reg 1 [(3,.callS (c2 (.agg (c2 (.own 0 0) (iN n))) (bX true)) [.one (.row 33 1 (λi0=>.own 1 i0) n),.fam n (λ_=>.row 47 3 (λ_=>.rat 0) n)])],.dec 18 false,.loop 5 (Nat) (λg=>g<=n) (λg=>n-g) (λg=>⟨[(0,iN n),(4,.own 3 0),(6,.own 6 0),(20,.own 1 0),(21,iN n),(22,iN g)],[(0,.one (bV 1 2 (luS n D n) n (some (B 0)))),(1,cC C n),(2,.one (eE e n m)),(3,.one (.var 53 (.ex (.agg #[.slice none 0 0,.int .i64 0])))),(4,.one (.row 33 1 (λi0=>.own 5 i0) n)),(5,.fam n (λi0=>.row 47 3 (λi1=>.rat (yG g C i0 i1)) n)),(6,.one (.var 53 (.agg (c2 (.own 4 0) (iN n)))))],7⟩) [(0,.id 0),(1,.id 1),(2,.id 2),(3,.id 3),(4,.id 4),(5,.id 5),(6,.id 6)] (λ_=>[(0,.id 0),(1,.id 1),(2,.id 2),(3,.id 3),(4,.id 4),(5,.id 5),(6,.id 6)]) (λg=>[.reg 6 [(1,.k g)],.dec 30 false,.reg 9 [(3,.k g),(6,.rowF (λi0=>.rat (yG (g+1) C g i0)) (λi0=>.row 47 3 (λi1=>.rat (yG (g+1) C i0 i1)) n))],.reg 10 [(0,.z ((g+1:Nat):Int))],.ret 11 [(0,.id 0),(3,.id 1),(4,.id 2)]])]) hMix Tryz.func58 rfl zk zk zk (λB=>_/\((!true)=false)/\(((λX1 X2 X3 X4 X5 X6 X7 X8 X9 X10 X11 X12 X13 X14 X15 X16 X17 X18 X19 X20 X21 X22 X23:Prop=>∃g0:Nat,X1/\X2/\X3/\X4/\X5/\((0:Int)=(g0:Int))/\X6/\X7/\X8/\X9/\X10/\X11/\X12/\X13/\X14/\X15/\X16/\X17/\X18/\X19/\((.agg #[.slice none 0 0,.int .i64 0]:Value)=.agg #[.slice none 0 0,.int .i64 0])/\X20/\(∀j0,j0<n->((j0:Nat)=j0))/\X21/\(∀j0,j0<n->((n:Nat)=n)/\(∀j1,j1<n->((0:Rat)=(yG g0 C j0 j1))))/\X22/\X23/\(g0<=n)) _ _ _ _ _ _ _ _ _ _ _ _ _ _ _ _ _ _ _ _ _ _ _)/\∀g:Nat,(g<=n)->(((decide ((g:Int)<(n:Int)))=true->_/\(g<n)/\(g<n)/\((!decide ((n:Int)=(n:Int)))=false)/\_/\(g<n)/\(g<n)/\(n<=n)/\(∀j0,j0<n->n<=j0->(.rat (yG (g+1) C g j0):SV)=.rat (yG g C g j0))/\(∀j0,j0<n->((C g j0:Rat)=(yG (g+1) C g j0)))/\(g<n)/\((.row 47 3 (λi0=>.rat (yG (g+1) C g i0)) n:OB)=.row 47 3 (λi0=>.rat (yG (g+1) C g i0)) n)/\(∀t,t<n->t≠g->(.row 47 3 (λi0=>.rat (yG (g+1) C t i0)) n:OB)=.row 47 3 (λi0=>.rat (yG g C t i0)) n)/\_/\((λX1 X2 X3 X4 X5 X6 X7 X8 X9 X10 X11 X12 X13 X14 X15 X16 X17 X18 X19 X20 X21 X22 X23:Prop=>∃g1:Nat,X1/\X2/\X3/\X4/\X5/\(((g+1:Nat):Int)=(g1:Int))/\X6/\X7/\X8/\X9/\X10/\X11/\X12/\X13/\X14/\X15/\X16/\X17/\X18/\X19/\((.agg #[.slice none 0 0,.int .i64 0]:Value)=.agg #[.slice none 0 0,.int .i64 0])/\X20/\(∀j0,j0<n->((j0:Nat)=j0))/\X21/\(∀j0,j0<n->((n:Nat)=n)/\(∀j1,j1<n->((yG (g+1) C j0 j1:Rat)=(yG g1 C j0 j1))))/\X22/\X23/\(g1<=n)/\(n-g1<n-g)) _ _ _ _ _ _ _ _ _ _ _ _ _ _ _ _ _ _ _ _ _ _ _))/\((decide ((g:Int)<(n:Int)))=false->(_/\(∀j0,j0<n->((n:Nat)=n)/\(∀j1,j1<n->((yG g C j0 j1:Rat)=(C j0 j1)))/\(j0<n))/\_/\_/\_/\_/\_/\_/\_/\_/\_/\_/\_/\_/\_/\_/\_/\_))))) (λB=>by kernel_rfl)
  (λB=>⟨sMatNew (m:=n) (n:=n) zo zo,rfl,⟨0,(rf (n:Int)),(rf 0),(rf 0),(rf 0),(rf (n:Int)),zo,(rf (some (B 0))),(rf 0),(rf n),(leS (mE (luS n D n).2.1 n) n),(rf n),(leS (mE ((luS n D n).1) n) n),(rf n),(leS (λi0=>iN ((luS n D n).2.2.1 i0)) n),(rf ((luS n D n).2.2.2.2:Bool)),(rf 0),(rf n),(leS (mE C n) n),(rf m),(leS (λi0=>.agg (c2 (iN ((e i0).1)) (vE (e i0).2 n))) m),rfl,(rf n),(λj0 hj0=>rfl),(rf n),(λj0 hj0=>⟨rfl,(λj1 hj1=>(by rw[uptoR_zero]))⟩),(rf 0),(rf (n:Int)),zo⟩,λg hg=>⟨λhc23=>have hc23:=dT hc23;⟨(rf (g:Int)),zo,zo,zs,(rf (g:Int)),zo,zo,zo,(λj0 hj0 hm=>absurd hj0 (Nat.not_lt.2 hm)),(λj0 hj0=>(by rw[uptoR_at])),zo,rfl,(λt ht hne=>by simp only[uptoR_ne hne]),(wI (g:=g) zo),g+1,(rf (n:Int)),(rf 0),(rf 0),(rf 0),(rf (n:Int)),zo,(rf (some (B 0))),(rf 0),(rf n),(leS (mE (luS n D n).2.1 n) n),(rf n),(leS (mE ((luS n D n).1) n) n),(rf n),(leS (λi0=>iN ((luS n D n).2.2.1 i0)) n),(rf ((luS n D n).2.2.2.2:Bool)),(rf 0),(rf n),(leS (mE C n) n),(rf m),(leS (λi0=>.agg (c2 (iN ((e i0).1)) (vE (e i0).2 n))) m),rfl,(rf n),(λj0 hj0=>rfl),(rf n),(λj0 hj0=>⟨rfl,(λj1 hj1=>rfl)⟩),(rf 0),(rf (n:Int)),zo,zo⟩,λhc23=>have hc23:=dF hc23;have hi2:g=n:=zo;⟨(rf n),(λj0 hj0=>⟨rfl,(λj1 hj1=>(by rw[hi2];exact uptoR_all zo)),zo⟩),(rf (n:Int)),(rf (true:Bool)),(rf (some (B 0))),(rf 0),(rf n),(leS (mE (luS n D n).2.1 n) n),(rf n),(leS (mE ((luS n D n).1) n) n),(rf n),(leS (λi0=>iN ((luS n D n).2.2.1 i0)) n),(rf ((luS n D n).2.2.2.2:Bool)),(rf 0),(rf n),(leS (mE C n) n),(rf m),(leS (λi0=>.agg (c2 (iN ((e i0).1)) (vE (e i0).2 n))) m)⟩⟩⟩)
theorem sBMatrix{D C:Nat->Nat->Rat}{e:Etas}{n m:Nat}(hn:n<=64):CallOKm Tryz.prog 21 [.one (bV 1 2 (luS n D n) n),cC C n,.one (eE e n m)] [.own 0 0] (.agg (c2 (.sl 1 (mE (trM C) n) n) (iN n))) [.one (bV 3 4 (luS n D n) n),.dead,.dead,cC C n,.one (eE e n m)]:=by
 exact zZ (ch:=λB=>[.reg 1 [(9,.callM [0,1,2] [.one (bV 1 2 (luS n D n) n (some (B 0))),cC C n,.one (eE e n m)] [iN n,.own 1 0] (c2 (.agg (c2 (.sl 1 (mE C n) n) (iN n))) (bX true)) [.one (bV 3 4 (luS n D n) n (some (B 0))),.dead,.dead,cC C n,.one (eE e n m)])],.reg 2 [(1,.callS (.agg (c2 (.sl 1 (λi0=>.sl 3 (λi1=>.rat (C i1 i0)) n) n) (iN n))) [])],.ret 2 [(0,.id 0),(3,.id 4),(4,.id 5)]]) hMix Tryz.func21 rfl zk zk zk (λB=>(CallOKm Tryz.prog 58 [.one (bV 1 2 (luS n D n) n (some (B 0))),cC C n,.one (eE e n m)] [iN n,.own 1 0] (c2 (.agg (c2 (.sl 1 (mE C n) n) (iN n))) (bX true)) [.one (bV 3 4 (luS n D n) n (some (B 0))),.dead,.dead,cC C n,.one (eE e n m)])/\_/\_/\_/\_/\_/\_/\_/\(_/\(∀j0,j0<n->((n:Nat)=n)/\(∀j1,j1<n->((C j1 j0:Rat)=((trM C) j0 j1))))/\_/\_/\_/\_/\_/\_/\_/\_/\_/\_/\_/\_/\_/\_/\_)) (λB=>by kernel_rfl)
  (λB=>⟨((sMatOfM (D:=D) (C:=C) (e:=e) (m:=m) (n:=n) zo)).tag0 (b:=B 0),(rf (.one (bV 1 2 (luS n D n) n (some (B 0))):Hl)),(rf (cC C n:Hl)),(rf (.one (eE e n m):Hl)),(rf (n:Int)),(rf 1),(rf 0),sMatTurned (m:=n) (n:=n) (q:=C) zo zo,(rf n),(λj0 hj0=>⟨rfl,(λj1 hj1=>rfl)⟩),(rf (n:Int)),(rf (some (B 0))),(rf 0),(rf n),(leS (mE (luS n D n).2.1 n) n),(rf n),(leS (mE ((luS n D n).1) n) n),(rf n),(leS (λi0=>iN ((luS n D n).2.2.1 i0)) n),(rf ((luS n D n).2.2.2.2:Bool)),(rf 0),(rf n),(leS (mE C n) n),(rf m),(leS (λi0=>.agg (c2 (iN ((e i0).1)) (vE (e i0).2 n))) m)⟩)
theorem sBSize{D C:Nat->Nat->Rat}{e:Etas}{n m:Nat}:CallOKm Tryz.prog 11 [.one (bV 1 2 (luS n D n) n),cC C n,.one (eE e n m)] [.own 0 0] (iN n) [.one (bV 3 4 (luS n D n) n),.dead,.dead,cC C n,.one (eE e n m)]:=by
 exact zZ (ch:=λB=>[.ret 1 [(0,.id 0),(3,.id 1),(4,.id 2)]]) hMix Tryz.func11 rfl zk zk zk (λB=>(_/\_/\_/\_/\_/\_/\_/\_/\_/\_/\_/\_/\_/\_/\_)) (λB=>by kernel_rfl)
  (λB=>⟨(rf (n:Int)),(rf (some (B 0))),(rf 0),(rf n),(leS (mE (luS n D n).2.1 n) n),(rf n),(leS (mE ((luS n D n).1) n) n),(rf n),(leS (λi0=>iN ((luS n D n).2.2.1 i0)) n),(rf ((luS n D n).2.2.2.2:Bool)),(rf 0),(rf n),(leS (mE C n) n),(rf m),(leS (λi0=>.agg (c2 (iN ((e i0).1)) (vE (e i0).2 n))) m)⟩)
theorem sBEtas{D C:Nat->Nat->Rat}{e:Etas}{n m:Nat}:CallOKm Tryz.prog 14 [.one (bV 1 2 (luS n D n) n),cC C n,.one (eE e n m)] [.own 0 0] (iN m) [.one (bV 3 4 (luS n D n) n),.dead,.dead,cC C n,.one (eE e n m)]:=by
 exact zZ (ch:=λB=>[.ret 1 [(0,.id 0),(3,.id 1),(4,.id 2)]]) hMix Tryz.func14 rfl zk zk zk (λB=>(_/\_/\_/\_/\_/\_/\_/\_/\_/\_/\_/\_/\_/\_/\_)) (λB=>by kernel_rfl)
  (λB=>⟨(rf (m:Int)),(rf (some (B 0))),(rf 0),(rf n),(leS (mE (luS n D n).2.1 n) n),(rf n),(leS (mE ((luS n D n).1) n) n),(rf n),(leS (λi0=>iN ((luS n D n).2.2.1 i0)) n),(rf ((luS n D n).2.2.2.2:Bool)),(rf 0),(rf n),(leS (mE C n) n),(rf m),(leS (λi0=>.agg (c2 (iN ((e i0).1)) (vE (e i0).2 n))) m)⟩)
theorem sBColumn{D C:Nat->Nat->Rat}{e:Etas}{n m k:Nat}(hn:n<=64)(hk:k<n):CallOKm Tryz.prog 12 [.one (bV 1 2 (luS n D n) n),cC C n,.one (eE e n m)] [.own 0 0,iN k] (c2 (.sl 3 (λi0=>.rat (C k i0)) n) (bX true)) [.one (bV 3 4 (luS n D n) n),.dead,.dead,cC C n,.one (eE e n m)]:=by
 exact zZ (ch:=λB=>[.dec 16 false,.reg 3 [(5,.k k),(7,.callS (.sl 3 (λi0=>.rat (C k i0)) n) [])],.ret 3 [(0,.id 0),(3,.id 1),(4,.id 2)]]) hMix Tryz.func12 rfl zk zk zk (λB=>_/\_/\_/\_/\_/\_/\((!(decide ((k:Int)<0)))=true->((decide ((k:Int)<0))==false)=true)/\((bif (decide ((k:Int)<0)) then true else(decide ((n:Int)<=(k:Int))))=false)/\_/\(k<n)/\(k<n)/\_/\(_/\_/\_/\_/\_/\_/\_/\_/\_/\_/\_/\_/\_/\_/\_/\_/\_)) (λB=>by kernel_rfl)
  (λB=>⟨(idB ((decide ((k:Int)<0))==false)),(idB ((decide ((k:Int)<0))==false)),(idB ((decide ((k:Int)<0))==false)),(idB ((decide ((k:Int)<0))==false)),(idB ((decide ((k:Int)<0))==false)),(idB ((decide ((k:Int)<0))==false)),zs,(by simp;omega),(rf (k:Int)),zo,zo,(xX (n:=n) (q:=(λi=>C k i)) zo).frzV,(rf n),(leS (λi0=>.rat (C k i0)) n),(rf (true:Bool)),(rf (some (B 0))),(rf 0),(rf n),(leS (mE (luS n D n).2.1 n) n),(rf n),(leS (mE ((luS n D n).1) n) n),(rf n),(leS (λi0=>iN ((luS n D n).2.2.1 i0)) n),(rf ((luS n D n).2.2.2.2:Bool)),(rf 0),(rf n),(leS (mE C n) n),(rf m),(leS (λi0=>.agg (c2 (iN ((e i0).1)) (vE (e i0).2 n))) m)⟩)
open Go.RowKit
theorem sBSolve{D C:Nat->Nat->Rat}{e:Etas}{n m:Nat}{v:Nat->Rat}(hn:n<=6)(hok:luOK n D n)(hD:HtB n n 3 D)(H:EtaOK n e m)(hw:∀t,t<m->∀j,j<n->htq ((e t).2 j)<=4000)(hm:m<=64)(hv:∀j,j<n->htq (v j)<=3)(hx:∀t,t<=m->∀j,j<n->htq (zH (basX n D v) e t j)<=4000):CallOKm Tryz.prog 17 [.one (bV 1 2 (luS n D n) n),cC C n,.one (eE e n m)] [.own 0 0,.sl 3 (λi0=>.rat (v i0)) n] (c2 (.own 5 0) (bX true)) [.one (bV 3 4 (luS n D n) n),.dead,.dead,cC C n,.one (eE e n m),.one (.row 47 3 (λi0=>.rat (zH (basX n D v) e m i0)) n)]:=by
 exact zZ (ch:=λB=>[.reg 1 [(5,.callS (c2 (.own 0 0) (bX true)) [.one (.row 47 3 (λi0=>.rat (luX n (luS n D n).1 (luS n D n).2.1 (λi=>v ((luS n D n).2.2.1 i)) i0)) n)])],.dec 21 false,.conv 4 [(0,.id 0),(1,.id 1),(2,.id 2),(3,.id 3)] ⟨[(0,.own 0 0),(6,.own 3 0)],[(0,.one (bV 1 2 (luS n D n) n (some (B 0)))),(1,cC C n),(2,.one (eE e n m)),(3,.one (.row 47 3 (λi0=>.rat ((zH (basX n D v) e 0) i0)) n))],4⟩,.loop 5 (Nat) (λg=>g<=m) (λg=>m-g) (λg=>⟨[(6,.own 3 0),(25,.own 2 0),(26,iN m),(27,iN g)],[(0,.one (bV 1 2 (luS n D n) n (some (B 0)))),(1,cC C n),(2,.one (eE e n m)),(3,.one (.row 47 3 (λi0=>.rat ((zH (basX n D v) e g) i0)) n))],4⟩) [(0,.id 0),(1,.id 1),(2,.id 2),(3,.id 3)] (λ_=>[(0,.id 0),(1,.id 1),(2,.id 2),(3,.id 3)]) (λg=>[.reg 6 [(0,.k g)],.reg 7 [(6,.k ((e g).1)),(12,.k ((e g).1)),(14,.callS (c2 (.rat (((zH (basX n D v) e g) ((e g).1))/((e g).2 ((e g).1)))) (bX (!decide (((e g).2 ((e g).1))=0)))) []),(18,.k ((e g).1)),(19,.row 0 (λi0=>.rat (etaI (e g).1 (e g).2 (zH (basX n D v) e g) 0 i0)))],.loop 9 (Nat) (λh=>h<=n) (λh=>n-h) (λh=>⟨[(6,.own 3 0),(25,.own 2 0),(26,iN m),(9,.own 4 0),(27,iN g),(51,iN n),(52,iN h)],[(0,.one (bV 1 2 (luS n D n) n (some (B 0)))),(1,cC C n),(2,.one (eE e n m)),(3,.one (.row 47 3 (λi0=>.rat (etaI (e g).1 (e g).2 (zH (basX n D v) e g) h i0)) n)),(4,.one (.var 108 (.agg (c2 (iN ((e g).1)) (vE (e g).2 n)))))],5⟩) [(0,.id 0),(1,.id 1),(2,.id 2),(3,.id 3),(4,.id 4)] (λ_=>[(0,.id 0),(1,.id 1),(2,.id 2),(3,.id 3),(4,.id 4)]) (λh=>[.reg 12 [(4,.k h),(9,.k h),(14,.k ((e g).1)),(16,.callS (.rat (((e g).2 h)*(etaI (e g).1 (e g).2 (zH (basX n D v) e g) h ((e g).1)))) []),(17,.callS (.rat ((etaI (e g).1 (e g).2 (zH (basX n D v) e g) h h)-(((e g).2 h)*(etaI (e g).1 (e g).2 (zH (basX n D v) e g) h ((e g).1))))) []),(18,.k h),(19,.row 0 (λi0=>.rat (etaI (e g).1 (e g).2 (zH (basX n D v) e g) (h+1) i0)))],.reg 13 [(0,.z ((h+1:Nat):Int))],.reg 13 [(0,.z ((h+1:Nat):Int))],.reg 14 [(0,.z ((g+1:Nat):Int))]]),.ret 15 [(0,.id 0),(3,.id 1),(4,.id 2),(5,.id 3)]])]) hMix Tryz.func17 rfl zk zk zk (λB=>_/\((!true)=false)/\_/\_/\_/\_/\_/\_/\_/\_/\_/\_/\_/\_/\_/\_/\_/\_/\_/\(∀j0,j0<n->((luX n (luS n D n).1 (luS n D n).2.1 (λi=>v ((luS n D n).2.2.1 i)) j0:Rat)=((zH (basX n D v) e 0) j0)))/\(((λX1 X2 X3 X4 X5 X6 X7 X8 X9 X10 X11 X12 X13 X14 X15 X16 X17 X18:Prop=>∃g0:Nat,X1/\X2/\X3/\((0:Int)=(g0:Int))/\X4/\X5/\X6/\X7/\X8/\X9/\X10/\X11/\X12/\X13/\X14/\X15/\X16/\X17/\X18/\(∀j0,j0<n->(((zH (basX n D v) e 0) j0:Rat)=((zH (basX n D v) e g0) j0)))/\(g0<=m)) _ _ _ _ _ _ _ _ _ _ _ _ _ _ _ _ _ _)/\∀g:Nat,(g<=m)->(((decide ((g:Int)<(m:Int)))=true->_/\(g<m)/\(g<m)/\_/\(((e g).1)<n)/\(((e g).1)<n)/\_/\(((e g).1)<n)/\_/\_/\(((e g).1)<n)/\(((e g).1)<n)/\(((((zH (basX n D v) e g) ((e g).1))/((e g).2 ((e g).1)):Rat)=(etaI (e g).1 (e g).2 (zH (basX n D v) e g) 0 ((e g).1))))/\(∀t,t<n->t≠((e g).1)->(.rat (etaI (e g).1 (e g).2 (zH (basX n D v) e g) 0 t):SV)=.rat ((zH (basX n D v) e g) t))/\(((λX1 X2 X3 X4 X5 X6 X7 X8 X9 X10 X11 X12 X13 X14 X15 X16 X17 X18 X19 X20 X21 X22 X23 X24:Prop=>∃h0:Nat,X1/\X2/\X3/\X4/\X5/\X6/\((0:Int)=(h0:Int))/\X7/\X8/\X9/\X10/\X11/\X12/\X13/\X14/\X15/\X16/\X17/\X18/\X19/\X20/\X21/\(∀j0,j0<n->((etaI (e g).1 (e g).2 (zH (basX n D v) e g) 0 j0:Rat)=(etaI (e g).1 (e g).2 (zH (basX n D v) e g) h0 j0)))/\X22/\X23/\X24/\(h0<=n)) _ _ _ _ _ _ _ _ _ _ _ _ _ _ _ _ _ _ _ _ _ _ _ _)/\∀h:Nat,(h<=n)->(((decide ((h:Int)<(n:Int)))=true->(((!decide ((h:Int)=(((e g).1:Nat):Int)))=true->_/\(h<n)/\(h<n)/\_/\(h<n)/\_/\(((e g).1)<n)/\(((e g).1)<n)/\_/\_/\_/\(h<n)/\(h<n)/\((((etaI (e g).1 (e g).2 (zH (basX n D v) e g) h h)-(((e g).2 h)*(etaI (e g).1 (e g).2 (zH (basX n D v) e g) h ((e g).1))):Rat)=(etaI (e g).1 (e g).2 (zH (basX n D v) e g) (h+1) h)))/\(∀t,t<n->t≠h->(.rat (etaI (e g).1 (e g).2 (zH (basX n D v) e g) (h+1) t):SV)=.rat (etaI (e g).1 (e g).2 (zH (basX n D v) e g) h t))/\_/\((λX1 X2 X3 X4 X5 X6 X7 X8 X9 X10 X11 X12 X13 X14 X15 X16 X17 X18 X19 X20 X21 X22 X23 X24:Prop=>∃h1:Nat,X1/\X2/\X3/\X4/\X5/\X6/\(((h+1:Nat):Int)=(h1:Int))/\X7/\X8/\X9/\X10/\X11/\X12/\X13/\X14/\X15/\X16/\X17/\X18/\X19/\X20/\X21/\(∀j0,j0<n->((etaI (e g).1 (e g).2 (zH (basX n D v) e g) (h+1) j0:Rat)=(etaI (e g).1 (e g).2 (zH (basX n D v) e g) h1 j0)))/\X22/\X23/\X24/\(h1<=n)/\(n-h1<n-h)) _ _ _ _ _ _ _ _ _ _ _ _ _ _ _ _ _ _ _ _ _ _ _ _))/\((!decide ((h:Int)=(((e g).1:Nat):Int)))=false->_/\((λX1 X2 X3 X4 X5 X6 X7 X8 X9 X10 X11 X12 X13 X14 X15 X16 X17 X18 X19 X20 X21 X22 X23 X24:Prop=>∃h1:Nat,X1/\X2/\X3/\X4/\X5/\X6/\(((h+1:Nat):Int)=(h1:Int))/\X7/\X8/\X9/\X10/\X11/\X12/\X13/\X14/\X15/\X16/\X17/\X18/\X19/\X20/\X21/\(∀j0,j0<n->((etaI (e g).1 (e g).2 (zH (basX n D v) e g) h j0:Rat)=(etaI (e g).1 (e g).2 (zH (basX n D v) e g) h1 j0)))/\X22/\X23/\X24/\(h1<=n)/\(n-h1<n-h)) _ _ _ _ _ _ _ _ _ _ _ _ _ _ _ _ _ _ _ _ _ _ _ _))))/\((decide ((h:Int)<(n:Int)))=false->_/\((λX1 X2 X3 X4 X5 X6 X7 X8 X9 X10 X11 X12 X13 X14 X15 X16 X17 X18:Prop=>∃g1:Nat,X1/\X2/\X3/\(((g+1:Nat):Int)=(g1:Int))/\X4/\X5/\X6/\X7/\X8/\X9/\X10/\X11/\X12/\X13/\X14/\X15/\X16/\X17/\X18/\(∀j0,j0<n->((etaI (e g).1 (e g).2 (zH (basX n D v) e g) h j0:Rat)=((zH (basX n D v) e g1) j0)))/\(g1<=m)/\(m-g1<m-g)) _ _ _ _ _ _ _ _ _ _ _ _ _ _ _ _ _ _)))))/\((decide ((g:Int)<(m:Int)))=false->(_/\_/\_/\_/\_/\_/\_/\_/\_/\_/\_/\_/\_/\_/\_/\_/\_/\(∀j0,j0<n->(((zH (basX n D v) e g) j0:Rat)=(zH (basX n D v) e m j0)))))))) (λB=>by kernel_rfl)
  (λB=>⟨(sLuSolve (U:=(luS n D n).1) (L:=(luS n D n).2.1) (o:=(luS n D n).2.2.2.2) (n:=n) (b:=v) (P:=(luS n D n).2.2.1) hn (lu_bij n (Nat.le_refl n) hok).lt (lu_hL hD hn hok) (lu_hU hD hn hok) (λj hj=>Nat.le_trans (hv j hj) zd)),rfl,(rf 0),(rf 0),(rf (some (B 0))),(rf 0),(rf n),(leS (mE (luS n D n).2.1 n) n),(rf n),(leS (mE ((luS n D n).1) n) n),(rf n),(leS (λi0=>iN ((luS n D n).2.2.1 i0)) n),(rf ((luS n D n).2.2.2.2:Bool)),(rf 0),(rf n),(leS (mE C n) n),(rf m),(leS (λi0=>.agg (c2 (iN ((e i0).1)) (vE (e i0).2 n))) m),(rf n),(λj0 hj0=>rfl),⟨0,(rf 0),(rf 0),(rf (m:Int)),zo,(rf (some (B 0))),(rf 0),(rf n),(leS (mE (luS n D n).2.1 n) n),(rf n),(leS (mE ((luS n D n).1) n) n),(rf n),(leS (λi0=>iN ((luS n D n).2.2.1 i0)) n),(rf ((luS n D n).2.2.2.2:Bool)),(rf 0),(rf n),(leS (mE C n) n),(rf m),(leS (λi0=>.agg (c2 (iN ((e i0).1)) (vE (e i0).2 n))) m),(rf n),(λj0 hj0=>rfl),zo⟩,λg hg=>⟨λhc28=>have hc28:=dT hc28;have hgm:g<m:=zo;have hk:=H.at_ g hgm;have hdv:=eta_div (Nat.le_trans (hx g zo _ hk) zd) (hw g hgm _ hk);⟨(rf (g:Int)),zo,zo,(rf (((e g).1:Nat):Int)),zo,zo,(rf (((e g).1:Nat):Int)),zo,sRatDiv (p:=(zH (basX n D v) e g) ((e g).1)) (q:=(e g).2 ((e g).1)) hdv,(rf (((e g).1:Nat):Int)),zo,zo,etaI_put,(λt ht hne=>by rw[etaI_zero hne]),⟨0,(rf 0),(rf 0),(rf (m:Int)),(rf 0),(rf (g:Int)),(rf (n:Int)),zo,(rf (some (B 0))),(rf 0),(rf n),(leS (mE (luS n D n).2.1 n) n),(rf n),(leS (mE ((luS n D n).1) n) n),(rf n),(leS (λi0=>iN ((luS n D n).2.2.1 i0)) n),(rf ((luS n D n).2.2.2.2:Bool)),(rf 0),(rf n),(leS (mE C n) n),(rf m),(leS (λi0=>.agg (c2 (iN ((e i0).1)) (vE (e i0).2 n))) m),(rf n),(λj0 hj0=>rfl),(rf (((e g).1:Nat):Int)),(rf n),(leS (λi0=>.rat ((e g).2 i0)) n),zo⟩,λh hh=>⟨λhc53=>have hc53:=dT hc53;have hhn:h<n:=zo;⟨λhc58=>have hne:h≠(e g).1:=(by simp at hc58;omega);have hr:=eta_room hne (hx g zo _ hk) (hw g hgm _ hk) (hx g zo h hhn) (hw g hgm h hhn);⟨(rf (h:Int)),zo,zo,(rf (h:Int)),zo,(rf (((e g).1:Nat):Int)),zo,zo,sRatMul (p:=(e g).2 h) (q:=etaI (e g).1 (e g).2 (zH (basX n D v) e g) h ((e g).1)) hr.1,sRatSub (p:=etaI (e g).1 (e g).2 (zH (basX n D v) e g) h h) (q:=((e g).2 h)*(etaI (e g).1 (e g).2 (zH (basX n D v) e g) h ((e g).1))) hr.2,(rf (h:Int)),zo,zo,(etaI_at hne),(λt ht hne=>by rw[etaI_ne hne]),(wI (g:=h) zo),h+1,(rf 0),(rf 0),(rf (m:Int)),(rf 0),(rf (g:Int)),(rf (n:Int)),zo,(rf (some (B 0))),(rf 0),(rf n),(leS (mE (luS n D n).2.1 n) n),(rf n),(leS (mE ((luS n D n).1) n) n),(rf n),(leS (λi0=>iN ((luS n D n).2.2.1 i0)) n),(rf ((luS n D n).2.2.2.2:Bool)),(rf 0),(rf n),(leS (mE C n) n),(rf m),(leS (λi0=>.agg (c2 (iN ((e i0).1)) (vE (e i0).2 n))) m),(rf n),(λj0 hj0=>(by first | rfl | exact etaI_skip hne)),(rf (((e g).1:Nat):Int)),(rf n),(leS (λi0=>.rat ((e g).2 i0)) n),zo,zo⟩,λhc58=>have hne:h=(e g).1:=(by simp at hc58;omega);⟨(wI (g:=h) zo),h+1,(rf 0),(rf 0),(rf (m:Int)),(rf 0),(rf (g:Int)),(rf (n:Int)),zo,(rf (some (B 0))),(rf 0),(rf n),(leS (mE (luS n D n).2.1 n) n),(rf n),(leS (mE ((luS n D n).1) n) n),(rf n),(leS (λi0=>iN ((luS n D n).2.2.1 i0)) n),(rf ((luS n D n).2.2.2.2:Bool)),(rf 0),(rf n),(leS (mE C n) n),(rf m),(leS (λi0=>.agg (c2 (iN ((e i0).1)) (vE (e i0).2 n))) m),(rf n),(λj0 hj0=>(by first | rfl | exact etaI_skip hne)),(rf (((e g).1:Nat):Int)),(rf n),(leS (λi0=>.rat ((e g).2 i0)) n),zo,zo⟩⟩,λhc53=>have hc53:=dF hc53;have hi3:h=n:=zo;⟨(wI (g:=g) zo),g+1,(rf 0),(rf 0),(rf (m:Int)),zo,(rf (some (B 0))),(rf 0),(rf n),(leS (mE (luS n D n).2.1 n) n),(rf n),(leS (mE ((luS n D n).1) n) n),(rf n),(leS (λi0=>iN ((luS n D n).2.2.1 i0)) n),(rf ((luS n D n).2.2.2.2:Bool)),(rf 0),(rf n),(leS (mE C n) n),(rf m),(leS (λi0=>.agg (c2 (iN ((e i0).1)) (vE (e i0).2 n))) m),(rf n),(λj0 hj0=>(by rw[hi3];exact etaI_all (by assumption))),zo,zo⟩⟩⟩,λhc28=>have hc28:=dF hc28;have hi2:g=m:=zo;⟨(rf 0),(rf (true:Bool)),(rf (some (B 0))),(rf 0),(rf n),(leS (mE (luS n D n).2.1 n) n),(rf n),(leS (mE ((luS n D n).1) n) n),(rf n),(leS (λi0=>iN ((luS n D n).2.2.1 i0)) n),(rf ((luS n D n).2.2.2.2:Bool)),(rf 0),(rf n),(leS (mE C n) n),(rf m),(leS (λi0=>.agg (c2 (iN ((e i0).1)) (vE (e i0).2 n))) m),(rf n),(λj0 hj0=>(by rw[hi2]))⟩⟩⟩)
theorem sBSolve_no{D C:Nat->Nat->Rat}{e:Etas}{n m:Nat}{v:Nat->Rat}{l:Nat}(h:l≠n):CallOKm Tryz.prog 17 [.one (bV 1 2 (luS n D n) n),cC C n,.one (eE e n m)] [.own 0 0,.sl 3 (λi0=>.rat (v i0)) l] (c2 (.sl 3 (λ_=>.rat 0) 0) (bX false)) [.one (bV 3 4 (luS n D n) n),.dead,.dead,cC C n,.one (eE e n m)]:=by
 exact zZ (ch:=λB=>[.reg 1 [(5,.callS (c2 (.sl 3 (λ_=>.rat 0) 0) (bX false)) [])],.dec 21 true,.ret 3 [(0,.id 0),(3,.id 1),(4,.id 2)]]) hMix Tryz.func17 rfl zk zk zk (λB=>_/\((!false)=true)/\(_/\_/\_/\_/\_/\_/\_/\_/\_/\_/\_/\_/\_/\_/\_/\_)) (λB=>by kernel_rfl)
  (λB=>⟨(sLuSolve_no (U:=(luS n D n).1) (L:=(luS n D n).2.1) (P:=(luS n D n).2.2.1) (o:=(luS n D n).2.2.2.2) (n:=n) (k:=l) (b:=v) h),rfl,(rf 0),(rf (false:Bool)),(rf (some (B 0))),(rf 0),(rf n),(leS (mE (luS n D n).2.1 n) n),(rf n),(leS (mE ((luS n D n).1) n) n),(rf n),(leS (λi0=>iN ((luS n D n).2.2.1 i0)) n),(rf ((luS n D n).2.2.2.2:Bool)),(rf 0),(rf n),(leS (mE C n) n),(rf m),(leS (λi0=>.agg (c2 (iN ((e i0).1)) (vE (e i0).2 n))) m)⟩)
open Go.RowKit
theorem sMatOfF{C:Nat->Nat->Rat}{n:Nat}(hn:n<=64):CallOKm Tryz.prog 58 [.one (.var 100 (.agg (c3 (.own 1 0) (.ex (.pointer none)) (.ex sN)))),cC C n] [iN n,.own 1 0] (c2 (.agg (c2 (.sl 1 (mE C n) n) (iN n))) (bX true)) [.one (.var 100 (.agg (c3 (.own 2 0) (.ex (.pointer none)) (.ex sN)))),.dead,cC C n]:=by
 exact zZ (ch:=λB=>[.reg 1 [(3,.callS (c2 (.agg (c2 (.own 0 0) (iN n))) (bX true)) [.one (.row 33 1 (λi0=>.own 1 i0) n),.fam n (λ_=>.row 47 3 (λ_=>.rat 0) n)])],.dec 18 false,.loop 5 (Nat) (λg=>g<=n) (λg=>n-g) (λg=>⟨[(0,iN n),(4,.own 2 0),(6,.own 5 0),(20,.own 1 0),(21,iN n),(22,iN g)],[(0,.one (.var 100 (.agg (c3 (.own 1 0) (.ex (.pointer none)) (.ex sN))) (some (B 0)))),(1,cC C n),(2,.one (.var 53 (.ex (.agg #[.slice none 0 0,.int .i64 0])))),(3,.one (.row 33 1 (λi0=>.own 4 i0) n)),(4,.fam n (λi0=>.row 47 3 (λi1=>.rat (yG g C i0 i1)) n)),(5,.one (.var 53 (.agg (c2 (.own 3 0) (iN n)))))],6⟩) [(0,.id 0),(1,.id 1),(2,.id 2),(3,.id 3),(4,.id 4),(5,.id 5)] (λ_=>[(0,.id 0),(1,.id 1),(2,.id 2),(3,.id 3),(4,.id 4),(5,.id 5)]) (λg=>[.reg 6 [(1,.k g)],.dec 30 false,.reg 9 [(3,.k g),(6,.rowF (λi0=>.rat (yG (g+1) C g i0)) (λi0=>.row 47 3 (λi1=>.rat (yG (g+1) C i0 i1)) n))],.reg 10 [(0,.z ((g+1:Nat):Int))],.ret 11 [(0,.id 0),(2,.id 1)]])]) hMix Tryz.func58 rfl zk zk zk (λB=>_/\((!true)=false)/\(((λX1 X2 X3 X4 X5 X6 X7 X8 X9 X10 X11 X12 X13:Prop=>∃g0:Nat,X1/\X2/\X3/\X4/\X5/\((0:Int)=(g0:Int))/\X6/\X7/\((.pointer none:Value)=.pointer none)/\X8/\X9/\((.agg #[.slice none 0 0,.int .i64 0]:Value)=.agg #[.slice none 0 0,.int .i64 0])/\X10/\(∀j0,j0<n->((j0:Nat)=j0))/\X11/\(∀j0,j0<n->((n:Nat)=n)/\(∀j1,j1<n->((0:Rat)=(yG g0 C j0 j1))))/\X12/\X13/\(g0<=n)) _ _ _ _ _ _ _ _ _ _ _ _ _)/\∀g:Nat,(g<=n)->(((decide ((g:Int)<(n:Int)))=true->_/\(g<n)/\(g<n)/\((!decide ((n:Int)=(n:Int)))=false)/\_/\(g<n)/\(g<n)/\(n<=n)/\(∀j0,j0<n->n<=j0->(.rat (yG (g+1) C g j0):SV)=.rat (yG g C g j0))/\(∀j0,j0<n->((C g j0:Rat)=(yG (g+1) C g j0)))/\(g<n)/\((.row 47 3 (λi0=>.rat (yG (g+1) C g i0)) n:OB)=.row 47 3 (λi0=>.rat (yG (g+1) C g i0)) n)/\(∀t,t<n->t≠g->(.row 47 3 (λi0=>.rat (yG (g+1) C t i0)) n:OB)=.row 47 3 (λi0=>.rat (yG g C t i0)) n)/\_/\((λX1 X2 X3 X4 X5 X6 X7 X8 X9 X10 X11 X12 X13:Prop=>∃g1:Nat,X1/\X2/\X3/\X4/\X5/\(((g+1:Nat):Int)=(g1:Int))/\X6/\X7/\((.pointer none:Value)=.pointer none)/\X8/\X9/\((.agg #[.slice none 0 0,.int .i64 0]:Value)=.agg #[.slice none 0 0,.int .i64 0])/\X10/\(∀j0,j0<n->((j0:Nat)=j0))/\X11/\(∀j0,j0<n->((n:Nat)=n)/\(∀j1,j1<n->((yG (g+1) C j0 j1:Rat)=(yG g1 C j0 j1))))/\X12/\X13/\(g1<=n)/\(n-g1<n-g)) _ _ _ _ _ _ _ _ _ _ _ _ _))/\((decide ((g:Int)<(n:Int)))=false->(_/\(∀j0,j0<n->((n:Nat)=n)/\(∀j1,j1<n->((yG g C j0 j1:Rat)=(C j0 j1)))/\(j0<n))/\_/\_/\_/\_/\((.pointer none:Value)=.pointer none)/\_/\_))))) (λB=>by kernel_rfl)
  (λB=>⟨sMatNew (m:=n) (n:=n) zo zo,rfl,⟨0,(rf (n:Int)),(rf 0),(rf 0),(rf 0),(rf (n:Int)),zo,(rf (some (B 0))),(rf 0),rfl,(rf n),(leS (mE C n) n),rfl,(rf n),(λj0 hj0=>rfl),(rf n),(λj0 hj0=>⟨rfl,(λj1 hj1=>(by rw[uptoR_zero]))⟩),(rf 0),(rf (n:Int)),zo⟩,λg hg=>⟨λhc23=>have hc23:=dT hc23;⟨(rf (g:Int)),zo,zo,zs,(rf (g:Int)),zo,zo,zo,(λj0 hj0 hm=>absurd hj0 (Nat.not_lt.2 hm)),(λj0 hj0=>(by rw[uptoR_at])),zo,rfl,(λt ht hne=>by simp only[uptoR_ne hne]),(wI (g:=g) zo),g+1,(rf (n:Int)),(rf 0),(rf 0),(rf 0),(rf (n:Int)),zo,(rf (some (B 0))),(rf 0),rfl,(rf n),(leS (mE C n) n),rfl,(rf n),(λj0 hj0=>rfl),(rf n),(λj0 hj0=>⟨rfl,(λj1 hj1=>rfl)⟩),(rf 0),(rf (n:Int)),zo,zo⟩,λhc23=>have hc23:=dF hc23;have hi2:g=n:=zo;⟨(rf n),(λj0 hj0=>⟨rfl,(λj1 hj1=>(by rw[hi2];exact uptoR_all zo)),zo⟩),(rf (n:Int)),(rf (true:Bool)),(rf (some (B 0))),(rf 0),rfl,(rf n),(leS (mE C n) n)⟩⟩⟩)
theorem sBMatrixF{C:Nat->Nat->Rat}{n:Nat}(hn:n<=64):CallOKm Tryz.prog 21 [.one (.var 100 (.agg (c3 (.own 1 0) (.ex (.pointer none)) (.ex sN)))),cC C n] [.own 0 0] (.agg (c2 (.sl 1 (mE (trM C) n) n) (iN n))) [.one (.var 100 (.agg (c3 (.own 2 0) (.ex (.pointer none)) (.ex sN)))),.dead,cC C n]:=by
 exact zZ (ch:=λB=>[.reg 1 [(9,.callM [0,1] [.one (.var 100 (.agg (c3 (.own 1 0) (.ex (.pointer none)) (.ex sN))) (some (B 0))),cC C n] [iN n,.own 1 0] (c2 (.agg (c2 (.sl 1 (mE C n) n) (iN n))) (bX true)) [.one (.var 100 (.agg (c3 (.own 2 0) (.ex (.pointer none)) (.ex sN))) (some (B 0))),.dead,cC C n])],.reg 2 [(1,.callS (.agg (c2 (.sl 1 (λi0=>.sl 3 (λi1=>.rat (C i1 i0)) n) n) (iN n))) [])],.ret 2 [(0,.id 0),(2,.id 3)]]) hMix Tryz.func21 rfl zk zk zk (λB=>(CallOKm Tryz.prog 58 [.one (.var 100 (.agg (c3 (.own 1 0) (.ex (.pointer none)) (.ex sN))) (some (B 0))),cC C n] [iN n,.own 1 0] (c2 (.agg (c2 (.sl 1 (mE C n) n) (iN n))) (bX true)) [.one (.var 100 (.agg (c3 (.own 2 0) (.ex (.pointer none)) (.ex sN))) (some (B 0))),.dead,cC C n])/\_/\_/\_/\_/\_/\_/\(_/\(∀j0,j0<n->((n:Nat)=n)/\(∀j1,j1<n->((C j1 j0:Rat)=((trM C) j0 j1))))/\_/\_/\_/\((.pointer none:Value)=.pointer none)/\_/\_)) (λB=>by kernel_rfl)
  (λB=>⟨((sMatOfF (C:=C) zo)).tag0 (b:=B 0),(rf (.one (.var 100 (.agg (c3 (.own 1 0) (.ex (.pointer none)) (.ex sN))) (some (B 0))):Hl)),(rf (cC C n:Hl)),(rf (n:Int)),(rf 1),(rf 0),sMatTurned (m:=n) (n:=n) (q:=C) zo zo,(rf n),(λj0 hj0=>⟨rfl,(λj1 hj1=>rfl)⟩),(rf (n:Int)),(rf (some (B 0))),(rf 0),rfl,(rf n),(leS (mE C n) n)⟩)
theorem sBFactorF{C:Nat->Nat->Rat}{n:Nat}(hn:n<=6)(hD:HtB n n 3 (trM C))(hok:luOK n (trM C) n):CallOKm Tryz.prog 49 [.one (.var 100 (.agg (c3 (.own 1 0) (.ex (.pointer none)) (.ex sN)))),cC C n] [.own 0 0] (bX true) [.one (.var 100 (.agg (c3 (.own 2 0) (.ep (lvE (luS n (trM C) n) n)) (.ex sN)))),.dead,cC C n]:=by
 exact zZ (ch:=λB=>[.reg 1 [(1,.callM [0,1] [.one (.var 100 (.agg (c3 (.own 1 0) (.ex (.pointer none)) (.ex sN))) (some (B 0))),cC C n] [.own 0 0] (.agg (c2 (.sl 1 (mE (trM C) n) n) (iN n))) [.one (.var 100 (.agg (c3 (.own 2 0) (.ex (.pointer none)) (.ex sN))) (some (B 0))),.dead,cC C n]),(2,.callS (c2 (.ep (lvE (luS n (trM C) n) n)) (bX true)) [])],.dec 11 true,.ret 4 [(0,.id 0),(2,.id 2)]]) hMix Tryz.func49 rfl zk zk zk (λB=>(CallOKm Tryz.prog 21 [.one (.var 100 (.agg (c3 (.own 1 0) (.ex (.pointer none)) (.ex sN))) (some (B 0))),cC C n] [.own 0 0] (.agg (c2 (.sl 1 (mE (trM C) n) n) (iN n))) [.one (.var 100 (.agg (c3 (.own 2 0) (.ex (.pointer none)) (.ex sN))) (some (B 0))),.dead,cC C n])/\_/\_/\_/\_/\_/\(true=true)/\(_/\_/\_/\_/\_/\_/\_/\_/\_/\_/\_/\_)) (λB=>by kernel_rfl)
  (λB=>⟨((sBMatrixF (C:=C) zo)).tag0 (b:=B 0),(rf (.one (.var 100 (.agg (c3 (.own 1 0) (.ex (.pointer none)) (.ex sN))) (some (B 0))):Hl)),(rf (cC C n:Hl)),(rf 0),(rf 0),(sLuFactor (n:=n) (q:=(trM C)) zo (lu_hH hD hn) hok),rfl,(rf (true:Bool)),(rf (some (B 0))),(rf 0),(rf n),(leS (mE (luS n (trM C) n).2.1 n) n),(rf n),(leS (mE ((luS n (trM C) n).1) n) n),(rf n),(leS (λi0=>iN ((luS n (trM C) n).2.2.1 i0)) n),(rf ((luS n (trM C) n).2.2.2.2:Bool)),(rf n),(leS (mE C n) n)⟩)
theorem sBFactorX{C:Nat->Nat->Rat}{n:Nat}(hn:n<=6)(hD:HtB n n 3 (trM C))(hok:¬luOK n (trM C) n):CallOKm Tryz.prog 49 [.one (.var 100 (.agg (c3 (.own 1 0) (.ex (.pointer none)) (.ex sN)))),cC C n] [.own 0 0] (bX false) [.one (.var 100 (.agg (c3 (.own 2 0) (.ex (.pointer none)) (.ex sN)))),.dead,cC C n]:=by
 exact zZ (ch:=λB=>[.reg 1 [(1,.callM [0,1] [.one (.var 100 (.agg (c3 (.own 1 0) (.ex (.pointer none)) (.ex sN))) (some (B 0))),cC C n] [.own 0 0] (.agg (c2 (.sl 1 (mE (trM C) n) n) (iN n))) [.one (.var 100 (.agg (c3 (.own 2 0) (.ex (.pointer none)) (.ex sN))) (some (B 0))),.dead,cC C n]),(2,.callS (c2 (.ex (.pointer none)) (bX false)) [])],.dec 11 false,.ret 4 [(0,.id 0),(2,.id 2)]]) hMix Tryz.func49 rfl zk zk zk (λB=>(CallOKm Tryz.prog 21 [.one (.var 100 (.agg (c3 (.own 1 0) (.ex (.pointer none)) (.ex sN))) (some (B 0))),cC C n] [.own 0 0] (.agg (c2 (.sl 1 (mE (trM C) n) n) (iN n))) [.one (.var 100 (.agg (c3 (.own 2 0) (.ex (.pointer none)) (.ex sN))) (some (B 0))),.dead,cC C n])/\_/\_/\_/\_/\_/\(false=false)/\(_/\_/\_/\((.pointer none:Value)=.pointer none)/\_/\_)) (λB=>by kernel_rfl)
  (λB=>⟨((sBMatrixF (C:=C) zo)).tag0 (b:=B 0),(rf (.one (.var 100 (.agg (c3 (.own 1 0) (.ex (.pointer none)) (.ex sN))) (some (B 0))):Hl)),(rf (cC C n:Hl)),(rf 0),(rf 0),(sLuFactorSing (n:=n) (q:=(trM C)) zo (lu_hH hD hn) hok),rfl,(rf (false:Bool)),(rf (some (B 0))),(rf 0),rfl,(rf n),(leS (mE C n) n)⟩)
theorem sBFactor{D C:Nat->Nat->Rat}{e:Etas}{n m:Nat}(hn:n<=6)(hD:HtB n n 3 (trM C))(hok:luOK n (trM C) n):CallOKm Tryz.prog 49 [.one (bV 1 2 (luS n D n) n),cC C n,.one (eE e n m)] [.own 0 0] (bX true) [.one (.var 100 (.agg (c3 (.own 3 0) (.ep (lvE (luS n (trM C) n) n)) (.ex sN)))),.dead,.dead,cC C n]:=by
 exact zZ (ch:=λB=>[.reg 1 [(1,.callM [0,1,2] [.one (bV 1 2 (luS n D n) n (some (B 0))),cC C n,.one (eE e n m)] [.own 0 0] (.agg (c2 (.sl 1 (λi0=>.sl 3 (λi1=>.rat (trM C i0 i1)) n) n) (iN n))) [.one (bV 3 4 (luS n D n) n (some (B 0))),.dead,.dead,cC C n,.one (eE e n m)]),(2,.callS (c2 (.ep (lvE (luS n (trM C) n) n)) (bX true)) [])],.dec 11 true,.ret 4 [(0,.id 0),(3,.id 3)]]) hMix Tryz.func49 rfl zk zk zk (λB=>_/\_/\_/\_/\_/\_/\_/\(true=true)/\(_/\_/\_/\_/\_/\_/\_/\_/\_/\_/\_/\_)) (λB=>by kernel_rfl)
  (λB=>⟨((sBMatrix (D:=D) (C:=C) (e:=e) (m:=m) (n:=n) zo)).tag0 (b:=B 0),(rf (.one (bV 1 2 (luS n D n) n (some (B 0))):Hl)),(rf (cC C n:Hl)),(rf (.one (eE e n m):Hl)),(rf 0),(rf 0),(sLuFactor (n:=n) (q:=(trM C)) zo (lu_hH hD hn) hok),rfl,(rf (true:Bool)),(rf (some (B 0))),(rf 0),(rf n),(leS (mE (luS n (trM C) n).2.1 n) n),(rf n),(leS (mE ((luS n (trM C) n).1) n) n),(rf n),(leS (λi0=>iN ((luS n (trM C) n).2.2.1 i0)) n),(rf ((luS n (trM C) n).2.2.2.2:Bool)),(rf n),(leS (mE C n) n)⟩)
open Go.RowKit
@[simp] theorem sCol_sCol:(sCol.toList==sCol.toList)=true:=beq_self_eq_true _
@[simp] theorem sNo_sNo:(sNo.toList==sNo.toList)=true:=beq_self_eq_true _
@[simp] theorem sCol_sNo:(sCol.toList==sNo.toList)=false:=by
 have h1:sNo.toList=[]:=by simp[ByteArray.toList,ByteArray.toList.loop,ByteArray.size]
 have h2:sCol.toList.length≠0:=by simp[ByteArray.toList,ByteArray.toList.loop,ByteArray.size]
 rw[h1]
 cases h:sCol.toList with
 | nil=>rw[h] at h2;exact absurd rfl h2
 | cons a l=>rfl
theorem sWrap{s:ByteArray}{k n:Int}:CallOK Tryz.prog 48 [.ex (.iface 63 (.int .i64 n)),.ex (.string s),.ex (.int .i64 k)] (.ifc 113 (.ep (.agg (c3 (.ex (.string s)) (.ex (.int .i64 k)) (.ex (.iface 63 (.int .i64 n))))))) []:=by
 exact kP (ch:=[.dec 8 false]) Tryz.func48 ((false=false)/\(((.string s:Value)=.string s)/\_/\((.iface 63 (.int .i64 n):Value)=.iface 63 (.int .i64 n))))
  ⟨rfl,rfl,(rf (k:Int)),rfl⟩
theorem sToldF{n k:Int}:CallOK Tryz.prog 27 [.ifc 113 (.ep (.agg (c3 (.ex (.string sCol)) (.ex (.int .i64 k)) (.ex (.iface 63 (.int .i64 n)))))),.ex (.int .i64 n),.ex (.string sCol),.ex (.int .i64 k)] (bX true) []:=by
 exact kP (ch:=[.reg 1 [(1,.callS (c3 (.ex (.string sCol)) (.ex (.int .i64 k)) (bX true)) [])],.reg 2 [(1,.callS (.ex (.int .i64 n)) []),(9,.skip)],.dec 27 false,.reg 4 [(10,.sure .no),(11,.skip)]]) Tryz.func27 ((CallOK Tryz.prog 23 [.ifc 113 (.ep (.agg (c3 (.ex (.string sCol)) (.ex (.int .i64 k)) (.ex (.iface 63 (.int .i64 n))))))] (c3 (.ex (.string sCol)) (.ex (.int .i64 k)) (bX true)) [])/\(CallOK Tryz.prog 63 [.ifc 113 (.ep (.agg (c3 (.ex (.string sCol)) (.ex (.int .i64 k)) (.ex (.iface 63 (.int .i64 n))))))] (.ex (.int .i64 n)) [])/\_/\_/\_/\((!decide ((n:Int)=n))=false)/\(((!decide ((n:Int)=n))==false)=true)/\((!(true==(!((sCol).toList==(sNo).toList))))=false)/\_/\_/\_/\_/\_/\_/\(((!true)==false)=true->((sCol).toList==(sCol).toList)=true)/\(((!true)==false)=true->((((!true)==false)&&true)&&(((sCol).toList==(sCol).toList)==true))=true)/\((!true)=false)/\(((!true)==false)=true)/\(((decide ((k:Int)=k):Bool)=true)))
  ⟨sPlaceF,sNumberF,(idB ((!decide ((n:Int)=n))==false)),(idB ((!decide ((n:Int)=n))==false)),(idB ((!decide ((n:Int)=n))==false)),(by first | (simp;done) | (simp at hg)),(by first | (simp;done) | (simp at hg)),(by first | (simp;done) | (simp at hg)),(idB ((!true)==false)),(idB ((!true)==false)),(idB ((!true)==false)),(idB ((((!true)==false)&&true)&&(((sCol).toList==(sCol).toList)==true))),(idB ((((!true)==false)&&true)&&(((sCol).toList==(sCol).toList)==true))),(idB ((!true)==false)),(λhg=>(by first | (simp;done) | (simp at hg))),(λhg=>(by first | (simp;done) | (simp at hg))),(by first | (simp;done) | (simp at hg)),(by first | (simp;done) | (simp at hg)),(by first | (simp;done) | (simp at hg))⟩
open Go.RowKit
theorem sBNew{C:Nat->Nat->Rat}{e:Etas}{n:Nat}(hn:n<=6)(hD:HtB n n 3 (trM C))(hok:luOK n (trM C) n):CallOK Tryz.prog 13 [.sl 1 (mE C n) n] (c2 (.own 0 0) (.ex (.nilIface))) [.one (bV 1 2 (luS n (trM C) n) n),cC C n,.one (eE e n 0)]:=by
 exact kP (ch:=[.loop 3 (Nat) (λg=>g<=n) (λg=>n-g) (λg=>⟨[(0,.sl 1 (mE C n) n),(4,.own 0 0),(9,.sl 1 (mE C n) n),(10,iN n),(11,iN g)],[(0,.one (.var 100 (.agg (c3 (.own 1 0) (.ex (.pointer none)) (.ex sN))))),(1,.one (.row 33 1 (mE C n) g))],2⟩) [(0,.id 0),(1,.nil)] (λ_=>[(0,.id 0),(1,.id 2)]) (λg=>[.reg 4 [(1,.k g)],.dec 25 false,.reg 7 [(6,.callS (.sl 3 (λi0=>.rat (C g i0)) n) []),(8,.row 0 (mE C n))],.reg 8 [(0,.z ((g+1:Nat):Int))],.conv 9 [(0,.id 0),(1,.id 1)] ⟨[(4,.own 0 0)],[(0,.one (.var 100 (.agg (c3 (.own 1 0) (.ex (.pointer none)) (.ex sN))))),(1,cC C n)],2⟩,.reg 9 [(1,.callM [0,1] [.one (.var 100 (.agg (c3 (.own 1 0) (.ex (.pointer none)) (.ex sN)))),cC C n] [.own 0 0] (bX true) [.one (.var 100 (.agg (c3 (.own 2 0) (.ep (lvE (luS n (trM C) n) n)) (.ex sN)))),.dead,cC C n])],.dec 43 false,.ret 11 [(0,.id 0),(1,.id 2),(2,.nil)]])]) Tryz.func13 ((∀j0,j0<n->(∀j1,j1<n->True))/\(((λX1 X2 X3 X4 X5 X6 X7:Prop=>∃g0:Nat,X1/\X2/\X3/\X4/\X5/\X6/\((0:Int)=(g0:Int))/\X7/\((.pointer none:Value)=.pointer none)/\((g0:Nat)=0)/\(g0<=n)) _ _ _ _ _ _ _)/\∀g:Nat,(g<=n)->(((decide ((g:Int)<(n:Int)))=true->_/\(g<n)/\_/\_/\((!(!decide ((n:Int)=(n:Int))))=true->((!decide ((n:Int)=(n:Int)))==false)=true)/\((bif (!decide ((n:Int)=(n:Int))) then true else(decide ((64:Int)<(n:Int))))=false)/\_/\(g+1<=68719476736)/\_/\_/\_/\((λX1 X2 X3 X4 X5 X6 X7 X8:Prop=>∃g1:Nat,X1/\X2/\X3/\X4/\X5/\X6/\(((g+1:Nat):Int)=(g1:Int))/\X7/\((.pointer none:Value)=.pointer none)/\((g+1:Nat)=g1)/\X8/\(g1<=n)/\(n-g1<n-g)) _ _ _ _ _ _ _ _))/\((decide ((g:Int)<(n:Int)))=false->_/\_/\((.pointer none:Value)=.pointer none)/\((g:Nat)=n)/\_/\(CallOKm Tryz.prog 49 [.one (.var 100 (.agg (c3 (.own 1 0) (.ex (.pointer none)) (.ex sN)))),cC C n] [.own 0 0] (bX true) [.one (.var 100 (.agg (c3 (.own 2 0) (.ep (lvE (luS n (trM C) n) n)) (.ex sN)))),.dead,cC C n])/\_/\_/\_/\_/\((!true)=false)/\(_/\((.nilIface:Value)=.nilIface)/\_/\_/\_/\_/\_/\_/\_/\_/\_/\_/\_/\_)))))
  ⟨(λ_ _=>(λ_ _=>trivial)),⟨0,(rf n),(leS (mE C n) n),(rf 0),(rf n),(leS (mE C n) n),(rf (n:Int)),zo,(rf 0),rfl,zo,zo⟩,λg hg=>⟨λhc12=>have hc12:=dT hc12;⟨(rf (g:Int)),zo,(idB ((!decide ((n:Int)=(n:Int)))==false)),(idB ((!decide ((n:Int)=(n:Int)))==false)),zs,(by simp;omega),(xX (n:=n) (q:=(λi=>C g i)) zo).frzV,zo,(oldS (mE C n) g),(newS (mE C n) g),(wI (g:=g) zo),g+1,(rf n),(leS (mE C n) n),(rf 0),(rf n),(leS (mE C n) n),(rf (n:Int)),zo,(rf 0),rfl,zo,(leS (mE C n) (g+1)),zo,zo⟩,λhc12=>have hc12:=dF hc12;have hi2:g=n:=zo;⟨(rf 0),(rf 0),rfl,hi2,(leS (mE C n) g),(sBFactorF hn hD hok),(rf (.one (.var 100 (.agg (c3 (.own 1 0) (.ex (.pointer none)) (.ex sN)))):Hl)),(rf (cC C n:Hl)),(rf 0),(rf 0),rfl,(rf 0),rfl,(rf 0),(rf n),(leS (mE (luS n (trM C) n).2.1 n) n),(rf n),(leS (mE ((luS n (trM C) n).1) n) n),(rf n),(leS (λi0=>iN ((luS n (trM C) n).2.2.1 i0)) n),(rf ((luS n (trM C) n).2.2.2.2:Bool)),(rf 0),(rf n),(leS (mE C n) n),(rf 0)⟩⟩⟩
theorem sBNew_sing{C:Nat->Nat->Rat}{n:Nat}(hn:n<=6)(hD:HtB n n 3 (trM C))(hok:¬luOK n (trM C) n):CallOK Tryz.prog 13 [.sl 1 (mE C n) n] (c2 (.ex (.pointer none)) (.ex (.iface 63 (.int .i64 140)))) []:=by
 exact kP (ch:=[.loop 3 (Nat) (λg=>g<=n) (λg=>n-g) (λg=>⟨[(0,.sl 1 (mE C n) n),(4,.own 0 0),(9,.sl 1 (mE C n) n),(10,iN n),(11,iN g)],[(0,.one (.var 100 (.agg (c3 (.own 1 0) (.ex (.pointer none)) (.ex sN))))),(1,.one (.row 33 1 (mE C n) g))],2⟩) [(0,.id 0),(1,.nil)] (λ_=>[(0,.id 0),(1,.id 2)]) (λg=>[.reg 4 [(1,.k g)],.dec 25 false,.reg 7 [(6,.callS (.sl 3 (λi0=>.rat (C g i0)) n) []),(8,.row 0 (mE C n))],.reg 8 [(0,.z ((g+1:Nat):Int))],.conv 9 [(0,.id 0),(1,.id 1)] ⟨[(4,.own 0 0)],[(0,.one (.var 100 (.agg (c3 (.own 1 0) (.ex (.pointer none)) (.ex sN))))),(1,cC C n)],2⟩,.reg 9 [(1,.callM [0,1] [.one (.var 100 (.agg (c3 (.own 1 0) (.ex (.pointer none)) (.ex sN)))),cC C n] [.own 0 0] (bX false) [.one (.var 100 (.agg (c3 (.own 2 0) (.ex (.pointer none)) (.ex sN)))),.dead,cC C n])],.dec 43 true])]) Tryz.func13 ((∀j0,j0<n->(∀j1,j1<n->True))/\(((λX1 X2 X3 X4 X5 X6 X7:Prop=>∃g0:Nat,X1/\X2/\X3/\X4/\X5/\X6/\((0:Int)=(g0:Int))/\X7/\((.pointer none:Value)=.pointer none)/\((g0:Nat)=0)/\(g0<=n)) _ _ _ _ _ _ _)/\∀g:Nat,(g<=n)->(((decide ((g:Int)<(n:Int)))=true->_/\(g<n)/\_/\_/\((!(!decide ((n:Int)=(n:Int))))=true->((!decide ((n:Int)=(n:Int)))==false)=true)/\((bif (!decide ((n:Int)=(n:Int))) then true else(decide ((64:Int)<(n:Int))))=false)/\_/\(g+1<=68719476736)/\_/\_/\_/\((λX1 X2 X3 X4 X5 X6 X7 X8:Prop=>∃g1:Nat,X1/\X2/\X3/\X4/\X5/\X6/\(((g+1:Nat):Int)=(g1:Int))/\X7/\((.pointer none:Value)=.pointer none)/\((g+1:Nat)=g1)/\X8/\(g1<=n)/\(n-g1<n-g)) _ _ _ _ _ _ _ _))/\((decide ((g:Int)<(n:Int)))=false->_/\_/\((.pointer none:Value)=.pointer none)/\((g:Nat)=n)/\_/\(CallOKm Tryz.prog 49 [.one (.var 100 (.agg (c3 (.own 1 0) (.ex (.pointer none)) (.ex sN)))),cC C n] [.own 0 0] (bX false) [.one (.var 100 (.agg (c3 (.own 2 0) (.ex (.pointer none)) (.ex sN)))),.dead,cC C n])/\_/\_/\_/\_/\((!false)=true)/\(((.pointer none:Value)=.pointer none)/\((.iface 63 (.int .i64 140):Value)=.iface 63 (.int .i64 140)))))))
  ⟨(λ_ _=>(λ_ _=>trivial)),⟨0,(rf n),(leS (mE C n) n),(rf 0),(rf n),(leS (mE C n) n),(rf (n:Int)),zo,(rf 0),rfl,zo,zo⟩,λg hg=>⟨λhc12=>have hc12:=dT hc12;⟨(rf (g:Int)),zo,(idB ((!decide ((n:Int)=(n:Int)))==false)),(idB ((!decide ((n:Int)=(n:Int)))==false)),zs,(by simp;omega),(xX (n:=n) (q:=(λi=>C g i)) zo).frzV,zo,(oldS (mE C n) g),(newS (mE C n) g),(wI (g:=g) zo),g+1,(rf n),(leS (mE C n) n),(rf 0),(rf n),(leS (mE C n) n),(rf (n:Int)),zo,(rf 0),rfl,zo,(leS (mE C n) (g+1)),zo,zo⟩,λhc12=>have hc12:=dF hc12;have hi2:g=n:=zo;⟨(rf 0),(rf 0),rfl,hi2,(leS (mE C n) g),(sBFactorX hn hD hok),(rf (.one (.var 100 (.agg (c3 (.own 1 0) (.ex (.pointer none)) (.ex sN)))):Hl)),(rf (cC C n:Hl)),(rf 0),(rf 0),rfl,rfl,rfl⟩⟩⟩
theorem sBNew_len{C:Nat->Nat->Rat}{len:Nat->Nat}{n k:Nat}(hn:n<=6)(hk:k<n)(hlen:∀i,i<k->len i=n)(hne:len k≠n):CallOK Tryz.prog 13 [.sl 1 (λi0=>.sl 3 (λi1=>.rat (C i0 i1)) (len i0)) n] (c2 (.ex (.pointer none)) (.ifc 113 (.ep (.agg (c3 (.ex (.string sCol)) (iN k) (.ex (.iface 63 (.int .i64 2)))))))) []:=by
 exact kP (ch:=[.loop 3 (Nat) (λg=>g<=k) (λg=>n-g) (λg=>⟨[(0,.sl 1 (λi0=>.sl 3 (λi1=>.rat (C i0 i1)) (len i0)) n),(4,.own 0 0),(9,.sl 1 (λi0=>.sl 3 (λi1=>.rat (C i0 i1)) (len i0)) n),(10,iN n),(11,iN g)],[(0,.one (.var 100 (.agg (c3 (.own 1 0) (.ex (.pointer none)) (.ex sN))))),(1,.one (.row 33 1 (λi0=>.sl 3 (λi1=>.rat (C i0 i1)) (len i0)) g))],2⟩) [(0,.id 0),(1,.nil)] (λ_=>[(0,.id 0),(1,.id 2)]) (λg=>[.reg 4 [(1,.k g)],.reg 6 [(2,.callS (.ifc 113 (.ep (.agg (c3 (.ex (.string sCol)) (iN g) (.ex (.iface 63 (.int .i64 2))))))) [])],.reg 7 [(6,.callS (.sl 3 (λi0=>.rat (C g i0)) (len g)) []),(8,.row 0 (λi0=>.sl 3 (λi1=>.rat (C i0 i1)) (len i0)))],.reg 8 [(0,.z ((g+1:Nat):Int))],.conv 9 [(0,.id 0),(1,.id 1)] ⟨[(4,.own 0 0)],[(0,.one (.var 100 (.agg (c3 (.own 1 0) (.ex (.pointer none)) (.ex sN))))),(1,cC C n)],2⟩,.reg 9 [(1,.callM [0,1] [.one (.var 100 (.agg (c3 (.own 1 0) (.ex (.pointer none)) (.ex sN)))),cC C n] [.own 0 0] (bX false) [.one (.var 100 (.agg (c3 (.own 2 0) (.ex (.pointer none)) (.ex sN)))),.dead,cC C n])],.dec 43 false])]) Tryz.func13 ((∀j0,j0<n->(∀j1,j1<(len j0)->True))/\(((λX1 X2 X3 X4 X5 X6 X7:Prop=>∃g0:Nat,X1/\X2/\X3/\X4/\X5/\X6/\((0:Int)=(g0:Int))/\X7/\((.pointer none:Value)=.pointer none)/\((g0:Nat)=0)/\(g0<=k)) _ _ _ _ _ _ _)/\∀g:Nat,(g<=k)->(((decide ((g:Int)<(n:Int)))=true->_/\(g<n)/\_/\_/\((!(!decide (((len g:Nat):Int)=(n:Int))))=true->((!decide (((len g:Nat):Int)=(n:Int)))==false)=true)/\(((bif (!decide (((len g:Nat):Int)=(n:Int))) then true else(decide ((64:Int)<(n:Int))))=true->(CallOK Tryz.prog 48 [.ex (.iface 63 (.int .i64 2)),.ex (.string sCol),iN g] (.ifc 113 (.ep (.agg (c3 (.ex (.string sCol)) (iN g) (.ex (.iface 63 (.int .i64 2))))))) [])/\(((.pointer none:Value)=.pointer none)/\((.string sCol:Value)=.string sCol)/\((g:Int)=(k:Int))/\((.iface 63 (.int .i64 2):Value)=.iface 63 (.int .i64 2))))/\((bif (!decide (((len g:Nat):Int)=(n:Int))) then true else(decide ((64:Int)<(n:Int))))=false->_/\(g+1<=68719476736)/\_/\_/\_/\((λX1 X2 X3 X4 X5 X6 X7 X8:Prop=>∃g1:Nat,X1/\X2/\X3/\X4/\X5/\X6/\(((g+1:Nat):Int)=(g1:Int))/\X7/\((.pointer none:Value)=.pointer none)/\((g+1:Nat)=g1)/\X8/\(g1<=k)/\(n-g1<n-g)) _ _ _ _ _ _ _ _))))/\((decide ((g:Int)<(n:Int)))=false->_/\_/\((.pointer none:Value)=.pointer none)/\((g:Nat)=n)/\(∀j0,j0<g->((len j0:Nat)=n)/\(∀j1,j1<(len j0)->((C j0 j1:Rat)=(C j0 j1))))/\(CallOKm Tryz.prog 49 [.one (.var 100 (.agg (c3 (.own 1 0) (.ex (.pointer none)) (.ex sN)))),cC C n] [.own 0 0] (bX false) [.one (.var 100 (.agg (c3 (.own 2 0) (.ex (.pointer none)) (.ex sN)))),.dead,cC C n])/\_/\_/\_/\_/\((!false)=false)/\((False)/\(False))))))
  ⟨(λ_ _=>(λ_ _=>trivial)),⟨0,(rf n),(leS (λi0=>.sl 3 (λi1=>.rat (C i0 i1)) (len i0)) n),(rf 0),(rf n),(leS (λi0=>.sl 3 (λi1=>.rat (C i0 i1)) (len i0)) n),(rf (n:Int)),zo,(rf 0),rfl,zo,zo⟩,λg hg=>⟨λhc12=>have hc12:=dT hc12;have hgn:g<n:=zo;⟨(rf (g:Int)),zo,(idB ((!decide (((len g:Nat):Int)=(n:Int)))==false)),(idB ((!decide (((len g:Nat):Int)=(n:Int)))==false)),zs,λhc25=>have hgk:g=k:=(by rcases Nat.lt_or_eq_of_le hg with h | h;exact absurd hc25 (by rw[hlen g h];simp;omega);exact h);⟨sWrap,(by first | rfl | rw[hgk]),(by first | rfl | rw[hgk]),(by first | rfl | rw[hgk]),(by first | rfl | rw[hgk])⟩,λhc25=>have hgk:g<k:=(by rcases Nat.lt_or_eq_of_le hg with h | h;exact h;subst h;simp at hc25;omega);⟨(xX (n:=len g) (q:=(λi=>C g i)) (by rw[hlen g hgk];omega)).frzV,zo,(oldS (λi0=>.sl 3 (λi1=>.rat (C i0 i1)) (len i0)) g),(newS (λi0=>.sl 3 (λi1=>.rat (C i0 i1)) (len i0)) g),(wI (g:=g) zo),g+1,(rf n),(leS (λi0=>.sl 3 (λi1=>.rat (C i0 i1)) (len i0)) n),(rf 0),(rf n),(leS (λi0=>.sl 3 (λi1=>.rat (C i0 i1)) (len i0)) n),(rf (n:Int)),zo,(rf 0),rfl,zo,(leS (λi0=>.sl 3 (λi1=>.rat (C i0 i1)) (len i0)) (g+1)),zo,zo⟩⟩,λhc12=>have hc12:=dF hc12;have hx:False:=zo;⟨(rf 0),(rf 0),rfl,hx.elim,(λj0 hj0=>⟨hx.elim,(λj1 hj1=>rfl)⟩),(sBFactorX hx.elim hx.elim hx.elim),(rf (.one (.var 100 (.agg (c3 (.own 1 0) (.ex (.pointer none)) (.ex sN)))):Hl)),(rf (cC C n:Hl)),(rf 0),(rf 0),hx.elim,hx.elim,hx.elim⟩⟩⟩
open Go.RowKit
def setE (e:Etas) (m k:Nat) (w:Nat->Rat) (t:Nat):Nat×(Nat->Rat):=if t=m then(k,w) else e t
theorem setE_self{e:Etas}{m k:Nat}{w:Nat->Rat}:setE e m k w m=(k,w):=if_pos rfl
theorem setE_ne{e:Etas}{m k t:Nat}{w:Nat->Rat}(h:t≠m):setE e m k w t=e t:=if_neg h
def setC (C:Nat->Nat->Rat) (k:Nat) (v:Nat->Rat) (j:Nat):Nat->Rat:=if j=k then v else C j
theorem setC_self{C:Nat->Nat->Rat}{k:Nat}{v:Nat->Rat}:setC C k v k=v:=if_pos rfl
theorem setC_ne{C:Nat->Nat->Rat}{k j:Nat}{v:Nat->Rat}(h:j≠k):setC C k v j=C j:=if_neg h
theorem sBReplace_arg{D C:Nat->Nat->Rat}{e:Etas}{n m:Nat}{v:Nat->Rat}{k:Int}{l:Nat}(hk:k<0∨(n:Int)<=k):CallOKm Tryz.prog 22 [.one (bV 1 2 (luS n D n) n),cC C n,.one (eE e n m)] [.own 0 0,.ex (.int .i64 k),.sl 3 (λi0=>.rat (v i0)) l] (.ifc 113 (.ep (.agg (c3 (.ex (.string sCol)) (.ex (.int .i64 k)) (.ex (.iface 63 (.int .i64 1))))))) [.one (bV 3 4 (luS n D n) n),.dead,.dead,cC C n,.one (eE e n m)]:=by
 exact zZ (ch:=λB=>[.dec 19 true,.reg 2 [(2,.callS (.ifc 113 (.ep (.agg (c3 (.ex (.string sCol)) (.ex (.int .i64 k)) (.ex (.iface 63 (.int .i64 1))))))) [])],.ret 2 [(0,.id 0),(3,.id 1),(4,.id 2)]]) hMix Tryz.func22 rfl zk zk zk (λB=>_/\_/\_/\_/\_/\_/\((!(decide ((k:Int)<0)))=true->((decide ((k:Int)<0))==false)=true)/\((bif (decide ((k:Int)<0)) then true else(decide ((n:Int)<=k)))=true)/\(CallOK Tryz.prog 48 [.ex (.iface 63 (.int .i64 1)),.ex (.string sCol),.ex (.int .i64 k)] (.ifc 113 (.ep (.agg (c3 (.ex (.string sCol)) (.ex (.int .i64 k)) (.ex (.iface 63 (.int .i64 1))))))) [])/\(((.string sCol:Value)=.string sCol)/\_/\((.iface 63 (.int .i64 1):Value)=.iface 63 (.int .i64 1))/\_/\_/\_/\_/\_/\_/\_/\_/\_/\_/\_/\_/\_/\_)) (λB=>by kernel_rfl)
  (λB=>⟨(idB ((decide ((k:Int)<0))==false)),(idB ((decide ((k:Int)<0))==false)),(idB ((decide ((k:Int)<0))==false)),(idB ((decide ((k:Int)<0))==false)),(idB ((decide ((k:Int)<0))==false)),(idB ((decide ((k:Int)<0))==false)),zs,(by simp;omega),sWrap,rfl,(rf (k:Int)),rfl,(rf (some (B 0))),(rf 0),(rf n),(leS (mE (luS n D n).2.1 n) n),(rf n),(leS (mE ((luS n D n).1) n) n),(rf n),(leS (λi0=>iN ((luS n D n).2.2.1 i0)) n),(rf ((luS n D n).2.2.2.2:Bool)),(rf 0),(rf n),(leS (mE C n) n),(rf m),(leS (λi0=>.agg (c2 (iN ((e i0).1)) (vE (e i0).2 n))) m)⟩)
theorem sBReplace_len{D C:Nat->Nat->Rat}{e:Etas}{n m:Nat}{v:Nat->Rat}{k:Nat}{l:Nat}(hk:k<n)(hl:l≠n):CallOKm Tryz.prog 22 [.one (bV 1 2 (luS n D n) n),cC C n,.one (eE e n m)] [.own 0 0,iN k,.sl 3 (λi0=>.rat (v i0)) l] (.ifc 113 (.ep (.agg (c3 (.ex (.string sCol)) (iN k) (.ex (.iface 63 (.int .i64 2))))))) [.one (bV 3 4 (luS n D n) n),.dead,.dead,cC C n,.one (eE e n m)]:=by
 exact zZ (ch:=λB=>[.dec 19 false,.reg 3 [(2,.callM [0,1,2] [.one (bV 1 2 (luS n D n) n (some (B 0))),cC C n,.one (eE e n m)] [.own 0 0,.sl 3 (λi0=>.rat (v i0)) l] (c2 (.sl 3 (λ_=>.rat 0) 0) (bX false)) [.one (bV 3 4 (luS n D n) n (some (B 0))),.dead,.dead,cC C n,.one (eE e n m)])],.dec 30 true,.reg 5 [(2,.callS (.ifc 113 (.ep (.agg (c3 (.ex (.string sCol)) (iN k) (.ex (.iface 63 (.int .i64 2))))))) [])],.ret 5 [(0,.id 0),(3,.id 3),(4,.id 4)]]) hMix Tryz.func22 rfl zk zk zk (λB=>_/\_/\_/\_/\_/\_/\((!(decide ((k:Int)<0)))=true->((decide ((k:Int)<0))==false)=true)/\((bif (decide ((k:Int)<0)) then true else(decide ((n:Int)<=(k:Int))))=false)/\_/\_/\_/\_/\_/\_/\_/\_/\((!false)=true)/\(CallOK Tryz.prog 48 [.ex (.iface 63 (.int .i64 2)),.ex (.string sCol),iN k] (.ifc 113 (.ep (.agg (c3 (.ex (.string sCol)) (iN k) (.ex (.iface 63 (.int .i64 2))))))) [])/\(((.string sCol:Value)=.string sCol)/\_/\((.iface 63 (.int .i64 2):Value)=.iface 63 (.int .i64 2))/\_/\_/\_/\_/\_/\_/\_/\_/\_/\_/\_/\_/\_/\_)) (λB=>by kernel_rfl)
  (λB=>⟨(idB ((decide ((k:Int)<0))==false)),(idB ((decide ((k:Int)<0))==false)),(idB ((decide ((k:Int)<0))==false)),(idB ((decide ((k:Int)<0))==false)),(idB ((decide ((k:Int)<0))==false)),(idB ((decide ((k:Int)<0))==false)),zs,(by simp;omega),((sBSolve_no (D:=D) (C:=C) (e:=e) (m:=m) (n:=n) (v:=v) hl)).tag0 (b:=B 0),(rf (.one (bV 1 2 (luS n D n) n (some (B 0))):Hl)),(rf (cC C n:Hl)),(rf (.one (eE e n m):Hl)),(rf 0),(rf 0),(rf l),(leS (λi0=>.rat (v i0)) l),rfl,sWrap,rfl,(rf (k:Int)),rfl,(rf (some (B 0))),(rf 0),(rf n),(leS (mE (luS n D n).2.1 n) n),(rf n),(leS (mE ((luS n D n).1) n) n),(rf n),(leS (λi0=>iN ((luS n D n).2.2.1 i0)) n),(rf ((luS n D n).2.2.2.2:Bool)),(rf 0),(rf n),(leS (mE C n) n),(rf m),(leS (λi0=>.agg (c2 (iN ((e i0).1)) (vE (e i0).2 n))) m)⟩)
theorem sBReplace_sing{D C:Nat->Nat->Rat}{e:Etas}{n m:Nat}{v:Nat->Rat}{k:Nat}(hn:n<=6)(hok:luOK n D n)(hD:HtB n n 3 D)(H:EtaOK n e m)(hw:∀t,t<m->∀j,j<n->htq ((e t).2 j)<=4000)(hm:m<=8)(hv:∀j,j<n->htq (v j)<=3)(hx:∀t,t<=m->∀j,j<n->htq (zH (basX n D v) e t j)<=4000)(hk:k<n)(hz:(zH (basX n D v) e m) k=0):CallOKm Tryz.prog 22 [.one (bV 1 2 (luS n D n) n),cC C n,.one (eE e n m)] [.own 0 0,iN k,.sl 3 (λi0=>.rat (v i0)) n] (.ifc 113 (.ep (.agg (c3 (.ex (.string sCol)) (iN k) (.ex (.iface 63 (.int .i64 140))))))) [.one (bV 3 4 (luS n D n) n),.dead,.dead,cC C n,.one (eE e n m)]:=by
 exact zZ (ch:=λB=>[.dec 19 false,.reg 3 [(2,.callM [0,1,2] [.one (bV 1 2 (luS n D n) n (some (B 0))),cC C n,.one (eE e n m)] [.own 0 0,.sl 3 (λi0=>.rat (v i0)) n] (c2 (.own 5 0) (bX true)) [.one (bV 3 4 (luS n D n) n (some (B 0))),.dead,.dead,cC C n,.one (eE e n m),.one (.row 47 3 (λi0=>.rat ((zH (basX n D v) e m) i0)) n)])],.dec 30 false,.reg 6 [(2,.k k),(4,.callS (bX (decide ((zH (basX n D v) e m) k=0))) [])],.dec 38 true,.reg 7 [(2,.callS (.ifc 113 (.ep (.agg (c3 (.ex (.string sCol)) (iN k) (.ex (.iface 63 (.int .i64 140))))))) [])],.ret 7 [(0,.id 0),(3,.id 3),(4,.id 4)]]) hMix Tryz.func22 rfl zk zk zk (λB=>_/\_/\_/\_/\_/\_/\((!(decide ((k:Int)<0)))=true->((decide ((k:Int)<0))==false)=true)/\((bif (decide ((k:Int)<0)) then true else(decide ((n:Int)<=(k:Int))))=false)/\_/\_/\_/\_/\_/\_/\_/\_/\((!true)=false)/\_/\(k<n)/\(k<n)/\_/\((decide ((zH (basX n D v) e m) k=0))=true)/\(CallOK Tryz.prog 48 [.ex (.iface 63 (.int .i64 140)),.ex (.string sCol),iN k] (.ifc 113 (.ep (.agg (c3 (.ex (.string sCol)) (iN k) (.ex (.iface 63 (.int .i64 140))))))) [])/\(((.string sCol:Value)=.string sCol)/\_/\((.iface 63 (.int .i64 140):Value)=.iface 63 (.int .i64 140))/\_/\_/\_/\_/\_/\_/\_/\_/\_/\_/\_/\_/\_/\_)) (λB=>by kernel_rfl)
  (λB=>⟨(idB ((decide ((k:Int)<0))==false)),(idB ((decide ((k:Int)<0))==false)),(idB ((decide ((k:Int)<0))==false)),(idB ((decide ((k:Int)<0))==false)),(idB ((decide ((k:Int)<0))==false)),(idB ((decide ((k:Int)<0))==false)),zs,(by simp;omega),((sBSolve (D:=D) (C:=C) (e:=e) (m:=m) (n:=n) (v:=v) hn hok hD H hw zo hv hx)).tag0 (b:=B 0),(rf (.one (bV 1 2 (luS n D n) n (some (B 0))):Hl)),(rf (cC C n:Hl)),(rf (.one (eE e n m):Hl)),(rf 0),(rf 0),(rf n),(leS (λi0=>.rat (v i0)) n),rfl,(rf (k:Int)),zo,zo,sRatZero (q:=(zH (basX n D v) e m) k),(decide_eq_true hz),sWrap,rfl,(rf (k:Int)),rfl,(rf (some (B 0))),(rf 0),(rf n),(leS (mE (luS n D n).2.1 n) n),(rf n),(leS (mE ((luS n D n).1) n) n),(rf n),(leS (λi0=>iN ((luS n D n).2.2.1 i0)) n),(rf ((luS n D n).2.2.2.2:Bool)),(rf 0),(rf n),(leS (mE C n) n),(rf m),(leS (λi0=>.agg (c2 (iN ((e i0).1)) (vE (e i0).2 n))) m)⟩)
theorem sBReplace{D C:Nat->Nat->Rat}{e:Etas}{n m:Nat}{v:Nat->Rat}{k:Nat}(hn:n<=6)(hok:luOK n D n)(hD:HtB n n 3 D)(H:EtaOK n e m)(hw:∀t,t<m->∀j,j<n->htq ((e t).2 j)<=4000)(hm:m<=8)(hv:∀j,j<n->htq (v j)<=3)(hx:∀t,t<=m->∀j,j<n->htq (zH (basX n D v) e t j)<=4000)(hk:k<n)(hz:(zH (basX n D v) e m) k≠0)(hm2:m<8):CallOKm Tryz.prog 22 [.one (bV 1 2 (luS n D n) n),cC C n,.one (eE e n m)] [.own 0 0,iN k,.sl 3 (λi0=>.rat (v i0)) n] (.ex (.nilIface)) [.one (bV 3 4 (luS n D n) n),.dead,.dead,cC (setC C k v) n,.one (eE (setE e m k (zH (basX n D v) e m)) n (m+1))]:=by
 exact zZ (ch:=λB=>[.dec 19 false,.reg 3 [(2,.callM [0,1,2] [.one (bV 1 2 (luS n D n) n (some (B 0))),cC C n,.one (eE e n m)] [.own 0 0,.sl 3 (λi0=>.rat (v i0)) n] (c2 (.own 5 0) (bX true)) [.one (bV 3 4 (luS n D n) n (some (B 0))),.dead,.dead,cC C n,.one (eE e n m),.one (.row 47 3 (λi0=>.rat ((zH (basX n D v) e m) i0)) n)])],.dec 30 false,.reg 6 [(2,.k k),(4,.callS (bX (decide ((zH (basX n D v) e m) k=0))) [])],.dec 38 false,.conv 8 [(0,.id 0),(1,.id 3),(2,.id 4)] ⟨[(0,.own 0 0),(1,iN k),(2,.sl 3 (λi0=>.rat (v i0)) n),(7,.sl 3 (λi0=>.rat ((zH (basX n D v) e m) i0)) n)],[(0,.one (bV 1 2 (luS n D n) n (some (B 0)))),(1,cC C n),(2,.one (eE e n m))],3⟩,.reg 8 [(6,.callS (vE v n) []),(7,.k k),(8,.row 0 (mE (setC C k v) n))],.reg 9 [(9,.row 0 (λi0=>.agg (c2 (iN (((setE e m k (zH (basX n D v) e m)) i0).1)) (vE ((setE e m k (zH (basX n D v) e m)) i0).2 n))))],.dec 67 false,.ret 12 [(0,.id 0),(3,.id 1),(4,.id 3)]]) hMix Tryz.func22 rfl zk zk zk (λB=>_/\_/\_/\_/\_/\_/\((!(decide ((k:Int)<0)))=true->((decide ((k:Int)<0))==false)=true)/\((bif (decide ((k:Int)<0)) then true else(decide ((n:Int)<=(k:Int))))=false)/\_/\_/\_/\_/\_/\_/\_/\_/\((!true)=false)/\_/\(k<n)/\(k<n)/\_/\((decide ((zH (basX n D v) e m) k=0))=false)/\_/\_/\_/\_/\_/\_/\_/\_/\_/\_/\_/\_/\_/\_/\_/\_/\_/\_/\_/\_/\_/\_/\(k<n)/\(k<n)/\(((n:Nat)=n)/\(∀j0,j0<n->((v j0:Rat)=((setC C k v) k j0))))/\(∀t,t<n->t≠k->(.sl 3 (λi0=>.rat ((setC C k v) t i0)) n:SV)=.sl 3 (λi0=>.rat (C t i0)) n)/\(m+1<=68719476736)/\(∀j0,j0<m->(.agg (c2 (iN (((setE e m k (zH (basX n D v) e m)) j0).1)) (vE ((setE e m k (zH (basX n D v) e m)) j0).2 n)):SV)=.agg (c2 (iN ((e j0).1)) (vE (e j0).2 n)))/\(∀j0,j0<1->((k:Int)=((((setE e m k (zH (basX n D v) e m)) (m+j0)).1:Nat):Int))/\((n:Nat)=n)/\(∀j1,j1<n->(((zH (basX n D v) e m) j1:Rat)=(((setE e m k (zH (basX n D v) e m)) (m+j0)).2 j1))))/\((decide ((8:Int)<((m+1:Nat):Int)))=false)/\(((.nilIface:Value)=.nilIface)/\_/\_/\_/\_/\_/\_/\_/\_/\_/\_/\_/\_/\_/\_)) (λB=>by kernel_rfl)
  (λB=>⟨(idB ((decide ((k:Int)<0))==false)),(idB ((decide ((k:Int)<0))==false)),(idB ((decide ((k:Int)<0))==false)),(idB ((decide ((k:Int)<0))==false)),(idB ((decide ((k:Int)<0))==false)),(idB ((decide ((k:Int)<0))==false)),zs,(by simp;omega),((sBSolve (D:=D) (C:=C) (e:=e) (m:=m) (n:=n) (v:=v) hn hok hD H hw zo hv hx)).tag0 (b:=B 0),(rf (.one (bV 1 2 (luS n D n) n (some (B 0))):Hl)),(rf (cC C n:Hl)),(rf (.one (eE e n m):Hl)),(rf 0),(rf 0),(rf n),(leS (λi0=>.rat (v i0)) n),rfl,(rf (k:Int)),zo,zo,sRatZero (q:=(zH (basX n D v) e m) k),(decide_eq_false hz),(rf 0),(rf (k:Int)),(rf n),(leS (λi0=>.rat (v i0)) n),(rf n),(leS (λi0=>.rat ((zH (basX n D v) e m) i0)) n),(rf (some (B 0))),(rf 0),(rf n),(leS (mE (luS n D n).2.1 n) n),(rf n),(leS (mE ((luS n D n).1) n) n),(rf n),(leS (λi0=>iN ((luS n D n).2.2.1 i0)) n),(rf ((luS n D n).2.2.2.2:Bool)),(rf 0),(rf n),(leS (mE C n) n),(rf m),(leS (λi0=>.agg (c2 (iN ((e i0).1)) (vE (e i0).2 n))) m),(xX (n:=n) (q:=v) zo).frzV,(rf (k:Int)),zo,zo,⟨rfl,(λj0 hj0=>(by rw[setC_self]))⟩,(λt ht hne=>by simp only[setC_ne hne]),zo,(λj0 hj0=>by simp only[setE_ne (Nat.ne_of_lt hj0)]),(λj0 hj0=>by obtain rfl:j0=0:=zo;simp[setE_self]),(by simp;omega),rfl,(rf (some (B 0))),(rf 0),(rf n),(leS (mE (luS n D n).2.1 n) n),(rf n),(leS (mE ((luS n D n).1) n) n),(rf n),(leS (λi0=>iN ((luS n D n).2.2.1 i0)) n),(rf ((luS n D n).2.2.2.2:Bool)),(rf 0),(rf n),(leS (mE (setC C k v) n) n),(rf (m+1:Nat)),(leS (λi0=>.agg (c2 (iN (((setE e m k (zH (basX n D v) e m)) i0).1)) (vE ((setE e m k (zH (basX n D v) e m)) i0).2 n))) (m+1))⟩)
theorem sBReplace_new{D C:Nat->Nat->Rat}{e:Etas}{n m:Nat}{v:Nat->Rat}{k:Nat}(hn:n<=6)(hok:luOK n D n)(hD:HtB n n 3 D)(H:EtaOK n e m)(hw:∀t,t<m->∀j,j<n->htq ((e t).2 j)<=4000)(hv:∀j,j<n->htq (v j)<=3)(hx:∀t,t<=m->∀j,j<n->htq (zH (basX n D v) e t j)<=4000)(hk:k<n)(hz:(zH (basX n D v) e m) k≠0)(hm2:m=8)(hD2:HtB n n 3 (trM (setC C k v)))(hok2:luOK n (trM (setC C k v)) n):CallOKm Tryz.prog 22 [.one (bV 1 2 (luS n D n) n),cC C n,.one (eE e n m)] [.own 0 0,iN k,.sl 3 (λi0=>.rat (v i0)) n] (.ex (.nilIface)) [.one (bV 3 4 (luS n (trM (setC C k v)) n) n),.dead,.dead,cC (setC C k v) n,.one (eE e n 0)]:=by
 exact zZ (ch:=λB=>[.dec 19 false,.reg 3 [(2,.callM [0,1,2] [.one (bV 1 2 (luS n D n) n (some (B 0))),cC C n,.one (eE e n m)] [.own 0 0,.sl 3 (λi0=>.rat (v i0)) n] (c2 (.own 5 0) (bX true)) [.one (bV 3 4 (luS n D n) n (some (B 0))),.dead,.dead,cC C n,.one (eE e n m),.one (.row 47 3 (λi0=>.rat ((zH (basX n D v) e m) i0)) n)])],.dec 30 false,.reg 6 [(2,.k k),(4,.callS (bX (decide ((zH (basX n D v) e m) k=0))) [])],.dec 38 false,.conv 8 [(0,.id 0),(1,.id 3),(2,.id 4)] ⟨[(0,.own 0 0),(1,iN k),(2,.sl 3 (λi0=>.rat (v i0)) n),(7,.sl 3 (λi0=>.rat ((zH (basX n D v) e m) i0)) n)],[(0,.one (bV 1 2 (luS n D n) n (some (B 0)))),(1,cC C n),(2,.one (eE e n m))],3⟩,.reg 8 [(6,.callS (vE v n) []),(7,.k k),(8,.row 0 (mE (setC C k v) n))],.reg 9 [(9,.row 0 (λi0=>.agg (c2 (iN (((setE e m k (zH (basX n D v) e m)) i0).1)) (vE ((setE e m k (zH (basX n D v) e m)) i0).2 n))))],.dec 67 true,.reg 11 [(1,.callM [0,1,3] [.one (bV 1 2 (luS n D n) n (some (B 0))),cC (setC C k v) n,.one (eE (setE e m k (zH (basX n D v) e m)) n (m+1))] [.own 0 0] (bX true) [.one (.var 100 (.agg (c3 (.own 3 0) (.ep (lvE (luS n (trM (setC C k v)) n) n)) (.ex sN))) (some (B 0))),.dead,.dead,cC (setC C k v) n])],.ret 12 [(0,.id 0),(3,.id 4),(4,.nil)]]) hMix Tryz.func22 rfl zk zk zk (λB=>_/\_/\_/\_/\_/\_/\((!(decide ((k:Int)<0)))=true->((decide ((k:Int)<0))==false)=true)/\((bif (decide ((k:Int)<0)) then true else(decide ((n:Int)<=(k:Int))))=false)/\_/\_/\_/\_/\_/\_/\_/\_/\((!true)=false)/\_/\(k<n)/\(k<n)/\_/\((decide ((zH (basX n D v) e m) k=0))=false)/\_/\_/\_/\_/\_/\_/\_/\_/\_/\_/\_/\_/\_/\_/\_/\_/\_/\_/\_/\_/\_/\_/\(k<n)/\(k<n)/\(((n:Nat)=n)/\(∀j0,j0<n->((v j0:Rat)=((setC C k v) k j0))))/\(∀t,t<n->t≠k->(.sl 3 (λi0=>.rat ((setC C k v) t i0)) n:SV)=.sl 3 (λi0=>.rat (C t i0)) n)/\(m+1<=68719476736)/\(∀j0,j0<m->(.agg (c2 (iN (((setE e m k (zH (basX n D v) e m)) j0).1)) (vE ((setE e m k (zH (basX n D v) e m)) j0).2 n)):SV)=.agg (c2 (iN ((e j0).1)) (vE (e j0).2 n)))/\(∀j0,j0<1->((k:Int)=((((setE e m k (zH (basX n D v) e m)) (m+j0)).1:Nat):Int))/\((n:Nat)=n)/\(∀j1,j1<n->(((zH (basX n D v) e m) j1:Rat)=(((setE e m k (zH (basX n D v) e m)) (m+j0)).2 j1))))/\((decide ((8:Int)<((m+1:Nat):Int)))=true)/\_/\_/\_/\_/\_/\_/\(((.nilIface:Value)=.nilIface)/\_/\_/\_/\_/\_/\_/\_/\_/\_/\_/\_/\_/\_)) (λB=>by kernel_rfl)
  (λB=>⟨(idB ((decide ((k:Int)<0))==false)),(idB ((decide ((k:Int)<0))==false)),(idB ((decide ((k:Int)<0))==false)),(idB ((decide ((k:Int)<0))==false)),(idB ((decide ((k:Int)<0))==false)),(idB ((decide ((k:Int)<0))==false)),zs,(by simp;omega),((sBSolve (D:=D) (C:=C) (e:=e) (m:=m) (n:=n) (v:=v) hn hok hD H hw zo hv hx)).tag0 (b:=B 0),(rf (.one (bV 1 2 (luS n D n) n (some (B 0))):Hl)),(rf (cC C n:Hl)),(rf (.one (eE e n m):Hl)),(rf 0),(rf 0),(rf n),(leS (λi0=>.rat (v i0)) n),rfl,(rf (k:Int)),zo,zo,sRatZero (q:=(zH (basX n D v) e m) k),(decide_eq_false hz),(rf 0),(rf (k:Int)),(rf n),(leS (λi0=>.rat (v i0)) n),(rf n),(leS (λi0=>.rat ((zH (basX n D v) e m) i0)) n),(rf (some (B 0))),(rf 0),(rf n),(leS (mE (luS n D n).2.1 n) n),(rf n),(leS (mE ((luS n D n).1) n) n),(rf n),(leS (λi0=>iN ((luS n D n).2.2.1 i0)) n),(rf ((luS n D n).2.2.2.2:Bool)),(rf 0),(rf n),(leS (mE C n) n),(rf m),(leS (λi0=>.agg (c2 (iN ((e i0).1)) (vE (e i0).2 n))) m),(xX (n:=n) (q:=v) zo).frzV,(rf (k:Int)),zo,zo,⟨rfl,(λj0 hj0=>(by rw[setC_self]))⟩,(λt ht hne=>by simp only[setC_ne hne]),zo,(λj0 hj0=>by simp only[setE_ne (Nat.ne_of_lt hj0)]),(λj0 hj0=>by obtain rfl:j0=0:=zo;simp[setE_self]),(by simp;omega),((sBFactor (D:=D) (C:=(setC C k v)) (e:=(setE e m k (zH (basX n D v) e m))) (m:=m+1) (n:=n) hn hD2 hok2)).tag0 (b:=B 0),(rf (.one (bV 1 3 (luS n D n) n (some (B 0))):Hl)),(rf (cC (setC C k v) n:Hl)),(rf (.one (eE (setE e m k (zH (basX n D v) e m)) n (m+1)):Hl)),(rf 0),(rf 0),rfl,(rf (some (B 0))),(rf 0),(rf n),(leS (mE (luS n (trM (setC C k v)) n).2.1 n) n),(rf n),(leS (mE ((luS n (trM (setC C k v)) n).1) n) n),(rf n),(leS (λi0=>iN ((luS n (trM (setC C k v)) n).2.2.1 i0)) n),(rf ((luS n (trM (setC C k v)) n).2.2.2.2:Bool)),(rf 0),(rf n),(leS (mE (setC C k v) n) n),(rf 0)⟩)
open Go.RowKit
theorem dB3:∀n,n<=5->dB 3 n<=1951
 | 0,_=>by decide
 | 1,_ | 2,_ | 3,_ | 4,_ | 5,_=>by decide
 | n+6,h=>by omega
theorem sol_ht{n:Nat}{A:Nat->Nat->Rat}{b x:Nat->Rat}(hn:n<=5)(hA:HtB n n 3 A)(hb:∀i,i<n->htq (b i)<=3)(hd:cdet n A≠0)(h:∀r,r<n->sumQ (λj=>A r j*x j) n=b r):∀j,j<n->htq (x j)<=3910:=λj hj=>by
 have hd':det n A≠0:=by rw[xS];exact hd
 rw[←cram_div hd' h hj]
 have h1:=(det_ht n (E:=3) (q:=A) λi hi k hk=>by have:=hA i hi k hk;omega).1
 have h2:=(det_ht n (E:=3) (q:=putC A j b) λi hi k hk=>by
  unfold putC
  split
  ·exact hb i hi
  ·have:=hA i hi k hk;omega).1
 have h3:=ht_div (det n (putC A j b)) (det n A)
 have h4:=dB3 n hn
 omega
theorem dot_sumB(a b:Nat->Rat):∀n,dotQ a b n=sumQ (λi=>a i*b i) n
 | 0=>rfl
 | n+1=>by show dotQ a b n+a n*b n=sumQ _ n+a n*b n;rw[dot_sumB a b n]
theorem sum_ht{a b:Nat->Rat}{S T:Nat}(n:Nat)(ha:∀i,i<n->htq (a i)<=S)(hb:∀i,i<n->htq (b i)<=T):htq (sumQ (λi=>a i*b i) n)<=n*(S+T+1)+1:=by
 rw[←dot_sumB];exact ht_dot n ha hb
theorem sz3{n:Nat}{A:Nat->Nat->Rat}(h:HtB n n 3 A):∀i,i<n->∀j,j<n->szq (A i j)<=4:=λi hi j hj=>by
 have:=h i hi j hj
 have:=jC (A i j)
 omega
theorem HtB.tr{n B:Nat}{A:Nat->Nat->Rat}(h:HtB n n B A):HtB n n B (trM A):=λi hi j hj=>h j hj i hi
structure BOK (n:Nat) (D C:Nat->Nat->Rat) (e:Etas) (m:Nat):Prop where
 ok:luOK n D n
 H:EtaOK n e m
 hm:m<=8
 ht:∀t,t<=m->HtB n n 3 (etaM n D e t)
 is:∀c,c<n->∀r,r<n->C c r=etaM n D e m r c
 w:∀t,t<m->∀j,j<n->htq ((e t).2 j)<=4000
section
variable {n m:Nat} {D C:Nat->Nat->Rat} {e:Etas} {v:Nat->Rat}
theorem BOK.hD(h:BOK n D C e m):HtB n n 3 D:=h.ht 0 (Nat.zero_le _)
theorem BOK.det(h:BOK n D C e m){t:Nat}(ht:t<=m):cdet n (etaM n D e t)≠0:=etaM_det h.H (by rw[←xS];exact lu_det_ne (sz3 h.hD) h.ok) t ht
theorem BOK.detC(h:BOK n D C e m):cdet n (trM C)≠0:=by
 rw[yY n (A:=trM C) λi hi j hj=>h.is j hj i hi]
 exact h.det (Nat.le_refl m)
theorem BOK.step(h:BOK n D C e m)(v:Nat->Rat){t:Nat}(ht:t<=m){r:Nat}(hr:r<n):sumQ (λj=>etaM n D e t r j*zH (basX n D v) e t j) n=v r:=
 (etaXs_ok h.H (basX n D v) r t ht).trans (lu_solves h.ok hr)
theorem BOK.x(h:BOK n D C e m)(hn:n<=5)(hv:∀j,j<n->htq (v j)<=3):∀t,t<=m->∀j,j<n->htq (zH (basX n D v) e t j)<=4000:=λt ht j hj=>
 Nat.le_trans (sol_ht hn (h.ht t ht) hv (h.det ht) (λr hr=>h.step v ht hr) j hj) zd
theorem BOK.sol(h:BOK n D C e m)(v:Nat->Rat){r:Nat}(hr:r<n):sumQ (λj=>C j r*zH (basX n D v) e m j) n=v r:=by
 rw[←h.step v (Nat.le_refl m) hr]
 exact zG n λj hj=>by rw[h.is j hj r hr]
theorem BOK.back(h:BOK n D C e m)(v:Nat->Rat){t:Nat}(ht:t<=m){j:Nat}(hj:j<n):rowM n (etaM n D e t) (basY n D (zU n m v e m)) j=zU n m v e (m-t) j:=
 etaZs_back h.H (λ_ hj=>lu_solvesT h.ok hj) t ht j hj
theorem BOK.rowS(h:BOK n D C e m)(v:Nat->Rat){j:Nat}(hj:j<n):sumQ (λi=>basY n D (zU n m v e m) i*C j i) n=v j:=by
 have h1:=h.back v (Nat.le_refl m) hj
 rw[Nat.sub_self] at h1
 refine Eq.trans (zG n λi hi=>by rw[h.is j hj i hi]) h1
theorem BOK.y(h:BOK n D C e m)(hn:n<=5)(hv:∀j,j<n->htq (v j)<=3):∀j,j<n->htq (basY n D (zU n m v e m) j)<=3910:=
 sol_ht hn (HtB.tr (h.ht m (Nat.le_refl m))) hv (by rw[cdet_trM];exact h.det (Nat.le_refl m)) λr hr=>by
  have h1:=h.back v (Nat.le_refl m) hr
  rw[Nat.sub_self] at h1
  refine Eq.trans (zG n λi hi=>?_) h1
  show etaM n D e m i r*_=_*etaM n D e m i r
  grind
theorem BOK.z(h:BOK n D C e m)(hn:n<=5)(hv:∀j,j<n->htq (v j)<=3):∀t,t<=m->∀j,j<n->htq (zU n m v e t j)<=20000:=λt ht j hj=>by
 have h1:=h.back v (t:=m-t) zo hj
 rw[show m-(m-t)=t by omega] at h1
 rw[←h1]
 have h2:=sum_ht n (h.y hn hv) (b:=λi=>etaM n D e (m-t) i j) (T:=3) λi hi=>by
  have:=h.ht (m-t) zo i hi j hj
  omega
 exact Nat.le_trans h2 (Nat.le_trans (Nat.succ_le_succ (Nat.mul_le_mul_right _ hn)) zd)
theorem BOK.fresh{e:Etas}(hn:luOK n (trM C) n)(hC:HtB n n 3 (trM C)):BOK n (trM C) C e 0:=
 ⟨hn,⟨λt ht=>absurd ht (Nat.not_lt_zero t),λt ht=>absurd ht (Nat.not_lt_zero t)⟩,by omega,λt ht=>by rw[Nat.le_zero.1 ht];exact hC,λc _ r _=>rfl,λt ht=>absurd ht (Nat.not_lt_zero t)⟩
theorem luOK_of{A:Nat->Nat->Rat}(hA:HtB n n 3 A)(hd:cdet n A≠0):luOK n A n:=(lu_or (sz3 hA) n (Nat.le_refl n)).resolve_right hd
variable {k:Nat}
theorem BOK.mul(h:BOK n D C e m)(v:Nat->Rat){r:Nat}(hr:r<n):mulV n (etaM n D e m) (zH (basX n D v) e m) r=v r:=h.step v (Nat.le_refl m) hr
theorem BOK.htC(h:BOK n D C e m)(hv:∀j,j<n->htq (v j)<=2):HtB n n 3 (trM (setC C k v)):=λi hi j hj=>by
 show htq (setC C k v j i)+1<=3
 by_cases e1:j=k
 ·rw[e1,setC_self];have:=hv i hi;omega
 ·rw[setC_ne e1,h.is j hj i hi];exact h.ht m (Nat.le_refl m) i hi j hj
theorem BOK.setI(h:BOK n D C e m){i j:Nat}(hi:i<n)(hj:j<n):setC C k v j i=putC (etaM n D e m) k (mulV n (etaM n D e m) (zH (basX n D v) e m)) i j:=by
 by_cases e1:j=k
 ·rw[e1,setC_self,putC_self,h.mul v hi]
 ·rw[setC_ne e1,putC_ne e1,h.is j hj i hi]
theorem BOK.detS(h:BOK n D C e m)(hk:k<n):cdet n (trM (setC C k v))=zH (basX n D v) e m k*cdet n (trM C):=by
 rw[yY n (A:=trM (setC C k v)) λi hi j hj=>h.setI hi hj,cramer (A:=etaM n D e m) (b:=mulV n (etaM n D e m) (zH (basX n D v) e m)) (x:=zH (basX n D v) e m) (λr _=>rfl) hk,
  yY n (A:=trM C) λi hi j hj=>h.is j hj i hi]
theorem BOK.put(h:BOK n D C e m)(hn:n<=5)(hk:k<n)(hv:∀j,j<n->htq (v j)<=2)(hz:zH (basX n D v) e m k≠0)(hm:m<8):BOK n D (setC C k v) (setE e m k (zH (basX n D v) e m)) (m+1):=by
 have hc:∀t,t<=m->etaM n D (setE e m k (zH (basX n D v) e m)) t=etaM n D e t:=λt ht=>etaM_cong t λi hi=>setE_ne zo
 have hl:etaM n D (setE e m k (zH (basX n D v) e m)) (m+1)=putC (etaM n D e m) k (mulV n (etaM n D e m) (zH (basX n D v) e m)):=by
  show putC (etaM n D _ m) (setE e m k _ m).1 (mulV n (etaM n D _ m) (setE e m k _ m).2)=_
  rw[hc m (Nat.le_refl m),setE_self]
 refine⟨h.ok,⟨λt ht=>?_,λt ht=>?_⟩,by omega,λt ht=>?_,λc hc2 r hr=>?_,λt ht j hj=>?_⟩
 ·by_cases e1:t=m
  ·rw[e1,setE_self];exact hk
  ·rw[setE_ne e1];exact h.H.at_ t zo
 ·by_cases e1:t=m
  ·rw[e1,setE_self];exact hz
  ·rw[setE_ne e1];exact h.H.ne t zo
 ·by_cases e1:t=m+1
  ·rw[e1,hl]
   intro i hi j hj
   rw[←h.setI hi hj]
   exact h.htC hv i hi j hj
  ·rw[hc t zo];exact h.ht t zo
 ·rw[hl];exact h.setI hr hc2
 ·by_cases e1:t=m
  ·rw[e1,setE_self];exact h.x hn (λj hj=>Nat.le_trans (hv j hj) zd) m (Nat.le_refl m) j hj
  ·rw[setE_ne e1];exact h.w t zo j hj
theorem BOK.anew(h:BOK n D C e m)(hk:k<n)(hv:∀j,j<n->htq (v j)<=2)(hz:zH (basX n D v) e m k≠0):luOK n (trM (setC C k v)) n:=
 luOK_of (h.htC hv) (by rw[h.detS hk];exact rat_mul_ne hz h.detC)
end
open Go.RowKit
structure BS where
 D:Nat->Nat->Rat
 C:Nat->Nat->Rat
 e:Etas
 m:Nat
abbrev BSK (n:Nat) (s:BS):Prop:=BOK n s.D s.C s.e s.m
def repN (n:Nat) (s:BS) (k:Int) (v:Nat->Rat) (l:Nat):Int:=if k<0∨(n:Int)<=k then 1 else if l≠n then 2 else if zH (basX n s.D v) s.e s.m k.toNat=0 then 140 else 0
def repS (n:Nat) (s:BS) (k:Int) (v:Nat->Rat) (l:Nat):BS:=
 if repN n s k v l=0 then if s.m<8 then⟨s.D,setC s.C k.toNat v,setE s.e s.m k.toNat (zH (basX n s.D v) s.e s.m),s.m+1⟩ else⟨trM (setC s.C k.toNat v),setC s.C k.toNat v,s.e,0⟩ else s
section
variable {n l:Nat} {s:BS} {k:Int} {v:Nat->Rat}
theorem repN_arg(h:k<0∨(n:Int)<=k):repN n s k v l=1:=if_pos h
theorem repN_len(h:¬(k<0∨(n:Int)<=k))(hl:l≠n):repN n s k v l=2:=by unfold repN;rw[if_neg h,if_pos hl]
theorem repN_zero(h:¬(k<0∨(n:Int)<=k))(hl:¬l≠n)(hz:zH (basX n s.D v) s.e s.m k.toNat=0):repN n s k v l=140:=by unfold repN;rw[if_neg h,if_neg hl,if_pos hz]
theorem repN_ok(h:¬(k<0∨(n:Int)<=k))(hl:¬l≠n)(hz:zH (basX n s.D v) s.e s.m k.toNat≠0):repN n s k v l=0:=by unfold repN;rw[if_neg h,if_neg hl,if_neg hz]
theorem repN_ok'(h:repN n s k v l=0):¬(k<0∨(n:Int)<=k)/\l=n/\zH (basX n s.D v) s.e s.m k.toNat≠0:=by
 unfold repN at h
 split at h
 ·cases h
 ·split at h
  ·cases h
  ·split at h
   ·cases h
   ·rename_i h1 h2 h3
    exact⟨h1,Classical.not_not.1 h2,h3⟩
theorem repS_no(h:repN n s k v l≠0):repS n s k v l=s:=if_neg h
theorem repS_put(h:repN n s k v l=0)(hm:s.m<8):repS n s k v l=⟨s.D,setC s.C k.toNat v,setE s.e s.m k.toNat (zH (basX n s.D v) s.e s.m),s.m+1⟩:=by unfold repS;rw[if_pos h,if_pos hm]
theorem repS_new(h:repN n s k v l=0)(hm:¬s.m<8):repS n s k v l=⟨trM (setC s.C k.toNat v),setC s.C k.toNat v,s.e,0⟩:=by unfold repS;rw[if_pos h,if_neg hm]
theorem repS_ok(h:BSK n s)(hn:n<=5)(hv:∀j,j<n->htq (v j)<=2):BSK n (repS n s k v l):=by
 by_cases h0:repN n s k v l=0
 ·obtain⟨h1,h2,h3⟩:=repN_ok' h0
  by_cases hm:s.m<8
  ·rw[repS_put h0 hm];exact h.put hn zo hv h3 hm
  ·rw[repS_new h0 hm];exact .fresh (h.anew zo hv h3) (h.htC hv)
 ·rw[repS_no h0];exact h
theorem CallOKm.res{P:Program}{f:FuncId}{ins outs:List Hl}{A:List SV}{R R':SV}(h:CallOKm P f ins A R outs)(hR:∀η A w v,R.R η A w v->R'.R η A w v):CallOKm P f ins A R' outs:=
 ⟨h.cal,λη0 M F w vals H hA=>(h.run η0 M F w vals H hA).mono λ_ _ ⟨v,η,e1,hp,hr,hx⟩=>⟨v,η,e1,hp,hR _ _ _ _ hr,hx⟩⟩
theorem alt_no{c:Bool}{a b:SV}{η:Eta}{A:Nat->Prop}{w:World}{u:Value}(hc:c=false)(h:b.R η A w u):(SV.alt c a b).R η A w u:=⟨λe=>(by rw[hc] at e;cases e),λ_=>h⟩
theorem alt_yes{c:Bool}{a b:SV}{η:Eta}{A:Nat->Prop}{w:World}{u:Value}(hc:c=true)(h:a.R η A w u):(SV.alt c a b).R η A w u:=⟨λ_=>h,λe=>(by rw[hc] at e;cases e)⟩
theorem sBReplaceT(hK:BSK n s)(hn:n<=5)(hv:l=n->∀j,j<n->htq (v j)<=2):CallOKm Tryz.prog 22 [.one (bV 1 2 (luS n s.D n) n),cC s.C n,.one (eE s.e n s.m)] [.own 0 0,.ex (.int .i64 k),.sl 3 (λi0=>.rat (v i0)) l] (.alt (decide (repN n s k v l=0)) (.ex (.nilIface)) (.ifc 113 (.ep (.agg (c3 (.ex (.string sCol)) (.ex (.int .i64 k)) (.ex (.iface 63 (.int .i64 (repN n s k v l))))))))) [.one (bV 3 4 (luS n (repS n s k v l).D n) n),.dead,.dead,.one (.row 33 1 (mE (repS n s k v l).C n) n),.one (eE (repS n s k v l).e n ((repS n s k v l).m))]:=by
 by_cases h1:k<0∨(n:Int)<=k
 ·have e:=repN_arg (s:=s) (v:=v) (l:=l) h1
  rw[repS_no (by rw[e];decide)]
  exact(sBReplace_arg h1).res λη A w u h=>alt_no (by rw[e];rfl) (by rw[e];exact h)
 ·obtain⟨kk,rfl⟩:∃kk:Nat,k=(kk:Int):=⟨k.toNat,by omega⟩
  by_cases h2:l≠n
  ·have e:=repN_len (s:=s) (v:=v) h1 h2
   rw[repS_no (by rw[e];decide)]
   exact(sBReplace_len zo h2).res λη A w u h=>alt_no (by rw[e];rfl) (by rw[e];exact h)
  ·have hl:l=n:=Classical.not_not.1 h2
   subst hl
   have hv:=hv rfl
   have hv3:∀j,j<l->htq (v j)<=3:=λj hj=>Nat.le_trans (hv j hj) zd
   have hk:kk<l:=by omega
   by_cases h3:zH (basX l s.D v) s.e s.m kk=0
   ·have e:=repN_zero (s:=s) (v:=v) h1 h2 h3
    rw[repS_no (by rw[e];decide)]
    exact(sBReplace_sing zo hK.ok hK.hD hK.H hK.w hK.hm hv3 (hK.x hn hv3) hk h3).res λη A w u h=>alt_no (by rw[e];rfl) (by rw[e];exact h)
   ·have e:=repN_ok (s:=s) (v:=v) h1 h2 h3
    by_cases hm:s.m<8
    ·rw[repS_put e hm]
     exact(sBReplace zo hK.ok hK.hD hK.H hK.w hK.hm hv3 (hK.x hn hv3) hk h3 hm).res λη A w u h=>alt_yes (decide_eq_true e) h
    ·have h8:=hK.hm
     rw[repS_new e hm]
     exact(sBReplace_new zo hK.ok hK.hD hK.H hK.w hv3 (hK.x hn hv3) hk h3 zo (hK.htC hv) (hK.anew hk hv h3)).res λη A w u h=>alt_yes (decide_eq_true e) h
end
open Go.RowKit
theorem sBSolveT{D C:Nat->Nat->Rat}{e:Etas}{n m:Nat}{v:Nat->Rat}(hn:n<=6)(hok:luOK n D n)(hD:HtB n n 3 D)(H:EtaOK n e m)(hw:∀t,t<m->∀j,j<n->htq ((e t).2 j)<=4000)(hm:m<=64)(hz:∀t,t<=m->∀j,j<n->htq (zU n m v e t j)<=20000):CallOKm Tryz.prog 18 [.one (bV 1 2 (luS n D n) n),cC C n,.one (eE e n m)] [.own 0 0,.sl 3 (λi0=>.rat (v i0)) n] (c2 (.sl 3 (λi0=>.rat (basY n D (zU n m v e m) i0)) n) (bX true)) [.one (bV 3 4 (luS n D n) n),.dead,.dead,cC C n,.one (eE e n m)]:=by
 exact zZ (ch:=λB=>[.dec 17 false,.reg 3 [(1,.callS (.own 0 0) [.one (.row 47 3 (λi0=>.rat (v i0)) n)])],.conv 4 [(0,.id 0),(1,.id 1),(2,.id 2),(3,.id 3)] ⟨[(0,.own 0 0),(6,.own 3 0)],[(0,.one (bV 1 2 (luS n D n) n (some (B 0)))),(1,cC C n),(2,.one (eE e n m)),(3,.one (.row 47 3 (λi0=>.rat ((zU n m v e 0) i0)) n))],4⟩,.reg 4 [(5,.z ((m:Int)-1-((0:Nat):Int)))],.loop 5 (Nat) (λg=>g<=m) (λg=>m-g) (λg=>⟨[(0,.own 0 0),(6,.own 3 0),(7,iZ ((m:Int)-1-(g:Int)))],[(0,.one (bV 1 2 (luS n D n) n (some (B 0)))),(1,cC C n),(2,.one (eE e n m)),(3,.one (.row 47 3 (λi0=>.rat ((zU n m v e g) i0)) n))],4⟩) [(0,.id 0),(1,.id 1),(2,.id 2),(3,.id 3)] (λ_=>[(0,.id 0),(1,.id 1),(2,.id 2),(3,.id 3)]) (λg=>[.reg 7 [(5,.k (m-1-g))],.loop 9 (Nat) (λh=>h<=n) (λh=>n-h) (λh=>⟨[(0,.own 0 0),(6,.own 3 0),(7,iZ ((m:Int)-1-(g:Int))),(8,.own 4 0),(38,iN n),(39,iN h)],[(0,.one (bV 1 2 (luS n D n) n (some (B 0)))),(1,cC C n),(2,.one (eE e n m)),(3,.one (.row 47 3 (λi0=>.rat (etaJ (e (m-1-g)).1 (e (m-1-g)).2 (zU n m v e g) h i0)) n)),(4,.one (.var 108 (.agg (c2 (iN ((e (m-1-g)).1)) (vE (e (m-1-g)).2 n)))))],5⟩) [(0,.id 0),(1,.id 1),(2,.id 2),(3,.id 3),(4,.id 4)] (λ_=>[(0,.id 0),(1,.id 1),(2,.id 2),(3,.id 3),(4,.id 4)]) (λh=>[.reg 12 [(6,.k ((e (m-1-g)).1)),(11,.k h),(15,.k h),(17,.callS (.rat (((e (m-1-g)).2 h)*(etaJ (e (m-1-g)).1 (e (m-1-g)).2 (zU n m v e g) h h))) []),(18,.callS (.rat ((etaJ (e (m-1-g)).1 (e (m-1-g)).2 (zU n m v e g) h ((e (m-1-g)).1))-(((e (m-1-g)).2 h)*(etaJ (e (m-1-g)).1 (e (m-1-g)).2 (zU n m v e g) h h)))) []),(19,.k ((e (m-1-g)).1)),(20,.row 0 (λi0=>.rat (etaJ (e (m-1-g)).1 (e (m-1-g)).2 (zU n m v e g) (h+1) i0)))],.reg 13 [(0,.z ((h+1:Nat):Int))],.reg 13 [(0,.z ((h+1:Nat):Int))],.reg 14 [(6,.k ((e (m-1-g)).1)),(12,.k ((e (m-1-g)).1)),(14,.callS (c2 (.rat ((etaJ (e (m-1-g)).1 (e (m-1-g)).2 (zU n m v e g) h ((e (m-1-g)).1))/((e (m-1-g)).2 ((e (m-1-g)).1)))) (bX (!decide (((e (m-1-g)).2 ((e (m-1-g)).1))=0)))) []),(18,.k ((e (m-1-g)).1)),(19,.row 0 (λi0=>.rat (etaZ n (e (m-1-g)).1 (e (m-1-g)).2 (zU n m v e g) i0)))],.reg 6 [(1,.z ((m:Int)-1-((g+1:Nat):Int)))]]),.conv 15 [(0,.id 0),(1,.id 1),(2,.id 2)] ⟨[(0,.own 0 0),(6,.sl 3 (λi0=>.rat ((zU n m v e m) i0)) n)],[(0,.one (bV 1 2 (luS n D n) n (some (B 0)))),(1,cC C n),(2,.one (eE e n m))],3⟩,.reg 15 [(5,.callS (c2 (.sl 3 (λi0=>.rat (luW n (luS n D n).1 (luS n D n).2.1 (zU n m v e m) ((luS n D n).2.2.2.1 i0))) n) (bX true)) [])],.ret 15 [(0,.id 0),(3,.id 1),(4,.id 2)]])]) hMix Tryz.func18 rfl zk zk zk (λB=>((!decide ((n:Int)=(n:Int)))=false)/\_/\_/\_/\_/\_/\_/\_/\_/\_/\_/\_/\_/\_/\_/\_/\_/\_/\_/\(∀j0,j0<n->((v j0:Rat)=((zU n m v e 0) j0)))/\(IntKind.wrap .i64 ((m:Int)-1)=((m:Int)-1-((0:Nat):Int)))/\(((λX1 X2 X3 X4 X5 X6 X7 X8 X9 X10 X11 X12 X13 X14 X15 X16 X17:Prop=>∃g0:Nat,X1/\X2/\(((m:Int)-1-((0:Nat):Int):Int)=((m:Int)-1-(g0:Int)))/\X3/\X4/\X5/\X6/\X7/\X8/\X9/\X10/\X11/\X12/\X13/\X14/\X15/\X16/\X17/\(∀j0,j0<n->(((zU n m v e 0) j0:Rat)=((zU n m v e g0) j0)))/\(g0<=m)) _ _ _ _ _ _ _ _ _ _ _ _ _ _ _ _ _)/\∀g:Nat,(g<=m)->(((decide ((0:Int)<=((m:Int)-1-(g:Int))))=true->(((m:Int)-1-(g:Int):Int)=((m-1-g:Nat):Int))/\((m-1-g)<m)/\((m-1-g)<m)/\(((λX1 X2 X3 X4 X5 X6 X7 X8 X9 X10 X11 X12 X13 X14 X15 X16 X17 X18 X19 X20 X21 X22 X23:Prop=>∃h0:Nat,X1/\X2/\X3/\X4/\X5/\((0:Int)=(h0:Int))/\X6/\X7/\X8/\X9/\X10/\X11/\X12/\X13/\X14/\X15/\X16/\X17/\X18/\X19/\X20/\(∀j0,j0<n->(((zU n m v e g) j0:Rat)=(etaJ (e (m-1-g)).1 (e (m-1-g)).2 (zU n m v e g) h0 j0)))/\X21/\X22/\X23/\(h0<=n)) _ _ _ _ _ _ _ _ _ _ _ _ _ _ _ _ _ _ _ _ _ _ _)/\∀h:Nat,(h<=n)->(((decide ((h:Int)<(n:Int)))=true->(((!decide ((h:Int)=(((e (m-1-g)).1:Nat):Int)))=true->_/\(((e (m-1-g)).1)<n)/\(((e (m-1-g)).1)<n)/\_/\(h<n)/\_/\(h<n)/\(h<n)/\_/\_/\_/\(((e (m-1-g)).1)<n)/\(((e (m-1-g)).1)<n)/\((((etaJ (e (m-1-g)).1 (e (m-1-g)).2 (zU n m v e g) h ((e (m-1-g)).1))-(((e (m-1-g)).2 h)*(etaJ (e (m-1-g)).1 (e (m-1-g)).2 (zU n m v e g) h h)):Rat)=(etaJ (e (m-1-g)).1 (e (m-1-g)).2 (zU n m v e g) (h+1) ((e (m-1-g)).1))))/\(∀t,t<n->t≠((e (m-1-g)).1)->(.rat (etaJ (e (m-1-g)).1 (e (m-1-g)).2 (zU n m v e g) (h+1) t):SV)=.rat (etaJ (e (m-1-g)).1 (e (m-1-g)).2 (zU n m v e g) h t))/\_/\((λX1 X2 X3 X4 X5 X6 X7 X8 X9 X10 X11 X12 X13 X14 X15 X16 X17 X18 X19 X20 X21 X22 X23:Prop=>∃h1:Nat,X1/\X2/\X3/\X4/\X5/\(((h+1:Nat):Int)=(h1:Int))/\X6/\X7/\X8/\X9/\X10/\X11/\X12/\X13/\X14/\X15/\X16/\X17/\X18/\X19/\X20/\(∀j0,j0<n->((etaJ (e (m-1-g)).1 (e (m-1-g)).2 (zU n m v e g) (h+1) j0:Rat)=(etaJ (e (m-1-g)).1 (e (m-1-g)).2 (zU n m v e g) h1 j0)))/\X21/\X22/\X23/\(h1<=n)/\(n-h1<n-h)) _ _ _ _ _ _ _ _ _ _ _ _ _ _ _ _ _ _ _ _ _ _ _))/\((!decide ((h:Int)=(((e (m-1-g)).1:Nat):Int)))=false->_/\((λX1 X2 X3 X4 X5 X6 X7 X8 X9 X10 X11 X12 X13 X14 X15 X16 X17 X18 X19 X20 X21 X22 X23:Prop=>∃h1:Nat,X1/\X2/\X3/\X4/\X5/\(((h+1:Nat):Int)=(h1:Int))/\X6/\X7/\X8/\X9/\X10/\X11/\X12/\X13/\X14/\X15/\X16/\X17/\X18/\X19/\X20/\(∀j0,j0<n->((etaJ (e (m-1-g)).1 (e (m-1-g)).2 (zU n m v e g) h j0:Rat)=(etaJ (e (m-1-g)).1 (e (m-1-g)).2 (zU n m v e g) h1 j0)))/\X21/\X22/\X23/\(h1<=n)/\(n-h1<n-h)) _ _ _ _ _ _ _ _ _ _ _ _ _ _ _ _ _ _ _ _ _ _ _))))/\((decide ((h:Int)<(n:Int)))=false->_/\(((e (m-1-g)).1)<n)/\(((e (m-1-g)).1)<n)/\_/\(((e (m-1-g)).1)<n)/\_/\_/\(((e (m-1-g)).1)<n)/\(((e (m-1-g)).1)<n)/\((((etaJ (e (m-1-g)).1 (e (m-1-g)).2 (zU n m v e g) h ((e (m-1-g)).1))/((e (m-1-g)).2 ((e (m-1-g)).1)):Rat)=(etaZ n (e (m-1-g)).1 (e (m-1-g)).2 (zU n m v e g) ((e (m-1-g)).1))))/\(∀t,t<n->t≠((e (m-1-g)).1)->(.rat (etaZ n (e (m-1-g)).1 (e (m-1-g)).2 (zU n m v e g) t):SV)=.rat (etaJ (e (m-1-g)).1 (e (m-1-g)).2 (zU n m v e g) h t))/\(IntKind.wrap .i64 (((m:Int)-1-(g:Int):Int)-1)=((m:Int)-1-((g+1:Nat):Int)))/\((λX1 X2 X3 X4 X5 X6 X7 X8 X9 X10 X11 X12 X13 X14 X15 X16 X17:Prop=>∃g1:Nat,X1/\X2/\(((m:Int)-1-((g+1:Nat):Int):Int)=((m:Int)-1-(g1:Int)))/\X3/\X4/\X5/\X6/\X7/\X8/\X9/\X10/\X11/\X12/\X13/\X14/\X15/\X16/\X17/\(∀j0,j0<n->((etaZ n (e (m-1-g)).1 (e (m-1-g)).2 (zU n m v e g) j0:Rat)=((zU n m v e g1) j0)))/\(g1<=m)/\(m-g1<m-g)) _ _ _ _ _ _ _ _ _ _ _ _ _ _ _ _ _)))))/\((decide ((0:Int)<=((m:Int)-1-(g:Int))))=false->_/\_/\(∀j0,j0<n->(((zU n m v e g) j0:Rat)=((zU n m v e m) j0)))/\_/\_/\_/\_/\_/\_/\_/\_/\_/\_/\_/\_/\_/\_/\_/\(_/\(∀j0,j0<n->((luW n (luS n D n).1 (luS n D n).2.1 (zU n m v e m) ((luS n D n).2.2.2.1 j0):Rat)=(basY n D (zU n m v e m) j0)))/\_/\_/\_/\_/\_/\_/\_/\_/\_/\_/\_/\_/\_/\_/\_))))) (λB=>by kernel_rfl)
  (λB=>⟨zs,xX (n:=n) (q:=v) zo,(rf 0),(rf 0),(rf (some (B 0))),(rf 0),(rf n),(leS (mE (luS n D n).2.1 n) n),(rf n),(leS (mE ((luS n D n).1) n) n),(rf n),(leS (λi0=>iN ((luS n D n).2.2.1 i0)) n),(rf ((luS n D n).2.2.2.2:Bool)),(rf 0),(rf n),(leS (mE C n) n),(rf m),(leS (λi0=>.agg (c2 (iN ((e i0).1)) (vE (e i0).2 n))) m),(rf n),(λj0 hj0=>rfl),(by rw[IntKind.wrap_i64];omega),⟨0,(rf 0),(rf 0),zo,(rf (some (B 0))),(rf 0),(rf n),(leS (mE (luS n D n).2.1 n) n),(rf n),(leS (mE ((luS n D n).1) n) n),(rf n),(leS (λi0=>iN ((luS n D n).2.2.1 i0)) n),(rf ((luS n D n).2.2.2.2:Bool)),(rf 0),(rf n),(leS (mE C n) n),(rf m),(leS (λi0=>.agg (c2 (iN ((e i0).1)) (vE (e i0).2 n))) m),(rf n),(λj0 hj0=>rfl),zo⟩,λg hg=>⟨λhc27=>have hc27:=dT hc27;have hgm:g<m:=zo;have hk:=H.at_ (m-1-g) zo;have hw1:=hw (m-1-g) zo;have hz1:=hz g zo;have hdv:=etaP_div hz1 hw1 hk zo;⟨zo,zo,zo,⟨0,(rf 0),(rf 0),(rf ((m:Int)-1-(g:Int):Int)),(rf 0),(rf (n:Int)),zo,(rf (some (B 0))),(rf 0),(rf n),(leS (mE (luS n D n).2.1 n) n),(rf n),(leS (mE ((luS n D n).1) n) n),(rf n),(leS (λi0=>iN ((luS n D n).2.2.1 i0)) n),(rf ((luS n D n).2.2.2.2:Bool)),(rf 0),(rf n),(leS (mE C n) n),(rf m),(leS (λi0=>.agg (c2 (iN ((e i0).1)) (vE (e i0).2 n))) m),(rf n),(λj0 hj0=>etaJ_zero),(rf (((e (m-1-g)).1:Nat):Int)),(rf n),(leS (λi0=>.rat ((e (m-1-g)).2 i0)) n),zo⟩,λh hh=>⟨λhc40=>have hc40:=dT hc40;have hhn:h<n:=zo;⟨λhc45=>have hne:h≠(e (m-1-g)).1:=(by simp at hc45;omega);have hr:=etaP_room hz1 hw1 hk zo hhn hne;⟨(rf (((e (m-1-g)).1:Nat):Int)),zo,zo,(rf (h:Int)),zo,(rf (h:Int)),zo,zo,sRatMul (p:=(e (m-1-g)).2 h) (q:=etaJ (e (m-1-g)).1 (e (m-1-g)).2 (zU n m v e g) h h) hr.1,sRatSub (p:=etaJ (e (m-1-g)).1 (e (m-1-g)).2 (zU n m v e g) h ((e (m-1-g)).1)) (q:=((e (m-1-g)).2 h)*(etaJ (e (m-1-g)).1 (e (m-1-g)).2 (zU n m v e g) h h)) hr.2,(rf (((e (m-1-g)).1:Nat):Int)),zo,zo,(etaP_at hne),(λt ht hne2=>by rw[etaJ_ne hne2,etaJ_ne hne2]),(wI (g:=h) zo),h+1,(rf 0),(rf 0),(rf ((m:Int)-1-(g:Int):Int)),(rf 0),(rf (n:Int)),zo,(rf (some (B 0))),(rf 0),(rf n),(leS (mE (luS n D n).2.1 n) n),(rf n),(leS (mE ((luS n D n).1) n) n),(rf n),(leS (λi0=>iN ((luS n D n).2.2.1 i0)) n),(rf ((luS n D n).2.2.2.2:Bool)),(rf 0),(rf n),(leS (mE C n) n),(rf m),(leS (λi0=>.agg (c2 (iN ((e i0).1)) (vE (e i0).2 n))) m),(rf n),(λj0 hj0=>(by first | rfl | exact etaJ_skip hne)),(rf (((e (m-1-g)).1:Nat):Int)),(rf n),(leS (λi0=>.rat ((e (m-1-g)).2 i0)) n),zo,zo⟩,λhc45=>have hne:h=(e (m-1-g)).1:=(by simp at hc45;omega);⟨(wI (g:=h) zo),h+1,(rf 0),(rf 0),(rf ((m:Int)-1-(g:Int):Int)),(rf 0),(rf (n:Int)),zo,(rf (some (B 0))),(rf 0),(rf n),(leS (mE (luS n D n).2.1 n) n),(rf n),(leS (mE ((luS n D n).1) n) n),(rf n),(leS (λi0=>iN ((luS n D n).2.2.1 i0)) n),(rf ((luS n D n).2.2.2.2:Bool)),(rf 0),(rf n),(leS (mE C n) n),(rf m),(leS (λi0=>.agg (c2 (iN ((e i0).1)) (vE (e i0).2 n))) m),(rf n),(λj0 hj0=>(by first | rfl | exact etaJ_skip hne)),(rf (((e (m-1-g)).1:Nat):Int)),(rf n),(leS (λi0=>.rat ((e (m-1-g)).2 i0)) n),zo,zo⟩⟩,λhc40=>have hc40:=dF hc40;have hi3:h=n:=zo;⟨(rf (((e (m-1-g)).1:Nat):Int)),zo,zo,(rf (((e (m-1-g)).1:Nat):Int)),zo,sRatDiv (p:=etaJ (e (m-1-g)).1 (e (m-1-g)).2 (zU n m v e g) h ((e (m-1-g)).1)) (q:=(e (m-1-g)).2 ((e (m-1-g)).1)) (by rw[hi3];exact hdv),(rf (((e (m-1-g)).1:Nat):Int)),zo,zo,(by rw[hi3];exact etaJ_div),(λt ht hne2=>by rw[hi3,etaJ_all hne2]),(by rw[IntKind.wrap_i64];omega),g+1,(rf 0),(rf 0),zo,(rf (some (B 0))),(rf 0),(rf n),(leS (mE (luS n D n).2.1 n) n),(rf n),(leS (mE ((luS n D n).1) n) n),(rf n),(leS (λi0=>iN ((luS n D n).2.2.1 i0)) n),(rf ((luS n D n).2.2.2.2:Bool)),(rf 0),(rf n),(leS (mE C n) n),(rf m),(leS (λi0=>.agg (c2 (iN ((e i0).1)) (vE (e i0).2 n))) m),(rf n),(λj0 hj0=>rfl),zo,zo⟩⟩⟩,λhc27=>have hc27:=dF hc27;have hi2:g=m:=zo;⟨(rf 0),(rf n),(λj0 hj0=>(by rw[hi2])),(rf (some (B 0))),(rf 0),(rf n),(leS (mE (luS n D n).2.1 n) n),(rf n),(leS (mE ((luS n D n).1) n) n),(rf n),(leS (λi0=>iN ((luS n D n).2.2.1 i0)) n),(rf ((luS n D n).2.2.2.2:Bool)),(rf 0),(rf n),(leS (mE C n) n),(rf m),(leS (λi0=>.agg (c2 (iN ((e i0).1)) (vE (e i0).2 n))) m),(sLuSolveT (U:=(luS n D n).1) (L:=(luS n D n).2.1) (P:=(luS n D n).2.2.1) (o:=(luS n D n).2.2.2.2) (n:=n) (b:=(zU n m v e m)) (ρ:=(luS n D n).2.2.2.1) hn (lu_bij n (Nat.le_refl n) hok) (lu_hL hD hn hok) (lu_hU hD hn hok) (λj hj=>Nat.le_trans (hz m (Nat.le_refl m) j hj) zd)).frzV2,(rf n),(λj0 hj0=>rfl),(rf (true:Bool)),(rf (some (B 0))),(rf 0),(rf n),(leS (mE (luS n D n).2.1 n) n),(rf n),(leS (mE ((luS n D n).1) n) n),(rf n),(leS (λi0=>iN ((luS n D n).2.2.1 i0)) n),(rf ((luS n D n).2.2.2.2:Bool)),(rf 0),(rf n),(leS (mE C n) n),(rf m),(leS (λi0=>.agg (c2 (iN ((e i0).1)) (vE (e i0).2 n))) m)⟩⟩⟩)
open Go.RowKit
def yD (n:Nat) (C:Nat->Nat->Rat) (w v:Nat->Rat) (k r:Nat):Rat:=if k<n then if r<n then C k r else w k else v r
section
variable {n k r:Nat} {C:Nat->Nat->Rat} {w v:Nat->Rat}
theorem growC_in(hk:k<n)(hr:r<n):yD n C w v k r=C k r:=by unfold yD;rw[if_pos hk,if_pos hr]
theorem growC_row(hk:k<n)(hr:n<=r):yD n C w v k r=w k:=by unfold yD;rw[if_pos hk,if_neg zo]
theorem growC_col(hk:n<=k):yD n C w v k r=v r:=by unfold yD;rw[if_neg zo]
end
theorem sBNewM{C:Nat->Nat->Rat}{e:Etas}{n:Nat}(hn:n<=6)(hD:HtB n n 3 (trM C))(hok:luOK n (trM C) n):CallOKm Tryz.prog 13 [cC C n] [.own 0 0] (c2 (.own 1 0) (.ex (.nilIface))) [.dead,.one (bV 2 3 (luS n (trM C) n) n),cC C n,.one (eE e n 0)]:=by
 exact zZ (ch:=λB=>[.loop 3 (Nat) (λg=>g<=n) (λg=>n-g) (λg=>⟨[(0,.own 0 0),(4,.own 1 0),(9,.own 0 0),(10,iN n),(11,iN g)],[(0,cC C n),(1,.one (.var 100 (.agg (c3 (.own 2 0) (.ex (.pointer none)) (.ex sN))))),(2,.one (.row 33 1 (mE C n) g))],3⟩) [(0,.id 0),(1,.id 1),(2,.nil)] (λ_=>[(0,.id 0),(1,.id 1),(2,.id 3)]) (λg=>[.reg 4 [(1,.k g)],.dec 25 false,.reg 7 [(6,.callS (.sl 3 (λi0=>.rat (C g i0)) n) []),(8,.row 0 (mE C n))],.reg 8 [(0,.z ((g+1:Nat):Int))],.conv 9 [(0,.id 1),(1,.id 2)] ⟨[(4,.own 0 0)],[(0,.one (.var 100 (.agg (c3 (.own 1 0) (.ex (.pointer none)) (.ex sN))))),(1,cC C n)],2⟩,.reg 9 [(1,.callM [0,1] [.one (.var 100 (.agg (c3 (.own 1 0) (.ex (.pointer none)) (.ex sN)))),cC C n] [.own 0 0] (bX true) [.one (.var 100 (.agg (c3 (.own 2 0) (.ep (lvE (luS n (trM C) n) n)) (.ex sN)))),.dead,cC C n])],.dec 43 false,.ret 11 [(1,.id 0),(2,.id 2),(3,.nil)]])]) hMix Tryz.func13 rfl zk zk zk (λB=>(((λX1 X2 X3 X4 X5 X6 X7:Prop=>∃g0:Nat,X1/\X2/\X3/\X4/\((0:Int)=(g0:Int))/\X5/\X6/\X7/\((.pointer none:Value)=.pointer none)/\((g0:Nat)=0)/\(g0<=n)) _ _ _ _ _ _ _)/\∀g:Nat,(g<=n)->(((decide ((g:Int)<(n:Int)))=true->_/\(g<n)/\(g<n)/\_/\_/\((!(!decide ((n:Int)=(n:Int))))=true->((!decide ((n:Int)=(n:Int)))==false)=true)/\((bif (!decide ((n:Int)=(n:Int))) then true else(decide ((64:Int)<(n:Int))))=false)/\_/\(g+1<=68719476736)/\_/\_/\_/\((λX1 X2 X3 X4 X5 X6 X7 X8:Prop=>∃g1:Nat,X1/\X2/\X3/\X4/\(((g+1:Nat):Int)=(g1:Int))/\X5/\X6/\X7/\((.pointer none:Value)=.pointer none)/\((g+1:Nat)=g1)/\X8/\(g1<=n)/\(n-g1<n-g)) _ _ _ _ _ _ _ _))/\((decide ((g:Int)<(n:Int)))=false->_/\_/\((.pointer none:Value)=.pointer none)/\((g:Nat)=n)/\_/\(CallOKm Tryz.prog 49 [.one (.var 100 (.agg (c3 (.own 1 0) (.ex (.pointer none)) (.ex sN)))),cC C n] [.own 0 0] (bX true) [.one (.var 100 (.agg (c3 (.own 2 0) (.ep (lvE (luS n (trM C) n) n)) (.ex sN)))),.dead,cC C n])/\_/\_/\_/\_/\((!true)=false)/\(_/\((.nilIface:Value)=.nilIface)/\_/\_/\_/\_/\_/\_/\_/\_/\_/\_/\_/\_))))) (λB=>by kernel_rfl)
  (λB=>⟨⟨0,(rf 0),(rf 0),(rf 0),(rf (n:Int)),zo,(rf n),(leS (mE C n) n),(rf 0),rfl,zo,zo⟩,λg hg=>⟨λhc12=>have hc12:=dT hc12;⟨(rf (g:Int)),zo,zo,(idB ((!decide ((n:Int)=(n:Int)))==false)),(idB ((!decide ((n:Int)=(n:Int)))==false)),zs,(by simp;omega),(xX (n:=n) (q:=(λi=>C g i)) zo).frzV,zo,(oldS (mE C n) g),(newS (mE C n) g),(wI (g:=g) zo),g+1,(rf 0),(rf 0),(rf 0),(rf (n:Int)),zo,(rf n),(leS (mE C n) n),(rf 0),rfl,zo,(leS (mE C n) (g+1)),zo,zo⟩,λhc12=>have hc12:=dF hc12;have hi2:g=n:=zo;⟨(rf 0),(rf 0),rfl,hi2,(leS (mE C n) g),(sBFactorF hn hD hok),(rf (.one (.var 100 (.agg (c3 (.own 1 0) (.ex (.pointer none)) (.ex sN)))):Hl)),(rf (cC C n:Hl)),(rf 0),(rf 0),rfl,(rf 0),rfl,(rf 0),(rf n),(leS (mE (luS n (trM C) n).2.1 n) n),(rf n),(leS (mE ((luS n (trM C) n).1) n) n),(rf n),(leS (λi0=>iN ((luS n (trM C) n).2.2.1 i0)) n),(rf ((luS n (trM C) n).2.2.2.2:Bool)),(rf 0),(rf n),(leS (mE C n) n),(rf 0)⟩⟩⟩)
theorem sBGrow{D C:Nat->Nat->Rat}{e:Etas}{n m:Nat}{a v:Nat->Rat}{e2:Etas}(hn:n+1<=6)(hD:HtB (n+1) (n+1) 3 (trM (yD n C a v)))(hok:luOK (n+1) (trM (yD n C a v)) (n+1)):CallOKm Tryz.prog 40 [.one (bV 1 2 (luS n D n) n),cC C n,.one (eE e n m)] [.own 0 0,.sl 3 (λi0=>.rat (a i0)) n,.sl 3 (λi0=>.rat (v i0)) (n+1)] (c2 (.own 5 0) (.ex (.nilIface))) [.one (bV 3 4 (luS n D n) n),.dead,.dead,cC C n,.one (eE e n m),.one (bV 6 7 (luS (n+1) (trM (yD n C a v)) (n+1)) (n+1)),cC (yD n C a v) (n+1),.one (eE e2 (n+1) 0)]:=by
 exact zZ (ch:=λB=>[.reg 2 [(8,.z ((n+1:Nat):Int))],.dec 31 false,.loop 6 (Nat) (λg=>g<=n) (λg=>n-g) (λg=>⟨[(0,.own 0 0),(1,.sl 3 (λi0=>.rat (a i0)) n),(2,.sl 3 (λi0=>.rat (v i0)) (n+1)),(9,.own 3 0),(36,.own 1 0),(37,iN n),(38,iN g)],[(0,.one (bV 1 2 (luS n D n) n (some (B 0)))),(1,cC C n),(2,.one (eE e n m)),(3,.one (.row 33 1 (λi0=>.own 4 i0) g)),(4,.fam g (λi0=>.row 47 3 (λi1=>.rat (yD n C a v i0 i1)) (n+1)))],5⟩) [(0,.id 0),(1,.id 1),(2,.id 2),(3,.nil),(4,.emp)] (λg=>[(0,.id 0),(1,.id 1),(2,.id 2),(3,.id 7),(4,.put 4 g 6)]) (λg=>[.reg 7 [(1,.k g)],.reg 8 [(2,.callS (.own 0 0) [.one (.row 47 3 (λi0=>.rat (C g i0)) n)]),(5,.k g),(8,.row 0 (λi0=>.rat (yD n C a v g i0))),(10,.row 0 (λi0=>.own (if i0<g then 4 else 6) (if i0<g then i0 else 0)))],.reg 9 [(0,.z ((g+1:Nat):Int))],.conv 10 [(0,.id 0),(1,.id 1),(2,.id 2),(3,.id 3)] ⟨[(0,.own 0 0),(2,.sl 3 (λi0=>.rat (v i0)) (n+1)),(9,.own 3 0)],[(0,.one (bV 1 2 (luS n D n) n (some (B 0)))),(1,cC C n),(2,.one (eE e n m)),(3,.one (.row 33 1 (λi0=>.sl 3 (λi1=>.rat (yD n C a v i0 i1)) (n+1)) n))],4⟩,.reg 10 [(3,.row 0 (λi0=>.sl 3 (λi1=>.rat (yD n C a v i0 i1)) (n+1))),(4,.callM [4] [.one (.row 33 1 (λi0=>.sl 3 (λi1=>.rat (yD n C a v i0 i1)) (n+1)) (n+1))] [.own 0 0] (c2 (.own 1 0) (.ex (.nilIface))) [.dead,.one (bV 2 3 (luS (n+1) (trM (yD n C a v)) (n+1)) (n+1)),cC (yD n C a v) (n+1),.one (eE e2 (n+1) 0)])],.ret 10 [(0,.id 0),(3,.id 1),(4,.id 2),(5,.id 5),(6,.id 6),(7,.id 7)]])]) hMix Tryz.func40 rfl zk zk zk (λB=>let y0:=((!decide ((n:Int)=(n:Int)))==false);let y1:=(bif (!decide ((n:Int)=(n:Int))) then true else(!decide (((n+1:Nat):Int)=((n+1:Nat):Int))));(y0=true->y0=true)/\(y0=true->y0=true)/\(y0=true->IntKind.wrap .i64 ((n:Int)+1)=(((n+1:Nat):Int)))/\(y0=true->y0=true)/\(y0=true->y0=true)/\((!(!decide ((n:Int)=(n:Int))))=true->y0=true)/\((y1==false)=true->(y1==false)=true)/\((!y1)=true->(y1==false)=true)/\((bif y1 then true else(decide ((64:Int)<=(n:Int))))=false)/\(((λX1 X2 X3 X4 X5 X6 X7 X8 X9 X10 X11 X12 X13 X14 X15 X16 X17 X18 X19 X20 X21 X22:Prop=>∃g0:Nat,X1/\X2/\X3/\X4/\X5/\X6/\X7/\X8/\((0:Int)=(g0:Int))/\X9/\X10/\X11/\X12/\X13/\X14/\X15/\X16/\X17/\X18/\X19/\X20/\X21/\X22/\((g0:Nat)=0)/\((g0:Nat)=0)/\(g0<=n)) _ _ _ _ _ _ _ _ _ _ _ _ _ _ _ _ _ _ _ _ _ _)/\∀g:Nat,(g<=n)->(((decide ((g:Int)<(n:Int)))=true->_/\(g<n)/\(g<n)/\_/\_/\(g<n)/\(n+1<=68719476736)/\(∀j0,j0<n->(.rat (yD n C a v g j0):SV)=.rat (C g j0))/\(∀j0,j0<1->((a g:Rat)=(yD n C a v g (n+j0))))/\(g+1<=68719476736)/\(∀j0,j0<g->(.own (if j0<g then 4 else 6) (if j0<g then j0 else 0):SV)=.own 4 j0)/\(∀j0,j0<1->((6:Nat)=(if g+j0<g then 4 else 6))/\((0:Nat)=(if g+j0<g then g+j0 else 0)))/\_/\((λX1 X2 X3 X4 X5 X6 X7 X8 X9 X10 X11 X12 X13 X14 X15 X16 X17 X18 X19 X20 X21 X22 X23:Prop=>∃g1:Nat,X1/\X2/\X3/\X4/\X5/\X6/\X7/\X8/\(((g+1:Nat):Int)=(g1:Int))/\X9/\X10/\X11/\X12/\X13/\X14/\X15/\X16/\X17/\X18/\X19/\X20/\X21/\X22/\((g+1:Nat)=g1)/\(∀j0,j0<(g+1)->(((if j0<g then 4 else 6:Nat)=6/\(if j0<g then j0 else 0:Nat)=0/\(j0:Nat)=g)∨((if j0<g then 4 else 6:Nat)=4/\(if j0<g then j0 else 0:Nat)=j0/\(j0:Nat)≠g)))/\((g1:Nat)=g+1)/\X23/\(((n+1:Nat)=(n+1))/\(∀j1,j1<(n+1)->((yD n C a v g j1:Rat)=(yD n C a v g j1))))/\(∀j0,j0<g->((n+1:Nat)=(n+1))/\(∀j1,j1<(n+1)->((yD n C a v j0 j1:Rat)=(yD n C a v j0 j1))))/\(g1<=n)/\(n-g1<n-g)) _ _ _ _ _ _ _ _ _ _ _ _ _ _ _ _ _ _ _ _ _ _ _))/\((decide ((g:Int)<(n:Int)))=false->_/\_/\_/\_/\_/\_/\_/\_/\_/\_/\_/\_/\_/\_/\_/\_/\_/\_/\((g:Nat)=n)/\(∀j0,j0<g->((n+1:Nat)=(n+1))/\(∀j1,j1<(n+1)->((yD n C a v j0 j1:Rat)=(yD n C a v j0 j1)))/\(j0<g))/\(n+1<=68719476736)/\_/\(∀j0,j0<1->((n+1:Nat)=(n+1))/\(∀j1,j1<(n+1)->((v j1:Rat)=(yD n C a v (n+j0) j1))))/\(CallOKm Tryz.prog 13 [.one (.row 33 1 (λi0=>.sl 3 (λi1=>.rat (yD n C a v i0 i1)) (n+1)) (n+1))] [.own 0 0] (c2 (.own 1 0) (.ex (.nilIface))) [.dead,.one (bV 2 3 (luS (n+1) (trM (yD n C a v)) (n+1)) (n+1)),cC (yD n C a v) (n+1),.one (eE e2 (n+1) 0)])/\_/\_/\_/\(_/\((.nilIface:Value)=.nilIface)/\_/\_/\_/\_/\_/\_/\_/\_/\_/\_/\_/\_/\_/\_/\_/\_/\_/\_/\_/\_/\_/\_/\_/\_/\_/\_/\_))))) (λB=>by kernel_rfl)
  (λB=>⟨id,id,(λhg=>(by rw[IntKind.wrap_i64];omega)),id,id,zs,id,zs,(by simp;omega),⟨0,(rf 0),(rf n),(leS (λi0=>.rat (a i0)) n),(rf (n+1:Nat)),(leS (λi0=>.rat (v i0)) (n+1)),(rf 0),(rf 0),(rf (n:Int)),zo,(rf (some (B 0))),(rf 0),(rf n),(leS (mE (luS n D n).2.1 n) n),(rf n),(leS (mE ((luS n D n).1) n) n),(rf n),(leS (λi0=>iN ((luS n D n).2.2.1 i0)) n),(rf ((luS n D n).2.2.2.2:Bool)),(rf 0),(rf n),(leS (mE C n) n),(rf m),(leS (λi0=>.agg (c2 (iN ((e i0).1)) (vE (e i0).2 n))) m),zo,zo,zo⟩,λg hg=>⟨λhc39=>have hc39:=dT hc39;have hgn:g<n:=zo;⟨(rf (g:Int)),zo,zo,xX (n:=n) (q:=(λi=>C g i)) zo,(rf (g:Int)),zo,zo,(λj0 hj0=>by rw[growC_in hgn hj0]),(λj0 hj0=>(growC_row hgn (Nat.le_add_right n j0)).symm),zo,(λj0 hj0=>by rw[if_pos hj0,if_pos hj0]),(λj0 hj0=>⟨(by rw[if_neg zo]),(by rw[if_neg zo])⟩),(wI (g:=g) zo),g+1,(rf 0),(rf n),(leS (λi0=>.rat (a i0)) n),(rf (n+1:Nat)),(leS (λi0=>.rat (v i0)) (n+1)),(rf 0),(rf 0),(rf (n:Int)),zo,(rf (some (B 0))),(rf 0),(rf n),(leS (mE (luS n D n).2.1 n) n),(rf n),(leS (mE ((luS n D n).1) n) n),(rf n),(leS (λi0=>iN ((luS n D n).2.2.1 i0)) n),(rf ((luS n D n).2.2.2.2:Bool)),(rf 0),(rf n),(leS (mE C n) n),(rf m),(leS (λi0=>.agg (c2 (iN ((e i0).1)) (vE (e i0).2 n))) m),zo,(λj0 hj0=>(by first | omega | (split<;>omega))),zo,(rf g),⟨rfl,(λj1 hj1=>rfl)⟩,(λj0 hj0=>⟨rfl,(λj1 hj1=>rfl)⟩),zo,zo⟩,λhc39=>have hc39:=dF hc39;have hi2:g=n:=zo;⟨(rf 0),(rf (n+1:Nat)),(leS (λi0=>.rat (v i0)) (n+1)),(rf 0),(rf (some (B 0))),(rf 0),(rf n),(leS (mE (luS n D n).2.1 n) n),(rf n),(leS (mE ((luS n D n).1) n) n),(rf n),(leS (λi0=>iN ((luS n D n).2.2.1 i0)) n),(rf ((luS n D n).2.2.2.2:Bool)),(rf 0),(rf n),(leS (mE C n) n),(rf m),(leS (λi0=>.agg (c2 (iN ((e i0).1)) (vE (e i0).2 n))) m),hi2,(λj0 hj0=>⟨rfl,(λj1 hj1=>rfl),zo⟩),zo,(oldS (λi0=>.sl 3 (λi1=>.rat (yD n C a v i0 i1)) (n+1)) n),(λj0 hj0=>by obtain rfl:j0=0:=zo;exact⟨rfl,λj1 _=>(growC_col (Nat.le_refl n)).symm⟩),(sBNewM (C:=(yD n C a v)) (e:=e2) hn hD hok),(rf (.one (.row 33 1 (λi0=>.sl 3 (λi1=>.rat (yD n C a v i0 i1)) (n+1)) (n+1)):Hl)),(rf 4),(rf 0),(rf 0),rfl,(rf (some (B 0))),(rf 0),(rf n),(leS (mE (luS n D n).2.1 n) n),(rf n),(leS (mE ((luS n D n).1) n) n),(rf n),(leS (λi0=>iN ((luS n D n).2.2.1 i0)) n),(rf ((luS n D n).2.2.2.2:Bool)),(rf 0),(rf n),(leS (mE C n) n),(rf m),(leS (λi0=>.agg (c2 (iN ((e i0).1)) (vE (e i0).2 n))) m),(rf 0),(rf (n+1:Nat)),(leS (mE (luS (n+1) (trM (yD n C a v)) (n+1)).2.1 (n+1)) (n+1)),(rf (n+1:Nat)),(leS (mE ((luS (n+1) (trM (yD n C a v)) (n+1)).1) (n+1)) (n+1)),(rf (n+1:Nat)),(leS (λi0=>iN ((luS (n+1) (trM (yD n C a v)) (n+1)).2.2.1 i0)) (n+1)),(rf ((luS (n+1) (trM (yD n C a v)) (n+1)).2.2.2.2:Bool)),(rf 0),(rf (n+1:Nat)),(leS (mE (yD n C a v) (n+1)) (n+1)),(rf 0),(leS (λi0=>.agg (c2 (iN ((e2 i0).1)) (vE (e2 i0).2 (n+1)))) 0)⟩⟩⟩)
open Go.RowKit
theorem sRowsCut{k0:Nat->Nat}{p0 d0:Nat->Nat->Int}{n m:Nat}(hn:n<=6)(hm:m<=6):CallOK Tryz.prog 65 [.agg (c2 (.ex (.int .u8 (n:Int))) (.sl 1 (gE k0 p0 d0) m))] (c2 (.sl 1 (λi0=>.sl 2 (λi1=>.agg (c2 (iZ (padZ (k0 i0) (p0 i0) i1)) (iZ (padZ (k0 i0) (d0 i0) i1)))) n) m) (iN n)) []:=by
 have h:=sRows11 (z:=n) (l:=m) (k:=k0) (p:=p0) (d:=d0)
 rw[Nat.mod_eq_of_lt (show n<7 by omega),Nat.min_eq_left (show m<=6 by omega)] at h
 exact h
theorem gQ_wd{l:Nat}{k:Nat->Nat}{p d:Nat->Nat->Int}(h:∀r,r<l->∀c,c<k r->Wd64 (p r c)/\Wd64 (d r c)){r c:Nat}(hr:r<l):Wd64 (padZ (k r) (p r) c)/\Wd64 (padZ (k r) (d r) c):=⟨padZ_wd λhc=>(h r hr c hc).1,padZ_wd λhc=>(h r hr c hc).2⟩
theorem sColumns{z0 l0:Nat}{k0:Nat->Nat}{p0 d0:Nat->Nat->Int}{n m:Nat}(h0:∀r,r<l0->∀c,c<k0 r->Wd64 (p0 r c)/\Wd64 (d0 r c))(hn:z0%5=n)(hm:min l0 n=m):CallOK Tryz.prog 29 [.agg (c2 (.ex (.int .u8 (z0:Int))) (.sl 1 (gE k0 p0 d0) l0))] (c2 (.sl 1 (λi0=>.sl 3 (λi1=>.rat (gQ k0 p0 d0 i0 i1)) n) m) (.agg (c2 (.sl 1 (λi0=>.sl 3 (λi1=>.qt (gQ k0 p0 d0 i0 i1)) n) m) (iN n)))) []:=by
 have hn5:n<=5:=by omega
 exact kP (ch:=[.reg 1 [(2,.z (n:Int))],.reg 2 [(5,.z (n:Int))],.reg 3 [(4,.kk 0 m)],.join 4 0 [(0,.id 0),(1,.id 1)] [(0,.id 0),(1,.id 1)] ⟨[(1,.own 0 0),(3,.own 1 0)],[(0,.one (.var 24 (.agg (c2 (.ex (.int .u8 (n:Int))) (.sl 1 (gE k0 p0 d0) m))))),(1,.one (.var 68 (.ex (.agg #[.slice none 0 0,.int .i64 0]))))],2⟩ (True),.reg 4 [(1,.callS (c2 (.sl 1 (λi0=>.sl 2 (λi1=>.agg (c2 (iZ (padZ (k0 i0) (p0 i0) i1)) (iZ (padZ (k0 i0) (d0 i0) i1)))) n) m) (iN n)) [])],.loop 7 (Nat) (λg=>g<=m) (λg=>m-g) (λg=>⟨[(1,.own 0 0),(3,.own 1 0),(4,.sl 1 (λi0=>.sl 2 (λi1=>.agg (c2 (iZ (padZ (k0 i0) (p0 i0) i1)) (iZ (padZ (k0 i0) (d0 i0) i1)))) n) m),(6,.own 2 0),(7,iN g)],[(0,.one (.var 24 (.agg (c2 (.ex (.int .u8 (n:Int))) (.sl 1 (gE k0 p0 d0) m))))),(1,.one (.var 68 (.ex (.agg #[.slice none 0 0,.int .i64 0])))),(2,.one (.row 33 1 (λi0=>.sl 3 (λi1=>.rat (gQ k0 p0 d0 i0 i1)) n) g))],3⟩) [(0,.id 0),(1,.id 1),(2,.nil)] (λ_=>[(0,.id 0),(1,.id 1),(2,.id 3)]) (λg=>[.reg 9 [(3,.k g),(5,.callS (.sl 3 (λi0=>.rat (oneQ (padZ (k0 g) (p0 g) i0) (padZ (k0 g) (d0 g) i0))) n) []),(7,.row 0 (λi0=>.sl 3 (λi1=>.rat (gQ k0 p0 d0 i0 i1)) n))],.reg 8 [(1,.z ((g+1:Nat):Int))],.reg 10 [(2,.callS (.agg (c2 (.sl 1 (λi0=>.sl 3 (λi1=>.qt (gQ k0 p0 d0 i0 i1)) n) m) (iN n))) [])]])]) Tryz.func29 (let y0:=(decide ((n:Int)<(l0:Int)));(∀j0,j0<l0->(∀j1,j1<(k0 j0)->True))/\((5:Int)≠0)/\((z0:Int).tmod 5=((n:Int)))/\(((IntKind.wrap .i64 (n:Int)=((n:Int)))/\((y0=true->((n:Int)=(m:Int))/\(m<=l0)/\_/\_/\_/\_/\_/\((.agg #[.slice none 0 0,.int .i64 0]:Value)=.agg #[.slice none 0 0,.int .i64 0])/\True)/\(y0=false->_/\_/\_/\((l0:Nat)=m)/\_/\((.agg #[.slice none 0 0,.int .i64 0]:Value)=.agg #[.slice none 0 0,.int .i64 0])/\True)))/\(True->(CallOK Tryz.prog 65 [.agg (c2 (.ex (.int .u8 (n:Int))) (.sl 1 (gE k0 p0 d0) m))] (c2 (.sl 1 (λi0=>.sl 2 (λi1=>.agg (c2 (iZ (padZ (k0 i0) (p0 i0) i1)) (iZ (padZ (k0 i0) (d0 i0) i1)))) n) m) (iN n)) [])/\(((λX1 X2 X3 X4 X5 X6 X7 X8:Prop=>∃g0:Nat,X1/\X2/\X3/\X4/\X5/\((0:Int)=(g0:Int))/\X6/\X7/\X8/\((.agg #[.slice none 0 0,.int .i64 0]:Value)=.agg #[.slice none 0 0,.int .i64 0])/\((g0:Nat)=0)/\(g0<=m)) _ _ _ _ _ _ _ _)/\∀g:Nat,(g<=m)->(((decide ((g:Int)<(m:Int)))=true->_/\(g<m)/\_/\(g+1<=68719476736)/\_/\_/\_/\((λX1 X2 X3 X4 X5 X6 X7 X8 X9:Prop=>∃g1:Nat,X1/\X2/\X3/\X4/\X5/\(((g+1:Nat):Int)=(g1:Int))/\X6/\X7/\X8/\((.agg #[.slice none 0 0,.int .i64 0]:Value)=.agg #[.slice none 0 0,.int .i64 0])/\((g+1:Nat)=g1)/\X9/\(g1<=m)/\(m-g1<m-g)) _ _ _ _ _ _ _ _ _))/\((decide ((g:Int)<(m:Int)))=false->(CallOK Tryz.prog 66 [.agg (c2 (.ex (.int .u8 (n:Int))) (.sl 1 (gE k0 p0 d0) m))] (.agg (c2 (.sl 1 (λi0=>.sl 3 (λi1=>.qt (gQ k0 p0 d0 i0 i1)) n) m) (iN n))) [])/\(((g:Nat)=m)/\_/\_/\_/\_)))))))
  ⟨(λ_ _=>(λ_ _=>trivial)),zd,(by rw[←hn];rfl),⟨(by rw[IntKind.wrap_i64];omega),λhc18=>have hc18:=dT hc18;have hc:=hc18;⟨zo,zo,(rf 0),(rf 0),(rf (n:Int)),(rf m),(leS (gE k0 p0 d0) m),rfl,trivial⟩,λhc18=>have hc18:=dF hc18;have hc:=hc18;⟨(rf 0),(rf 0),(rf (n:Int)),zo,(leS (gE k0 p0 d0) l0),rfl,trivial⟩⟩,λ_=>⟨(sRowsCut (k0:=k0) (p0:=p0) (d0:=d0) zo zo),⟨0,(rf 0),(rf 0),(rf m),(leS (λi0=>.sl 2 (λi1=>.agg (c2 (iZ (padZ (k0 i0) (p0 i0) i1)) (iZ (padZ (k0 i0) (d0 i0) i1)))) n) m),(rf 0),zo,(rf (n:Int)),(rf m),(leS (gE k0 p0 d0) m),rfl,zo,zo⟩,λg hg=>⟨λhc33=>have hc33:=dT hc33;have hgm:g<m:=zo;⟨(rf (g:Int)),zo,(sMake (n:=n) (p:=λi=>padZ (k0 g) (p0 g) i) (d:=λi=>padZ (k0 g) (d0 g) i) zo (λc hc=>(gQ_wd h0 (show g<l0 by omega)))).frzV,zo,(oldS (λi0=>.sl 3 (λi1=>.rat (gQ k0 p0 d0 i0 i1)) n) g),(newS (λi0=>.sl 3 (λi1=>.rat (gQ k0 p0 d0 i0 i1)) n) g),(wI (g:=g) zo),g+1,(rf 0),(rf 0),(rf m),(leS (λi0=>.sl 2 (λi1=>.agg (c2 (iZ (padZ (k0 i0) (p0 i0) i1)) (iZ (padZ (k0 i0) (d0 i0) i1)))) n) m),(rf 0),zo,(rf (n:Int)),(rf m),(leS (gE k0 p0 d0) m),rfl,zo,(leS (λi0=>.sl 3 (λi1=>.rat (gQ k0 p0 d0 i0 i1)) n) (g+1)),zo,zo⟩,λhc33=>have hc33:=dF hc33;have hi2:g=m:=zo;⟨(sRefCut h0 zo hm),hi2,(leS (λi0=>.sl 3 (λi1=>.rat (gQ k0 p0 d0 i0 i1)) n) g),(rf m),(leS (λi0=>.sl 3 (λi1=>.qt (gQ k0 p0 d0 i0 i1)) n) m),(rf (n:Int))⟩⟩⟩⟩
open Go.RowKit
def acQ (p d:Nat->Nat->Int) (i c:Nat):Rat:=oneQ (p i c) (d i c)
def noE:Etas:=λ_=>(0,λ_=>0)
def plS (m:Nat) (k:Nat->Nat) (p d:Nat->Nat->Int) (K:Nat->Int) (L:Nat->Nat) (p1 d1:Nat->Nat->Int):Nat->BS
 | 0=>⟨trM (gQ k p d),gQ k p d,noE,0⟩
 | g+1=>repS m (plS m k p d K L p1 d1 g) (K g) (acQ p1 d1 g) (L g)
theorem gQ_htB{l:Nat}{k:Nat->Nat}{p d:Nat->Nat->Int}(h:∀r,r<l->∀c,c<k r->Wd64 (p r c)/\Wd64 (d r c)){m:Nat}(hm:m<=6)(hl:m<=l):HtB m m 3 (trM (gQ k p d)):=λi hi j hj=>by
 have h1:=gQ_sz h (r:=j) (c:=i) zo
 have h2:=ht_sz (gQ k p d j i)
 show htq (gQ k p d j i)+1<=3
 omega
theorem ac_ht{N:Nat}{L:Nat->Nat}{p d:Nat->Nat->Int}(w:∀i,i<N->∀c,c<L i->Wd64 (p i c)/\Wd64 (d i c)){i m:Nat}(hi:i<N):L i=m->∀j,j<m->htq (acQ p d i j)<=2:=λe j hj=>
 Nat.le_trans (ht_sz _) (szq_one (w i hi j zo).1 (w i hi j zo).2)
theorem pl_ok{m N l:Nat}{k:Nat->Nat}{p d p1 d1:Nat->Nat->Int}{K:Nat->Int}{L:Nat->Nat}(hm:m<=5)(hl:m<=l)(h:∀r,r<l->∀c,c<k r->Wd64 (p r c)/\Wd64 (d r c))(hok:luOK m (trM (gQ k p d)) m)(w:∀i,i<N->∀c,c<L i->Wd64 (p1 i c)/\Wd64 (d1 i c)):∀g,g<=N->BSK m (plS m k p d K L p1 d1 g)
 | 0,_=>.fresh hok (gQ_htB h zo hl)
 | g+1,hg=>by
  have ih:=pl_ok (K:=K) hm hl h hok w g zo
  by_cases e:L g=m
  ·exact repS_ok ih hm (ac_ht w zo e)
  ·by_cases h0:repN m (plS m k p d K L p1 d1 g) (K g) (acQ p1 d1 g) (L g)=0
   ·exact absurd (repN_ok' h0).2.1 e
   ·show BSK m (repS m _ _ _ _);rw[repS_no h0];exact ih
theorem sPlayed{z0 l0:Nat}{k0:Nat->Nat}{p0 d0:Nat->Nat->Int}{n m:Nat}{N1:Nat}{K1:Nat->Int}{L1:Nat->Nat}{p1 d1:Nat->Nat->Int}(h0:∀r,r<l0->∀c,c<k0 r->Wd64 (p0 r c)/\Wd64 (d0 r c))(hn:z0%5=n)(hm:min l0 n=m)(hmn:m=0∨m=n)(hok:luOK m (trM (gQ k0 p0 d0)) m)(hN:N1<=68719476736)(hL1:∀i,i<N1->L1 i<=68719476736)(w1:∀i,i<N1->∀c,c<L1 i->Wd64 (p1 i c)/\Wd64 (d1 i c)):CallOK Tryz.prog 10 [.agg (c2 (.ex (.int .u8 (z0:Int))) (.sl 1 (gE k0 p0 d0) l0)),.sl 2 (λi0=>.agg (c2 (iZ (K1 i0)) (.sl 2 (λi1=>.agg (c2 (iZ (p1 i0 i1)) (iZ (d1 i0 i1)))) (L1 i0)))) N1] (.own 0 0) [.one (bV 1 2 (luS m (plS m k0 p0 d0 K1 L1 p1 d1 N1).D m) m),.one (.row 33 1 (mE (plS m k0 p0 d0 K1 L1 p1 d1 N1).C m) m),.one (eE (plS m k0 p0 d0 K1 L1 p1 d1 N1).e m ((plS m k0 p0 d0 K1 L1 p1 d1 N1).m))]:=by
 have hn5:n<=5:=by omega
 have hK:=λg hg=>pl_ok (K:=K1) (show m<=5 by omega) (show m<=l0 by omega) h0 hok w1 g hg
 exact kP (ch:=[.reg 1 [(1,.callS (c2 (.sl 1 (λi0=>.sl 3 (λi1=>.rat (gQ k0 p0 d0 i0 i1)) n) m) (.agg (c2 (.sl 1 (λi0=>.sl 3 (λi1=>.qt (gQ k0 p0 d0 i0 i1)) n) m) (iN n)))) [])],.reg 2 [(1,.call [.sl 1 (mE (gQ k0 p0 d0) m) m] (c2 (.own 0 0) (.ex (.nilIface))) [.one (bV 1 2 (luS m (trM (gQ k0 p0 d0)) m) m),cC (gQ k0 p0 d0) m,.one (eE noE m 0)])],.dec 25 false,.loop 6 (Nat) (λg=>g<=N1) (λg=>N1-g) (λg=>⟨[(1,.sl 2 (λi0=>.agg (c2 (iZ (K1 i0)) (.sl 2 (λi1=>.agg (c2 (iZ (p1 i0 i1)) (iZ (d1 i0 i1)))) (L1 i0)))) N1),(7,.own 0 0),(9,iN g)],[(0,.one (bV 1 2 (luS m (plS m k0 p0 d0 K1 L1 p1 d1 g).D m) m)),(1,.one (.row 33 1 (mE (plS m k0 p0 d0 K1 L1 p1 d1 g).C m) m)),(2,.one (eE (plS m k0 p0 d0 K1 L1 p1 d1 g).e m ((plS m k0 p0 d0 K1 L1 p1 d1 g).m)))],3⟩) [(0,.id 2),(1,.id 3),(2,.id 4)] (λ_=>[(0,.id 0),(1,.id 3),(2,.id 4)]) (λg=>[.reg 8 [(3,.k g),(8,.k g),(11,.callS (.sl 3 (λi0=>.rat (oneQ (p1 g i0) (d1 g i0))) (L1 g)) []),(12,.callM [0,1,2] [.one (bV 1 2 (luS m (plS m k0 p0 d0 K1 L1 p1 d1 g).D m) m),.one (.row 33 1 (mE (plS m k0 p0 d0 K1 L1 p1 d1 g).C m) m),.one (eE (plS m k0 p0 d0 K1 L1 p1 d1 g).e m ((plS m k0 p0 d0 K1 L1 p1 d1 g).m))] [.own 0 0,iZ (K1 g),.sl 3 (λi0=>.rat ((acQ p1 d1 g) i0)) (L1 g)] (.alt (decide (repN m (plS m k0 p0 d0 K1 L1 p1 d1 g) (K1 g) (acQ p1 d1 g) (L1 g)=0)) (.ex (.nilIface)) (.ifc 113 (.ep (.agg (c3 (.ex (.string sCol)) (iZ (K1 g)) (.ex (.iface 63 (.int .i64 (repN m (plS m k0 p0 d0 K1 L1 p1 d1 g) (K1 g) (acQ p1 d1 g) (L1 g)))))))))) [.one (bV 3 4 (luS m (repS m (plS m k0 p0 d0 K1 L1 p1 d1 g) (K1 g) (acQ p1 d1 g) (L1 g)).D m) m),.dead,.dead,.one (.row 33 1 (mE (repS m (plS m k0 p0 d0 K1 L1 p1 d1 g) (K1 g) (acQ p1 d1 g) (L1 g)).C m) m),.one (eE (repS m (plS m k0 p0 d0 K1 L1 p1 d1 g) (K1 g) (acQ p1 d1 g) (L1 g)).e m ((repS m (plS m k0 p0 d0 K1 L1 p1 d1 g) (K1 g) (acQ p1 d1 g) (L1 g)).m))])],.reg 7 [(1,.z ((g+1:Nat):Int))],.ret 9 [(0,.id 0),(1,.id 1),(2,.id 2)]])]) Tryz.func10 ((∀j0,j0<l0->(∀j1,j1<(k0 j0)->True))/\(∀j0,j0<N1->(∀j1,j1<(L1 j0)->True))/\(CallOK Tryz.prog 29 [.agg (c2 (.ex (.int .u8 (z0:Int))) (.sl 1 (gE k0 p0 d0) l0))] (c2 (.sl 1 (λi0=>.sl 3 (λi1=>.rat (gQ k0 p0 d0 i0 i1)) n) m) (.agg (c2 (.sl 1 (λi0=>.sl 3 (λi1=>.qt (gQ k0 p0 d0 i0 i1)) n) m) (iN n)))) [])/\(CallOK Tryz.prog 13 [.sl 1 (mE (gQ k0 p0 d0) m) m] (c2 (.own 0 0) (.ex (.nilIface))) [.one (bV 1 2 (luS m (trM (gQ k0 p0 d0)) m) m),cC (gQ k0 p0 d0) m,.one (eE noE m 0)])/\_/\(∀j0,j0<m->((n:Nat)=m)/\(∀j1,j1<n->((gQ k0 p0 d0 j0 j1:Rat)=((gQ k0 p0 d0) j0 j1))))/\_/\((!(!true))=true->((!true)==false)=true)/\((bif (!true) then true else(false&&true))=false)/\(((λX1 X2 X3 X4 X5 X6 X7 X8 X9:Prop=>∃g0:Nat,X1/\X2/\X3/\((0:Int)=(g0:Int))/\X4/\X5/\(∀j0,j0<m->((m:Nat)=m)/\(∀j1,j1<m->(((luS m (trM (gQ k0 p0 d0)) m).2.1 j0 j1:Rat)=((luS m (plS m k0 p0 d0 K1 L1 p1 d1 g0).D m).2.1 j0 j1))))/\X6/\(∀j0,j0<m->((m:Nat)=m)/\(∀j1,j1<m->((((luS m (trM (gQ k0 p0 d0)) m).1) j0 j1:Rat)=(((luS m (plS m k0 p0 d0 K1 L1 p1 d1 g0).D m).1) j0 j1))))/\X7/\(∀j0,j0<m->((((luS m (trM (gQ k0 p0 d0)) m).2.2.1 j0:Nat):Int)=(((luS m (plS m k0 p0 d0 K1 L1 p1 d1 g0).D m).2.2.1 j0:Nat):Int)))/\(((luS m (trM (gQ k0 p0 d0)) m).2.2.2.2:Bool)=((luS m (plS m k0 p0 d0 K1 L1 p1 d1 g0).D m).2.2.2.2))/\X8/\X9/\(∀j0,j0<m->((m:Nat)=m)/\(∀j1,j1<m->(((gQ k0 p0 d0) j0 j1:Rat)=((plS m k0 p0 d0 K1 L1 p1 d1 g0).C j0 j1))))/\((0:Nat)=((plS m k0 p0 d0 K1 L1 p1 d1 g0).m))/\(∀j0,j0<0->((((noE j0).1:Nat):Int)=((((plS m k0 p0 d0 K1 L1 p1 d1 g0).e j0).1:Nat):Int))/\((m:Nat)=m)/\(∀j1,j1<m->(((noE j0).2 j1:Rat)=(((plS m k0 p0 d0 K1 L1 p1 d1 g0).e j0).2 j1))))/\(g0<=N1)) _ _ _ _ _ _ _ _ _)/\∀g:Nat,(g<=N1)->(((decide ((g:Int)<(N1:Int)))=true->_/\(g<N1)/\_/\(g<N1)/\_/\_/\_/\_/\_/\_/\_/\_/\_/\(∀j0,j0<(L1 g)->((oneQ (p1 g j0) (d1 g j0):Rat)=((acQ p1 d1 g) j0)))/\_/\((λX1 X2 X3 X4 X5 X6 X7 X8 X9:Prop=>∃g1:Nat,X1/\X2/\X3/\(((g+1:Nat):Int)=(g1:Int))/\X4/\X5/\(∀j0,j0<m->((m:Nat)=m)/\(∀j1,j1<m->(((luS m (repS m (plS m k0 p0 d0 K1 L1 p1 d1 g) (K1 g) (acQ p1 d1 g) (L1 g)).D m).2.1 j0 j1:Rat)=((luS m (plS m k0 p0 d0 K1 L1 p1 d1 g1).D m).2.1 j0 j1))))/\X6/\(∀j0,j0<m->((m:Nat)=m)/\(∀j1,j1<m->((((luS m (repS m (plS m k0 p0 d0 K1 L1 p1 d1 g) (K1 g) (acQ p1 d1 g) (L1 g)).D m).1) j0 j1:Rat)=(((luS m (plS m k0 p0 d0 K1 L1 p1 d1 g1).D m).1) j0 j1))))/\X7/\(∀j0,j0<m->((((luS m (repS m (plS m k0 p0 d0 K1 L1 p1 d1 g) (K1 g) (acQ p1 d1 g) (L1 g)).D m).2.2.1 j0:Nat):Int)=(((luS m (plS m k0 p0 d0 K1 L1 p1 d1 g1).D m).2.2.1 j0:Nat):Int)))/\(((luS m (repS m (plS m k0 p0 d0 K1 L1 p1 d1 g) (K1 g) (acQ p1 d1 g) (L1 g)).D m).2.2.2.2:Bool)=((luS m (plS m k0 p0 d0 K1 L1 p1 d1 g1).D m).2.2.2.2))/\X8/\X9/\(∀j0,j0<m->((m:Nat)=m)/\(∀j1,j1<m->(((repS m (plS m k0 p0 d0 K1 L1 p1 d1 g) (K1 g) (acQ p1 d1 g) (L1 g)).C j0 j1:Rat)=((plS m k0 p0 d0 K1 L1 p1 d1 g1).C j0 j1))))/\(((repS m (plS m k0 p0 d0 K1 L1 p1 d1 g) (K1 g) (acQ p1 d1 g) (L1 g)).m:Nat)=((plS m k0 p0 d0 K1 L1 p1 d1 g1).m))/\(∀j0,j0<((repS m (plS m k0 p0 d0 K1 L1 p1 d1 g) (K1 g) (acQ p1 d1 g) (L1 g)).m)->(((((repS m (plS m k0 p0 d0 K1 L1 p1 d1 g) (K1 g) (acQ p1 d1 g) (L1 g)).e j0).1:Nat):Int)=((((plS m k0 p0 d0 K1 L1 p1 d1 g1).e j0).1:Nat):Int))/\((m:Nat)=m)/\(∀j1,j1<m->((((repS m (plS m k0 p0 d0 K1 L1 p1 d1 g) (K1 g) (acQ p1 d1 g) (L1 g)).e j0).2 j1:Rat)=(((plS m k0 p0 d0 K1 L1 p1 d1 g1).e j0).2 j1))))/\(g1<=N1)/\(N1-g1<N1-g)) _ _ _ _ _ _ _ _ _))/\((decide ((g:Int)<(N1:Int)))=false->(_/\_/\_/\(∀j0,j0<m->((m:Nat)=m)/\(∀j1,j1<m->(((luS m (plS m k0 p0 d0 K1 L1 p1 d1 g).D m).2.1 j0 j1:Rat)=((luS m (plS m k0 p0 d0 K1 L1 p1 d1 N1).D m).2.1 j0 j1))))/\_/\(∀j0,j0<m->((m:Nat)=m)/\(∀j1,j1<m->((((luS m (plS m k0 p0 d0 K1 L1 p1 d1 g).D m).1) j0 j1:Rat)=(((luS m (plS m k0 p0 d0 K1 L1 p1 d1 N1).D m).1) j0 j1))))/\_/\(∀j0,j0<m->((((luS m (plS m k0 p0 d0 K1 L1 p1 d1 g).D m).2.2.1 j0:Nat):Int)=(((luS m (plS m k0 p0 d0 K1 L1 p1 d1 N1).D m).2.2.1 j0:Nat):Int)))/\(((luS m (plS m k0 p0 d0 K1 L1 p1 d1 g).D m).2.2.2.2:Bool)=((luS m (plS m k0 p0 d0 K1 L1 p1 d1 N1).D m).2.2.2.2))/\_/\_/\(∀j0,j0<m->((m:Nat)=m)/\(∀j1,j1<m->(((plS m k0 p0 d0 K1 L1 p1 d1 g).C j0 j1:Rat)=((plS m k0 p0 d0 K1 L1 p1 d1 N1).C j0 j1))))/\(((plS m k0 p0 d0 K1 L1 p1 d1 g).m:Nat)=((plS m k0 p0 d0 K1 L1 p1 d1 N1).m))/\(∀j0,j0<((plS m k0 p0 d0 K1 L1 p1 d1 g).m)->(((((plS m k0 p0 d0 K1 L1 p1 d1 g).e j0).1:Nat):Int)=((((plS m k0 p0 d0 K1 L1 p1 d1 N1).e j0).1:Nat):Int))/\((m:Nat)=m)/\(∀j1,j1<m->((((plS m k0 p0 d0 K1 L1 p1 d1 g).e j0).2 j1:Rat)=(((plS m k0 p0 d0 K1 L1 p1 d1 N1).e j0).2 j1)))))))))
  ⟨(λ_ _=>(λ_ _=>trivial)),(λ_ _=>(λ_ _=>trivial)),(sColumns h0 hn hm),(sBNew (C:=(gQ k0 p0 d0)) (e:=noE) zo (gQ_htB h0 zo zo) hok),(rf m),(λj0 hj0=>⟨zo,(λj1 hj1=>rfl)⟩),(idB ((!true)==false)),zs,rfl,⟨0,(rf N1),(leS (λi0=>.agg (c2 (iZ (K1 i0)) (.sl 2 (λi1=>.agg (c2 (iZ (p1 i0 i1)) (iZ (d1 i0 i1)))) (L1 i0)))) N1),(rf 0),zo,(rf 0),(rf m),(λj0 hj0=>⟨rfl,(λj1 hj1=>rfl)⟩),(rf m),(λj0 hj0=>⟨rfl,(λj1 hj1=>rfl)⟩),(rf m),(λj0 hj0=>rfl),rfl,(rf 0),(rf m),(λj0 hj0=>⟨rfl,(λj1 hj1=>rfl)⟩),rfl,(λj0 hj0=>⟨rfl,rfl,(λj1 hj1=>rfl)⟩),zo⟩,λg hg=>⟨λhc29=>have hc29:=dT hc29;have hgN:g<N1:=zo;⟨(rf (g:Int)),zo,(rf (g:Int)),zo,(sMake (n:=L1 g) (p:=λi=>p1 g i) (d:=λi=>d1 g i) (hL1 g hgN) (λc hc=>w1 g hgN c hc)).frzV,(sBReplaceT (s:=(plS m k0 p0 d0 K1 L1 p1 d1 g)) (k:=K1 g) (v:=(acQ p1 d1 g)) (l:=L1 g) (hK g zo) zo (ac_ht w1 hgN)),(rf (.one (bV 1 2 (luS m (plS m k0 p0 d0 K1 L1 p1 d1 g).D m) m):Hl)),(rf (.one (.row 33 1 (mE (plS m k0 p0 d0 K1 L1 p1 d1 g).C m) m):Hl)),(rf (.one (eE (plS m k0 p0 d0 K1 L1 p1 d1 g).e m ((plS m k0 p0 d0 K1 L1 p1 d1 g).m)):Hl)),(rf 0),(rf 0),(rf (K1 g:Int)),(rf (L1 g:Nat)),(λj0 hj0=>rfl),(wI (g:=g) zo),g+1,(rf N1),(leS (λi0=>.agg (c2 (iZ (K1 i0)) (.sl 2 (λi1=>.agg (c2 (iZ (p1 i0 i1)) (iZ (d1 i0 i1)))) (L1 i0)))) N1),(rf 0),zo,(rf 0),(rf m),(λj0 hj0=>⟨rfl,(λj1 hj1=>rfl)⟩),(rf m),(λj0 hj0=>⟨rfl,(λj1 hj1=>rfl)⟩),(rf m),(λj0 hj0=>rfl),rfl,(rf 0),(rf m),(λj0 hj0=>⟨rfl,(λj1 hj1=>rfl)⟩),rfl,(λj0 hj0=>⟨rfl,rfl,(λj1 hj1=>rfl)⟩),zo,zo⟩,λhc29=>have hc29:=dF hc29;have hi2:g=N1:=zo;⟨(rf 0),(rf 0),(rf m),(λj0 hj0=>⟨rfl,(λj1 hj1=>(by rw[hi2]))⟩),(rf m),(λj0 hj0=>⟨rfl,(λj1 hj1=>(by rw[hi2]))⟩),(rf m),(λj0 hj0=>(by rw[hi2])),(by rw[hi2]),(rf 0),(rf m),(λj0 hj0=>⟨rfl,(λj1 hj1=>(by rw[hi2]))⟩),(by rw[hi2]),(λj0 hj0=>⟨(by rw[hi2]),rfl,(λj1 hj1=>(by rw[hi2]))⟩)⟩⟩⟩
open Go.RowKit
theorem sPlayed_len{z0 l0:Nat}{k0:Nat->Nat}{p0 d0:Nat->Nat->Int}{n m:Nat}{N1:Nat}{K1:Nat->Int}{L1:Nat->Nat}{p1 d1:Nat->Nat->Int}(h0:∀r,r<l0->∀c,c<k0 r->Wd64 (p0 r c)/\Wd64 (d0 r c))(hn:z0%5=n)(hm:min l0 n=m)(h1:m≠0)(h2:m≠n):CallOK Tryz.prog 10 [.agg (c2 (.ex (.int .u8 (z0:Int))) (.sl 1 (gE k0 p0 d0) l0)),.sl 2 (λi0=>.agg (c2 (iZ (K1 i0)) (.sl 2 (λi1=>.agg (c2 (iZ (p1 i0 i1)) (iZ (d1 i0 i1)))) (L1 i0)))) N1] (.ex (.pointer none)) []:=by
 have hn5:n<=5:=by omega
 exact kP (ch:=[.reg 1 [(1,.callS (c2 (.sl 1 (λi0=>.sl 3 (λi1=>.rat (gQ k0 p0 d0 i0 i1)) n) m) (.agg (c2 (.sl 1 (λi0=>.sl 3 (λi1=>.qt (gQ k0 p0 d0 i0 i1)) n) m) (iN n)))) [])],.reg 2 [(1,.call [.sl 1 (mE (gQ k0 p0 d0) n) m] (c2 (.ex (.pointer none)) (.ifc 113 (.ep (.agg (c3 (.ex (.string sCol)) (iN 0) (.ex (.iface 63 (.int .i64 2)))))))) [])],.dec 25 true]) Tryz.func10 ((∀j0,j0<l0->(∀j1,j1<(k0 j0)->True))/\(∀j0,j0<N1->(∀j1,j1<(L1 j0)->True))/\(CallOK Tryz.prog 29 [.agg (c2 (.ex (.int .u8 (z0:Int))) (.sl 1 (gE k0 p0 d0) l0))] (c2 (.sl 1 (λi0=>.sl 3 (λi1=>.rat (gQ k0 p0 d0 i0 i1)) n) m) (.agg (c2 (.sl 1 (λi0=>.sl 3 (λi1=>.qt (gQ k0 p0 d0 i0 i1)) n) m) (iN n)))) [])/\(CallOK Tryz.prog 13 [.sl 1 (mE (gQ k0 p0 d0) n) m] (c2 (.ex (.pointer none)) (.ifc 113 (.ep (.agg (c3 (.ex (.string sCol)) (iN 0) (.ex (.iface 63 (.int .i64 2)))))))) [])/\_/\(∀j0,j0<m->((n:Nat)=n)/\(∀j1,j1<n->((gQ k0 p0 d0 j0 j1:Rat)=((gQ k0 p0 d0) j0 j1))))/\_/\((!(!false))=true->((!false)==false)=true)/\((bif (!false) then true else(true&&true))=true)/\(((.pointer none:Value)=.pointer none)))
  ⟨(λ_ _=>(λ_ _=>trivial)),(λ_ _=>(λ_ _=>trivial)),(sColumns h0 hn hm),(sBNew_len (C:=(gQ k0 p0 d0)) (len:=λ_=>n) (k:=0) zo zo (λi hi=>absurd hi (Nat.not_lt_zero i)) (λe=>h2 e.symm)),(rf m),(λj0 hj0=>⟨rfl,(λj1 hj1=>rfl)⟩),(idB ((!false)==false)),zs,rfl,rfl⟩
theorem sPlayed_sing{z0 l0:Nat}{k0:Nat->Nat}{p0 d0:Nat->Nat->Int}{n m:Nat}{N1:Nat}{K1:Nat->Int}{L1:Nat->Nat}{p1 d1:Nat->Nat->Int}(h0:∀r,r<l0->∀c,c<k0 r->Wd64 (p0 r c)/\Wd64 (d0 r c))(hn:z0%5=n)(hm:min l0 n=m)(hmn:m=0∨m=n)(hok:¬luOK m (trM (gQ k0 p0 d0)) m):CallOK Tryz.prog 10 [.agg (c2 (.ex (.int .u8 (z0:Int))) (.sl 1 (gE k0 p0 d0) l0)),.sl 2 (λi0=>.agg (c2 (iZ (K1 i0)) (.sl 2 (λi1=>.agg (c2 (iZ (p1 i0 i1)) (iZ (d1 i0 i1)))) (L1 i0)))) N1] (.ex (.pointer none)) []:=by
 have hn5:n<=5:=by omega
 exact kP (ch:=[.reg 1 [(1,.callS (c2 (.sl 1 (λi0=>.sl 3 (λi1=>.rat (gQ k0 p0 d0 i0 i1)) n) m) (.agg (c2 (.sl 1 (λi0=>.sl 3 (λi1=>.qt (gQ k0 p0 d0 i0 i1)) n) m) (iN n)))) [])],.reg 2 [(1,.call [.sl 1 (mE (gQ k0 p0 d0) m) m] (c2 (.ex (.pointer none)) (.ex (.iface 63 (.int .i64 140)))) [])],.dec 25 true]) Tryz.func10 ((∀j0,j0<l0->(∀j1,j1<(k0 j0)->True))/\(∀j0,j0<N1->(∀j1,j1<(L1 j0)->True))/\(CallOK Tryz.prog 29 [.agg (c2 (.ex (.int .u8 (z0:Int))) (.sl 1 (gE k0 p0 d0) l0))] (c2 (.sl 1 (λi0=>.sl 3 (λi1=>.rat (gQ k0 p0 d0 i0 i1)) n) m) (.agg (c2 (.sl 1 (λi0=>.sl 3 (λi1=>.qt (gQ k0 p0 d0 i0 i1)) n) m) (iN n)))) [])/\(CallOK Tryz.prog 13 [.sl 1 (mE (gQ k0 p0 d0) m) m] (c2 (.ex (.pointer none)) (.ex (.iface 63 (.int .i64 140)))) [])/\_/\(∀j0,j0<m->((n:Nat)=m)/\(∀j1,j1<n->((gQ k0 p0 d0 j0 j1:Rat)=((gQ k0 p0 d0) j0 j1))))/\_/\((!(!false))=true->((!false)==false)=true)/\((bif (!false) then true else(true&&true))=true)/\(((.pointer none:Value)=.pointer none)))
  ⟨(λ_ _=>(λ_ _=>trivial)),(λ_ _=>(λ_ _=>trivial)),(sColumns h0 hn hm),(sBNew_sing (C:=(gQ k0 p0 d0)) zo (gQ_htB h0 zo zo) hok),(rf m),(λj0 hj0=>⟨zo,(λj1 hj1=>rfl)⟩),(idB ((!false)==false)),zs,rfl,rfl⟩
def basOK (m n:Nat) (C:Nat->Nat->Rat):Prop:=(m=0∨m=n)/\luOK m (trM C) m
theorem sPlayedNo{z0 l0:Nat}{k0:Nat->Nat}{p0 d0:Nat->Nat->Int}{n m:Nat}{N1:Nat}{K1:Nat->Int}{L1:Nat->Nat}{p1 d1:Nat->Nat->Int}(h0:∀r,r<l0->∀c,c<k0 r->Wd64 (p0 r c)/\Wd64 (d0 r c))(hn:z0%5=n)(hm:min l0 n=m)(hno:¬basOK m n (gQ k0 p0 d0)):CallOK Tryz.prog 10 [.agg (c2 (.ex (.int .u8 (z0:Int))) (.sl 1 (gE k0 p0 d0) l0)),.sl 2 (λi0=>.agg (c2 (iZ (K1 i0)) (.sl 2 (λi1=>.agg (c2 (iZ (p1 i0 i1)) (iZ (d1 i0 i1)))) (L1 i0)))) N1] (.ex (.pointer none)) []:=by
 by_cases h1:m=0∨m=n
 ·exact sPlayed_sing h0 hn hm h1 λh=>hno ⟨h1,h⟩
 ·exact sPlayed_len h0 hn hm (λe=>h1 (.inl e)) λe=>h1 (.inr e)
end Go.Proofs.YtgighdoacajmfaaGreatDoor
