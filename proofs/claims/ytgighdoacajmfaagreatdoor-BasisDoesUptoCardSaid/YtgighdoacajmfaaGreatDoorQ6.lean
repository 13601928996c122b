/- The parts SR, SR2, SR3, SR4, SR5, SK, SX, SIR, Eta, Err, Err2, BA, BS. -/
import Derived.Test.YtgighdoacajmfaaGreatDoorQ5
set_option maxRecDepth 100000
namespace Go.Proofs.YtgighdoacajmfaaGreatDoor
open Go.RowKit
def SV.dgs (x n:Nat):SV:=.sl 1 (λi=>iN (dg x i)) n
theorem bifT{P Q:Prop} [Decidable P] [Decidable Q](h:(bif decide P then decide Q else false)=true):P/\Q:=by
 by_cases p:P
 ·exact⟨p,by simpa [p] using h⟩
 ·simp[p] at h
theorem bifF{P Q:Prop} [Decidable P] [Decidable Q](h:(bif decide P then decide Q else false)=false):¬(P/\Q):=λ⟨p,q⟩=>by simp[p,q] at h
theorem orT{P Q:Prop} [Decidable P] [Decidable Q](h:(bif decide P then true else decide Q)=true):P∨Q:=by
 by_cases p:P
 ·exact .inl p
 ·exact .inr (by simpa [p] using h)
theorem orF{P Q:Prop} [Decidable P] [Decidable Q](h:(bif decide P then true else decide Q)=false):¬P/\¬Q:=by
 by_cases p:P
 ·simp[p] at h
 ·exact⟨p,by simpa [p] using h⟩
theorem quo_u64{a h:Nat}(ha:a<18446744073709551616):IntKind.wrap .u64 ((((a/65536^h:Nat):Int)).tdiv 65536)=((a/65536^(h+1):Nat):Int):=by
 have e:(((a/65536^h:Nat):Int)).tdiv 65536=((a/65536^h/65536:Nat):Int):=rfl
 have h1:=Nat.div_le_self a (65536^h)
 rw[e,Nat.pow_succ,←Nat.div_div_eq_div_mul,IntKind.wrap_u64]
 generalize a/65536^h=v at*
 omega
theorem quo_i64{a b:Nat}(ha:a<9223372036854775808):IntKind.wrap .i64 ((a:Int).tdiv (b:Int))=((a/b:Nat):Int):=by
 have e:((a:Int)).tdiv (b:Int)=((a/b:Nat):Int):=rfl
 have h1:=Nat.div_le_self a b
 rw[e,IntKind.wrap_i64]
 generalize a/b=v at*
 omega
theorem dg_val{w:Nat->Nat}{n g k:Nat}(hw:Wf w n)(hg:g<n)(hk:k<4):dg (val w n) (4*g+k)=w g/65536^k%65536:=by
 have h:=wd_val w n g hw hg
 unfold wd at h
 unfold dg
 rw[show 16*(4*g+k)=64*g+16*k by omega,Nat.pow_add,←Nat.div_div_eq_div_mul,←h]
 generalize val w n/2^(64*g)=v
 match k,hk with
 | 0,_=>omega
 | 1,_=>show v/65536%65536=v%18446744073709551616/65536%65536;omega
 | 2,_=>show v/4294967296%65536=v%18446744073709551616/4294967296%65536;omega
 | 3,_=>show v/281474976710656%65536=v%18446744073709551616/281474976710656%65536;omega
theorem val_dg{w:Nat->Nat}{n:Nat}(hw:Wf w n):val w n<2^(16*(4*n)):=by
 rw[show 16*(4*n)=64*n by omega];exact val_lt w n hw
theorem or3T{P Q R:Prop} [Decidable P] [Decidable Q] [Decidable R](h:(bif (bif decide P then true else decide Q) then true else decide R)=true):P∨Q∨R:=by
 by_cases p:P
 ·exact .inl p
 ·by_cases q:Q
  ·exact .inr (.inl q)
  ·exact .inr (.inr (by simpa [p,q] using h))
theorem or3F{P Q R:Prop} [Decidable P] [Decidable Q] [Decidable R](h:(bif (bif decide P then true else decide Q) then true else decide R)=false):¬P/\¬Q/\¬R:=by
 by_cases p:P
 ·simp[p] at h
 ·by_cases q:Q
  ·simp[p,q] at h
  ·exact⟨p,q,by simpa [p,q] using h⟩
theorem mul_i64{a b:Nat}(h:a*b<9223372036854775808):IntKind.wrap .i64 ((a:Int)*(b:Int))=((a*b:Nat):Int):=by
 rw[←Int.natCast_mul,IntKind.wrap_i64];omega
theorem pow_i64{g:Nat}(h:g<62):IntKind.wrap .i64 ((2:Int)*((2^g:Nat):Int))=((2^(g+1):Nat):Int):=by
 have h1:2^g<=2^61:=Nat.pow_le_pow_right zd zo
 have h2:(2:Nat)^61=2305843009213693952:=by decide
 rw[Nat.pow_succ,IntKind.wrap_i64];omega
theorem dg_shl{x k g j:Nat}(h:g=k/16):dg (x*2^(k%16)) j=dg (x*2^k) (g+j):=by
 rw[dg_mul_pow (x:=x) (k:=k) (i:=g+j),if_neg zo,show g+j-k/16=j by omega]
theorem dg_shl0{x k g:Nat}(h:g<k/16):dg (x*2^k) g=0:=by rw[dg_mul_pow,if_pos h]
theorem pow16_le{k:Nat}:2^(k%16)<=32768:=Nat.pow_le_pow_right zd (show k%16<=15 by omega)
def dn (g y i:Nat):Nat:=if g<=i then dg y i else 0
theorem dn_lo{g y i:Nat}(h:i<g):dn g y i=0:=if_neg zo
theorem dn_hi{g y i:Nat}(h:g<=i):dn g y i=dg y i:=if_pos h
theorem dn_ne{g y t:Nat}(h:t≠g-1):dn (g-1) y t=dn g y t:=by
 unfold dn
 by_cases e:g<=t
 ·rw[if_pos e,if_pos zo]
 ·rw[if_neg e,if_neg zo]
theorem half_at{x m g:Nat}(hm:0<m)(hg:0<g):(x/2^(16*g)%m*65536+dg x (g-1))%m=x/2^(16*(g-1))%m/\(x/2^(16*g)%m*65536+dg x (g-1))/m=dg (x/m) (g-1):=by
 have h:=half_step (x:=x) hm (g-1)
 rw[show g-1+1=g by omega] at h
 exact h
theorem mul_at{x y g:Nat}(hg:0<g):x*(y/2^(16*g))*2^16+x*dg y (g-1)=x*(y/2^(16*(g-1))):=by
 have h:=xA y (g-1)
 rw[show g-1+1=g by omega] at h
 rw[h,Nat.mul_add,Nat.mul_assoc]
theorem nd_zero_div{y:Nat}:y/2^(16*nd y)=0:=Nat.div_eq_of_lt (lt_nd y)
theorem even_dg(x:Nat):x%2=dg x 0%2:=by
 unfold dg
 simp only[Nat.mul_zero,Nat.pow_zero,Nat.div_one]
 omega
theorem nd_div(x y:Nat):nd (x/y)<=nd x:=kU (Nat.div_le_self x y)
theorem nd_mod(x y:Nat):nd (x%y)<=nd x:=kU (Nat.mod_le x y)
theorem nd_one:nd 1=1:=rfl
theorem nd_dg(x i:Nat):nd (dg x i)<=1:=(nd_le _ 1).2 (jH x i)
theorem nd_sh16(x:Nat):nd (x*2^16)<=nd x+1:=by
 have h:=lt_nd x
 rw[nd_le,p16,Nat.mul_comm x]
 exact Nat.mul_lt_mul_of_pos_left h zd
theorem nd_x2(x:Nat):nd (x*2)<=nd x+1:=by
 have:=nd_mul x 2
 have:nd 2=1:=rfl
 omega
theorem sTrim{x n:Nat}(hn:n<=68719476736)(hx:x<2^(16*n)):CallOK Tryz.prog 136 [.dgs x n] (.dgs x (nd x)) []:=by
 exact kP (ch:=[.loop 2 (Nat) (λg=>g<=n/\x<2^(16*g)) (λg=>g) (λg=>⟨[(0,.dgs x n),(3,iN g)],[],0⟩) [] (λ_=>[]) (λg=>[.reg 2 [(6,.k (g-1))],.reg 5 [(3,.kk 0 g),(4,.row 0 (λi0=>iN (dg x i0)))]])]) Tryz.func136 ((∀j0,j0<n->True)/\(((λX1 X2:Prop=>∃g0:Nat,X1/\X2/\((n:Int)=(g0:Int))/\(g0<=n/\x<2^(16*g0))) _ _)/\∀g:Nat,(g<=n/\x<2^(16*g))->_/\(((decide ((0:Int)<(g:Int)))==true)=true->IntKind.wrap .i64 ((g:Int)-1)=((g:Int)-1))/\_/\_/\(((decide ((0:Int)<(g:Int)))==true)=true->((g:Int)-1:Int)=((g-1:Nat):Int))/\(((decide ((0:Int)<(g:Int)))==true)=true->(g-1)<n)/\_/\_/\((decide ((0:Int)<(g:Int)))=true->((decide ((0:Int)<(g:Int)))==true)=true)/\(((bif (decide ((0:Int)<(g:Int))) then(decide (((dg x (g-1):Nat):Int)=0)) else false)=true->(IntKind.wrap .i64 ((g:Int)-1)=((g:Int)-1))/\((λX1 X2:Prop=>∃g1:Nat,X1/\X2/\(((g:Int)-1:Int)=(g1:Int))/\(g1<=n/\x<2^(16*g1))/\(g1<g)) _ _))/\((bif (decide ((0:Int)<(g:Int))) then(decide (((dg x (g-1):Nat):Int)=0)) else false)=false->_/\(g<=n)/\(g<=68719476736)/\_/\(((g:Nat)=(nd x))/\_)))))
  ⟨(λ_ _=>trivial),⟨n,(rf n),(leS (λi0=>iN (dg x i0)) n),zo,Nat.le_refl _,hx⟩,λg hg=>have hg1:=hg.1;⟨(idB ((decide ((0:Int)<(g:Int)))==true)),(λhg=>(by rw[IntKind.wrap_i64];omega)),(idB ((decide ((0:Int)<(g:Int)))==true)),(idB ((decide ((0:Int)<(g:Int)))==true)),(λhg=>(by simp at hg;omega)),(λhg=>(by simp at hg;omega)),(idB ((decide ((0:Int)<(g:Int)))==true)),(idB ((decide ((0:Int)<(g:Int)))==true)),(by first | (simp;done) | (simp;omega)),λhc16=>have hc:=bifT hc16;⟨(by rw[IntKind.wrap_i64];omega),g-1,(rf n),(leS (λi0=>iN (dg x i0)) n),zo,⟨by omega,nd_step (by rw[show g-1+1=g by omega];exact hg.2) zo⟩,zo⟩,λhc16=>have hc:=bifF hc16;have hnd:=nd_end hg.2 zo;⟨(rf (g:Int)),zo,zo,(leS (λi0=>iN (dg x i0)) g),hnd.symm,(leS (λi0=>iN (dg x i0)) g)⟩⟩⟩
theorem sRefOf{w:Nat->Nat}{n:Nat}(hn:n<=1073741824)(hw:Wf w n):CallOK Tryz.prog 104 [.sl 1 (λi0=>uZ (w i0:Int)) n] (.dgs (val w n) (nd (val w n))) []:=by
 exact kP (ch:=[.loop 3 (Nat) (λg=>g<=n) (λg=>n-g) (λg=>⟨[(0,.sl 1 (λi0=>uZ (w i0:Int)) n),(3,.own 0 0),(4,iN g)],[(0,.one (.row 3 1 (λi0=>iN (dg (val w n) i0)) (4*g)))],1⟩) [(0,.nil)] (λ_=>[(0,.id 0)]) (λg=>[.reg 5 [(2,.k g)],.loop 7 (Nat) (λh=>h<=4) (λh=>4-h) (λh=>⟨[(0,.sl 1 (λi0=>uZ (w i0:Int)) n),(3,.own 0 0),(4,iN g),(5,uZ ((w g/65536^h:Nat):Int)),(6,iN h)],[(0,.one (.row 3 1 (λi0=>iN (dg (val w n) i0)) (4*g+h)))],1⟩) [(0,.id 0)] (λ_=>[(0,.id 1)]) (λh=>[.reg 9 [(2,.z (dg (val w n) (4*g+h):Int)),(3,.z (dg (val w n) (4*g+h):Int)),(5,.row 0 (λi0=>iN (dg (val w n) i0)))],.reg 10 [(1,.z ((w g/65536^(h+1):Nat):Int))],.reg 8 [(1,.z ((h+1:Nat):Int))],.reg 4 [(1,.z ((g+1:Nat):Int))]]),.conv 11 [] ⟨[(3,.dgs (val w n) (4*g))],[],1⟩,.reg 11 [(1,.callS (.dgs (val w n) (nd (val w n))) [])]])]) Tryz.func104 ((∀j0,j0<n->True)/\(((λX1 X2 X3:Prop=>∃g0:Nat,X1/\X2/\X3/\((0:Int)=(g0:Int))/\((4*g0:Nat)=0)/\(g0<=n)) _ _ _)/\∀g:Nat,(g<=n)->(((decide ((g:Int)<(n:Int)))=true->_/\(g<n)/\(((λX1 X2 X3 X4 X5:Prop=>∃h0:Nat,X1/\X2/\X3/\X4/\(((w g:Nat):Int)=((w g/65536^h0:Nat):Int))/\((0:Int)=(h0:Int))/\((4*g:Nat)=(4*g+h0))/\X5/\(h0<=4)) _ _ _ _ _)/\∀h:Nat,(h<=4)->(((decide ((h:Int)<4))=true->((65536:Int)≠0)/\(((w g/65536^h:Nat):Int).tmod 65536=(((dg (val w n) (4*g+h):Nat):Int)))/\(IntKind.wrap .i64 (dg (val w n) (4*g+h):Int)=(((dg (val w n) (4*g+h):Nat):Int)))/\((4*g+h)+1<=68719476736)/\_/\_/\((65536:Int)≠0)/\(IntKind.wrap .u64 (((w g/65536^h:Nat):Int).tdiv 65536)=(((w g/65536^(h+1):Nat):Int)))/\_/\((λX1 X2 X3 X4 X5:Prop=>∃h1:Nat,X1/\X2/\X3/\X4/\(((w g/65536^(h+1):Nat):Int)=((w g/65536^h1:Nat):Int))/\(((h+1:Nat):Int)=(h1:Int))/\(((4*g+h)+1:Nat)=(4*g+h1))/\X5/\(h1<=4)/\(4-h1<4-h)) _ _ _ _ _))/\((decide ((h:Int)<4))=false->_/\((λX1 X2 X3 X4:Prop=>∃g1:Nat,X1/\X2/\X3/\(((g+1:Nat):Int)=(g1:Int))/\((4*g+h:Nat)=(4*g1))/\X4/\(g1<=n)/\(n-g1<n-g)) _ _ _ _)))))/\((decide ((g:Int)<(n:Int)))=false->_/\_/\_/\(_/\_)))))
  ⟨(λ_ _=>trivial),⟨0,(rf n),(leS (λi0=>uZ (w i0:Int)) n),(rf 0),zo,zo,zo⟩,λg hg=>⟨λhc10=>have hc10:=dT hc10;have hgn:g<n:=zo;⟨(rf (g:Int)),zo,⟨0,(rf n),(leS (λi0=>uZ (w i0:Int)) n),(rf 0),(rf (g:Int)),zs,zo,zo,(leS (λi0=>iN (dg (val w n) i0)) (4*g)),zo⟩,λh hh=>⟨λhc18=>have hc18:=dT hc18;have hwd:=dg_val hw hgn (k:=h) zo;have hd:=jH (val w n) (4*g+h);⟨zd,(by rw[hwd];rfl),(by rw[IntKind.wrap_i64];omega),zo,(oldS (λi0=>iN (dg (val w n) i0)) (4*g+h)),(newS (λi0=>iN (dg (val w n) i0)) (4*g+h)),zd,(quo_u64 (hw g hgn)),(wI (g:=h) zo),h+1,(rf n),(leS (λi0=>uZ (w i0:Int)) n),(rf 0),(rf (g:Int)),zo,zo,zo,(leS (λi0=>iN (dg (val w n) i0)) ((4*g+h)+1)),zo,zo⟩,λhc18=>have hc18:=dF hc18;have hi3:h=4:=zo;⟨(wI (g:=g) zo),g+1,(rf n),(leS (λi0=>uZ (w i0:Int)) n),(rf 0),zo,zo,(leS (λi0=>iN (dg (val w n) i0)) (4*g+h)),zo,zo⟩⟩⟩,λhc10=>have hc10:=dF hc10;have hi2:g=n:=zo;⟨(rf (4*g:Nat)),(leS (λi0=>iN (dg (val w n) i0)) (4*g)),sTrim (x:=val w n) (n:=4*g) zo (by subst hi2;exact val_dg hw),(rf (nd (val w n):Nat)),(leS (λi0=>iN (dg (val w n) i0)) (nd (val w n)))⟩⟩⟩
theorem sDigit{x k:Nat}:CallOK Tryz.prog 162 [.dgs x (nd x),iN k] (iN (dg x k)) []:=by
 exact kP (ch:=[.reg 3 [(2,.k k)]]) Tryz.func162 ((∀j0,j0<(nd x)->True)/\_/\_/\_/\((!(decide ((k:Int)<0)))=true->((decide ((k:Int)<0))==false)=true)/\(((bif (decide ((k:Int)<0)) then true else(decide (((nd x:Nat):Int)<=(k:Int))))=true->(((0:Int)=(dg x k:Int))))/\((bif (decide ((k:Int)<0)) then true else(decide (((nd x:Nat):Int)<=(k:Int))))=false->_/\(k<(nd x))/\(_))))
  ⟨(λ_ _=>trivial),(idB ((decide ((k:Int)<0))==false)),(idB ((decide ((k:Int)<0))==false)),(idB ((decide ((k:Int)<0))==false)),(by first | (simp;done) | (simp;omega)),λhc12=>have hc:=orT hc12;have hz:=dg_nd (x:=x) (i:=k) zo;zo,λhc12=>have hc:=orF hc12;⟨(rf (k:Int)),zo,(rf (dg x k:Int))⟩⟩
theorem sRefAdd{x y:Nat}(hx:nd x<=17179869184)(hy:nd y<=17179869184):CallOK Tryz.prog 139 [.dgs x (nd x),.dgs y (nd y)] (.dgs (x+y) (nd (x+y))) []:=by
 exact kP (ch:=[.loop 4 (Nat) (λg=>g<=max (nd x) (nd y)+1) (λg=>max (nd x) (nd y)+1-g) (λg=>⟨[(0,.dgs x (nd x)),(1,.dgs y (nd y)),(5,.own 0 0),(6,iN (cry x y g)),(7,iN g)],[(0,.one (.row 3 1 (λi0=>iN (dg (x+y) i0)) g))],1⟩) [(0,.nil)] (λ_=>[(0,.id 1)]) (λg=>[.reg 6 [(2,.callS (iN (dg x g)) []),(5,.callS (iN (dg y g)) []),(6,.z ((dg x g+dg y g:Nat):Int)),(8,.z ((dg x g+dg y g+cry x y g:Nat):Int))],.reg 7 [(2,.z (dg (x+y) g:Int)),(4,.row 0 (λi0=>iN (dg (x+y) i0)))],.reg 8 [(1,.z (cry x y (g+1):Int))],.reg 5 [(1,.z ((g+1:Nat):Int))],.conv 9 [] ⟨[(5,.dgs (x+y) g)],[],1⟩,.reg 9 [(1,.callS (.dgs (x+y) (nd (x+y))) [])]])]) Tryz.func139 ((∀j0,j0<(nd x)->True)/\(∀j0,j0<(nd y)->True)/\(((λX1 X2 X3 X4 X5:Prop=>∃g0:Nat,X1/\X2/\X3/\X4/\X5/\((0:Int)=(cry x y g0:Int))/\((0:Int)=(g0:Int))/\((g0:Nat)=0)/\(g0<=max (nd x) (nd y)+1)) _ _ _ _ _)/\∀g:Nat,(g<=max (nd x) (nd y)+1)->_/\_/\_/\((!(decide ((g:Int)<(nd x:Int))))=true->((decide ((g:Int)<(nd x:Int)))==false)=true)/\_/\((!(bif (decide ((g:Int)<(nd x:Int))) then true else(decide ((g:Int)<(nd y:Int)))))=true->((bif (decide ((g:Int)<(nd x:Int))) then true else(decide ((g:Int)<(nd y:Int))))==false)=true)/\(((bif (bif (decide ((g:Int)<(nd x:Int))) then true else(decide ((g:Int)<(nd y:Int)))) then true else(decide ((0:Int)<(cry x y g:Int))))=true->_/\_/\(IntKind.wrap .i64 (((dg x g:Nat):Int)+(dg y g:Int))=(((dg x g+dg y g:Nat):Int)))/\(IntKind.wrap .i64 (((dg x g+dg y g:Nat):Int)+(cry x y g:Int))=(((dg x g+dg y g+cry x y g:Nat):Int)))/\((65536:Int)≠0)/\(((dg x g+dg y g+cry x y g:Nat):Int).tmod 65536=(((dg (x+y) g:Nat):Int)))/\(g+1<=68719476736)/\_/\_/\((65536:Int)≠0)/\(IntKind.wrap .i64 (((dg x g+dg y g+cry x y g:Nat):Int).tdiv 65536)=(((cry x y (g+1):Nat):Int)))/\_/\((λX1 X2 X3 X4 X5 X6:Prop=>∃g1:Nat,X1/\X2/\X3/\X4/\X5/\(((cry x y (g+1):Nat):Int)=(cry x y g1:Int))/\(((g+1:Nat):Int)=(g1:Int))/\((g+1:Nat)=g1)/\X6/\(g1<=max (nd x) (nd y)+1)/\(max (nd x) (nd y)+1-g1<max (nd x) (nd y)+1-g)) _ _ _ _ _ _))/\((bif (bif (decide ((g:Int)<(nd x:Int))) then true else(decide ((g:Int)<(nd y:Int)))) then true else(decide ((0:Int)<(cry x y g:Int))))=false->_/\_/\_/\(_/\_)))))
  ⟨(λ_ _=>trivial),(λ_ _=>trivial),⟨0,(rf (nd x:Nat)),(leS (λi0=>iN (dg x i0)) (nd x)),(rf (nd y:Nat)),(leS (λi0=>iN (dg y i0)) (nd y)),(rf 0),(by rw[cry_zero];rfl),zo,zo,zo⟩,λg hg=>⟨(idB ((decide ((g:Int)<(nd x:Int)))==false)),(idB ((decide ((g:Int)<(nd x:Int)))==false)),(idB ((decide ((g:Int)<(nd x:Int)))==false)),(by simp;done),(idB ((bif (decide ((g:Int)<(nd x:Int))) then true else(decide ((g:Int)<(nd y:Int))))==false)),(by simp;done),λhc22=>have hc:=or3T hc22;have ho:max (nd x) (nd y)<g->cry x y g=0:=(λh=>cry_over zo zo);have h1:=jH x g;have h2:=jH y g;have h3:=cry_le x y g;⟨sDigit (x:=x) (k:=g),sDigit (x:=y) (k:=g),(by rw[IntKind.wrap_i64];omega),(by rw[IntKind.wrap_i64];omega),zd,(by rw[←(cry_step x y g).2];rfl),zo,(oldS (λi0=>iN (dg (x+y) i0)) g),(newS (λi0=>iN (dg (x+y) i0)) g),zd,(by rw[←(cry_step x y g).1];exact quo_i64 zo),(wI (g:=g) zo),g+1,(rf (nd x:Nat)),(leS (λi0=>iN (dg x i0)) (nd x)),(rf (nd y:Nat)),(leS (λi0=>iN (dg y i0)) (nd y)),(rf 0),zo,zo,zo,(leS (λi0=>iN (dg (x+y) i0)) (g+1)),zo,zo⟩,λhc22=>have hc:=or3F hc22;⟨(rf g),(leS (λi0=>iN (dg (x+y) i0)) g),sTrim (x:=x+y) (n:=g) zo (cry_top zo zo zo),(rf (nd (x+y):Nat)),(leS (λi0=>iN (dg (x+y) i0)) (nd (x+y)))⟩⟩⟩
theorem sRefSub{x y:Nat}(hx:nd x<=17179869184)(hyx:y<=x):CallOK Tryz.prog 143 [.dgs x (nd x),.dgs y (nd y)] (.dgs (x-y) (nd (x-y))) []:=by
 have hy:=kU hyx
 exact kP (ch:=[.loop 4 (Nat) (λg=>g<=nd x) (λg=>(nd x)-g) (λg=>⟨[(0,.dgs x (nd x)),(1,.dgs y (nd y)),(5,.own 0 0),(6,iN (brw x y g)),(7,iN g)],[(0,.one (.row 3 1 (λi0=>iN (dg (x-y) i0)) g))],1⟩) [(0,.nil)] (λ_=>[(0,.id 1)]) (λg=>[.reg 6 [(2,.k g),(6,.callS (iN (dg y g)) [])],.reg 9 [(1,.z (dg (x-y) g:Int))],.reg 11 [(3,.row 0 (λi0=>iN (dg (x-y) i0)))],.reg 5 [(1,.z ((g+1:Nat):Int))],.reg 11 [(3,.row 0 (λi0=>iN (dg (x-y) i0)))],.reg 5 [(1,.z ((g+1:Nat):Int))],.conv 12 [] ⟨[(5,.dgs (x-y) g)],[],1⟩,.reg 12 [(1,.callS (.dgs (x-y) (nd (x-y))) [])]])]) Tryz.func143 ((∀j0,j0<(nd x)->True)/\(∀j0,j0<(nd y)->True)/\(((λX1 X2 X3 X4 X5:Prop=>∃g0:Nat,X1/\X2/\X3/\X4/\X5/\((0:Int)=(brw x y g0:Int))/\((0:Int)=(g0:Int))/\((g0:Nat)=0)/\(g0<=nd x)) _ _ _ _ _)/\∀g:Nat,(g<=nd x)->(((decide ((g:Int)<(nd x:Int)))=true->_/\(g<(nd x))/\_/\(IntKind.wrap .i64 (((dg x g:Nat):Int)-(dg y g:Int))=(((dg x g:Nat):Int)-(dg y g:Int)))/\(IntKind.wrap .i64 (((dg x g:Int)-(dg y g:Int):Int)-(brw x y g:Int))=(((dg x g:Int)-(dg y g:Int):Int)-(brw x y g:Int)))/\(((decide (((((dg x g:Nat):Int)-(dg y g:Int):Int)-(brw x y g:Int):Int)<0))=true->(IntKind.wrap .i64 (((((dg x g:Nat):Int)-(dg y g:Int):Int)-(brw x y g:Int):Int)+65536)=(((dg (x-y) g:Nat):Int)))/\(g+1<=68719476736)/\_/\(∀j0,j0<1->(((dg (x-y) g:Nat):Int)=(dg (x-y) (g+j0):Int)))/\_/\((λX1 X2 X3 X4 X5 X6:Prop=>∃g1:Nat,X1/\X2/\X3/\X4/\X5/\((1:Int)=(brw x y g1:Int))/\(((g+1:Nat):Int)=(g1:Int))/\((g+1:Nat)=g1)/\X6/\(g1<=nd x)/\((nd x)-g1<(nd x)-g)) _ _ _ _ _ _))/\((decide (((((dg x g:Nat):Int)-(dg y g:Int):Int)-(brw x y g:Int):Int)<0))=false->(g+1<=68719476736)/\_/\(∀j0,j0<1->(((((dg x g:Nat):Int)-(dg y g:Int):Int)-(brw x y g:Int):Int)=(dg (x-y) (g+j0):Int)))/\_/\((λX1 X2 X3 X4 X5 X6:Prop=>∃g1:Nat,X1/\X2/\X3/\X4/\X5/\((0:Int)=(brw x y g1:Int))/\(((g+1:Nat):Int)=(g1:Int))/\((g+1:Nat)=g1)/\X6/\(g1<=nd x)/\((nd x)-g1<(nd x)-g)) _ _ _ _ _ _))))/\((decide ((g:Int)<(nd x:Int)))=false->_/\_/\_/\(_/\_)))))
  ⟨(λ_ _=>trivial),(λ_ _=>trivial),⟨0,(rf (nd x:Nat)),(leS (λi0=>iN (dg x i0)) (nd x)),(rf (nd y:Nat)),(leS (λi0=>iN (dg y i0)) (nd y)),(rf 0),(by rw[brw_zero];rfl),zo,zo,zo⟩,λg hg=>⟨λhc12=>have hc12:=dT hc12;have h1:=jH x g;have h2:=jH y g;have h3:=brw_le x y g;have h4:=brw_step hyx g;⟨(rf (g:Int)),zo,sDigit (x:=y) (k:=g),(by rw[IntKind.wrap_i64];omega),(by rw[IntKind.wrap_i64];omega),λhc26=>have hc26:=dT hc26;have hb:=h4.1 zo;⟨(by rw[IntKind.wrap_i64];omega),zo,(oldS (λi0=>iN (dg (x-y) i0)) g),(λj0 hj0=>(by obtain rfl:j0=0:=zo;show _=(dg (x-y) g:Int);omega)),(wI (g:=g) zo),g+1,(rf (nd x:Nat)),(leS (λi0=>iN (dg x i0)) (nd x)),(rf (nd y:Nat)),(leS (λi0=>iN (dg y i0)) (nd y)),(rf 0),zo,zo,zo,(leS (λi0=>iN (dg (x-y) i0)) (g+1)),zo,zo⟩,λhc26=>have hc26:=dF hc26;have hb:=h4.2 zo;⟨zo,(oldS (λi0=>iN (dg (x-y) i0)) g),(λj0 hj0=>(by obtain rfl:j0=0:=zo;show _=(dg (x-y) g:Int);omega)),(wI (g:=g) zo),g+1,(rf (nd x:Nat)),(leS (λi0=>iN (dg x i0)) (nd x)),(rf (nd y:Nat)),(leS (λi0=>iN (dg y i0)) (nd y)),(rf 0),zo,zo,zo,(leS (λi0=>iN (dg (x-y) i0)) (g+1)),zo,zo⟩⟩,λhc12=>have hc12:=dF hc12;have hi2:g=nd x:=zo;⟨(rf g),(leS (λi0=>iN (dg (x-y) i0)) g),sTrim (x:=x-y) (n:=g) zo (kS (by have:=kU (Nat.sub_le x y);omega)),(rf (nd (x-y):Nat)),(leS (λi0=>iN (dg (x-y) i0)) (nd (x-y)))⟩⟩⟩
theorem sSmall{x m a:Nat}(hx:nd x<=17179869184)(hm:m<=65536)(ha:a<=65536):CallOK Tryz.prog 141 [.dgs x (nd x),iN m,iN a] (.dgs (x*m+a) (nd (x*m+a))) []:=by
 have hce:=cryM_end (m:=m) (a:=a) (lt_nd x) zo
 exact kP (ch:=[.loop 4 (Nat) (λg=>g<=nd x) (λg=>(nd x)-g) (λg=>⟨[(0,.dgs x (nd x)),(1,iN m),(7,.own 0 0),(8,iN (cryM x m a g)),(9,iN g)],[(0,.one (.row 3 1 (λi0=>iN (dg (x*m+a) i0)) g))],1⟩) [(0,.nil)] (λ_=>[(0,.id 1)]) (λg=>[.reg 6 [(2,.k g),(5,.z ((dg x g*m:Nat):Int)),(7,.z ((dg x g*m+cryM x m a g:Nat):Int))],.reg 7 [(2,.z (dg (x*m+a) g:Int)),(4,.row 0 (λi0=>iN (dg (x*m+a) i0)))],.reg 8 [(1,.z (cryM x m a (g+1):Int))],.reg 5 [(1,.z ((g+1:Nat):Int))],.reg 9 [(2,.z (dg (x*m+a) g:Int)),(4,.z (dg (x*m+a) (g+1):Int)),(5,.row 0 (λi0=>iN (dg (x*m+a) (g+i0)))),(6,.row 0 (λi0=>iN (dg (x*m+a) i0)))],.conv 10 [] ⟨[(7,.dgs (x*m+a) (g+2))],[],3⟩,.reg 10 [(1,.callS (.dgs (x*m+a) (nd (x*m+a))) [])]])]) Tryz.func141 ((∀j0,j0<(nd x)->True)/\(((λX1 X2 X3 X4:Prop=>∃g0:Nat,X1/\X2/\X3/\X4/\((a:Int)=(cryM x m a g0:Int))/\((0:Int)=(g0:Int))/\((g0:Nat)=0)/\(g0<=nd x)) _ _ _ _)/\∀g:Nat,(g<=nd x)->(((decide ((g:Int)<(nd x:Int)))=true->_/\(g<(nd x))/\(IntKind.wrap .i64 (((dg x g:Nat):Int)*(m:Int))=(((dg x g*m:Nat):Int)))/\(IntKind.wrap .i64 (((dg x g*m:Nat):Int)+(cryM x m a g:Int))=(((dg x g*m+cryM x m a g:Nat):Int)))/\((65536:Int)≠0)/\(((dg x g*m+cryM x m a g:Nat):Int).tmod 65536=(((dg (x*m+a) g:Nat):Int)))/\(g+1<=68719476736)/\_/\_/\((65536:Int)≠0)/\(IntKind.wrap .i64 (((dg x g*m+cryM x m a g:Nat):Int).tdiv 65536)=(((cryM x m a (g+1):Nat):Int)))/\_/\((λX1 X2 X3 X4 X5:Prop=>∃g1:Nat,X1/\X2/\X3/\X4/\(((cryM x m a (g+1):Nat):Int)=(cryM x m a g1:Int))/\(((g+1:Nat):Int)=(g1:Int))/\((g+1:Nat)=g1)/\X5/\(g1<=nd x)/\((nd x)-g1<(nd x)-g)) _ _ _ _ _))/\((decide ((g:Int)<(nd x:Int)))=false->((65536:Int)≠0)/\(((cryM x m a g:Nat):Int).tmod 65536=(((dg (x*m+a) g:Nat):Int)))/\((65536:Int)≠0)/\(IntKind.wrap .i64 (((cryM x m a g:Nat):Int).tdiv 65536)=(((dg (x*m+a) (g+1):Nat):Int)))/\(((dg (x*m+a) g:Nat):Int)=(dg (x*m+a) (g+0):Int))/\_/\(g+2<=68719476736)/\_/\(∀j0,j0<2->(((dg (x*m+a) (g+j0):Nat):Int)=(dg (x*m+a) (g+j0):Int)))/\_/\_/\_/\(_/\_)))))
  ⟨(λ_ _=>trivial),⟨0,(rf (nd x:Nat)),(leS (λi0=>iN (dg x i0)) (nd x)),(rf (m:Int)),(rf 0),(by rw[cryM_zero]),zo,zo,zo⟩,λg hg=>have h3:=cryM_le (x:=x) (m:=m) (a:=a) (g:=g);⟨λhc15=>have hc15:=dT hc15;have h1:=dgm_le (x:=x) (i:=g) hm;⟨(rf (g:Int)),zo,(mul_i64 zo),(by rw[IntKind.wrap_i64];omega),zd,(by rw[←(cryM_step x m a g).2];rfl),zo,(oldS (λi0=>iN (dg (x*m+a) i0)) g),(newS (λi0=>iN (dg (x*m+a) i0)) g),zd,(by rw[←(cryM_step x m a g).1];exact quo_i64 zo),(wI (g:=g) zo),g+1,(rf (nd x:Nat)),(leS (λi0=>iN (dg x i0)) (nd x)),(rf (m:Int)),(rf 0),zo,zo,zo,(leS (λi0=>iN (dg (x*m+a) i0)) (g+1)),zo,zo⟩,λhc15=>have hc15:=dF hc15;have hi2:g=nd x:=zo;⟨zd,(by subst hi2;rw[←hce.2.1];rfl),zd,(by subst hi2;rw[←hce.2.2];exact quo_i64 zo),rfl,(rf (dg (x*m+a) (g+1):Int)),zo,(oldS (λi0=>iN (dg (x*m+a) i0)) g),(λj0 hj0=>rfl),(rf (g+2:Nat)),(leS (λi0=>iN (dg (x*m+a) i0)) (g+2)),sTrim (x:=x*m+a) (n:=g+2) zo (by subst hi2;exact hce.1),(rf (nd (x*m+a):Nat)),(leS (λi0=>iN (dg (x*m+a) i0)) (nd (x*m+a)))⟩⟩⟩
theorem sSmall0{x m:Nat}(hx:nd x<=17179869184)(hm:m<=65536):CallOK Tryz.prog 141 [.dgs x (nd x),iN m,.ex (.int .i64 0)] (.dgs (x*m) (nd (x*m))) []:=sSmall (a:=0) hx hm zo
theorem sPower{k:Nat}(hk:k<=60):CallOK Tryz.prog 163 [iN k] (iN (2^k)) []:=by
 exact kP (ch:=[.loop 3 (Nat) (λg=>g<=k) (λg=>k-g) (λg=>⟨[(0,iN k),(3,iN (2^g)),(4,iN g)],[],0⟩) [] (λ_=>[]) (λg=>[.reg 5 [(1,.z ((2^(g+1):Nat):Int))],.reg 4 [(1,.z ((g+1:Nat):Int))]])]) Tryz.func163 ((((λX1:Prop=>∃g0:Nat,X1/\((1:Int)=((2^g0:Nat):Int))/\((0:Int)=(g0:Int))/\(g0<=k)) _)/\∀g:Nat,(g<=k)->(((decide ((g:Int)<(k:Int)))=true->(IntKind.wrap .i64 ((2:Int)*((2^g:Nat):Int))=(((2^(g+1):Nat):Int)))/\_/\((λX1:Prop=>∃g1:Nat,X1/\(((2^(g+1):Nat):Int)=((2^g1:Nat):Int))/\(((g+1:Nat):Int)=(g1:Int))/\(g1<=k)/\(k-g1<k-g)) _))/\((decide ((g:Int)<(k:Int)))=false->((((2^g:Nat):Int)=((2^k:Nat):Int)))))))
  ⟨⟨0,(rf (k:Int)),rfl,zo,zo⟩,λg hg=>⟨λhc7=>have hc7:=dT hc7;⟨(pow_i64 zo),(wI (g:=g) zo),g+1,(rf (k:Int)),zo,zo,zo,zo⟩,λhc7=>have hc7:=dF hc7;have hi2:g=k:=zo;(by rw[hi2])⟩⟩
theorem sRefShl{x k:Nat}(hx:nd x<=8589934592)(hk:k<=34359738368):CallOK Tryz.prog 140 [.dgs x (nd x),iN k] (.dgs (x*2^k) (nd (x*2^k))) []:=by
 have hp:=pow16_le (k:=k)
 have hq:=nd_mul x (2^(k%16))
 rw[nd_pow] at hq
 exact kP (ch:=[.loop 3 (Nat) (λg=>g<=k/16) (λg=>(k/16)-g) (λg=>⟨[(0,.dgs x (nd x)),(1,iN k),(5,.own 0 0),(6,iN g)],[(0,.one (.row 3 1 (λi0=>iN (dg (x*2^k) i0)) g))],1⟩) [(0,.nil)] (λ_=>[(0,.id 1)]) (λg=>[.reg 3 [(2,.z ((k/16:Nat):Int))],.reg 5 [(2,.row 0 (λi0=>iN (dg (x*2^k) i0)))],.reg 4 [(1,.z ((g+1:Nat):Int))],.reg 6 [(3,.z ((k%16:Nat):Int)),(4,.callS (iN (2^(k%16))) []),(5,.callS (.dgs (x*(2^(k%16))) (nd (x*(2^(k%16))))) []),(6,.row 0 (λi0=>iN (dg (x*2^k) i0)))],.conv 7 [] ⟨[(5,.dgs (x*2^k) (g+nd (x*2^(k%16))))],[],3⟩,.reg 7 [(1,.callS (.dgs (x*2^k) (nd (x*2^k))) [])]])]) Tryz.func140 ((∀j0,j0<(nd x)->True)/\(((λX1 X2 X3 X4:Prop=>∃g0:Nat,X1/\X2/\X3/\X4/\((0:Int)=(g0:Int))/\((g0:Nat)=0)/\(g0<=k/16)) _ _ _ _)/\∀g:Nat,(g<=k/16)->((16:Int)≠0)/\(IntKind.wrap .i64 ((k:Int).tdiv 16)=(((k/16:Nat):Int)))/\(((decide ((g:Int)<((k/16:Nat):Int)))=true->(g+1<=68719476736)/\_/\(∀j0,j0<1->((0:Int)=(dg (x*2^k) (g+j0):Int)))/\_/\((λX1 X2 X3 X4 X5:Prop=>∃g1:Nat,X1/\X2/\X3/\X4/\(((g+1:Nat):Int)=(g1:Int))/\((g+1:Nat)=g1)/\X5/\(g1<=k/16)/\((k/16)-g1<(k/16)-g)) _ _ _ _ _))/\((decide ((g:Int)<((k/16:Nat):Int)))=false->((16:Int)≠0)/\((k:Int).tmod 16=(((k%16:Nat):Int)))/\_/\_/\(g+(nd (x*(2^(k%16))))<=68719476736)/\_/\(∀j0,j0<(nd (x*(2^(k%16))))->(((dg (x*(2^(k%16))) j0:Nat):Int)=(dg (x*2^k) (g+j0):Int)))/\((g+(nd (x*(2^(k%16)))):Nat)=(g+nd (x*2^(k%16))))/\_/\_/\(_/\_)))))
  ⟨(λ_ _=>trivial),⟨0,(rf (nd x:Nat)),(leS (λi0=>iN (dg x i0)) (nd x)),(rf (k:Int)),(rf 0),zo,zo,zo⟩,λg hg=>⟨zd,(quo_i64 zo),λhc10=>have hc10:=dT hc10;⟨zo,(oldS (λi0=>iN (dg (x*2^k) i0)) g),(λj0 hj0=>(by rw[show j0=0 by omega,Nat.add_zero,dg_shl0 zo];rfl)),(wI (g:=g) zo),g+1,(rf (nd x:Nat)),(leS (λi0=>iN (dg x i0)) (nd x)),(rf (k:Int)),(rf 0),zo,zo,(leS (λi0=>iN (dg (x*2^k) i0)) (g+1)),zo,zo⟩,λhc10=>have hc10:=dF hc10;have hi2:g=k/16:=zo;⟨zd,rfl,sPower (k:=k%16) zo,sSmall0 (x:=x) (m:=2^(k%16)) zo zo,zo,(oldS (λi0=>iN (dg (x*2^k) i0)) g),(λj0 hj0=>(by rw[dg_shl hi2])),zo,(leS (λi0=>iN (dg (x*2^k) i0)) (g+(nd (x*(2^(k%16)))))),sTrim (x:=x*2^k) (n:=g+nd (x*2^(k%16))) zo (by subst hi2;exact mul_pow_lt),(rf (nd (x*2^k):Nat)),(leS (λi0=>iN (dg (x*2^k) i0)) (nd (x*2^k)))⟩⟩⟩
theorem sHalf{x m:Nat}(hx:nd x<=17179869184)(hm0:0<m)(hm:m<=65536):CallOK Tryz.prog 172 [.dgs x (nd x),iN m] (c2 (.dgs (x/m) (nd (x/m))) (iN (x%m))) []:=by
 exact kP (ch:=[.reg 1 [(2,.row (nd x) (λ_=>.ex (.int .i64 0)))],.loop 4 (Nat) (λg=>g<=nd x) (λg=>g) (λg=>⟨[(0,.dgs x (nd x)),(1,iN m),(6,.own 0 0),(7,iN (x/2^(16*g)%m)),(8,iZ ((g:Int)-1))],[(0,.one (.row 3 1 (λi0=>iN (dn g (x/m) i0)) (nd x)))],1⟩) [(0,.id 0)] (λ_=>[(0,.id 0)]) (λg=>[.reg 6 [(1,.z ((x/2^(16*g)%m*65536:Nat):Int)),(4,.k (g-1)),(6,.z ((x/2^(16*g)%m*65536+dg x (g-1):Nat):Int))],.reg 7 [(4,.z (dg (x/m) (g-1):Int)),(5,.k (g-1)),(6,.row 0 (λi0=>iN (dn (g-1) (x/m) i0)))],.reg 8 [(2,.z ((x/2^(16*(g-1))%m:Nat):Int))],.conv 9 [] ⟨[(6,.dgs (x/m) (nd x)),(7,iN (x%m))],[],1⟩,.reg 9 [(1,.callS (.dgs (x/m) (nd (x/m))) [])]])]) Tryz.func172 ((∀j0,j0<(nd x)->True)/\_/\_/\((nd x)<=68719476736)/\(∀j0,j0<(nd x)->((0:Int)=0))/\(IntKind.wrap .i64 (((nd x:Nat):Int)-1)=(((nd x:Nat):Int)-1))/\(((λX1 X2 X3 X4 X5:Prop=>∃g0:Nat,X1/\X2/\X3/\X4/\((0:Int)=((x/2^(16*g0)%m:Nat):Int))/\(((nd x:Int)-1:Int)=((g0:Int)-1))/\X5/\(∀j0,j0<(nd x)->((0:Int)=(dn g0 (x/m) j0:Int)))/\(g0<=nd x)) _ _ _ _ _)/\∀g:Nat,(g<=nd x)->(((decide ((0:Int)<=((g:Int)-1)))=true->(IntKind.wrap .i64 (((x/2^(16*g)%m:Nat):Int)*65536)=(((x/2^(16*g)%m*65536:Nat):Int)))/\(((g:Int)-1:Int)=((g-1:Nat):Int))/\((g-1)<(nd x))/\(IntKind.wrap .i64 (((x/2^(16*g)%m*65536:Nat):Int)+(dg x (g-1):Int))=(((x/2^(16*g)%m*65536+dg x (g-1):Nat):Int)))/\((m:Int)≠0)/\(IntKind.wrap .i64 (((x/2^(16*g)%m*65536+dg x (g-1):Nat):Int).tdiv (m:Int))=(((dg (x/m) (g-1):Nat):Int)))/\(((g:Int)-1:Int)=((g-1:Nat):Int))/\((g-1)<(nd x))/\((g-1)<(nd x))/\(((dg (x/m) (g-1):Int)=(dn (g-1) (x/m) (g-1):Int)))/\(∀t,t<(nd x)->t≠(g-1)->(iN (dn (g-1) (x/m) t):SV)=iN (dn g (x/m) t))/\((m:Int)≠0)/\(((x/2^(16*g)%m*65536+dg x (g-1):Nat):Int).tmod (m:Int)=(((x/2^(16*(g-1))%m:Nat):Int)))/\(IntKind.wrap .i64 (((g:Int)-1:Int)-1)=(((g:Int)-1:Int)-1))/\((λX1 X2 X3 X4 X5:Prop=>∃g1:Nat,X1/\X2/\X3/\X4/\(((x/2^(16*(g-1))%m:Nat):Int)=((x/2^(16*g1)%m:Nat):Int))/\((((g:Int)-1:Int)-1:Int)=((g1:Int)-1))/\X5/\(∀j0,j0<(nd x)->(((dn (g-1) (x/m) j0:Nat):Int)=(dn g1 (x/m) j0:Int)))/\(g1<=nd x)/\(g1<g)) _ _ _ _ _))/\((decide ((0:Int)<=((g:Int)-1)))=false->_/\(∀j0,j0<(nd x)->(((dn g (x/m) j0:Nat):Int)=(dg (x/m) j0:Int)))/\(((x/2^(16*g)%m:Nat):Int)=((x%m:Nat):Int))/\_/\(_/\_/\_)))))
  ⟨(λ_ _=>trivial),(rf (nd x:Int)),(rf (nd x:Int)),zo,(λj0 hj0=>rfl),(by rw[IntKind.wrap_i64];omega),⟨nd x,(rf (nd x:Nat)),(leS (λi0=>iN (dg x i0)) (nd x)),(rf (m:Int)),(rf 0),(by rw[nd_zero_div,Nat.zero_mod];rfl),zo,(rf (nd x:Nat)),(λj0 hj0=>(by rw[dn_lo zo];rfl)),zo⟩,λg hg=>⟨λhc17=>have hc17:=dT hc17;have hA:=Nat.mod_lt (x/2^(16*g)) hm0;have hD:=jH x (g-1);have hst:=half_at (x:=x) hm0 (g:=g) zo;⟨(by rw[IntKind.wrap_i64];omega),zo,zo,(by rw[IntKind.wrap_i64];omega),zo,(by rw[←hst.2];exact quo_i64 zo),zo,zo,zo,(by rw[dn_hi (Nat.le_refl _)]),(λt ht hne=>by rw[dn_ne hne]),zo,(by rw[←hst.1];rfl),(by rw[IntKind.wrap_i64];omega),g-1,(rf (nd x:Nat)),(leS (λi0=>iN (dg x i0)) (nd x)),(rf (m:Int)),(rf 0),zo,zo,(rf (nd x:Nat)),(λj0 hj0=>zo),zo,zo⟩,λhc17=>have hc17:=dF hc17;have hi2:g=0:=zo;⟨(rf (nd x:Nat)),(λj0 hj0=>(by rw[dn_hi zo])),(by rw[hi2];simp),sTrim (x:=x/m) (n:=nd x) zo (kS (nd_div x m)),(rf (nd (x/m):Nat)),(leS (λi0=>iN (dg (x/m) i0)) (nd (x/m))),(rf ((x%m:Nat):Int))⟩⟩⟩
theorem sRefBits{x:Nat}(hx:nd x<=17179869184):CallOK Tryz.prog 149 [.dgs x (nd x)] (iN (Wd.blen x)) []:=by
 have hbn:Wd.blen x<=16*nd x:=by unfold nd;omega
 exact kP (ch:=[.reg 3 [(2,.z ((nd x-1:Nat):Int)),(3,.z ((16*(nd x-1):Nat):Int))],.reg 4 [(3,.z ((nd x-1:Nat):Int)),(4,.k (nd x-1))],.loop 5 (Nat) (λg=>g<65536/\Wd.blen g<=Wd.blen x) (λg=>g) (λg=>⟨[(3,iN (Wd.blen x-Wd.blen g)),(4,iN g)],[],0⟩) [] (λ_=>[]) (λg=>[.reg 7 [(1,.z ((Wd.blen x-Wd.blen g+1:Nat):Int))],.reg 6 [(1,.z ((g/2:Nat):Int))]])]) Tryz.func149 ((∀j0,j0<(nd x)->True)/\(((decide (((nd x:Nat):Int)=0))=true->(((0:Int)=(Wd.blen x:Int))))/\((decide (((nd x:Nat):Int)=0))=false->(IntKind.wrap .i64 (((nd x:Nat):Int)-1)=(((nd x-1:Nat):Int)))/\(IntKind.wrap .i64 ((16:Int)*((nd x-1:Nat):Int))=(((16*(nd x-1):Nat):Int)))/\(IntKind.wrap .i64 (((nd x:Nat):Int)-1)=(((nd x-1:Nat):Int)))/\_/\((nd x-1)<(nd x))/\((∃g0:Nat,(((16*(nd x-1):Nat):Int)=((Wd.blen x-Wd.blen g0:Nat):Int))/\(((dg x (nd x-1):Nat):Int)=(g0:Int))/\(g0<65536/\Wd.blen g0<=Wd.blen x))/\∀g:Nat,(g<65536/\Wd.blen g<=Wd.blen x)->(((decide ((0:Int)<(g:Int)))=true->(IntKind.wrap .i64 (((Wd.blen x-Wd.blen g:Nat):Int)+1)=(((Wd.blen x-Wd.blen g+1:Nat):Int)))/\((2:Int)≠0)/\(IntKind.wrap .i64 ((g:Int).tdiv 2)=(((g/2:Nat):Int)))/\(∃g1:Nat,(((Wd.blen x-Wd.blen g+1:Nat):Int)=((Wd.blen x-Wd.blen g1:Nat):Int))/\(((g/2:Nat):Int)=(g1:Int))/\(g1<65536/\Wd.blen g1<=Wd.blen x)/\(g1<g)))/\((decide ((0:Int)<(g:Int)))=false->((((Wd.blen x-Wd.blen g:Nat):Int)=(Wd.blen x:Int)))))))))
  ⟨(λ_ _=>trivial),λhc7=>have hc7:=dT hc7;have hx0:=(xJ x).1 zo;(by rw[hx0];rfl),λhc7=>have hc7:=dF hc7;have hn0:nd x≠0:=zo;have hb:=blen_dg (x:=x) (λe=>hn0 ((xJ x).2 e));⟨(by rw[IntKind.wrap_i64];omega),(by rw[IntKind.wrap_i64];omega),(by rw[IntKind.wrap_i64];omega),(rf ((nd x-1:Nat):Int)),zo,⟨dg x (nd x-1),zo,zo,jH _ _,by omega⟩,λg hg=>have hg1:=hg.1;have hg2:=hg.2;⟨λhc19=>have hc19:=dT hc19;have hv:=blen_half (x:=g) zo;⟨(by rw[IntKind.wrap_i64];omega),zd,(quo_i64 zo),g/2,zo,zo,⟨by omega,by omega⟩,zo⟩,λhc19=>have hc19:=dF hc19;have hv:g=0:=zo;(by rw[hv];rfl)⟩⟩⟩
theorem sRefBit{x k:Nat}(hk:k<=1099511627776):CallOK Tryz.prog 161 [.dgs x (nd x),iN k] (iN (x/2^k%2)) []:=by
 have h1:=jH x (k/16)
 have h2:=Nat.pow_pos (n:=k%16) (show 0<2 by decide)
 exact kP (ch:=[.dec 6 false,.reg 3 [(2,.z ((k/16:Nat):Int)),(3,.callS (iN (dg x (k/16))) []),(5,.z ((k%16:Nat):Int)),(6,.callS (iN (2^(k%16))) []),(7,.z ((dg x (k/16)/2^(k%16):Nat):Int)),(8,.z ((x/2^k%2:Nat):Int))]]) Tryz.func161 ((∀j0,j0<(nd x)->True)/\((decide ((k:Int)<0))=false)/\((16:Int)≠0)/\(IntKind.wrap .i64 ((k:Int).tdiv 16)=(((k/16:Nat):Int)))/\_/\((16:Int)≠0)/\((k:Int).tmod 16=(((k%16:Nat):Int)))/\_/\(((2^(k%16):Nat):Int)≠0)/\(IntKind.wrap .i64 (((dg x (k/16):Nat):Int).tdiv ((2^(k%16):Nat):Int))=(((dg x (k/16)/2^(k%16):Nat):Int)))/\((2:Int)≠0)/\(((dg x (k/16)/2^(k%16):Nat):Int).tmod 2=(((x/2^k%2:Nat):Int)))/\(_))
  ⟨(λ_ _=>trivial),(decide_eq_false zo),zd,(quo_i64 zo),sDigit (x:=x) (k:=k/16),zd,rfl,sPower (k:=k%16) zo,zo,(quo_i64 zo),zd,(by rw[←bit_dg];rfl),(rf ((x/2^k%2:Nat):Int))⟩
theorem sRefCmp{x y:Nat}(hx:nd x<=17179869184):CallOK Tryz.prog 142 [.dgs x (nd x),.dgs y (nd y)] (iZ (cmpN x y)) []:=by
 exact kP (ch:=[.loop 6 (Nat) (λg=>g<=nd x/\x/2^(16*g)=y/2^(16*g)) (λg=>g) (λg=>⟨[(0,.dgs x (nd x)),(1,.dgs y (nd y)),(5,iZ ((g:Int)-1))],[],0⟩) [] (λ_=>[]) (λg=>[.reg 8 [(2,.k (g-1)),(6,.k (g-1))],.reg 10 [(2,.k (g-1)),(6,.k (g-1))]])]) Tryz.func142 ((∀j0,j0<(nd x)->True)/\(∀j0,j0<(nd y)->True)/\(((!decide (((nd x:Nat):Int)=(nd y:Int)))=true->(((decide (((nd x:Nat):Int)<(nd y:Int)))=true->(((-1:Int)=(cmpN x y))))/\((decide (((nd x:Nat):Int)<(nd y:Int)))=false->(((1:Int)=(cmpN x y))))))/\((!decide (((nd x:Nat):Int)=(nd y:Int)))=false->(IntKind.wrap .i64 (((nd x:Nat):Int)-1)=(((nd x:Nat):Int)-1))/\(((λX1 X2 X3 X4:Prop=>∃g0:Nat,X1/\X2/\X3/\X4/\(((nd x:Int)-1:Int)=((g0:Int)-1))/\(g0<=nd x/\x/2^(16*g0)=y/2^(16*g0))) _ _ _ _)/\∀g:Nat,(g<=nd x/\x/2^(16*g)=y/2^(16*g))->(((decide ((0:Int)<=((g:Int)-1)))=true->(((g:Int)-1:Int)=((g-1:Nat):Int))/\((g-1)<(nd x))/\(((g:Int)-1:Int)=((g-1:Nat):Int))/\((g-1)<(nd y))/\(((decide (((dg x (g-1):Nat):Int)<(dg y (g-1):Int)))=true->(((-1:Int)=(cmpN x y))))/\((decide (((dg x (g-1):Nat):Int)<(dg y (g-1):Int)))=false->(((g:Int)-1:Int)=((g-1:Nat):Int))/\((g-1)<(nd x))/\(((g:Int)-1:Int)=((g-1:Nat):Int))/\((g-1)<(nd y))/\(((decide (((dg y (g-1):Nat):Int)<(dg x (g-1):Int)))=true->(((1:Int)=(cmpN x y))))/\((decide (((dg y (g-1):Nat):Int)<(dg x (g-1):Int)))=false->(IntKind.wrap .i64 (((g:Int)-1:Int)-1)=(((g:Int)-1:Int)-1))/\((λX1 X2 X3 X4:Prop=>∃g1:Nat,X1/\X2/\X3/\X4/\((((g:Int)-1:Int)-1:Int)=((g1:Int)-1))/\(g1<=nd x/\x/2^(16*g1)=y/2^(16*g1))/\(g1<g)) _ _ _ _))))))/\((decide ((0:Int)<=((g:Int)-1)))=false->(((0:Int)=(cmpN x y)))))))))
  ⟨(λ_ _=>trivial),(λ_ _=>trivial),λhc10=>have hn:nd x≠nd y:=(by have h:=hc10;simp at h;omega);⟨λhc15=>have hc15:=dT hc15;(cmpN_len zo).symm,λhc15=>have hc15:=dF hc15;(cmpN_len' zo).symm⟩,λhc10=>have hn:nd x=nd y:=(by have h:=hc10;simp at h;omega);⟨(by rw[IntKind.wrap_i64];omega),⟨nd x,(rf (nd x:Nat)),(leS (λi0=>iN (dg x i0)) (nd x)),(rf (nd y:Nat)),(leS (λi0=>iN (dg y i0)) (nd y)),zo,Nat.le_refl _,by rw[nd_zero_div,Nat.div_eq_of_lt (kS zo)]⟩,λg hg=>have hg1:=hg.1;⟨λhc20=>have hc20:=dT hc20;have he:x/2^(16*(g-1+1))=y/2^(16*(g-1+1)):=(by rw[show g-1+1=g by omega];exact hg.2);⟨zo,zo,zo,zo,λhc31=>have hc31:=dT hc31;(cmpN_lt he zo).symm,λhc31=>have hc31:=dF hc31;⟨zo,zo,zo,zo,λhc40=>have hc40:=dT hc40;(cmpN_gt he zo).symm,λhc40=>have hc40:=dF hc40;⟨(by rw[IntKind.wrap_i64];omega),g-1,(rf (nd x:Nat)),(leS (λi0=>iN (dg x i0)) (nd x)),(rf (nd y:Nat)),(leS (λi0=>iN (dg y i0)) (nd y)),zo,⟨by omega,eq_step16 he zo zo⟩,zo⟩⟩⟩,λhc20=>have hc20:=dF hc20;(cmpN_self (by rw[show 0=g by omega];exact hg.2)).symm⟩⟩⟩
theorem sRefMul{x y:Nat}(hs:nd x+nd y<=4294967296):CallOK Tryz.prog 108 [.dgs x (nd x),.dgs y (nd y)] (.dgs (x*y) (nd (x*y))) []:=by
 exact kP (ch:=[.loop 3 (Nat) (λg=>g<=nd y) (λg=>g) (λg=>⟨[(0,.dgs x (nd x)),(1,.dgs y (nd y)),(5,.dgs (x*(y/2^(16*g))) (nd (x*(y/2^(16*g))))),(6,iZ ((g:Int)-1))],[],0⟩) [] (λ_=>[]) (λg=>[.reg 5 [(1,.call [.dgs (x*(y/2^(16*g))) (nd (x*(y/2^(16*g)))),iN 16] (.dgs ((x*(y/2^(16*g)))*2^16) (nd ((x*(y/2^(16*g)))*2^16))) []),(5,.k (g-1)),(7,.callS (.dgs (x*(dg y (g-1))) (nd (x*(dg y (g-1))))) []),(8,.callS (.dgs (((x*(y/2^(16*g)))*2^16)+(x*(dg y (g-1)))) (nd (((x*(y/2^(16*g)))*2^16)+(x*(dg y (g-1)))))) [])]])]) Tryz.func108 ((∀j0,j0<(nd x)->True)/\(∀j0,j0<(nd y)->True)/\(IntKind.wrap .i64 (((nd y:Nat):Int)-1)=(((nd y:Nat):Int)-1))/\(((λX1 X2 X3 X4:Prop=>∃g0:Nat,X1/\X2/\X3/\X4/\((nd (x*(y/2^(16*g0))):Nat)=0)/\(((nd y:Int)-1:Int)=((g0:Int)-1))/\(g0<=nd y)) _ _ _ _)/\∀g:Nat,(g<=nd y)->(((decide ((0:Int)<=((g:Int)-1)))=true->_/\_/\_/\((16:Int)=((16:Nat):Int))/\(((g:Int)-1:Int)=((g-1:Nat):Int))/\((g-1)<(nd y))/\_/\_/\(IntKind.wrap .i64 (((g:Int)-1:Int)-1)=(((g:Int)-1:Int)-1))/\((λX1 X2 X3 X4:Prop=>∃g1:Nat,X1/\X2/\X3/\X4/\((nd (((x*(y/2^(16*g)))*2^16)+(x*(dg y (g-1)))):Nat)=(nd (x*(y/2^(16*g1)))))/\(∀j0,j0<(nd (((x*(y/2^(16*g)))*2^16)+(x*(dg y (g-1)))))->(((dg (((x*(y/2^(16*g)))*2^16)+(x*(dg y (g-1)))) j0:Nat):Int)=(dg (x*(y/2^(16*g1))) j0:Int)))/\((((g:Int)-1:Int)-1:Int)=((g1:Int)-1))/\(g1<=nd y)/\(g1<g)) _ _ _ _))/\((decide ((0:Int)<=((g:Int)-1)))=false->(((nd (x*(y/2^(16*g))):Nat)=(nd (x*y)))/\(∀j0,j0<(nd (x*(y/2^(16*g))))->(((dg (x*(y/2^(16*g))) j0:Nat):Int)=(dg (x*y) j0:Int))))))))
  ⟨(λ_ _=>trivial),(λ_ _=>trivial),(by rw[IntKind.wrap_i64];omega),⟨nd y,(rf (nd x:Nat)),(leS (λi0=>iN (dg x i0)) (nd x)),(rf (nd y:Nat)),(leS (λi0=>iN (dg y i0)) (nd y)),(by rw[nd_zero_div,Nat.mul_zero];rfl),zo,zo⟩,λg hg=>⟨λhc11=>have hc11:=dT hc11;have hA:=mul_at (x:=x) (y:=y) (g:=g) zo;have h1:=nd_mul x (y/2^(16*g));have h2:=nd_div y (2^(16*g));have h3:=nd_sh16 (x*(y/2^(16*g)));have h4:=nd_mul x (dg y (g-1));have h5:=nd_dg y (g-1);have h6:=jH y (g-1);⟨sRefShl (x:=x*(y/2^(16*g))) (k:=16) zo zo,(rf (nd (x*(y/2^(16*g))):Nat)),(leS (λi0=>iN (dg (x*(y/2^(16*g))) i0)) (nd (x*(y/2^(16*g))))),rfl,zo,zo,sSmall0 (x:=x) (m:=dg y (g-1)) zo zo,sRefAdd (x:=(x*(y/2^(16*g)))*2^16) (y:=x*(dg y (g-1))) zo zo,(by rw[IntKind.wrap_i64];omega),g-1,(rf (nd x:Nat)),(leS (λi0=>iN (dg x i0)) (nd x)),(rf (nd y:Nat)),(leS (λi0=>iN (dg y i0)) (nd y)),(by rw[hA]),(λj0 hj0=>(by rw[hA])),zo,zo,zo⟩,λhc11=>have hc11:=dF hc11;have hi2:g=0:=zo;⟨(by rw[hi2];simp),(λj0 hj0=>(by rw[hi2];simp))⟩⟩⟩
theorem div_step{n d g:Nat}(hd:0<d)(hg:0<g):(n/2^g%d*2+n/2^(g-1)%2<d->n/2^g/d*2=n/2^(g-1)/d/\n/2^g%d*2+n/2^(g-1)%2=n/2^(g-1)%d)/\(d<=n/2^g%d*2+n/2^(g-1)%2->n/2^g/d*2+1=n/2^(g-1)/d/\n/2^g%d*2+n/2^(g-1)%2-d=n/2^(g-1)%d):=by
 have h:=bits_step n (g-1)
 rw[show g-1+1=g by omega] at h
 have hb:n/2^(g-1)%2<=1:=by omega
 have k:=div_bit (n:=n/2^g) (b:=n/2^(g-1)%2) hd rfl rfl hb
 rw[←h] at k
 exact⟨λe=>⟨(k.1 e).1.symm,(k.1 e).2.symm⟩,λe=>⟨(k.2 e).1.symm,(k.2 e).2.symm⟩⟩
theorem sRefDivMod{n d:Nat}(hn:nd n<=4294967296)(hd0:0<d):CallOK Tryz.prog 138 [.dgs n (nd n),.dgs d (nd d)] (c2 (.dgs (n/d) (nd (n/d))) (.dgs (n%d) (nd (n%d)))) []:=by
 have hz:n/2^Wd.blen n=0:=Nat.div_eq_of_lt (Wd.lt_two_pow_blen n)
 have hbn:Wd.blen n<=16*nd n:=by unfold nd;omega
 exact kP (ch:=[.reg 2 [(1,.callS (iN (Wd.blen n)) [])],.loop 3 (Nat) (λg=>g<=Wd.blen n) (λg=>g) (λg=>⟨[(0,.dgs n (nd n)),(1,.dgs d (nd d)),(6,.dgs (n/2^g/d) (nd (n/2^g/d))),(7,.dgs (n/2^g%d) (nd (n/2^g%d))),(8,iZ ((g:Int)-1))],[],0⟩) [] (λ_=>[]) (λg=>[.reg 5 [(3,.call [.dgs n (nd n),iN (g-1)] (iN (n/2^(g-1)%2)) []),(4,.call [.dgs (n/2^g%d) (nd (n/2^g%d)),iN 2,iN (n/2^(g-1)%2)] (.dgs ((n/2^g%d)*2+(n/2^(g-1)%2)) (nd ((n/2^g%d)*2+(n/2^(g-1)%2)))) [])],.reg 6 [(1,.call [.dgs (n/2^g/d) (nd (n/2^g/d)),iN 2,.ex (.int .i64 0)] (.dgs ((n/2^g/d)*2) (nd ((n/2^g/d)*2))) [])],.reg 7 [(2,.callS (iZ (cmpN ((n/2^g%d)*2+(n/2^(g-1)%2)) d)) [])],.reg 8 [(2,.callS (.dgs (((n/2^g%d)*2+(n/2^(g-1)%2))-d) (nd (((n/2^g%d)*2+(n/2^(g-1)%2))-d))) [])],.reg 9 [(2,.call [.dgs ((n/2^g/d)*2) (nd ((n/2^g/d)*2)),.dgs 1 (nd 1)] (.dgs (((n/2^g/d)*2)+1) (nd (((n/2^g/d)*2)+1))) [])]])]) Tryz.func138 ((∀j0,j0<(nd n)->True)/\(∀j0,j0<(nd d)->True)/\_/\(IntKind.wrap .i64 (((Wd.blen n:Nat):Int)-1)=(((Wd.blen n:Nat):Int)-1))/\(((λX1 X2 X3 X4:Prop=>∃g0:Nat,X1/\X2/\X3/\X4/\((nd (n/2^g0/d):Nat)=0)/\((nd (n/2^g0%d):Nat)=0)/\(((Wd.blen n:Int)-1:Int)=((g0:Int)-1))/\(g0<=Wd.blen n)) _ _ _ _)/\∀g:Nat,(g<=Wd.blen n)->(((decide ((0:Int)<=((g:Int)-1)))=true->_/\_/\_/\(((g:Int)-1:Int)=((g-1:Nat):Int))/\_/\_/\_/\((2:Int)=((2:Nat):Int))/\_/\_/\_/\_/\((2:Int)=((2:Nat):Int))/\_/\_/\(((decide ((0:Int)<=(cmpN ((n/2^g%d)*2+(n/2^(g-1)%2)) d)))=true->_/\_/\_/\_/\((1:Nat)=(nd 1))/\(∀j0,j0<1->((1:Int)=(dg 1 j0:Int)))/\(IntKind.wrap .i64 (((g:Int)-1:Int)-1)=(((g:Int)-1:Int)-1))/\((λX1 X2 X3 X4:Prop=>∃g1:Nat,X1/\X2/\X3/\X4/\((nd (((n/2^g/d)*2)+1):Nat)=(nd (n/2^g1/d)))/\(∀j0,j0<(nd (((n/2^g/d)*2)+1))->(((dg (((n/2^g/d)*2)+1) j0:Nat):Int)=(dg (n/2^g1/d) j0:Int)))/\((nd (((n/2^g%d)*2+(n/2^(g-1)%2))-d):Nat)=(nd (n/2^g1%d)))/\(∀j0,j0<(nd (((n/2^g%d)*2+(n/2^(g-1)%2))-d))->(((dg (((n/2^g%d)*2+(n/2^(g-1)%2))-d) j0:Nat):Int)=(dg (n/2^g1%d) j0:Int)))/\((((g:Int)-1:Int)-1:Int)=((g1:Int)-1))/\(g1<=Wd.blen n)/\(g1<g)) _ _ _ _))/\((decide ((0:Int)<=(cmpN ((n/2^g%d)*2+(n/2^(g-1)%2)) d)))=false->(IntKind.wrap .i64 (((g:Int)-1:Int)-1)=(((g:Int)-1:Int)-1))/\((λX1 X2 X3 X4:Prop=>∃g1:Nat,X1/\X2/\X3/\X4/\((nd ((n/2^g/d)*2):Nat)=(nd (n/2^g1/d)))/\(∀j0,j0<(nd ((n/2^g/d)*2))->(((dg ((n/2^g/d)*2) j0:Nat):Int)=(dg (n/2^g1/d) j0:Int)))/\((nd ((n/2^g%d)*2+(n/2^(g-1)%2)):Nat)=(nd (n/2^g1%d)))/\(∀j0,j0<(nd ((n/2^g%d)*2+(n/2^(g-1)%2)))->(((dg ((n/2^g%d)*2+(n/2^(g-1)%2)) j0:Nat):Int)=(dg (n/2^g1%d) j0:Int)))/\((((g:Int)-1:Int)-1:Int)=((g1:Int)-1))/\(g1<=Wd.blen n)/\(g1<g)) _ _ _ _))))/\((decide ((0:Int)<=((g:Int)-1)))=false->(((nd (n/2^g/d):Nat)=(nd (n/d)))/\(∀j0,j0<(nd (n/2^g/d))->(((dg (n/2^g/d) j0:Nat):Int)=(dg (n/d) j0:Int)))/\((nd (n/2^g%d):Nat)=(nd (n%d)))/\(∀j0,j0<(nd (n/2^g%d))->(((dg (n/2^g%d) j0:Nat):Int)=(dg (n%d) j0:Int))))))))
  ⟨(λ_ _=>trivial),(λ_ _=>trivial),sRefBits (x:=n) zo,(by rw[IntKind.wrap_i64];omega),⟨Wd.blen n,(rf (nd n:Nat)),(leS (λi0=>iN (dg n i0)) (nd n)),(rf (nd d:Nat)),(leS (λi0=>iN (dg d i0)) (nd d)),(by rw[hz,Nat.zero_div];rfl),(by rw[hz,Nat.zero_mod];rfl),zo,zo⟩,λg hg=>⟨λhc13=>have hc13:=dT hc13;have hb:=div_step hd0 (n:=n) (g:=g) zo;have h1:=nd_mod (n/2^g) d;have h2:=nd_div n (2^g);have h3:=nd_div (n/2^g) d;have h4:=nd_x2 (n/2^g/d);have h5:=nd_x2 (n/2^g%d);have h6:=nd_add (n/2^g%d*2) (n/2^(g-1)%2);have h7:nd (n/2^(g-1)%2)<=1:=((nd_le _ 1).2 (by have:=Nat.mod_lt (n/2^(g-1)) (show 0<2 by decide);omega));⟨sRefBit (x:=n) (k:=g-1) zo,(rf (nd n:Nat)),(leS (λi0=>iN (dg n i0)) (nd n)),zo,sSmall (x:=n/2^g%d) (m:=2) (a:=n/2^(g-1)%2) zo zo zo,(rf (nd (n/2^g%d):Nat)),(leS (λi0=>iN (dg (n/2^g%d) i0)) (nd (n/2^g%d))),rfl,(rf ((n/2^(g-1)%2:Nat):Int)),sSmall0 (x:=n/2^g/d) (m:=2) zo zo,(rf (nd (n/2^g/d):Nat)),(leS (λi0=>iN (dg (n/2^g/d) i0)) (nd (n/2^g/d))),rfl,(rf (0:Int)),sRefCmp (x:=(n/2^g%d)*2+(n/2^(g-1)%2)) (y:=d) zo,λhc26=>have hc26:=dT hc26;have hge:=cmpN_ge.1 hc26;have hq:=(hb.2 hge).1;have hr:=(hb.2 hge).2;⟨sRefSub (x:=(n/2^g%d)*2+(n/2^(g-1)%2)) (y:=d) zo zo,sRefAdd (x:=(n/2^g/d)*2) (y:=1) zo (by rw[nd_one];omega),(rf (nd ((n/2^g/d)*2):Nat)),(leS (λi0=>iN (dg ((n/2^g/d)*2) i0)) (nd ((n/2^g/d)*2))),rfl,(λj0 hj0=>(by rw[show j0=0 by omega];rfl)),(by rw[IntKind.wrap_i64];omega),g-1,(rf (nd n:Nat)),(leS (λi0=>iN (dg n i0)) (nd n)),(rf (nd d:Nat)),(leS (λi0=>iN (dg d i0)) (nd d)),(by rw[hq]),(λj0 hj0=>(by rw[hq])),(by rw[hr]),(λj0 hj0=>(by rw[hr])),zo,zo,zo⟩,λhc26=>have hc26:=dF hc26;have hlt:=Nat.lt_of_not_le (λe=>hc26 (cmpN_ge.2 e));have hq:=(hb.1 hlt).1;have hr:=(hb.1 hlt).2;⟨(by rw[IntKind.wrap_i64];omega),g-1,(rf (nd n:Nat)),(leS (λi0=>iN (dg n i0)) (nd n)),(rf (nd d:Nat)),(leS (λi0=>iN (dg d i0)) (nd d)),(by rw[hq]),(λj0 hj0=>(by rw[hq])),(by rw[hr]),(λj0 hj0=>(by rw[hr])),zo,zo,zo⟩⟩,λhc13=>have hc13:=dF hc13;have hi2:g=0:=zo;⟨(by rw[hi2];simp),(λj0 hj0=>(by rw[hi2];simp)),(by rw[hi2];simp),(λj0 hj0=>(by rw[hi2];simp))⟩⟩⟩
open Go.RowKit
def SV.wds (x n:Nat):SV:=.sl 1 (λi=>uZ (wd x i:Int)) n
theorem wd_top{x g:Nat}:(0:Int)=((wd x g/65536^4:Nat):Int):=by
 have:=yS x g
 rw[Nat.div_eq_of_lt zo];rfl
theorem wd_dg{x g k:Nat}(hk:k<4):dg x (4*g+k)=wd x g/65536^k%65536:=by
 unfold wd dg
 rw[show 16*(4*g+k)=64*g+16*k by omega,Nat.pow_add,←Nat.div_div_eq_div_mul]
 generalize x/2^(64*g)=v
 match k,hk with
 | 0,_=>omega
 | 1,_=>show v/65536%65536=v%18446744073709551616/65536%65536;omega
 | 2,_=>show v/4294967296%65536=v%18446744073709551616/4294967296%65536;omega
 | 3,_=>show v/281474976710656%65536=v%18446744073709551616/281474976710656%65536;omega
theorem wd_step{x g h:Nat}(h0:0<h)(h4:h<=4):wd x g/65536^h*65536+dg x (4*g+(h-1))=wd x g/65536^(h-1)/\wd x g/65536^(h-1)<=wd x g:=by
 refine⟨?_,Nat.div_le_self _ _⟩
 rw[wd_dg zo]
 have e:wd x g/65536^h=wd x g/65536^(h-1)/65536:=by rw[Nat.div_div_eq_div_mul,←Nat.pow_succ,show(h-1).succ=h by omega]
 rw[e];omega
theorem gcd_odd_2{a b:Nat}(ha:a%2=1)(hb:b%2=0):Nat.gcd a (b/2)=Nat.gcd a b:=by
 rw[Nat.gcd_comm,gcd_2_odd hb ha,Nat.gcd_comm]
theorem gcd_stp{q b:Nat}(hq:0<q)(hb:0<b)(ho:q%2=1)(hb2:b%2=1):Nat.gcd q b=Nat.gcd (max q b-min q b) (min q b)/\0<min q b/\min q b%2=1/\(max q b-min q b)+min q b<q+b/\max q b-min q b<=max q b/\min q b<=max q b:=by
 by_cases h:q<b
 ·rw[Nat.max_eq_right (Nat.le_of_lt h),Nat.min_eq_left (Nat.le_of_lt h)]
  exact⟨by rw[gcd_sub_left' (Nat.le_of_lt h),Nat.gcd_comm],hq,ho,by omega,by omega,by omega⟩
 ·rw[Nat.max_eq_left (Nat.le_of_not_lt h),Nat.min_eq_right (Nat.le_of_not_lt h)]
  exact⟨by rw[gcd_sub_left' (Nat.le_of_not_lt h)],hb,hb2,by omega,by omega,by omega⟩
theorem pow_lt_nd{a t x:Nat}(h:a*2^t=x)(ha:0<a):t<16*nd x:=by
 have h1:2^t<=x:=by rw[←h];exact Nat.le_mul_of_pos_left _ ha
 exact(Nat.pow_lt_pow_iff_right (a:=2) zd).1 (Nat.lt_of_le_of_lt h1 (lt_nd x))
theorem halve_inv{x y a b t:Nat}(h:Nat.gcd x y=Nat.gcd a b*2^t/\a*2^t=x/\0<a/\0<b/\nd b<=nd y/\nd a<=nd x)(ha:a%2=0)(hb:b%2=0):
  Nat.gcd x y=Nat.gcd (a/2) (b/2)*2^(t+1)/\a/2*2^(t+1)=x/\0<a/2/\0<b/2/\nd (b/2)<=nd y/\nd (a/2)<=nd x:=by
 obtain⟨h1,h2,h3,h4,h5,h6⟩:=h
 have:=nd_div b 2
 have:=nd_div a 2
 refine⟨by rw[h1,gcd_2_2 ha hb,Nat.pow_succ,Nat.mul_assoc,Nat.mul_comm 2],?_,by omega,by omega,by omega,by omega⟩
 rw[Nat.pow_succ,Nat.mul_comm (2^t),←Nat.mul_assoc,show a/2*2=a by omega,h2]
instance fzF:Fz:=⟨false,none⟩
theorem sDigit0{x k:Nat}:CallOK Tryz.prog 162 [.dgs x (nd x),iN k] (iN (dg x k)) []:=by
 exact kP (ch:=[.reg 3 [(2,.k k)]]) Tryz.func162 ((∀j0,j0<(nd x)->True)/\_/\_/\_/\((!(decide ((k:Int)<0)))=true->((decide ((k:Int)<0))==false)=true)/\(((bif (decide ((k:Int)<0)) then true else(decide (((nd x:Nat):Int)<=(k:Int))))=true->(((0:Int)=(dg x k:Int))))/\((bif (decide ((k:Int)<0)) then true else(decide (((nd x:Nat):Int)<=(k:Int))))=false->_/\(k<(nd x))/\(_))))
  ⟨(λ_ _=>trivial),(idB ((decide ((k:Int)<0))==false)),(idB ((decide ((k:Int)<0))==false)),(idB ((decide ((k:Int)<0))==false)),(by first | (simp;done) | (simp;omega)),λhc12=>have hc:=orT hc12;have hz:=dg_nd (x:=x) (i:=k) zo;zo,λhc12=>have hc:=orF hc12;⟨(rf (k:Int)),zo,(rf (dg x k:Int))⟩⟩
theorem sRefWords0{x:Nat}(hx:nd x<=17179869184):CallOK Tryz.prog 165 [.dgs x (nd x)] (.wds x (nw x)) []:=by
 have hnw:=nw_nd x
 exact kP (ch:=[.loop 3 (Nat) (λg=>g<=nw x) (λg=>(nw x)-g) (λg=>⟨[(0,.dgs x (nd x)),(3,.own 0 0),(4,iN (4*g))],[(0,.one (.row 145 1 (λi0=>uZ (wd x i0:Int)) g))],1⟩) [(0,.nil)] (λ_=>[(0,.id 1)]) (λg=>[.loop 7 (Nat) (λh=>h<=4) (λh=>h) (λh=>⟨[(0,.dgs x (nd x)),(3,.own 0 0),(4,iN (4*g)),(5,uZ ((wd x g/65536^h:Nat):Int)),(6,iZ ((h:Int)-1))],[(0,.one (.row 145 1 (λi0=>uZ (wd x i0:Int)) g))],1⟩) [(0,.id 0)] (λ_=>[(0,.id 0)]) (λh=>[.reg 9 [(1,.z ((wd x g/65536^h*65536:Nat):Int)),(5,.z ((4*g+(h-1):Nat):Int)),(6,.callS (iN (dg x (4*g+(h-1)))) []),(7,.z (dg x (4*g+(h-1)):Int)),(8,.z ((wd x g/65536^h*65536+dg x (4*g+(h-1)):Nat):Int))],.reg 10 [(3,.row 0 (λi0=>uZ (wd x i0:Int)))],.reg 4 [(1,.z ((4*g+4:Nat):Int))]])])]) Tryz.func165 ((∀j0,j0<(nd x)->True)/\(((λX1 X2 X3:Prop=>∃g0:Nat,X1/\X2/\X3/\((0:Int)=((4*g0:Nat):Int))/\((g0:Nat)=0)/\(g0<=nw x)) _ _ _)/\∀g:Nat,(g<=nw x)->(((decide (((4*g:Nat):Int)<(nd x:Int)))=true->(((λX1 X2 X3 X4 X5 X6:Prop=>∃h0:Nat,X1/\X2/\X3/\X4/\((0:Int)=((wd x g/65536^h0:Nat):Int))/\((3:Int)=((h0:Int)-1))/\X5/\X6/\(h0<=4)) _ _ _ _ _ _)/\∀h:Nat,(h<=4)->(((decide ((0:Int)<=((h:Int)-1)))=true->(IntKind.wrap .u64 (((wd x g/65536^h:Nat):Int)*65536)=(((wd x g/65536^h*65536:Nat):Int)))/\(IntKind.wrap .i64 (((4*g:Nat):Int)+((h:Int)-1))=(((4*g+(h-1):Nat):Int)))/\_/\(IntKind.wrap .u64 (dg x (4*g+(h-1)):Int)=(((dg x (4*g+(h-1)):Nat):Int)))/\(IntKind.wrap .u64 (((wd x g/65536^h*65536:Nat):Int)+(dg x (4*g+(h-1)):Int))=(((wd x g/65536^h*65536+dg x (4*g+(h-1)):Nat):Int)))/\(IntKind.wrap .i64 (((h:Int)-1:Int)-1)=(((h:Int)-1:Int)-1))/\((λX1 X2 X3 X4 X5 X6:Prop=>∃h1:Nat,X1/\X2/\X3/\X4/\(((wd x g/65536^h*65536+dg x (4*g+(h-1)):Nat):Int)=((wd x g/65536^h1:Nat):Int))/\((((h:Int)-1:Int)-1:Int)=((h1:Int)-1))/\X5/\X6/\(h1<=4)/\(h1<h)) _ _ _ _ _ _))/\((decide ((0:Int)<=((h:Int)-1)))=false->(g+1<=68719476736)/\_/\(∀j0,j0<1->(((wd x g/65536^h:Nat):Int)=(wd x (g+j0):Int)))/\(IntKind.wrap .i64 (((4*g:Nat):Int)+4)=(((4*g+4:Nat):Int)))/\((λX1 X2 X3 X4:Prop=>∃g1:Nat,X1/\X2/\X3/\(((4*g+4:Nat):Int)=((4*g1:Nat):Int))/\((g+1:Nat)=g1)/\X4/\(g1<=nw x)/\((nw x)-g1<(nw x)-g)) _ _ _ _)))))/\((decide (((4*g:Nat):Int)<(nd x:Int)))=false->(((g:Nat)=(nw x))/\_)))))
  ⟨(λ_ _=>trivial),⟨0,(rf (nd x:Nat)),(leS (λi0=>iN (dg x i0)) (nd x)),(rf 0),zo,zo,zo⟩,λg hg=>⟨λhc10=>have hc10:=dT hc10;have hgn:g<nw x:=zo;have hwl:=yS x g;⟨⟨4,(rf (nd x:Nat)),(leS (λi0=>iN (dg x i0)) (nd x)),(rf 0),(rf ((4*g:Nat):Int)),(by rw[wd_top]),zo,(rf g),(leS (λi0=>uZ (wd x i0:Int)) g),zo⟩,λh hh=>⟨λhc14=>have hc14:=dT hc14;have hst:=wd_step (x:=x) (g:=g) (h:=h) zo zo;have hd:=jH x (4*g+(h-1));⟨(by rw[IntKind.wrap_u64];omega),(by rw[IntKind.wrap_i64];omega),sDigit0 (x:=x) (k:=4*g+(h-1)),(by rw[IntKind.wrap_u64];omega),(by rw[IntKind.wrap_u64];omega),(by rw[IntKind.wrap_i64];omega),h-1,(rf (nd x:Nat)),(leS (λi0=>iN (dg x i0)) (nd x)),(rf 0),(rf ((4*g:Nat):Int)),(by rw[hst.1]),zo,(rf g),(leS (λi0=>uZ (wd x i0:Int)) g),zo,zo⟩,λhc14=>have hc14:=dF hc14;have hi3:h=0:=zo;⟨zo,(oldS (λi0=>uZ (wd x i0:Int)) g),(λj0 hj0=>(by rw[show j0=0 by omega,hi3,Nat.pow_zero,Nat.div_one];rfl)),(by rw[IntKind.wrap_i64];omega),g+1,(rf (nd x:Nat)),(leS (λi0=>iN (dg x i0)) (nd x)),(rf 0),zo,zo,(leS (λi0=>uZ (wd x i0:Int)) (g+1)),zo,zo⟩⟩⟩,λhc10=>have hc10:=dF hc10;have hi2:g=nw x:=zo;⟨hi2,(leS (λi0=>uZ (wd x i0:Int)) g)⟩⟩⟩
instance fzT2:Fz:=⟨true,some (.iface 169 (.agg #[.pointer (some ⟨1,37,none⟩)]))⟩
theorem sRefWords{x:Nat}(hx:nd x<=17179869184):CallOK Tryz.prog 165 [.dgs x (nd x)] (.wds x (nw x)) []:=(sRefWords0 hx).off ⟨λ_=>trivial,trivial⟩ λ_=>trivial
theorem sNatWords{x:Nat}:CallOK Tryz.prog 155 [.nat x] (.wds x (nw x)) []:=
 ⟨zJ Tryz.func155 rfl zk, λη0 F w vals hF hA => by
  match vals,hA with
  | [v0],hA=>
   refine(nWords (λ_=>False) v0 x w hA.1.1).mono λe w' ⟨v,e1,⟨A,c,e2,h1,h2,h3,h4,_⟩,hb⟩=>⟨v,λ_ _=>none,e1,⟨.of_grow hb,(λk i o hk=>by rw[yL] at hk;cases hk),(λk i o _ _ hk=>by rw[yL] at hk;cases hk),(λk i o _ _ _ _ _ _ hk=>by rw[yL] at hk;cases hk),λ_ _ _=>rfl,hF.lt,hF.gl,λ_ h=>h⟩,?_⟩
   rw[av_nil]
   refine⟨A,c,e2,h4,h2,h3,λi hi=>?_⟩
   obtain⟨g,o,ea,hg,hl,hc⟩:=h1 F hF.lt i hi
   refine⟨g,o,ea,hg,hl,.int .u64 (wd x i:Int),⟨rfl,λu hu=>?_⟩,rfl,λj u hj=>?_⟩
   ·simp[Value.cells] at hu;subst hu;rfl
   ·cases j with
    | zero=>simp[Value.cells] at hj;subst hj;rw[show o+1*i+0=o+i by omega];exact hc
    | succ j=>simp[Value.cells] at hj⟩
theorem eq_of_wds{x y:Nat}(hn:nw x=nw y)(h:∀i,i<nw x->wd x i=wd y i):x=y:=by
 rw[←kH x (nw x) (Nat.le_refl _),←kH y (nw x) zo]
 exact val_congr _ _ _ h
theorem sRefIs{x y:Nat}(hx:nd x<=17179869184):CallOK Tryz.prog 164 [.dgs x (nd x),.wds y (nw y)] (bX (decide (x=y))) []:=by
 have hnw:=nw_nd x
 exact kP (ch:=[.reg 1 [(1,.callS (.wds x (nw x)) [])],.loop 5 (Nat) (λg=>g<=nw x/\∀i,i<g->wd x i=wd y i) (λg=>nw x-g) (λg=>⟨[(1,.wds y (nw y)),(5,.wds x (nw x)),(6,iN g)],[],0⟩) [] (λ_=>[]) (λg=>[.reg 7 [(2,.k g),(6,.k g)],.reg 6 [(1,.z ((g+1:Nat):Int))]])]) Tryz.func164 ((∀j0,j0<(nd x)->True)/\(∀j0,j0<(nw y)->True)/\_/\(((!decide (((nw x:Nat):Int)=(nw y:Int)))=true->(((false:Bool)=(decide (x=y)))))/\((!decide (((nw x:Nat):Int)=(nw y:Int)))=false->(((λX1 X2 X3 X4:Prop=>∃g0:Nat,X1/\X2/\X3/\X4/\((0:Int)=(g0:Int))/\(g0<=nw x/\∀i,i<g0->wd x i=wd y i)) _ _ _ _)/\∀g:Nat,(g<=nw x/\∀i,i<g->wd x i=wd y i)->(((decide ((g:Int)<(nw x:Int)))=true->_/\(g<(nw x))/\_/\(g<(nw y))/\(((!decide (((wd x g:Nat):Int)=(wd y g:Int)))=true->(((false:Bool)=(decide (x=y)))))/\((!decide (((wd x g:Nat):Int)=(wd y g:Int)))=false->_/\((λX1 X2 X3 X4:Prop=>∃g1:Nat,X1/\X2/\X3/\X4/\(((g+1:Nat):Int)=(g1:Int))/\(g1<=nw x/\∀i,i<g1->wd x i=wd y i)/\(nw x-g1<nw x-g)) _ _ _ _))))/\((decide ((g:Int)<(nw x:Int)))=false->(((true:Bool)=(decide (x=y))))))))))
  ⟨(λ_ _=>trivial),(λ_ _=>trivial),sRefWords (x:=x) zo,λhc13=>have hn:nw x≠nw y:=(by have h:=hc13;simp at h;omega);(decide_eq_false (λe=>hn (by rw[e]))).symm,λhc13=>have hn:nw x=nw y:=(by have h:=hc13;simp at h;omega);⟨⟨0,(rf (nw y:Nat)),(leS (λi0=>uZ (wd y i0:Int)) (nw y)),(rf (nw x:Nat)),(leS (λi0=>uZ (wd x i0:Int)) (nw x)),zo,by omega,λi hi=>by omega⟩,λg hg=>have hg1:=hg.1;⟨λhc17=>have hc17:=dT hc17;⟨(rf (g:Int)),zo,(rf (g:Int)),zo,λhc28=>have he:wd x g≠wd y g:=(by have h:=hc28;simp at h;omega);(decide_eq_false (λe=>he (by rw[e]))).symm,λhc28=>have he:wd x g=wd y g:=(by have h:=hc28;simp at h;omega);⟨(wI (g:=g) zo),g+1,(rf (nw y:Nat)),(leS (λi0=>uZ (wd y i0:Int)) (nw y)),(rf (nw x:Nat)),(leS (λi0=>uZ (wd x i0:Int)) (nw x)),zo,⟨by omega,λi hi=>by by_cases e:i=g;(subst e;exact he);exact hg.2 i zo⟩,zo⟩⟩,λhc17=>have hc17:=dF hc17;(decide_eq_true (eq_of_wds hn (λi hi=>hg.2 i zo))).symm⟩⟩⟩
theorem sEven{x:Nat}:CallOK Tryz.prog 159 [.dgs x (nd x)] (bX (decide (((x%2:Nat):Int)=0))) []:=by
 exact kP (ch:=[.reg 1 [(1,.call [.dgs x (nd x),iN 0] (iN (dg x 0)) []),(2,.z ((x%2:Nat):Int))]]) Tryz.func159 ((∀j0,j0<(nd x)->True)/\_/\_/\_/\((0:Int)=((0:Nat):Int))/\((2:Int)≠0)/\(((dg x 0:Nat):Int).tmod 2=(((x%2:Nat):Int)))/\(_))
  ⟨(λ_ _=>trivial),sDigit (x:=x) (k:=0),(rf (nd x:Nat)),(leS (λi0=>iN (dg x i0)) (nd x)),rfl,zd,(by rw[even_dg];rfl),(rf (decide (((x%2:Nat):Int)=0):Bool))⟩
theorem sHalved{x:Nat}(hx:nd x<=17179869184):CallOK Tryz.prog 160 [.dgs x (nd x)] (.dgs (x/2) (nd (x/2))) []:=by
 exact kP (ch:=[.reg 1 [(1,.call [.dgs x (nd x),iN 2] (c2 (.dgs (x/2) (nd (x/2))) (iN (x%2))) [])]]) Tryz.func160 ((∀j0,j0<(nd x)->True)/\_/\_/\_/\((2:Int)=((2:Nat):Int))/\(_/\_))
  ⟨(λ_ _=>trivial),sHalf (x:=x) (m:=2) zo zo zo,(rf (nd x:Nat)),(leS (λi0=>iN (dg x i0)) (nd x)),rfl,(rf (nd (x/2):Nat)),(leS (λi0=>iN (dg (x/2) i0)) (nd (x/2)))⟩
theorem sRefGcd{x y:Nat}(hx:nd x<=1073741824)(hy:nd y<=1073741824):CallOK Tryz.prog 137 [.dgs x (nd x),.dgs y (nd y)] (.dgs (Nat.gcd x y) (nd (Nat.gcd x y))) []:=by
 exact kP (ch:=[.loop 6 (Nat×Nat×Nat) (λg=>Nat.gcd x y=Nat.gcd g.1 g.2.1*2^g.2.2/\g.1*2^g.2.2=x/\0<g.1/\0<g.2.1/\nd g.2.1<=nd y/\nd g.1<=nd x) (λg=>g.1) (λg=>⟨[(0,.dgs g.1 (nd g.1)),(1,.dgs g.2.1 (nd g.2.1)),(5,iN (g.2.2))],[],0⟩) [] (λ_=>[]) (λg=>[.reg 6 [(1,.callS (bX (decide (((g.1%2:Nat):Int)=0))) []),(4,.callS (bX (decide (((g.2.1%2:Nat):Int)=0))) [])],.reg 7 [(1,.callS (.dgs (g.1/2) (nd (g.1/2))) [])],.reg 8 [(1,.callS (.dgs (g.2.1/2) (nd (g.2.1/2))) [])],.reg 9 [(1,.z ((g.2.2+1:Nat):Int))],.loop 10 (Nat) (λh=>Nat.gcd g.1 g.2.1=Nat.gcd g.1 h/\0<h/\(g.1%2=1∨h%2=1)/\nd h<=nd y) (λh=>h) (λh=>⟨[(0,.dgs g.1 (nd g.1)),(1,.dgs h (nd h)),(5,iN (g.2.2))],[],0⟩) [] (λ_=>[]) (λh=>[.reg 10 [(1,.callS (bX (decide (((h%2:Nat):Int)=0))) [])],.reg 11 [(1,.callS (.dgs (h/2) (nd (h/2))) [])],.loop 12 (Nat×Nat) (λp=>Nat.gcd g.1 g.2.1=Nat.gcd p.1 p.2/\0<p.2/\p.2%2=1/\nd p.1<=max (nd x) (nd y)/\nd p.2<=max (nd x) (nd y)) (λp=>p.1+p.2) (λp=>⟨[(0,.dgs p.1 (nd p.1)),(1,.dgs p.2 (nd p.2)),(5,iN (g.2.2))],[],0⟩) [] (λ_=>[]) (λp=>[.loop 13 (Nat) (λq=>Nat.gcd p.1 p.2=Nat.gcd q p.2/\0<q/\q<=p.1) (λq=>q) (λq=>⟨[(0,.dgs q (nd q)),(1,.dgs p.2 (nd p.2)),(5,iN (g.2.2))],[],0⟩) [] (λ_=>[]) (λq=>[.reg 13 [(1,.callS (bX (decide (((q%2:Nat):Int)=0))) [])],.reg 14 [(1,.callS (.dgs (q/2) (nd (q/2))) [])],.reg 15 [(2,.callS (iZ (cmpN q p.2)) [])],.conv 19 [] ⟨[(0,.dgs (max q p.2) (nd (max q p.2))),(1,.dgs (min q p.2) (nd (min q p.2))),(5,iN (g.2.2))],[],0⟩,.reg 19 [(2,.callS (.dgs ((max q p.2)-(min q p.2)) (nd ((max q p.2)-(min q p.2)))) [])],.conv 19 [] ⟨[(0,.dgs (max q p.2) (nd (max q p.2))),(1,.dgs (min q p.2) (nd (min q p.2))),(5,iN (g.2.2))],[],0⟩,.reg 19 [(2,.callS (.dgs ((max q p.2)-(min q p.2)) (nd ((max q p.2)-(min q p.2)))) [])]]),.reg 20 [(2,.callS (.dgs (p.2*2^g.2.2) (nd (p.2*2^g.2.2))) [])]])])])]) Tryz.func137 ((∀j0,j0<(nd x)->True)/\(∀j0,j0<(nd y)->True)/\(((decide (((nd x:Nat):Int)=0))=true->(((nd y:Nat)=(nd (Nat.gcd x y)))/\(∀j0,j0<(nd y)->(((dg y j0:Nat):Int)=(dg (Nat.gcd x y) j0:Int)))))/\((decide (((nd x:Nat):Int)=0))=false->(((decide (((nd y:Nat):Int)=0))=true->(((nd x:Nat)=(nd (Nat.gcd x y)))/\(∀j0,j0<(nd x)->(((dg x j0:Nat):Int)=(dg (Nat.gcd x y) j0:Int)))))/\((decide (((nd y:Nat):Int)=0))=false->((∃g0:Nat×Nat×Nat,((nd x:Nat)=(nd g0.1))/\(∀j0,j0<(nd x)->(((dg x j0:Nat):Int)=(dg g0.1 j0:Int)))/\((nd y:Nat)=(nd g0.2.1))/\(∀j0,j0<(nd y)->(((dg y j0:Nat):Int)=(dg g0.2.1 j0:Int)))/\((0:Int)=((g0.2.2:Nat):Int))/\(Nat.gcd x y=Nat.gcd g0.1 g0.2.1*2^g0.2.2/\g0.1*2^g0.2.2=x/\0<g0.1/\0<g0.2.1/\nd g0.2.1<=nd y/\nd g0.1<=nd x))/\∀g:Nat×Nat×Nat,(Nat.gcd x y=Nat.gcd g.1 g.2.1*2^g.2.2/\g.1*2^g.2.2=x/\0<g.1/\0<g.2.1/\nd g.2.1<=nd y/\nd g.1<=nd x)->_/\_/\(((decide (((g.1%2:Nat):Int)=0))==true)=true->_)/\((decide (((g.1%2:Nat):Int)=0))=true->((decide (((g.1%2:Nat):Int)=0))==true)=true)/\(((bif (decide (((g.1%2:Nat):Int)=0)) then(decide (((g.2.1%2:Nat):Int)=0)) else false)=true->_/\_/\_/\(∃g1:Nat×Nat×Nat,((nd (g.1/2):Nat)=(nd g1.1))/\(∀j0,j0<(nd (g.1/2))->(((dg (g.1/2) j0:Nat):Int)=(dg g1.1 j0:Int)))/\((nd (g.2.1/2):Nat)=(nd g1.2.1))/\(∀j0,j0<(nd (g.2.1/2))->(((dg (g.2.1/2) j0:Nat):Int)=(dg g1.2.1 j0:Int)))/\(((g.2.2+1:Nat):Int)=((g1.2.2:Nat):Int))/\(Nat.gcd x y=Nat.gcd g1.1 g1.2.1*2^g1.2.2/\g1.1*2^g1.2.2=x/\0<g1.1/\0<g1.2.1/\nd g1.2.1<=nd y/\nd g1.1<=nd x)/\(g1.1<g.1)))/\((bif (decide (((g.1%2:Nat):Int)=0)) then(decide (((g.2.1%2:Nat):Int)=0)) else false)=false->(((λX1 X2 X3:Prop=>∃h0:Nat,X1/\X2/\((nd g.2.1:Nat)=(nd h0))/\(∀j0,j0<(nd g.2.1)->(((dg g.2.1 j0:Nat):Int)=(dg h0 j0:Int)))/\X3/\(Nat.gcd g.1 g.2.1=Nat.gcd g.1 h0/\0<h0/\(g.1%2=1∨h0%2=1)/\nd h0<=nd y)) _ _ _)/\∀h:Nat,(Nat.gcd g.1 g.2.1=Nat.gcd g.1 h/\0<h/\(g.1%2=1∨h%2=1)/\nd h<=nd y)->_/\(((decide (((h%2:Nat):Int)=0))=true->_/\((λX1 X2 X3:Prop=>∃h1:Nat,X1/\X2/\((nd (h/2):Nat)=(nd h1))/\(∀j0,j0<(nd (h/2))->(((dg (h/2) j0:Nat):Int)=(dg h1 j0:Int)))/\X3/\(Nat.gcd g.1 g.2.1=Nat.gcd g.1 h1/\0<h1/\(g.1%2=1∨h1%2=1)/\nd h1<=nd y)/\(h1<h)) _ _ _))/\((decide (((h%2:Nat):Int)=0))=false->(((λX1:Prop=>∃p0:Nat×Nat,((nd g.1:Nat)=(nd p0.1))/\(∀j0,j0<(nd g.1)->(((dg g.1 j0:Nat):Int)=(dg p0.1 j0:Int)))/\((nd h:Nat)=(nd p0.2))/\(∀j0,j0<(nd h)->(((dg h j0:Nat):Int)=(dg p0.2 j0:Int)))/\X1/\(Nat.gcd g.1 g.2.1=Nat.gcd p0.1 p0.2/\0<p0.2/\p0.2%2=1/\nd p0.1<=max (nd x) (nd y)/\nd p0.2<=max (nd x) (nd y))) _)/\∀p:Nat×Nat,(Nat.gcd g.1 g.2.1=Nat.gcd p.1 p.2/\0<p.2/\p.2%2=1/\nd p.1<=max (nd x) (nd y)/\nd p.2<=max (nd x) (nd y))->(((decide ((0:Int)<(nd p.1:Int)))=true->(((λX1 X2 X3:Prop=>∃q0:Nat,((nd p.1:Nat)=(nd q0))/\(∀j0,j0<(nd p.1)->(((dg p.1 j0:Nat):Int)=(dg q0 j0:Int)))/\X1/\X2/\X3/\(Nat.gcd p.1 p.2=Nat.gcd q0 p.2/\0<q0/\q0<=p.1)) _ _ _)/\∀q:Nat,(Nat.gcd p.1 p.2=Nat.gcd q p.2/\0<q/\q<=p.1)->_/\(((decide (((q%2:Nat):Int)=0))=true->_/\((λX1 X2 X3:Prop=>∃q1:Nat,((nd (q/2):Nat)=(nd q1))/\(∀j0,j0<(nd (q/2))->(((dg (q/2) j0:Nat):Int)=(dg q1 j0:Int)))/\X1/\X2/\X3/\(Nat.gcd p.1 p.2=Nat.gcd q1 p.2/\0<q1/\q1<=p.1)/\(q1<q)) _ _ _))/\((decide (((q%2:Nat):Int)=0))=false->_/\(((decide ((cmpN q p.2:Int)<0))=true->((nd p.2:Nat)=(nd (max q p.2)))/\(∀j0,j0<(nd p.2)->(((dg p.2 j0:Nat):Int)=(dg (max q p.2) j0:Int)))/\((nd q:Nat)=(nd (min q p.2)))/\(∀j0,j0<(nd q)->(((dg q j0:Nat):Int)=(dg (min q p.2) j0:Int)))/\_/\_/\((λX1:Prop=>∃p1:Nat×Nat,((nd ((max q p.2)-(min q p.2)):Nat)=(nd p1.1))/\(∀j0,j0<(nd ((max q p.2)-(min q p.2)))->(((dg ((max q p.2)-(min q p.2)) j0:Nat):Int)=(dg p1.1 j0:Int)))/\((nd (min q p.2):Nat)=(nd p1.2))/\(∀j0,j0<(nd (min q p.2))->(((dg (min q p.2) j0:Nat):Int)=(dg p1.2 j0:Int)))/\X1/\(Nat.gcd g.1 g.2.1=Nat.gcd p1.1 p1.2/\0<p1.2/\p1.2%2=1/\nd p1.1<=max (nd x) (nd y)/\nd p1.2<=max (nd x) (nd y))/\(p1.1+p1.2<p.1+p.2)) _))/\((decide ((cmpN q p.2:Int)<0))=false->((nd q:Nat)=(nd (max q p.2)))/\(∀j0,j0<(nd q)->(((dg q j0:Nat):Int)=(dg (max q p.2) j0:Int)))/\((nd p.2:Nat)=(nd (min q p.2)))/\(∀j0,j0<(nd p.2)->(((dg p.2 j0:Nat):Int)=(dg (min q p.2) j0:Int)))/\_/\_/\((λX1:Prop=>∃p1:Nat×Nat,((nd ((max q p.2)-(min q p.2)):Nat)=(nd p1.1))/\(∀j0,j0<(nd ((max q p.2)-(min q p.2)))->(((dg ((max q p.2)-(min q p.2)) j0:Nat):Int)=(dg p1.1 j0:Int)))/\((nd (min q p.2):Nat)=(nd p1.2))/\(∀j0,j0<(nd (min q p.2))->(((dg (min q p.2) j0:Nat):Int)=(dg p1.2 j0:Int)))/\X1/\(Nat.gcd g.1 g.2.1=Nat.gcd p1.1 p1.2/\0<p1.2/\p1.2%2=1/\nd p1.1<=max (nd x) (nd y)/\nd p1.2<=max (nd x) (nd y))/\(p1.1+p1.2<p.1+p.2)) _)))))))/\((decide ((0:Int)<(nd p.1:Int)))=false->_/\(((nd (p.2*2^g.2.2):Nat)=(nd (Nat.gcd x y)))/\(∀j0,j0<(nd (p.2*2^g.2.2))->(((dg (p.2*2^g.2.2) j0:Nat):Int)=(dg (Nat.gcd x y) j0:Int))))))))))))))))))
  ⟨(λ_ _=>trivial),(λ_ _=>trivial),λhc9=>have hc9:=dT hc9;have hz:=(xJ x).1 zo;have he:Nat.gcd x y=y:=(by rw[hz];exact Nat.gcd_zero_left y);⟨(by rw[he]),(λj0 hj0=>(by rw[he]))⟩,λhc9=>have hc9:=dF hc9;have hx1:x≠0:=(λe=>by rw[e] at hc9;exact hc9 rfl);⟨λhc13=>have hc13:=dT hc13;have hz:=(xJ y).1 zo;have he:Nat.gcd x y=x:=(by rw[hz];exact Nat.gcd_zero_right x);⟨(by rw[he]),(λj0 hj0=>(by rw[he]))⟩,λhc13=>have hc13:=dF hc13;have hy1:y≠0:=(λe=>by rw[e] at hc13;exact hc13 rfl);⟨⟨(x,y,0),rfl,(λj0 hj0=>rfl),rfl,(λj0 hj0=>rfl),rfl,(Nat.mul_one _).symm,Nat.mul_one _,Nat.pos_of_ne_zero hx1,Nat.pos_of_ne_zero hy1,Nat.le_refl _,Nat.le_refl _⟩,λg hg=>have hg1:=hg.2.2.1;have hg2:=hg.2.2.2.1;have hg3:=hg.2.2.2.2.1;have hg4:=hg.2.2.2.2.2;have ht:=pow_lt_nd hg.2.1 hg1;⟨sEven (x:=g.1),(idB ((decide (((g.1%2:Nat):Int)=0))==true)),(λhg=>sEven (x:=g.2.1)),(by first | (simp;done) | (simp;omega)),λhc20=>have hc:=bifT hc20;⟨sHalved (x:=g.1) zo,sHalved (x:=g.2.1) zo,(wI (g:=g.2.2) zo),(g.1/2,g.2.1/2,g.2.2+1),rfl,(λj0 hj0=>rfl),rfl,(λj0 hj0=>rfl),rfl,(halve_inv hg zo zo),(by show g.1/2<g.1;omega)⟩,λhc20=>have hc:=bifF hc20;⟨⟨g.2.1,(rf (nd g.1:Nat)),(leS (λi0=>iN (dg g.1 i0)) (nd g.1)),zo,(λj0 hj0=>zo),(rf ((g.2.2:Nat):Int)),rfl,hg2,by omega,hg3⟩,λh hh=>have hh1:=hh.2.1;have hh2:=hh.2.2.1;have hh3:=hh.2.2.2;⟨sEven (x:=h),λhc28=>have hc28:=dT hc28;⟨sHalved (x:=h) zo,h/2,(rf (nd g.1:Nat)),(leS (λi0=>iN (dg g.1 i0)) (nd g.1)),zo,(λj0 hj0=>zo),(rf ((g.2.2:Nat):Int)),⟨by rw[hh.1,gcd_odd_2 zo zo],by omega,by omega,by have:=nd_div h 2;omega⟩,zo⟩,λhc28=>have hc28:=dF hc28;⟨⟨(g.1,h),rfl,(λj0 hj0=>rfl),rfl,(λj0 hj0=>rfl),(rf ((g.2.2:Nat):Int)),hh.1,hh1,by show h%2=1;omega,by show nd g.1<=_;omega,by show nd h<=_;omega⟩,λp hp=>have hp1:=hp.2.1;have hp2:=hp.2.2.1;have hp3:=hp.2.2.2.1;have hp4:=hp.2.2.2.2;⟨λhc33=>have hc33:=dT hc33;have hpn:p.1≠0:=(λe=>by rw[e] at hc33;exact absurd hc33 zd);⟨⟨p.1,zo,(λj0 hj0=>zo),(rf (nd p.2:Nat)),(leS (λi0=>iN (dg p.2 i0)) (nd p.2)),(rf ((g.2.2:Nat):Int)),rfl,by omega,Nat.le_refl _⟩,λq hq=>have hq1:=hq.2.1;have hq2:=hq.2.2;have hq3:=kU hq2;⟨sEven (x:=q),λhc35=>have hc35:=dT hc35;⟨sHalved (x:=q) zo,q/2,zo,(λj0 hj0=>zo),(rf (nd p.2:Nat)),(leS (λi0=>iN (dg p.2 i0)) (nd p.2)),(rf ((g.2.2:Nat):Int)),⟨by rw[hq.1,gcd_2_odd zo hp2],by omega,by omega⟩,zo⟩,λhc35=>have hc35:=dF hc35;⟨sRefCmp (x:=q) (y:=p.2) zo,λhc41=>have hc41:=dT hc41;have hlt:=cmpN_neg.1 hc41;have hmx:=Nat.max_eq_right (Nat.le_of_lt hlt);have hmn:=Nat.min_eq_left (Nat.le_of_lt hlt);have hmb:nd (max q p.2)<=max (nd x) (nd y):=(by rw[hmx];omega);⟨(by rw[hmx]),(λj0 hj0=>(by rw[hmx])),(by rw[hmn]),(λj0 hj0=>(by rw[hmn])),(rf ((g.2.2:Nat):Int)),sRefSub (x:=max q p.2) (y:=min q p.2) zo zo,(max q p.2-min q p.2,min q p.2),rfl,(λj0 hj0=>rfl),rfl,(λj0 hj0=>rfl),(rf ((g.2.2:Nat):Int)),(by have k:=gcd_stp hq1 hp1 zo hp2;have b1:=kU k.2.2.2.2.1;have b2:=kU k.2.2.2.2.2;have b3:nd (max q p.2)<=max (nd x) (nd y):=(by rcases Nat.le_total q p.2 with e | e;(rw[Nat.max_eq_right e];omega);(rw[Nat.max_eq_left e];omega));exact⟨hp.1.trans (hq.1.trans k.1),k.2.1,k.2.2.1,by show nd (max q p.2-min q p.2)<=_;omega,by show nd (min q p.2)<=_;omega⟩),(Nat.lt_of_lt_of_le (gcd_stp hq1 hp1 zo hp2).2.2.2.1 zo)⟩,λhc41=>have hc41:=dF hc41;have hlt:=Nat.le_of_not_lt (λe=>hc41 (cmpN_neg.2 e));have hmx:=Nat.max_eq_left hlt;have hmn:=Nat.min_eq_right hlt;have hmb:nd (max q p.2)<=max (nd x) (nd y):=(by rw[hmx];omega);⟨(by rw[hmx]),(λj0 hj0=>(by rw[hmx])),(by rw[hmn]),(λj0 hj0=>(by rw[hmn])),(rf ((g.2.2:Nat):Int)),sRefSub (x:=max q p.2) (y:=min q p.2) zo zo,(max q p.2-min q p.2,min q p.2),rfl,(λj0 hj0=>rfl),rfl,(λj0 hj0=>rfl),(rf ((g.2.2:Nat):Int)),(by have k:=gcd_stp hq1 hp1 zo hp2;have b1:=kU k.2.2.2.2.1;have b2:=kU k.2.2.2.2.2;have b3:nd (max q p.2)<=max (nd x) (nd y):=(by rcases Nat.le_total q p.2 with e | e;(rw[Nat.max_eq_right e];omega);(rw[Nat.max_eq_left e];omega));exact⟨hp.1.trans (hq.1.trans k.1),k.2.1,k.2.2.1,by show nd (max q p.2-min q p.2)<=_;omega,by show nd (min q p.2)<=_;omega⟩),(Nat.lt_of_lt_of_le (gcd_stp hq1 hp1 zo hp2).2.2.2.1 zo)⟩⟩⟩⟩,λhc33=>have hc33:=dF hc33;have hpz:=(xJ p.1).1 zo;have he:Nat.gcd x y=p.2*2^g.2.2:=(by rw[hg.1,hp.1,hpz,Nat.gcd_zero_left]);⟨sRefShl (x:=p.2) (k:=g.2.2) zo zo,(by rw[he]),(λj0 hj0=>(by rw[he]))⟩⟩⟩⟩⟩⟩⟩⟩⟩
open Go.RowKit
def SV.zt (z:Int):SV:=.agg (.cn (bX (decide (z<0))) (.cn (.dgs z.natAbs (nd z.natAbs)) .nl))
def SV.qt (q:Rat):SV:=.agg (.cn (.zt q.num) (.cn (.dgs q.den (nd q.den)) .nl))
abbrev qE (q:Nat->Nat->Rat) (n:Nat):Nat->SV:=λi=>.sl 3 (λj=>.qt (q i j)) n
theorem sgn_lt{b:Bool}{x:Nat}:(bif b then decide ((0:Int)<(nd x:Int)) else false)=decide (signed b x<0):=by
 have:=xJ x
 cases b
 ·simp[signed]
 ·simp only[signed,if_true,cond_true,decide_eq_decide];omega
theorem nd_abs_add(a b:Int):nd (a+b).natAbs<=max (nd a.natAbs) (nd b.natAbs)+1:=Nat.le_trans (kU (Int.natAbs_add_le a b)) (nd_add _ _)
theorem nd_abs_mul(a b:Int):nd (a*b).natAbs<=nd a.natAbs+nd b.natAbs:=by rw[Int.natAbs_mul];exact nd_mul _ _
theorem nd_num(q:Rat):nd q.num.natAbs<=4*szq q:=Nat.le_trans (nd_nw _) (Nat.mul_le_mul_left 4 (szq_num q))
theorem nd_den(q:Rat):nd q.den<=4*szq q:=Nat.le_trans (nd_nw _) (Nat.mul_le_mul_left 4 (szq_den q))
theorem like02{x y:Nat}:(bif decide (x=y) then decide (((nw y:Nat):Int)=(nw x:Int)) else false)=decide (x=y):=by
 by_cases h:x=y
 ·subst h;simp
 ·simp[h]
theorem like07{y z s:Int}(hs:s=z.sign):(bif (bif ((decide (y<0))==(decide (z<0))) then decide (y.sign=s) else false) then decide (z.natAbs=y.natAbs) else false)=decide (z=y):=by
 subst hs
 by_cases h:z=y
 ·subst h;simp
 ·rw[decide_eq_false h]
  by_cases k:y.sign=z.sign
  ·have:¬z.natAbs=y.natAbs:=λe=>h (by rw[←Int.sign_mul_natAbs z,←Int.sign_mul_natAbs y,k,e])
   simp[this]
  ·simp[k]
theorem like5{A B C D E R:Bool}(h1:R=true->A=true/\B=true/\C=true/\D=true/\E=true)(h2:R=false->A=false∨B=false):(bif (bif (bif (bif A then B else false) then C else false) then D else false) then E else false)=R:=by
 cases R
 ·rcases h2 rfl with h | h<;>subst h<;>simp
 ·obtain⟨rfl,rfl,rfl,rfl,rfl⟩:=h1 rfl;rfl
theorem like08{p q:Rat}:(bif (bif (bif (bif decide (p.num=q.num) then decide (p.den=q.den) else false) then(decide (q.den=1))==(decide (cmpN p.den 1=0)) else false) then(decide (q=0))==(decide (((nd p.num.natAbs:Nat):Int)=0)) else false) then decide (((Wd.blen q.num.natAbs+Wd.blen q.den:Nat):Int)=((Wd.blen p.num.natAbs+Wd.blen p.den:Nat):Int)) else false)=decide (p=q):=by
 refine like5 (λh=>?_) (λh=>?_)
 ·have h:=of_decide_eq_true h
  subst h
  refine⟨decide_eq_true rfl,decide_eq_true rfl,beq_iff_eq.2 (decide_eq_decide.2 cmpN_zero.symm),beq_iff_eq.2 (decide_eq_decide.2 ?_),decide_eq_true rfl⟩
  have:=xJ p.num.natAbs
  rw[←Rat.num_eq_zero];omega
 ·have h:=of_decide_eq_false h
  by_cases k:p.num=q.num
  ·exact .inr (decide_eq_false λe=>h (Rat.ext k e))
  ·exact .inl (decide_eq_false k)
theorem sZNew{b:Bool}{x:Nat}:CallOK Tryz.prog 103 [bX b,.dgs x (nd x)] (.zt (signed b x)) []:=by
 exact kP (ch:=[]) Tryz.func103 ((∀j0,j0<(nd x)->True)/\_/\_/\(b=true->(b==true)=true)/\(((bif b then(decide ((0:Int)<(nd x:Int))) else false:Bool)=(decide ((signed b x)<0)))/\((nd x:Nat)=(nd ((signed b x).natAbs)))/\(∀j0,j0<(nd x)->(((dg x j0:Nat):Int)=(dg ((signed b x).natAbs) j0:Int)))))
  ⟨(λ_ _=>trivial),(idB (b==true)),(idB (b==true)),(by first | (simp;done) | (simp;omega)),sgn_lt,(by rw[natAbs_sg]),(λj0 hj0=>(by rw[natAbs_sg]))⟩
theorem sWhole{x:Nat}:CallOK Tryz.prog 107 [.dgs x (nd x)] (.zt (x:Int)) []:=by
 exact kP (ch:=[.reg 1 [(1,.callS (.zt (signed false x)) [])]]) Tryz.func107 ((∀j0,j0<(nd x)->True)/\_/\(((decide ((signed false x)<0):Bool)=(decide ((x:Int)<0)))/\((nd ((signed false x).natAbs):Nat)=(nd ((x:Int).natAbs)))/\(∀j0,j0<(nd ((signed false x).natAbs))->(((dg ((signed false x).natAbs) j0:Nat):Int)=(dg ((x:Int).natAbs) j0:Int)))))
  ⟨(λ_ _=>trivial),sZNew (b:=false) (x:=x),(by rw[jD]),(by rw[jD]),(λj0 hj0=>(by rw[jD]))⟩
theorem sZNeg{z:Int}:CallOK Tryz.prog 110 [.zt z] (.zt (-z)) []:=by
 exact kP (ch:=[.reg 1 [(5,.callS (.zt (signed (!(decide (z<0))) z.natAbs)) [])]]) Tryz.func110 ((∀j0,j0<(nd z.natAbs)->True)/\_/\(((decide ((signed (!(decide (z<0))) z.natAbs)<0):Bool)=(decide ((-z)<0)))/\((nd ((signed (!(decide (z<0))) z.natAbs).natAbs):Nat)=(nd ((-z).natAbs)))/\(∀j0,j0<(nd ((signed (!(decide (z<0))) z.natAbs).natAbs))->(((dg ((signed (!(decide (z<0))) z.natAbs).natAbs) j0:Nat):Int)=(dg ((-z).natAbs) j0:Int)))))
  ⟨(λ_ _=>trivial),sZNew (b:=! (decide (z<0))) (x:=z.natAbs),(by rw[signed_neg]),(by rw[signed_neg]),(λj0 hj0=>(by rw[signed_neg]))⟩
theorem sZMul{y z:Int}(hs:nd y.natAbs+nd z.natAbs<=4294967296):CallOK Tryz.prog 106 [.zt y,.zt z] (.zt (y*z)) []:=by
 exact kP (ch:=[.reg 1 [(9,.callS (.dgs (y.natAbs*z.natAbs) (nd (y.natAbs*z.natAbs))) []),(10,.callS (.zt (signed (!((decide (y<0))==(decide (z<0)))) (y.natAbs*z.natAbs))) [])]]) Tryz.func106 ((∀j0,j0<(nd y.natAbs)->True)/\(∀j0,j0<(nd z.natAbs)->True)/\_/\_/\(((decide ((signed (!((decide (y<0))==(decide (z<0)))) (y.natAbs*z.natAbs))<0):Bool)=(decide ((y*z)<0)))/\((nd ((signed (!((decide (y<0))==(decide (z<0)))) (y.natAbs*z.natAbs)).natAbs):Nat)=(nd ((y*z).natAbs)))/\(∀j0,j0<(nd ((signed (!((decide (y<0))==(decide (z<0)))) (y.natAbs*z.natAbs)).natAbs))->(((dg ((signed (!((decide (y<0))==(decide (z<0)))) (y.natAbs*z.natAbs)).natAbs) j0:Nat):Int)=(dg ((y*z).natAbs) j0:Int)))))
  ⟨(λ_ _=>trivial),(λ_ _=>trivial),sRefMul (x:=y.natAbs) (y:=z.natAbs) zo,sZNew (b:=! ((decide (y<0))==(decide (z<0)))) (x:=y.natAbs*z.natAbs),(by rw[signed_mul2]),(by rw[signed_mul2]),(λj0 hj0=>(by rw[signed_mul2]))⟩
theorem sZAdd{y z:Int}(hy:nd y.natAbs<=4294967296)(hz:nd z.natAbs<=4294967296):CallOK Tryz.prog 111 [.zt y,.zt z] (.zt (y+z)) []:=by
 exact kP (ch:=[.reg 2 [(6,.callS (.dgs (y.natAbs+z.natAbs) (nd (y.natAbs+z.natAbs))) []),(7,.callS (.zt (signed (decide (y<0)) (y.natAbs+z.natAbs))) [])],.reg 3 [(4,.callS (iZ (cmpN y.natAbs z.natAbs)) [])],.reg 4 [(6,.callS (.dgs (y.natAbs-z.natAbs) (nd (y.natAbs-z.natAbs))) []),(7,.callS (.zt (signed (decide (y<0)) (y.natAbs-z.natAbs))) [])],.reg 5 [(6,.callS (.dgs (z.natAbs-y.natAbs) (nd (z.natAbs-y.natAbs))) []),(7,.callS (.zt (signed (decide (z<0)) (z.natAbs-y.natAbs))) [])]]) Tryz.func111 ((∀j0,j0<(nd y.natAbs)->True)/\(∀j0,j0<(nd z.natAbs)->True)/\((((decide (y<0))==(decide (z<0)))=true->_/\_/\(((decide ((signed (decide (y<0)) (y.natAbs+z.natAbs))<0):Bool)=(decide ((y+z)<0)))/\((nd ((signed (decide (y<0)) (y.natAbs+z.natAbs)).natAbs):Nat)=(nd ((y+z).natAbs)))/\(∀j0,j0<(nd ((signed (decide (y<0)) (y.natAbs+z.natAbs)).natAbs))->(((dg ((signed (decide (y<0)) (y.natAbs+z.natAbs)).natAbs) j0:Nat):Int)=(dg ((y+z).natAbs) j0:Int)))))/\(((decide (y<0))==(decide (z<0)))=false->_/\(((decide ((0:Int)<=(cmpN y.natAbs z.natAbs)))=true->_/\_/\(((decide ((signed (decide (y<0)) (y.natAbs-z.natAbs))<0):Bool)=(decide ((y+z)<0)))/\((nd ((signed (decide (y<0)) (y.natAbs-z.natAbs)).natAbs):Nat)=(nd ((y+z).natAbs)))/\(∀j0,j0<(nd ((signed (decide (y<0)) (y.natAbs-z.natAbs)).natAbs))->(((dg ((signed (decide (y<0)) (y.natAbs-z.natAbs)).natAbs) j0:Nat):Int)=(dg ((y+z).natAbs) j0:Int)))))/\((decide ((0:Int)<=(cmpN y.natAbs z.natAbs)))=false->_/\_/\(((decide ((signed (decide (z<0)) (z.natAbs-y.natAbs))<0):Bool)=(decide ((y+z)<0)))/\((nd ((signed (decide (z<0)) (z.natAbs-y.natAbs)).natAbs):Nat)=(nd ((y+z).natAbs)))/\(∀j0,j0<(nd ((signed (decide (z<0)) (z.natAbs-y.natAbs)).natAbs))->(((dg ((signed (decide (z<0)) (z.natAbs-y.natAbs)).natAbs) j0:Nat):Int)=(dg ((y+z).natAbs) j0:Int)))))))))
  ⟨(λ_ _=>trivial),(λ_ _=>trivial),λhc9=>⟨sRefAdd (x:=y.natAbs) (y:=z.natAbs) zo zo,sZNew (b:=decide (y<0)) (x:=y.natAbs+z.natAbs),(by rw[signed_add1 hc9]),(by rw[signed_add1 hc9]),(λj0 hj0=>(by rw[signed_add1 hc9]))⟩,λhc9=>⟨sRefCmp (x:=y.natAbs) (y:=z.natAbs) zo,λhc23=>have hc23:=dT hc23;have hge:=cmpN_ge.1 hc23;⟨sRefSub (x:=y.natAbs) (y:=z.natAbs) zo hge,sZNew (b:=decide (y<0)) (x:=y.natAbs-z.natAbs),(by rw[signed_add2 hc9 hge]),(by rw[signed_add2 hc9 hge]),(λj0 hj0=>(by rw[signed_add2 hc9 hge]))⟩,λhc23=>have hc23:=dF hc23;have hge:=Nat.le_of_lt (Nat.lt_of_not_le (λe=>hc23 (cmpN_ge.2 e)));⟨sRefSub (x:=z.natAbs) (y:=y.natAbs) zo hge,sZNew (b:=decide (z<0)) (x:=z.natAbs-y.natAbs),(by rw[signed_add3 hc9 hge]),(by rw[signed_add3 hc9 hge]),(λj0 hj0=>(by rw[signed_add3 hc9 hge]))⟩⟩⟩
theorem sQNew{p d:Int}(hd:d≠0)(hp2:nd p.natAbs<=1073741824)(hd2:nd d.natAbs<=1073741824):CallOK Tryz.prog 105 [.zt p,.zt d] (.qt (Rat.divInt p d)) []:=by
 have hg:0<Nat.gcd p.natAbs d.natAbs:=Nat.gcd_pos_of_pos_right _ zo
 exact kP (ch:=[.reg 1 [(4,.callS (.dgs (Nat.gcd p.natAbs d.natAbs) (nd (Nat.gcd p.natAbs d.natAbs))) [])],.reg 2 [(3,.callS (c2 (.dgs (p.natAbs/(Nat.gcd p.natAbs d.natAbs)) (nd (p.natAbs/(Nat.gcd p.natAbs d.natAbs)))) (.dgs (p.natAbs%(Nat.gcd p.natAbs d.natAbs)) (nd (p.natAbs%(Nat.gcd p.natAbs d.natAbs))))) [])],.reg 3 [(3,.callS (c2 (.dgs (d.natAbs/(Nat.gcd p.natAbs d.natAbs)) (nd (d.natAbs/(Nat.gcd p.natAbs d.natAbs)))) (.dgs (d.natAbs%(Nat.gcd p.natAbs d.natAbs)) (nd (d.natAbs%(Nat.gcd p.natAbs d.natAbs))))) [])],.reg 4 [(6,.callS (.zt (signed (!((decide (p<0))==(decide (d<0)))) (p.natAbs/(Nat.gcd p.natAbs d.natAbs)))) [])]]) Tryz.func105 ((∀j0,j0<(nd p.natAbs)->True)/\(∀j0,j0<(nd d.natAbs)->True)/\_/\_/\_/\_/\(((decide ((signed (!((decide (p<0))==(decide (d<0)))) (p.natAbs/(Nat.gcd p.natAbs d.natAbs)))<0):Bool)=(decide (((Rat.divInt p d).num)<0)))/\((nd ((signed (!((decide (p<0))==(decide (d<0)))) (p.natAbs/(Nat.gcd p.natAbs d.natAbs))).natAbs):Nat)=(nd (((Rat.divInt p d).num).natAbs)))/\(∀j0,j0<(nd ((signed (!((decide (p<0))==(decide (d<0)))) (p.natAbs/(Nat.gcd p.natAbs d.natAbs))).natAbs))->(((dg ((signed (!((decide (p<0))==(decide (d<0)))) (p.natAbs/(Nat.gcd p.natAbs d.natAbs))).natAbs) j0:Nat):Int)=(dg (((Rat.divInt p d).num).natAbs) j0:Int)))/\((nd (d.natAbs/(Nat.gcd p.natAbs d.natAbs)):Nat)=(nd ((Rat.divInt p d).den)))/\(∀j0,j0<(nd (d.natAbs/(Nat.gcd p.natAbs d.natAbs)))->(((dg (d.natAbs/(Nat.gcd p.natAbs d.natAbs)) j0:Nat):Int)=(dg ((Rat.divInt p d).den) j0:Int)))))
  ⟨(λ_ _=>trivial),(λ_ _=>trivial),sRefGcd (x:=p.natAbs) (y:=d.natAbs) zo zo,sRefDivMod (n:=p.natAbs) (d:=Nat.gcd p.natAbs d.natAbs) zo zo,sRefDivMod (n:=d.natAbs) (d:=Nat.gcd p.natAbs d.natAbs) zo zo,sZNew (b:=! ((decide (p<0))==(decide (d<0)))) (x:=p.natAbs/(Nat.gcd p.natAbs d.natAbs)),(by rw[new_num2 p d hd]),(by first | rw[new_num2 p d hd] | rw[new_den2 p d hd]),(λj0 hj0=>(by first | rw[new_num2 p d hd] | rw[new_den2 p d hd])),(by first | rw[new_num2 p d hd] | rw[new_den2 p d hd]),(λj0 hj0=>(by first | rw[new_num2 p d hd] | rw[new_den2 p d hd]))⟩
theorem sQAdd{p q:Rat}(hs:szq p+szq q<=16777216):CallOK Tryz.prog 73 [.qt p,.qt q] (.qt (p+q)) []:=by
 have h1:=nd_num p
 have h2:=nd_den p
 have h3:=nd_num q
 have h4:=nd_den q
 have h5:nd ((p.den:Nat):Int).natAbs<=4*szq p:=h2
 have h6:nd ((q.den:Nat):Int).natAbs<=4*szq q:=h4
 have h7:=nd_abs_mul p.num ((q.den:Nat):Int)
 have h8:=nd_abs_mul q.num ((p.den:Nat):Int)
 have h9:=nd_abs_add (p.num*((q.den:Nat):Int)) (q.num*((p.den:Nat):Int))
 have h10:nd ((p.den*q.den:Nat):Int).natAbs<=_:=nd_mul p.den q.den
 have h11:=den2_ne p q
 have h12:=add_as p q
 exact kP (ch:=[.reg 1 [(4,.callS (.zt ((q.den:Nat):Int)) []),(5,.callS (.zt (p.num*((q.den:Nat):Int))) []),(10,.callS (.zt ((p.den:Nat):Int)) []),(11,.callS (.zt (q.num*((p.den:Nat):Int))) []),(12,.callS (.zt ((p.num*((q.den:Nat):Int))+(q.num*((p.den:Nat):Int)))) [])],.reg 2 [(5,.callS (.dgs (p.den*q.den) (nd (p.den*q.den))) []),(6,.callS (.zt ((p.den*q.den:Nat):Int)) []),(7,.callS (.qt (Rat.divInt ((p.num*((q.den:Nat):Int))+(q.num*((p.den:Nat):Int))) ((p.den*q.den:Nat):Int))) [])]]) Tryz.func73 ((∀j0,j0<(nd p.num.natAbs)->True)/\(∀j0,j0<(nd p.den)->True)/\(∀j0,j0<(nd q.num.natAbs)->True)/\(∀j0,j0<(nd q.den)->True)/\_/\_/\_/\_/\_/\_/\_/\_/\(((decide (((Rat.divInt ((p.num*((q.den:Nat):Int))+(q.num*((p.den:Nat):Int))) ((p.den*q.den:Nat):Int)).num)<0):Bool)=(decide (((p+q).num)<0)))/\((nd (((Rat.divInt ((p.num*((q.den:Nat):Int))+(q.num*((p.den:Nat):Int))) ((p.den*q.den:Nat):Int)).num).natAbs):Nat)=(nd (((p+q).num).natAbs)))/\(∀j0,j0<(nd (((Rat.divInt ((p.num*((q.den:Nat):Int))+(q.num*((p.den:Nat):Int))) ((p.den*q.den:Nat):Int)).num).natAbs))->(((dg (((Rat.divInt ((p.num*((q.den:Nat):Int))+(q.num*((p.den:Nat):Int))) ((p.den*q.den:Nat):Int)).num).natAbs) j0:Nat):Int)=(dg (((p+q).num).natAbs) j0:Int)))/\((nd ((Rat.divInt ((p.num*((q.den:Nat):Int))+(q.num*((p.den:Nat):Int))) ((p.den*q.den:Nat):Int)).den):Nat)=(nd ((p+q).den)))/\(∀j0,j0<(nd ((Rat.divInt ((p.num*((q.den:Nat):Int))+(q.num*((p.den:Nat):Int))) ((p.den*q.den:Nat):Int)).den))->(((dg ((Rat.divInt ((p.num*((q.den:Nat):Int))+(q.num*((p.den:Nat):Int))) ((p.den*q.den:Nat):Int)).den) j0:Nat):Int)=(dg ((p+q).den) j0:Int)))))
  ⟨(λ_ _=>trivial),(λ_ _=>trivial),(λ_ _=>trivial),(λ_ _=>trivial),sWhole (x:=q.den),sZMul (y:=p.num) (z:=((q.den:Nat):Int)) zo,sWhole (x:=p.den),sZMul (y:=q.num) (z:=((p.den:Nat):Int)) zo,sZAdd (y:=(p.num*((q.den:Nat):Int))) (z:=(q.num*((p.den:Nat):Int))) zo zo,sRefMul (x:=p.den) (y:=q.den) zo,sWhole (x:=p.den*q.den),sQNew (p:=((p.num*((q.den:Nat):Int))+(q.num*((p.den:Nat):Int)))) (d:=(((p.den*q.den):Nat):Int)) h11 zo zo,(by rw[h12]),(by rw[h12]),(λj0 hj0=>(by rw[h12])),(by rw[h12]),(λj0 hj0=>(by rw[h12]))⟩
theorem sQMul{p q:Rat}(hs:szq p+szq q<=16777216):CallOK Tryz.prog 70 [.qt p,.qt q] (.qt (p*q)) []:=by
 have h1:=nd_num p
 have h2:=nd_den p
 have h3:=nd_num q
 have h4:=nd_den q
 have h5:nd ((p.den:Nat):Int).natAbs<=4*szq p:=h2
 have h6:nd ((q.den:Nat):Int).natAbs<=4*szq q:=h4
 have h7:=nd_abs_mul p.num q.num
 have h10:nd ((p.den*q.den:Nat):Int).natAbs<=_:=nd_mul p.den q.den
 have h11:=den2_ne p q
 have h12:=mul_as p q
 exact kP (ch:=[.reg 1 [(4,.callS (.zt (p.num*q.num)) []),(9,.callS (.dgs (p.den*q.den) (nd (p.den*q.den))) []),(10,.callS (.zt ((p.den*q.den:Nat):Int)) []),(11,.callS (.qt (Rat.divInt (p.num*q.num) ((p.den*q.den:Nat):Int))) [])]]) Tryz.func70 ((∀j0,j0<(nd p.num.natAbs)->True)/\(∀j0,j0<(nd p.den)->True)/\(∀j0,j0<(nd q.num.natAbs)->True)/\(∀j0,j0<(nd q.den)->True)/\_/\_/\_/\_/\(((decide (((Rat.divInt (p.num*q.num) ((p.den*q.den:Nat):Int)).num)<0):Bool)=(decide (((p*q).num)<0)))/\((nd (((Rat.divInt (p.num*q.num) ((p.den*q.den:Nat):Int)).num).natAbs):Nat)=(nd (((p*q).num).natAbs)))/\(∀j0,j0<(nd (((Rat.divInt (p.num*q.num) ((p.den*q.den:Nat):Int)).num).natAbs))->(((dg (((Rat.divInt (p.num*q.num) ((p.den*q.den:Nat):Int)).num).natAbs) j0:Nat):Int)=(dg (((p*q).num).natAbs) j0:Int)))/\((nd ((Rat.divInt (p.num*q.num) ((p.den*q.den:Nat):Int)).den):Nat)=(nd ((p*q).den)))/\(∀j0,j0<(nd ((Rat.divInt (p.num*q.num) ((p.den*q.den:Nat):Int)).den))->(((dg ((Rat.divInt (p.num*q.num) ((p.den*q.den:Nat):Int)).den) j0:Nat):Int)=(dg ((p*q).den) j0:Int)))))
  ⟨(λ_ _=>trivial),(λ_ _=>trivial),(λ_ _=>trivial),(λ_ _=>trivial),sZMul (y:=p.num) (z:=q.num) zo,sRefMul (x:=p.den) (y:=q.den) zo,sWhole (x:=p.den*q.den),sQNew (p:=p.num*q.num) (d:=(((p.den*q.den):Nat):Int)) h11 zo zo,(by rw[h12]),(by rw[h12]),(λj0 hj0=>(by rw[h12])),(by rw[h12]),(λj0 hj0=>(by rw[h12]))⟩
theorem sLike2{x y:Nat}(hx:nd x<=17179869184):CallOK Tryz.prog 146 [.nat y,.dgs x (nd x)] (bX (decide (x=y))) []:=by
 exact kP (ch:=[.reg 1 [(2,.callS (.wds y (nw y)) []),(3,.callS (bX (decide (x=y))) []),(6,.callS (iN (nw y)) []),(8,.callS (.wds x (nw x)) [])]]) Tryz.func146 ((∀j0,j0<(nd x)->True)/\_/\_/\_/\(((decide (x=y))==true)=true->_)/\_/\(((decide (x=y))==true)=true->_)/\_/\_/\_/\((decide (x=y))=true->((decide (x=y))==true)=true)/\(((bif (decide (x=y)) then(decide (((nw y:Nat):Int)=(nw x:Int))) else false:Bool)=(decide (x=y)))))
  ⟨(λ_ _=>trivial),sNatWords (x:=y),sRefIs (x:=x) (y:=y) zo,(idB ((decide (x=y))==true)),(λhg=>sNatLen (x:=y)),(idB ((decide (x=y))==true)),(λhg=>sRefWords (x:=x) zo),(idB ((decide (x=y))==true)),(idB ((decide (x=y))==true)),(idB ((decide (x=y))==true)),(by first | (simp;done) | (simp;omega)),like02⟩
theorem sLike7{y z:Int}(hz:nd z.natAbs<=17179869184):CallOK Tryz.prog 144 [.int y,.zt z] (bX (decide (z=y))) []:=by
 have hn:=xJ z.natAbs
 exact kP (ch:=[.reg 6 [(1,.callS (bX (decide (y<0))) []),(7,.callS (.ex (.int .i64 y.sign)) []),(13,.callS (.nat y.natAbs) []),(16,.callS (bX (decide (z.natAbs=y.natAbs))) [])],.reg 6 [(1,.callS (bX (decide (y<0))) []),(7,.callS (.ex (.int .i64 y.sign)) []),(13,.callS (.nat y.natAbs) []),(16,.callS (bX (decide (z.natAbs=y.natAbs))) [])],.reg 6 [(1,.callS (bX (decide (y<0))) []),(7,.callS (.ex (.int .i64 y.sign)) []),(13,.callS (.nat y.natAbs) []),(16,.callS (bX (decide (z.natAbs=y.natAbs))) [])]]) Tryz.func144 (let y5:=(decide (y<0));let y4:=(decide (z<0));let y0:=(bif (y5==y4) then(decide ((y.sign:Int)=(-1))) else false);let y1:=(bif (y5==y4) then(decide ((y.sign:Int)=0)) else false);let y2:=(bif (y5==y4) then(decide ((y.sign:Int)=1)) else false);let y3:=((y5==y4)==true);let y6:=(decide (z.natAbs=y.natAbs));(∀j0,j0<(nd z.natAbs)->True)/\((y4=true->_/\(y3=true->y3=true)/\(y3=true->_)/\(y3=true->y3=true)/\(y3=true->y3=true)/\((y5==y4)=true->y3=true)/\((y0==true)=true->(y0==true)=true)/\((y0==true)=true->_)/\((y0==true)=true->(y0==true)=true)/\((y0==true)=true->(y0==true)=true)/\((y0==true)=true->(y0==true)=true)/\((y0==true)=true->_)/\(y0=true->(y0==true)=true)/\(((bif y0 then y6 else false:Bool)=(decide (z=y)))))/\(y4=false->(((decide (((nd z.natAbs:Nat):Int)=0))=true->_/\(y3=true->y3=true)/\(y3=true->_)/\(y3=true->y3=true)/\(y3=true->y3=true)/\((y5==y4)=true->y3=true)/\((y1==true)=true->(y1==true)=true)/\((y1==true)=true->_)/\((y1==true)=true->(y1==true)=true)/\((y1==true)=true->(y1==true)=true)/\((y1==true)=true->(y1==true)=true)/\((y1==true)=true->_)/\(y1=true->(y1==true)=true)/\(((bif y1 then y6 else false:Bool)=(decide (z=y)))))/\((decide (((nd z.natAbs:Nat):Int)=0))=false->_/\(y3=true->y3=true)/\(y3=true->_)/\(y3=true->y3=true)/\(y3=true->y3=true)/\((y5==y4)=true->y3=true)/\((y2==true)=true->(y2==true)=true)/\((y2==true)=true->_)/\((y2==true)=true->(y2==true)=true)/\((y2==true)=true->(y2==true)=true)/\((y2==true)=true->(y2==true)=true)/\((y2==true)=true->_)/\(y2=true->(y2==true)=true)/\(((bif y2 then y6 else false:Bool)=(decide (z=y)))))))))
  ⟨(λ_ _=>trivial),λhc7=>have hc7:=dT hc7;have hs:=(Int.sign_eq_neg_one_of_neg hc7).symm;⟨sIntBelow (z:=y),id,(λhg=>sIntSign (z:=y)),id,id,(by first | (simp;done) | (simp;omega)),id,(λhg=>sIntAbs (z:=y)),id,id,id,(λhg=>sLike2 (x:=z.natAbs) (y:=y.natAbs) zo),(by first | (simp;done) | (simp;omega)),(like07 hs)⟩,λhc7=>have hc7:=dF hc7;⟨λhc11=>have hc11:=dT hc11;have hs:0=z.sign:=(by rw[show z=0 by omega];rfl);⟨sIntBelow (z:=y),id,(λhg=>sIntSign (z:=y)),id,id,(by first | (simp;done) | (simp;omega)),id,(λhg=>sIntAbs (z:=y)),id,id,id,(λhg=>sLike2 (x:=z.natAbs) (y:=y.natAbs) zo),(by first | (simp;done) | (simp;omega)),(like07 hs)⟩,λhc11=>have hc11:=dF hc11;have hs:=(Int.sign_eq_one_of_pos (show 0<z by omega)).symm;⟨sIntBelow (z:=y),id,(λhg=>sIntSign (z:=y)),id,id,(by first | (simp;done) | (simp;omega)),id,(λhg=>sIntAbs (z:=y)),id,id,id,(λhg=>sLike2 (x:=z.natAbs) (y:=y.natAbs) zo),(by first | (simp;done) | (simp;omega)),(like07 hs)⟩⟩⟩
theorem sLike8{p q:Rat}(hp:szq p<=16777216):CallOK Tryz.prog 112 [.rat q,.qt p] (bX (decide (p=q))) []:=by
 have h1:=nd_num p
 have h2:=nd_den p
 have h3:Wd.blen p.num.natAbs<=16*nd p.num.natAbs:=by unfold nd;omega
 have h4:Wd.blen p.den<=16*nd p.den:=by unfold nd;omega
 exact kP (ch:=[.reg 1 [(3,.call [.dgs p.den (nd p.den),.dgs 1 (nd 1)] (iZ (cmpN p.den 1)) [])],.reg 2 [(1,.callS (.int q.num) []),(4,.callS (bX (decide (p.num=q.num))) []),(7,.callS (.nat q.den) []),(10,.callS (bX (decide (p.den=q.den))) []),(14,.callS (bX (decide (q.den=1))) []),(20,.callS (bX (decide (q=0))) []),(30,.callS (iN (Wd.blen q.num.natAbs+Wd.blen q.den)) []),(34,.callS (iN (Wd.blen p.num.natAbs)) []),(37,.callS (iN (Wd.blen p.den)) []),(38,.z ((Wd.blen p.num.natAbs+Wd.blen p.den:Nat):Int))]]) Tryz.func112 (let y5:=(decide (p.num=q.num));let y2:=(bif y5 then(decide (p.den=q.den)) else false);let y0:=(bif y2 then((decide (q.den=1))==(decide ((cmpN p.den 1:Int)=0))) else false);let y4:=(bif y0 then((decide (q=0))==(decide (((nd p.num.natAbs:Nat):Int)=0))) else false);let y1:=(y4==true);let y3:=(y5==true);(∀j0,j0<(nd p.num.natAbs)->True)/\(∀j0,j0<(nd p.den)->True)/\_/\_/\_/\((1:Nat)=(nd 1))/\(∀j0,j0<1->((1:Int)=(dg 1 j0:Int)))/\_/\_/\(y3=true->y3=true)/\(y3=true->_)/\(y3=true->y3=true)/\(y3=true->y3=true)/\(y3=true->y3=true)/\(y3=true->_)/\(y5=true->y3=true)/\((y2==true)=true->(y2==true)=true)/\((y2==true)=true->_)/\((y2==true)=true->(y2==true)=true)/\((y2==true)=true->(y2==true)=true)/\(y2=true->(y2==true)=true)/\((y0==true)=true->(y0==true)=true)/\((y0==true)=true->_)/\((y0==true)=true->(y0==true)=true)/\((y0==true)=true->(y0==true)=true)/\((y0==true)=true->(y0==true)=true)/\((y0==true)=true->(y0==true)=true)/\((y0==true)=true->(y0==true)=true)/\((y0==true)=true->(y0==true)=true)/\(y0=true->(y0==true)=true)/\(y1=true->y1=true)/\(y1=true->_)/\(y1=true->y1=true)/\(y1=true->y1=true)/\(y1=true->y1=true)/\(y1=true->_)/\(y1=true->y1=true)/\(y1=true->y1=true)/\(y1=true->_)/\(y1=true->y1=true)/\(y1=true->y1=true)/\(y1=true->IntKind.wrap .i64 (((Wd.blen p.num.natAbs:Nat):Int)+(Wd.blen p.den:Int))=(((Wd.blen p.num.natAbs+Wd.blen p.den:Nat):Int)))/\(y1=true->y1=true)/\(y1=true->y1=true)/\(y4=true->y1=true)/\(((bif y4 then(decide (((Wd.blen q.num.natAbs+Wd.blen q.den:Nat):Int)=((Wd.blen p.num.natAbs+Wd.blen p.den:Nat):Int))) else false:Bool)=(decide (p=q)))))
  ⟨(λ_ _=>trivial),(λ_ _=>trivial),sRefCmp (x:=p.den) (y:=1) zo,(rf (nd p.den:Nat)),(leS (λi0=>iN (dg p.den i0)) (nd p.den)),rfl,(λj0 hj0=>(by rw[show j0=0 by omega];rfl)),sRatNum (q:=q),sLike7 (y:=q.num) (z:=p.num) zo,id,(λhg=>sRatDen (q:=q)),id,id,id,(λhg=>sLike2 (x:=p.den) (y:=q.den) zo),(by first | (simp;done) | (simp;omega)),id,(λhg=>sRatIsInt (q:=q)),id,id,(by first | (simp;done) | (simp;omega)),id,(λhg=>sRatZero (q:=q)),id,id,id,id,id,id,(by first | (simp;done) | (simp;omega)),id,(λhg=>sRatBits (q:=q)),id,id,id,(λhg=>sRefBits (x:=p.num.natAbs) zo),id,id,(λhg=>sRefBits (x:=p.den) zo),id,id,(λhg=>(by rw[IntKind.wrap_i64];omega)),id,id,(by first | (simp;done) | (simp;omega)),like08⟩
open Go.RowKit
theorem div_ne(p:Rat){q:Rat}(hq:q≠0):((p.den:Nat):Int)*q.num≠0:=Int.mul_ne_zero (den_ne p) λe=>hq (Rat.num_eq_zero.1 e)
theorem div_as(p q:Rat):p/q=Rat.divInt (p.num*((q.den:Nat):Int)) (((p.den:Nat):Int)*q.num):=by
 have h:p*q⁻¹=Rat.divInt p.num p.den*Rat.divInt q.den q.num:=by rw[Rat.num_divInt_den,Rat.inv_def]
 rw[Rat.div_def,h,Rat.divInt_mul_divInt]
theorem sQNeg{q:Rat}:CallOK Tryz.prog 72 [.qt q] (.qt (-q)) []:=by
 exact kP (ch:=[.reg 1 [(2,.callS (.zt (-q.num)) [])]]) Tryz.func72 ((∀j0,j0<(nd q.num.natAbs)->True)/\(∀j0,j0<(nd q.den)->True)/\_/\(((decide ((-q.num)<0):Bool)=(decide (((-q).num)<0)))/\((nd ((-q.num).natAbs):Nat)=(nd (((-q).num).natAbs)))/\(∀j0,j0<(nd ((-q.num).natAbs))->(((dg ((-q.num).natAbs) j0:Nat):Int)=(dg (((-q).num).natAbs) j0:Int)))/\((nd q.den:Nat)=(nd ((-q).den)))/\(∀j0,j0<(nd q.den)->(((dg q.den j0:Nat):Int)=(dg ((-q).den) j0:Int)))))
  ⟨(λ_ _=>trivial),(λ_ _=>trivial),sZNeg (z:=q.num),(by rw[Rat.neg_num]),(by rw[Rat.neg_num]),(λj0 hj0=>(by rw[Rat.neg_num])),(by rw[Rat.neg_den]),(λj0 hj0=>(by rw[Rat.neg_den]))⟩
theorem sQDiv{p q:Rat}(hs:szq p+szq q<=16777216)(hq:q≠0):CallOK Tryz.prog 113 [.qt p,.qt q] (.qt (p/q)) []:=by
 have h1:=nd_num p
 have h2:=nd_den p
 have h3:=nd_num q
 have h4:=nd_den q
 have h5:nd ((p.den:Nat):Int).natAbs<=4*szq p:=h2
 have h6:nd ((q.den:Nat):Int).natAbs<=4*szq q:=h4
 have h7:=nd_abs_mul p.num ((q.den:Nat):Int)
 have h8:=nd_abs_mul ((p.den:Nat):Int) q.num
 have h11:=div_ne p hq
 have h12:=div_as p q
 exact kP (ch:=[.reg 1 [(4,.callS (.zt ((q.den:Nat):Int)) []),(5,.callS (.zt (p.num*((q.den:Nat):Int))) []),(8,.callS (.zt ((p.den:Nat):Int)) []),(11,.callS (.zt (((p.den:Nat):Int)*q.num)) []),(12,.callS (.qt (Rat.divInt (p.num*((q.den:Nat):Int)) (((p.den:Nat):Int)*q.num))) [])]]) Tryz.func113 ((∀j0,j0<(nd p.num.natAbs)->True)/\(∀j0,j0<(nd p.den)->True)/\(∀j0,j0<(nd q.num.natAbs)->True)/\(∀j0,j0<(nd q.den)->True)/\_/\_/\_/\_/\_/\(((decide (((Rat.divInt (p.num*((q.den:Nat):Int)) (((p.den:Nat):Int)*q.num)).num)<0):Bool)=(decide (((p/q).num)<0)))/\((nd (((Rat.divInt (p.num*((q.den:Nat):Int)) (((p.den:Nat):Int)*q.num)).num).natAbs):Nat)=(nd (((p/q).num).natAbs)))/\(∀j0,j0<(nd (((Rat.divInt (p.num*((q.den:Nat):Int)) (((p.den:Nat):Int)*q.num)).num).natAbs))->(((dg (((Rat.divInt (p.num*((q.den:Nat):Int)) (((p.den:Nat):Int)*q.num)).num).natAbs) j0:Nat):Int)=(dg (((p/q).num).natAbs) j0:Int)))/\((nd ((Rat.divInt (p.num*((q.den:Nat):Int)) (((p.den:Nat):Int)*q.num)).den):Nat)=(nd ((p/q).den)))/\(∀j0,j0<(nd ((Rat.divInt (p.num*((q.den:Nat):Int)) (((p.den:Nat):Int)*q.num)).den))->(((dg ((Rat.divInt (p.num*((q.den:Nat):Int)) (((p.den:Nat):Int)*q.num)).den) j0:Nat):Int)=(dg ((p/q).den) j0:Int)))))
  ⟨(λ_ _=>trivial),(λ_ _=>trivial),(λ_ _=>trivial),(λ_ _=>trivial),sWhole (x:=q.den),sZMul (y:=p.num) (z:=((q.den:Nat):Int)) zo,sWhole (x:=p.den),sZMul (y:=((p.den:Nat):Int)) (z:=q.num) zo,sQNew (p:=(p.num*((q.den:Nat):Int))) (d:=(((p.den:Nat):Int)*q.num)) h11 zo zo,(by rw[h12]),(by rw[h12]),(λj0 hj0=>(by rw[h12])),(by rw[h12]),(λj0 hj0=>(by rw[h12]))⟩
open Go.RowKit
theorem sRefOf1{k:Nat}(hk:k<18446744073709551616):CallOK Tryz.prog 104 [.sl 1 (λ_=>uZ (k:Int)) 1] (.dgs k (nd k)) []:=by
 have h:=sRefOf (w:=λ_=>k) (n:=1) zd (λ_ _=>hk)
 have e:val (λ_=>k) 1=k:=by simp[val]
 rw[e] at h
 exact h
theorem sg_self(x:Int):signed (decide (x<0)) x.natAbs=x:=by
 unfold signed
 by_cases h:x<0<;>simp[h]<;>omega
theorem nd_int{x:Int}(h:Wd64 x):nd ((x:Int):Rat).num.natAbs<=4:=by
 rw[Rat.num_intCast]
 refine(nd_le _ 4).2 ?_
 have h1:=h.1;have h2:=h.2
 have:(2:Nat)^(16*4)=18446744073709551616:=by decide
 omega
theorem bif_and2{P Q:Prop} [Decidable P] [Decidable Q](h:(bif decide P then decide Q else false)=true):P/\Q:=by
 by_cases p:P
 ·exact⟨p,by simpa [p] using h⟩
 ·simp[p] at h
theorem bif_nand{P Q:Prop} [Decidable P] [Decidable Q](h:(bif decide P then decide Q else false)=false):¬(P/\Q):=λ⟨p,q⟩=>by simp[p,q] at h
theorem sQInt{x:Int}(hl:-9223372036854775808<=x)(hu:x<9223372036854775808):CallOK Tryz.prog 69 [.ex (.int .i64 x)] (.qt ((x:Int):Rat)) []:=by
 exact kP (ch:=[.reg 1 [(1,.z (x%18446744073709551616))],.reg 3 [(1,.z ((x.natAbs:Nat):Int))],.conv 4 [(0,.id 0)] ⟨[(0,.ex (.int .i64 x)),(2,.own 0 0),(3,uZ ((x.natAbs:Nat):Int))],[(0,.one (.var 78 (.ex (.agg #[.bool false,.slice none 0 0,.slice none 0 0]))))],1⟩,.reg 4 [(4,.callS (.dgs x.natAbs (nd x.natAbs)) []),(5,.callS (.zt (signed (decide ((x:Int)<0)) x.natAbs)) [])],.conv 4 [(0,.id 0)] ⟨[(0,.ex (.int .i64 x)),(2,.own 0 0),(3,uZ ((x.natAbs:Nat):Int))],[(0,.one (.var 78 (.ex (.agg #[.bool false,.slice none 0 0,.slice none 0 0]))))],1⟩,.reg 4 [(4,.callS (.dgs x.natAbs (nd x.natAbs)) []),(5,.callS (.zt (signed (decide ((x:Int)<0)) x.natAbs)) [])]]) Tryz.func69 ((IntKind.wrap .u64 (x:Int)=(x%18446744073709551616))/\(((decide ((x:Int)<0))=true->(IntKind.wrap .u64 (0-(x%18446744073709551616))=(((x.natAbs:Nat):Int)))/\_/\_/\_/\((.agg #[.bool false,.slice none 0 0,.slice none 0 0]:Value)=.agg #[.bool false,.slice none 0 0,.slice none 0 0])/\_/\_/\(((decide ((signed (decide ((x:Int)<0)) x.natAbs)<0):Bool)=(decide ((((x:Int):Rat).num)<0)))/\((nd ((signed (decide ((x:Int)<0)) x.natAbs).natAbs):Nat)=(nd ((((x:Int):Rat).num).natAbs)))/\(∀j0,j0<(nd ((signed (decide ((x:Int)<0)) x.natAbs).natAbs))->(((dg ((signed (decide ((x:Int)<0)) x.natAbs).natAbs) j0:Nat):Int)=(dg ((((x:Int):Rat).num).natAbs) j0:Int)))/\((1:Nat)=(nd (((x:Int):Rat).den)))/\(∀j0,j0<1->((1:Int)=(dg (((x:Int):Rat).den) j0:Int)))))/\((decide ((x:Int)<0))=false->_/\_/\((x%18446744073709551616:Int)=((x.natAbs:Nat):Int))/\((.agg #[.bool false,.slice none 0 0,.slice none 0 0]:Value)=.agg #[.bool false,.slice none 0 0,.slice none 0 0])/\_/\_/\(((decide ((signed (decide ((x:Int)<0)) x.natAbs)<0):Bool)=(decide ((((x:Int):Rat).num)<0)))/\((nd ((signed (decide ((x:Int)<0)) x.natAbs).natAbs):Nat)=(nd ((((x:Int):Rat).num).natAbs)))/\(∀j0,j0<(nd ((signed (decide ((x:Int)<0)) x.natAbs).natAbs))->(((dg ((signed (decide ((x:Int)<0)) x.natAbs).natAbs) j0:Nat):Int)=(dg ((((x:Int):Rat).num).natAbs) j0:Int)))/\((1:Nat)=(nd (((x:Int):Rat).den)))/\(∀j0,j0<1->((1:Int)=(dg (((x:Int):Rat).den) j0:Int)))))))
  ⟨(by rw[IntKind.wrap_u64]),λhc7=>have hc7:=dT hc7;⟨(by rw[IntKind.wrap_u64];omega),(rf (x:Int)),(rf 0),(rf ((x.natAbs:Nat):Int)),rfl,sRefOf1 (k:=x.natAbs) zo,sZNew (b:=(decide ((x:Int)<0))) (x:=x.natAbs),(by rw[sg_self,Rat.num_intCast]),(by rw[sg_self,Rat.num_intCast]),(λj0 hj0=>(by rw[sg_self,Rat.num_intCast])),(by rw[Rat.den_intCast];rfl),(λj0 hj0=>(by rw[Rat.den_intCast,show j0=0 by omega];rfl))⟩,λhc7=>have hc7:=dF hc7;⟨(rf (x:Int)),(rf 0),zo,rfl,sRefOf1 (k:=x.natAbs) zo,sZNew (b:=(decide ((x:Int)<0))) (x:=x.natAbs),(by rw[sg_self,Rat.num_intCast]),(by rw[sg_self,Rat.num_intCast]),(λj0 hj0=>(by rw[sg_self,Rat.num_intCast])),(by rw[Rat.den_intCast];rfl),(λj0 hj0=>(by rw[Rat.den_intCast,show j0=0 by omega];rfl))⟩⟩
theorem sQOf{p q:Int}(hp:Wd64 p)(hq:Wd64 q):CallOK Tryz.prog 79 [.ex (.int .i64 p),.ex (.int .i64 q)] (.qt (oneQ p q)) []:=by
 have hp1:=hp.1;have hp2:=hp.2;have hq1:=hq.1;have hq2:=hq.2
 have n1:=nd_int (x:=p) hp
 have n2:=nd_int (x:=q) hq
 have m2:((q:Int):Rat).num=q:=Rat.num_intCast q
 exact kP (ch:=[.reg 2 [(1,.callS (.qt ((p:Int):Rat)) [])],.reg 3 [(1,.callS (.qt ((p:Int):Rat)) []),(4,.callS (.qt ((q:Int):Rat)) []),(6,.callS (.qt (Rat.divInt (((p:Int):Rat).num) (((q:Int):Rat).num))) [])]]) Tryz.func79 ((((decide ((q:Int)=0))=true->_/\(((decide ((((p:Int):Rat).num)<0):Bool)=(decide (((oneQ p q).num)<0)))/\((nd ((((p:Int):Rat).num).natAbs):Nat)=(nd (((oneQ p q).num).natAbs)))/\(∀j0,j0<(nd ((((p:Int):Rat).num).natAbs))->(((dg ((((p:Int):Rat).num).natAbs) j0:Nat):Int)=(dg (((oneQ p q).num).natAbs) j0:Int)))/\((nd (((p:Int):Rat).den):Nat)=(nd ((oneQ p q).den)))/\(∀j0,j0<(nd (((p:Int):Rat).den))->(((dg (((p:Int):Rat).den) j0:Nat):Int)=(dg ((oneQ p q).den) j0:Int)))))/\((decide ((q:Int)=0))=false->_/\_/\_/\(((decide (((Rat.divInt (((p:Int):Rat).num) (((q:Int):Rat).num)).num)<0):Bool)=(decide (((oneQ p q).num)<0)))/\((nd (((Rat.divInt (((p:Int):Rat).num) (((q:Int):Rat).num)).num).natAbs):Nat)=(nd (((oneQ p q).num).natAbs)))/\(∀j0,j0<(nd (((Rat.divInt (((p:Int):Rat).num) (((q:Int):Rat).num)).num).natAbs))->(((dg (((Rat.divInt (((p:Int):Rat).num) (((q:Int):Rat).num)).num).natAbs) j0:Nat):Int)=(dg (((oneQ p q).num).natAbs) j0:Int)))/\((nd ((Rat.divInt (((p:Int):Rat).num) (((q:Int):Rat).num)).den):Nat)=(nd ((oneQ p q).den)))/\(∀j0,j0<(nd ((Rat.divInt (((p:Int):Rat).num) (((q:Int):Rat).num)).den))->(((dg ((Rat.divInt (((p:Int):Rat).num) (((q:Int):Rat).num)).den) j0:Nat):Int)=(dg ((oneQ p q).den) j0:Int)))))))
  ⟨λhc6=>have hc6:=dT hc6;have e:oneQ p q=((p:Int):Rat):=if_pos hc6;⟨sQInt (x:=p) zo zo,(by rw[e]),(by rw[e]),(λj0 hj0=>(by rw[e])),(by rw[e]),(λj0 hj0=>(by rw[e]))⟩,λhc6=>have hc6:=dF hc6;have e:oneQ p q=Rat.divInt (((p:Int):Rat).num) (((q:Int):Rat).num):=(by rw[Rat.num_intCast,Rat.num_intCast];exact if_neg hc6);⟨sQInt (x:=p) zo zo,sQInt (x:=q) zo zo,sQNew (p:=(((p:Int):Rat).num)) (d:=(((q:Int):Rat).num)) (by rw[m2];exact hc6) zo zo,(by rw[e]),(by rw[e]),(λj0 hj0=>(by rw[e])),(by rw[e]),(λj0 hj0=>(by rw[e]))⟩⟩
theorem sRef10{p d:Nat->Int}{n:Nat}(hn:n<=68719476736)(h:∀i,i<n->Wd64 (p i)/\Wd64 (d i)):CallOK Tryz.prog 39 [fE p d n] (.sl 3 (λi0=>.qt (oneQ (p i0) (d i0))) n) []:=by
 exact kP (ch:=[.loop 3 (Nat) (λg=>g<=n) (λg=>n-g) (λg=>⟨[(0,fE p d n),(3,.own 0 0),(4,iN g)],[(0,.one (.row 78 3 (λi0=>.qt (oneQ (p i0) (d i0))) g))],1⟩) [(0,.nil)] (λ_=>[(0,.id 1)]) (λg=>[.reg 5 [(3,.k g),(8,.k g),(11,.callS (.qt (oneQ (p g) (d g))) []),(13,.row 0 (λi0=>.qt (oneQ (p i0) (d i0))))],.reg 4 [(1,.z ((g+1:Nat):Int))]])]) Tryz.func39 ((∀j0,j0<n->True)/\(((λX1 X2 X3:Prop=>∃g0:Nat,X1/\X2/\X3/\((0:Int)=(g0:Int))/\((g0:Nat)=0)/\(g0<=n)) _ _ _)/\∀g:Nat,(g<=n)->(((decide ((g:Int)<(n:Int)))=true->_/\(g<n)/\_/\(g<n)/\_/\(g+1<=68719476736)/\_/\_/\_/\((λX1 X2 X3 X4:Prop=>∃g1:Nat,X1/\X2/\X3/\(((g+1:Nat):Int)=(g1:Int))/\((g+1:Nat)=g1)/\X4/\(g1<=n)/\(n-g1<n-g)) _ _ _ _))/\((decide ((g:Int)<(n:Int)))=false->(((g:Nat)=n)/\_)))))
  ⟨(λ_ _=>trivial),⟨0,(rf n),(leS (λi0=>.agg (c2 (iZ (p i0)) (iZ (d i0)))) n),(rf 0),zo,zo,zo⟩,λg hg=>⟨λhc8=>have hc8:=dT hc8;have hg2:=h g zo;⟨(rf (g:Int)),zo,(rf (g:Int)),zo,sQOf (p:=p g) (q:=d g) hg2.1 hg2.2,zo,(oldS (λi0=>.qt (oneQ (p i0) (d i0))) g),(newS (λi0=>.qt (oneQ (p i0) (d i0))) g),(wI (g:=g) zo),g+1,(rf n),(leS (λi0=>.agg (c2 (iZ (p i0)) (iZ (d i0)))) n),(rf 0),zo,zo,(leS (λi0=>.qt (oneQ (p i0) (d i0))) (g+1)),zo,zo⟩,λhc8=>have hc8:=dF hc8;have hi2:g=n:=zo;⟨hi2,(leS (λi0=>.qt (oneQ (p i0) (d i0))) g)⟩⟩⟩
theorem sLike10{q f:Nat->Rat}{n m:Nat}(hn:n<=68719476736)(hs:∀i,i<m->szq (f i)<=16777216):CallOK Tryz.prog 75 [.sl 3 (λi0=>.rat (q i0)) n,.sl 3 (λi0=>.qt (f i0)) m] (bX (decide (n=m/\∀i:Nat,i<n->f i=q i))) []:=by
 exact kP (ch:=[.loop 4 (Nat) (λg=>g<=n/\∀i,i<g->f i=q i) (λg=>n-g) (λg=>⟨[(0,.sl 3 (λi0=>.rat (q i0)) n),(1,.sl 3 (λi0=>.qt (f i0)) m),(5,iN g)],[],0⟩) [] (λ_=>[]) (λg=>[.reg 6 [(2,.k g),(6,.k g),(8,.callS (bX (decide ((f g)=(q g)))) [])],.reg 5 [(1,.z ((g+1:Nat):Int))]])]) Tryz.func75 ((∀j0,j0<n->True)/\(∀j0,j0<m->(∀j1,j1<(nd (((f j0).num).natAbs))->True)/\(∀j1,j1<(nd ((f j0).den))->True))/\(((!decide ((n:Int)=(m:Int)))=true->(((false:Bool)=(decide (n=m/\∀i:Nat,i<n->f i=q i)))))/\((!decide ((n:Int)=(m:Int)))=false->(((λX1 X2 X3 X4:Prop=>∃g0:Nat,X1/\X2/\X3/\X4/\((0:Int)=(g0:Int))/\(g0<=n/\∀i,i<g0->f i=q i)) _ _ _ _)/\∀g:Nat,(g<=n/\∀i,i<g->f i=q i)->(((decide ((g:Int)<(n:Int)))=true->_/\(g<n)/\_/\(g<m)/\_/\(((!(decide ((f g)=(q g))))=true->(((false:Bool)=(decide (n=m/\∀i:Nat,i<n->f i=q i)))))/\((!(decide ((f g)=(q g))))=false->_/\((λX1 X2 X3 X4:Prop=>∃g1:Nat,X1/\X2/\X3/\X4/\(((g+1:Nat):Int)=(g1:Int))/\(g1<=n/\∀i,i<g1->f i=q i)/\(n-g1<n-g)) _ _ _ _))))/\((decide ((g:Int)<(n:Int)))=false->(((true:Bool)=(decide (n=m/\∀i:Nat,i<n->f i=q i))))))))))
  ⟨(λ_ _=>trivial),(λ_ _=>⟨(λ_ _=>trivial),(λ_ _=>trivial)⟩),λhc10=>have hnm:n≠m:=(by have h:=hc10;simp at h;omega);(decide_eq_false (λe=>hnm e.1)).symm,λhc10=>have hnm:n=m:=(by have h:=hc10;simp at h;omega);⟨⟨0,(rf n),(leS (λi0=>.rat (q i0)) n),(rf m),(leS (λi0=>.qt (f i0)) m),zo,by omega,λj hj=>by omega⟩,λg hg=>have hg1:=hg.1;⟨λhc14=>have hc14:=dT hc14;have hg2:=hs g zo;⟨(rf (g:Int)),zo,(rf (g:Int)),zo,sLike8 (p:=f g) (q:=q g) hg2,λhc26=>have he:f g≠q g:=(by simpa using hc26);(decide_eq_false (λe=>he (e.2 g zo))).symm,λhc26=>have he:f g=q g:=(by simpa using hc26);⟨(wI (g:=g) zo),g+1,(rf n),(leS (λi0=>.rat (q i0)) n),(rf m),(leS (λi0=>.qt (f i0)) m),zo,⟨by omega,λi hi=>by by_cases e:i=g;(subst e;exact he);exact hg.2 i zo⟩,zo⟩⟩,λhc14=>have hc14:=dF hc14;(decide_eq_true ⟨hnm,λi hi=>hg.2 i zo⟩).symm⟩⟩⟩
open Go.RowKit
theorem sRCol{q:Nat->Nat->Rat}{m n c:Nat}(hm:m<=68719476736)(hc:c<n):CallOK Tryz.prog 114 [.agg (c2 (.sl 1 (qE q n) m) (iN n)),iN c] (.sl 3 (λi0=>.qt (q i0 c)) m) []:=by
 exact kP (ch:=[.loop 3 (Nat) (λg=>g<=m) (λg=>m-g) (λg=>⟨[(1,iN c),(2,.own 0 0),(5,.own 1 0),(6,iN g)],[(0,.one (.var 68 (.agg (c2 (.sl 1 (qE q n) m) (iN n))))),(1,.one (.row 78 3 (λi0=>.qt (q i0 c)) g))],2⟩) [(0,.id 0),(1,.nil)] (λ_=>[(0,.id 0),(1,.id 2)]) (λg=>[.reg 5 [(4,.k g),(7,.k c),(10,.row 0 (λi0=>.qt (q i0 c)))],.reg 4 [(1,.z ((g+1:Nat):Int))]])]) Tryz.func114 ((∀j0,j0<m->(∀j1,j1<n->(∀j2,j2<(nd (((q j0 j1).num).natAbs))->True)/\(∀j2,j2<(nd ((q j0 j1).den))->True)))/\(((λX1 X2 X3 X4 X5 X6:Prop=>∃g0:Nat,X1/\X2/\X3/\((0:Int)=(g0:Int))/\X4/\X5/\X6/\((g0:Nat)=0)/\(g0<=m)) _ _ _ _ _ _)/\∀g:Nat,(g<=m)->(((decide ((g:Int)<(m:Int)))=true->_/\(g<m)/\_/\(c<n)/\(g+1<=68719476736)/\_/\_/\_/\((λX1 X2 X3 X4 X5 X6 X7:Prop=>∃g1:Nat,X1/\X2/\X3/\(((g+1:Nat):Int)=(g1:Int))/\X4/\X5/\X6/\((g+1:Nat)=g1)/\X7/\(g1<=m)/\(m-g1<m-g)) _ _ _ _ _ _ _))/\((decide ((g:Int)<(m:Int)))=false->(((g:Nat)=m)/\_)))))
  ⟨(λ_ _=>(λ_ _=>⟨(λ_ _=>trivial),(λ_ _=>trivial)⟩)),⟨0,(rf (c:Int)),(rf 0),(rf 0),zo,(rf m),(leS (qE q n) m),(rf (n:Int)),zo,zo⟩,λg hg=>⟨λhc11=>have hc11:=dT hc11;⟨(rf (g:Int)),zo,(rf (c:Int)),zo,zo,(oldS (λi0=>.qt (q i0 c)) g),(newS (λi0=>.qt (q i0 c)) g),(wI (g:=g) zo),g+1,(rf (c:Int)),(rf 0),(rf 0),zo,(rf m),(leS (qE q n) m),(rf (n:Int)),zo,(leS (λi0=>.qt (q i0 c)) (g+1)),zo,zo⟩,λhc11=>have hc11:=dF hc11;have hi2:g=m:=zo;⟨hi2,(leS (λi0=>.qt (q i0 c)) g)⟩⟩⟩
theorem sRTurned{q:Nat->Nat->Rat}{m n:Nat}(hm:m<=68719476736)(hn:n<=68719476736):CallOK Tryz.prog 77 [.agg (c2 (.sl 1 (qE q n) m) (iN n))] (.agg (c2 (.sl 1 (λi0=>.sl 3 (λi1=>.qt (q i1 i0)) m) n) (iN m))) []:=by
 exact kP (ch:=[.loop 3 (Nat) (λg=>g<=n) (λg=>n-g) (λg=>⟨[(1,.own 0 0),(2,.own 1 0),(3,.own 2 0),(4,iN g)],[(0,.one (.var 68 (.agg (c2 (.sl 1 (qE q n) m) (iN n))))),(1,.one (.var 68 (.ex (.agg #[.slice none 0 0,.int .i64 0])))),(2,.one (.var 68 (.agg (c2 (.own 3 0) (iN m))))),(3,.one (.row 86 1 (λi0=>.sl 3 (λi1=>.qt (q i1 i0)) m) g))],4⟩) [(0,.id 0),(1,.id 1),(2,.id 2),(3,.nil)] (λ_=>[(0,.id 0),(1,.id 1),(2,.id 2),(3,.id 4)]) (λg=>[.reg 5 [(4,.callS (.sl 3 (λi0=>.qt (q i0 g)) m) []),(6,.row 0 (λi0=>.sl 3 (λi1=>.qt (q i1 i0)) m))],.reg 4 [(1,.z ((g+1:Nat):Int))]])]) Tryz.func77 ((∀j0,j0<m->(∀j1,j1<n->(∀j2,j2<(nd (((q j0 j1).num).natAbs))->True)/\(∀j2,j2<(nd ((q j0 j1).den))->True)))/\(((λX1 X2 X3 X4 X5 X6 X7 X8:Prop=>∃g0:Nat,X1/\X2/\X3/\((0:Int)=(g0:Int))/\X4/\X5/\X6/\((.agg #[.slice none 0 0,.int .i64 0]:Value)=.agg #[.slice none 0 0,.int .i64 0])/\X7/\X8/\((g0:Nat)=0)/\(g0<=n)) _ _ _ _ _ _ _ _)/\∀g:Nat,(g<=n)->(((decide ((g:Int)<(n:Int)))=true->(CallOK Tryz.prog 114 [.agg (c2 (.sl 1 (qE q n) m) (iN n)),iN g] (.sl 3 (λi0=>.qt (q i0 g)) m) [])/\(g+1<=68719476736)/\_/\_/\_/\((λX1 X2 X3 X4 X5 X6 X7 X8 X9:Prop=>∃g1:Nat,X1/\X2/\X3/\(((g+1:Nat):Int)=(g1:Int))/\X4/\X5/\X6/\((.agg #[.slice none 0 0,.int .i64 0]:Value)=.agg #[.slice none 0 0,.int .i64 0])/\X7/\X8/\((g+1:Nat)=g1)/\X9/\(g1<=n)/\(n-g1<n-g)) _ _ _ _ _ _ _ _ _))/\((decide ((g:Int)<(n:Int)))=false->(((g:Nat)=n)/\_/\_)))))
  ⟨(λ_ _=>(λ_ _=>⟨(λ_ _=>trivial),(λ_ _=>trivial)⟩)),⟨0,(rf 0),(rf 0),(rf 0),zo,(rf m),(leS (qE q n) m),(rf (n:Int)),rfl,(rf 0),(rf (m:Int)),zo,zo⟩,λg hg=>⟨λhc12=>have hc12:=dT hc12;⟨sRCol (q:=q) zo zo,zo,(oldS (λi0=>.sl 3 (λi1=>.qt (q i1 i0)) m) g),(newS (λi0=>.sl 3 (λi1=>.qt (q i1 i0)) m) g),(wI (g:=g) zo),g+1,(rf 0),(rf 0),(rf 0),zo,(rf m),(leS (qE q n) m),(rf (n:Int)),rfl,(rf 0),(rf (m:Int)),zo,(leS (λi0=>.sl 3 (λi1=>.qt (q i1 i0)) m) (g+1)),zo,zo⟩,λhc12=>have hc12:=dF hc12;have hi2:g=n:=zo;⟨zo,(leS (λi0=>.sl 3 (λi1=>.qt (q i1 i0)) m) g),(rf (m:Int))⟩⟩⟩
theorem sRef11{z l:Nat}{k:Nat->Nat}{p d:Nat->Nat->Int}(h:∀r,r<l->∀c,c<k r->Wd64 (p r c)/\Wd64 (d r c)):CallOK Tryz.prog 66 [.agg (c2 (.ex (.int .u8 (z:Int))) (.sl 1 (λi0=>.sl 2 (λi1=>.agg (c2 (iZ (p i0 i1)) (iZ (d i0 i1)))) (k i0)) l))] (.agg (c2 (.sl 1 (λi0=>.sl 3 (λi1=>.qt (oneQ (padZ (k i0) (p i0) i1) (padZ (k i0) (d i0) i1))) (z%7)) (min l 6)) (iN (z%7)))) []:=by
 have hw:∀r,r<min l 6->∀c,c<z%7->Wd64 (padZ (k r) (p r) c)/\Wd64 (padZ (k r) (d r) c):=λr hr c _=>⟨padZ_wd λhc=>(h r zo c hc).1,padZ_wd λhc=>(h r zo c hc).2⟩
 exact kP (ch:=[.reg 1 [(1,.callS (c2 (.sl 1 (λi0=>.sl 2 (λi1=>.agg (c2 (iZ (padZ (k i0) (p i0) i1)) (iZ (padZ (k i0) (d i0) i1)))) (z%7)) (min l 6)) (iN (z%7))) [])],.loop 4 (Nat) (λg=>g<=(min l 6)) (λg=>min l 6-g) (λg=>⟨[(2,.own 1 0),(3,.sl 1 (λi0=>.sl 2 (λi1=>.agg (c2 (iZ (padZ (k i0) (p i0) i1)) (iZ (padZ (k i0) (d i0) i1)))) (z%7)) (min l 6)),(5,.own 2 0),(6,iN g)],[(0,.one (.var 24 (.agg (c2 (.ex (.int .u8 (z:Int))) (.sl 1 (λi0=>.sl 2 (λi1=>.agg (c2 (iZ (p i0 i1)) (iZ (d i0 i1)))) (k i0)) l))))),(1,.one (.var 68 (.ex (.agg #[.slice none 0 0,.int .i64 0])))),(2,.one (.var 68 (.agg (c2 (.own 3 0) (iN (z%7)))))),(3,.one (.row 86 1 (λi0=>.sl 3 (λi1=>.qt (oneQ (padZ (k i0) (p i0) i1) (padZ (k i0) (d i0) i1))) (z%7)) g))],4⟩) [(0,.id 0),(1,.id 1),(2,.id 2),(3,.nil)] (λ_=>[(0,.id 0),(1,.id 1),(2,.id 2),(3,.id 4)]) (λg=>[.reg 6 [(4,.k g),(6,.callS (.sl 3 (λi0=>.qt (oneQ (padZ (k g) (p g) i0) (padZ (k g) (d g) i0))) (z%7)) []),(8,.row 0 (λi0=>.sl 3 (λi1=>.qt (oneQ (padZ (k i0) (p i0) i1) (padZ (k i0) (d i0) i1))) (z%7)))],.reg 5 [(1,.z ((g+1:Nat):Int))]])]) Tryz.func66 ((∀j0,j0<l->(∀j1,j1<(k j0)->True))/\_/\(((λX1 X2 X3 X4 X5 X6 X7 X8 X9:Prop=>∃g0:Nat,X1/\X2/\X3/\X4/\((0:Int)=(g0:Int))/\X5/\X6/\X7/\((.agg #[.slice none 0 0,.int .i64 0]:Value)=.agg #[.slice none 0 0,.int .i64 0])/\X8/\X9/\((g0:Nat)=0)/\(g0<=(min l 6))) _ _ _ _ _ _ _ _ _)/\∀g:Nat,(g<=(min l 6))->(((decide ((g:Int)<((min l 6:Nat):Int)))=true->_/\(g<(min l 6))/\_/\(g+1<=68719476736)/\_/\_/\_/\((λX1 X2 X3 X4 X5 X6 X7 X8 X9 X10:Prop=>∃g1:Nat,X1/\X2/\X3/\X4/\(((g+1:Nat):Int)=(g1:Int))/\X5/\X6/\X7/\((.agg #[.slice none 0 0,.int .i64 0]:Value)=.agg #[.slice none 0 0,.int .i64 0])/\X8/\X9/\((g+1:Nat)=g1)/\X10/\(g1<=(min l 6))/\(min l 6-g1<min l 6-g)) _ _ _ _ _ _ _ _ _ _))/\((decide ((g:Int)<((min l 6:Nat):Int)))=false->(((g:Nat)=(min l 6))/\_/\_)))))
  ⟨(λ_ _=>(λ_ _=>trivial)),sRows11 (z:=z) (l:=l) (k:=k) (p:=p) (d:=d),⟨0,(rf 0),(rf (min l 6:Nat)),(leS (λi0=>.sl 2 (λi1=>.agg (c2 (iZ (padZ (k i0) (p i0) i1)) (iZ (padZ (k i0) (d i0) i1)))) (z%7)) (min l 6)),(rf 0),zo,(rf (z:Int)),(rf l),(leS (λi0=>.sl 2 (λi1=>.agg (c2 (iZ (p i0 i1)) (iZ (d i0 i1)))) (k i0)) l),rfl,(rf 0),(rf ((z%7:Nat):Int)),zo,zo⟩,λg hg=>⟨λhc17=>have hc17:=dT hc17;have hg2:=hw g zo;⟨(rf (g:Int)),zo,sRef10 (n:=z%7) (p:=λi=>padZ (k g) (p g) i) (d:=λi=>padZ (k g) (d g) i) zo hg2,zo,(oldS (λi0=>.sl 3 (λi1=>.qt (oneQ (padZ (k i0) (p i0) i1) (padZ (k i0) (d i0) i1))) (z%7)) g),(newS (λi0=>.sl 3 (λi1=>.qt (oneQ (padZ (k i0) (p i0) i1) (padZ (k i0) (d i0) i1))) (z%7)) g),(wI (g:=g) zo),g+1,(rf 0),(rf (min l 6:Nat)),(leS (λi0=>.sl 2 (λi1=>.agg (c2 (iZ (padZ (k i0) (p i0) i1)) (iZ (padZ (k i0) (d i0) i1)))) (z%7)) (min l 6)),(rf 0),zo,(rf (z:Int)),(rf l),(leS (λi0=>.sl 2 (λi1=>.agg (c2 (iZ (p i0 i1)) (iZ (d i0 i1)))) (k i0)) l),rfl,(rf 0),(rf ((z%7:Nat):Int)),zo,(leS (λi0=>.sl 3 (λi1=>.qt (oneQ (padZ (k i0) (p i0) i1) (padZ (k i0) (d i0) i1))) (z%7)) (g+1)),zo,zo⟩,λhc17=>have hc17:=dF hc17;have hi2:g=min l 6:=zo;⟨hi2,(leS (λi0=>.sl 3 (λi1=>.qt (oneQ (padZ (k i0) (p i0) i1) (padZ (k i0) (d i0) i1))) (z%7)) g),(rf ((z%7:Nat):Int))⟩⟩⟩
open Go.RowKit
theorem rz_iff{q:Rat}:(decide (((nd q.num.natAbs:Nat):Int)=0))=decide (q=0):=by
 apply decide_eq_decide.2
 have h:=xJ q.num.natAbs
 constructor
 ·intro e;exact Rat.num_eq_zero.1 (by have:=h.1 zo;omega)
 ·intro e;rw[e];rfl
theorem rz_zero{q:Rat}(h:(nd q.num.natAbs:Int)=0):q=0:=of_decide_eq_true (rz_iff.symm.trans (decide_eq_true h))
def skl (k g:Nat):Nat:=if g<=k then g else g-1
theorem skl_le(k g:Nat):skl k g<=g:=by unfold skl;split<;>omega
theorem skl_zero{k:Nat}:skl k 0=0:=if_pos (Nat.zero_le k)
theorem skl_hit{k g:Nat}(h:g≠k):skl k g+1=skl k (g+1):=by unfold skl;split<;>split<;>omega
theorem skl_miss{k g:Nat}(h:g=k):skl k g=skl k (g+1):=by unfold skl;split<;>split<;>omega
theorem skl_end{k m:Nat}(h:k<=m):skl k (m+1)=m:=by unfold skl;split<;>omega
theorem skl_skp{k g:Nat}(h:g≠k):skp k (skl k g)=g:=by unfold skp skl;split<;>split<;>omega
theorem sRZero{q:Rat}:CallOK Tryz.prog 31 [.qt q] (bX (decide (q=0))) []:=by
 exact kP (ch:=[]) Tryz.func31 ((∀j0,j0<(nd q.num.natAbs)->True)/\(∀j0,j0<(nd q.den)->True)/\(((decide (((nd q.num.natAbs:Nat):Int)=0):Bool)=(decide (q=0)))))
  ⟨(λ_ _=>trivial),(λ_ _=>trivial),rz_iff⟩
theorem sRWithout{q:Nat->Nat->Rat}{m n k:Nat}(hm:m<=64)(hk:k<=m):CallOK Tryz.prog 109 [.sl 1 (qE q n) (m+1),iN k] (.sl 1 (λi0=>.sl 3 (λi1=>.qt (q (skp k i0) i1)) n) m) []:=by
 exact kP (ch:=[.loop 3 (Nat) (λg=>g<=m+1) (λg=>m+1-g) (λg=>⟨[(0,.sl 1 (qE q n) (m+1)),(1,iN k),(5,.own 0 0),(6,iN g)],[(0,.one (.row 86 1 (λi0=>.sl 3 (λi1=>.qt (q (skp k i0) i1)) n) (skl k g)))],1⟩) [(0,.nil)] (λ_=>[(0,.id 0)]) (λg=>[.reg 6 [(3,.k g),(6,.row 0 (λi0=>.sl 3 (λi1=>.qt (q (skp k i0) i1)) n))],.conv2 4 1 [(0,.id 1)] [(0,.id 0)] ⟨[(0,.sl 1 (qE q n) (m+1)),(1,iN k),(5,.own 0 0),(6,iN g)],[(0,.one (.row 86 1 (λi0=>.sl 3 (λi1=>.qt (q (skp k i0) i1)) n) (skl k (g+1))))],2⟩,.reg 4 [(1,.z ((g+1:Nat):Int))],.conv2 4 1 [(0,.id 1)] [(0,.id 0)] ⟨[(0,.sl 1 (qE q n) (m+1)),(1,iN k),(5,.own 0 0),(6,iN g)],[(0,.one (.row 86 1 (λi0=>.sl 3 (λi1=>.qt (q (skp k i0) i1)) n) (skl k (g+1))))],2⟩,.reg 4 [(1,.z ((g+1:Nat):Int))]])]) Tryz.func109 ((∀j0,j0<(m+1)->(∀j1,j1<n->(∀j2,j2<(nd (((q j0 j1).num).natAbs))->True)/\(∀j2,j2<(nd ((q j0 j1).den))->True)))/\(((λX1 X2 X3 X4:Prop=>∃g0:Nat,X1/\X2/\X3/\X4/\((0:Int)=(g0:Int))/\((skl k g0:Nat)=0)/\(g0<=m+1)) _ _ _ _)/\∀g:Nat,(g<=m+1)->(((decide ((g:Int)<((m+1:Nat):Int)))=true->(((!decide ((g:Int)=(k:Int)))=true->_/\(g<(m+1))/\((skl k g)+1<=68719476736)/\_/\(∀j0,j0<1->((n:Nat)=n)/\(∀j1,j1<n->((decide (((q g j1).num)<0):Bool)=(decide (((q (skp k ((skl k g)+j0)) j1).num)<0)))/\((nd (((q g j1).num).natAbs):Nat)=(nd (((q (skp k ((skl k g)+j0)) j1).num).natAbs)))/\(∀j2,j2<(nd (((q g j1).num).natAbs))->(((dg (((q g j1).num).natAbs) j2:Nat):Int)=(dg (((q (skp k ((skl k g)+j0)) j1).num).natAbs) j2:Int)))/\((nd ((q g j1).den):Nat)=(nd ((q (skp k ((skl k g)+j0)) j1).den)))/\(∀j2,j2<(nd ((q g j1).den))->(((dg ((q g j1).den) j2:Nat):Int)=(dg ((q (skp k ((skl k g)+j0)) j1).den) j2:Int)))))/\_/\_/\_/\_/\_/\(((skl k g)+1:Nat)=(skl k (g+1)))/\_/\_/\((λX1 X2 X3 X4 X5:Prop=>∃g1:Nat,X1/\X2/\X3/\X4/\(((g+1:Nat):Int)=(g1:Int))/\((skl k (g+1):Nat)=(skl k g1))/\X5/\(g1<=m+1)/\(m+1-g1<m+1-g)) _ _ _ _ _))/\((!decide ((g:Int)=(k:Int)))=false->_/\_/\_/\_/\_/\((skl k g:Nat)=(skl k (g+1)))/\_/\_/\((λX1 X2 X3 X4 X5:Prop=>∃g1:Nat,X1/\X2/\X3/\X4/\(((g+1:Nat):Int)=(g1:Int))/\((skl k (g+1):Nat)=(skl k g1))/\X5/\(g1<=m+1)/\(m+1-g1<m+1-g)) _ _ _ _ _))))/\((decide ((g:Int)<((m+1:Nat):Int)))=false->(((skl k g:Nat)=m)/\_)))))
  ⟨(λ_ _=>(λ_ _=>⟨(λ_ _=>trivial),(λ_ _=>trivial)⟩)),⟨0,(rf (m+1:Nat)),(leS (qE q n) (m+1)),(rf (k:Int)),(rf 0),zo,skl_zero,zo⟩,λg hg=>⟨λhc10=>have hc10:=dT hc10;have hsl:=skl_le k g;⟨λhc15=>have hk2:g≠k:=(by simp at hc15;omega);⟨(rf (g:Int)),zo,zo,(oldS (λi0=>.sl 3 (λi1=>.qt (q (skp k i0) i1)) n) (skl k g)),(λj0 hj0=>by obtain rfl:j0=0:=zo;rw[show skp k (skl k g+0)=g from skl_skp hk2];exact⟨rfl,λ_ _=>⟨rfl,rfl,λ_ _=>rfl,rfl,λ_ _=>rfl⟩⟩),(rf (m+1:Nat)),(leS (qE q n) (m+1)),(rf (k:Int)),(rf 0),(rf (g:Int)),(by first | exact skl_hit hk2 | exact skl_miss hk2),(leS (λi0=>.sl 3 (λi1=>.qt (q (skp k i0) i1)) n) ((skl k g)+1)),(wI (g:=g) zo),g+1,(rf (m+1:Nat)),(leS (qE q n) (m+1)),(rf (k:Int)),(rf 0),zo,zo,(leS (λi0=>.sl 3 (λi1=>.qt (q (skp k i0) i1)) n) (skl k (g+1))),zo,zo⟩,λhc15=>have hk2:g=k:=(by simp at hc15;omega);⟨(rf (m+1:Nat)),(leS (qE q n) (m+1)),(rf (k:Int)),(rf 0),(rf (g:Int)),(by first | exact skl_hit hk2 | exact skl_miss hk2),(leS (λi0=>.sl 3 (λi1=>.qt (q (skp k i0) i1)) n) (skl k g)),(wI (g:=g) zo),g+1,(rf (m+1:Nat)),(leS (qE q n) (m+1)),(rf (k:Int)),(rf 0),zo,zo,(leS (λi0=>.sl 3 (λi1=>.qt (q (skp k i0) i1)) n) (skl k (g+1))),zo,zo⟩⟩,λhc10=>have hc10:=dF hc10;have hi2:g=m+1:=zo;⟨(by rw[hi2];exact skl_end hk),(leS (λi0=>.sl 3 (λi1=>.qt (q (skp k i0) i1)) n) (skl k g))⟩⟩⟩
theorem sRMinor{q:Nat->Nat->Rat}{m n a b:Nat}(hm:m<=64)(hn:n<=64)(hr:a<=m)(hc:b<=n):CallOK Tryz.prog 71 [.agg (c2 (.sl 1 (qE q (n+1)) (m+1)) (iN (n+1))),iN a,iN b] (.agg (c2 (.sl 1 (qE (zB q a b) n) m) (iN n))) []:=by
 exact kP (ch:=[.reg 1 [(3,.callS (.sl 1 (λi0=>.sl 3 (λi1=>.qt (q (skp a i0) i1)) (n+1)) m) []),(7,.callS (.agg (c2 (.sl 1 (λi0=>.sl 3 (λi1=>.qt (q (skp a i1) i0)) m) (n+1)) (iN m))) [])],.reg 2 [(3,.callS (.sl 1 (λi0=>.sl 3 (λi1=>.qt (q (skp a i1) (skp b i0))) m) n) [])],.reg 3 [(1,.callS (.agg (c2 (.sl 1 (λi0=>.sl 3 (λi1=>.qt (q (skp a i0) (skp b i1))) n) m) (iN n))) [])]]) Tryz.func71 ((∀j0,j0<(m+1)->(∀j1,j1<(n+1)->(∀j2,j2<(nd (((q j0 j1).num).natAbs))->True)/\(∀j2,j2<(nd ((q j0 j1).den))->True)))/\_/\_/\_/\_/\(_/\(∀j0,j0<m->((n:Nat)=n)/\(∀j1,j1<n->((decide (((q (skp a j0) (skp b j1)).num)<0):Bool)=(decide ((((zB q a b) j0 j1).num)<0)))/\((nd (((q (skp a j0) (skp b j1)).num).natAbs):Nat)=(nd ((((zB q a b) j0 j1).num).natAbs)))/\(∀j2,j2<(nd (((q (skp a j0) (skp b j1)).num).natAbs))->(((dg (((q (skp a j0) (skp b j1)).num).natAbs) j2:Nat):Int)=(dg ((((zB q a b) j0 j1).num).natAbs) j2:Int)))/\((nd ((q (skp a j0) (skp b j1)).den):Nat)=(nd (((zB q a b) j0 j1).den)))/\(∀j2,j2<(nd ((q (skp a j0) (skp b j1)).den))->(((dg ((q (skp a j0) (skp b j1)).den) j2:Nat):Int)=(dg (((zB q a b) j0 j1).den) j2:Int)))))/\_))
  ⟨(λ_ _=>(λ_ _=>⟨(λ_ _=>trivial),(λ_ _=>trivial)⟩)),(sRWithout (n:=n+1) (k:=a) (q:=q) (m:=m) zo hr),sRTurned (m:=m) (n:=n+1) (q:=(λr c=>q (skp a r) c)) zo zo,(sRWithout (n:=m) (k:=b) (q:=(λr c=>q (skp a c) r)) (m:=n) zo hc),sRTurned (m:=n) (n:=m) (q:=(λr c=>q (skp a c) (skp b r))) zo zo,(rf m),(λj0 hj0=>⟨rfl,(λj1 hj1=>⟨rfl,rfl,(λj2 hj2=>rfl),rfl,(λj2 hj2=>rfl)⟩)⟩),(rf (n:Int))⟩
theorem sgn_par:∀n,sgn n=if n%2=1 then-1 else 1
 | 0=>rfl
 | n+1=>by
  show-sgn n=_
  rw[sgn_par n]
  by_cases h:n%2=1
  ·rw[if_pos h,if_neg zo];rfl
  ·rw[if_neg h,if_pos zo]
theorem sgn_odd{g:Nat}(x y:Rat)(h:((g%2:Nat):Int)=1):-(x*y)=sgn g*x*y:=by rw[sgn_par,if_pos zo];grind
theorem sgn_even{g:Nat}(x y:Rat)(h:¬((g%2:Nat):Int)=1):x*y=sgn g*x*y:=by rw[sgn_par,if_neg zo];grind
theorem sum_zero{F:Nat->Rat}{g:Nat}(h:F g=0):sumQ F g=sumQ F (g+1):=by show _=sumQ F g+F g;rw[h];grind
def dB (E:Nat):Nat->Nat
 | 0=>1
 | n+1=>(n+1)*(E+dB E n+2)+1
theorem ht_sgnm(n:Nat)(x:Rat):htq (sgn n*x)=htq x:=by
 rw[sgn_par]
 split
 ·rw[show(-1:Rat)*x=-x by grind,ht_neg]
 ·rw[show(1:Rat)*x=x by grind]
theorem det_ht{E:Nat}:∀n {q:Nat->Nat->Rat},(∀i,i<n->∀j,j<n->htq (q i j)<=E)->htq (det n q)<=dB E n/\∀g,g<=n->htq (sumQ (λc=>sgn c*q 0 c*det (n-1) (zB q 0 c)) g)<=dB E n
 | 0,q,_=>⟨by show htq 1<=1;rw[ht_one];omega,λg hg=>(by cases Nat.le_zero.1 hg;show htq 0<=1;rw[ht_zero];omega)⟩
 | n+1,q,h=>by
  have hs:∀g,g<=n+1->htq (sumQ (λc=>sgn c*q 0 c*det n (zB q 0 c)) g)<=g*(E+dB E n+2)+1:=by
   intro g
   induction g with
   | zero=>intro _;show htq 0<=_;rw[ht_zero];omega
   | succ g ih=>
    intro hg
    have h1:=ih zo
    have h2:=(det_ht n (q:=zB q 0 g) λi hi j hj=>h _ (skp_lt hi) _ (skp_lt hj)).1
    have h3:=ht_add (sumQ (λc=>sgn c*q 0 c*det n (zB q 0 c)) g) (sgn g*q 0 g*det n (zB q 0 g))
    have h4:=uB (sgn g*q 0 g) (det n (zB q 0 g))
    have h5:=ht_sgnm g (q 0 g)
    have h6:=h 0 zo g zo
    have h7:(g+1)*(E+dB E n+2)=g*(E+dB E n+2)+(E+dB E n+2):=Nat.succ_mul _ _
    show htq (sumQ (λc=>sgn c*q 0 c*det n (zB q 0 c)) g+sgn g*q 0 g*det n (zB q 0 g))<=_
    omega
  have hm:∀g,g<=n+1->g*(E+dB E n+2)+1<=dB E (n+1):=λg hg=>Nat.succ_le_succ (Nat.mul_le_mul_right _ hg)
  exact⟨Nat.le_trans (hs (n+1) (Nat.le_refl _)) (hm _ (Nat.le_refl _)),λg hg=>Nat.le_trans (hs g hg) (hm g hg)⟩
theorem dB_le{E:Nat}(hE:E<=1000):∀n,n<=6->dB E n<=3000000
 | 0,_=>by show 1<=3000000;decide
 | 1,_ | 2,_ | 3,_ | 4,_ | 5,_ | 6,_=>by simp only[dB];omega
 | n+7,h=>by omega
theorem det_room{n E:Nat}{q:Nat->Nat->Rat}(hn:n<=5)(hE:E<=1000)(h:∀i,i<n+1->∀j,j<n+1->htq (q i j)<=E):∀g,g<n+1->szq (q 0 g)+szq (det n (zB q 0 g))<=16777216/\szq (sumQ (λc=>sgn c*q 0 c*det n (zB q 0 c)) g)+szq (sgn g*q 0 g*det n (zB q 0 g))<=16777216:=λg hg=>by
 have h1:=(det_ht n (q:=zB q 0 g) λi hi j hj=>h _ (skp_lt hi) _ (skp_lt hj)).1
 have h2:=(det_ht (n+1) h).2 g zo
 have h3:=dB_le hE n zo
 have h4:=dB_le hE (n+1) zo
 have h5:=uB (sgn g*q 0 g) (det n (zB q 0 g))
 have h6:=ht_sgnm g (q 0 g)
 have h7:=h 0 zo g hg
 have h8:htq (sumQ (λc=>sgn c*q 0 c*det n (zB q 0 c)) g)<=3000000:=Nat.le_trans h2 h4
 have:=kD (q 0 g)
 have:=kD (det n (zB q 0 g))
 have:=kD (sumQ (λc=>sgn c*q 0 c*det n (zB q 0 c)) g)
 have:=kD (sgn g*q 0 g*det n (zB q 0 g))
 omega
theorem sRDet0{q:Nat->Nat->Rat}:CallOK Tryz.prog 32 [.agg (c2 (.sl 1 (qE q 0) 0) (iN 0))] (.qt (det 0 q)) []:=by
 exact kP (ch:=[.dec 10 true,.reg 2 [(0,.callS (.qt ((1:Int):Rat)) [])]]) Tryz.func32 ((∀j0,j0<0->(∀j1,j1<0->(∀j2,j2<(nd (((q j0 j1).num).natAbs))->True)/\(∀j2,j2<(nd ((q j0 j1).den))->True)))/\((decide (((0:Nat):Int)=0))=true)/\_/\(((decide ((((1:Int):Rat).num)<0):Bool)=(decide (((det 0 q).num)<0)))/\((nd ((((1:Int):Rat).num).natAbs):Nat)=(nd (((det 0 q).num).natAbs)))/\(∀j0,j0<(nd ((((1:Int):Rat).num).natAbs))->(((dg ((((1:Int):Rat).num).natAbs) j0:Nat):Int)=(dg (((det 0 q).num).natAbs) j0:Int)))/\((nd (((1:Int):Rat).den):Nat)=(nd ((det 0 q).den)))/\(∀j0,j0<(nd (((1:Int):Rat).den))->(((dg (((1:Int):Rat).den) j0:Nat):Int)=(dg ((det 0 q).den) j0:Int)))))
  ⟨(λ_ _=>(λ_ _=>⟨(λ_ _=>trivial),(λ_ _=>trivial)⟩)),zs,sQInt (x:=1) zd zd,rfl,rfl,(λj0 hj0=>rfl),rfl,(λj0 hj0=>rfl)⟩
theorem sRDetS{q:Nat->Nat->Rat}{n E:Nat}(hn:n<=5)(hE:E<=1000)(hq:∀i,i<n+1->∀j,j<n+1->htq (q i j)<=E)(ih:∀{q':Nat->Nat->Rat},(∀i,i<n->∀j,j<n->htq (q' i j)<=E)->CallOK Tryz.prog 32 [.agg (c2 (.sl 1 (qE q' n) n) (iN n))] (.qt (det n q')) []):CallOK Tryz.prog 32 [.agg (c2 (.sl 1 (qE q (n+1)) (n+1)) (iN (n+1)))] (.qt (det (n+1) q)) []:=by
 have hR:=det_room (n:=n) (E:=E) hn hE hq
 exact kP (ch:=[.dec 10 false,.reg 3 [(0,.callS (.qt ((0:Int):Rat)) [])],.loop 5 (Nat) (λg=>g<=n+1) (λg=>n+1-g) (λg=>⟨[(1,.own 0 0),(2,.own 1 0),(3,.own 2 0),(4,iN g)],[(0,.one (.var 68 (.agg (c2 (.sl 1 (qE q (n+1)) (n+1)) (iN (n+1)))))),(1,.one (.var 78 (.ex (.agg #[.bool false,.slice none 0 0,.slice none 0 0])))),(2,.one (.var 78 (.qt (sumQ (λc=>sgn c*q 0 c*det n (zB q 0 c)) g))))],3⟩) [(0,.id 0),(1,.id 1),(2,.id 2)] (λ_=>[(0,.id 0),(1,.id 1),(2,.id 2)]) (λg=>[.reg 7 [(2,.k 0),(5,.k g)],.reg 6 [(1,.z ((g+1:Nat):Int))],.reg 9 [(3,.call [.agg (c2 (.sl 1 (qE q (n+1)) (n+1)) (iN (n+1))),iN 0,iN g] (.agg (c2 (.sl 1 (qE (zB q 0 g) n) n) (iN n))) []),(4,.callS (.qt (det n (zB q 0 g))) []),(5,.callS (.qt ((q 0 g)*(det n (zB q 0 g)))) [])],.reg 10 [(1,.z ((g%2:Nat):Int))],.reg 11 [(1,.callS (.qt (-((q 0 g)*(det n (zB q 0 g))))) [])],.conv 12 [(0,.id 0),(1,.id 1),(2,.id 2),(3,.id 4)] ⟨[(1,.own 0 0),(2,.own 1 0),(3,.own 2 0),(4,iN g),(6,.own 3 0)],[(0,.one (.var 68 (.agg (c2 (.sl 1 (qE q (n+1)) (n+1)) (iN (n+1)))))),(1,.one (.var 78 (.ex (.agg #[.bool false,.slice none 0 0,.slice none 0 0])))),(2,.one (.var 78 (.qt (sumQ (λc=>sgn c*q 0 c*det n (zB q 0 c)) g)))),(3,.one (.var 78 (.qt (sgn g*q 0 g*det n (zB q 0 g)))))],5⟩,.reg 12 [(2,.callS (.qt ((sumQ (λc=>sgn c*q 0 c*det n (zB q 0 c)) g)+(sgn g*q 0 g*det n (zB q 0 g)))) [])],.reg 6 [(1,.z ((g+1:Nat):Int))],.conv 12 [(0,.id 0),(1,.id 1),(2,.id 2),(3,.id 4)] ⟨[(1,.own 0 0),(2,.own 1 0),(3,.own 2 0),(4,iN g),(6,.own 3 0)],[(0,.one (.var 68 (.agg (c2 (.sl 1 (qE q (n+1)) (n+1)) (iN (n+1)))))),(1,.one (.var 78 (.ex (.agg #[.bool false,.slice none 0 0,.slice none 0 0])))),(2,.one (.var 78 (.qt (sumQ (λc=>sgn c*q 0 c*det n (zB q 0 c)) g)))),(3,.one (.var 78 (.qt (sgn g*q 0 g*det n (zB q 0 g)))))],5⟩,.reg 12 [(2,.callS (.qt ((sumQ (λc=>sgn c*q 0 c*det n (zB q 0 c)) g)+(sgn g*q 0 g*det n (zB q 0 g)))) [])],.reg 6 [(1,.z ((g+1:Nat):Int))]])]) Tryz.func32 ((∀j0,j0<(n+1)->(∀j1,j1<(n+1)->(∀j2,j2<(nd (((q j0 j1).num).natAbs))->True)/\(∀j2,j2<(nd ((q j0 j1).den))->True)))/\((decide (((n+1:Nat):Int)=0))=false)/\_/\(((λX1 X2 X3 X4 X5 X6:Prop=>∃g0:Nat,X1/\X2/\X3/\((0:Int)=(g0:Int))/\X4/\X5/\X6/\((.agg #[.bool false,.slice none 0 0,.slice none 0 0]:Value)=.agg #[.bool false,.slice none 0 0,.slice none 0 0])/\((decide ((((0:Int):Rat).num)<0):Bool)=(decide (((sumQ (λc=>sgn c*q 0 c*det n (zB q 0 c)) g0).num)<0)))/\((nd ((((0:Int):Rat).num).natAbs):Nat)=(nd (((sumQ (λc=>sgn c*q 0 c*det n (zB q 0 c)) g0).num).natAbs)))/\(∀j0,j0<(nd ((((0:Int):Rat).num).natAbs))->(((dg ((((0:Int):Rat).num).natAbs) j0:Nat):Int)=(dg (((sumQ (λc=>sgn c*q 0 c*det n (zB q 0 c)) g0).num).natAbs) j0:Int)))/\((nd (((0:Int):Rat).den):Nat)=(nd ((sumQ (λc=>sgn c*q 0 c*det n (zB q 0 c)) g0).den)))/\(∀j0,j0<(nd (((0:Int):Rat).den))->(((dg (((0:Int):Rat).den) j0:Nat):Int)=(dg ((sumQ (λc=>sgn c*q 0 c*det n (zB q 0 c)) g0).den) j0:Int)))/\(g0<=n+1)) _ _ _ _ _ _)/\∀g:Nat,(g<=n+1)->(((decide ((g:Int)<((n+1:Nat):Int)))=true->((0:Int)=((0:Nat):Int))/\(0<(n+1))/\_/\(g<(n+1))/\(((decide (((nd (((q 0 g).num).natAbs):Nat):Int)=0))=true->_/\((λX1 X2 X3 X4 X5 X6:Prop=>∃g1:Nat,X1/\X2/\X3/\(((g+1:Nat):Int)=(g1:Int))/\X4/\X5/\X6/\((.agg #[.bool false,.slice none 0 0,.slice none 0 0]:Value)=.agg #[.bool false,.slice none 0 0,.slice none 0 0])/\((decide (((sumQ (λc=>sgn c*q 0 c*det n (zB q 0 c)) g).num)<0):Bool)=(decide (((sumQ (λc=>sgn c*q 0 c*det n (zB q 0 c)) g1).num)<0)))/\((nd (((sumQ (λc=>sgn c*q 0 c*det n (zB q 0 c)) g).num).natAbs):Nat)=(nd (((sumQ (λc=>sgn c*q 0 c*det n (zB q 0 c)) g1).num).natAbs)))/\(∀j0,j0<(nd (((sumQ (λc=>sgn c*q 0 c*det n (zB q 0 c)) g).num).natAbs))->(((dg (((sumQ (λc=>sgn c*q 0 c*det n (zB q 0 c)) g).num).natAbs) j0:Nat):Int)=(dg (((sumQ (λc=>sgn c*q 0 c*det n (zB q 0 c)) g1).num).natAbs) j0:Int)))/\((nd ((sumQ (λc=>sgn c*q 0 c*det n (zB q 0 c)) g).den):Nat)=(nd ((sumQ (λc=>sgn c*q 0 c*det n (zB q 0 c)) g1).den)))/\(∀j0,j0<(nd ((sumQ (λc=>sgn c*q 0 c*det n (zB q 0 c)) g).den))->(((dg ((sumQ (λc=>sgn c*q 0 c*det n (zB q 0 c)) g).den) j0:Nat):Int)=(dg ((sumQ (λc=>sgn c*q 0 c*det n (zB q 0 c)) g1).den) j0:Int)))/\(g1<=n+1)/\(n+1-g1<n+1-g)) _ _ _ _ _ _))/\((decide (((nd (((q 0 g).num).natAbs):Nat):Int)=0))=false->_/\_/\_/\_/\((0:Int)=((0:Nat):Int))/\_/\(CallOK Tryz.prog 32 [.agg (c2 (.sl 1 (qE (zB q 0 g) n) n) (iN n))] (.qt (det n (zB q 0 g))) [])/\_/\((2:Int)≠0)/\((g:Int).tmod 2=(((g%2:Nat):Int)))/\(((decide (((g%2:Nat):Int)=1))=true->_/\_/\_/\_/\_/\_/\_/\_/\_/\((.agg #[.bool false,.slice none 0 0,.slice none 0 0]:Value)=.agg #[.bool false,.slice none 0 0,.slice none 0 0])/\_/\_/\_/\_/\_/\((decide (((-((q 0 g)*(det n (zB q 0 g)))).num)<0):Bool)=(decide (((sgn g*q 0 g*det n (zB q 0 g)).num)<0)))/\((nd (((-((q 0 g)*(det n (zB q 0 g)))).num).natAbs):Nat)=(nd (((sgn g*q 0 g*det n (zB q 0 g)).num).natAbs)))/\(∀j0,j0<(nd (((-((q 0 g)*(det n (zB q 0 g)))).num).natAbs))->(((dg (((-((q 0 g)*(det n (zB q 0 g)))).num).natAbs) j0:Nat):Int)=(dg (((sgn g*q 0 g*det n (zB q 0 g)).num).natAbs) j0:Int)))/\((nd ((-((q 0 g)*(det n (zB q 0 g)))).den):Nat)=(nd ((sgn g*q 0 g*det n (zB q 0 g)).den)))/\(∀j0,j0<(nd ((-((q 0 g)*(det n (zB q 0 g)))).den))->(((dg ((-((q 0 g)*(det n (zB q 0 g)))).den) j0:Nat):Int)=(dg ((sgn g*q 0 g*det n (zB q 0 g)).den) j0:Int)))/\_/\_/\((λX1 X2 X3 X4 X5 X6:Prop=>∃g1:Nat,X1/\X2/\X3/\(((g+1:Nat):Int)=(g1:Int))/\X4/\X5/\X6/\((.agg #[.bool false,.slice none 0 0,.slice none 0 0]:Value)=.agg #[.bool false,.slice none 0 0,.slice none 0 0])/\((decide ((((sumQ (λc=>sgn c*q 0 c*det n (zB q 0 c)) g)+(sgn g*q 0 g*det n (zB q 0 g))).num)<0):Bool)=(decide (((sumQ (λc=>sgn c*q 0 c*det n (zB q 0 c)) g1).num)<0)))/\((nd ((((sumQ (λc=>sgn c*q 0 c*det n (zB q 0 c)) g)+(sgn g*q 0 g*det n (zB q 0 g))).num).natAbs):Nat)=(nd (((sumQ (λc=>sgn c*q 0 c*det n (zB q 0 c)) g1).num).natAbs)))/\(∀j0,j0<(nd ((((sumQ (λc=>sgn c*q 0 c*det n (zB q 0 c)) g)+(sgn g*q 0 g*det n (zB q 0 g))).num).natAbs))->(((dg ((((sumQ (λc=>sgn c*q 0 c*det n (zB q 0 c)) g)+(sgn g*q 0 g*det n (zB q 0 g))).num).natAbs) j0:Nat):Int)=(dg (((sumQ (λc=>sgn c*q 0 c*det n (zB q 0 c)) g1).num).natAbs) j0:Int)))/\((nd (((sumQ (λc=>sgn c*q 0 c*det n (zB q 0 c)) g)+(sgn g*q 0 g*det n (zB q 0 g))).den):Nat)=(nd ((sumQ (λc=>sgn c*q 0 c*det n (zB q 0 c)) g1).den)))/\(∀j0,j0<(nd (((sumQ (λc=>sgn c*q 0 c*det n (zB q 0 c)) g)+(sgn g*q 0 g*det n (zB q 0 g))).den))->(((dg (((sumQ (λc=>sgn c*q 0 c*det n (zB q 0 c)) g)+(sgn g*q 0 g*det n (zB q 0 g))).den) j0:Nat):Int)=(dg ((sumQ (λc=>sgn c*q 0 c*det n (zB q 0 c)) g1).den) j0:Int)))/\(g1<=n+1)/\(n+1-g1<n+1-g)) _ _ _ _ _ _))/\((decide (((g%2:Nat):Int)=1))=false->_/\_/\_/\_/\_/\_/\_/\_/\((.agg #[.bool false,.slice none 0 0,.slice none 0 0]:Value)=.agg #[.bool false,.slice none 0 0,.slice none 0 0])/\_/\_/\_/\_/\_/\((decide ((((q 0 g)*(det n (zB q 0 g))).num)<0):Bool)=(decide (((sgn g*q 0 g*det n (zB q 0 g)).num)<0)))/\((nd ((((q 0 g)*(det n (zB q 0 g))).num).natAbs):Nat)=(nd (((sgn g*q 0 g*det n (zB q 0 g)).num).natAbs)))/\(∀j0,j0<(nd ((((q 0 g)*(det n (zB q 0 g))).num).natAbs))->(((dg ((((q 0 g)*(det n (zB q 0 g))).num).natAbs) j0:Nat):Int)=(dg (((sgn g*q 0 g*det n (zB q 0 g)).num).natAbs) j0:Int)))/\((nd (((q 0 g)*(det n (zB q 0 g))).den):Nat)=(nd ((sgn g*q 0 g*det n (zB q 0 g)).den)))/\(∀j0,j0<(nd (((q 0 g)*(det n (zB q 0 g))).den))->(((dg (((q 0 g)*(det n (zB q 0 g))).den) j0:Nat):Int)=(dg ((sgn g*q 0 g*det n (zB q 0 g)).den) j0:Int)))/\_/\_/\((λX1 X2 X3 X4 X5 X6:Prop=>∃g1:Nat,X1/\X2/\X3/\(((g+1:Nat):Int)=(g1:Int))/\X4/\X5/\X6/\((.agg #[.bool false,.slice none 0 0,.slice none 0 0]:Value)=.agg #[.bool false,.slice none 0 0,.slice none 0 0])/\((decide ((((sumQ (λc=>sgn c*q 0 c*det n (zB q 0 c)) g)+(sgn g*q 0 g*det n (zB q 0 g))).num)<0):Bool)=(decide (((sumQ (λc=>sgn c*q 0 c*det n (zB q 0 c)) g1).num)<0)))/\((nd ((((sumQ (λc=>sgn c*q 0 c*det n (zB q 0 c)) g)+(sgn g*q 0 g*det n (zB q 0 g))).num).natAbs):Nat)=(nd (((sumQ (λc=>sgn c*q 0 c*det n (zB q 0 c)) g1).num).natAbs)))/\(∀j0,j0<(nd ((((sumQ (λc=>sgn c*q 0 c*det n (zB q 0 c)) g)+(sgn g*q 0 g*det n (zB q 0 g))).num).natAbs))->(((dg ((((sumQ (λc=>sgn c*q 0 c*det n (zB q 0 c)) g)+(sgn g*q 0 g*det n (zB q 0 g))).num).natAbs) j0:Nat):Int)=(dg (((sumQ (λc=>sgn c*q 0 c*det n (zB q 0 c)) g1).num).natAbs) j0:Int)))/\((nd (((sumQ (λc=>sgn c*q 0 c*det n (zB q 0 c)) g)+(sgn g*q 0 g*det n (zB q 0 g))).den):Nat)=(nd ((sumQ (λc=>sgn c*q 0 c*det n (zB q 0 c)) g1).den)))/\(∀j0,j0<(nd (((sumQ (λc=>sgn c*q 0 c*det n (zB q 0 c)) g)+(sgn g*q 0 g*det n (zB q 0 g))).den))->(((dg (((sumQ (λc=>sgn c*q 0 c*det n (zB q 0 c)) g)+(sgn g*q 0 g*det n (zB q 0 g))).den) j0:Nat):Int)=(dg ((sumQ (λc=>sgn c*q 0 c*det n (zB q 0 c)) g1).den) j0:Int)))/\(g1<=n+1)/\(n+1-g1<n+1-g)) _ _ _ _ _ _))))))/\((decide ((g:Int)<((n+1:Nat):Int)))=false->(((decide (((sumQ (λc=>sgn c*q 0 c*det n (zB q 0 c)) g).num)<0):Bool)=(decide (((det (n+1) q).num)<0)))/\((nd (((sumQ (λc=>sgn c*q 0 c*det n (zB q 0 c)) g).num).natAbs):Nat)=(nd (((det (n+1) q).num).natAbs)))/\(∀j0,j0<(nd (((sumQ (λc=>sgn c*q 0 c*det n (zB q 0 c)) g).num).natAbs))->(((dg (((sumQ (λc=>sgn c*q 0 c*det n (zB q 0 c)) g).num).natAbs) j0:Nat):Int)=(dg (((det (n+1) q).num).natAbs) j0:Int)))/\((nd ((sumQ (λc=>sgn c*q 0 c*det n (zB q 0 c)) g).den):Nat)=(nd ((det (n+1) q).den)))/\(∀j0,j0<(nd ((sumQ (λc=>sgn c*q 0 c*det n (zB q 0 c)) g).den))->(((dg ((sumQ (λc=>sgn c*q 0 c*det n (zB q 0 c)) g).den) j0:Nat):Int)=(dg ((det (n+1) q).den) j0:Int))))))))
  ⟨(λ_ _=>(λ_ _=>⟨(λ_ _=>trivial),(λ_ _=>trivial)⟩)),(by simp;omega),sQInt (x:=0) zd zd,⟨0,(rf 0),(rf 0),(rf 0),zo,(rf (n+1:Nat)),(leS (qE q (n+1)) (n+1)),(rf ((n+1:Nat):Int)),rfl,rfl,rfl,(λj0 hj0=>rfl),rfl,(λj0 hj0=>rfl),zo⟩,λg hg=>⟨λhc16=>have hc16:=dT hc16;have hgn:g<n+1:=zo;⟨rfl,zo,(rf (g:Int)),zo,λhc30=>have hc30:=dT hc30;have hz:=rz_zero hc30;have hz2:=(sum_zero (F:=(λc=>sgn c*q 0 c*det n (zB q 0 c))) (g:=g) (by show sgn g*q 0 g*_=0;rw[hz];grind));⟨(wI (g:=g) zo),g+1,(rf 0),(rf 0),(rf 0),zo,(rf (n+1:Nat)),(leS (qE q (n+1)) (n+1)),(rf ((n+1:Nat):Int)),rfl,(by first | rfl | rw[hz2]),(by first | rfl | rw[hz2]),(λj0 hj0=>(by first | rfl | rw[hz2])),(by first | rfl | rw[hz2]),(λj0 hj0=>(by first | rfl | rw[hz2])),zo,zo⟩,λhc30=>have hc30:=dF hc30;⟨(sRMinor (m:=n) (n:=n) (a:=0) (b:=g) (q:=q) zo zo (Nat.zero_le _) zo),(rf (n+1:Nat)),(leS (qE q (n+1)) (n+1)),(rf ((n+1:Nat):Int)),zo,(rf (g:Int)),(ih (λi hi j hj=>hq _ (skp_lt hi) _ (skp_lt hj))),sQMul (p:=q 0 g) (q:=det n (zB q 0 g)) (hR g zo).1,zd,rfl,λhc39=>have hc39:=dT hc39;have hT:=sgn_odd (q 0 g) (det n (zB q 0 g)) hc39;⟨sQNeg (q:=(q 0 g)*(det n (zB q 0 g))),(rf 0),(rf 0),(rf 0),(rf (g:Int)),(rf 0),(rf (n+1:Nat)),(leS (qE q (n+1)) (n+1)),(rf ((n+1:Nat):Int)),rfl,(rf (decide (((sumQ (λc=>sgn c*q 0 c*det n (zB q 0 c)) g).num)<0):Bool)),(rf (nd (((sumQ (λc=>sgn c*q 0 c*det n (zB q 0 c)) g).num).natAbs):Nat)),(leS (λi0=>iN (dg (((sumQ (λc=>sgn c*q 0 c*det n (zB q 0 c)) g).num).natAbs) i0)) (nd (((sumQ (λc=>sgn c*q 0 c*det n (zB q 0 c)) g).num).natAbs))),(rf (nd ((sumQ (λc=>sgn c*q 0 c*det n (zB q 0 c)) g).den):Nat)),(leS (λi0=>iN (dg ((sumQ (λc=>sgn c*q 0 c*det n (zB q 0 c)) g).den) i0)) (nd ((sumQ (λc=>sgn c*q 0 c*det n (zB q 0 c)) g).den))),(by rw[hT]),(by rw[hT]),(λj0 hj0=>(by rw[hT])),(by rw[hT]),(λj0 hj0=>(by rw[hT])),sQAdd (p:=sumQ (λc=>sgn c*q 0 c*det n (zB q 0 c)) g) (q:=sgn g*q 0 g*det n (zB q 0 g)) (hR g zo).2,(wI (g:=g) zo),g+1,(rf 0),(rf 0),(rf 0),zo,(rf (n+1:Nat)),(leS (qE q (n+1)) (n+1)),(rf ((n+1:Nat):Int)),rfl,(by first | rfl | rw[hz2]),(by first | rfl | rw[hz2]),(λj0 hj0=>(by first | rfl | rw[hz2])),(by first | rfl | rw[hz2]),(λj0 hj0=>(by first | rfl | rw[hz2])),zo,zo⟩,λhc39=>have hc39:=dF hc39;have hT:=sgn_even (q 0 g) (det n (zB q 0 g)) hc39;⟨(rf 0),(rf 0),(rf 0),(rf (g:Int)),(rf 0),(rf (n+1:Nat)),(leS (qE q (n+1)) (n+1)),(rf ((n+1:Nat):Int)),rfl,(rf (decide (((sumQ (λc=>sgn c*q 0 c*det n (zB q 0 c)) g).num)<0):Bool)),(rf (nd (((sumQ (λc=>sgn c*q 0 c*det n (zB q 0 c)) g).num).natAbs):Nat)),(leS (λi0=>iN (dg (((sumQ (λc=>sgn c*q 0 c*det n (zB q 0 c)) g).num).natAbs) i0)) (nd (((sumQ (λc=>sgn c*q 0 c*det n (zB q 0 c)) g).num).natAbs))),(rf (nd ((sumQ (λc=>sgn c*q 0 c*det n (zB q 0 c)) g).den):Nat)),(leS (λi0=>iN (dg ((sumQ (λc=>sgn c*q 0 c*det n (zB q 0 c)) g).den) i0)) (nd ((sumQ (λc=>sgn c*q 0 c*det n (zB q 0 c)) g).den))),(by rw[hT]),(by rw[hT]),(λj0 hj0=>(by rw[hT])),(by rw[hT]),(λj0 hj0=>(by rw[hT])),sQAdd (p:=sumQ (λc=>sgn c*q 0 c*det n (zB q 0 c)) g) (q:=sgn g*q 0 g*det n (zB q 0 g)) (hR g zo).2,(wI (g:=g) zo),g+1,(rf 0),(rf 0),(rf 0),zo,(rf (n+1:Nat)),(leS (qE q (n+1)) (n+1)),(rf ((n+1:Nat):Int)),rfl,(by first | rfl | rw[hz2]),(by first | rfl | rw[hz2]),(λj0 hj0=>(by first | rfl | rw[hz2])),(by first | rfl | rw[hz2]),(λj0 hj0=>(by first | rfl | rw[hz2])),zo,zo⟩⟩⟩,λhc16=>have hc16:=dF hc16;have hi2:g=n+1:=zo;⟨(by rw[hi2];rfl),(by rw[hi2];rfl),(λj0 hj0=>(by rw[hi2];rfl)),(by rw[hi2];rfl),(λj0 hj0=>(by rw[hi2];rfl))⟩⟩⟩
theorem sRDet{E:Nat}(hE:E<=1000):∀(n:Nat),n<=6->∀{q:Nat->Nat->Rat},(∀i,i<n->∀j,j<n->htq (q i j)<=E)->CallOK Tryz.prog 32 [.agg (c2 (.sl 1 (λi0=>.sl 3 (λi1=>.agg (c2 (.agg (c2 (bX (decide (((q i0 i1).num)<0))) (.sl 1 (λi2=>iN (dg (((q i0 i1).num).natAbs) i2)) (nd (((q i0 i1).num).natAbs))))) (.sl 1 (λi2=>iN (dg ((q i0 i1).den) i2)) (nd ((q i0 i1).den))))) n) n) (iN n))] (.agg (c2 (.agg (c2 (bX (decide (((det n q).num)<0))) (.sl 1 (λi0=>iN (dg (((det n q).num).natAbs) i0)) (nd (((det n q).num).natAbs))))) (.sl 1 (λi0=>iN (dg ((det n q).den) i0)) (nd ((det n q).den))))) []
 | 0,_,_,_=>sRDet0
 | n+1,h,_,hq=>sRDetS zo hE hq λh2=>sRDet hE n zo h2
theorem sRCopy{q:Nat->Nat->Rat}{m n:Nat}(hm:m<=68719476736)(hn:n<=68719476736):CallOK Tryz.prog 78 [.agg (c2 (.sl 1 (qE q n) m) (iN n))] (.agg (c2 (.own 0 0) (iN n))) [.one (.row 86 1 (λi0=>.own 1 i0) m),.fam m (λi0=>.row 78 3 (λi1=>.qt (q i0 i1)) n)]:=by
 exact kP (ch:=[.loop 3 (Nat) (λg=>g<=m) (λg=>m-g) (λg=>⟨[(1,.own 0 0),(2,.own 1 0),(3,.own 2 0),(4,iN g)],[(0,.one (.var 68 (.agg (c2 (.sl 1 (qE q n) m) (iN n))))),(1,.one (.var 68 (.ex (.agg #[.slice none 0 0,.int .i64 0])))),(2,.one (.var 68 (.agg (c2 (.own 3 0) (iN n))))),(3,.one (.row 86 1 (λi0=>.own 4 i0) g)),(4,.fam g (λi0=>.row 78 3 (λi1=>.qt (q i0 i1)) n))],5⟩) [(0,.id 0),(1,.id 1),(2,.id 2),(3,.nil),(4,.emp)] (λg=>[(0,.id 0),(1,.id 1),(2,.id 2),(3,.id 6),(4,.put 4 g 5)]) (λg=>[.reg 6 [(4,.k g),(6,.row 0 (λi0=>.qt (q g i0)))],.reg 7 [(4,.row 0 (λi0=>.own (if i0<g then 4 else 5) (if i0<g then i0 else 0)))],.reg 4 [(1,.z ((g+1:Nat):Int))],.ret 8 [(0,.id 3),(1,.id 4)]])]) Tryz.func78 ((∀j0,j0<m->(∀j1,j1<n->(∀j2,j2<(nd (((q j0 j1).num).natAbs))->True)/\(∀j2,j2<(nd ((q j0 j1).den))->True)))/\(((λX1 X2 X3 X4 X5 X6 X7 X8:Prop=>∃g0:Nat,X1/\X2/\X3/\((0:Int)=(g0:Int))/\X4/\X5/\X6/\((.agg #[.slice none 0 0,.int .i64 0]:Value)=.agg #[.slice none 0 0,.int .i64 0])/\X7/\X8/\((g0:Nat)=0)/\((g0:Nat)=0)/\(g0<=m)) _ _ _ _ _ _ _ _)/\∀g:Nat,(g<=m)->(((decide ((g:Int)<(m:Int)))=true->_/\(g<m)/\(n<=68719476736)/\_/\(g+1<=68719476736)/\(∀j0,j0<g->(.own (if j0<g then 4 else 5) (if j0<g then j0 else 0):SV)=.own 4 j0)/\(∀j0,j0<1->((5:Nat)=(if g+j0<g then 4 else 5))/\((0:Nat)=(if g+j0<g then g+j0 else 0)))/\_/\((λX1 X2 X3 X4 X5 X6 X7 X8 X9:Prop=>∃g1:Nat,X1/\X2/\X3/\(((g+1:Nat):Int)=(g1:Int))/\X4/\X5/\X6/\((.agg #[.slice none 0 0,.int .i64 0]:Value)=.agg #[.slice none 0 0,.int .i64 0])/\X7/\X8/\((g+1:Nat)=g1)/\(∀j0,j0<(g+1)->(((if j0<g then 4 else 5:Nat)=5/\(if j0<g then j0 else 0:Nat)=0/\(j0:Nat)=g)∨((if j0<g then 4 else 5:Nat)=4/\(if j0<g then j0 else 0:Nat)=j0/\(j0:Nat)≠g)))/\((g1:Nat)=g+1)/\X9/\(((n:Nat)=n)/\(∀j1,j1<n->((decide (((q g j1).num)<0):Bool)=(decide (((q g j1).num)<0)))/\((nd (((q g j1).num).natAbs):Nat)=(nd (((q g j1).num).natAbs)))/\(∀j2,j2<(nd (((q g j1).num).natAbs))->(((dg (((q g j1).num).natAbs) j2:Nat):Int)=(dg (((q g j1).num).natAbs) j2:Int)))/\((nd ((q g j1).den):Nat)=(nd ((q g j1).den)))/\(∀j2,j2<(nd ((q g j1).den))->(((dg ((q g j1).den) j2:Nat):Int)=(dg ((q g j1).den) j2:Int)))))/\(∀j0,j0<g->((n:Nat)=n)/\(∀j1,j1<n->((decide (((q j0 j1).num)<0):Bool)=(decide (((q j0 j1).num)<0)))/\((nd (((q j0 j1).num).natAbs):Nat)=(nd (((q j0 j1).num).natAbs)))/\(∀j2,j2<(nd (((q j0 j1).num).natAbs))->(((dg (((q j0 j1).num).natAbs) j2:Nat):Int)=(dg (((q j0 j1).num).natAbs) j2:Int)))/\((nd ((q j0 j1).den):Nat)=(nd ((q j0 j1).den)))/\(∀j2,j2<(nd ((q j0 j1).den))->(((dg ((q j0 j1).den) j2:Nat):Int)=(dg ((q j0 j1).den) j2:Int)))))/\(g1<=m)/\(m-g1<m-g)) _ _ _ _ _ _ _ _ _))/\((decide ((g:Int)<(m:Int)))=false->(_/\_/\((g:Nat)=m)/\(∀j0,j0<g->((j0:Nat)=j0))/\((g:Nat)=m)/\(∀j0,j0<g->((n:Nat)=n)/\(∀j1,j1<n->((decide (((q j0 j1).num)<0):Bool)=(decide (((q j0 j1).num)<0)))/\((nd (((q j0 j1).num).natAbs):Nat)=(nd (((q j0 j1).num).natAbs)))/\(∀j2,j2<(nd (((q j0 j1).num).natAbs))->(((dg (((q j0 j1).num).natAbs) j2:Nat):Int)=(dg (((q j0 j1).num).natAbs) j2:Int)))/\((nd ((q j0 j1).den):Nat)=(nd ((q j0 j1).den)))/\(∀j2,j2<(nd ((q j0 j1).den))->(((dg ((q j0 j1).den) j2:Nat):Int)=(dg ((q j0 j1).den) j2:Int))))))))))
  ⟨(λ_ _=>(λ_ _=>⟨(λ_ _=>trivial),(λ_ _=>trivial)⟩)),⟨0,(rf 0),(rf 0),(rf 0),zo,(rf m),(leS (qE q n) m),(rf (n:Int)),rfl,(rf 0),(rf (n:Int)),zo,zo,zo⟩,λg hg=>⟨λhc13=>have hc13:=dT hc13;⟨(rf (g:Int)),zo,zo,(leS (λi0=>.qt (q g i0)) n),zo,(λj0 hj0=>by rw[if_pos hj0,if_pos hj0]),(λj0 hj0=>⟨(by rw[if_neg zo]),(by rw[if_neg zo])⟩),(wI (g:=g) zo),g+1,(rf 0),(rf 0),(rf 0),zo,(rf m),(leS (qE q n) m),(rf (n:Int)),rfl,(rf 0),(rf (n:Int)),zo,(λj0 hj0=>(by first | omega | (split<;>omega))),zo,(rf g),⟨rfl,(λj1 hj1=>⟨rfl,rfl,(λj2 hj2=>rfl),rfl,(λj2 hj2=>rfl)⟩)⟩,(λj0 hj0=>⟨rfl,(λj1 hj1=>⟨rfl,rfl,(λj2 hj2=>rfl),rfl,(λj2 hj2=>rfl)⟩)⟩),zo,zo⟩,λhc13=>have hc13:=dF hc13;have hi2:g=m:=zo;⟨(rf 0),(rf (n:Int)),zo,(λj0 hj0=>rfl),zo,(λj0 hj0=>⟨rfl,(λj1 hj1=>⟨rfl,rfl,(λj2 hj2=>rfl),rfl,(λj2 hj2=>rfl)⟩)⟩)⟩⟩⟩
def colQ (q:Nat->Nat->Rat) (c:Nat) (b:Nat->Rat) (h:Nat):Nat->Nat->Rat:=λi j=>if j=c/\i<h then b i else q i j
section
variable {q:Nat->Nat->Rat} {c h:Nat} {b:Nat->Rat}
theorem colQ_zero{i j:Nat}:colQ q c b 0 i j=q i j:=if_neg λe=>Nat.not_lt_zero i e.2
theorem colQ_all{n i j:Nat}(hi:i<n):colQ q c b n i j=putC q c b i j:=by
 unfold colQ putC
 by_cases e:j=c
 ·rw[if_pos ⟨e,hi⟩,if_pos e]
 ·rw[if_neg λk=>e k.1,if_neg e]
theorem colQ_at:b h=colQ q c b (h+1) h c:=(if_pos ⟨rfl,Nat.lt_succ_self h⟩).symm
theorem colQ_ne{t:Nat}(e:t≠c):colQ q c b (h+1) h t=colQ q c b h h t:=by unfold colQ;rw[if_neg λk=>e k.1,if_neg λk=>e k.1]
theorem colQ_row{t:Nat}(e:t≠h):colQ q c b (h+1) t=colQ q c b h t:=by
 funext j
 unfold colQ
 by_cases k:j=c/\t<h
 ·rw[if_pos k,if_pos ⟨k.1,by omega⟩]
 ·rw[if_neg k,if_neg λk2=>k ⟨k2.1,by omega⟩]
theorem putC_ht{n E:Nat}(hq:∀i,i<n->∀j,j<n->htq (q i j)<=E)(hb:∀i,i<n->htq (b i)<=E):∀i,i<n->∀j,j<n->htq (putC q c b i j)<=E:=λi hi j hj=>by
 unfold putC
 split
 ·exact hb i hi
 ·exact hq i hi j hj
end
theorem cramer_room{n E:Nat}{q:Nat->Nat->Rat}{b:Nat->Rat}(hn:n<=6)(hE:E<=1000)(hq:∀i,i<n->∀j,j<n->htq (q i j)<=E)(hb:∀i,i<n->htq (b i)<=E):∀g,g<n->szq (det n (putC q g b))+szq (det n q)<=16777216:=λg _=>by
 have h1:=(det_ht n hq).1
 have h2:=(det_ht n (putC_ht (c:=g) hq hb)).1
 have h3:=dB_le hE n hn
 have:=kD (det n q)
 have:=kD (det n (putC q g b))
 omega
theorem sRCramer{q:Nat->Nat->Rat}{b:Nat->Rat}{n E:Nat}(hn:n<=6)(hE:E<=1000)(hq:∀i,i<n->∀j,j<n->htq (q i j)<=E)(hb:∀i,i<n->htq (b i)<=E)(hd:det n q≠0):CallOK Tryz.prog 76 [.agg (c2 (.sl 1 (qE q n) n) (iN n)),.sl 3 (λi0=>.qt (b i0)) n] (.sl 3 (λi0=>.qt (det n (putC q i0 b)/det n q)) n) []:=by
 have hR:=cramer_room hn hE hq hb
 exact kP (ch:=[.reg 1 [(1,.callS (.qt (det n q)) [])],.loop 4 (Nat) (λg=>g<=n) (λg=>n-g) (λg=>⟨[(1,.sl 3 (λi0=>.qt (b i0)) n),(2,.own 0 0),(5,.own 1 0),(6,.own 2 0),(7,iN g)],[(0,.one (.var 68 (.agg (c2 (.sl 1 (qE q n) n) (iN n))))),(1,.one (.var 78 (.qt (det n q)))),(2,.one (.row 78 3 (λi0=>.qt (det n (putC q i0 b)/det n q)) g))],3⟩) [(0,.id 0),(1,.id 1),(2,.nil)] (λ_=>[(0,.id 0),(1,.id 1),(2,.id 6)]) (λg=>[.reg 6 [(1,.callS (.agg (c2 (.own 0 0) (iN n))) [.one (.row 86 1 (λi0=>.own 1 i0) n),.fam n (λi0=>.row 78 3 (λi1=>.qt (q i0 i1)) n)])],.loop 8 (Nat) (λh=>h<=n) (λh=>n-h) (λh=>⟨[(1,.sl 3 (λi0=>.qt (b i0)) n),(2,.own 0 0),(5,.own 1 0),(6,.own 2 0),(7,iN g),(8,.own 3 0),(9,iN h)],[(0,.one (.var 68 (.agg (c2 (.sl 1 (qE q n) n) (iN n))))),(1,.one (.var 78 (.qt (det n q)))),(2,.one (.row 78 3 (λi0=>.qt (det n (putC q i0 b)/det n q)) g)),(3,.one (.var 68 (.agg (c2 (.own 4 0) (iN n))))),(4,.one (.row 86 1 (λi0=>.own 5 i0) n)),(5,.fam n (λi0=>.row 78 3 (λi1=>.qt ((colQ q g b h) i0 i1)) n))],6⟩) [(0,.id 0),(1,.id 1),(2,.id 2),(3,.id 5),(4,.id 3),(5,.id 4)] (λ_=>[(0,.id 0),(1,.id 1),(2,.id 2),(3,.id 3),(4,.id 4),(5,.id 5)]) (λh=>[.reg 10 [(3,.k h),(8,.k h),(10,.k g),(11,.rowF (λi0=>.qt ((colQ q g b (h+1)) h i0)) (λi0=>.row 78 3 (λi1=>.qt ((colQ q g b (h+1)) i0 i1)) n))],.reg 9 [(1,.z ((h+1:Nat):Int))],.conv 11 [(0,.id 0),(1,.id 1),(2,.id 2),(3,.id 3)] ⟨[(1,.sl 3 (λi0=>.qt (b i0)) n),(2,.own 0 0),(5,.own 1 0),(6,.own 2 0),(7,iN g),(8,.own 3 0)],[(0,.one (.var 68 (.agg (c2 (.sl 1 (qE q n) n) (iN n))))),(1,.one (.var 78 (.qt (det n q)))),(2,.one (.row 78 3 (λi0=>.qt (det n (putC q i0 b)/det n q)) g)),(3,.one (.var 68 (.agg (c2 (.sl 1 (λi0=>.sl 3 (λi1=>.qt (putC q g b i0 i1)) n) n) (iN n)))))],6⟩,.reg 11 [(2,.callS (.qt (det n (putC q g b))) []),(4,.callS (.qt ((det n (putC q g b))/(det n q))) []),(6,.row 0 (λi0=>.qt (det n (putC q i0 b)/det n q)))],.reg 5 [(1,.z ((g+1:Nat):Int))]])])]) Tryz.func76 ((∀j0,j0<n->(∀j1,j1<n->(∀j2,j2<(nd (((q j0 j1).num).natAbs))->True)/\(∀j2,j2<(nd ((q j0 j1).den))->True)))/\(∀j0,j0<n->(∀j1,j1<(nd (((b j0).num).natAbs))->True)/\(∀j1,j1<(nd ((b j0).den))->True))/\(CallOK Tryz.prog 32 [.agg (c2 (.sl 1 (qE q n) n) (iN n))] (.qt (det n q)) [])/\(((λX1 X2 X3 X4 X5 X6 X7 X8 X9 X10 X11 X12 X13:Prop=>∃g0:Nat,X1/\X2/\X3/\X4/\X5/\((0:Int)=(g0:Int))/\X6/\X7/\X8/\X9/\X10/\X11/\X12/\X13/\((g0:Nat)=0)/\(g0<=n)) _ _ _ _ _ _ _ _ _ _ _ _ _)/\∀g:Nat,(g<=n)->(((decide ((g:Int)<(n:Int)))=true->_/\(((λX1 X2 X3 X4 X5 X6 X7 X8 X9 X10 X11 X12 X13 X14 X15 X16 X17 X18 X19 X20 X21:Prop=>∃h0:Nat,X1/\X2/\X3/\X4/\X5/\X6/\X7/\((0:Int)=(h0:Int))/\X8/\X9/\X10/\X11/\X12/\X13/\X14/\X15/\X16/\X17/\X18/\X19/\X20/\(∀j0,j0<n->((j0:Nat)=j0))/\X21/\(∀j0,j0<n->((n:Nat)=n)/\(∀j1,j1<n->((decide (((q j0 j1).num)<0):Bool)=(decide ((((colQ q g b h0) j0 j1).num)<0)))/\((nd (((q j0 j1).num).natAbs):Nat)=(nd ((((colQ q g b h0) j0 j1).num).natAbs)))/\(∀j2,j2<(nd (((q j0 j1).num).natAbs))->(((dg (((q j0 j1).num).natAbs) j2:Nat):Int)=(dg ((((colQ q g b h0) j0 j1).num).natAbs) j2:Int)))/\((nd ((q j0 j1).den):Nat)=(nd (((colQ q g b h0) j0 j1).den)))/\(∀j2,j2<(nd ((q j0 j1).den))->(((dg ((q j0 j1).den) j2:Nat):Int)=(dg (((colQ q g b h0) j0 j1).den) j2:Int)))))/\(h0<=n)) _ _ _ _ _ _ _ _ _ _ _ _ _ _ _ _ _ _ _ _ _)/\∀h:Nat,(h<=n)->(((decide ((h:Int)<(n:Int)))=true->_/\(h<n)/\(h<n)/\_/\(h<n)/\_/\(g<n)/\(h<n)/\(g<n)/\(((decide (((b h).num)<0):Bool)=(decide ((((colQ q g b (h+1)) h g).num)<0)))/\((nd (((b h).num).natAbs):Nat)=(nd ((((colQ q g b (h+1)) h g).num).natAbs)))/\(∀j0,j0<(nd (((b h).num).natAbs))->(((dg (((b h).num).natAbs) j0:Nat):Int)=(dg ((((colQ q g b (h+1)) h g).num).natAbs) j0:Int)))/\((nd ((b h).den):Nat)=(nd (((colQ q g b (h+1)) h g).den)))/\(∀j0,j0<(nd ((b h).den))->(((dg ((b h).den) j0:Nat):Int)=(dg (((colQ q g b (h+1)) h g).den) j0:Int))))/\(∀t,t<n->t≠g->(.qt ((colQ q g b (h+1)) h t):SV)=.qt ((colQ q g b h) h t))/\(h<n)/\((.row 78 3 (λi0=>.qt ((colQ q g b (h+1)) h i0)) n:OB)=.row 78 3 (λi0=>.qt ((colQ q g b (h+1)) h i0)) n)/\(∀t,t<n->t≠h->(.row 78 3 (λi0=>.qt ((colQ q g b (h+1)) t i0)) n:OB)=.row 78 3 (λi0=>.qt ((colQ q g b h) t i0)) n)/\_/\((λX1 X2 X3 X4 X5 X6 X7 X8 X9 X10 X11 X12 X13 X14 X15 X16 X17 X18 X19 X20 X21:Prop=>∃h1:Nat,X1/\X2/\X3/\X4/\X5/\X6/\X7/\(((h+1:Nat):Int)=(h1:Int))/\X8/\X9/\X10/\X11/\X12/\X13/\X14/\X15/\X16/\X17/\X18/\X19/\X20/\(∀j0,j0<n->((j0:Nat)=j0))/\X21/\(∀j0,j0<n->((n:Nat)=n)/\(∀j1,j1<n->((decide ((((colQ q g b (h+1)) j0 j1).num)<0):Bool)=(decide ((((colQ q g b h1) j0 j1).num)<0)))/\((nd ((((colQ q g b (h+1)) j0 j1).num).natAbs):Nat)=(nd ((((colQ q g b h1) j0 j1).num).natAbs)))/\(∀j2,j2<(nd ((((colQ q g b (h+1)) j0 j1).num).natAbs))->(((dg ((((colQ q g b (h+1)) j0 j1).num).natAbs) j2:Nat):Int)=(dg ((((colQ q g b h1) j0 j1).num).natAbs) j2:Int)))/\((nd (((colQ q g b (h+1)) j0 j1).den):Nat)=(nd (((colQ q g b h1) j0 j1).den)))/\(∀j2,j2<(nd (((colQ q g b (h+1)) j0 j1).den))->(((dg (((colQ q g b (h+1)) j0 j1).den) j2:Nat):Int)=(dg (((colQ q g b h1) j0 j1).den) j2:Int)))))/\(h1<=n)/\(n-h1<n-h)) _ _ _ _ _ _ _ _ _ _ _ _ _ _ _ _ _ _ _ _ _))/\((decide ((h:Int)<(n:Int)))=false->_/\_/\_/\_/\_/\_/\_/\_/\_/\_/\_/\_/\_/\_/\_/\_/\_/\_/\(∀j0,j0<n->((n:Nat)=n)/\(∀j1,j1<n->((decide ((((colQ q g b h) j0 j1).num)<0):Bool)=(decide (((putC q g b j0 j1).num)<0)))/\((nd ((((colQ q g b h) j0 j1).num).natAbs):Nat)=(nd (((putC q g b j0 j1).num).natAbs)))/\(∀j2,j2<(nd ((((colQ q g b h) j0 j1).num).natAbs))->(((dg ((((colQ q g b h) j0 j1).num).natAbs) j2:Nat):Int)=(dg (((putC q g b j0 j1).num).natAbs) j2:Int)))/\((nd (((colQ q g b h) j0 j1).den):Nat)=(nd ((putC q g b j0 j1).den)))/\(∀j2,j2<(nd (((colQ q g b h) j0 j1).den))->(((dg (((colQ q g b h) j0 j1).den) j2:Nat):Int)=(dg ((putC q g b j0 j1).den) j2:Int))))/\(j0<n))/\_/\(CallOK Tryz.prog 32 [.agg (c2 (.sl 1 (λi0=>.sl 3 (λi1=>.qt (putC q g b i0 i1)) n) n) (iN n))] (.qt (det n (putC q g b))) [])/\_/\(g+1<=68719476736)/\_/\_/\_/\((λX1 X2 X3 X4 X5 X6 X7 X8 X9 X10 X11 X12 X13 X14:Prop=>∃g1:Nat,X1/\X2/\X3/\X4/\X5/\(((g+1:Nat):Int)=(g1:Int))/\X6/\X7/\X8/\X9/\X10/\X11/\X12/\X13/\((g+1:Nat)=g1)/\X14/\(g1<=n)/\(n-g1<n-g)) _ _ _ _ _ _ _ _ _ _ _ _ _ _)))))/\((decide ((g:Int)<(n:Int)))=false->(((g:Nat)=n)/\_)))))
  ⟨(λ_ _=>(λ_ _=>⟨(λ_ _=>trivial),(λ_ _=>trivial)⟩)),(λ_ _=>⟨(λ_ _=>trivial),(λ_ _=>trivial)⟩),(sRDet (q:=q) hE n hn hq),⟨0,(rf n),(leS (λi0=>.qt (b i0)) n),(rf 0),(rf 0),(rf 0),zo,(rf n),(leS (qE q n) n),(rf (n:Int)),(rf (decide (((det n q).num)<0):Bool)),(rf (nd (((det n q).num).natAbs):Nat)),(leS (λi0=>iN (dg (((det n q).num).natAbs) i0)) (nd (((det n q).num).natAbs))),(rf (nd ((det n q).den):Nat)),(leS (λi0=>iN (dg ((det n q).den) i0)) (nd ((det n q).den))),zo,zo⟩,λg hg=>⟨λhc15=>have hc15:=dT hc15;have hgn:g<n:=zo;⟨(sRCopy (m:=n) (n:=n) (q:=q) zo zo),⟨0,(rf n),(leS (λi0=>.qt (b i0)) n),(rf 0),(rf 0),(rf 0),(rf (g:Int)),(rf 0),zo,(rf n),(leS (qE q n) n),(rf (n:Int)),(rf (decide (((det n q).num)<0):Bool)),(rf (nd (((det n q).num).natAbs):Nat)),(leS (λi0=>iN (dg (((det n q).num).natAbs) i0)) (nd (((det n q).num).natAbs))),(rf (nd ((det n q).den):Nat)),(leS (λi0=>iN (dg ((det n q).den) i0)) (nd ((det n q).den))),(rf g),(leS (λi0=>.qt (det n (putC q i0 b)/det n q)) g),(rf 0),(rf (n:Int)),(rf n),(λj0 hj0=>rfl),(rf n),(λj0 hj0=>⟨rfl,(λj1 hj1=>⟨(by rw[colQ_zero]),(by rw[colQ_zero]),(λj2 hj2=>(by rw[colQ_zero])),(by rw[colQ_zero]),(λj2 hj2=>(by rw[colQ_zero]))⟩)⟩),zo⟩,λh hh=>⟨λhc24=>have hc24:=dT hc24;⟨(rf (h:Int)),zo,zo,(rf (h:Int)),zo,(rf (g:Int)),zo,zo,zo,⟨(by rw[←colQ_at]),(by rw[←colQ_at]),(λj0 hj0=>(by rw[←colQ_at])),(by rw[←colQ_at]),(λj0 hj0=>(by rw[←colQ_at]))⟩,(λt ht hne=>by simp only[colQ_ne hne]),zo,rfl,(λt ht hne=>by simp only[colQ_row hne]),(wI (g:=h) zo),h+1,(rf n),(leS (λi0=>.qt (b i0)) n),(rf 0),(rf 0),(rf 0),(rf (g:Int)),(rf 0),zo,(rf n),(leS (qE q n) n),(rf (n:Int)),(rf (decide (((det n q).num)<0):Bool)),(rf (nd (((det n q).num).natAbs):Nat)),(leS (λi0=>iN (dg (((det n q).num).natAbs) i0)) (nd (((det n q).num).natAbs))),(rf (nd ((det n q).den):Nat)),(leS (λi0=>iN (dg ((det n q).den) i0)) (nd ((det n q).den))),(rf g),(leS (λi0=>.qt (det n (putC q i0 b)/det n q)) g),(rf 0),(rf (n:Int)),(rf n),(λj0 hj0=>rfl),(rf n),(λj0 hj0=>⟨rfl,(λj1 hj1=>⟨rfl,rfl,(λj2 hj2=>rfl),rfl,(λj2 hj2=>rfl)⟩)⟩),zo,zo⟩,λhc24=>have hc24:=dF hc24;have hi3:h=n:=zo;⟨(rf n),(leS (λi0=>.qt (b i0)) n),(rf 0),(rf 0),(rf 0),(rf (g:Int)),(rf 0),(rf n),(leS (qE q n) n),(rf (n:Int)),(rf (decide (((det n q).num)<0):Bool)),(rf (nd (((det n q).num).natAbs):Nat)),(leS (λi0=>iN (dg (((det n q).num).natAbs) i0)) (nd (((det n q).num).natAbs))),(rf (nd ((det n q).den):Nat)),(leS (λi0=>iN (dg ((det n q).den) i0)) (nd ((det n q).den))),(rf g),(leS (λi0=>.qt (det n (putC q i0 b)/det n q)) g),(rf n),(λj0 hj0=>⟨rfl,(λj1 hj1=>⟨(by rw[hi3,colQ_all (by assumption)]),(by rw[hi3,colQ_all (by assumption)]),(λj2 hj2=>(by rw[hi3,colQ_all (by assumption)])),(by rw[hi3,colQ_all (by assumption)]),(λj2 hj2=>(by rw[hi3,colQ_all (by assumption)]))⟩),zo⟩),(rf (n:Int)),(sRDet (q:=(putC q g b)) hE n hn (putC_ht hq hb)),sQDiv (p:=det n (putC q g b)) (q:=det n q) (hR g hgn) hd,zo,(oldS (λi0=>.qt (det n (putC q i0 b)/det n q)) g),(newS (λi0=>.qt (det n (putC q i0 b)/det n q)) g),(wI (g:=g) zo),g+1,(rf n),(leS (λi0=>.qt (b i0)) n),(rf 0),(rf 0),(rf 0),zo,(rf n),(leS (qE q n) n),(rf (n:Int)),(rf (decide (((det n q).num)<0):Bool)),(rf (nd (((det n q).num).natAbs):Nat)),(leS (λi0=>iN (dg (((det n q).num).natAbs) i0)) (nd (((det n q).num).natAbs))),(rf (nd ((det n q).den):Nat)),(leS (λi0=>iN (dg ((det n q).den) i0)) (nd ((det n q).den))),zo,(leS (λi0=>.qt (det n (putC q i0 b)/det n q)) (g+1)),zo,zo⟩⟩⟩,λhc15=>have hc15:=dF hc15;have hi2:g=n:=zo;⟨hi2,(leS (λi0=>.qt (det n (putC q i0 b)/det n q)) g)⟩⟩⟩
open Go.RowKit
def sgB (b:Bool):Rat:=if b=true then-1 else 1
theorem sgB_if(b:Bool)(x:Rat):sgB b*x=if b=true then-x else x:=by
 unfold sgB
 split<;>grind
theorem prodD_congr{U V:Nat->Nat->Rat}:∀c,(∀k,k<c->U k k=V k k)->uD U c=uD V c
 | 0,_=>rfl
 | c+1,h=>by show uD U c*U c c=uD V c*V c c;rw[prodD_congr c λk hk=>h k zo,h c (Nat.lt_succ_self c)]
theorem prodD_ne{U:Nat->Nat->Rat}:∀c,(∀k,k<c->U k k≠0)->uD U c≠0
 | 0,_=>by show(1:Rat)≠0;decide
 | c+1,h=>λe=>by
  have:=Rat.mul_eq_zero.1 (show uD U c*U c c=0 from e)
  exact this.elim (prodD_ne c λk hk=>h k zo) (h c (Nat.lt_succ_self c))
section
variable {s n:Nat} {q:Nat->Nat->Rat}
theorem lu_detI(hs:∀i,i<n->∀j,j<n->szq (q i j)<=s):∀c,c<=n->luOK n q c->DetI s n q (c,(luS n q c).1,sgB (luS n q c).2.2.2.2*uD (luS n q c).1 c)
 | 0,_,_=>by
  show DetI s n q (0,q,sgB false*1)
  rw[show sgB false*1=1 by unfold sgB;rw[if_neg zd];grind]
  exact DetI.start hs
 | c+1,hc,hok=>by
  have H:=lu_detI hs c zo λk hk=>hok k zo
  have hK:=hok c (Nat.lt_succ_self c)
  have hge:=luK_ge (n:=n) (s:=luS n q c) (c:=c)
  have hpv:(luS n q c).1 (luK n (luS n q c) c) c≠0:=leadK_at _ _ (show yG _ c c (n-c)<_ by have:luK n (luS n q c) c<n:=hK;unfold luK at this;omega)
  have N:=H.next (K:=luK n (luS n q c) c) (show c<n by omega) hge hK hpv
  show DetI s n q (c+1,(zT n (luS n q c) c).1,sgB (zT n (luS n q c) c).2.2.2.2*uD (zT n (luS n q c) c).1 (c+1))
  unfold zT
  generalize luK n (luS n q c) c=K at N hge hK
  generalize luS n q c=S at N
  obtain⟨U,L,P,R,b⟩:=S
  have e:sgB (if K=c then b else !b)*uD (zH (zA U c K) c n) (c+1)=(if K=c then sgB b*uD U c else-(sgB b*uD U c))*zA U c K c c:=by
   show sgB _*(uD (zH (zA U c K) c n) c*zH (zA U c K) c n c c)=_
   rw[prodD_congr (V:=U) c λk hk=>by
    rw[kZ zo]
    show U (if k=c then K else if k=K then c else k) k=U k k
    rw[if_neg zo,if_neg zo],kZ (Nat.le_refl c)]
   by_cases z:K=c
   ·rw[if_pos z,if_pos z,Rat.mul_assoc]
   ·rw[if_neg z,if_neg z]
    cases b<;>simp only[sgB,Bool.not_true,Bool.not_false,if_true,Bool.false_eq_true,if_false]<;>grind
  show DetI s n q (c+1,zH (zA U c K) c n,sgB (if K=c then b else !b)*uD (zH (zA U c K) c n) (c+1))
  rw[e]
  exact N
theorem lu_det(hs:∀i,i<n->∀j,j<n->szq (q i j)<=s)(h:luOK n q n):det n q=if(luS n q n).2.2.2.2=true then-(uD (luS n q n).1 n) else uD (luS n q n).1 n:=by
 rw[yT,←(lu_detI hs n (Nat.le_refl n) h).done rfl]
 exact sgB_if _ _
theorem lu_det_ne(hs:∀i,i<n->∀j,j<n->szq (q i j)<=s)(h:luOK n q n):det n q≠0:=by
 have hp:=prodD_ne n (lu_inv (A:=q) n (Nat.le_refl n) h).piv
 rw[lu_det hs h]
 split
 ·intro e;exact hp (by grind)
 ·exact hp
theorem lu_or(hs:∀i,i<n->∀j,j<n->szq (q i j)<=s):∀c,c<=n->luOK n q c∨cdet n q=0
 | 0,_=>.inl λk hk=>absurd hk (Nat.not_lt_zero k)
 | c+1,hc=>by
  rcases lu_or hs c zo with h | h
  ·by_cases k:luK n (luS n q c) c<n
   ·exact .inl (ok_next h k)
   ·refine .inr ((lu_detI hs c zo h).none (show c<n by omega) ?_)
    have:=(leadK_le (B:=(luS n q c).1) (c:=c) (n-c) c).2
    show yG (luS n q c).1 c c (n-c)=n
    have:luK n (luS n q c) c=yG (luS n q c).1 c c (n-c):=rfl
    omega
  ·exact .inr h
theorem cram_div{b x:Nat->Rat}(hd:det n q≠0)(h:∀r,r<n->sumQ (λj=>q r j*x j) n=b r){c:Nat}(hc:c<n):det n (putC q c b)/det n q=x c:=by
 rw[yT,yT] at*
 rw[cramer h hc,Rat.div_def,Rat.mul_assoc,Rat.mul_inv_cancel _ hd,Rat.mul_one]
end
theorem sRefCut{l0:Nat}{k0:Nat->Nat}{p0 d0:Nat->Nat->Int}{n m:Nat}(h0:∀r,r<l0->∀c,c<k0 r->Wd64 (p0 r c)/\Wd64 (d0 r c))(hn:n<=6)(hm:min l0 n=m):CallOK Tryz.prog 66 [.agg (c2 (.ex (.int .u8 (n:Int))) (.sl 1 (gE k0 p0 d0) m))] (.agg (c2 (.sl 1 (λi0=>.sl 3 (λi1=>.agg (c2 (.agg (c2 (bX (decide (((gQ k0 p0 d0 i0 i1).num)<0))) (.sl 1 (λi2=>iN (dg (((gQ k0 p0 d0 i0 i1).num).natAbs) i2)) (nd (((gQ k0 p0 d0 i0 i1).num).natAbs))))) (.sl 1 (λi2=>iN (dg ((gQ k0 p0 d0 i0 i1).den) i2)) (nd ((gQ k0 p0 d0 i0 i1).den))))) n) m) (iN n))) []:=by
 have h:=sRef11 (z:=n) (l:=m) (k:=k0) (p:=p0) (d:=d0) (λr hr=>h0 r zo)
 rw[Nat.mod_eq_of_lt (show n<7 by omega),Nat.min_eq_left (show m<=6 by omega)] at h
 exact h
open Go.RowKit
def offQ (k:Nat) (f:Nat->Rat) (j:Nat):Rat:=if j=k then 0 else f j
theorem off_self{k:Nat}{f:Nat->Rat}:offQ k f k=0:=if_pos rfl
theorem off_ne{k j:Nat}{f:Nat->Rat}(h:j≠k):offQ k f j=f j:=if_neg h
theorem sum_off{k n:Nat}(f:Nat->Rat)(hk:k<n):sumQ f n=f k+sumQ (offQ k f) n:=by
 have h1:sumQ f n=sumQ (λj=>(if j=k then f k else 0)+offQ k f j) n:=zI n λj _=>by
  by_cases e:j=k
  ·rw[if_pos e,e,off_self];grind
  ·rw[if_neg e,off_ne e];grind
 rw[h1,sumQ_add,jU (f:=λj=>if j=k then f k else 0) n hk λi _ hne=>if_neg hne,if_pos rfl]
def etaX (k:Nat) (w x:Nat->Rat) (j:Nat):Rat:=if j=k then x k/w k else x j-w j*(x k/w k)
def mulV (n:Nat) (A:Nat->Nat->Rat) (w:Nat->Rat) (i:Nat):Rat:=sumQ (λl=>A i l*w l) n
theorem rat_mul_div{a b:Rat}(h:b≠0):b*(a/b)=a:=by
 rw[Rat.div_def,Rat.mul_comm a,←Rat.mul_assoc,Rat.mul_inv_cancel _ h,Rat.one_mul]
theorem putC_self{A:Nat->Nat->Rat}{k i:Nat}{b:Nat->Rat}:putC A k b i k=b i:=if_pos rfl
theorem putC_ne{A:Nat->Nat->Rat}{k i j:Nat}{b:Nat->Rat}(h:j≠k):putC A k b i j=A i j:=if_neg h
theorem eta_step{n k:Nat}{A:Nat->Nat->Rat}{w x:Nat->Rat}(hk:k<n)(hw:w k≠0)(i:Nat):mulV n (putC A k (mulV n A w)) (etaX k w x) i=mulV n A x i:=by
 have hy:=rat_mul_div (a:=x k) hw
 show sumQ (λj=>putC A k (mulV n A w) i j*etaX k w x j) n=sumQ (λj=>A i j*x j) n
 rw[sum_off _ hk,sum_off (λj=>A i j*x j) hk]
 have e1:sumQ (offQ k λj=>putC A k (mulV n A w) i j*etaX k w x j) n=sumQ (λj=>offQ k (λj=>A i j*x j) j+-(x k/w k)*offQ k (λl=>A i l*w l) j) n:=zI n λj _=>by
  by_cases e:j=k
  ·rw[e,off_self,off_self,off_self];grind
  ·rw[off_ne e,off_ne e,off_ne e,putC_ne e]
   show A i j*(if j=k then _ else _)=_
   rw[if_neg e];grind
 have e2:putC A k (mulV n A w) i k*etaX k w x k=(A i k*w k+sumQ (offQ k λl=>A i l*w l) n)*(x k/w k):=by
  rw[putC_self]
  show sumQ (λl=>A i l*w l) n*(if k=k then x k/w k else _)=_
  rw[if_pos rfl,sum_off _ hk]
 have e3:A i k*x k=A i k*w k*(x k/w k):=by rw[Rat.mul_assoc,hy]
 rw[e1,e2,sumQ_add,yO,e3]
 grind
def etaP (k:Nat) (w z:Nat->Rat) (h:Nat):Rat:=z k-sumQ (offQ k λl=>w l*z l) h
def etaZ (n k:Nat) (w z:Nat->Rat) (j:Nat):Rat:=if j=k then etaP k w z n/w k else z j
def rowM (n:Nat) (A:Nat->Nat->Rat) (y:Nat->Rat) (j:Nat):Rat:=sumQ (λi=>y i*A i j) n
theorem row_mulV{n k:Nat}{A:Nat->Nat->Rat}{w y:Nat->Rat}:rowM n (putC A k (mulV n A w)) y k=sumQ (λl=>w l*rowM n A y l) n:=by
 show sumQ (λi=>y i*putC A k (mulV n A w) i k) n=_
 rw[show sumQ (λi=>y i*putC A k (mulV n A w) i k) n=sumQ (λi=>sumQ (λl=>w l*(y i*A i l)) n) n from zI n λi _=>by
  rw[putC_self]
  show y i*sumQ _ n=_
  rw[←yO]
  exact zI n λl _=>by grind,sumQ_comm]
 exact zI n λl _=>by rw[yO];rfl
theorem row_ne{n k j:Nat}{A:Nat->Nat->Rat}{b y:Nat->Rat}(h:j≠k):rowM n (putC A k b) y j=rowM n A y j:=zI n λi _=>by rw[putC_ne h]
theorem etaZ_back{n k:Nat}{A:Nat->Nat->Rat}{w y z:Nat->Rat}(hk:k<n)(hw:w k≠0)(h:∀j,j<n->rowM n A y j=etaZ n k w z j):∀j,j<n->rowM n (putC A k (mulV n A w)) y j=z j:=λj hj=>by
 by_cases e:j=k
 ·subst e
  rw[row_mulV,sum_off _ hk,h j hj,show sumQ (offQ j λl=>w l*rowM n A y l) n=sumQ (offQ j λl=>w l*z l) n from zI n λl hl=>by
   by_cases e:l=j
   ·rw[e,off_self,off_self]
   ·rw[off_ne e,off_ne e,h l hl];unfold etaZ;rw[if_neg e]]
  unfold etaZ
  rw[if_pos rfl,rat_mul_div hw]
  unfold etaP
  grind
 ·rw[row_ne e,h j hj];unfold etaZ;rw[if_neg e]
abbrev Etas:=Nat->Nat×(Nat->Rat)
def etaM (n:Nat) (A:Nat->Nat->Rat) (e:Etas):Nat->Nat->Nat->Rat
 | 0=>A
 | t+1=>putC (etaM n A e t) (e t).1 (mulV n (etaM n A e t) (e t).2)
def zD (x:Nat->Rat) (e:Etas):Nat->Nat->Rat
 | 0=>x
 | t+1=>etaX (e t).1 (e t).2 (zD x e t)
def zX (n m:Nat) (z:Nat->Rat) (e:Etas):Nat->Nat->Rat
 | 0=>z
 | g+1=>etaZ n (e (m-1-g)).1 (e (m-1-g)).2 (zX n m z e g)
structure EtaOK (n:Nat) (e:Etas) (m:Nat):Prop where
 at_:∀t,t<m->(e t).1<n
 ne:∀t,t<m->(e t).2 (e t).1≠0
section
variable {n m:Nat} {A:Nat->Nat->Rat} {e:Etas}
theorem etaXs_ok(H:EtaOK n e m)(x:Nat->Rat)(i:Nat):∀t,t<=m->mulV n (etaM n A e t) (zD x e t) i=mulV n A x i
 | 0,_=>rfl
 | t+1,ht=>(eta_step (H.at_ t zo) (H.ne t zo) i).trans (etaXs_ok H x i t zo)
theorem etaZs_back(H:EtaOK n e m){y z:Nat->Rat}(h:∀j,j<n->rowM n A y j=zX n m z e m j):∀g,g<=m->∀j,j<n->rowM n (etaM n A e g) y j=zX n m z e (m-g) j
 | 0,_=>h
 | g+1,hg=>by
  have ih:=etaZs_back H h g zo
  rw[show m-g=(m-(g+1))+1 by omega] at ih
  have e1:m-1-(m-(g+1))=g:=by omega
  refine etaZ_back (A:=etaM n A e g) (H.at_ g zo) (H.ne g zo) λj hj=>(ih j hj).trans ?_
  show etaZ n (e (m-1-(m-(g+1)))).1 (e (m-1-(m-(g+1)))).2 _ j=_
  rw[e1]
theorem etaM_det(H:EtaOK n e m)(hA:cdet n A≠0):∀t,t<=m->cdet n (etaM n A e t)≠0
 | 0,_=>hA
 | t+1,ht=>by
  show cdet n (putC _ _ _)≠0
  rw[cramer (A:=etaM n A e t) (b:=mulV n (etaM n A e t) (e t).2) (x:=(e t).2) (λr _=>rfl) (H.at_ t zo)]
  exact rat_mul_ne (H.ne t zo) (etaM_det H hA t zo)
theorem etaM_cong{e':Etas}:∀t,(∀i,i<t->e i=e' i)->etaM n A e t=etaM n A e' t
 | 0,_=>rfl
 | t+1,h=>by
  show putC (etaM n A e t) (e t).1 (mulV n (etaM n A e t) (e t).2)=putC (etaM n A e' t) (e' t).1 (mulV n (etaM n A e' t) (e' t).2)
  rw[etaM_cong t λi hi=>h i zo,h t (Nat.lt_succ_self t)]
end
open Go.RowKit Go.Extern.Stop Go.Stop Go.Extern
namespace Er
theorem rlm(z:Sem Value)(f:TypeId->Addr->Nat->Nat->Sem Value)(v:Value):
  ReflectliteValue.method z f #[v]=(do match←ReflectliteValue.parts v with | none=>z | some (t,a,fl)=>f t a fl (fl%32)):=rfl
theorem rls(v x:Value):ReflectliteValue.set #[v,x]=(do
  let (some (dst,a,fl),some (src,b,_)):=(←ReflectliteValue.parts v,←ReflectliteValue.parts x)
   | unsupported (.noEntry "extern/(internal/reflectlite.Value).Set.zeroValue")
  if fl/ReflectliteValue.flagAddr%2==0 then unsupported (.noEntry "extern/(internal/reflectlite.Value).Set.unaddressable")
  let val←loadVar src b
  if←Rtype.directlyAssignable dst src then storeVar dst a val
  else if←Rtype.implements dst src then
   if(←Rtype.kind src)==20 then
    match val with
    | .nilIface=>unsupported (.noEntry "extern/reflectlite: a nil value of one interface type handed on as a value of another")
    | _=>storeVar dst a val
   else storeVar dst a (.iface src val)
  else panicString ("reflectlite.Set: value of type " ++(←Rtype.spelt src)++ " is not assignable to type " ++(←Rtype.spelt dst))
  pure (.tuple #[])):=rfl
theorem methodKind(h:Value)(w:World):(Go.method 377 169 (.agg #[h]) "Kind").run Tryz.prog w=.ok (199,h) w:=by kernel_rfl
theorem methodElem(h:Value)(w:World):(Go.method 377 169 (.agg #[h]) "Elem").run Tryz.prog w=.ok (215,.agg #[h]) w:=by kernel_rfl
theorem kJ(h:Value)(w:World):(Go.method 377 169 (.agg #[h]) "Implements").run Tryz.prog w=.ok (216,.agg #[h]) w:=by kernel_rfl
theorem xR(h:Value)(w:World):(Go.method 377 169 (.agg #[h]) "AssignableTo").run Tryz.prog w=.ok (213,.agg #[h]) w:=by kernel_rfl
theorem valueOfTF(t:Addr)(w:World):(ReflectliteValue.unpack (.iface 115 (.pointer (some t)))).run Tryz.prog w
  =.ok (.agg #[.pointer (some ⟨1,115,none⟩),.pointer (some ⟨w.heap.size,0,none⟩),.int .u64 150]) (w.alloc (.cells #[.pointer (some t)] 115)):=by kernel_rfl
theorem typeTF(a:Addr)(w:World):(ReflectliteValue.methodAny (ReflectliteValue.valueError "reflectlite.Value.Type" 0) (λt _ _ _=>ReflectliteType.toType t) #[.agg #[.pointer (some ⟨1,115,none⟩),.pointer (some a),.int .u64 150]]).run Tryz.prog w=.ok (.iface 169 (.agg #[.pointer (some ⟨1,115,none⟩)])) w:=by kernel_rfl
theorem kindTF(w:World):((ReflectliteType.abiMethod λt=>(λa:Nat=>Value.int IntKind.u8 (a:Int))<$>Rtype.kind t) #[.pointer (some ⟨1,115,none⟩)]).run Tryz.prog w=.ok (.int .u8 22) w:=by kernel_rfl
theorem kindF(w:World):((ReflectliteType.abiMethod λt=>(λa:Nat=>Value.int IntKind.u8 (a:Int))<$>Rtype.kind t) #[.pointer (some ⟨1,113,none⟩)]).run Tryz.prog w=.ok (.int .u8 22) w:=by kernel_rfl
theorem partsTF(a:Addr)(w:World):(ReflectliteValue.parts (.agg #[.pointer (some ⟨1,115,none⟩),.pointer (some a),.int .u64 150])).run Tryz.prog w=.ok (some (115,a,150)) w:=by kernel_rfl
theorem isNilTF(a p:Addr)(W:World)(ha:W.cell? a=some (.pointer (some p))):
  (ReflectliteValue.method (ReflectliteValue.valueError "reflectlite.Value.IsNil" 0) ReflectliteValue.isNil #[.agg #[.pointer (some ⟨1,115,none⟩),.pointer (some a),.int .u64 150]]).run Tryz.prog W=.ok (.bool false) W:=by
 rw[rlm]
 simp only[Sem.run_bind,partsTF,Result.andThen]
 simp[ReflectliteValue.isNil,loadVar,isAgg,underlying,Tryz.underlying115,ha,Result.andThen]
theorem elemTF(w:World):(ReflectliteType.method ReflectliteType.elem #[.agg #[.pointer (some ⟨1,115,none⟩)]]).run Tryz.prog w=.ok (.iface 169 (.agg #[.pointer (some ⟨1,113,none⟩)])) w:=by kernel_rfl
theorem implementsF(w:World):(ReflectliteType.relation "Implements" ReflectliteType.implements_ #[.agg #[.pointer (some ⟨1,113,none⟩)],.iface 169 (.agg #[.pointer (some ⟨1,37,none⟩)])]).run Tryz.prog w=.ok (.bool true) w:=by kernel_rfl
theorem typeOfF(v:Value)(w:World):(ReflectliteType.typeOf #[.iface 113 v]).run Tryz.prog w=.ok (.iface 169 (.agg #[.pointer (some ⟨1,113,none⟩)])) w:=by kernel_rfl
theorem assignableFF(w:World):(ReflectliteType.relation "AssignableTo" ReflectliteType.assignableTo #[.agg #[.pointer (some ⟨1,113,none⟩)],.iface 169 (.agg #[.pointer (some ⟨1,113,none⟩)])]).run Tryz.prog w=.ok (.bool true) w:=by kernel_rfl
theorem assignableEF(w:World):(ReflectliteType.relation "AssignableTo" ReflectliteType.assignableTo #[.agg #[.pointer (some ⟨1,63,none⟩)],.iface 169 (.agg #[.pointer (some ⟨1,113,none⟩)])]).run Tryz.prog w=.ok (.bool false) w:=by kernel_rfl
theorem valueOfF(e:Addr)(w:World):(ReflectliteValue.unpack (.iface 113 (.pointer (some e)))).run Tryz.prog w
  =.ok (.agg #[.pointer (some ⟨1,113,none⟩),.pointer (some ⟨w.heap.size,0,none⟩),.int .u64 150]) (w.alloc (.cells #[.pointer (some e)] 113)):=by kernel_rfl
theorem elemOfTF(w:World):(Rtype.elem? 115).run Tryz.prog w=.ok (some 113) w:=by kernel_rfl
theorem mkF(p:Addr)(w:World):(ReflectliteValue.mk 113 p ReflectliteValue.flagAddr).run Tryz.prog w=.ok (.agg #[.pointer (some ⟨1,113,none⟩),.pointer (some p),.int .u64 406]) w:=by kernel_rfl
theorem elemVTF(a p:Addr)(W:World)(ha:W.cell? a=some (.pointer (some p))):
  (ReflectliteValue.method (ReflectliteValue.valueError "reflectlite.Value.Elem" 0) ReflectliteValue.elem #[.agg #[.pointer (some ⟨1, 115, none⟩), .pointer (some a), .int .u64 150]]).run Tryz.prog W
   =.ok (.agg #[.pointer (some ⟨1,113,none⟩),.pointer (some p),.int .u64 406]) W:=by
 rw[rlm]
 simp only[Sem.run_bind,partsTF,Result.andThen]
 simp[ReflectliteValue.elem,loadVar,isAgg,underlying,Tryz.underlying115,ha,Result.andThen,elemOfTF,mkF]
theorem partsAF(a:Addr)(w:World):(ReflectliteValue.parts (.agg #[.pointer (some ⟨1,113,none⟩),.pointer (some a),.int .u64 406])).run Tryz.prog w=.ok (some (113,a,406)) w:=by kernel_rfl
theorem partsF(a:Addr)(w:World):(ReflectliteValue.parts (.agg #[.pointer (some ⟨1,113,none⟩),.pointer (some a),.int .u64 150])).run Tryz.prog w=.ok (some (113,a,150)) w:=by kernel_rfl
theorem directF(w:World):(Rtype.directlyAssignable 113 113).run Tryz.prog w=.ok true w:=by kernel_rfl
theorem setF(ta b:Addr)(e:Addr)(old:Value)(W:World)(hb:W.cell? b=some (.pointer (some e)))(ht:W.cell? ta=some old)(hf:W.frozen? ta=false):
  (ReflectliteValue.set #[.agg #[.pointer (some ⟨1, 113, none⟩), .pointer (some ta), .int .u64 406], .agg #[.pointer (some ⟨1, 113, none⟩), .pointer (some b), .int .u64 150]]).run Tryz.prog W
   =.ok (.tuple #[]) (W.setCell ta (.pointer (some e))):=by
 rw[rls]
 simp only[Sem.run_bind,partsAF,partsF,Result.andThen]
 simp[ReflectliteValue.flagAddr,loadVar,isAgg,underlying,Tryz.underlying113,hb,Result.andThen,directF,storeVar,Value.cells,storeCells,Addr.add]
 rw[run_store Tryz.prog W ta _ _ (by rfl)]
 simp[ht,hf]
theorem valueOfTE(t:Addr)(w:World):(ReflectliteValue.unpack (.iface 165 (.pointer (some t)))).run Tryz.prog w
  =.ok (.agg #[.pointer (some ⟨1,165,none⟩),.pointer (some ⟨w.heap.size,0,none⟩),.int .u64 150]) (w.alloc (.cells #[.pointer (some t)] 165)):=by kernel_rfl
theorem typeTE(a:Addr)(w:World):(ReflectliteValue.methodAny (ReflectliteValue.valueError "reflectlite.Value.Type" 0) (λt _ _ _=>ReflectliteType.toType t) #[.agg #[.pointer (some ⟨1,165,none⟩),.pointer (some a),.int .u64 150]]).run Tryz.prog w=.ok (.iface 169 (.agg #[.pointer (some ⟨1,165,none⟩)])) w:=by kernel_rfl
theorem kindTE(w:World):((ReflectliteType.abiMethod λt=>(λa:Nat=>Value.int IntKind.u8 (a:Int))<$>Rtype.kind t) #[.pointer (some ⟨1,165,none⟩)]).run Tryz.prog w=.ok (.int .u8 22) w:=by kernel_rfl
theorem kindE(w:World):((ReflectliteType.abiMethod λt=>(λa:Nat=>Value.int IntKind.u8 (a:Int))<$>Rtype.kind t) #[.pointer (some ⟨1,63,none⟩)]).run Tryz.prog w=.ok (.int .u8 2) w:=by kernel_rfl
theorem partsTE(a:Addr)(w:World):(ReflectliteValue.parts (.agg #[.pointer (some ⟨1,165,none⟩),.pointer (some a),.int .u64 150])).run Tryz.prog w=.ok (some (165,a,150)) w:=by kernel_rfl
theorem isNilTE(a p:Addr)(W:World)(ha:W.cell? a=some (.pointer (some p))):
  (ReflectliteValue.method (ReflectliteValue.valueError "reflectlite.Value.IsNil" 0) ReflectliteValue.isNil #[.agg #[.pointer (some ⟨1,165,none⟩),.pointer (some a),.int .u64 150]]).run Tryz.prog W=.ok (.bool false) W:=by
 rw[rlm]
 simp only[Sem.run_bind,partsTE,Result.andThen]
 simp[ReflectliteValue.isNil,loadVar,isAgg,underlying,Tryz.underlying165,ha,Result.andThen]
theorem elemTE(w:World):(ReflectliteType.method ReflectliteType.elem #[.agg #[.pointer (some ⟨1,165,none⟩)]]).run Tryz.prog w=.ok (.iface 169 (.agg #[.pointer (some ⟨1,63,none⟩)])) w:=by kernel_rfl
theorem implementsE(w:World):(ReflectliteType.relation "Implements" ReflectliteType.implements_ #[.agg #[.pointer (some ⟨1,63,none⟩)],.iface 169 (.agg #[.pointer (some ⟨1,37,none⟩)])]).run Tryz.prog w=.ok (.bool true) w:=by kernel_rfl
theorem typeOfE(v:Value)(w:World):(ReflectliteType.typeOf #[.iface 63 v]).run Tryz.prog w=.ok (.iface 169 (.agg #[.pointer (some ⟨1,63,none⟩)])) w:=by kernel_rfl
theorem assignableFE(w:World):(ReflectliteType.relation "AssignableTo" ReflectliteType.assignableTo #[.agg #[.pointer (some ⟨1,113,none⟩)],.iface 169 (.agg #[.pointer (some ⟨1,63,none⟩)])]).run Tryz.prog w=.ok (.bool false) w:=by kernel_rfl
theorem assignableEE(w:World):(ReflectliteType.relation "AssignableTo" ReflectliteType.assignableTo #[.agg #[.pointer (some ⟨1,63,none⟩)],.iface 169 (.agg #[.pointer (some ⟨1,63,none⟩)])]).run Tryz.prog w=.ok (.bool true) w:=by kernel_rfl
theorem valueOfE(n:Int)(w:World):(ReflectliteValue.unpack (.iface 63 (.int .i64 n))).run Tryz.prog w
  =.ok (.agg #[.pointer (some ⟨1,63,none⟩),.pointer (some ⟨w.heap.size,0,none⟩),.int .u64 130]) (w.alloc (.cells #[.int .i64 n] 63)):=by kernel_rfl
theorem elemOfTE(w:World):(Rtype.elem? 165).run Tryz.prog w=.ok (some 63) w:=by kernel_rfl
theorem mkE(p:Addr)(w:World):(ReflectliteValue.mk 63 p ReflectliteValue.flagAddr).run Tryz.prog w=.ok (.agg #[.pointer (some ⟨1,63,none⟩),.pointer (some p),.int .u64 386]) w:=by kernel_rfl
theorem elemVTE(a p:Addr)(W:World)(ha:W.cell? a=some (.pointer (some p))):
  (ReflectliteValue.method (ReflectliteValue.valueError "reflectlite.Value.Elem" 0) ReflectliteValue.elem #[.agg #[.pointer (some ⟨1, 165, none⟩), .pointer (some a), .int .u64 150]]).run Tryz.prog W
   =.ok (.agg #[.pointer (some ⟨1,63,none⟩),.pointer (some p),.int .u64 386]) W:=by
 rw[rlm]
 simp only[Sem.run_bind,partsTE,Result.andThen]
 simp[ReflectliteValue.elem,loadVar,isAgg,underlying,Tryz.underlying165,ha,Result.andThen,elemOfTE,mkE]
theorem partsAE(a:Addr)(w:World):(ReflectliteValue.parts (.agg #[.pointer (some ⟨1,63,none⟩),.pointer (some a),.int .u64 386])).run Tryz.prog w=.ok (some (63,a,386)) w:=by kernel_rfl
theorem partsE(a:Addr)(w:World):(ReflectliteValue.parts (.agg #[.pointer (some ⟨1,63,none⟩),.pointer (some a),.int .u64 130])).run Tryz.prog w=.ok (some (63,a,130)) w:=by kernel_rfl
theorem directE(w:World):(Rtype.directlyAssignable 63 63).run Tryz.prog w=.ok true w:=by kernel_rfl
theorem setE(ta b:Addr)(n:Int)(old:Value)(W:World)(hb:W.cell? b=some (.int .i64 n))(ht:W.cell? ta=some old)(hf:W.frozen? ta=false):
  (ReflectliteValue.set #[.agg #[.pointer (some ⟨1, 63, none⟩), .pointer (some ta), .int .u64 386], .agg #[.pointer (some ⟨1, 63, none⟩), .pointer (some b), .int .u64 130]]).run Tryz.prog W
   =.ok (.tuple #[]) (W.setCell ta (.int .i64 n)):=by
 rw[rls]
 simp only[Sem.run_bind,partsAE,partsE,Result.andThen]
 simp[ReflectliteValue.flagAddr,loadVar,isAgg,underlying,Tryz.underlying63,hb,Result.andThen,directE,storeVar,Value.cells,storeCells,Addr.add]
 rw[run_store Tryz.prog W ta _ _ (by rfl)]
 simp[ht,hf]
theorem noAsF(v:Value)(xT:TypeId)(w:World):(Instr.typeAssert (.iface 113 v) xT 203 true).run Tryz.prog w=.ok (.tuple #[.nilIface,.bool false]) w:=run_typeAssert_lacksB Tryz.underlying203 zk zk v xT w
theorem hasUnF(v:Value)(xT:TypeId)(w:World):(Instr.typeAssert (.iface 113 v) xT 174 true).run Tryz.prog w=.ok (.tuple #[.iface 113 v,.bool true]) w:=run_typeAssert_hasB Tryz.underlying174 zk v xT w
theorem noIsF(v:Value)(xT:TypeId)(w:World):(Instr.typeAssert (.iface 113 v) xT 171 true).run Tryz.prog w=.ok (.tuple #[.nilIface,.bool false]) w:=run_typeAssert_lacksB Tryz.underlying171 zk zk v xT w
theorem noAsE(v:Value)(xT:TypeId)(w:World):(Instr.typeAssert (.iface 63 v) xT 203 true).run Tryz.prog w=.ok (.tuple #[.nilIface,.bool false]) w:=run_typeAssert_lacksB Tryz.underlying203 zk zk v xT w
theorem noUnE(v:Value)(xT:TypeId)(w:World):(Instr.typeAssert (.iface 63 v) xT 174 true).run Tryz.prog w=.ok (.tuple #[.nilIface,.bool false]) w:=run_typeAssert_lacksB Tryz.underlying174 zk zk v xT w
theorem noUnsE(v:Value)(xT:TypeId)(w:World):(Instr.typeAssert (.iface 63 v) xT 176 true).run Tryz.prog w=.ok (.tuple #[.nilIface,.bool false]) w:=run_typeAssert_lacksB Tryz.underlying176 zk zk v xT w
theorem methodUnwrap(v:Value)(w:World):(Go.method 377 113 v "Unwrap").run Tryz.prog w=.ok (208,v) w:=by kernel_rfl
set_option maxHeartbeats 4000000 in
theorem as_FF(e:Addr)(t:Addr)(old:Value)(w:World)(hg:w.cell? ⟨0,0,none⟩=some (.iface 169 (.agg #[.pointer (some ⟨1,37,none⟩)])))(ht0:w.cell? t=some old)(hf0:w.frozen? t=false):
  Calls Tryz.prog 60 #[.iface 113 (.pointer (some e)),.iface 115 (.pointer (some t))] w λev w'=>ev=.returned (.bool true)/\w'=((((w.alloc (.cells #[.pointer (some t)] 115)).alloc (.cells #[.pointer (some ⟨1,115,none⟩),.pointer (some ⟨w.heap.size,0,none⟩),.int .u64 150] 158)).alloc (.cells #[.pointer (some ⟨1,115,none⟩),.pointer (some ⟨w.heap.size,0,none⟩),.int .u64 150] 158)).alloc (.cells #[.pointer (some e)] 113)).setCell t (.pointer (some e)):=by
 have hVO:=@run_callFunc_extern Tryz.prog 98 _ (λargs=>ReflectliteValue.unpack (args.getD 0 (.tuple #[]))) Tryz.func98 zk zk zk zk
 have hTy:=@run_callFunc_extern Tryz.prog 99 _ (ReflectliteValue.methodAny (ReflectliteValue.valueError "reflectlite.Value.Type" 0) (λt _ _ _=>ReflectliteType.toType t)) Tryz.func99 zk zk zk zk
 have hIN:=@run_callFunc_extern Tryz.prog 100 _ (ReflectliteValue.method (ReflectliteValue.valueError "reflectlite.Value.IsNil" 0) ReflectliteValue.isNil) Tryz.func100 zk zk zk zk
 have hKi:=@run_callFunc_extern Tryz.prog 199 _ (ReflectliteType.abiMethod λt=>do pure (.int .u8 (←Rtype.kind t))) Tryz.func199 zk zk zk zk
 have hEl:=@run_callFunc_extern Tryz.prog 215 _ (ReflectliteType.method ReflectliteType.elem) Tryz.func215 zk zk zk zk
 have hIm:=@run_callFunc_extern Tryz.prog 216 _ (ReflectliteType.relation "Implements" ReflectliteType.implements_) Tryz.func216 zk zk zk zk
 have hTO:=@run_callFunc_extern Tryz.prog 67 _ ReflectliteType.typeOf Tryz.func67 zk zk zk zk
 have hAT:=@run_callFunc_extern Tryz.prog 213 _ (ReflectliteType.relation "AssignableTo" ReflectliteType.assignableTo) Tryz.func213 zk zk zk zk
 have hEV:=@run_callFunc_extern Tryz.prog 134 _ (ReflectliteValue.method (ReflectliteValue.valueError "reflectlite.Value.Elem" 0) ReflectliteValue.elem) Tryz.func134 zk zk zk zk
 have hSe:=@run_callFunc_extern Tryz.prog 135 _ ReflectliteValue.set Tryz.func135 zk zk zk zk
 have xvalueOfTF:=valueOfTF
 have xtypeTF:=typeTF
 have xmethodKind:=methodKind
 have xmethodElem:=methodElem
 have xmethodImplements:=kJ
 have xmethodAssignableTo:=xR
 have xkindTF:=kindTF
 have xkindF:=kindF
 have xelemTF:=elemTF
 have ximplementsF:=implementsF
 have xvalueOfF:=valueOfF
 have xtypeOfF:=typeOfF
 have xassignableFF:=assignableFF
 have xnoAsF:=noAsF
 have xhasUnF:=hasUnF
 have xtypeOfE:=typeOfE
 have xassignableEF:=assignableEF
 have xnoAsE:=noAsE
 have xnoUnE:=noUnE
 have xnoUnsE:=noUnsE
 have n8:=isNilTF ⟨w.heap.size,0,none⟩ t ((w.alloc (.cells #[.pointer (some t)] 115)).alloc (.cells #[.pointer (some ⟨1,115,none⟩),.pointer (some ⟨w.heap.size,0,none⟩),.int .u64 150] 158)) (by simp)
 have hlt:0<w.heap.size:=by
  rcases Nat.eq_zero_or_pos w.heap.size with h0 | h
  ·simp[World.cell?,h0] at hg
  ·exact h
 have hg2:((w.alloc (.cells #[.pointer (some t)] 115)).alloc (.cells #[.pointer (some ⟨1,115,none⟩),.pointer (some ⟨w.heap.size,0,none⟩),.int .u64 150] 158)).cell? ⟨0,0,none⟩=some (.iface 169 (.agg #[.pointer (some ⟨1,37,none⟩)])):=by
  rw[World.cell?_alloc_lt _ _ ⟨0,0,none⟩ (by simp),World.cell?_alloc_lt _ _ ⟨0,0,none⟩ hlt];exact hg
 have htl:t.block<w.heap.size:=by
  rcases Nat.lt_or_ge t.block w.heap.size with h | h
  ·exact h
  ·simp[World.cell?,Array.getElem?_eq_none h] at ht0
 have el:=elemVTF ⟨w.heap.size,0,none⟩ t (((w.alloc (.cells #[.pointer (some t)] 115)).alloc (.cells #[.pointer (some ⟨1,115,none⟩),.pointer (some ⟨w.heap.size,0,none⟩),.int .u64 150] 158)).alloc (.cells #[.pointer (some ⟨1,115,none⟩),.pointer (some ⟨w.heap.size,0,none⟩),.int .u64 150] 158)) (by rw[World.cell?_alloc_lt _ _ ⟨w.heap.size,0,none⟩ (by simp;omega)];simp)
 have st:=setF t ⟨w.heap.size+1+1+1,0,none⟩ e old (((((w.alloc (.cells #[.pointer (some t)] 115)).alloc (.cells #[.pointer (some ⟨1,115,none⟩),.pointer (some ⟨w.heap.size,0,none⟩),.int .u64 150] 158)).alloc (.cells #[.pointer (some ⟨1,115,none⟩),.pointer (some ⟨w.heap.size,0,none⟩),.int .u64 150] 158)).alloc (.cells #[.pointer (some e)] 113)))
  (by rw[World.cell?_alloc_at _ _ _ _ (by simp)];rfl)
  (by rw[World.cell?_alloc_lt _ _ t (by simp;omega),World.cell?_alloc_lt _ _ t (by simp;omega),World.cell?_alloc_lt _ _ t (by simp;omega),World.cell?_alloc_lt _ _ t htl];exact ht0)
  (by rw[World.frozen?_alloc_old _ _ t (by simp;omega),World.frozen?_alloc_old _ _ t (by simp;omega),World.frozen?_alloc_old _ _ t (by simp;omega),World.frozen?_alloc_old _ _ t (Nat.ne_of_lt htl)];exact hf0)
 go_enter Tryz.func60,Tryz.ntmps60
 go_wp2
 refine wp_loop_rounds 1 ?_
 rw[rounds_succ]
 go_wp2
 go_ret
 exact⟨rfl,rfl⟩
set_option maxHeartbeats 4000000 in
theorem as_EE(n:Int)(t:Addr)(old:Value)(w:World)(hg:w.cell? ⟨0,0,none⟩=some (.iface 169 (.agg #[.pointer (some ⟨1,37,none⟩)])))(ht0:w.cell? t=some old)(hf0:w.frozen? t=false):
  Calls Tryz.prog 60 #[.iface 63 (.int .i64 n),.iface 165 (.pointer (some t))] w λev w'=>ev=.returned (.bool true)/\w'=((((w.alloc (.cells #[.pointer (some t)] 165)).alloc (.cells #[.pointer (some ⟨1,165,none⟩),.pointer (some ⟨w.heap.size,0,none⟩),.int .u64 150] 158)).alloc (.cells #[.pointer (some ⟨1,165,none⟩),.pointer (some ⟨w.heap.size,0,none⟩),.int .u64 150] 158)).alloc (.cells #[.int .i64 n] 63)).setCell t (.int .i64 n):=by
 have hVO:=@run_callFunc_extern Tryz.prog 98 _ (λargs=>ReflectliteValue.unpack (args.getD 0 (.tuple #[]))) Tryz.func98 zk zk zk zk
 have hTy:=@run_callFunc_extern Tryz.prog 99 _ (ReflectliteValue.methodAny (ReflectliteValue.valueError "reflectlite.Value.Type" 0) (λt _ _ _=>ReflectliteType.toType t)) Tryz.func99 zk zk zk zk
 have hIN:=@run_callFunc_extern Tryz.prog 100 _ (ReflectliteValue.method (ReflectliteValue.valueError "reflectlite.Value.IsNil" 0) ReflectliteValue.isNil) Tryz.func100 zk zk zk zk
 have hKi:=@run_callFunc_extern Tryz.prog 199 _ (ReflectliteType.abiMethod λt=>do pure (.int .u8 (←Rtype.kind t))) Tryz.func199 zk zk zk zk
 have hEl:=@run_callFunc_extern Tryz.prog 215 _ (ReflectliteType.method ReflectliteType.elem) Tryz.func215 zk zk zk zk
 have hIm:=@run_callFunc_extern Tryz.prog 216 _ (ReflectliteType.relation "Implements" ReflectliteType.implements_) Tryz.func216 zk zk zk zk
 have hTO:=@run_callFunc_extern Tryz.prog 67 _ ReflectliteType.typeOf Tryz.func67 zk zk zk zk
 have hAT:=@run_callFunc_extern Tryz.prog 213 _ (ReflectliteType.relation "AssignableTo" ReflectliteType.assignableTo) Tryz.func213 zk zk zk zk
 have hEV:=@run_callFunc_extern Tryz.prog 134 _ (ReflectliteValue.method (ReflectliteValue.valueError "reflectlite.Value.Elem" 0) ReflectliteValue.elem) Tryz.func134 zk zk zk zk
 have hSe:=@run_callFunc_extern Tryz.prog 135 _ ReflectliteValue.set Tryz.func135 zk zk zk zk
 have xvalueOfTE:=valueOfTE
 have xtypeTE:=typeTE
 have xmethodKind:=methodKind
 have xmethodElem:=methodElem
 have xmethodImplements:=kJ
 have xmethodAssignableTo:=xR
 have xkindTE:=kindTE
 have xkindE:=kindE
 have xelemTE:=elemTE
 have ximplementsE:=implementsE
 have xvalueOfE:=valueOfE
 have xtypeOfF:=typeOfF
 have xassignableFE:=assignableFE
 have xnoAsF:=noAsF
 have xhasUnF:=hasUnF
 have xtypeOfE:=typeOfE
 have xassignableEE:=assignableEE
 have xnoAsE:=noAsE
 have xnoUnE:=noUnE
 have xnoUnsE:=noUnsE
 have n8:=isNilTE ⟨w.heap.size,0,none⟩ t ((w.alloc (.cells #[.pointer (some t)] 165)).alloc (.cells #[.pointer (some ⟨1,165,none⟩),.pointer (some ⟨w.heap.size,0,none⟩),.int .u64 150] 158)) (by simp)
 have hlt:0<w.heap.size:=by
  rcases Nat.eq_zero_or_pos w.heap.size with h0 | h
  ·simp[World.cell?,h0] at hg
  ·exact h
 have hg2:((w.alloc (.cells #[.pointer (some t)] 165)).alloc (.cells #[.pointer (some ⟨1,165,none⟩),.pointer (some ⟨w.heap.size,0,none⟩),.int .u64 150] 158)).cell? ⟨0,0,none⟩=some (.iface 169 (.agg #[.pointer (some ⟨1,37,none⟩)])):=by
  rw[World.cell?_alloc_lt _ _ ⟨0,0,none⟩ (by simp),World.cell?_alloc_lt _ _ ⟨0,0,none⟩ hlt];exact hg
 have htl:t.block<w.heap.size:=by
  rcases Nat.lt_or_ge t.block w.heap.size with h | h
  ·exact h
  ·simp[World.cell?,Array.getElem?_eq_none h] at ht0
 have el:=elemVTE ⟨w.heap.size,0,none⟩ t (((w.alloc (.cells #[.pointer (some t)] 165)).alloc (.cells #[.pointer (some ⟨1,165,none⟩),.pointer (some ⟨w.heap.size,0,none⟩),.int .u64 150] 158)).alloc (.cells #[.pointer (some ⟨1,165,none⟩),.pointer (some ⟨w.heap.size,0,none⟩),.int .u64 150] 158)) (by rw[World.cell?_alloc_lt _ _ ⟨w.heap.size,0,none⟩ (by simp;omega)];simp)
 have st:=setE t ⟨w.heap.size+1+1+1,0,none⟩ n old (((((w.alloc (.cells #[.pointer (some t)] 165)).alloc (.cells #[.pointer (some ⟨1,165,none⟩),.pointer (some ⟨w.heap.size,0,none⟩),.int .u64 150] 158)).alloc (.cells #[.pointer (some ⟨1,165,none⟩),.pointer (some ⟨w.heap.size,0,none⟩),.int .u64 150] 158)).alloc (.cells #[.int .i64 n] 63)))
  (by rw[World.cell?_alloc_at _ _ _ _ (by simp)];rfl)
  (by rw[World.cell?_alloc_lt _ _ t (by simp;omega),World.cell?_alloc_lt _ _ t (by simp;omega),World.cell?_alloc_lt _ _ t (by simp;omega),World.cell?_alloc_lt _ _ t htl];exact ht0)
  (by rw[World.frozen?_alloc_old _ _ t (by simp;omega),World.frozen?_alloc_old _ _ t (by simp;omega),World.frozen?_alloc_old _ _ t (by simp;omega),World.frozen?_alloc_old _ _ t (Nat.ne_of_lt htl)];exact hf0)
 go_enter Tryz.func60,Tryz.ntmps60
 go_wp2
 refine wp_loop_rounds 1 ?_
 rw[rounds_succ]
 go_wp2
 go_ret
 exact⟨rfl,rfl⟩
set_option maxHeartbeats 4000000 in
theorem as_EF(n:Int)(t:Addr)(old:Value)(w:World)(hg:w.cell? ⟨0,0,none⟩=some (.iface 169 (.agg #[.pointer (some ⟨1,37,none⟩)])))(ht0:w.cell? t=some old):
  Calls Tryz.prog 60 #[.iface 63 (.int .i64 n),.iface 115 (.pointer (some t))] w λev w'=>ev=.returned (.bool false)/\w'=(((w.alloc (.cells #[.pointer (some t)] 115)).alloc (.cells #[.pointer (some ⟨1,115,none⟩),.pointer (some ⟨w.heap.size,0,none⟩),.int .u64 150] 158)).alloc (.cells #[.pointer (some ⟨1,115,none⟩),.pointer (some ⟨w.heap.size,0,none⟩),.int .u64 150] 158)):=by
 have hVO:=@run_callFunc_extern Tryz.prog 98 _ (λargs=>ReflectliteValue.unpack (args.getD 0 (.tuple #[]))) Tryz.func98 zk zk zk zk
 have hTy:=@run_callFunc_extern Tryz.prog 99 _ (ReflectliteValue.methodAny (ReflectliteValue.valueError "reflectlite.Value.Type" 0) (λt _ _ _=>ReflectliteType.toType t)) Tryz.func99 zk zk zk zk
 have hIN:=@run_callFunc_extern Tryz.prog 100 _ (ReflectliteValue.method (ReflectliteValue.valueError "reflectlite.Value.IsNil" 0) ReflectliteValue.isNil) Tryz.func100 zk zk zk zk
 have hKi:=@run_callFunc_extern Tryz.prog 199 _ (ReflectliteType.abiMethod λt=>do pure (.int .u8 (←Rtype.kind t))) Tryz.func199 zk zk zk zk
 have hEl:=@run_callFunc_extern Tryz.prog 215 _ (ReflectliteType.method ReflectliteType.elem) Tryz.func215 zk zk zk zk
 have hIm:=@run_callFunc_extern Tryz.prog 216 _ (ReflectliteType.relation "Implements" ReflectliteType.implements_) Tryz.func216 zk zk zk zk
 have hTO:=@run_callFunc_extern Tryz.prog 67 _ ReflectliteType.typeOf Tryz.func67 zk zk zk zk
 have hAT:=@run_callFunc_extern Tryz.prog 213 _ (ReflectliteType.relation "AssignableTo" ReflectliteType.assignableTo) Tryz.func213 zk zk zk zk
 have xvalueOfTF:=valueOfTF
 have xtypeTF:=typeTF
 have xmethodKind:=methodKind
 have xmethodElem:=methodElem
 have xmethodImplements:=kJ
 have xmethodAssignableTo:=xR
 have xkindTF:=kindTF
 have xkindF:=kindF
 have xelemTF:=elemTF
 have ximplementsF:=implementsF
 have xtypeOfF:=typeOfF
 have xassignableFF:=assignableFF
 have xnoAsF:=noAsF
 have xhasUnF:=hasUnF
 have xtypeOfE:=typeOfE
 have xassignableEF:=assignableEF
 have xnoAsE:=noAsE
 have xnoUnE:=noUnE
 have xnoUnsE:=noUnsE
 have n8:=isNilTF ⟨w.heap.size,0,none⟩ t ((w.alloc (.cells #[.pointer (some t)] 115)).alloc (.cells #[.pointer (some ⟨1,115,none⟩),.pointer (some ⟨w.heap.size,0,none⟩),.int .u64 150] 158)) (by simp)
 have hlt:0<w.heap.size:=by
  rcases Nat.eq_zero_or_pos w.heap.size with h0 | h
  ·simp[World.cell?,h0] at hg
  ·exact h
 have hg2:((w.alloc (.cells #[.pointer (some t)] 115)).alloc (.cells #[.pointer (some ⟨1,115,none⟩),.pointer (some ⟨w.heap.size,0,none⟩),.int .u64 150] 158)).cell? ⟨0,0,none⟩=some (.iface 169 (.agg #[.pointer (some ⟨1,37,none⟩)])):=by
  rw[World.cell?_alloc_lt _ _ ⟨0,0,none⟩ (by simp),World.cell?_alloc_lt _ _ ⟨0,0,none⟩ hlt];exact hg
 have htl:t.block<w.heap.size:=by
  rcases Nat.lt_or_ge t.block w.heap.size with h | h
  ·exact h
  ·simp[World.cell?,Array.getElem?_eq_none h] at ht0
 go_enter Tryz.func60,Tryz.ntmps60
 go_wp2
 refine wp_loop_rounds 1 ?_
 rw[rounds_succ]
 go_wp2
 go_ret
 exact⟨rfl,rfl⟩
set_option maxHeartbeats 4000000 in
theorem as_FE(n:Int)(g o:Nat)(t:Addr)(old:Value)(w:World)(hg:w.cell? ⟨0,0,none⟩=some (.iface 169 (.agg #[.pointer (some ⟨1,37,none⟩)])))(ht0:w.cell? t=some old)(hf0:w.frozen? t=false)(he:w.cell? ⟨g,o+2,none⟩=some (.iface 63 (.int .i64 n))):
  Calls Tryz.prog 60 #[.iface 113 (.pointer (some ⟨g,o,none⟩)),.iface 165 (.pointer (some t))] w λev w'=>ev=.returned (.bool true)/\w'=((((w.alloc (.cells #[.pointer (some t)] 165)).alloc (.cells #[.pointer (some ⟨1,165,none⟩),.pointer (some ⟨w.heap.size,0,none⟩),.int .u64 150] 158)).alloc (.cells #[.pointer (some ⟨1,165,none⟩),.pointer (some ⟨w.heap.size,0,none⟩),.int .u64 150] 158)).alloc (.cells #[.int .i64 n] 63)).setCell t (.int .i64 n):=by
 have hVO:=@run_callFunc_extern Tryz.prog 98 _ (λargs=>ReflectliteValue.unpack (args.getD 0 (.tuple #[]))) Tryz.func98 zk zk zk zk
 have hTy:=@run_callFunc_extern Tryz.prog 99 _ (ReflectliteValue.methodAny (ReflectliteValue.valueError "reflectlite.Value.Type" 0) (λt _ _ _=>ReflectliteType.toType t)) Tryz.func99 zk zk zk zk
 have hIN:=@run_callFunc_extern Tryz.prog 100 _ (ReflectliteValue.method (ReflectliteValue.valueError "reflectlite.Value.IsNil" 0) ReflectliteValue.isNil) Tryz.func100 zk zk zk zk
 have hKi:=@run_callFunc_extern Tryz.prog 199 _ (ReflectliteType.abiMethod λt=>do pure (.int .u8 (←Rtype.kind t))) Tryz.func199 zk zk zk zk
 have hEl:=@run_callFunc_extern Tryz.prog 215 _ (ReflectliteType.method ReflectliteType.elem) Tryz.func215 zk zk zk zk
 have hIm:=@run_callFunc_extern Tryz.prog 216 _ (ReflectliteType.relation "Implements" ReflectliteType.implements_) Tryz.func216 zk zk zk zk
 have hTO:=@run_callFunc_extern Tryz.prog 67 _ ReflectliteType.typeOf Tryz.func67 zk zk zk zk
 have hAT:=@run_callFunc_extern Tryz.prog 213 _ (ReflectliteType.relation "AssignableTo" ReflectliteType.assignableTo) Tryz.func213 zk zk zk zk
 have hEV:=@run_callFunc_extern Tryz.prog 134 _ (ReflectliteValue.method (ReflectliteValue.valueError "reflectlite.Value.Elem" 0) ReflectliteValue.elem) Tryz.func134 zk zk zk zk
 have hSe:=@run_callFunc_extern Tryz.prog 135 _ ReflectliteValue.set Tryz.func135 zk zk zk zk
 have xvalueOfTE:=valueOfTE
 have xtypeTE:=typeTE
 have xmethodKind:=methodKind
 have xmethodElem:=methodElem
 have xmethodImplements:=kJ
 have xmethodAssignableTo:=xR
 have xkindTE:=kindTE
 have xkindE:=kindE
 have xelemTE:=elemTE
 have ximplementsE:=implementsE
 have xvalueOfE:=valueOfE
 have xtypeOfF:=typeOfF
 have xassignableFE:=assignableFE
 have xnoAsF:=noAsF
 have xhasUnF:=hasUnF
 have xtypeOfE:=typeOfE
 have xassignableEE:=assignableEE
 have xnoAsE:=noAsE
 have xnoUnE:=noUnE
 have xnoUnsE:=noUnsE
 have xmethodUnwrap:=methodUnwrap
 have n8:=isNilTE ⟨w.heap.size,0,none⟩ t ((w.alloc (.cells #[.pointer (some t)] 165)).alloc (.cells #[.pointer (some ⟨1,165,none⟩),.pointer (some ⟨w.heap.size,0,none⟩),.int .u64 150] 158)) (by simp)
 have hlt:0<w.heap.size:=by
  rcases Nat.eq_zero_or_pos w.heap.size with h0 | h
  ·simp[World.cell?,h0] at hg
  ·exact h
 have hg2:((w.alloc (.cells #[.pointer (some t)] 165)).alloc (.cells #[.pointer (some ⟨1,165,none⟩),.pointer (some ⟨w.heap.size,0,none⟩),.int .u64 150] 158)).cell? ⟨0,0,none⟩=some (.iface 169 (.agg #[.pointer (some ⟨1,37,none⟩)])):=by
  rw[World.cell?_alloc_lt _ _ ⟨0,0,none⟩ (by simp),World.cell?_alloc_lt _ _ ⟨0,0,none⟩ hlt];exact hg
 have htl:t.block<w.heap.size:=by
  rcases Nat.lt_or_ge t.block w.heap.size with h | h
  ·exact h
  ·simp[World.cell?,Array.getElem?_eq_none h] at ht0
 have el:=elemVTE ⟨w.heap.size,0,none⟩ t (((w.alloc (.cells #[.pointer (some t)] 165)).alloc (.cells #[.pointer (some ⟨1,165,none⟩),.pointer (some ⟨w.heap.size,0,none⟩),.int .u64 150] 158)).alloc (.cells #[.pointer (some ⟨1,165,none⟩),.pointer (some ⟨w.heap.size,0,none⟩),.int .u64 150] 158)) (by rw[World.cell?_alloc_lt _ _ ⟨w.heap.size,0,none⟩ (by simp;omega)];simp)
 have st:=setE t ⟨w.heap.size+1+1+1,0,none⟩ n old (((((w.alloc (.cells #[.pointer (some t)] 165)).alloc (.cells #[.pointer (some ⟨1,165,none⟩),.pointer (some ⟨w.heap.size,0,none⟩),.int .u64 150] 158)).alloc (.cells #[.pointer (some ⟨1,165,none⟩),.pointer (some ⟨w.heap.size,0,none⟩),.int .u64 150] 158)).alloc (.cells #[.int .i64 n] 63)))
  (by rw[World.cell?_alloc_at _ _ _ _ (by simp)];rfl)
  (by rw[World.cell?_alloc_lt _ _ t (by simp;omega),World.cell?_alloc_lt _ _ t (by simp;omega),World.cell?_alloc_lt _ _ t (by simp;omega),World.cell?_alloc_lt _ _ t htl];exact ht0)
  (by rw[World.frozen?_alloc_old _ _ t (by simp;omega),World.frozen?_alloc_old _ _ t (by simp;omega),World.frozen?_alloc_old _ _ t (by simp;omega),World.frozen?_alloc_old _ _ t (Nat.ne_of_lt htl)];exact hf0)
 have xmethodUnwrap:=methodUnwrap
 have hgl:g<w.heap.size:=by
  rcases Nat.lt_or_ge g w.heap.size with h | h
  ·exact h
  ·simp[World.cell?,Array.getElem?_eq_none h] at he
 have he2:(((w.alloc (.cells #[.pointer (some t)] 165)).alloc (.cells #[.pointer (some ⟨1,165,none⟩),.pointer (some ⟨w.heap.size,0,none⟩),.int .u64 150] 158)).alloc (.cells #[.pointer (some ⟨1,165,none⟩),.pointer (some ⟨w.heap.size,0,none⟩),.int .u64 150] 158)).cell? ⟨g,o+2,none⟩=some (.iface 63 (.int .i64 n)):=by
  rw[World.cell?_alloc_lt _ _ ⟨g,o+2,none⟩ (by simp;omega),World.cell?_alloc_lt _ _ ⟨g,o+2,none⟩ (by simp;omega),World.cell?_alloc_lt _ _ ⟨g,o+2,none⟩ hgl];exact he
 go_enter Tryz.func60,Tryz.ntmps60
 go_wp2
 refine wp_loop_rounds 2 ?_
 rw[rounds_succ]
 go_wp2
 rw[rounds_succ]
 go_wp2
 go_ret
 exact⟨rfl,rfl⟩
end Er
open Go.RowKit Go.Extern.Stop Go.Stop Go.Extern
abbrev sNo:ByteArray:=⟨#[]⟩
abbrev sCol:ByteArray:=⟨#[99,111,108,117,109,110]⟩
namespace Er
set_option maxHeartbeats 4000000 in
theorem place_nil(w:World):Calls Tryz.prog 23 #[.nilIface] w λe w'=>e=.returned (.tuple #[.string sNo,.int .i64 0,.bool false])/\Grow w w':=by
 go_enter Tryz.func23,Tryz.ntmps23
 go_wp2
 refine bodyPost_ret (v:=.tuple #[.string sNo,.int .i64 0,.bool false]) (by simp[results,go_sem]) rfl ⟨rfl,?_⟩
 exact Wz
set_option maxHeartbeats 4000000 in
theorem place_E(n:Int)(w:World)(hg:w.cell? ⟨0,0,none⟩=some (.iface 169 (.agg #[.pointer (some ⟨1,37,none⟩)]))):Calls Tryz.prog 23 #[.iface 63 (.int .i64 n)] w λe w'=>e=.returned (.tuple #[.string sNo,.int .i64 0,.bool false])/\Grow w w':=by
 have hlt:0<w.heap.size:=by
  rcases Nat.eq_zero_or_pos w.heap.size with h0 | h
  ·simp[World.cell?,h0] at hg
  ·exact h
 have hgA:(w.alloc (.cells #[.pointer none] 113)).cell? ⟨0,0,none⟩=some (.iface 169 (.agg #[.pointer (some ⟨1,37,none⟩)])):=by
  rw[World.cell?_alloc_lt _ _ ⟨0,0,none⟩ hlt];exact hg
 have htA:(w.alloc (.cells #[.pointer none] 113)).cell? ⟨w.heap.size,0,none⟩=some (.pointer none):=by simp
 have hfA:(w.alloc (.cells #[.pointer none] 113)).frozen? ⟨w.heap.size,0,none⟩=false:=by simp
 go_enter Tryz.func23,Tryz.ntmps23
 go_wp2_with (go_at_call 60;refine(as_EF n _ _ _ hgA htA).mono ?_;rintro e w' ⟨rfl,rfl⟩)
 refine bodyPost_ret (v:=.tuple #[.string sNo,.int .i64 0,.bool false]) (by simp[results,go_sem]) rfl ⟨rfl,?_⟩
 exact Wz
set_option maxHeartbeats 4000000 in
theorem number_nil(w:World):Calls Tryz.prog 63 #[.nilIface] w λe w'=>e=.returned (.int .i64 0)/\Grow w w':=by
 go_enter Tryz.func63,Tryz.ntmps63
 go_wp2
 go_ret
 refine⟨rfl,?_⟩
 exact Wz
set_option maxHeartbeats 4000000 in
theorem number_E(n:Int)(w:World)(hg:w.cell? ⟨0,0,none⟩=some (.iface 169 (.agg #[.pointer (some ⟨1,37,none⟩)]))):Calls Tryz.prog 63 #[.iface 63 (.int .i64 n)] w λe w'=>e=.returned (.int .i64 n)/\Grow w w':=by
 have hlt:0<w.heap.size:=by
  rcases Nat.eq_zero_or_pos w.heap.size with h0 | h
  ·simp[World.cell?,h0] at hg
  ·exact h
 have hgA:(w.alloc (.cells #[.int .i64 0] 63)).cell? ⟨0,0,none⟩=some (.iface 169 (.agg #[.pointer (some ⟨1,37,none⟩)])):=by
  rw[World.cell?_alloc_lt _ _ ⟨0,0,none⟩ hlt];exact hg
 have htA:(w.alloc (.cells #[.int .i64 0] 63)).cell? ⟨w.heap.size,0,none⟩=some (.int .i64 0):=by simp
 have hfA:(w.alloc (.cells #[.int .i64 0] 63)).frozen? ⟨w.heap.size,0,none⟩=false:=by simp
 go_enter Tryz.func63,Tryz.ntmps63
 go_wp2_with (go_at_call 60;refine(as_EE n _ _ _ hgA htA hfA).mono ?_;rintro e w' ⟨rfl,rfl⟩)
 go_ret
 refine⟨rfl,?_⟩
 exact Wz
set_option maxHeartbeats 4000000 in
theorem number_F(s:ByteArray)(k n:Int)(g o:Nat)(w:World)(hg:w.cell? ⟨0,0,none⟩=some (.iface 169 (.agg #[.pointer (some ⟨1,37,none⟩)])))(_:w.cell? ⟨g,o+0,none⟩=some (.string s))(_:w.cell? ⟨g,o+1,none⟩=some (.int .i64 k))(h2:w.cell? ⟨g,o+2,none⟩=some (.iface 63 (.int .i64 n))):Calls Tryz.prog 63 #[.iface 113 (.pointer (some ⟨g,o,none⟩))] w λe w'=>e=.returned (.int .i64 n)/\Grow w w':=by
 have hgl:g<w.heap.size:=by
  rcases Nat.lt_or_ge g w.heap.size with h | h
  ·exact h
  ·simp[World.cell?,Array.getElem?_eq_none h] at h2
 have hlt:0<w.heap.size:=by
  rcases Nat.eq_zero_or_pos w.heap.size with h0 | h
  ·simp[World.cell?,h0] at hg
  ·exact h
 have hgA:(w.alloc (.cells #[.int .i64 0] 63)).cell? ⟨0,0,none⟩=some (.iface 169 (.agg #[.pointer (some ⟨1,37,none⟩)])):=by
  rw[World.cell?_alloc_lt _ _ ⟨0,0,none⟩ hlt];exact hg
 have htA:(w.alloc (.cells #[.int .i64 0] 63)).cell? ⟨w.heap.size,0,none⟩=some (.int .i64 0):=by simp
 have hfA:(w.alloc (.cells #[.int .i64 0] 63)).frozen? ⟨w.heap.size,0,none⟩=false:=by simp
 have c2:(w.alloc (.cells #[.int .i64 0] 63)).cell? ⟨g,o+2,none⟩=some (.iface 63 (.int .i64 n)):=by
  rw[World.cell?_alloc_lt _ _ ⟨g,o+2,none⟩ hgl];exact h2
 go_enter Tryz.func63,Tryz.ntmps63
 go_wp2_with (go_at_call 60;refine(as_FE n g o _ _ _ hgA htA hfA c2).mono ?_;rintro e w' ⟨rfl,rfl⟩)
 go_ret
 refine⟨rfl,?_⟩
 exact Wz
set_option maxHeartbeats 4000000 in
theorem place_F(s:ByteArray)(k n:Int)(g o:Nat)(w:World)(hg:w.cell? ⟨0,0,none⟩=some (.iface 169 (.agg #[.pointer (some ⟨1,37,none⟩)])))(h0:w.cell? ⟨g,o+0,none⟩=some (.string s))(h1:w.cell? ⟨g,o+1,none⟩=some (.int .i64 k))(h2:w.cell? ⟨g,o+2,none⟩=some (.iface 63 (.int .i64 n))):Calls Tryz.prog 23 #[.iface 113 (.pointer (some ⟨g,o,none⟩))] w λe w'=>e=.returned (.tuple #[.string s,.int .i64 k,.bool true])/\Grow w w':=by
 have hgl:g<w.heap.size:=by
  rcases Nat.lt_or_ge g w.heap.size with h | h
  ·exact h
  ·simp[World.cell?,Array.getElem?_eq_none h] at h2
 have hlt:0<w.heap.size:=by
  rcases Nat.eq_zero_or_pos w.heap.size with h0 | h
  ·simp[World.cell?,h0] at hg
  ·exact h
 have hgA:(w.alloc (.cells #[.pointer none] 113)).cell? ⟨0,0,none⟩=some (.iface 169 (.agg #[.pointer (some ⟨1,37,none⟩)])):=by
  rw[World.cell?_alloc_lt _ _ ⟨0,0,none⟩ hlt];exact hg
 have htA:(w.alloc (.cells #[.pointer none] 113)).cell? ⟨w.heap.size,0,none⟩=some (.pointer none):=by simp
 have hfA:(w.alloc (.cells #[.pointer none] 113)).frozen? ⟨w.heap.size,0,none⟩=false:=by simp
 have d0:(((((w.alloc (.cells #[.pointer (some ⟨g,o,none⟩)] 113)).alloc (.cells #[.pointer (some ⟨w.heap.size,0,none⟩)] 115)).alloc (.cells #[.pointer (some ⟨1,115,none⟩),.pointer (some ⟨w.heap.size+1,0,none⟩),.int .u64 150] 158)).alloc (.cells #[.pointer (some ⟨1,115,none⟩),.pointer (some ⟨w.heap.size+1,0,none⟩),.int .u64 150] 158)).alloc (.cells #[.pointer (some ⟨g,o,none⟩)] 113)).cell? ⟨g,o,none⟩=some (.string s):=by
  rw[World.cell?_alloc_lt _ _ ⟨g,o,none⟩ (by simp;omega),World.cell?_alloc_lt _ _ ⟨g,o,none⟩ (by simp;omega),World.cell?_alloc_lt _ _ ⟨g,o,none⟩ (by simp;omega),World.cell?_alloc_lt _ _ ⟨g,o,none⟩ (by simp;omega),World.cell?_alloc_lt _ _ ⟨g,o,none⟩ hgl];exact h0
 have d1:(((((w.alloc (.cells #[.pointer (some ⟨g,o,none⟩)] 113)).alloc (.cells #[.pointer (some ⟨w.heap.size,0,none⟩)] 115)).alloc (.cells #[.pointer (some ⟨1,115,none⟩),.pointer (some ⟨w.heap.size+1,0,none⟩),.int .u64 150] 158)).alloc (.cells #[.pointer (some ⟨1,115,none⟩),.pointer (some ⟨w.heap.size+1,0,none⟩),.int .u64 150] 158)).alloc (.cells #[.pointer (some ⟨g,o,none⟩)] 113)).cell? ⟨g,o+1,none⟩=some (.int .i64 k):=by
  rw[World.cell?_alloc_lt _ _ ⟨g,o+1,none⟩ (by simp;omega),World.cell?_alloc_lt _ _ ⟨g,o+1,none⟩ (by simp;omega),World.cell?_alloc_lt _ _ ⟨g,o+1,none⟩ (by simp;omega),World.cell?_alloc_lt _ _ ⟨g,o+1,none⟩ (by simp;omega),World.cell?_alloc_lt _ _ ⟨g,o+1,none⟩ hgl];exact h1
 go_enter Tryz.func23,Tryz.ntmps23
 go_wp2_with (go_at_call 60;refine(as_FF ⟨g,o,none⟩ _ _ _ hgA htA hfA).mono ?_;rintro e w' ⟨rfl,rfl⟩)
 have dT:(((((w.alloc (.cells #[.pointer (some ⟨g,o,none⟩)] 113)).alloc (.cells #[.pointer (some ⟨w.heap.size,0,none⟩)] 115)).alloc (.cells #[.pointer (some ⟨1,115,none⟩),.pointer (some ⟨w.heap.size+1,0,none⟩),.int .u64 150] 158)).alloc (.cells #[.pointer (some ⟨1,115,none⟩),.pointer (some ⟨w.heap.size+1,0,none⟩),.int .u64 150] 158)).alloc (.cells #[.pointer (some ⟨g,o,none⟩)] 113)).cell? ⟨w.heap.size,0,none⟩=some (.pointer (some ⟨g,o,none⟩)):=by
  rw[World.cell?_alloc_lt _ _ ⟨w.heap.size,0,none⟩ (by simp;omega),World.cell?_alloc_lt _ _ ⟨w.heap.size,0,none⟩ (by simp;omega),World.cell?_alloc_lt _ _ ⟨w.heap.size,0,none⟩ (by simp;omega),World.cell?_alloc_lt _ _ ⟨w.heap.size,0,none⟩ (by simp)];simp
 go_region_held3 (λw'=>w'.cell? ⟨w.heap.size,0,none⟩=some (.pointer (some ⟨g,o,none⟩))/\w'.cell? ⟨g,o,none⟩=some (.string s)/\w'.cell? ⟨g,o+1,none⟩=some (.int .i64 k))
  (first | exact⟨dT,d0,d1⟩ | go_keep) (fail)
 go_wp2
 refine bodyPost_ret (v:=.tuple #[.string s,.int .i64 k,.bool true]) (by simp[results,go_sem]) rfl ⟨rfl,?_⟩
 exact Wz
end Er
theorem CallOK.of_raw{P:Program}{f:FuncId}{As:List SV}{R:SV}{u:Value}(cal:yD P f)(hR:∀(η:Eta) (A:Nat->Prop) (w:World),R.R η A w u)
  (h:∀(η:Eta) (F:Nat->Prop) (w:World) (vals:List Value),Gl w->xH As η F w vals->Calls P f vals.toArray w λe w'=>e=.returned u/\Grow w w'):CallOK P f As R []:=
 ⟨cal, λη0 F w vals hF hA => (h η0 F w vals hF.gl hA).mono λe w' ⟨e1, g⟩ => ⟨u, λ_ _ => none, e1,
  ⟨.of_grow g,(λk i o hk=>by rw[yL] at hk;cases hk),(λk i o _ _ hk=>by rw[yL] at hk;cases hk),(λk i o _ _ _ _ _ _ hk=>by rw[yL] at hk;cases hk),λ_ _ _=>rfl,hF.lt,hF.gl,λ_ h=>h⟩,hR _ _ _⟩⟩
abbrev fltS (s:ByteArray) (k n:Int):SV:=.ifc 113 (.ep (.agg (.cn (.ex (.string s)) (.cn (.ex (.int .i64 k)) (.cn (.ex (.iface 63 (.int .i64 n))) .nl)))))
theorem flt_open{s:ByteArray}{k n:Int}{η:Eta}{A:Nat->Prop}{w:World}{v:Value}(h:(fltS s k n).R η A w v):∃g o,v=.iface 113 (.pointer (some ⟨g,o,none⟩))/\w.cell? ⟨g,o+0,none⟩=some (.string s)/\w.cell? ⟨g,o+1,none⟩=some (.int .i64 k)/\w.cell? ⟨g,o+2,none⟩=some (.iface 63 (.int .i64 n)):=by
 obtain⟨u,rfl,g,o,rfl,_,_,e,⟨vs,rfl,x,xs,e1,hx,y,ys,e2,hy,z,zs,e3,hz,hn⟩,hc⟩:=h
 obtain rfl:=hx
 obtain rfl:=hy
 obtain rfl:=hz
 have hn:Value.tuple zs.toArray=.tuple #[]:=hn
 simp only[Value.tuple.injEq] at e1 e2 e3 hn
 obtain rfl:zs=[]:=by simpa using congrArg Array.toList hn
 obtain rfl:ys=_:=by simpa using congrArg Array.toList e3
 obtain rfl:xs=_:=by simpa using congrArg Array.toList e2
 obtain rfl:vs=_:=by simpa using congrArg Array.toList e1
 exact⟨g,o,rfl,hc 0 _ rfl,hc 1 _ rfl,hc 2 _ rfl⟩
abbrev PLC (s:ByteArray) (k:Int) (b:Bool):SV:=.cn (.ex (.string s)) (.cn (.ex (.int .i64 k)) (.cn (.ex (.bool b)) .nl))
theorem plc_R{s:ByteArray}{k:Int}{b:Bool}(η:Eta)(A:Nat->Prop)(w:World):(PLC s k b).R η A w (.tuple #[.string s,.int .i64 k,.bool b]):=
 ⟨.string s,[.int .i64 k,.bool b],rfl,rfl,.int .i64 k,[.bool b],rfl,rfl,.bool b,[],rfl,rfl,rfl⟩
theorem sPlaceNil:CallOK Tryz.prog 23 [.ex (.nilIface)] (.cn (.ex (.string sNo)) (.cn (.ex (.int .i64 0)) (.cn (.ex (.bool false)) (.nl)))) []:=
 .of_raw (zJ Tryz.func23 rfl zk) plc_R λη F w vals hg hA=>by
  match vals,hA with
  | [v0],hA=>obtain rfl:=hA.1;exact Er.place_nil w
theorem sPlaceE{n:Int}:CallOK Tryz.prog 23 [.ex (.iface 63 (.int .i64 n))] (.cn (.ex (.string sNo)) (.cn (.ex (.int .i64 0)) (.cn (.ex (.bool false)) (.nl)))) []:=
 .of_raw (zJ Tryz.func23 rfl zk) plc_R λη F w vals hg hA=>by
  match vals,hA with
  | [v0],hA=>obtain rfl:=hA.1;exact Er.place_E n w (hg _ rfl).2
theorem sPlaceF{s:ByteArray}{k n:Int}:CallOK Tryz.prog 23 [.ifc 113 (.ep (.agg (.cn (.ex (.string s)) (.cn (.ex (.int .i64 k)) (.cn (.ex (.iface 63 (.int .i64 n))) (.nl))))))] (.cn (.ex (.string s)) (.cn (.ex (.int .i64 k)) (.cn (.ex (.bool true)) (.nl)))) []:=
 .of_raw (zJ Tryz.func23 rfl zk) plc_R λη F w vals hg hA=>by
  match vals,hA with
  | [v0],hA=>obtain⟨g,o,rfl,h0,h1,h2⟩:=flt_open hA.1;exact Er.place_F s k n g o w (hg _ rfl).2 h0 h1 h2
theorem sNumberNil:CallOK Tryz.prog 63 [.ex (.nilIface)] (.ex (.int .i64 0)) []:=
 .of_raw (zJ Tryz.func63 rfl zk) (λ_ _ _=>rfl) λη F w vals hg hA=>by
  match vals,hA with
  | [v0],hA=>obtain rfl:=hA.1;exact Er.number_nil w
theorem sNumberE{n:Int}:CallOK Tryz.prog 63 [.ex (.iface 63 (.int .i64 n))] (.ex (.int .i64 n)) []:=
 .of_raw (zJ Tryz.func63 rfl zk) (λ_ _ _=>rfl) λη F w vals hg hA=>by
  match vals,hA with
  | [v0],hA=>obtain rfl:=hA.1;exact Er.number_E n w (hg _ rfl).2
theorem sNumberF{s:ByteArray}{k n:Int}:CallOK Tryz.prog 63 [.ifc 113 (.ep (.agg (.cn (.ex (.string s)) (.cn (.ex (.int .i64 k)) (.cn (.ex (.iface 63 (.int .i64 n))) (.nl))))))] (.ex (.int .i64 n)) []:=
 .of_raw (zJ Tryz.func63 rfl zk) (λ_ _ _=>rfl) λη F w vals hg hA=>by
  match vals,hA with
  | [v0],hA=>obtain⟨g,o,rfl,h0,h1,h2⟩:=flt_open hA.1;exact Er.number_F s k n g o w (hg _ rfl).2 h0 h1 h2
theorem CallOKm.tag0 [Fz]{P:Program}{f:FuncId}{T:TypeId}{a a':SV}{ins outs:List Hl}{A:List SV}{R:SV}{b:Nat}(h:CallOKm P f (.one (.var T a)::ins) A R (.one (.var T a')::outs)):CallOKm P f (.one (.var T a (some b))::ins) A R (.one (.var T a' (some b))::outs):=by
 refine⟨h.cal,λη0 M F w vals H hA=>?_⟩
 obtain⟨H1,hv1⟩:=H.retell (own':=zM 0 (.one (.var T a)::ins)) (λk i o' hk=>by
  rw[kY] at hk⊢
  cases k with
  | zero=>
   cases i with
   | zero=>
    obtain rfl:=Option.some.inj hk
    exact⟨_,rfl,λA h e ⟨b1,v,e1,e2,e3,e4,e5⟩=>⟨b1,v,e1,e2,e3,e4,λb0 hb=>by cases hb⟩⟩
   | succ i=>cases hk
  | succ k=>exact⟨o',hk,λ_ _ _ h=>h⟩) (λk i o hk=>by
  rw[kY] at hk⊢
  cases k with
  | zero=>
   cases i with
   | zero=>exact⟨_,rfl⟩
   | succ i=>cases hk
  | succ k=>exact⟨o,hk⟩) (λk i hk=>by
  rw[kY] at hk⊢
  cases k with
  | zero=>exact hk
  | succ k=>exact hk)
 rw[←hv1] at hA
 refine(h.run η0 M F w vals H1 hA).mono λe w'=>?_
 rintro⟨v,η',rfl,H2,hR,hx⟩
 obtain⟨hd,he,b1,u1,e1,e2,e3,e4,e5⟩:=H.ob 0 0 (.var T a (some b)) rfl
 have hbb:=e5 b rfl
 obtain⟨H3,hv3⟩:=H2.retell (own':=zM 0 (.one (.var T a' (some b))::outs)) (λk i o' hk=>by
  rw[kY] at hk⊢
  cases k with
  | zero=>
   cases i with
   | zero=>
    obtain rfl:=Option.some.inj hk
    refine⟨_,rfl,λA h eh ⟨b2,v2,q1,q2,q3,q4,q5⟩=>⟨b2,v2,q1,q2,q3,q4,λb0 hb=>?_⟩⟩
    have h6:=hx 0 (by simp) 0 h eh
    rw[he] at h6
    have h7:=(Option.some.inj h6).symm
    rw[q1,e1] at h7
    have h8:b2=b1:=by injection h7 with h7;injection h7 with h7;injection h7
    obtain rfl:=Option.some.inj hb
    rw[h8,hbb]
   | succ i=>cases hk
  | succ k=>exact⟨o',hk,λ_ _ _ h=>h⟩) (λk i o hk=>by
  rw[kY] at hk⊢
  cases k with
  | zero=>
   cases i with
   | zero=>exact⟨_,rfl⟩
   | succ i=>cases hk
  | succ k=>exact⟨o,hk⟩) (λk i hk=>by
  rw[kY] at hk⊢
  cases k with
  | zero=>exact hk
  | succ k=>exact hk)
 exact⟨v,η',rfl,H3,by rw[hv3];exact hR,λk hk=>hx k (by simpa using hk)⟩
open Go.RowKit
abbrev bV (a b:Nat) (S:LuS) (n:Nat) (t:Option Nat:=none):OB:=.var 100 (.agg (.cn (.own a 0) (.cn (.ep (lvE S n)) (.cn (.own b 0) .nl)))) t
abbrev eE (e:Etas) (n m:Nat):OB:=.row 108 2 (λi0=>.agg (.cn (iN ((e i0).1)) (.cn (vE (e i0).2 n) .nl))) m
def basX (n:Nat) (D:Nat->Nat->Rat) (v:Nat->Rat) (j:Nat):Rat:=luX n (luS n D n).1 (luS n D n).2.1 (λi=>v ((luS n D n).2.2.1 i)) j
def basY (n:Nat) (D:Nat->Nat->Rat) (v:Nat->Rat) (j:Nat):Rat:=luW n (luS n D n).1 (luS n D n).2.1 v ((luS n D n).2.2.2.1 j)
def etaI (k:Nat) (w x:Nat->Rat) (h j:Nat):Rat:=if j=k then x k/w k else if j<h then x j-w j*(x k/w k) else x j
def etaJ (k:Nat) (w z:Nat->Rat) (h j:Nat):Rat:=if j=k then etaP k w z h else z j
section
variable {k h j n:Nat} {w x z:Nat->Rat}
theorem etaI_put:x k/w k=etaI k w x 0 k:=(if_pos rfl).symm
theorem etaI_zero(e:j≠k):etaI k w x 0 j=x j:=by unfold etaI;rw[if_neg e,if_neg (Nat.not_lt_zero j)]
theorem etaI_self:etaI k w x h k=x k/w k:=if_pos rfl
theorem etaI_here(e:h≠k):etaI k w x h h=x h:=by unfold etaI;rw[if_neg e,if_neg (Nat.lt_irrefl h)]
theorem etaI_at(e:h≠k):etaI k w x h h-w h*etaI k w x h k=etaI k w x (h+1) h:=by
 rw[etaI_here e,etaI_self]
 unfold etaI
 rw[if_neg e,if_pos (Nat.lt_succ_self h)]
theorem etaI_ne(e:j≠h):etaI k w x (h+1) j=etaI k w x h j:=by
 unfold etaI
 by_cases e1:j=k
 ·rw[if_pos e1,if_pos e1]
 ·rw[if_neg e1,if_neg e1]
  by_cases e2:j<h
  ·rw[if_pos e2,if_pos zo]
  ·rw[if_neg e2,if_neg zo]
theorem etaI_skip(e:h=k):etaI k w x h j=etaI k w x (h+1) j:=by
 by_cases e1:j=h
 ·unfold etaI
  rw[if_pos zo,if_pos zo]
 ·exact(etaI_ne e1).symm
theorem etaI_all(hj:j<n):etaI k w x n j=etaX k w x j:=by
 unfold etaI etaX
 by_cases e1:j=k
 ·rw[if_pos e1,if_pos e1]
 ·rw[if_neg e1,if_neg e1,if_pos hj]
theorem eta_div(hx:htq (x k)<=30000)(hw:htq (w k)<=4000):szq (x k)+szq (w k)+1<=17179869184:=by
 have:=kD (x k)
 have:=kD (w k)
 omega
theorem eta_room(e:h≠k)(hx:htq (x k)<=4000)(hw:htq (w k)<=4000)(hx2:htq (x h)<=4000)(hw2:htq (w h)<=4000):szq (w h)+szq (etaI k w x h k)<=17179869184/\szq (etaI k w x h h)+szq (w h*etaI k w x h k)<=17179869184:=by
 rw[etaI_here e,etaI_self]
 have:=ht_div (x k) (w k)
 exact ht_room2 (S:=8000) zo zo zo zd
theorem etaJ_zero:z j=etaJ k w z 0 j:=by
 unfold etaJ etaP
 split
 ·rename_i e;subst e;show z j=z j-0;grind
 ·rfl
theorem kK:etaJ k w z h k=etaP k w z h:=if_pos rfl
theorem etaJ_ne(e:j≠k):etaJ k w z h j=z j:=if_neg e
theorem etaP_at(e:h≠k):etaJ k w z h k-w h*etaJ k w z h h=etaJ k w z (h+1) k:=by
 rw[kK,kK,etaJ_ne e]
 show z k-sumQ _ h-w h*z h=z k-(sumQ _ h+offQ k (λl=>w l*z l) h)
 rw[off_ne e];grind
theorem etaJ_skip(e:h=k):etaJ k w z h j=etaJ k w z (h+1) j:=by
 unfold etaJ
 split
 ·unfold etaP
  show z k-sumQ _ h=z k-(sumQ _ h+offQ k (λl=>w l*z l) h)
  rw[show offQ k (λl=>w l*z l) h=0 by rw[e];exact off_self];grind
 ·rfl
theorem etaJ_div:etaJ k w z n k/w k=etaZ n k w z k:=by rw[kK];exact(if_pos rfl).symm
theorem etaJ_all(e:j≠k):etaZ n k w z j=etaJ k w z n j:=by rw[etaJ_ne e];exact if_neg e
theorem etaP_ht(hz:∀j,j<n->htq (z j)<=20000)(hw:∀j,j<n->htq (w j)<=4000)(hk:k<n):∀h,h<=n->htq (etaP k w z h)<=20000+h*24001
 | 0,_=>by
  unfold etaP
  rw[show z k-sumQ (offQ k λl=>w l*z l) 0=z k by show z k-0=_;grind]
  have:=hz k hk;exact Nat.le_trans this (Nat.le_add_right _ _)
 | h+1,hh=>by
  have ih:=etaP_ht hz hw hk h zo
  by_cases e:h=k
  ·have:=etaJ_skip (j:=k) (w:=w) (z:=z) e
   rw[kK,kK] at this
   rw[←this,Nat.succ_mul];exact Nat.le_trans ih zo
  ·have h1:=etaP_at (w:=w) (z:=z) e
   rw[kK,kK,etaJ_ne e] at h1
   rw[←h1]
   have h2:=ht_sub (etaP k w z h) (w h*z h)
   have h3:=uB (w h) (z h)
   have h4:=hz h zo
   have h5:=hw h zo
   rw[Nat.succ_mul]
   generalize h*24001=T at*
   omega
theorem etaP_room(hz:∀j,j<n->htq (z j)<=20000)(hw:∀j,j<n->htq (w j)<=4000)(hk:k<n)(hn:n<=64)(hh:h<n)(e:h≠k):szq (w h)+szq (etaJ k w z h h)<=17179869184/\szq (etaJ k w z h k)+szq (w h*etaJ k w z h h)<=17179869184:=by
 rw[etaJ_ne e,kK]
 have h1:=etaP_ht hz hw hk h zo
 have h2:=hz h hh
 have h3:=hw h hh
 have h4:h*24001<=64*24001:=Nat.mul_le_mul_right _ zo
 exact ht_room2 (S:=2000000) zo zo zo zd
theorem etaP_div(hz:∀j,j<n->htq (z j)<=20000)(hw:∀j,j<n->htq (w j)<=4000)(hk:k<n)(hn:n<=64):szq (etaJ k w z n k)+szq (w k)+1<=17179869184:=by
 rw[kK]
 have h1:=etaP_ht hz hw hk n (Nat.le_refl n)
 have h2:=hw k hk
 have h4:n*24001<=64*24001:=Nat.mul_le_mul_right _ hn
 have:=kD (etaP k w z n)
 have:=kD (w k)
 omega
end
theorem sMatOfM{D C:Nat->Nat->Rat}{e:Etas}{n m:Nat}(hn:n<=64):CallOKm Tryz.prog 58 [.one (bV 1 2 (luS n D n) n),cC C n,.one (eE e n m)] [iN n,.own 1 0] (c2 (.agg (c2 (.sl 1 (mE C n) n) (iN n))) (bX true)) [.one (bV 3 4 (luS n D n) n),.dead,.dead,cC C n,.one (eE e n m)]:=by
 exact zV (ch:=λB=>[.reg 1 [(3,.callS (c2 (.agg (c2 (.own 0 0) (iN n))) (bX true)) [.one (.row 33 1 (λi0=>.own 1 i0) n),.fam n (λ_=>.row 47 3 (λ_=>.rat 0) n)])],.dec 18 false,.loop 5 (Nat) (λg=>g<=n) (λg=>n-g) (λg=>⟨[(0,iN n),(4,.own 3 0),(6,.own 6 0),(20,.own 1 0),(21,iN n),(22,iN g)],[(0,.one (bV 1 2 (luS n D n) n (some (B 0)))),(1,cC C n),(2,.one (eE e n m)),(3,.one (.var 53 (.ex (.agg #[.slice none 0 0,.int .i64 0])))),(4,.one (.row 33 1 (λi0=>.own 5 i0) n)),(5,.fam n (λi0=>.row 47 3 (λi1=>.rat (yF g C i0 i1)) n)),(6,.one (.var 53 (.agg (c2 (.own 4 0) (iN n)))))],7⟩) [(0,.id 0),(1,.id 1),(2,.id 2),(3,.id 3),(4,.id 4),(5,.id 5),(6,.id 6)] (λ_=>[(0,.id 0),(1,.id 1),(2,.id 2),(3,.id 3),(4,.id 4),(5,.id 5),(6,.id 6)]) (λg=>[.reg 6 [(1,.k g)],.dec 30 false,.reg 9 [(3,.k g),(6,.rowF (λi0=>.rat (yF (g+1) C g i0)) (λi0=>.row 47 3 (λi1=>.rat (yF (g+1) C i0 i1)) n))],.reg 10 [(0,.z ((g+1:Nat):Int))],.ret 11 [(0,.id 0),(3,.id 1),(4,.id 2)]])]) hMix Tryz.func58 rfl zk zk zk (λB=>_/\((!true)=false)/\(((λX1 X2 X3 X4 X5 X6 X7 X8 X9 X10 X11 X12 X13 X14 X15 X16 X17 X18 X19 X20 X21 X22 X23:Prop=>∃g0:Nat,X1/\X2/\X3/\X4/\X5/\((0:Int)=(g0:Int))/\X6/\X7/\X8/\X9/\X10/\X11/\X12/\X13/\X14/\X15/\X16/\X17/\X18/\X19/\((.agg #[.slice none 0 0,.int .i64 0]:Value)=.agg #[.slice none 0 0,.int .i64 0])/\X20/\(∀j0,j0<n->((j0:Nat)=j0))/\X21/\(∀j0,j0<n->((n:Nat)=n)/\(∀j1,j1<n->((0:Rat)=(yF g0 C j0 j1))))/\X22/\X23/\(g0<=n)) _ _ _ _ _ _ _ _ _ _ _ _ _ _ _ _ _ _ _ _ _ _ _)/\∀g:Nat,(g<=n)->(((decide ((g:Int)<(n:Int)))=true->_/\(g<n)/\(g<n)/\((!decide ((n:Int)=(n:Int)))=false)/\_/\(g<n)/\(g<n)/\(n<=n)/\(∀j0,j0<n->n<=j0->(.rat (yF (g+1) C g j0):SV)=.rat (yF g C g j0))/\(∀j0,j0<n->((C g j0:Rat)=(yF (g+1) C g j0)))/\(g<n)/\((.row 47 3 (λi0=>.rat (yF (g+1) C g i0)) n:OB)=.row 47 3 (λi0=>.rat (yF (g+1) C g i0)) n)/\(∀t,t<n->t≠g->(.row 47 3 (λi0=>.rat (yF (g+1) C t i0)) n:OB)=.row 47 3 (λi0=>.rat (yF g C t i0)) n)/\_/\((λX1 X2 X3 X4 X5 X6 X7 X8 X9 X10 X11 X12 X13 X14 X15 X16 X17 X18 X19 X20 X21 X22 X23:Prop=>∃g1:Nat,X1/\X2/\X3/\X4/\X5/\(((g+1:Nat):Int)=(g1:Int))/\X6/\X7/\X8/\X9/\X10/\X11/\X12/\X13/\X14/\X15/\X16/\X17/\X18/\X19/\((.agg #[.slice none 0 0,.int .i64 0]:Value)=.agg #[.slice none 0 0,.int .i64 0])/\X20/\(∀j0,j0<n->((j0:Nat)=j0))/\X21/\(∀j0,j0<n->((n:Nat)=n)/\(∀j1,j1<n->((yF (g+1) C j0 j1:Rat)=(yF g1 C j0 j1))))/\X22/\X23/\(g1<=n)/\(n-g1<n-g)) _ _ _ _ _ _ _ _ _ _ _ _ _ _ _ _ _ _ _ _ _ _ _))/\((decide ((g:Int)<(n:Int)))=false->(_/\(∀j0,j0<n->((n:Nat)=n)/\(∀j1,j1<n->((yF g C j0 j1:Rat)=(C j0 j1)))/\(j0<n))/\_/\_/\_/\_/\_/\_/\_/\_/\_/\_/\_/\_/\_/\_/\_/\_))))) (λB=>by kernel_rfl)
  (λB=>⟨sMatNew (m:=n) (n:=n) zo zo,rfl,⟨0,(rf (n:Int)),(rf 0),(rf 0),(rf 0),(rf (n:Int)),zo,(rf (some (B 0))),(rf 0),(rf n),(leS (mE (luS n D n).2.1 n) n),(rf n),(leS (mE ((luS n D n).1) n) n),(rf n),(leS (λi0=>iN ((luS n D n).2.2.1 i0)) n),(rf ((luS n D n).2.2.2.2:Bool)),(rf 0),(rf n),(leS (mE C n) n),(rf m),(leS (λi0=>.agg (c2 (iN ((e i0).1)) (vE (e i0).2 n))) m),rfl,(rf n),(λj0 hj0=>rfl),(rf n),(λj0 hj0=>⟨rfl,(λj1 hj1=>(by rw[uptoR_zero]))⟩),(rf 0),(rf (n:Int)),zo⟩,λg hg=>⟨λhc23=>have hc23:=dT hc23;⟨(rf (g:Int)),zo,zo,zs,(rf (g:Int)),zo,zo,zo,(λj0 hj0 hm=>absurd hj0 (Nat.not_lt.2 hm)),(λj0 hj0=>(by rw[uptoR_at])),zo,rfl,(λt ht hne=>by simp only[uptoR_ne hne]),(wI (g:=g) zo),g+1,(rf (n:Int)),(rf 0),(rf 0),(rf 0),(rf (n:Int)),zo,(rf (some (B 0))),(rf 0),(rf n),(leS (mE (luS n D n).2.1 n) n),(rf n),(leS (mE ((luS n D n).1) n) n),(rf n),(leS (λi0=>iN ((luS n D n).2.2.1 i0)) n),(rf ((luS n D n).2.2.2.2:Bool)),(rf 0),(rf n),(leS (mE C n) n),(rf m),(leS (λi0=>.agg (c2 (iN ((e i0).1)) (vE (e i0).2 n))) m),rfl,(rf n),(λj0 hj0=>rfl),(rf n),(λj0 hj0=>⟨rfl,(λj1 hj1=>rfl)⟩),(rf 0),(rf (n:Int)),zo,zo⟩,λhc23=>have hc23:=dF hc23;have hi2:g=n:=zo;⟨(rf n),(λj0 hj0=>⟨rfl,(λj1 hj1=>(by rw[hi2];exact uptoR_all zo)),zo⟩),(rf (n:Int)),(rf (true:Bool)),(rf (some (B 0))),(rf 0),(rf n),(leS (mE (luS n D n).2.1 n) n),(rf n),(leS (mE ((luS n D n).1) n) n),(rf n),(leS (λi0=>iN ((luS n D n).2.2.1 i0)) n),(rf ((luS n D n).2.2.2.2:Bool)),(rf 0),(rf n),(leS (mE C n) n),(rf m),(leS (λi0=>.agg (c2 (iN ((e i0).1)) (vE (e i0).2 n))) m)⟩⟩⟩)
theorem sBMatrix{D C:Nat->Nat->Rat}{e:Etas}{n m:Nat}(hn:n<=64):CallOKm Tryz.prog 21 [.one (bV 1 2 (luS n D n) n),cC C n,.one (eE e n m)] [.own 0 0] (.agg (c2 (.sl 1 (mE (trM C) n) n) (iN n))) [.one (bV 3 4 (luS n D n) n),.dead,.dead,cC C n,.one (eE e n m)]:=by
 exact zV (ch:=λB=>[.reg 1 [(9,.callM [0,1,2] [.one (bV 1 2 (luS n D n) n (some (B 0))),cC C n,.one (eE e n m)] [iN n,.own 1 0] (c2 (.agg (c2 (.sl 1 (mE C n) n) (iN n))) (bX true)) [.one (bV 3 4 (luS n D n) n (some (B 0))),.dead,.dead,cC C n,.one (eE e n m)])],.reg 2 [(1,.callS (.agg (c2 (.sl 1 (λi0=>.sl 3 (λi1=>.rat (C i1 i0)) n) n) (iN n))) [])],.ret 2 [(0,.id 0),(3,.id 4),(4,.id 5)]]) hMix Tryz.func21 rfl zk zk zk (λB=>(CallOKm Tryz.prog 58 [.one (bV 1 2 (luS n D n) n (some (B 0))),cC C n,.one (eE e n m)] [iN n,.own 1 0] (c2 (.agg (c2 (.sl 1 (mE C n) n) (iN n))) (bX true)) [.one (bV 3 4 (luS n D n) n (some (B 0))),.dead,.dead,cC C n,.one (eE e n m)])/\_/\_/\_/\_/\_/\_/\_/\(_/\(∀j0,j0<n->((n:Nat)=n)/\(∀j1,j1<n->((C j1 j0:Rat)=((trM C) j0 j1))))/\_/\_/\_/\_/\_/\_/\_/\_/\_/\_/\_/\_/\_/\_/\_)) (λB=>by kernel_rfl)
  (λB=>⟨((sMatOfM (D:=D) (C:=C) (e:=e) (m:=m) (n:=n) zo)).tag0 (b:=B 0),(rf (.one (bV 1 2 (luS n D n) n (some (B 0))):Hl)),(rf (cC C n:Hl)),(rf (.one (eE e n m):Hl)),(rf (n:Int)),(rf 1),(rf 0),sMatTurned (m:=n) (n:=n) (q:=C) zo zo,(rf n),(λj0 hj0=>⟨rfl,(λj1 hj1=>rfl)⟩),(rf (n:Int)),(rf (some (B 0))),(rf 0),(rf n),(leS (mE (luS n D n).2.1 n) n),(rf n),(leS (mE ((luS n D n).1) n) n),(rf n),(leS (λi0=>iN ((luS n D n).2.2.1 i0)) n),(rf ((luS n D n).2.2.2.2:Bool)),(rf 0),(rf n),(leS (mE C n) n),(rf m),(leS (λi0=>.agg (c2 (iN ((e i0).1)) (vE (e i0).2 n))) m)⟩)
theorem sBSize{D C:Nat->Nat->Rat}{e:Etas}{n m:Nat}:CallOKm Tryz.prog 11 [.one (bV 1 2 (luS n D n) n),cC C n,.one (eE e n m)] [.own 0 0] (iN n) [.one (bV 3 4 (luS n D n) n),.dead,.dead,cC C n,.one (eE e n m)]:=by
 exact zV (ch:=λB=>[.ret 1 [(0,.id 0),(3,.id 1),(4,.id 2)]]) hMix Tryz.func11 rfl zk zk zk (λB=>(_/\_/\_/\_/\_/\_/\_/\_/\_/\_/\_/\_/\_/\_/\_)) (λB=>by kernel_rfl)
  (λB=>⟨(rf (n:Int)),(rf (some (B 0))),(rf 0),(rf n),(leS (mE (luS n D n).2.1 n) n),(rf n),(leS (mE ((luS n D n).1) n) n),(rf n),(leS (λi0=>iN ((luS n D n).2.2.1 i0)) n),(rf ((luS n D n).2.2.2.2:Bool)),(rf 0),(rf n),(leS (mE C n) n),(rf m),(leS (λi0=>.agg (c2 (iN ((e i0).1)) (vE (e i0).2 n))) m)⟩)
theorem sBEtas{D C:Nat->Nat->Rat}{e:Etas}{n m:Nat}:CallOKm Tryz.prog 14 [.one (bV 1 2 (luS n D n) n),cC C n,.one (eE e n m)] [.own 0 0] (iN m) [.one (bV 3 4 (luS n D n) n),.dead,.dead,cC C n,.one (eE e n m)]:=by
 exact zV (ch:=λB=>[.ret 1 [(0,.id 0),(3,.id 1),(4,.id 2)]]) hMix Tryz.func14 rfl zk zk zk (λB=>(_/\_/\_/\_/\_/\_/\_/\_/\_/\_/\_/\_/\_/\_/\_)) (λB=>by kernel_rfl)
  (λB=>⟨(rf (m:Int)),(rf (some (B 0))),(rf 0),(rf n),(leS (mE (luS n D n).2.1 n) n),(rf n),(leS (mE ((luS n D n).1) n) n),(rf n),(leS (λi0=>iN ((luS n D n).2.2.1 i0)) n),(rf ((luS n D n).2.2.2.2:Bool)),(rf 0),(rf n),(leS (mE C n) n),(rf m),(leS (λi0=>.agg (c2 (iN ((e i0).1)) (vE (e i0).2 n))) m)⟩)
theorem sBColumn{D C:Nat->Nat->Rat}{e:Etas}{n m k:Nat}(hn:n<=64)(hk:k<n):CallOKm Tryz.prog 12 [.one (bV 1 2 (luS n D n) n),cC C n,.one (eE e n m)] [.own 0 0,iN k] (c2 (.sl 3 (λi0=>.rat (C k i0)) n) (bX true)) [.one (bV 3 4 (luS n D n) n),.dead,.dead,cC C n,.one (eE e n m)]:=by
 exact zV (ch:=λB=>[.dec 16 false,.reg 3 [(5,.k k),(7,.callS (.sl 3 (λi0=>.rat (C k i0)) n) [])],.ret 3 [(0,.id 0),(3,.id 1),(4,.id 2)]]) hMix Tryz.func12 rfl zk zk zk (λB=>_/\_/\_/\_/\_/\_/\((!(decide ((k:Int)<0)))=true->((decide ((k:Int)<0))==false)=true)/\((bif (decide ((k:Int)<0)) then true else(decide ((n:Int)<=(k:Int))))=false)/\_/\(k<n)/\(k<n)/\_/\(_/\_/\_/\_/\_/\_/\_/\_/\_/\_/\_/\_/\_/\_/\_/\_/\_)) (λB=>by kernel_rfl)
  (λB=>⟨(idB ((decide ((k:Int)<0))==false)),(idB ((decide ((k:Int)<0))==false)),(idB ((decide ((k:Int)<0))==false)),(idB ((decide ((k:Int)<0))==false)),(idB ((decide ((k:Int)<0))==false)),(idB ((decide ((k:Int)<0))==false)),zs,(by simp;omega),(rf (k:Int)),zo,zo,(xS (n:=n) (q:=(λi=>C k i)) zo).frzV,(rf n),(leS (λi0=>.rat (C k i0)) n),(rf (true:Bool)),(rf (some (B 0))),(rf 0),(rf n),(leS (mE (luS n D n).2.1 n) n),(rf n),(leS (mE ((luS n D n).1) n) n),(rf n),(leS (λi0=>iN ((luS n D n).2.2.1 i0)) n),(rf ((luS n D n).2.2.2.2:Bool)),(rf 0),(rf n),(leS (mE C n) n),(rf m),(leS (λi0=>.agg (c2 (iN ((e i0).1)) (vE (e i0).2 n))) m)⟩)
open Go.RowKit
theorem sBSolve{D C:Nat->Nat->Rat}{e:Etas}{n m:Nat}{v:Nat->Rat}(hn:n<=6)(hok:luOK n D n)(hD:HtB n n 3 D)(H:EtaOK n e m)(hw:∀t,t<m->∀j,j<n->htq ((e t).2 j)<=4000)(hm:m<=64)(hv:∀j,j<n->htq (v j)<=3)(hx:∀t,t<=m->∀j,j<n->htq (zD (basX n D v) e t j)<=4000):CallOKm Tryz.prog 17 [.one (bV 1 2 (luS n D n) n),cC C n,.one (eE e n m)] [.own 0 0,.sl 3 (λi0=>.rat (v i0)) n] (c2 (.own 5 0) (bX true)) [.one (bV 3 4 (luS n D n) n),.dead,.dead,cC C n,.one (eE e n m),.one (.row 47 3 (λi0=>.rat (zD (basX n D v) e m i0)) n)]:=by
 exact zV (ch:=λB=>[.reg 1 [(5,.callS (c2 (.own 0 0) (bX true)) [.one (.row 47 3 (λi0=>.rat (luX n (luS n D n).1 (luS n D n).2.1 (λi=>v ((luS n D n).2.2.1 i)) i0)) n)])],.dec 21 false,.conv 4 [(0,.id 0),(1,.id 1),(2,.id 2),(3,.id 3)] ⟨[(0,.own 0 0),(6,.own 3 0)],[(0,.one (bV 1 2 (luS n D n) n (some (B 0)))),(1,cC C n),(2,.one (eE e n m)),(3,.one (.row 47 3 (λi0=>.rat ((zD (basX n D v) e 0) i0)) n))],4⟩,.loop 5 (Nat) (λg=>g<=m) (λg=>m-g) (λg=>⟨[(6,.own 3 0),(25,.own 2 0),(26,iN m),(27,iN g)],[(0,.one (bV 1 2 (luS n D n) n (some (B 0)))),(1,cC C n),(2,.one (eE e n m)),(3,.one (.row 47 3 (λi0=>.rat ((zD (basX n D v) e g) i0)) n))],4⟩) [(0,.id 0),(1,.id 1),(2,.id 2),(3,.id 3)] (λ_=>[(0,.id 0),(1,.id 1),(2,.id 2),(3,.id 3)]) (λg=>[.reg 6 [(0,.k g)],.reg 7 [(6,.k ((e g).1)),(12,.k ((e g).1)),(14,.callS (c2 (.rat (((zD (basX n D v) e g) ((e g).1))/((e g).2 ((e g).1)))) (bX (!decide (((e g).2 ((e g).1))=0)))) []),(18,.k ((e g).1)),(19,.row 0 (λi0=>.rat (etaI (e g).1 (e g).2 (zD (basX n D v) e g) 0 i0)))],.loop 9 (Nat) (λh=>h<=n) (λh=>n-h) (λh=>⟨[(6,.own 3 0),(25,.own 2 0),(26,iN m),(9,.own 4 0),(27,iN g),(51,iN n),(52,iN h)],[(0,.one (bV 1 2 (luS n D n) n (some (B 0)))),(1,cC C n),(2,.one (eE e n m)),(3,.one (.row 47 3 (λi0=>.rat (etaI (e g).1 (e g).2 (zD (basX n D v) e g) h i0)) n)),(4,.one (.var 108 (.agg (c2 (iN ((e g).1)) (vE (e g).2 n)))))],5⟩) [(0,.id 0),(1,.id 1),(2,.id 2),(3,.id 3),(4,.id 4)] (λ_=>[(0,.id 0),(1,.id 1),(2,.id 2),(3,.id 3),(4,.id 4)]) (λh=>[.reg 12 [(4,.k h),(9,.k h),(14,.k ((e g).1)),(16,.callS (.rat (((e g).2 h)*(etaI (e g).1 (e g).2 (zD (basX n D v) e g) h ((e g).1)))) []),(17,.callS (.rat ((etaI (e g).1 (e g).2 (zD (basX n D v) e g) h h)-(((e g).2 h)*(etaI (e g).1 (e g).2 (zD (basX n D v) e g) h ((e g).1))))) []),(18,.k h),(19,.row 0 (λi0=>.rat (etaI (e g).1 (e g).2 (zD (basX n D v) e g) (h+1) i0)))],.reg 13 [(0,.z ((h+1:Nat):Int))],.reg 13 [(0,.z ((h+1:Nat):Int))],.reg 14 [(0,.z ((g+1:Nat):Int))]]),.ret 15 [(0,.id 0),(3,.id 1),(4,.id 2),(5,.id 3)]])]) hMix Tryz.func17 rfl zk zk zk (λB=>_/\((!true)=false)/\_/\_/\_/\_/\_/\_/\_/\_/\_/\_/\_/\_/\_/\_/\_/\_/\_/\(∀j0,j0<n->((luX n (luS n D n).1 (luS n D n).2.1 (λi=>v ((luS n D n).2.2.1 i)) j0:Rat)=((zD (basX n D v) e 0) j0)))/\(((λX1 X2 X3 X4 X5 X6 X7 X8 X9 X10 X11 X12 X13 X14 X15 X16 X17 X18:Prop=>∃g0:Nat,X1/\X2/\X3/\((0:Int)=(g0:Int))/\X4/\X5/\X6/\X7/\X8/\X9/\X10/\X11/\X12/\X13/\X14/\X15/\X16/\X17/\X18/\(∀j0,j0<n->(((zD (basX n D v) e 0) j0:Rat)=((zD (basX n D v) e g0) j0)))/\(g0<=m)) _ _ _ _ _ _ _ _ _ _ _ _ _ _ _ _ _ _)/\∀g:Nat,(g<=m)->(((decide ((g:Int)<(m:Int)))=true->_/\(g<m)/\(g<m)/\_/\(((e g).1)<n)/\(((e g).1)<n)/\_/\(((e g).1)<n)/\_/\_/\(((e g).1)<n)/\(((e g).1)<n)/\(((((zD (basX n D v) e g) ((e g).1))/((e g).2 ((e g).1)):Rat)=(etaI (e g).1 (e g).2 (zD (basX n D v) e g) 0 ((e g).1))))/\(∀t,t<n->t≠((e g).1)->(.rat (etaI (e g).1 (e g).2 (zD (basX n D v) e g) 0 t):SV)=.rat ((zD (basX n D v) e g) t))/\(((λX1 X2 X3 X4 X5 X6 X7 X8 X9 X10 X11 X12 X13 X14 X15 X16 X17 X18 X19 X20 X21 X22 X23 X24:Prop=>∃h0:Nat,X1/\X2/\X3/\X4/\X5/\X6/\((0:Int)=(h0:Int))/\X7/\X8/\X9/\X10/\X11/\X12/\X13/\X14/\X15/\X16/\X17/\X18/\X19/\X20/\X21/\(∀j0,j0<n->((etaI (e g).1 (e g).2 (zD (basX n D v) e g) 0 j0:Rat)=(etaI (e g).1 (e g).2 (zD (basX n D v) e g) h0 j0)))/\X22/\X23/\X24/\(h0<=n)) _ _ _ _ _ _ _ _ _ _ _ _ _ _ _ _ _ _ _ _ _ _ _ _)/\∀h:Nat,(h<=n)->(((decide ((h:Int)<(n:Int)))=true->(((!decide ((h:Int)=(((e g).1:Nat):Int)))=true->_/\(h<n)/\(h<n)/\_/\(h<n)/\_/\(((e g).1)<n)/\(((e g).1)<n)/\_/\_/\_/\(h<n)/\(h<n)/\((((etaI (e g).1 (e g).2 (zD (basX n D v) e g) h h)-(((e g).2 h)*(etaI (e g).1 (e g).2 (zD (basX n D v) e g) h ((e g).1))):Rat)=(etaI (e g).1 (e g).2 (zD (basX n D v) e g) (h+1) h)))/\(∀t,t<n->t≠h->(.rat (etaI (e g).1 (e g).2 (zD (basX n D v) e g) (h+1) t):SV)=.rat (etaI (e g).1 (e g).2 (zD (basX n D v) e g) h t))/\_/\((λX1 X2 X3 X4 X5 X6 X7 X8 X9 X10 X11 X12 X13 X14 X15 X16 X17 X18 X19 X20 X21 X22 X23 X24:Prop=>∃h1:Nat,X1/\X2/\X3/\X4/\X5/\X6/\(((h+1:Nat):Int)=(h1:Int))/\X7/\X8/\X9/\X10/\X11/\X12/\X13/\X14/\X15/\X16/\X17/\X18/\X19/\X20/\X21/\(∀j0,j0<n->((etaI (e g).1 (e g).2 (zD (basX n D v) e g) (h+1) j0:Rat)=(etaI (e g).1 (e g).2 (zD (basX n D v) e g) h1 j0)))/\X22/\X23/\X24/\(h1<=n)/\(n-h1<n-h)) _ _ _ _ _ _ _ _ _ _ _ _ _ _ _ _ _ _ _ _ _ _ _ _))/\((!decide ((h:Int)=(((e g).1:Nat):Int)))=false->_/\((λX1 X2 X3 X4 X5 X6 X7 X8 X9 X10 X11 X12 X13 X14 X15 X16 X17 X18 X19 X20 X21 X22 X23 X24:Prop=>∃h1:Nat,X1/\X2/\X3/\X4/\X5/\X6/\(((h+1:Nat):Int)=(h1:Int))/\X7/\X8/\X9/\X10/\X11/\X12/\X13/\X14/\X15/\X16/\X17/\X18/\X19/\X20/\X21/\(∀j0,j0<n->((etaI (e g).1 (e g).2 (zD (basX n D v) e g) h j0:Rat)=(etaI (e g).1 (e g).2 (zD (basX n D v) e g) h1 j0)))/\X22/\X23/\X24/\(h1<=n)/\(n-h1<n-h)) _ _ _ _ _ _ _ _ _ _ _ _ _ _ _ _ _ _ _ _ _ _ _ _))))/\((decide ((h:Int)<(n:Int)))=false->_/\((λX1 X2 X3 X4 X5 X6 X7 X8 X9 X10 X11 X12 X13 X14 X15 X16 X17 X18:Prop=>∃g1:Nat,X1/\X2/\X3/\(((g+1:Nat):Int)=(g1:Int))/\X4/\X5/\X6/\X7/\X8/\X9/\X10/\X11/\X12/\X13/\X14/\X15/\X16/\X17/\X18/\(∀j0,j0<n->((etaI (e g).1 (e g).2 (zD (basX n D v) e g) h j0:Rat)=((zD (basX n D v) e g1) j0)))/\(g1<=m)/\(m-g1<m-g)) _ _ _ _ _ _ _ _ _ _ _ _ _ _ _ _ _ _)))))/\((decide ((g:Int)<(m:Int)))=false->(_/\_/\_/\_/\_/\_/\_/\_/\_/\_/\_/\_/\_/\_/\_/\_/\_/\(∀j0,j0<n->(((zD (basX n D v) e g) j0:Rat)=(zD (basX n D v) e m j0)))))))) (λB=>by kernel_rfl)
  (λB=>⟨(sLuSolve (U:=(luS n D n).1) (L:=(luS n D n).2.1) (o:=(luS n D n).2.2.2.2) (n:=n) (b:=v) (P:=(luS n D n).2.2.1) hn (lu_bij n (Nat.le_refl n) hok).lt (lu_hL hD hn hok) (lu_hU hD hn hok) (λj hj=>Nat.le_trans (hv j hj) zd)),rfl,(rf 0),(rf 0),(rf (some (B 0))),(rf 0),(rf n),(leS (mE (luS n D n).2.1 n) n),(rf n),(leS (mE ((luS n D n).1) n) n),(rf n),(leS (λi0=>iN ((luS n D n).2.2.1 i0)) n),(rf ((luS n D n).2.2.2.2:Bool)),(rf 0),(rf n),(leS (mE C n) n),(rf m),(leS (λi0=>.agg (c2 (iN ((e i0).1)) (vE (e i0).2 n))) m),(rf n),(λj0 hj0=>rfl),⟨0,(rf 0),(rf 0),(rf (m:Int)),zo,(rf (some (B 0))),(rf 0),(rf n),(leS (mE (luS n D n).2.1 n) n),(rf n),(leS (mE ((luS n D n).1) n) n),(rf n),(leS (λi0=>iN ((luS n D n).2.2.1 i0)) n),(rf ((luS n D n).2.2.2.2:Bool)),(rf 0),(rf n),(leS (mE C n) n),(rf m),(leS (λi0=>.agg (c2 (iN ((e i0).1)) (vE (e i0).2 n))) m),(rf n),(λj0 hj0=>rfl),zo⟩,λg hg=>⟨λhc28=>have hc28:=dT hc28;have hgm:g<m:=zo;have hk:=H.at_ g hgm;have hdv:=eta_div (Nat.le_trans (hx g zo _ hk) zd) (hw g hgm _ hk);⟨(rf (g:Int)),zo,zo,(rf (((e g).1:Nat):Int)),zo,zo,(rf (((e g).1:Nat):Int)),zo,sRatDiv (p:=(zD (basX n D v) e g) ((e g).1)) (q:=(e g).2 ((e g).1)) hdv,(rf (((e g).1:Nat):Int)),zo,zo,etaI_put,(λt ht hne=>by rw[etaI_zero hne]),⟨0,(rf 0),(rf 0),(rf (m:Int)),(rf 0),(rf (g:Int)),(rf (n:Int)),zo,(rf (some (B 0))),(rf 0),(rf n),(leS (mE (luS n D n).2.1 n) n),(rf n),(leS (mE ((luS n D n).1) n) n),(rf n),(leS (λi0=>iN ((luS n D n).2.2.1 i0)) n),(rf ((luS n D n).2.2.2.2:Bool)),(rf 0),(rf n),(leS (mE C n) n),(rf m),(leS (λi0=>.agg (c2 (iN ((e i0).1)) (vE (e i0).2 n))) m),(rf n),(λj0 hj0=>rfl),(rf (((e g).1:Nat):Int)),(rf n),(leS (λi0=>.rat ((e g).2 i0)) n),zo⟩,λh hh=>⟨λhc53=>have hc53:=dT hc53;have hhn:h<n:=zo;⟨λhc58=>have hne:h≠(e g).1:=(by simp at hc58;omega);have hr:=eta_room hne (hx g zo _ hk) (hw g hgm _ hk) (hx g zo h hhn) (hw g hgm h hhn);⟨(rf (h:Int)),zo,zo,(rf (h:Int)),zo,(rf (((e g).1:Nat):Int)),zo,zo,jP (p:=(e g).2 h) (q:=etaI (e g).1 (e g).2 (zD (basX n D v) e g) h ((e g).1)) hr.1,sRatSub (p:=etaI (e g).1 (e g).2 (zD (basX n D v) e g) h h) (q:=((e g).2 h)*(etaI (e g).1 (e g).2 (zD (basX n D v) e g) h ((e g).1))) hr.2,(rf (h:Int)),zo,zo,(etaI_at hne),(λt ht hne=>by rw[etaI_ne hne]),(wI (g:=h) zo),h+1,(rf 0),(rf 0),(rf (m:Int)),(rf 0),(rf (g:Int)),(rf (n:Int)),zo,(rf (some (B 0))),(rf 0),(rf n),(leS (mE (luS n D n).2.1 n) n),(rf n),(leS (mE ((luS n D n).1) n) n),(rf n),(leS (λi0=>iN ((luS n D n).2.2.1 i0)) n),(rf ((luS n D n).2.2.2.2:Bool)),(rf 0),(rf n),(leS (mE C n) n),(rf m),(leS (λi0=>.agg (c2 (iN ((e i0).1)) (vE (e i0).2 n))) m),(rf n),(λj0 hj0=>(by first | rfl | exact etaI_skip hne)),(rf (((e g).1:Nat):Int)),(rf n),(leS (λi0=>.rat ((e g).2 i0)) n),zo,zo⟩,λhc58=>have hne:h=(e g).1:=(by simp at hc58;omega);⟨(wI (g:=h) zo),h+1,(rf 0),(rf 0),(rf (m:Int)),(rf 0),(rf (g:Int)),(rf (n:Int)),zo,(rf (some (B 0))),(rf 0),(rf n),(leS (mE (luS n D n).2.1 n) n),(rf n),(leS (mE ((luS n D n).1) n) n),(rf n),(leS (λi0=>iN ((luS n D n).2.2.1 i0)) n),(rf ((luS n D n).2.2.2.2:Bool)),(rf 0),(rf n),(leS (mE C n) n),(rf m),(leS (λi0=>.agg (c2 (iN ((e i0).1)) (vE (e i0).2 n))) m),(rf n),(λj0 hj0=>(by first | rfl | exact etaI_skip hne)),(rf (((e g).1:Nat):Int)),(rf n),(leS (λi0=>.rat ((e g).2 i0)) n),zo,zo⟩⟩,λhc53=>have hc53:=dF hc53;have hi3:h=n:=zo;⟨(wI (g:=g) zo),g+1,(rf 0),(rf 0),(rf (m:Int)),zo,(rf (some (B 0))),(rf 0),(rf n),(leS (mE (luS n D n).2.1 n) n),(rf n),(leS (mE ((luS n D n).1) n) n),(rf n),(leS (λi0=>iN ((luS n D n).2.2.1 i0)) n),(rf ((luS n D n).2.2.2.2:Bool)),(rf 0),(rf n),(leS (mE C n) n),(rf m),(leS (λi0=>.agg (c2 (iN ((e i0).1)) (vE (e i0).2 n))) m),(rf n),(λj0 hj0=>(by rw[hi3];exact etaI_all (by assumption))),zo,zo⟩⟩⟩,λhc28=>have hc28:=dF hc28;have hi2:g=m:=zo;⟨(rf 0),(rf (true:Bool)),(rf (some (B 0))),(rf 0),(rf n),(leS (mE (luS n D n).2.1 n) n),(rf n),(leS (mE ((luS n D n).1) n) n),(rf n),(leS (λi0=>iN ((luS n D n).2.2.1 i0)) n),(rf ((luS n D n).2.2.2.2:Bool)),(rf 0),(rf n),(leS (mE C n) n),(rf m),(leS (λi0=>.agg (c2 (iN ((e i0).1)) (vE (e i0).2 n))) m),(rf n),(λj0 hj0=>(by rw[hi2]))⟩⟩⟩)
theorem sBSolve_no{D C:Nat->Nat->Rat}{e:Etas}{n m:Nat}{v:Nat->Rat}{l:Nat}(h:l≠n):CallOKm Tryz.prog 17 [.one (bV 1 2 (luS n D n) n),cC C n,.one (eE e n m)] [.own 0 0,.sl 3 (λi0=>.rat (v i0)) l] (c2 (.sl 3 (λ_=>.rat 0) 0) (bX false)) [.one (bV 3 4 (luS n D n) n),.dead,.dead,cC C n,.one (eE e n m)]:=by
 exact zV (ch:=λB=>[.reg 1 [(5,.callS (c2 (.sl 3 (λ_=>.rat 0) 0) (bX false)) [])],.dec 21 true,.ret 3 [(0,.id 0),(3,.id 1),(4,.id 2)]]) hMix Tryz.func17 rfl zk zk zk (λB=>_/\((!false)=true)/\(_/\_/\_/\_/\_/\_/\_/\_/\_/\_/\_/\_/\_/\_/\_/\_)) (λB=>by kernel_rfl)
  (λB=>⟨(sLuSolve_no (U:=(luS n D n).1) (L:=(luS n D n).2.1) (P:=(luS n D n).2.2.1) (o:=(luS n D n).2.2.2.2) (n:=n) (k:=l) (b:=v) h),rfl,(rf 0),(rf (false:Bool)),(rf (some (B 0))),(rf 0),(rf n),(leS (mE (luS n D n).2.1 n) n),(rf n),(leS (mE ((luS n D n).1) n) n),(rf n),(leS (λi0=>iN ((luS n D n).2.2.1 i0)) n),(rf ((luS n D n).2.2.2.2:Bool)),(rf 0),(rf n),(leS (mE C n) n),(rf m),(leS (λi0=>.agg (c2 (iN ((e i0).1)) (vE (e i0).2 n))) m)⟩)
end Go.Proofs.YtgighdoacajmfaaGreatDoor
