/- The parts SRM, SR, SR2, SR3, SR5, SK, SX, SIR, SE2, Eta, Err, Err2, BA, BF, BE, BN, BG, BC. -/
import Derived.Test.YtgighdoacajmfaaGreatDoorQ5
set_option maxRecDepth 100000
namespace Go.Proofs.YtgighdoacajmfaaGreatDoor
def dg (x i:Nat):Nat:=x/2^(16*i)%65536
def nd (x:Nat):Nat:=(Wd.blen x+15)/16
theorem nd_le(x k:Nat):nd x<=k↔x<2^(16*k):=by
 rw[←Wd.blen_le];unfold nd;omega
theorem lt_nd(x:Nat):x<2^(16*nd x):=(nd_le x _).1 (Nat.le_refl _)
theorem kM{x n:Nat}(h:nd x<=n):x<2^(16*n):=(nd_le x n).1 h
theorem kT(x:Nat):nd x=0↔x=0:=by
 constructor
 ·intro h
  have:=(nd_le x 0).1 zo
  simpa using this
 ·rintro rfl;rfl
theorem p16(n:Nat):2^(16*(n+1))=65536*2^(16*n):=by
 rw[show 16*(n+1)=16+16*n by omega,Nat.pow_add]
theorem jC(n:Nat):0<2^(16*n):=Nat.pow_pos zd
theorem dg_lt(x i:Nat):dg x i<65536:=Nat.mod_lt _ zd
theorem dg_zero{x i:Nat}(h:x<2^(16*i)):dg x i=0:=by unfold dg;rw[Nat.div_eq_of_lt h]
theorem dg_nd{x i:Nat}(h:nd x<=i):dg x i=0:=dg_zero (kM h)
theorem div16(x n:Nat):x/2^(16*(n+1))=x/2^(16*n)/65536:=by
 rw[Nat.div_div_eq_div_mul,p16,Nat.mul_comm]
theorem xG(x n:Nat):x/2^(16*n)=x/2^(16*(n+1))*65536+dg x n:=by
 unfold dg;rw[div16];omega
theorem nd_step{x n:Nat}(h:x<2^(16*(n+1)))(e:dg x n=0):x<2^(16*n):=by
 have h1:=xG x n
 rw[Nat.div_eq_of_lt h,e] at h1
 exact(Nat.div_eq_zero_iff_lt (jC n)).1 zo
theorem nd_top{x n:Nat}(h:x<2^(16*(n+1)))(e:dg x n≠0):nd x=n+1:=by
 have h1:=(nd_le x (n+1)).2 h
 by_cases h2:nd x<=n
 ·exact absurd (dg_nd h2) e
 ·omega
theorem nd_end{x n:Nat}(h:x<2^(16*n))(e:n=0∨dg x (n-1)≠0):nd x=n:=by
 cases n with
 | zero=>have:=(nd_le x 0).2 h;omega
 | succ n=>exact nd_top h (by rcases e with e | e;exact absurd e zo;simpa using e)
theorem nd_last{x:Nat}(h:x≠0):dg x (nd x-1)≠0:=λe=>by
 have h0:nd x≠0:=λe=>h ((kT x).1 e)
 have h1:=lt_nd x
 rw[show nd x=nd x-1+1 by omega] at h1
 have:=(nd_le x (nd x-1)).2 (nd_step h1 e)
 omega
def cry (x y g:Nat):Nat:=(x%2^(16*g)+y%2^(16*g))/2^(16*g)
theorem cry_zero(x y:Nat):cry x y 0=0:=by simp[cry,Nat.mod_one]
theorem add_div(x y g:Nat):(x+y)/2^(16*g)=x/2^(16*g)+y/2^(16*g)+cry x y g:=by
 unfold cry
 have hp:=jC g
 generalize 2^(16*g)=B at*
 have h1:=Nat.div_add_mod x B
 have h2:=Nat.div_add_mod y B
 have:x+y=(x%B+y%B)+(x/B+y/B)*B:=by rw[Nat.add_mul];have:=Nat.mul_comm B (x/B);have:=Nat.mul_comm B (y/B);omega
 rw[this,Nat.add_mul_div_right _ _ hp];omega
theorem cry_step(x y g:Nat):(dg x g+dg y g+cry x y g)/65536=cry x y (g+1)/\(dg x g+dg y g+cry x y g)%65536=dg (x+y) g:=by
 have h1:=add_div x y g
 have h2:=add_div x y (g+1)
 have h3:=xG x g
 have h4:=xG y g
 have h5:=xG (x+y) g
 have h6:=dg_lt (x+y) g
 omega
theorem cry_le(x y g:Nat):cry x y g<=1:=by
 unfold cry
 have hp:=jC g
 have h1:=Nat.mod_lt x hp
 have h2:=Nat.mod_lt y hp
 generalize 2^(16*g)=B at*
 have:=(Nat.div_lt_iff_lt_mul (k:=B) (x:=x%B+y%B) (y:=2) hp).2 zo
 omega
theorem cry_top{x y g:Nat}(h1:nd x<=g)(h2:nd y<=g)(h:cry x y g=0):x+y<2^(16*g):=by
 have:=add_div x y g
 rw[Nat.div_eq_of_lt (kM h1),Nat.div_eq_of_lt (kM h2),h] at this
 exact(Nat.div_eq_zero_iff_lt (jC g)).1 zo
theorem cry_over{x y g:Nat}(h1:nd x<g)(h2:nd y<g):cry x y g=0:=by
 have h3:x<2^(16*(g-1)):=kM zo
 have h4:y<2^(16*(g-1)):=kM zo
 have h5:=p16 (g-1)
 rw[show g-1+1=g by omega] at h5
 unfold cry
 rw[Nat.mod_eq_of_lt zo,Nat.mod_eq_of_lt zo]
 exact Nat.div_eq_of_lt zo
def brw (x y g:Nat):Nat:=if x%2^(16*g)<y%2^(16*g) then 1 else 0
theorem brw_zero(x y:Nat):brw x y 0=0:=by simp[brw,Nat.mod_one]
theorem sub_div{x y:Nat}(h:y<=x)(g:Nat):(x-y)/2^(16*g)+y/2^(16*g)+brw x y g=x/2^(16*g):=by
 have hp:=jC g
 unfold brw
 generalize 2^(16*g)=B at*
 have h1:=Nat.div_add_mod x B
 have h2:=Nat.div_add_mod y B
 have h3:=Nat.mod_lt x hp
 have h4:=Nat.mod_lt y hp
 have h5:y/B<=x/B:=Nat.div_le_div_right h
 have key:∀q r,q*B+r=x-y->r<B->(x-y)/B=q:=by
  intro q r e hr
  rw[←e,Nat.add_comm,Nat.add_mul_div_right _ _ hp,Nat.div_eq_of_lt hr];omega
 have e1:(x/B-y/B)*B=B*(x/B)-B*(y/B):=by rw[Nat.mul_comm,Nat.mul_sub]
 have e2:B*(y/B)<=B*(x/B):=Nat.mul_le_mul_left _ h5
 split
 ·rename_i hlt
  have h6:y/B<x/B:=by
   apply Nat.lt_of_le_of_ne h5
   intro e
   rw[e] at h2
   omega
  have e3:(x/B-y/B-1)*B=(x/B-y/B)*B-B:=by rw[Nat.sub_mul];omega
  have e4:B<=(x/B-y/B)*B:=Nat.le_mul_of_pos_left _ zo
  have:=key (x/B-y/B-1) (x%B+B-y%B) zo zo
  omega
 ·have:=key (x/B-y/B) (x%B-y%B) zo zo
  omega
theorem brw_le(x y g:Nat):brw x y g<=1:=by unfold brw;split<;>omega
theorem brw_step{x y:Nat}(h:y<=x)(g:Nat):(dg x g<dg y g+brw x y g->brw x y (g+1)=1/\dg x g+65536=dg (x-y) g+dg y g+brw x y g)/\(¬dg x g<dg y g+brw x y g->brw x y (g+1)=0/\dg x g=dg (x-y) g+dg y g+brw x y g):=by
 have h1:=sub_div h g
 have h2:=sub_div h (g+1)
 have h3:=xG x g
 have h4:=xG y g
 have h5:=xG (x-y) g
 have h6:=dg_lt (x-y) g
 have h7:=dg_lt x g
 have h8:=dg_lt y g
 have h9:=brw_le x y g
 have h10:=brw_le x y (g+1)
 omega
def cryM (x m a g:Nat):Nat:=(x%2^(16*g)*m+a)/2^(16*g)
theorem cryM_zero(x m a:Nat):cryM x m a 0=a:=by simp[cryM,Nat.mod_one]
theorem mul_div'(x m a g:Nat):(x*m+a)/2^(16*g)=x/2^(16*g)*m+cryM x m a g:=by
 unfold cryM
 have hp:=jC g
 generalize 2^(16*g)=B at*
 have h1:=Nat.div_add_mod x B
 have:x*m+a=(x%B*m+a)+x/B*m*B:=by
  conv=>lhs;rw[←h1,Nat.add_mul,Nat.mul_comm B,Nat.mul_right_comm]
  omega
 rw[this,Nat.add_mul_div_right _ _ hp];omega
theorem cryM_step(x m a g:Nat):(dg x g*m+cryM x m a g)/65536=cryM x m a (g+1)/\(dg x g*m+cryM x m a g)%65536=dg (x*m+a) g:=by
 have h1:=mul_div' x m a g
 have h2:=mul_div' x m a (g+1)
 have h3:=xG x g
 have h5:=xG (x*m+a) g
 have h6:=dg_lt (x*m+a) g
 have h7:x/2^(16*g)*m=x/2^(16*(g+1))*m*65536+dg x g*m:=by
  conv=>lhs;rw[h3,Nat.add_mul,Nat.mul_right_comm]
 generalize x/2^(16*g)*m=u at*
 generalize x/2^(16*(g+1))*m=v at*
 generalize dg x g*m=w at*
 omega
theorem cryM_le{x m a g:Nat}:cryM x m a g<=m+a:=by
 unfold cryM
 have hp:=jC g
 have h1:=Nat.mod_lt x hp
 generalize 2^(16*g)=B at*
 have h2:x%B*m<=B*m:=Nat.mul_le_mul_right _ (Nat.le_of_lt h1)
 have h3:a<=B*a:=Nat.le_mul_of_pos_left _ hp
 apply Nat.div_le_of_le_mul
 rw[Nat.mul_add];omega
theorem dgm_le{x m i:Nat}(hm:m<=65536):dg x i*m<=4294967296:=by
 have:=Nat.mul_le_mul (Nat.le_of_lt (dg_lt x i)) hm
 omega
theorem cryM_top{x m a n:Nat}(h:x<2^(16*n)):(x*m+a)/2^(16*n)=cryM x m a n:=by
 have:=mul_div' x m a n
 rw[Nat.div_eq_of_lt h] at this
 omega
theorem cryM_end{x m a n:Nat}(h:x<2^(16*n))(hm:m+a<4294967296):x*m+a<2^(16*(n+2))/\cryM x m a n%65536=dg (x*m+a) n/\cryM x m a n/65536=dg (x*m+a) (n+1):=by
 have h1:=cryM_top (m:=m) (a:=a) h
 have h2:=cryM_le (x:=x) (m:=m) (a:=a) (g:=n)
 have h3:=div16 (x*m+a) n
 have h4:=div16 (x*m+a) (n+1)
 refine⟨(Nat.div_eq_zero_iff_lt (jC _)).1 (by show _/2^(16*(n+1+1))=0;omega),by unfold dg;rw[h1],by unfold dg;omega⟩
theorem half_step{x m:Nat}(hm:0<m)(g:Nat):(x/2^(16*(g+1))%m*65536+dg x g)%m=x/2^(16*g)%m/\(x/2^(16*(g+1))%m*65536+dg x g)/m=dg (x/m) g:=by
 have h1:=xG x g
 have h2:=dg_lt x g
 have h3:∀n,x/m/2^(16*n)=x/2^(16*n)/m:=λn=>by rw[Nat.div_div_eq_div_mul,Nat.div_div_eq_div_mul,Nat.mul_comm]
 generalize hu:x/2^(16*(g+1))=u at*
 generalize hd:dg x g=d at*
 have h4:=Nat.div_add_mod u m
 have h5:=Nat.mod_lt u hm
 have e:u*65536+d=(u%m*65536+d)+u/m*65536*m:=by
  conv=>lhs;rw[←h4,Nat.add_mul,Nat.mul_comm m,Nat.mul_right_comm]
  omega
 refine⟨by rw[h1,e,Nat.add_mul_mod_self_right],?_⟩
 unfold dg
 rw[h3,h1,e,Nat.add_mul_div_right _ _ hm]
 have:(u%m*65536+d)/m<65536:=(Nat.div_lt_iff_lt_mul hm).2 (by have:=Nat.mul_le_mul_right 65536 (show u%m+1<=m by omega);rw[Nat.mul_comm 65536];omega)
 generalize (u%m*65536+d)/m=A at*
 omega
theorem dg_mul_pow{x k i:Nat}:dg (x*2^k) i=if i<k/16 then 0 else dg (x*2^(k%16)) (i-k/16):=by
 unfold dg
 split
 ·rename_i h
  rw[show k=16*i+(16+(k-16*i-16)) by omega,Nat.pow_add,Nat.mul_comm,Nat.mul_assoc,Nat.mul_div_cancel_left _ (jC i),Nat.pow_add,Nat.mul_assoc]
  exact Nat.mul_mod_right _ _
 ·rename_i h
  have e:x*2^k=x*2^(k%16)*2^(16*(k/16)):=by
   rw[Nat.mul_assoc,←Nat.pow_add,show k%16+16*(k/16)=k by omega]
  rw[e,show 16*i=16*(k/16)+16*(i-k/16) by omega,Nat.pow_add,←Nat.div_div_eq_div_mul,Nat.mul_div_cancel _ (jC _)]
theorem mul_pow_lt{x k:Nat}:x*2^k<2^(16*(k/16+nd (x*2^(k%16)))):=by
 have h:=lt_nd (x*2^(k%16))
 have e:x*2^k=x*2^(k%16)*2^(16*(k/16)):=by
  rw[Nat.mul_assoc,←Nat.pow_add,show k%16+16*(k/16)=k by omega]
 rw[e,Nat.mul_add,Nat.pow_add,Nat.mul_comm]
 exact Nat.mul_lt_mul_of_pos_left h (jC _)
theorem nd_mul(x y:Nat):nd (x*y)<=nd x+nd y:=by
 rw[nd_le,Nat.mul_add,Nat.pow_add]
 exact Nat.mul_lt_mul'' (lt_nd x) (lt_nd y)
theorem jD{x y:Nat}(h:x<=y):nd x<=nd y:=(nd_le x _).2 (Nat.lt_of_le_of_lt h (lt_nd y))
theorem nd_add(x y:Nat):nd (x+y)<=max (nd x) (nd y)+1:=by
 rw[nd_le,p16]
 have h1:=kM (Nat.le_max_left (nd x) (nd y))
 have h2:=kM (Nat.le_max_right (nd x) (nd y))
 omega
theorem nd_pow(k:Nat):nd (2^k)=k/16+1:=by
 have h:Wd.blen (2^k)=k+1:=Wd.blen_eq _ _ (Nat.pow_lt_pow_right zd (Nat.lt_succ_self k)) (Nat.le_refl _)
 unfold nd;rw[h];omega
def cmpN (x y:Nat):Int:=if x<y then-1 else if x=y then 0 else 1
theorem cmpN_len{x y:Nat}(h:nd x<nd y):cmpN x y=-1:=by
 unfold cmpN
 rw[if_pos]
 by_cases e:x<y
 ·exact e
 ·have:=jD (Nat.le_of_not_lt e);omega
theorem cmpN_len'{x y:Nat}(h:nd y<nd x):cmpN x y=1:=by
 unfold cmpN
 have:¬x<y:=λe=>by have:=jD (Nat.le_of_lt e);omega
 rw[if_neg this,if_neg (λe=>by subst e;omega)]
theorem lt_of_dg{x y g:Nat}(e:x/2^(16*(g+1))=y/2^(16*(g+1)))(h:dg x g<dg y g):x<y:=by
 have h1:=xG x g
 have h2:=xG y g
 by_cases c:x<y
 ·exact c
 ·have:=Nat.div_le_div_right (c:=2^(16*g)) (Nat.le_of_not_lt c)
  omega
theorem cmpN_lt{x y g:Nat}(e:x/2^(16*(g+1))=y/2^(16*(g+1)))(h:dg x g<dg y g):cmpN x y=-1:=if_pos (lt_of_dg e h)
theorem cmpN_gt{x y g:Nat}(e:x/2^(16*(g+1))=y/2^(16*(g+1)))(h:dg y g<dg x g):cmpN x y=1:=by
 have:=lt_of_dg e.symm h
 unfold cmpN
 rw[if_neg zo,if_neg zo]
theorem eq_step16{x y g:Nat}(e:x/2^(16*(g+1))=y/2^(16*(g+1)))(h1:¬dg x g<dg y g)(h2:¬dg y g<dg x g):x/2^(16*g)=y/2^(16*g):=by
 rw[xG x g,xG y g,e,show dg x g=dg y g by omega]
theorem cmpN_self{x y:Nat}(e:x/2^(16*0)=y/2^(16*0)):cmpN x y=0:=by
 simp at e;subst e;unfold cmpN;rw[if_neg zo,if_pos rfl]
theorem cmpN_ge{x y:Nat}:(0<=cmpN x y)↔y<=x:=by
 unfold cmpN
 split
 ·omega
 ·split<;>omega
theorem cmpN_neg{x y:Nat}:(cmpN x y<0)↔x<y:=by
 unfold cmpN
 split
 ·omega
 ·split<;>omega
theorem bits_step(x g:Nat):x/2^g=x/2^(g+1)*2+x/2^g%2:=by
 rw[Nat.pow_succ,←Nat.div_div_eq_div_mul];omega
theorem div_bit{n d r q b:Nat}(hd:0<d)(hq:q=n/d)(hr:r=n%d)(hb:b<=1):(r*2+b<d->(n*2+b)/d=q*2/\(n*2+b)%d=r*2+b)/\(d<=r*2+b->(n*2+b)/d=q*2+1/\(n*2+b)%d=r*2+b-d):=by
 have h1:=Nat.div_add_mod n d
 have h2:=Nat.mod_lt n hd
 rw[←hq,←hr] at h1
 rw[←hr] at h2
 have key:∀q' r',q'*d+r'=n*2+b->r'<d->(n*2+b)/d=q'/\(n*2+b)%d=r':=by
  intro q' r' e hr'
  rw[←e,Nat.add_comm]
  exact⟨by rw[Nat.add_mul_div_right _ _ hd,Nat.div_eq_of_lt hr'];omega,by rw[Nat.add_mul_mod_self_right,Nat.mod_eq_of_lt hr']⟩
 have e1:q*2*d=d*q*2:=by rw[Nat.mul_right_comm,Nat.mul_comm q d]
 have e2:(q*2+1)*d=d*q*2+d:=by rw[Nat.add_mul,e1];omega
 exact⟨λh=>key _ _ zo h,λh=>key _ _ zo zo⟩
theorem bit_dg(x k:Nat):dg x (k/16)/2^(k%16)%2=x/2^k%2:=by
 unfold dg
 rw[show(65536:Nat)=2^(k%16)*2^(16-k%16) by rw[←Nat.pow_add,show k%16+(16-k%16)=16 by omega],Nat.mod_mul_right_div_self,Nat.div_div_eq_div_mul,←Nat.pow_add,show 16*(k/16)+k%16=k by omega]
 have:2^(16-k%16)=2*2^(16-k%16-1):=by rw[Nat.mul_comm,←Nat.pow_succ,show(16-k%16-1).succ=16-k%16 by omega]
 rw[this,Nat.mod_mul_right_mod]
theorem blen_dg{x:Nat}(h:x≠0):Wd.blen x=16*(nd x-1)+Wd.blen (dg x (nd x-1)):=by
 have h1:=Wd.blen_pos x h
 have h2:nd x=(Wd.blen x+15)/16:=rfl
 have h3:dg x (nd x-1)=x/2^(16*(nd x-1)):=by
  have:=div16 x (nd x-1)
  rw[show nd x-1+1=nd x by omega,Nat.div_eq_of_lt (lt_nd x)] at this
  unfold dg;omega
 rw[h3]
 refine Wd.blen_shift x _ ?_
 rw[←h3];exact nd_last h
theorem blen_half{x:Nat}(h:x≠0):Wd.blen x=Wd.blen (x/2)+1:=by
 by_cases h2:x/2=0
 ·rw[h2]
  have:x=1:=by omega
  subst this;decide
 ·have:=Wd.blen_shift x 1 (by simpa using h2)
  simp at this
  omega
theorem gcd_2_2{a b:Nat}(ha:a%2=0)(hb:b%2=0):Nat.gcd a b=Nat.gcd (a/2) (b/2)*2:=by
 conv=>lhs;rw[show a=2*(a/2) by omega,show b=2*(b/2) by omega]
 rw[Nat.gcd_mul_left,Nat.mul_comm]
theorem gcd_2_odd{a b:Nat}(ha:a%2=0)(hb:b%2=1):Nat.gcd (a/2) b=Nat.gcd a b:=by
 conv=>rhs;rw[show a=2*(a/2) by omega]
 have:Nat.Coprime b 2:=by
  show Nat.gcd b 2=1
  rw[Nat.gcd_comm,Nat.gcd_rec,hb];rfl
 rw[Nat.gcd_comm,Nat.gcd_comm (2*(a/2)),Nat.Coprime.gcd_mul_left_cancel_right (m:=b) (a/2) this.symm]
theorem gcd_sub_left'{a b:Nat}(h:b<=a):Nat.gcd (a-b) b=Nat.gcd a b:=by
 conv=>rhs;rw[show a=a-b+b by omega]
 rw[Nat.gcd_add_self_left]
open Go.RowKit
def SV.dgs (x n:Nat):SV:=.sl 1 (λi=>iN (dg x i)) n
theorem bifT{P Q:Prop} [Decidable P] [Decidable Q](h:(bif decide P then decide Q else false)=true):P/\Q:=by
 by_cases p:P
 ·exact⟨p,by simpa [p] using h⟩
 ·simp[p] at h
theorem bifF{P Q:Prop} [Decidable P] [Decidable Q](h:(bif decide P then decide Q else false)=false):¬(P/\Q):=λ⟨p,q⟩=>by simp[p,q] at h
theorem orT{P Q:Prop} [Decidable P] [Decidable Q](h:(bif decide P then true else decide Q)=true):P∨Q:=by
 by_cases p:P
 ·exact .inl p
 ·exact .inr (by simpa [p] using h)
theorem orF{P Q:Prop} [Decidable P] [Decidable Q](h:(bif decide P then true else decide Q)=false):¬P/\¬Q:=by
 by_cases p:P
 ·simp[p] at h
 ·exact⟨p,by simpa [p] using h⟩
theorem quo_u64{a h:Nat}(ha:a<18446744073709551616):IntKind.wrap .u64 ((((a/65536^h:Nat):Int)).tdiv 65536)=((a/65536^(h+1):Nat):Int):=by
 have e:(((a/65536^h:Nat):Int)).tdiv 65536=((a/65536^h/65536:Nat):Int):=rfl
 have h1:=Nat.div_le_self a (65536^h)
 rw[e,Nat.pow_succ,←Nat.div_div_eq_div_mul,IntKind.wrap_u64]
 generalize a/65536^h=v at*
 omega
theorem quo_i64{a b:Nat}(ha:a<9223372036854775808):IntKind.wrap .i64 ((a:Int).tdiv (b:Int))=((a/b:Nat):Int):=by
 have e:((a:Int)).tdiv (b:Int)=((a/b:Nat):Int):=rfl
 have h1:=Nat.div_le_self a b
 rw[e,IntKind.wrap_i64]
 generalize a/b=v at*
 omega
theorem dg_val{w:Nat->Nat}{n g k:Nat}(hw:Wf w n)(hg:g<n)(hk:k<4):dg (val w n) (4*g+k)=w g/65536^k%65536:=by
 have h:=wd_val w n g hw hg
 unfold wd at h
 unfold dg
 rw[show 16*(4*g+k)=64*g+16*k by omega,Nat.pow_add,←Nat.div_div_eq_div_mul,←h]
 generalize val w n/2^(64*g)=v
 match k,hk with
 | 0,_=>omega
 | 1,_=>show v/65536%65536=v%18446744073709551616/65536%65536;omega
 | 2,_=>show v/4294967296%65536=v%18446744073709551616/4294967296%65536;omega
 | 3,_=>show v/281474976710656%65536=v%18446744073709551616/281474976710656%65536;omega
theorem val_dg{w:Nat->Nat}{n:Nat}(hw:Wf w n):val w n<2^(16*(4*n)):=by
 rw[show 16*(4*n)=64*n by omega];exact val_lt w n hw
theorem or3T{P Q R:Prop} [Decidable P] [Decidable Q] [Decidable R](h:(bif (bif decide P then true else decide Q) then true else decide R)=true):P∨Q∨R:=by
 by_cases p:P
 ·exact .inl p
 ·by_cases q:Q
  ·exact .inr (.inl q)
  ·exact .inr (.inr (by simpa [p,q] using h))
theorem or3F{P Q R:Prop} [Decidable P] [Decidable Q] [Decidable R](h:(bif (bif decide P then true else decide Q) then true else decide R)=false):¬P/\¬Q/\¬R:=by
 by_cases p:P
 ·simp[p] at h
 ·by_cases q:Q
  ·simp[p,q] at h
  ·exact⟨p,q,by simpa [p,q] using h⟩
theorem mul_i64{a b:Nat}(h:a*b<9223372036854775808):IntKind.wrap .i64 ((a:Int)*(b:Int))=((a*b:Nat):Int):=by
 rw[←Int.natCast_mul,IntKind.wrap_i64];omega
theorem pow_i64{g:Nat}(h:g<62):IntKind.wrap .i64 ((2:Int)*((2^g:Nat):Int))=((2^(g+1):Nat):Int):=by
 have h1:2^g<=2^61:=Nat.pow_le_pow_right zd zo
 have h2:(2:Nat)^61=2305843009213693952:=by decide
 rw[Nat.pow_succ,IntKind.wrap_i64];omega
theorem dg_shl{x k g j:Nat}(h:g=k/16):dg (x*2^(k%16)) j=dg (x*2^k) (g+j):=by
 rw[dg_mul_pow (x:=x) (k:=k) (i:=g+j),if_neg zo,show g+j-k/16=j by omega]
theorem dg_shl0{x k g:Nat}(h:g<k/16):dg (x*2^k) g=0:=by rw[dg_mul_pow,if_pos h]
theorem pow16_le{k:Nat}:2^(k%16)<=32768:=Nat.pow_le_pow_right zd (show k%16<=15 by omega)
def dn (g y i:Nat):Nat:=if g<=i then dg y i else 0
theorem dn_lo{g y i:Nat}(h:i<g):dn g y i=0:=if_neg zo
theorem dn_hi{g y i:Nat}(h:g<=i):dn g y i=dg y i:=if_pos h
theorem dn_ne{g y t:Nat}(h:t≠g-1):dn (g-1) y t=dn g y t:=by
 unfold dn
 by_cases e:g<=t
 ·rw[if_pos e,if_pos zo]
 ·rw[if_neg e,if_neg zo]
theorem half_at{x m g:Nat}(hm:0<m)(hg:0<g):(x/2^(16*g)%m*65536+dg x (g-1))%m=x/2^(16*(g-1))%m/\(x/2^(16*g)%m*65536+dg x (g-1))/m=dg (x/m) (g-1):=by
 have h:=half_step (x:=x) hm (g-1)
 rw[show g-1+1=g by omega] at h
 exact h
theorem nd_zero_div{y:Nat}:y/2^(16*nd y)=0:=Nat.div_eq_of_lt (lt_nd y)
theorem even_dg(x:Nat):x%2=dg x 0%2:=by
 unfold dg
 simp only[Nat.mul_zero,Nat.pow_zero,Nat.div_one]
 omega
theorem nd_div(x y:Nat):nd (x/y)<=nd x:=jD (Nat.div_le_self x y)
theorem nd_mod(x y:Nat):nd (x%y)<=nd x:=jD (Nat.mod_le x y)
theorem nd_one:nd 1=1:=rfl
theorem nd_x2(x:Nat):nd (x*2)<=nd x+1:=by
 have:=nd_mul x 2
 have:nd 2=1:=rfl
 omega
theorem sTrim{x n:Nat}(hn:n<=68719476736)(hx:x<2^(16*n)):CallOK Tryz.prog 136 [.dgs x n] (.dgs x (nd x)) []:=by
 exact kP (ch:=[.loop 2 (Nat) (λg=>g<=n/\x<2^(16*g)) (λg=>g) (λg=>⟨[(0,.dgs x n),(3,iN g)],[],0⟩) [] (λ_=>[]) (λg=>[.reg 2 [(6,.k (g-1))],.reg 5 [(3,.kk 0 g),(4,.row 0 (λi0=>iN (dg x i0)))]])]) Tryz.func136 ((∀j0,j0<n->True)/\(((λX1 X2:Prop=>∃g0:Nat,X1/\X2/\((n:Int)=(g0:Int))/\(g0<=n/\x<2^(16*g0))) _ _)/\∀g:Nat,(g<=n/\x<2^(16*g))->_/\(((decide ((0:Int)<(g:Int)))==true)=true->IntKind.wrap .i64 ((g:Int)-1)=((g:Int)-1))/\_/\_/\(((decide ((0:Int)<(g:Int)))==true)=true->((g:Int)-1:Int)=((g-1:Nat):Int))/\(((decide ((0:Int)<(g:Int)))==true)=true->(g-1)<n)/\_/\_/\((decide ((0:Int)<(g:Int)))=true->((decide ((0:Int)<(g:Int)))==true)=true)/\(((bif (decide ((0:Int)<(g:Int))) then(decide (((dg x (g-1):Nat):Int)=0)) else false)=true->(IntKind.wrap .i64 ((g:Int)-1)=((g:Int)-1))/\((λX1 X2:Prop=>∃g1:Nat,X1/\X2/\(((g:Int)-1:Int)=(g1:Int))/\(g1<=n/\x<2^(16*g1))/\(g1<g)) _ _))/\((bif (decide ((0:Int)<(g:Int))) then(decide (((dg x (g-1):Nat):Int)=0)) else false)=false->_/\(g<=n)/\(g<=68719476736)/\_/\(((g:Nat)=(nd x))/\_)))))
  ⟨(λ_ _=>trivial),⟨n,(rf n),(leS (λi0=>iN (dg x i0)) n),zo,Nat.le_refl _,hx⟩,λg hg=>have hg1:=hg.1;⟨(idB ((decide ((0:Int)<(g:Int)))==true)),(λhg=>(by rw[IntKind.wrap_i64];omega)),(idB ((decide ((0:Int)<(g:Int)))==true)),(idB ((decide ((0:Int)<(g:Int)))==true)),(λhg=>(by simp at hg;omega)),(λhg=>(by simp at hg;omega)),(idB ((decide ((0:Int)<(g:Int)))==true)),(idB ((decide ((0:Int)<(g:Int)))==true)),(by first | (simp;done) | (simp;omega)),λhc16=>have hc:=bifT hc16;⟨(by rw[IntKind.wrap_i64];omega),g-1,(rf n),(leS (λi0=>iN (dg x i0)) n),zo,⟨by omega,nd_step (by rw[show g-1+1=g by omega];exact hg.2) zo⟩,zo⟩,λhc16=>have hc:=bifF hc16;have hnd:=nd_end hg.2 zo;⟨(rf (g:Int)),zo,zo,(leS (λi0=>iN (dg x i0)) g),hnd.symm,(leS (λi0=>iN (dg x i0)) g)⟩⟩⟩
theorem sRefOf{w:Nat->Nat}{n:Nat}(hn:n<=1073741824)(hw:Wf w n):CallOK Tryz.prog 104 [.sl 1 (λi0=>uZ (w i0:Int)) n] (.dgs (val w n) (nd (val w n))) []:=by
 exact kP (ch:=[.loop 3 (Nat) (λg=>g<=n) (λg=>n-g) (λg=>⟨[(0,.sl 1 (λi0=>uZ (w i0:Int)) n),(3,.own 0 0),(4,iN g)],[(0,.one (.row 3 1 (λi0=>iN (dg (val w n) i0)) (4*g)))],1⟩) [(0,.nil)] (λ_=>[(0,.id 0)]) (λg=>[.reg 5 [(2,.k g)],.loop 7 (Nat) (λh=>h<=4) (λh=>4-h) (λh=>⟨[(0,.sl 1 (λi0=>uZ (w i0:Int)) n),(3,.own 0 0),(4,iN g),(5,uZ ((w g/65536^h:Nat):Int)),(6,iN h)],[(0,.one (.row 3 1 (λi0=>iN (dg (val w n) i0)) (4*g+h)))],1⟩) [(0,.id 0)] (λ_=>[(0,.id 1)]) (λh=>[.reg 9 [(2,.z (dg (val w n) (4*g+h):Int)),(3,.z (dg (val w n) (4*g+h):Int)),(5,.row 0 (λi0=>iN (dg (val w n) i0)))],.reg 10 [(1,.z ((w g/65536^(h+1):Nat):Int))],.reg 8 [(1,.z ((h+1:Nat):Int))],.reg 4 [(1,.z ((g+1:Nat):Int))]]),.conv 11 [] ⟨[(3,.dgs (val w n) (4*g))],[],1⟩,.reg 11 [(1,.callS (.dgs (val w n) (nd (val w n))) [])]])]) Tryz.func104 ((∀j0,j0<n->True)/\(((λX1 X2 X3:Prop=>∃g0:Nat,X1/\X2/\X3/\((0:Int)=(g0:Int))/\((4*g0:Nat)=0)/\(g0<=n)) _ _ _)/\∀g:Nat,(g<=n)->(((decide ((g:Int)<(n:Int)))=true->_/\(g<n)/\(((λX1 X2 X3 X4 X5:Prop=>∃h0:Nat,X1/\X2/\X3/\X4/\(((w g:Nat):Int)=((w g/65536^h0:Nat):Int))/\((0:Int)=(h0:Int))/\((4*g:Nat)=(4*g+h0))/\X5/\(h0<=4)) _ _ _ _ _)/\∀h:Nat,(h<=4)->(((decide ((h:Int)<4))=true->((65536:Int)≠0)/\(((w g/65536^h:Nat):Int).tmod 65536=(((dg (val w n) (4*g+h):Nat):Int)))/\(IntKind.wrap .i64 (dg (val w n) (4*g+h):Int)=(((dg (val w n) (4*g+h):Nat):Int)))/\((4*g+h)+1<=68719476736)/\_/\_/\((65536:Int)≠0)/\(IntKind.wrap .u64 (((w g/65536^h:Nat):Int).tdiv 65536)=(((w g/65536^(h+1):Nat):Int)))/\_/\((λX1 X2 X3 X4 X5:Prop=>∃h1:Nat,X1/\X2/\X3/\X4/\(((w g/65536^(h+1):Nat):Int)=((w g/65536^h1:Nat):Int))/\(((h+1:Nat):Int)=(h1:Int))/\(((4*g+h)+1:Nat)=(4*g+h1))/\X5/\(h1<=4)/\(4-h1<4-h)) _ _ _ _ _))/\((decide ((h:Int)<4))=false->_/\((λX1 X2 X3 X4:Prop=>∃g1:Nat,X1/\X2/\X3/\(((g+1:Nat):Int)=(g1:Int))/\((4*g+h:Nat)=(4*g1))/\X4/\(g1<=n)/\(n-g1<n-g)) _ _ _ _)))))/\((decide ((g:Int)<(n:Int)))=false->_/\_/\_/\(_/\_)))))
  ⟨(λ_ _=>trivial),⟨0,(rf n),(leS (λi0=>uZ (w i0:Int)) n),(rf 0),zo,zo,zo⟩,λg hg=>⟨λhc10=>have hc10:=dT hc10;have hgn:g<n:=zo;⟨(rf (g:Int)),zo,⟨0,(rf n),(leS (λi0=>uZ (w i0:Int)) n),(rf 0),(rf (g:Int)),zs,zo,zo,(leS (λi0=>iN (dg (val w n) i0)) (4*g)),zo⟩,λh hh=>⟨λhc18=>have hc18:=dT hc18;have hwd:=dg_val hw hgn (k:=h) zo;have hd:=dg_lt (val w n) (4*g+h);⟨zd,(by rw[hwd];rfl),(by rw[IntKind.wrap_i64];omega),zo,(oldS (λi0=>iN (dg (val w n) i0)) (4*g+h)),(newS (λi0=>iN (dg (val w n) i0)) (4*g+h)),zd,(quo_u64 (hw g hgn)),(wI (g:=h) zo),h+1,(rf n),(leS (λi0=>uZ (w i0:Int)) n),(rf 0),(rf (g:Int)),zo,zo,zo,(leS (λi0=>iN (dg (val w n) i0)) ((4*g+h)+1)),zo,zo⟩,λhc18=>have hc18:=dF hc18;have hi3:h=4:=zo;⟨(wI (g:=g) zo),g+1,(rf n),(leS (λi0=>uZ (w i0:Int)) n),(rf 0),zo,zo,(leS (λi0=>iN (dg (val w n) i0)) (4*g+h)),zo,zo⟩⟩⟩,λhc10=>have hc10:=dF hc10;have hi2:g=n:=zo;⟨(rf (4*g:Nat)),(leS (λi0=>iN (dg (val w n) i0)) (4*g)),sTrim (x:=val w n) (n:=4*g) zo (by subst hi2;exact val_dg hw),(rf (nd (val w n):Nat)),(leS (λi0=>iN (dg (val w n) i0)) (nd (val w n)))⟩⟩⟩
theorem sDigit{x k:Nat}:CallOK Tryz.prog 162 [.dgs x (nd x),iN k] (iN (dg x k)) []:=by
 exact kP (ch:=[.reg 3 [(2,.k k)]]) Tryz.func162 ((∀j0,j0<(nd x)->True)/\_/\_/\_/\((!(decide ((k:Int)<0)))=true->((decide ((k:Int)<0))==false)=true)/\(((bif (decide ((k:Int)<0)) then true else(decide (((nd x:Nat):Int)<=(k:Int))))=true->(((0:Int)=(dg x k:Int))))/\((bif (decide ((k:Int)<0)) then true else(decide (((nd x:Nat):Int)<=(k:Int))))=false->_/\(k<(nd x))/\(_))))
  ⟨(λ_ _=>trivial),(idB ((decide ((k:Int)<0))==false)),(idB ((decide ((k:Int)<0))==false)),(idB ((decide ((k:Int)<0))==false)),(by first | (simp;done) | (simp;omega)),λhc12=>have hc:=orT hc12;have hz:=dg_nd (x:=x) (i:=k) zo;zo,λhc12=>have hc:=orF hc12;⟨(rf (k:Int)),zo,(rf (dg x k:Int))⟩⟩
theorem sRefAdd{x y:Nat}(hx:nd x<=17179869184)(hy:nd y<=17179869184):CallOK Tryz.prog 139 [.dgs x (nd x),.dgs y (nd y)] (.dgs (x+y) (nd (x+y))) []:=by
 exact kP (ch:=[.loop 4 (Nat) (λg=>g<=max (nd x) (nd y)+1) (λg=>max (nd x) (nd y)+1-g) (λg=>⟨[(0,.dgs x (nd x)),(1,.dgs y (nd y)),(5,.own 0 0),(6,iN (cry x y g)),(7,iN g)],[(0,.one (.row 3 1 (λi0=>iN (dg (x+y) i0)) g))],1⟩) [(0,.nil)] (λ_=>[(0,.id 1)]) (λg=>[.reg 6 [(2,.callS (iN (dg x g)) []),(5,.callS (iN (dg y g)) []),(6,.z ((dg x g+dg y g:Nat):Int)),(8,.z ((dg x g+dg y g+cry x y g:Nat):Int))],.reg 7 [(2,.z (dg (x+y) g:Int)),(4,.row 0 (λi0=>iN (dg (x+y) i0)))],.reg 8 [(1,.z (cry x y (g+1):Int))],.reg 5 [(1,.z ((g+1:Nat):Int))],.conv 9 [] ⟨[(5,.dgs (x+y) g)],[],1⟩,.reg 9 [(1,.callS (.dgs (x+y) (nd (x+y))) [])]])]) Tryz.func139 ((∀j0,j0<(nd x)->True)/\(∀j0,j0<(nd y)->True)/\(((λX1 X2 X3 X4 X5:Prop=>∃g0:Nat,X1/\X2/\X3/\X4/\X5/\((0:Int)=(cry x y g0:Int))/\((0:Int)=(g0:Int))/\((g0:Nat)=0)/\(g0<=max (nd x) (nd y)+1)) _ _ _ _ _)/\∀g:Nat,(g<=max (nd x) (nd y)+1)->_/\_/\_/\((!(decide ((g:Int)<(nd x:Int))))=true->((decide ((g:Int)<(nd x:Int)))==false)=true)/\_/\((!(bif (decide ((g:Int)<(nd x:Int))) then true else(decide ((g:Int)<(nd y:Int)))))=true->((bif (decide ((g:Int)<(nd x:Int))) then true else(decide ((g:Int)<(nd y:Int))))==false)=true)/\(((bif (bif (decide ((g:Int)<(nd x:Int))) then true else(decide ((g:Int)<(nd y:Int)))) then true else(decide ((0:Int)<(cry x y g:Int))))=true->_/\_/\(IntKind.wrap .i64 (((dg x g:Nat):Int)+(dg y g:Int))=(((dg x g+dg y g:Nat):Int)))/\(IntKind.wrap .i64 (((dg x g+dg y g:Nat):Int)+(cry x y g:Int))=(((dg x g+dg y g+cry x y g:Nat):Int)))/\((65536:Int)≠0)/\(((dg x g+dg y g+cry x y g:Nat):Int).tmod 65536=(((dg (x+y) g:Nat):Int)))/\(g+1<=68719476736)/\_/\_/\((65536:Int)≠0)/\(IntKind.wrap .i64 (((dg x g+dg y g+cry x y g:Nat):Int).tdiv 65536)=(((cry x y (g+1):Nat):Int)))/\_/\((λX1 X2 X3 X4 X5 X6:Prop=>∃g1:Nat,X1/\X2/\X3/\X4/\X5/\(((cry x y (g+1):Nat):Int)=(cry x y g1:Int))/\(((g+1:Nat):Int)=(g1:Int))/\((g+1:Nat)=g1)/\X6/\(g1<=max (nd x) (nd y)+1)/\(max (nd x) (nd y)+1-g1<max (nd x) (nd y)+1-g)) _ _ _ _ _ _))/\((bif (bif (decide ((g:Int)<(nd x:Int))) then true else(decide ((g:Int)<(nd y:Int)))) then true else(decide ((0:Int)<(cry x y g:Int))))=false->_/\_/\_/\(_/\_)))))
  ⟨(λ_ _=>trivial),(λ_ _=>trivial),⟨0,(rf (nd x:Nat)),(leS (λi0=>iN (dg x i0)) (nd x)),(rf (nd y:Nat)),(leS (λi0=>iN (dg y i0)) (nd y)),(rf 0),(by rw[cry_zero];rfl),zo,zo,zo⟩,λg hg=>⟨(idB ((decide ((g:Int)<(nd x:Int)))==false)),(idB ((decide ((g:Int)<(nd x:Int)))==false)),(idB ((decide ((g:Int)<(nd x:Int)))==false)),(by simp;done),(idB ((bif (decide ((g:Int)<(nd x:Int))) then true else(decide ((g:Int)<(nd y:Int))))==false)),(by simp;done),λhc22=>have hc:=or3T hc22;have ho:max (nd x) (nd y)<g->cry x y g=0:=(λh=>cry_over zo zo);have h1:=dg_lt x g;have h2:=dg_lt y g;have h3:=cry_le x y g;⟨sDigit (x:=x) (k:=g),sDigit (x:=y) (k:=g),(by rw[IntKind.wrap_i64];omega),(by rw[IntKind.wrap_i64];omega),zd,(by rw[←(cry_step x y g).2];rfl),zo,(oldS (λi0=>iN (dg (x+y) i0)) g),(newS (λi0=>iN (dg (x+y) i0)) g),zd,(by rw[←(cry_step x y g).1];exact quo_i64 zo),(wI (g:=g) zo),g+1,(rf (nd x:Nat)),(leS (λi0=>iN (dg x i0)) (nd x)),(rf (nd y:Nat)),(leS (λi0=>iN (dg y i0)) (nd y)),(rf 0),zo,zo,zo,(leS (λi0=>iN (dg (x+y) i0)) (g+1)),zo,zo⟩,λhc22=>have hc:=or3F hc22;⟨(rf g),(leS (λi0=>iN (dg (x+y) i0)) g),sTrim (x:=x+y) (n:=g) zo (cry_top zo zo zo),(rf (nd (x+y):Nat)),(leS (λi0=>iN (dg (x+y) i0)) (nd (x+y)))⟩⟩⟩
theorem sRefSub{x y:Nat}(hx:nd x<=17179869184)(hyx:y<=x):CallOK Tryz.prog 143 [.dgs x (nd x),.dgs y (nd y)] (.dgs (x-y) (nd (x-y))) []:=by
 have hy:=jD hyx
 exact kP (ch:=[.loop 4 (Nat) (λg=>g<=nd x) (λg=>(nd x)-g) (λg=>⟨[(0,.dgs x (nd x)),(1,.dgs y (nd y)),(5,.own 0 0),(6,iN (brw x y g)),(7,iN g)],[(0,.one (.row 3 1 (λi0=>iN (dg (x-y) i0)) g))],1⟩) [(0,.nil)] (λ_=>[(0,.id 1)]) (λg=>[.reg 6 [(2,.k g),(6,.callS (iN (dg y g)) [])],.reg 9 [(1,.z (dg (x-y) g:Int))],.reg 11 [(3,.row 0 (λi0=>iN (dg (x-y) i0)))],.reg 5 [(1,.z ((g+1:Nat):Int))],.reg 11 [(3,.row 0 (λi0=>iN (dg (x-y) i0)))],.reg 5 [(1,.z ((g+1:Nat):Int))],.conv 12 [] ⟨[(5,.dgs (x-y) g)],[],1⟩,.reg 12 [(1,.callS (.dgs (x-y) (nd (x-y))) [])]])]) Tryz.func143 ((∀j0,j0<(nd x)->True)/\(∀j0,j0<(nd y)->True)/\(((λX1 X2 X3 X4 X5:Prop=>∃g0:Nat,X1/\X2/\X3/\X4/\X5/\((0:Int)=(brw x y g0:Int))/\((0:Int)=(g0:Int))/\((g0:Nat)=0)/\(g0<=nd x)) _ _ _ _ _)/\∀g:Nat,(g<=nd x)->(((decide ((g:Int)<(nd x:Int)))=true->_/\(g<(nd x))/\_/\(IntKind.wrap .i64 (((dg x g:Nat):Int)-(dg y g:Int))=(((dg x g:Nat):Int)-(dg y g:Int)))/\(IntKind.wrap .i64 (((dg x g:Int)-(dg y g:Int):Int)-(brw x y g:Int))=(((dg x g:Int)-(dg y g:Int):Int)-(brw x y g:Int)))/\(((decide (((((dg x g:Nat):Int)-(dg y g:Int):Int)-(brw x y g:Int):Int)<0))=true->(IntKind.wrap .i64 (((((dg x g:Nat):Int)-(dg y g:Int):Int)-(brw x y g:Int):Int)+65536)=(((dg (x-y) g:Nat):Int)))/\(g+1<=68719476736)/\_/\(∀j0,j0<1->(((dg (x-y) g:Nat):Int)=(dg (x-y) (g+j0):Int)))/\_/\((λX1 X2 X3 X4 X5 X6:Prop=>∃g1:Nat,X1/\X2/\X3/\X4/\X5/\((1:Int)=(brw x y g1:Int))/\(((g+1:Nat):Int)=(g1:Int))/\((g+1:Nat)=g1)/\X6/\(g1<=nd x)/\((nd x)-g1<(nd x)-g)) _ _ _ _ _ _))/\((decide (((((dg x g:Nat):Int)-(dg y g:Int):Int)-(brw x y g:Int):Int)<0))=false->(g+1<=68719476736)/\_/\(∀j0,j0<1->(((((dg x g:Nat):Int)-(dg y g:Int):Int)-(brw x y g:Int):Int)=(dg (x-y) (g+j0):Int)))/\_/\((λX1 X2 X3 X4 X5 X6:Prop=>∃g1:Nat,X1/\X2/\X3/\X4/\X5/\((0:Int)=(brw x y g1:Int))/\(((g+1:Nat):Int)=(g1:Int))/\((g+1:Nat)=g1)/\X6/\(g1<=nd x)/\((nd x)-g1<(nd x)-g)) _ _ _ _ _ _))))/\((decide ((g:Int)<(nd x:Int)))=false->_/\_/\_/\(_/\_)))))
  ⟨(λ_ _=>trivial),(λ_ _=>trivial),⟨0,(rf (nd x:Nat)),(leS (λi0=>iN (dg x i0)) (nd x)),(rf (nd y:Nat)),(leS (λi0=>iN (dg y i0)) (nd y)),(rf 0),(by rw[brw_zero];rfl),zo,zo,zo⟩,λg hg=>⟨λhc12=>have hc12:=dT hc12;have h1:=dg_lt x g;have h2:=dg_lt y g;have h3:=brw_le x y g;have h4:=brw_step hyx g;⟨(rf (g:Int)),zo,sDigit (x:=y) (k:=g),(by rw[IntKind.wrap_i64];omega),(by rw[IntKind.wrap_i64];omega),λhc26=>have hc26:=dT hc26;have hb:=h4.1 zo;⟨(by rw[IntKind.wrap_i64];omega),zo,(oldS (λi0=>iN (dg (x-y) i0)) g),(λj0 hj0=>(by obtain rfl:j0=0:=zo;show _=(dg (x-y) g:Int);omega)),(wI (g:=g) zo),g+1,(rf (nd x:Nat)),(leS (λi0=>iN (dg x i0)) (nd x)),(rf (nd y:Nat)),(leS (λi0=>iN (dg y i0)) (nd y)),(rf 0),zo,zo,zo,(leS (λi0=>iN (dg (x-y) i0)) (g+1)),zo,zo⟩,λhc26=>have hc26:=dF hc26;have hb:=h4.2 zo;⟨zo,(oldS (λi0=>iN (dg (x-y) i0)) g),(λj0 hj0=>(by obtain rfl:j0=0:=zo;show _=(dg (x-y) g:Int);omega)),(wI (g:=g) zo),g+1,(rf (nd x:Nat)),(leS (λi0=>iN (dg x i0)) (nd x)),(rf (nd y:Nat)),(leS (λi0=>iN (dg y i0)) (nd y)),(rf 0),zo,zo,zo,(leS (λi0=>iN (dg (x-y) i0)) (g+1)),zo,zo⟩⟩,λhc12=>have hc12:=dF hc12;have hi2:g=nd x:=zo;⟨(rf g),(leS (λi0=>iN (dg (x-y) i0)) g),sTrim (x:=x-y) (n:=g) zo (kM (by have:=jD (Nat.sub_le x y);omega)),(rf (nd (x-y):Nat)),(leS (λi0=>iN (dg (x-y) i0)) (nd (x-y)))⟩⟩⟩
theorem sSmall{x m a:Nat}(hx:nd x<=17179869184)(hm:m<=65536)(ha:a<=65536):CallOK Tryz.prog 141 [.dgs x (nd x),iN m,iN a] (.dgs (x*m+a) (nd (x*m+a))) []:=by
 have hce:=cryM_end (m:=m) (a:=a) (lt_nd x) zo
 exact kP (ch:=[.loop 4 (Nat) (λg=>g<=nd x) (λg=>(nd x)-g) (λg=>⟨[(0,.dgs x (nd x)),(1,iN m),(7,.own 0 0),(8,iN (cryM x m a g)),(9,iN g)],[(0,.one (.row 3 1 (λi0=>iN (dg (x*m+a) i0)) g))],1⟩) [(0,.nil)] (λ_=>[(0,.id 1)]) (λg=>[.reg 6 [(2,.k g),(5,.z ((dg x g*m:Nat):Int)),(7,.z ((dg x g*m+cryM x m a g:Nat):Int))],.reg 7 [(2,.z (dg (x*m+a) g:Int)),(4,.row 0 (λi0=>iN (dg (x*m+a) i0)))],.reg 8 [(1,.z (cryM x m a (g+1):Int))],.reg 5 [(1,.z ((g+1:Nat):Int))],.reg 9 [(2,.z (dg (x*m+a) g:Int)),(4,.z (dg (x*m+a) (g+1):Int)),(5,.row 0 (λi0=>iN (dg (x*m+a) (g+i0)))),(6,.row 0 (λi0=>iN (dg (x*m+a) i0)))],.conv 10 [] ⟨[(7,.dgs (x*m+a) (g+2))],[],3⟩,.reg 10 [(1,.callS (.dgs (x*m+a) (nd (x*m+a))) [])]])]) Tryz.func141 ((∀j0,j0<(nd x)->True)/\(((λX1 X2 X3 X4:Prop=>∃g0:Nat,X1/\X2/\X3/\X4/\((a:Int)=(cryM x m a g0:Int))/\((0:Int)=(g0:Int))/\((g0:Nat)=0)/\(g0<=nd x)) _ _ _ _)/\∀g:Nat,(g<=nd x)->(((decide ((g:Int)<(nd x:Int)))=true->_/\(g<(nd x))/\(IntKind.wrap .i64 (((dg x g:Nat):Int)*(m:Int))=(((dg x g*m:Nat):Int)))/\(IntKind.wrap .i64 (((dg x g*m:Nat):Int)+(cryM x m a g:Int))=(((dg x g*m+cryM x m a g:Nat):Int)))/\((65536:Int)≠0)/\(((dg x g*m+cryM x m a g:Nat):Int).tmod 65536=(((dg (x*m+a) g:Nat):Int)))/\(g+1<=68719476736)/\_/\_/\((65536:Int)≠0)/\(IntKind.wrap .i64 (((dg x g*m+cryM x m a g:Nat):Int).tdiv 65536)=(((cryM x m a (g+1):Nat):Int)))/\_/\((λX1 X2 X3 X4 X5:Prop=>∃g1:Nat,X1/\X2/\X3/\X4/\(((cryM x m a (g+1):Nat):Int)=(cryM x m a g1:Int))/\(((g+1:Nat):Int)=(g1:Int))/\((g+1:Nat)=g1)/\X5/\(g1<=nd x)/\((nd x)-g1<(nd x)-g)) _ _ _ _ _))/\((decide ((g:Int)<(nd x:Int)))=false->((65536:Int)≠0)/\(((cryM x m a g:Nat):Int).tmod 65536=(((dg (x*m+a) g:Nat):Int)))/\((65536:Int)≠0)/\(IntKind.wrap .i64 (((cryM x m a g:Nat):Int).tdiv 65536)=(((dg (x*m+a) (g+1):Nat):Int)))/\(((dg (x*m+a) g:Nat):Int)=(dg (x*m+a) (g+0):Int))/\_/\(g+2<=68719476736)/\_/\(∀j0,j0<2->(((dg (x*m+a) (g+j0):Nat):Int)=(dg (x*m+a) (g+j0):Int)))/\_/\_/\_/\(_/\_)))))
  ⟨(λ_ _=>trivial),⟨0,(rf (nd x:Nat)),(leS (λi0=>iN (dg x i0)) (nd x)),(rf (m:Int)),(rf 0),(by rw[cryM_zero]),zo,zo,zo⟩,λg hg=>have h3:=cryM_le (x:=x) (m:=m) (a:=a) (g:=g);⟨λhc15=>have hc15:=dT hc15;have h1:=dgm_le (x:=x) (i:=g) hm;⟨(rf (g:Int)),zo,(mul_i64 zo),(by rw[IntKind.wrap_i64];omega),zd,(by rw[←(cryM_step x m a g).2];rfl),zo,(oldS (λi0=>iN (dg (x*m+a) i0)) g),(newS (λi0=>iN (dg (x*m+a) i0)) g),zd,(by rw[←(cryM_step x m a g).1];exact quo_i64 zo),(wI (g:=g) zo),g+1,(rf (nd x:Nat)),(leS (λi0=>iN (dg x i0)) (nd x)),(rf (m:Int)),(rf 0),zo,zo,zo,(leS (λi0=>iN (dg (x*m+a) i0)) (g+1)),zo,zo⟩,λhc15=>have hc15:=dF hc15;have hi2:g=nd x:=zo;⟨zd,(by subst hi2;rw[←hce.2.1];rfl),zd,(by subst hi2;rw[←hce.2.2];exact quo_i64 zo),rfl,(rf (dg (x*m+a) (g+1):Int)),zo,(oldS (λi0=>iN (dg (x*m+a) i0)) g),(λj0 hj0=>rfl),(rf (g+2:Nat)),(leS (λi0=>iN (dg (x*m+a) i0)) (g+2)),sTrim (x:=x*m+a) (n:=g+2) zo (by subst hi2;exact hce.1),(rf (nd (x*m+a):Nat)),(leS (λi0=>iN (dg (x*m+a) i0)) (nd (x*m+a)))⟩⟩⟩
theorem sSmall0{x m:Nat}(hx:nd x<=17179869184)(hm:m<=65536):CallOK Tryz.prog 141 [.dgs x (nd x),iN m,.ex (.int .i64 0)] (.dgs (x*m) (nd (x*m))) []:=sSmall (a:=0) hx hm zo
theorem sPower{k:Nat}(hk:k<=60):CallOK Tryz.prog 163 [iN k] (iN (2^k)) []:=by
 exact kP (ch:=[.loop 3 (Nat) (λg=>g<=k) (λg=>k-g) (λg=>⟨[(0,iN k),(3,iN (2^g)),(4,iN g)],[],0⟩) [] (λ_=>[]) (λg=>[.reg 5 [(1,.z ((2^(g+1):Nat):Int))],.reg 4 [(1,.z ((g+1:Nat):Int))]])]) Tryz.func163 ((((λX1:Prop=>∃g0:Nat,X1/\((1:Int)=((2^g0:Nat):Int))/\((0:Int)=(g0:Int))/\(g0<=k)) _)/\∀g:Nat,(g<=k)->(((decide ((g:Int)<(k:Int)))=true->(IntKind.wrap .i64 ((2:Int)*((2^g:Nat):Int))=(((2^(g+1):Nat):Int)))/\_/\((λX1:Prop=>∃g1:Nat,X1/\(((2^(g+1):Nat):Int)=((2^g1:Nat):Int))/\(((g+1:Nat):Int)=(g1:Int))/\(g1<=k)/\(k-g1<k-g)) _))/\((decide ((g:Int)<(k:Int)))=false->((((2^g:Nat):Int)=((2^k:Nat):Int)))))))
  ⟨⟨0,(rf (k:Int)),rfl,zo,zo⟩,λg hg=>⟨λhc7=>have hc7:=dT hc7;⟨(pow_i64 zo),(wI (g:=g) zo),g+1,(rf (k:Int)),zo,zo,zo,zo⟩,λhc7=>have hc7:=dF hc7;have hi2:g=k:=zo;(by rw[hi2])⟩⟩
theorem sRefShl{x k:Nat}(hx:nd x<=8589934592)(hk:k<=34359738368):CallOK Tryz.prog 140 [.dgs x (nd x),iN k] (.dgs (x*2^k) (nd (x*2^k))) []:=by
 have hp:=pow16_le (k:=k)
 have hq:=nd_mul x (2^(k%16))
 rw[nd_pow] at hq
 exact kP (ch:=[.loop 3 (Nat) (λg=>g<=k/16) (λg=>(k/16)-g) (λg=>⟨[(0,.dgs x (nd x)),(1,iN k),(5,.own 0 0),(6,iN g)],[(0,.one (.row 3 1 (λi0=>iN (dg (x*2^k) i0)) g))],1⟩) [(0,.nil)] (λ_=>[(0,.id 1)]) (λg=>[.reg 3 [(2,.z ((k/16:Nat):Int))],.reg 5 [(2,.row 0 (λi0=>iN (dg (x*2^k) i0)))],.reg 4 [(1,.z ((g+1:Nat):Int))],.reg 6 [(3,.z ((k%16:Nat):Int)),(4,.callS (iN (2^(k%16))) []),(5,.callS (.dgs (x*(2^(k%16))) (nd (x*(2^(k%16))))) []),(6,.row 0 (λi0=>iN (dg (x*2^k) i0)))],.conv 7 [] ⟨[(5,.dgs (x*2^k) (g+nd (x*2^(k%16))))],[],3⟩,.reg 7 [(1,.callS (.dgs (x*2^k) (nd (x*2^k))) [])]])]) Tryz.func140 ((∀j0,j0<(nd x)->True)/\(((λX1 X2 X3 X4:Prop=>∃g0:Nat,X1/\X2/\X3/\X4/\((0:Int)=(g0:Int))/\((g0:Nat)=0)/\(g0<=k/16)) _ _ _ _)/\∀g:Nat,(g<=k/16)->((16:Int)≠0)/\(IntKind.wrap .i64 ((k:Int).tdiv 16)=(((k/16:Nat):Int)))/\(((decide ((g:Int)<((k/16:Nat):Int)))=true->(g+1<=68719476736)/\_/\(∀j0,j0<1->((0:Int)=(dg (x*2^k) (g+j0):Int)))/\_/\((λX1 X2 X3 X4 X5:Prop=>∃g1:Nat,X1/\X2/\X3/\X4/\(((g+1:Nat):Int)=(g1:Int))/\((g+1:Nat)=g1)/\X5/\(g1<=k/16)/\((k/16)-g1<(k/16)-g)) _ _ _ _ _))/\((decide ((g:Int)<((k/16:Nat):Int)))=false->((16:Int)≠0)/\((k:Int).tmod 16=(((k%16:Nat):Int)))/\_/\_/\(g+(nd (x*(2^(k%16))))<=68719476736)/\_/\(∀j0,j0<(nd (x*(2^(k%16))))->(((dg (x*(2^(k%16))) j0:Nat):Int)=(dg (x*2^k) (g+j0):Int)))/\((g+(nd (x*(2^(k%16)))):Nat)=(g+nd (x*2^(k%16))))/\_/\_/\(_/\_)))))
  ⟨(λ_ _=>trivial),⟨0,(rf (nd x:Nat)),(leS (λi0=>iN (dg x i0)) (nd x)),(rf (k:Int)),(rf 0),zo,zo,zo⟩,λg hg=>⟨zd,(quo_i64 zo),λhc10=>have hc10:=dT hc10;⟨zo,(oldS (λi0=>iN (dg (x*2^k) i0)) g),(λj0 hj0=>(by rw[show j0=0 by omega,Nat.add_zero,dg_shl0 zo];rfl)),(wI (g:=g) zo),g+1,(rf (nd x:Nat)),(leS (λi0=>iN (dg x i0)) (nd x)),(rf (k:Int)),(rf 0),zo,zo,(leS (λi0=>iN (dg (x*2^k) i0)) (g+1)),zo,zo⟩,λhc10=>have hc10:=dF hc10;have hi2:g=k/16:=zo;⟨zd,rfl,sPower (k:=k%16) zo,sSmall0 (x:=x) (m:=2^(k%16)) zo zo,zo,(oldS (λi0=>iN (dg (x*2^k) i0)) g),(λj0 hj0=>(by rw[dg_shl hi2])),zo,(leS (λi0=>iN (dg (x*2^k) i0)) (g+(nd (x*(2^(k%16)))))),sTrim (x:=x*2^k) (n:=g+nd (x*2^(k%16))) zo (by subst hi2;exact mul_pow_lt),(rf (nd (x*2^k):Nat)),(leS (λi0=>iN (dg (x*2^k) i0)) (nd (x*2^k)))⟩⟩⟩
theorem sHalf{x m:Nat}(hx:nd x<=17179869184)(hm0:0<m)(hm:m<=65536):CallOK Tryz.prog 172 [.dgs x (nd x),iN m] (c2 (.dgs (x/m) (nd (x/m))) (iN (x%m))) []:=by
 exact kP (ch:=[.reg 1 [(2,.row (nd x) (λ_=>.ex (.int .i64 0)))],.loop 4 (Nat) (λg=>g<=nd x) (λg=>g) (λg=>⟨[(0,.dgs x (nd x)),(1,iN m),(6,.own 0 0),(7,iN (x/2^(16*g)%m)),(8,iZ ((g:Int)-1))],[(0,.one (.row 3 1 (λi0=>iN (dn g (x/m) i0)) (nd x)))],1⟩) [(0,.id 0)] (λ_=>[(0,.id 0)]) (λg=>[.reg 6 [(1,.z ((x/2^(16*g)%m*65536:Nat):Int)),(4,.k (g-1)),(6,.z ((x/2^(16*g)%m*65536+dg x (g-1):Nat):Int))],.reg 7 [(4,.z (dg (x/m) (g-1):Int)),(5,.k (g-1)),(6,.row 0 (λi0=>iN (dn (g-1) (x/m) i0)))],.reg 8 [(2,.z ((x/2^(16*(g-1))%m:Nat):Int))],.conv 9 [] ⟨[(6,.dgs (x/m) (nd x)),(7,iN (x%m))],[],1⟩,.reg 9 [(1,.callS (.dgs (x/m) (nd (x/m))) [])]])]) Tryz.func172 ((∀j0,j0<(nd x)->True)/\_/\_/\((nd x)<=68719476736)/\(∀j0,j0<(nd x)->((0:Int)=0))/\(IntKind.wrap .i64 (((nd x:Nat):Int)-1)=(((nd x:Nat):Int)-1))/\(((λX1 X2 X3 X4 X5:Prop=>∃g0:Nat,X1/\X2/\X3/\X4/\((0:Int)=((x/2^(16*g0)%m:Nat):Int))/\(((nd x:Int)-1:Int)=((g0:Int)-1))/\X5/\(∀j0,j0<(nd x)->((0:Int)=(dn g0 (x/m) j0:Int)))/\(g0<=nd x)) _ _ _ _ _)/\∀g:Nat,(g<=nd x)->(((decide ((0:Int)<=((g:Int)-1)))=true->(IntKind.wrap .i64 (((x/2^(16*g)%m:Nat):Int)*65536)=(((x/2^(16*g)%m*65536:Nat):Int)))/\(((g:Int)-1:Int)=((g-1:Nat):Int))/\((g-1)<(nd x))/\(IntKind.wrap .i64 (((x/2^(16*g)%m*65536:Nat):Int)+(dg x (g-1):Int))=(((x/2^(16*g)%m*65536+dg x (g-1):Nat):Int)))/\((m:Int)≠0)/\(IntKind.wrap .i64 (((x/2^(16*g)%m*65536+dg x (g-1):Nat):Int).tdiv (m:Int))=(((dg (x/m) (g-1):Nat):Int)))/\(((g:Int)-1:Int)=((g-1:Nat):Int))/\((g-1)<(nd x))/\((g-1)<(nd x))/\(((dg (x/m) (g-1):Int)=(dn (g-1) (x/m) (g-1):Int)))/\(∀t,t<(nd x)->t≠(g-1)->(iN (dn (g-1) (x/m) t):SV)=iN (dn g (x/m) t))/\((m:Int)≠0)/\(((x/2^(16*g)%m*65536+dg x (g-1):Nat):Int).tmod (m:Int)=(((x/2^(16*(g-1))%m:Nat):Int)))/\(IntKind.wrap .i64 (((g:Int)-1:Int)-1)=(((g:Int)-1:Int)-1))/\((λX1 X2 X3 X4 X5:Prop=>∃g1:Nat,X1/\X2/\X3/\X4/\(((x/2^(16*(g-1))%m:Nat):Int)=((x/2^(16*g1)%m:Nat):Int))/\((((g:Int)-1:Int)-1:Int)=((g1:Int)-1))/\X5/\(∀j0,j0<(nd x)->(((dn (g-1) (x/m) j0:Nat):Int)=(dn g1 (x/m) j0:Int)))/\(g1<=nd x)/\(g1<g)) _ _ _ _ _))/\((decide ((0:Int)<=((g:Int)-1)))=false->_/\(∀j0,j0<(nd x)->(((dn g (x/m) j0:Nat):Int)=(dg (x/m) j0:Int)))/\(((x/2^(16*g)%m:Nat):Int)=((x%m:Nat):Int))/\_/\(_/\_/\_)))))
  ⟨(λ_ _=>trivial),(rf (nd x:Int)),(rf (nd x:Int)),zo,(λj0 hj0=>rfl),(by rw[IntKind.wrap_i64];omega),⟨nd x,(rf (nd x:Nat)),(leS (λi0=>iN (dg x i0)) (nd x)),(rf (m:Int)),(rf 0),(by rw[nd_zero_div,Nat.zero_mod];rfl),zo,(rf (nd x:Nat)),(λj0 hj0=>(by rw[dn_lo zo];rfl)),zo⟩,λg hg=>⟨λhc17=>have hc17:=dT hc17;have hA:=Nat.mod_lt (x/2^(16*g)) hm0;have hD:=dg_lt x (g-1);have hst:=half_at (x:=x) hm0 (g:=g) zo;⟨(by rw[IntKind.wrap_i64];omega),zo,zo,(by rw[IntKind.wrap_i64];omega),zo,(by rw[←hst.2];exact quo_i64 zo),zo,zo,zo,(by rw[dn_hi (Nat.le_refl _)]),(λt ht hne=>by rw[dn_ne hne]),zo,(by rw[←hst.1];rfl),(by rw[IntKind.wrap_i64];omega),g-1,(rf (nd x:Nat)),(leS (λi0=>iN (dg x i0)) (nd x)),(rf (m:Int)),(rf 0),zo,zo,(rf (nd x:Nat)),(λj0 hj0=>zo),zo,zo⟩,λhc17=>have hc17:=dF hc17;have hi2:g=0:=zo;⟨(rf (nd x:Nat)),(λj0 hj0=>(by rw[dn_hi zo])),(by rw[hi2];simp),sTrim (x:=x/m) (n:=nd x) zo (kM (nd_div x m)),(rf (nd (x/m):Nat)),(leS (λi0=>iN (dg (x/m) i0)) (nd (x/m))),(rf ((x%m:Nat):Int))⟩⟩⟩
theorem sRefBits{x:Nat}(hx:nd x<=17179869184):CallOK Tryz.prog 149 [.dgs x (nd x)] (iN (Wd.blen x)) []:=by
 have hbn:Wd.blen x<=16*nd x:=by unfold nd;omega
 exact kP (ch:=[.reg 3 [(2,.z ((nd x-1:Nat):Int)),(3,.z ((16*(nd x-1):Nat):Int))],.reg 4 [(3,.z ((nd x-1:Nat):Int)),(4,.k (nd x-1))],.loop 5 (Nat) (λg=>g<65536/\Wd.blen g<=Wd.blen x) (λg=>g) (λg=>⟨[(3,iN (Wd.blen x-Wd.blen g)),(4,iN g)],[],0⟩) [] (λ_=>[]) (λg=>[.reg 7 [(1,.z ((Wd.blen x-Wd.blen g+1:Nat):Int))],.reg 6 [(1,.z ((g/2:Nat):Int))]])]) Tryz.func149 ((∀j0,j0<(nd x)->True)/\(((decide (((nd x:Nat):Int)=0))=true->(((0:Int)=(Wd.blen x:Int))))/\((decide (((nd x:Nat):Int)=0))=false->(IntKind.wrap .i64 (((nd x:Nat):Int)-1)=(((nd x-1:Nat):Int)))/\(IntKind.wrap .i64 ((16:Int)*((nd x-1:Nat):Int))=(((16*(nd x-1):Nat):Int)))/\(IntKind.wrap .i64 (((nd x:Nat):Int)-1)=(((nd x-1:Nat):Int)))/\_/\((nd x-1)<(nd x))/\((∃g0:Nat,(((16*(nd x-1):Nat):Int)=((Wd.blen x-Wd.blen g0:Nat):Int))/\(((dg x (nd x-1):Nat):Int)=(g0:Int))/\(g0<65536/\Wd.blen g0<=Wd.blen x))/\∀g:Nat,(g<65536/\Wd.blen g<=Wd.blen x)->(((decide ((0:Int)<(g:Int)))=true->(IntKind.wrap .i64 (((Wd.blen x-Wd.blen g:Nat):Int)+1)=(((Wd.blen x-Wd.blen g+1:Nat):Int)))/\((2:Int)≠0)/\(IntKind.wrap .i64 ((g:Int).tdiv 2)=(((g/2:Nat):Int)))/\(∃g1:Nat,(((Wd.blen x-Wd.blen g+1:Nat):Int)=((Wd.blen x-Wd.blen g1:Nat):Int))/\(((g/2:Nat):Int)=(g1:Int))/\(g1<65536/\Wd.blen g1<=Wd.blen x)/\(g1<g)))/\((decide ((0:Int)<(g:Int)))=false->((((Wd.blen x-Wd.blen g:Nat):Int)=(Wd.blen x:Int)))))))))
  ⟨(λ_ _=>trivial),λhc7=>have hc7:=dT hc7;have hx0:=(kT x).1 zo;(by rw[hx0];rfl),λhc7=>have hc7:=dF hc7;have hn0:nd x≠0:=zo;have hb:=blen_dg (x:=x) (λe=>hn0 ((kT x).2 e));⟨(by rw[IntKind.wrap_i64];omega),(by rw[IntKind.wrap_i64];omega),(by rw[IntKind.wrap_i64];omega),(rf ((nd x-1:Nat):Int)),zo,⟨dg x (nd x-1),zo,zo,dg_lt _ _,by omega⟩,λg hg=>have hg1:=hg.1;have hg2:=hg.2;⟨λhc19=>have hc19:=dT hc19;have hv:=blen_half (x:=g) zo;⟨(by rw[IntKind.wrap_i64];omega),zd,(quo_i64 zo),g/2,zo,zo,⟨by omega,by omega⟩,zo⟩,λhc19=>have hc19:=dF hc19;have hv:g=0:=zo;(by rw[hv];rfl)⟩⟩⟩
theorem sRefBit{x k:Nat}(hk:k<=1099511627776):CallOK Tryz.prog 161 [.dgs x (nd x),iN k] (iN (x/2^k%2)) []:=by
 have h1:=dg_lt x (k/16)
 have h2:=Nat.pow_pos (n:=k%16) (show 0<2 by decide)
 exact kP (ch:=[.dec 6 false,.reg 3 [(2,.z ((k/16:Nat):Int)),(3,.callS (iN (dg x (k/16))) []),(5,.z ((k%16:Nat):Int)),(6,.callS (iN (2^(k%16))) []),(7,.z ((dg x (k/16)/2^(k%16):Nat):Int)),(8,.z ((x/2^k%2:Nat):Int))]]) Tryz.func161 ((∀j0,j0<(nd x)->True)/\((decide ((k:Int)<0))=false)/\((16:Int)≠0)/\(IntKind.wrap .i64 ((k:Int).tdiv 16)=(((k/16:Nat):Int)))/\_/\((16:Int)≠0)/\((k:Int).tmod 16=(((k%16:Nat):Int)))/\_/\(((2^(k%16):Nat):Int)≠0)/\(IntKind.wrap .i64 (((dg x (k/16):Nat):Int).tdiv ((2^(k%16):Nat):Int))=(((dg x (k/16)/2^(k%16):Nat):Int)))/\((2:Int)≠0)/\(((dg x (k/16)/2^(k%16):Nat):Int).tmod 2=(((x/2^k%2:Nat):Int)))/\(_))
  ⟨(λ_ _=>trivial),(decide_eq_false zo),zd,(quo_i64 zo),sDigit (x:=x) (k:=k/16),zd,rfl,sPower (k:=k%16) zo,zo,(quo_i64 zo),zd,(by rw[←bit_dg];rfl),(rf ((x/2^k%2:Nat):Int))⟩
theorem sRefCmp{x y:Nat}(hx:nd x<=17179869184):CallOK Tryz.prog 142 [.dgs x (nd x),.dgs y (nd y)] (iZ (cmpN x y)) []:=by
 exact kP (ch:=[.loop 6 (Nat) (λg=>g<=nd x/\x/2^(16*g)=y/2^(16*g)) (λg=>g) (λg=>⟨[(0,.dgs x (nd x)),(1,.dgs y (nd y)),(5,iZ ((g:Int)-1))],[],0⟩) [] (λ_=>[]) (λg=>[.reg 8 [(2,.k (g-1)),(6,.k (g-1))],.reg 10 [(2,.k (g-1)),(6,.k (g-1))]])]) Tryz.func142 ((∀j0,j0<(nd x)->True)/\(∀j0,j0<(nd y)->True)/\(((!decide (((nd x:Nat):Int)=(nd y:Int)))=true->(((decide (((nd x:Nat):Int)<(nd y:Int)))=true->(((-1:Int)=(cmpN x y))))/\((decide (((nd x:Nat):Int)<(nd y:Int)))=false->(((1:Int)=(cmpN x y))))))/\((!decide (((nd x:Nat):Int)=(nd y:Int)))=false->(IntKind.wrap .i64 (((nd x:Nat):Int)-1)=(((nd x:Nat):Int)-1))/\(((λX1 X2 X3 X4:Prop=>∃g0:Nat,X1/\X2/\X3/\X4/\(((nd x:Int)-1:Int)=((g0:Int)-1))/\(g0<=nd x/\x/2^(16*g0)=y/2^(16*g0))) _ _ _ _)/\∀g:Nat,(g<=nd x/\x/2^(16*g)=y/2^(16*g))->(((decide ((0:Int)<=((g:Int)-1)))=true->(((g:Int)-1:Int)=((g-1:Nat):Int))/\((g-1)<(nd x))/\(((g:Int)-1:Int)=((g-1:Nat):Int))/\((g-1)<(nd y))/\(((decide (((dg x (g-1):Nat):Int)<(dg y (g-1):Int)))=true->(((-1:Int)=(cmpN x y))))/\((decide (((dg x (g-1):Nat):Int)<(dg y (g-1):Int)))=false->(((g:Int)-1:Int)=((g-1:Nat):Int))/\((g-1)<(nd x))/\(((g:Int)-1:Int)=((g-1:Nat):Int))/\((g-1)<(nd y))/\(((decide (((dg y (g-1):Nat):Int)<(dg x (g-1):Int)))=true->(((1:Int)=(cmpN x y))))/\((decide (((dg y (g-1):Nat):Int)<(dg x (g-1):Int)))=false->(IntKind.wrap .i64 (((g:Int)-1:Int)-1)=(((g:Int)-1:Int)-1))/\((λX1 X2 X3 X4:Prop=>∃g1:Nat,X1/\X2/\X3/\X4/\((((g:Int)-1:Int)-1:Int)=((g1:Int)-1))/\(g1<=nd x/\x/2^(16*g1)=y/2^(16*g1))/\(g1<g)) _ _ _ _))))))/\((decide ((0:Int)<=((g:Int)-1)))=false->(((0:Int)=(cmpN x y)))))))))
  ⟨(λ_ _=>trivial),(λ_ _=>trivial),λhc10=>have hn:nd x≠nd y:=(by have h:=hc10;simp at h;omega);⟨λhc15=>have hc15:=dT hc15;(cmpN_len zo).symm,λhc15=>have hc15:=dF hc15;(cmpN_len' zo).symm⟩,λhc10=>have hn:nd x=nd y:=(by have h:=hc10;simp at h;omega);⟨(by rw[IntKind.wrap_i64];omega),⟨nd x,(rf (nd x:Nat)),(leS (λi0=>iN (dg x i0)) (nd x)),(rf (nd y:Nat)),(leS (λi0=>iN (dg y i0)) (nd y)),zo,Nat.le_refl _,by rw[nd_zero_div,Nat.div_eq_of_lt (kM zo)]⟩,λg hg=>have hg1:=hg.1;⟨λhc20=>have hc20:=dT hc20;have he:x/2^(16*(g-1+1))=y/2^(16*(g-1+1)):=(by rw[show g-1+1=g by omega];exact hg.2);⟨zo,zo,zo,zo,λhc31=>have hc31:=dT hc31;(cmpN_lt he zo).symm,λhc31=>have hc31:=dF hc31;⟨zo,zo,zo,zo,λhc40=>have hc40:=dT hc40;(cmpN_gt he zo).symm,λhc40=>have hc40:=dF hc40;⟨(by rw[IntKind.wrap_i64];omega),g-1,(rf (nd x:Nat)),(leS (λi0=>iN (dg x i0)) (nd x)),(rf (nd y:Nat)),(leS (λi0=>iN (dg y i0)) (nd y)),zo,⟨by omega,eq_step16 he zo zo⟩,zo⟩⟩⟩,λhc20=>have hc20:=dF hc20;(cmpN_self (by rw[show 0=g by omega];exact hg.2)).symm⟩⟩⟩
theorem div_step{n d g:Nat}(hd:0<d)(hg:0<g):(n/2^g%d*2+n/2^(g-1)%2<d->n/2^g/d*2=n/2^(g-1)/d/\n/2^g%d*2+n/2^(g-1)%2=n/2^(g-1)%d)/\(d<=n/2^g%d*2+n/2^(g-1)%2->n/2^g/d*2+1=n/2^(g-1)/d/\n/2^g%d*2+n/2^(g-1)%2-d=n/2^(g-1)%d):=by
 have h:=bits_step n (g-1)
 rw[show g-1+1=g by omega] at h
 have hb:n/2^(g-1)%2<=1:=by omega
 have k:=div_bit (n:=n/2^g) (b:=n/2^(g-1)%2) hd rfl rfl hb
 rw[←h] at k
 exact⟨λe=>⟨(k.1 e).1.symm,(k.1 e).2.symm⟩,λe=>⟨(k.2 e).1.symm,(k.2 e).2.symm⟩⟩
theorem sRefDivMod{n d:Nat}(hn:nd n<=4294967296)(hd0:0<d):CallOK Tryz.prog 138 [.dgs n (nd n),.dgs d (nd d)] (c2 (.dgs (n/d) (nd (n/d))) (.dgs (n%d) (nd (n%d)))) []:=by
 have hz:n/2^Wd.blen n=0:=Nat.div_eq_of_lt (Wd.lt_two_pow_blen n)
 have hbn:Wd.blen n<=16*nd n:=by unfold nd;omega
 exact kP (ch:=[.reg 2 [(1,.callS (iN (Wd.blen n)) [])],.loop 3 (Nat) (λg=>g<=Wd.blen n) (λg=>g) (λg=>⟨[(0,.dgs n (nd n)),(1,.dgs d (nd d)),(6,.dgs (n/2^g/d) (nd (n/2^g/d))),(7,.dgs (n/2^g%d) (nd (n/2^g%d))),(8,iZ ((g:Int)-1))],[],0⟩) [] (λ_=>[]) (λg=>[.reg 5 [(3,.call [.dgs n (nd n),iN (g-1)] (iN (n/2^(g-1)%2)) []),(4,.call [.dgs (n/2^g%d) (nd (n/2^g%d)),iN 2,iN (n/2^(g-1)%2)] (.dgs ((n/2^g%d)*2+(n/2^(g-1)%2)) (nd ((n/2^g%d)*2+(n/2^(g-1)%2)))) [])],.reg 6 [(1,.call [.dgs (n/2^g/d) (nd (n/2^g/d)),iN 2,.ex (.int .i64 0)] (.dgs ((n/2^g/d)*2) (nd ((n/2^g/d)*2))) [])],.reg 7 [(2,.callS (iZ (cmpN ((n/2^g%d)*2+(n/2^(g-1)%2)) d)) [])],.reg 8 [(2,.callS (.dgs (((n/2^g%d)*2+(n/2^(g-1)%2))-d) (nd (((n/2^g%d)*2+(n/2^(g-1)%2))-d))) [])],.reg 9 [(2,.call [.dgs ((n/2^g/d)*2) (nd ((n/2^g/d)*2)),.dgs 1 (nd 1)] (.dgs (((n/2^g/d)*2)+1) (nd (((n/2^g/d)*2)+1))) [])]])]) Tryz.func138 ((∀j0,j0<(nd n)->True)/\(∀j0,j0<(nd d)->True)/\_/\(IntKind.wrap .i64 (((Wd.blen n:Nat):Int)-1)=(((Wd.blen n:Nat):Int)-1))/\(((λX1 X2 X3 X4:Prop=>∃g0:Nat,X1/\X2/\X3/\X4/\((nd (n/2^g0/d):Nat)=0)/\((nd (n/2^g0%d):Nat)=0)/\(((Wd.blen n:Int)-1:Int)=((g0:Int)-1))/\(g0<=Wd.blen n)) _ _ _ _)/\∀g:Nat,(g<=Wd.blen n)->(((decide ((0:Int)<=((g:Int)-1)))=true->_/\_/\_/\(((g:Int)-1:Int)=((g-1:Nat):Int))/\_/\_/\_/\((2:Int)=((2:Nat):Int))/\_/\_/\_/\_/\((2:Int)=((2:Nat):Int))/\_/\_/\(((decide ((0:Int)<=(cmpN ((n/2^g%d)*2+(n/2^(g-1)%2)) d)))=true->_/\_/\_/\_/\((1:Nat)=(nd 1))/\(∀j0,j0<1->((1:Int)=(dg 1 j0:Int)))/\(IntKind.wrap .i64 (((g:Int)-1:Int)-1)=(((g:Int)-1:Int)-1))/\((λX1 X2 X3 X4:Prop=>∃g1:Nat,X1/\X2/\X3/\X4/\((nd (((n/2^g/d)*2)+1):Nat)=(nd (n/2^g1/d)))/\(∀j0,j0<(nd (((n/2^g/d)*2)+1))->(((dg (((n/2^g/d)*2)+1) j0:Nat):Int)=(dg (n/2^g1/d) j0:Int)))/\((nd (((n/2^g%d)*2+(n/2^(g-1)%2))-d):Nat)=(nd (n/2^g1%d)))/\(∀j0,j0<(nd (((n/2^g%d)*2+(n/2^(g-1)%2))-d))->(((dg (((n/2^g%d)*2+(n/2^(g-1)%2))-d) j0:Nat):Int)=(dg (n/2^g1%d) j0:Int)))/\((((g:Int)-1:Int)-1:Int)=((g1:Int)-1))/\(g1<=Wd.blen n)/\(g1<g)) _ _ _ _))/\((decide ((0:Int)<=(cmpN ((n/2^g%d)*2+(n/2^(g-1)%2)) d)))=false->(IntKind.wrap .i64 (((g:Int)-1:Int)-1)=(((g:Int)-1:Int)-1))/\((λX1 X2 X3 X4:Prop=>∃g1:Nat,X1/\X2/\X3/\X4/\((nd ((n/2^g/d)*2):Nat)=(nd (n/2^g1/d)))/\(∀j0,j0<(nd ((n/2^g/d)*2))->(((dg ((n/2^g/d)*2) j0:Nat):Int)=(dg (n/2^g1/d) j0:Int)))/\((nd ((n/2^g%d)*2+(n/2^(g-1)%2)):Nat)=(nd (n/2^g1%d)))/\(∀j0,j0<(nd ((n/2^g%d)*2+(n/2^(g-1)%2)))->(((dg ((n/2^g%d)*2+(n/2^(g-1)%2)) j0:Nat):Int)=(dg (n/2^g1%d) j0:Int)))/\((((g:Int)-1:Int)-1:Int)=((g1:Int)-1))/\(g1<=Wd.blen n)/\(g1<g)) _ _ _ _))))/\((decide ((0:Int)<=((g:Int)-1)))=false->(((nd (n/2^g/d):Nat)=(nd (n/d)))/\(∀j0,j0<(nd (n/2^g/d))->(((dg (n/2^g/d) j0:Nat):Int)=(dg (n/d) j0:Int)))/\((nd (n/2^g%d):Nat)=(nd (n%d)))/\(∀j0,j0<(nd (n/2^g%d))->(((dg (n/2^g%d) j0:Nat):Int)=(dg (n%d) j0:Int))))))))
  ⟨(λ_ _=>trivial),(λ_ _=>trivial),sRefBits (x:=n) zo,(by rw[IntKind.wrap_i64];omega),⟨Wd.blen n,(rf (nd n:Nat)),(leS (λi0=>iN (dg n i0)) (nd n)),(rf (nd d:Nat)),(leS (λi0=>iN (dg d i0)) (nd d)),(by rw[hz,Nat.zero_div];rfl),(by rw[hz,Nat.zero_mod];rfl),zo,zo⟩,λg hg=>⟨λhc13=>have hc13:=dT hc13;have hb:=div_step hd0 (n:=n) (g:=g) zo;have h1:=nd_mod (n/2^g) d;have h2:=nd_div n (2^g);have h3:=nd_div (n/2^g) d;have h4:=nd_x2 (n/2^g/d);have h5:=nd_x2 (n/2^g%d);have h6:=nd_add (n/2^g%d*2) (n/2^(g-1)%2);have h7:nd (n/2^(g-1)%2)<=1:=((nd_le _ 1).2 (by have:=Nat.mod_lt (n/2^(g-1)) (show 0<2 by decide);omega));⟨sRefBit (x:=n) (k:=g-1) zo,(rf (nd n:Nat)),(leS (λi0=>iN (dg n i0)) (nd n)),zo,sSmall (x:=n/2^g%d) (m:=2) (a:=n/2^(g-1)%2) zo zo zo,(rf (nd (n/2^g%d):Nat)),(leS (λi0=>iN (dg (n/2^g%d) i0)) (nd (n/2^g%d))),rfl,(rf ((n/2^(g-1)%2:Nat):Int)),sSmall0 (x:=n/2^g/d) (m:=2) zo zo,(rf (nd (n/2^g/d):Nat)),(leS (λi0=>iN (dg (n/2^g/d) i0)) (nd (n/2^g/d))),rfl,(rf (0:Int)),sRefCmp (x:=(n/2^g%d)*2+(n/2^(g-1)%2)) (y:=d) zo,λhc26=>have hc26:=dT hc26;have hge:=cmpN_ge.1 hc26;have hq:=(hb.2 hge).1;have hr:=(hb.2 hge).2;⟨sRefSub (x:=(n/2^g%d)*2+(n/2^(g-1)%2)) (y:=d) zo zo,sRefAdd (x:=(n/2^g/d)*2) (y:=1) zo (by rw[nd_one];omega),(rf (nd ((n/2^g/d)*2):Nat)),(leS (λi0=>iN (dg ((n/2^g/d)*2) i0)) (nd ((n/2^g/d)*2))),rfl,(λj0 hj0=>(by rw[show j0=0 by omega];rfl)),(by rw[IntKind.wrap_i64];omega),g-1,(rf (nd n:Nat)),(leS (λi0=>iN (dg n i0)) (nd n)),(rf (nd d:Nat)),(leS (λi0=>iN (dg d i0)) (nd d)),(by rw[hq]),(λj0 hj0=>(by rw[hq])),(by rw[hr]),(λj0 hj0=>(by rw[hr])),zo,zo,zo⟩,λhc26=>have hc26:=dF hc26;have hlt:=Nat.lt_of_not_le (λe=>hc26 (cmpN_ge.2 e));have hq:=(hb.1 hlt).1;have hr:=(hb.1 hlt).2;⟨(by rw[IntKind.wrap_i64];omega),g-1,(rf (nd n:Nat)),(leS (λi0=>iN (dg n i0)) (nd n)),(rf (nd d:Nat)),(leS (λi0=>iN (dg d i0)) (nd d)),(by rw[hq]),(λj0 hj0=>(by rw[hq])),(by rw[hr]),(λj0 hj0=>(by rw[hr])),zo,zo,zo⟩⟩,λhc13=>have hc13:=dF hc13;have hi2:g=0:=zo;⟨(by rw[hi2];simp),(λj0 hj0=>(by rw[hi2];simp)),(by rw[hi2];simp),(λj0 hj0=>(by rw[hi2];simp))⟩⟩⟩
open Go.RowKit
theorem gcd_odd_2{a b:Nat}(ha:a%2=1)(hb:b%2=0):Nat.gcd a (b/2)=Nat.gcd a b:=by
 rw[Nat.gcd_comm,gcd_2_odd hb ha,Nat.gcd_comm]
theorem gcd_stp{q b:Nat}(hq:0<q)(hb:0<b)(ho:q%2=1)(hb2:b%2=1):Nat.gcd q b=Nat.gcd (max q b-min q b) (min q b)/\0<min q b/\min q b%2=1/\(max q b-min q b)+min q b<q+b/\max q b-min q b<=max q b/\min q b<=max q b:=by
 by_cases h:q<b
 ·rw[Nat.max_eq_right (Nat.le_of_lt h),Nat.min_eq_left (Nat.le_of_lt h)]
  exact⟨by rw[gcd_sub_left' (Nat.le_of_lt h),Nat.gcd_comm],hq,ho,by omega,by omega,by omega⟩
 ·rw[Nat.max_eq_left (Nat.le_of_not_lt h),Nat.min_eq_right (Nat.le_of_not_lt h)]
  exact⟨by rw[gcd_sub_left' (Nat.le_of_not_lt h)],hb,hb2,by omega,by omega,by omega⟩
theorem pow_lt_nd{a t x:Nat}(h:a*2^t=x)(ha:0<a):t<16*nd x:=by
 have h1:2^t<=x:=by rw[←h];exact Nat.le_mul_of_pos_left _ ha
 exact(Nat.pow_lt_pow_iff_right (a:=2) zd).1 (Nat.lt_of_le_of_lt h1 (lt_nd x))
theorem halve_inv{x y a b t:Nat}(h:Nat.gcd x y=Nat.gcd a b*2^t/\a*2^t=x/\0<a/\0<b/\nd b<=nd y/\nd a<=nd x)(ha:a%2=0)(hb:b%2=0):
  Nat.gcd x y=Nat.gcd (a/2) (b/2)*2^(t+1)/\a/2*2^(t+1)=x/\0<a/2/\0<b/2/\nd (b/2)<=nd y/\nd (a/2)<=nd x:=by
 obtain⟨h1,h2,h3,h4,h5,h6⟩:=h
 have:=nd_div b 2
 have:=nd_div a 2
 refine⟨by rw[h1,gcd_2_2 ha hb,Nat.pow_succ,Nat.mul_assoc,Nat.mul_comm 2],?_,by omega,by omega,by omega,by omega⟩
 rw[Nat.pow_succ,Nat.mul_comm (2^t),←Nat.mul_assoc,show a/2*2=a by omega,h2]
instance fzF:Fz:=⟨false,none⟩
instance fzT2:Fz:=⟨true,some (.iface 169 (.agg #[.pointer (some ⟨1,37,none⟩)]))⟩
theorem sEven{x:Nat}:CallOK Tryz.prog 159 [.dgs x (nd x)] (bX (decide (((x%2:Nat):Int)=0))) []:=by
 exact kP (ch:=[.reg 1 [(1,.call [.dgs x (nd x),iN 0] (iN (dg x 0)) []),(2,.z ((x%2:Nat):Int))]]) Tryz.func159 ((∀j0,j0<(nd x)->True)/\_/\_/\_/\((0:Int)=((0:Nat):Int))/\((2:Int)≠0)/\(((dg x 0:Nat):Int).tmod 2=(((x%2:Nat):Int)))/\(_))
  ⟨(λ_ _=>trivial),sDigit (x:=x) (k:=0),(rf (nd x:Nat)),(leS (λi0=>iN (dg x i0)) (nd x)),rfl,zd,(by rw[even_dg];rfl),(rf (decide (((x%2:Nat):Int)=0):Bool))⟩
theorem sHalved{x:Nat}(hx:nd x<=17179869184):CallOK Tryz.prog 160 [.dgs x (nd x)] (.dgs (x/2) (nd (x/2))) []:=by
 exact kP (ch:=[.reg 1 [(1,.call [.dgs x (nd x),iN 2] (c2 (.dgs (x/2) (nd (x/2))) (iN (x%2))) [])]]) Tryz.func160 ((∀j0,j0<(nd x)->True)/\_/\_/\_/\((2:Int)=((2:Nat):Int))/\(_/\_))
  ⟨(λ_ _=>trivial),sHalf (x:=x) (m:=2) zo zo zo,(rf (nd x:Nat)),(leS (λi0=>iN (dg x i0)) (nd x)),rfl,(rf (nd (x/2):Nat)),(leS (λi0=>iN (dg (x/2) i0)) (nd (x/2)))⟩
theorem sRefGcd{x y:Nat}(hx:nd x<=1073741824)(hy:nd y<=1073741824):CallOK Tryz.prog 137 [.dgs x (nd x),.dgs y (nd y)] (.dgs (Nat.gcd x y) (nd (Nat.gcd x y))) []:=by
 exact kP (ch:=[.loop 6 (Nat×Nat×Nat) (λg=>Nat.gcd x y=Nat.gcd g.1 g.2.1*2^g.2.2/\g.1*2^g.2.2=x/\0<g.1/\0<g.2.1/\nd g.2.1<=nd y/\nd g.1<=nd x) (λg=>g.1) (λg=>⟨[(0,.dgs g.1 (nd g.1)),(1,.dgs g.2.1 (nd g.2.1)),(5,iN (g.2.2))],[],0⟩) [] (λ_=>[]) (λg=>[.reg 6 [(1,.callS (bX (decide (((g.1%2:Nat):Int)=0))) []),(4,.callS (bX (decide (((g.2.1%2:Nat):Int)=0))) [])],.reg 7 [(1,.callS (.dgs (g.1/2) (nd (g.1/2))) [])],.reg 8 [(1,.callS (.dgs (g.2.1/2) (nd (g.2.1/2))) [])],.reg 9 [(1,.z ((g.2.2+1:Nat):Int))],.loop 10 (Nat) (λh=>Nat.gcd g.1 g.2.1=Nat.gcd g.1 h/\0<h/\(g.1%2=1∨h%2=1)/\nd h<=nd y) (λh=>h) (λh=>⟨[(0,.dgs g.1 (nd g.1)),(1,.dgs h (nd h)),(5,iN (g.2.2))],[],0⟩) [] (λ_=>[]) (λh=>[.reg 10 [(1,.callS (bX (decide (((h%2:Nat):Int)=0))) [])],.reg 11 [(1,.callS (.dgs (h/2) (nd (h/2))) [])],.loop 12 (Nat×Nat) (λp=>Nat.gcd g.1 g.2.1=Nat.gcd p.1 p.2/\0<p.2/\p.2%2=1/\nd p.1<=max (nd x) (nd y)/\nd p.2<=max (nd x) (nd y)) (λp=>p.1+p.2) (λp=>⟨[(0,.dgs p.1 (nd p.1)),(1,.dgs p.2 (nd p.2)),(5,iN (g.2.2))],[],0⟩) [] (λ_=>[]) (λp=>[.loop 13 (Nat) (λq=>Nat.gcd p.1 p.2=Nat.gcd q p.2/\0<q/\q<=p.1) (λq=>q) (λq=>⟨[(0,.dgs q (nd q)),(1,.dgs p.2 (nd p.2)),(5,iN (g.2.2))],[],0⟩) [] (λ_=>[]) (λq=>[.reg 13 [(1,.callS (bX (decide (((q%2:Nat):Int)=0))) [])],.reg 14 [(1,.callS (.dgs (q/2) (nd (q/2))) [])],.reg 15 [(2,.callS (iZ (cmpN q p.2)) [])],.conv 19 [] ⟨[(0,.dgs (max q p.2) (nd (max q p.2))),(1,.dgs (min q p.2) (nd (min q p.2))),(5,iN (g.2.2))],[],0⟩,.reg 19 [(2,.callS (.dgs ((max q p.2)-(min q p.2)) (nd ((max q p.2)-(min q p.2)))) [])],.conv 19 [] ⟨[(0,.dgs (max q p.2) (nd (max q p.2))),(1,.dgs (min q p.2) (nd (min q p.2))),(5,iN (g.2.2))],[],0⟩,.reg 19 [(2,.callS (.dgs ((max q p.2)-(min q p.2)) (nd ((max q p.2)-(min q p.2)))) [])]]),.reg 20 [(2,.callS (.dgs (p.2*2^g.2.2) (nd (p.2*2^g.2.2))) [])]])])])]) Tryz.func137 ((∀j0,j0<(nd x)->True)/\(∀j0,j0<(nd y)->True)/\(((decide (((nd x:Nat):Int)=0))=true->(((nd y:Nat)=(nd (Nat.gcd x y)))/\(∀j0,j0<(nd y)->(((dg y j0:Nat):Int)=(dg (Nat.gcd x y) j0:Int)))))/\((decide (((nd x:Nat):Int)=0))=false->(((decide (((nd y:Nat):Int)=0))=true->(((nd x:Nat)=(nd (Nat.gcd x y)))/\(∀j0,j0<(nd x)->(((dg x j0:Nat):Int)=(dg (Nat.gcd x y) j0:Int)))))/\((decide (((nd y:Nat):Int)=0))=false->((∃g0:Nat×Nat×Nat,((nd x:Nat)=(nd g0.1))/\(∀j0,j0<(nd x)->(((dg x j0:Nat):Int)=(dg g0.1 j0:Int)))/\((nd y:Nat)=(nd g0.2.1))/\(∀j0,j0<(nd y)->(((dg y j0:Nat):Int)=(dg g0.2.1 j0:Int)))/\((0:Int)=((g0.2.2:Nat):Int))/\(Nat.gcd x y=Nat.gcd g0.1 g0.2.1*2^g0.2.2/\g0.1*2^g0.2.2=x/\0<g0.1/\0<g0.2.1/\nd g0.2.1<=nd y/\nd g0.1<=nd x))/\∀g:Nat×Nat×Nat,(Nat.gcd x y=Nat.gcd g.1 g.2.1*2^g.2.2/\g.1*2^g.2.2=x/\0<g.1/\0<g.2.1/\nd g.2.1<=nd y/\nd g.1<=nd x)->_/\_/\(((decide (((g.1%2:Nat):Int)=0))==true)=true->_)/\((decide (((g.1%2:Nat):Int)=0))=true->((decide (((g.1%2:Nat):Int)=0))==true)=true)/\(((bif (decide (((g.1%2:Nat):Int)=0)) then(decide (((g.2.1%2:Nat):Int)=0)) else false)=true->_/\_/\_/\(∃g1:Nat×Nat×Nat,((nd (g.1/2):Nat)=(nd g1.1))/\(∀j0,j0<(nd (g.1/2))->(((dg (g.1/2) j0:Nat):Int)=(dg g1.1 j0:Int)))/\((nd (g.2.1/2):Nat)=(nd g1.2.1))/\(∀j0,j0<(nd (g.2.1/2))->(((dg (g.2.1/2) j0:Nat):Int)=(dg g1.2.1 j0:Int)))/\(((g.2.2+1:Nat):Int)=((g1.2.2:Nat):Int))/\(Nat.gcd x y=Nat.gcd g1.1 g1.2.1*2^g1.2.2/\g1.1*2^g1.2.2=x/\0<g1.1/\0<g1.2.1/\nd g1.2.1<=nd y/\nd g1.1<=nd x)/\(g1.1<g.1)))/\((bif (decide (((g.1%2:Nat):Int)=0)) then(decide (((g.2.1%2:Nat):Int)=0)) else false)=false->(((λX1 X2 X3:Prop=>∃h0:Nat,X1/\X2/\((nd g.2.1:Nat)=(nd h0))/\(∀j0,j0<(nd g.2.1)->(((dg g.2.1 j0:Nat):Int)=(dg h0 j0:Int)))/\X3/\(Nat.gcd g.1 g.2.1=Nat.gcd g.1 h0/\0<h0/\(g.1%2=1∨h0%2=1)/\nd h0<=nd y)) _ _ _)/\∀h:Nat,(Nat.gcd g.1 g.2.1=Nat.gcd g.1 h/\0<h/\(g.1%2=1∨h%2=1)/\nd h<=nd y)->_/\(((decide (((h%2:Nat):Int)=0))=true->_/\((λX1 X2 X3:Prop=>∃h1:Nat,X1/\X2/\((nd (h/2):Nat)=(nd h1))/\(∀j0,j0<(nd (h/2))->(((dg (h/2) j0:Nat):Int)=(dg h1 j0:Int)))/\X3/\(Nat.gcd g.1 g.2.1=Nat.gcd g.1 h1/\0<h1/\(g.1%2=1∨h1%2=1)/\nd h1<=nd y)/\(h1<h)) _ _ _))/\((decide (((h%2:Nat):Int)=0))=false->(((λX1:Prop=>∃p0:Nat×Nat,((nd g.1:Nat)=(nd p0.1))/\(∀j0,j0<(nd g.1)->(((dg g.1 j0:Nat):Int)=(dg p0.1 j0:Int)))/\((nd h:Nat)=(nd p0.2))/\(∀j0,j0<(nd h)->(((dg h j0:Nat):Int)=(dg p0.2 j0:Int)))/\X1/\(Nat.gcd g.1 g.2.1=Nat.gcd p0.1 p0.2/\0<p0.2/\p0.2%2=1/\nd p0.1<=max (nd x) (nd y)/\nd p0.2<=max (nd x) (nd y))) _)/\∀p:Nat×Nat,(Nat.gcd g.1 g.2.1=Nat.gcd p.1 p.2/\0<p.2/\p.2%2=1/\nd p.1<=max (nd x) (nd y)/\nd p.2<=max (nd x) (nd y))->(((decide ((0:Int)<(nd p.1:Int)))=true->(((λX1 X2 X3:Prop=>∃q0:Nat,((nd p.1:Nat)=(nd q0))/\(∀j0,j0<(nd p.1)->(((dg p.1 j0:Nat):Int)=(dg q0 j0:Int)))/\X1/\X2/\X3/\(Nat.gcd p.1 p.2=Nat.gcd q0 p.2/\0<q0/\q0<=p.1)) _ _ _)/\∀q:Nat,(Nat.gcd p.1 p.2=Nat.gcd q p.2/\0<q/\q<=p.1)->_/\(((decide (((q%2:Nat):Int)=0))=true->_/\((λX1 X2 X3:Prop=>∃q1:Nat,((nd (q/2):Nat)=(nd q1))/\(∀j0,j0<(nd (q/2))->(((dg (q/2) j0:Nat):Int)=(dg q1 j0:Int)))/\X1/\X2/\X3/\(Nat.gcd p.1 p.2=Nat.gcd q1 p.2/\0<q1/\q1<=p.1)/\(q1<q)) _ _ _))/\((decide (((q%2:Nat):Int)=0))=false->_/\(((decide ((cmpN q p.2:Int)<0))=true->((nd p.2:Nat)=(nd (max q p.2)))/\(∀j0,j0<(nd p.2)->(((dg p.2 j0:Nat):Int)=(dg (max q p.2) j0:Int)))/\((nd q:Nat)=(nd (min q p.2)))/\(∀j0,j0<(nd q)->(((dg q j0:Nat):Int)=(dg (min q p.2) j0:Int)))/\_/\_/\((λX1:Prop=>∃p1:Nat×Nat,((nd ((max q p.2)-(min q p.2)):Nat)=(nd p1.1))/\(∀j0,j0<(nd ((max q p.2)-(min q p.2)))->(((dg ((max q p.2)-(min q p.2)) j0:Nat):Int)=(dg p1.1 j0:Int)))/\((nd (min q p.2):Nat)=(nd p1.2))/\(∀j0,j0<(nd (min q p.2))->(((dg (min q p.2) j0:Nat):Int)=(dg p1.2 j0:Int)))/\X1/\(Nat.gcd g.1 g.2.1=Nat.gcd p1.1 p1.2/\0<p1.2/\p1.2%2=1/\nd p1.1<=max (nd x) (nd y)/\nd p1.2<=max (nd x) (nd y))/\(p1.1+p1.2<p.1+p.2)) _))/\((decide ((cmpN q p.2:Int)<0))=false->((nd q:Nat)=(nd (max q p.2)))/\(∀j0,j0<(nd q)->(((dg q j0:Nat):Int)=(dg (max q p.2) j0:Int)))/\((nd p.2:Nat)=(nd (min q p.2)))/\(∀j0,j0<(nd p.2)->(((dg p.2 j0:Nat):Int)=(dg (min q p.2) j0:Int)))/\_/\_/\((λX1:Prop=>∃p1:Nat×Nat,((nd ((max q p.2)-(min q p.2)):Nat)=(nd p1.1))/\(∀j0,j0<(nd ((max q p.2)-(min q p.2)))->(((dg ((max q p.2)-(min q p.2)) j0:Nat):Int)=(dg p1.1 j0:Int)))/\((nd (min q p.2):Nat)=(nd p1.2))/\(∀j0,j0<(nd (min q p.2))->(((dg (min q p.2) j0:Nat):Int)=(dg p1.2 j0:Int)))/\X1/\(Nat.gcd g.1 g.2.1=Nat.gcd p1.1 p1.2/\0<p1.2/\p1.2%2=1/\nd p1.1<=max (nd x) (nd y)/\nd p1.2<=max (nd x) (nd y))/\(p1.1+p1.2<p.1+p.2)) _)))))))/\((decide ((0:Int)<(nd p.1:Int)))=false->_/\(((nd (p.2*2^g.2.2):Nat)=(nd (Nat.gcd x y)))/\(∀j0,j0<(nd (p.2*2^g.2.2))->(((dg (p.2*2^g.2.2) j0:Nat):Int)=(dg (Nat.gcd x y) j0:Int))))))))))))))))))
  ⟨(λ_ _=>trivial),(λ_ _=>trivial),λhc9=>have hc9:=dT hc9;have hz:=(kT x).1 zo;have he:Nat.gcd x y=y:=(by rw[hz];exact Nat.gcd_zero_left y);⟨(by rw[he]),(λj0 hj0=>(by rw[he]))⟩,λhc9=>have hc9:=dF hc9;have hx1:x≠0:=(λe=>by rw[e] at hc9;exact hc9 rfl);⟨λhc13=>have hc13:=dT hc13;have hz:=(kT y).1 zo;have he:Nat.gcd x y=x:=(by rw[hz];exact Nat.gcd_zero_right x);⟨(by rw[he]),(λj0 hj0=>(by rw[he]))⟩,λhc13=>have hc13:=dF hc13;have hy1:y≠0:=(λe=>by rw[e] at hc13;exact hc13 rfl);⟨⟨(x,y,0),rfl,(λj0 hj0=>rfl),rfl,(λj0 hj0=>rfl),rfl,(Nat.mul_one _).symm,Nat.mul_one _,Nat.pos_of_ne_zero hx1,Nat.pos_of_ne_zero hy1,Nat.le_refl _,Nat.le_refl _⟩,λg hg=>have hg1:=hg.2.2.1;have hg2:=hg.2.2.2.1;have hg3:=hg.2.2.2.2.1;have hg4:=hg.2.2.2.2.2;have ht:=pow_lt_nd hg.2.1 hg1;⟨sEven (x:=g.1),(idB ((decide (((g.1%2:Nat):Int)=0))==true)),(λhg=>sEven (x:=g.2.1)),(by first | (simp;done) | (simp;omega)),λhc20=>have hc:=bifT hc20;⟨sHalved (x:=g.1) zo,sHalved (x:=g.2.1) zo,(wI (g:=g.2.2) zo),(g.1/2,g.2.1/2,g.2.2+1),rfl,(λj0 hj0=>rfl),rfl,(λj0 hj0=>rfl),rfl,(halve_inv hg zo zo),(by show g.1/2<g.1;omega)⟩,λhc20=>have hc:=bifF hc20;⟨⟨g.2.1,(rf (nd g.1:Nat)),(leS (λi0=>iN (dg g.1 i0)) (nd g.1)),zo,(λj0 hj0=>zo),(rf ((g.2.2:Nat):Int)),rfl,hg2,by omega,hg3⟩,λh hh=>have hh1:=hh.2.1;have hh2:=hh.2.2.1;have hh3:=hh.2.2.2;⟨sEven (x:=h),λhc28=>have hc28:=dT hc28;⟨sHalved (x:=h) zo,h/2,(rf (nd g.1:Nat)),(leS (λi0=>iN (dg g.1 i0)) (nd g.1)),zo,(λj0 hj0=>zo),(rf ((g.2.2:Nat):Int)),⟨by rw[hh.1,gcd_odd_2 zo zo],by omega,by omega,by have:=nd_div h 2;omega⟩,zo⟩,λhc28=>have hc28:=dF hc28;⟨⟨(g.1,h),rfl,(λj0 hj0=>rfl),rfl,(λj0 hj0=>rfl),(rf ((g.2.2:Nat):Int)),hh.1,hh1,by show h%2=1;omega,by show nd g.1<=_;omega,by show nd h<=_;omega⟩,λp hp=>have hp1:=hp.2.1;have hp2:=hp.2.2.1;have hp3:=hp.2.2.2.1;have hp4:=hp.2.2.2.2;⟨λhc33=>have hc33:=dT hc33;have hpn:p.1≠0:=(λe=>by rw[e] at hc33;exact absurd hc33 zd);⟨⟨p.1,zo,(λj0 hj0=>zo),(rf (nd p.2:Nat)),(leS (λi0=>iN (dg p.2 i0)) (nd p.2)),(rf ((g.2.2:Nat):Int)),rfl,by omega,Nat.le_refl _⟩,λq hq=>have hq1:=hq.2.1;have hq2:=hq.2.2;have hq3:=jD hq2;⟨sEven (x:=q),λhc35=>have hc35:=dT hc35;⟨sHalved (x:=q) zo,q/2,zo,(λj0 hj0=>zo),(rf (nd p.2:Nat)),(leS (λi0=>iN (dg p.2 i0)) (nd p.2)),(rf ((g.2.2:Nat):Int)),⟨by rw[hq.1,gcd_2_odd zo hp2],by omega,by omega⟩,zo⟩,λhc35=>have hc35:=dF hc35;⟨sRefCmp (x:=q) (y:=p.2) zo,λhc41=>have hc41:=dT hc41;have hlt:=cmpN_neg.1 hc41;have hmx:=Nat.max_eq_right (Nat.le_of_lt hlt);have hmn:=Nat.min_eq_left (Nat.le_of_lt hlt);have hmb:nd (max q p.2)<=max (nd x) (nd y):=(by rw[hmx];omega);⟨(by rw[hmx]),(λj0 hj0=>(by rw[hmx])),(by rw[hmn]),(λj0 hj0=>(by rw[hmn])),(rf ((g.2.2:Nat):Int)),sRefSub (x:=max q p.2) (y:=min q p.2) zo zo,(max q p.2-min q p.2,min q p.2),rfl,(λj0 hj0=>rfl),rfl,(λj0 hj0=>rfl),(rf ((g.2.2:Nat):Int)),(by have k:=gcd_stp hq1 hp1 zo hp2;have b1:=jD k.2.2.2.2.1;have b2:=jD k.2.2.2.2.2;have b3:nd (max q p.2)<=max (nd x) (nd y):=(by rcases Nat.le_total q p.2 with e | e;(rw[Nat.max_eq_right e];omega);(rw[Nat.max_eq_left e];omega));exact⟨hp.1.trans (hq.1.trans k.1),k.2.1,k.2.2.1,by show nd (max q p.2-min q p.2)<=_;omega,by show nd (min q p.2)<=_;omega⟩),(Nat.lt_of_lt_of_le (gcd_stp hq1 hp1 zo hp2).2.2.2.1 zo)⟩,λhc41=>have hc41:=dF hc41;have hlt:=Nat.le_of_not_lt (λe=>hc41 (cmpN_neg.2 e));have hmx:=Nat.max_eq_left hlt;have hmn:=Nat.min_eq_right hlt;have hmb:nd (max q p.2)<=max (nd x) (nd y):=(by rw[hmx];omega);⟨(by rw[hmx]),(λj0 hj0=>(by rw[hmx])),(by rw[hmn]),(λj0 hj0=>(by rw[hmn])),(rf ((g.2.2:Nat):Int)),sRefSub (x:=max q p.2) (y:=min q p.2) zo zo,(max q p.2-min q p.2,min q p.2),rfl,(λj0 hj0=>rfl),rfl,(λj0 hj0=>rfl),(rf ((g.2.2:Nat):Int)),(by have k:=gcd_stp hq1 hp1 zo hp2;have b1:=jD k.2.2.2.2.1;have b2:=jD k.2.2.2.2.2;have b3:nd (max q p.2)<=max (nd x) (nd y):=(by rcases Nat.le_total q p.2 with e | e;(rw[Nat.max_eq_right e];omega);(rw[Nat.max_eq_left e];omega));exact⟨hp.1.trans (hq.1.trans k.1),k.2.1,k.2.2.1,by show nd (max q p.2-min q p.2)<=_;omega,by show nd (min q p.2)<=_;omega⟩),(Nat.lt_of_lt_of_le (gcd_stp hq1 hp1 zo hp2).2.2.2.1 zo)⟩⟩⟩⟩,λhc33=>have hc33:=dF hc33;have hpz:=(kT p.1).1 zo;have he:Nat.gcd x y=p.2*2^g.2.2:=(by rw[hg.1,hp.1,hpz,Nat.gcd_zero_left]);⟨sRefShl (x:=p.2) (k:=g.2.2) zo zo,(by rw[he]),(λj0 hj0=>(by rw[he]))⟩⟩⟩⟩⟩⟩⟩⟩⟩
open Go.RowKit
def SV.zt (z:Int):SV:=.agg (.cn (bX (decide (z<0))) (.cn (.dgs z.natAbs (nd z.natAbs)) .nl))
def SV.qt (q:Rat):SV:=.agg (.cn (.zt q.num) (.cn (.dgs q.den (nd q.den)) .nl))
theorem sgn_lt{b:Bool}{x:Nat}:(bif b then decide ((0:Int)<(nd x:Int)) else false)=decide (signed b x<0):=by
 have:=kT x
 cases b
 ·simp[signed]
 ·simp only[signed,if_true,cond_true,decide_eq_decide];omega
theorem sZNew{b:Bool}{x:Nat}:CallOK Tryz.prog 103 [bX b,.dgs x (nd x)] (.zt (signed b x)) []:=by
 exact kP (ch:=[]) Tryz.func103 ((∀j0,j0<(nd x)->True)/\_/\_/\(b=true->(b==true)=true)/\(((bif b then(decide ((0:Int)<(nd x:Int))) else false:Bool)=(decide ((signed b x)<0)))/\((nd x:Nat)=(nd ((signed b x).natAbs)))/\(∀j0,j0<(nd x)->(((dg x j0:Nat):Int)=(dg ((signed b x).natAbs) j0:Int)))))
  ⟨(λ_ _=>trivial),(idB (b==true)),(idB (b==true)),(by first | (simp;done) | (simp;omega)),sgn_lt,(by rw[natAbs_sg]),(λj0 hj0=>(by rw[natAbs_sg]))⟩
theorem sQNew{p d:Int}(hd:d≠0)(hp2:nd p.natAbs<=1073741824)(hd2:nd d.natAbs<=1073741824):CallOK Tryz.prog 105 [.zt p,.zt d] (.qt (Rat.divInt p d)) []:=by
 have hg:0<Nat.gcd p.natAbs d.natAbs:=Nat.gcd_pos_of_pos_right _ zo
 exact kP (ch:=[.reg 1 [(4,.callS (.dgs (Nat.gcd p.natAbs d.natAbs) (nd (Nat.gcd p.natAbs d.natAbs))) [])],.reg 2 [(3,.callS (c2 (.dgs (p.natAbs/(Nat.gcd p.natAbs d.natAbs)) (nd (p.natAbs/(Nat.gcd p.natAbs d.natAbs)))) (.dgs (p.natAbs%(Nat.gcd p.natAbs d.natAbs)) (nd (p.natAbs%(Nat.gcd p.natAbs d.natAbs))))) [])],.reg 3 [(3,.callS (c2 (.dgs (d.natAbs/(Nat.gcd p.natAbs d.natAbs)) (nd (d.natAbs/(Nat.gcd p.natAbs d.natAbs)))) (.dgs (d.natAbs%(Nat.gcd p.natAbs d.natAbs)) (nd (d.natAbs%(Nat.gcd p.natAbs d.natAbs))))) [])],.reg 4 [(6,.callS (.zt (signed (!((decide (p<0))==(decide (d<0)))) (p.natAbs/(Nat.gcd p.natAbs d.natAbs)))) [])]]) Tryz.func105 ((∀j0,j0<(nd p.natAbs)->True)/\(∀j0,j0<(nd d.natAbs)->True)/\_/\_/\_/\_/\(((decide ((signed (!((decide (p<0))==(decide (d<0)))) (p.natAbs/(Nat.gcd p.natAbs d.natAbs)))<0):Bool)=(decide (((Rat.divInt p d).num)<0)))/\((nd ((signed (!((decide (p<0))==(decide (d<0)))) (p.natAbs/(Nat.gcd p.natAbs d.natAbs))).natAbs):Nat)=(nd (((Rat.divInt p d).num).natAbs)))/\(∀j0,j0<(nd ((signed (!((decide (p<0))==(decide (d<0)))) (p.natAbs/(Nat.gcd p.natAbs d.natAbs))).natAbs))->(((dg ((signed (!((decide (p<0))==(decide (d<0)))) (p.natAbs/(Nat.gcd p.natAbs d.natAbs))).natAbs) j0:Nat):Int)=(dg (((Rat.divInt p d).num).natAbs) j0:Int)))/\((nd (d.natAbs/(Nat.gcd p.natAbs d.natAbs)):Nat)=(nd ((Rat.divInt p d).den)))/\(∀j0,j0<(nd (d.natAbs/(Nat.gcd p.natAbs d.natAbs)))->(((dg (d.natAbs/(Nat.gcd p.natAbs d.natAbs)) j0:Nat):Int)=(dg ((Rat.divInt p d).den) j0:Int)))))
  ⟨(λ_ _=>trivial),(λ_ _=>trivial),sRefGcd (x:=p.natAbs) (y:=d.natAbs) zo zo,sRefDivMod (n:=p.natAbs) (d:=Nat.gcd p.natAbs d.natAbs) zo zo,sRefDivMod (n:=d.natAbs) (d:=Nat.gcd p.natAbs d.natAbs) zo zo,sZNew (b:=! ((decide (p<0))==(decide (d<0)))) (x:=p.natAbs/(Nat.gcd p.natAbs d.natAbs)),(by rw[new_num2 p d hd]),(by first | rw[new_num2 p d hd] | rw[new_den2 p d hd]),(λj0 hj0=>(by first | rw[new_num2 p d hd] | rw[new_den2 p d hd])),(by first | rw[new_num2 p d hd] | rw[new_den2 p d hd]),(λj0 hj0=>(by first | rw[new_num2 p d hd] | rw[new_den2 p d hd]))⟩
open Go.RowKit
theorem sRefOf1{k:Nat}(hk:k<18446744073709551616):CallOK Tryz.prog 104 [.sl 1 (λ_=>uZ (k:Int)) 1] (.dgs k (nd k)) []:=by
 have h:=sRefOf (w:=λ_=>k) (n:=1) zd (λ_ _=>hk)
 have e:val (λ_=>k) 1=k:=by simp[val]
 rw[e] at h
 exact h
theorem sg_self(x:Int):signed (decide (x<0)) x.natAbs=x:=by
 unfold signed
 by_cases h:x<0<;>simp[h]<;>omega
theorem nd_int{x:Int}(h:Wd64 x):nd ((x:Int):Rat).num.natAbs<=4:=by
 rw[Rat.num_intCast]
 refine(nd_le _ 4).2 ?_
 have h1:=h.1;have h2:=h.2
 have:(2:Nat)^(16*4)=18446744073709551616:=by decide
 omega
theorem sQInt{x:Int}(hl:-9223372036854775808<=x)(hu:x<9223372036854775808):CallOK Tryz.prog 69 [.ex (.int .i64 x)] (.qt ((x:Int):Rat)) []:=by
 exact kP (ch:=[.reg 1 [(1,.z (x%18446744073709551616))],.reg 3 [(1,.z ((x.natAbs:Nat):Int))],.conv 4 [(0,.id 0)] ⟨[(0,.ex (.int .i64 x)),(2,.own 0 0),(3,uZ ((x.natAbs:Nat):Int))],[(0,.one (.var 78 (.ex (.agg #[.bool false,.slice none 0 0,.slice none 0 0]))))],1⟩,.reg 4 [(4,.callS (.dgs x.natAbs (nd x.natAbs)) []),(5,.callS (.zt (signed (decide ((x:Int)<0)) x.natAbs)) [])],.conv 4 [(0,.id 0)] ⟨[(0,.ex (.int .i64 x)),(2,.own 0 0),(3,uZ ((x.natAbs:Nat):Int))],[(0,.one (.var 78 (.ex (.agg #[.bool false,.slice none 0 0,.slice none 0 0]))))],1⟩,.reg 4 [(4,.callS (.dgs x.natAbs (nd x.natAbs)) []),(5,.callS (.zt (signed (decide ((x:Int)<0)) x.natAbs)) [])]]) Tryz.func69 ((IntKind.wrap .u64 (x:Int)=(x%18446744073709551616))/\(((decide ((x:Int)<0))=true->(IntKind.wrap .u64 (0-(x%18446744073709551616))=(((x.natAbs:Nat):Int)))/\_/\_/\_/\((.agg #[.bool false,.slice none 0 0,.slice none 0 0]:Value)=.agg #[.bool false,.slice none 0 0,.slice none 0 0])/\_/\_/\(((decide ((signed (decide ((x:Int)<0)) x.natAbs)<0):Bool)=(decide ((((x:Int):Rat).num)<0)))/\((nd ((signed (decide ((x:Int)<0)) x.natAbs).natAbs):Nat)=(nd ((((x:Int):Rat).num).natAbs)))/\(∀j0,j0<(nd ((signed (decide ((x:Int)<0)) x.natAbs).natAbs))->(((dg ((signed (decide ((x:Int)<0)) x.natAbs).natAbs) j0:Nat):Int)=(dg ((((x:Int):Rat).num).natAbs) j0:Int)))/\((1:Nat)=(nd (((x:Int):Rat).den)))/\(∀j0,j0<1->((1:Int)=(dg (((x:Int):Rat).den) j0:Int)))))/\((decide ((x:Int)<0))=false->_/\_/\((x%18446744073709551616:Int)=((x.natAbs:Nat):Int))/\((.agg #[.bool false,.slice none 0 0,.slice none 0 0]:Value)=.agg #[.bool false,.slice none 0 0,.slice none 0 0])/\_/\_/\(((decide ((signed (decide ((x:Int)<0)) x.natAbs)<0):Bool)=(decide ((((x:Int):Rat).num)<0)))/\((nd ((signed (decide ((x:Int)<0)) x.natAbs).natAbs):Nat)=(nd ((((x:Int):Rat).num).natAbs)))/\(∀j0,j0<(nd ((signed (decide ((x:Int)<0)) x.natAbs).natAbs))->(((dg ((signed (decide ((x:Int)<0)) x.natAbs).natAbs) j0:Nat):Int)=(dg ((((x:Int):Rat).num).natAbs) j0:Int)))/\((1:Nat)=(nd (((x:Int):Rat).den)))/\(∀j0,j0<1->((1:Int)=(dg (((x:Int):Rat).den) j0:Int)))))))
  ⟨(by rw[IntKind.wrap_u64]),λhc7=>have hc7:=dT hc7;⟨(by rw[IntKind.wrap_u64];omega),(rf (x:Int)),(rf 0),(rf ((x.natAbs:Nat):Int)),rfl,sRefOf1 (k:=x.natAbs) zo,sZNew (b:=(decide ((x:Int)<0))) (x:=x.natAbs),(by rw[sg_self,Rat.num_intCast]),(by rw[sg_self,Rat.num_intCast]),(λj0 hj0=>(by rw[sg_self,Rat.num_intCast])),(by rw[Rat.den_intCast];rfl),(λj0 hj0=>(by rw[Rat.den_intCast,show j0=0 by omega];rfl))⟩,λhc7=>have hc7:=dF hc7;⟨(rf (x:Int)),(rf 0),zo,rfl,sRefOf1 (k:=x.natAbs) zo,sZNew (b:=(decide ((x:Int)<0))) (x:=x.natAbs),(by rw[sg_self,Rat.num_intCast]),(by rw[sg_self,Rat.num_intCast]),(λj0 hj0=>(by rw[sg_self,Rat.num_intCast])),(by rw[Rat.den_intCast];rfl),(λj0 hj0=>(by rw[Rat.den_intCast,show j0=0 by omega];rfl))⟩⟩
theorem sQOf{p q:Int}(hp:Wd64 p)(hq:Wd64 q):CallOK Tryz.prog 79 [.ex (.int .i64 p),.ex (.int .i64 q)] (.qt (oneQ p q)) []:=by
 have hp1:=hp.1;have hp2:=hp.2;have hq1:=hq.1;have hq2:=hq.2
 have n1:=nd_int (x:=p) hp
 have n2:=nd_int (x:=q) hq
 have m2:((q:Int):Rat).num=q:=Rat.num_intCast q
 exact kP (ch:=[.reg 2 [(1,.callS (.qt ((p:Int):Rat)) [])],.reg 3 [(1,.callS (.qt ((p:Int):Rat)) []),(4,.callS (.qt ((q:Int):Rat)) []),(6,.callS (.qt (Rat.divInt (((p:Int):Rat).num) (((q:Int):Rat).num))) [])]]) Tryz.func79 ((((decide ((q:Int)=0))=true->_/\(((decide ((((p:Int):Rat).num)<0):Bool)=(decide (((oneQ p q).num)<0)))/\((nd ((((p:Int):Rat).num).natAbs):Nat)=(nd (((oneQ p q).num).natAbs)))/\(∀j0,j0<(nd ((((p:Int):Rat).num).natAbs))->(((dg ((((p:Int):Rat).num).natAbs) j0:Nat):Int)=(dg (((oneQ p q).num).natAbs) j0:Int)))/\((nd (((p:Int):Rat).den):Nat)=(nd ((oneQ p q).den)))/\(∀j0,j0<(nd (((p:Int):Rat).den))->(((dg (((p:Int):Rat).den) j0:Nat):Int)=(dg ((oneQ p q).den) j0:Int)))))/\((decide ((q:Int)=0))=false->_/\_/\_/\(((decide (((Rat.divInt (((p:Int):Rat).num) (((q:Int):Rat).num)).num)<0):Bool)=(decide (((oneQ p q).num)<0)))/\((nd (((Rat.divInt (((p:Int):Rat).num) (((q:Int):Rat).num)).num).natAbs):Nat)=(nd (((oneQ p q).num).natAbs)))/\(∀j0,j0<(nd (((Rat.divInt (((p:Int):Rat).num) (((q:Int):Rat).num)).num).natAbs))->(((dg (((Rat.divInt (((p:Int):Rat).num) (((q:Int):Rat).num)).num).natAbs) j0:Nat):Int)=(dg (((oneQ p q).num).natAbs) j0:Int)))/\((nd ((Rat.divInt (((p:Int):Rat).num) (((q:Int):Rat).num)).den):Nat)=(nd ((oneQ p q).den)))/\(∀j0,j0<(nd ((Rat.divInt (((p:Int):Rat).num) (((q:Int):Rat).num)).den))->(((dg ((Rat.divInt (((p:Int):Rat).num) (((q:Int):Rat).num)).den) j0:Nat):Int)=(dg ((oneQ p q).den) j0:Int)))))))
  ⟨λhc6=>have hc6:=dT hc6;have e:oneQ p q=((p:Int):Rat):=if_pos hc6;⟨sQInt (x:=p) zo zo,(by rw[e]),(by rw[e]),(λj0 hj0=>(by rw[e])),(by rw[e]),(λj0 hj0=>(by rw[e]))⟩,λhc6=>have hc6:=dF hc6;have e:oneQ p q=Rat.divInt (((p:Int):Rat).num) (((q:Int):Rat).num):=(by rw[Rat.num_intCast,Rat.num_intCast];exact if_neg hc6);⟨sQInt (x:=p) zo zo,sQInt (x:=q) zo zo,sQNew (p:=(((p:Int):Rat).num)) (d:=(((q:Int):Rat).num)) (by rw[m2];exact hc6) zo zo,(by rw[e]),(by rw[e]),(λj0 hj0=>(by rw[e])),(by rw[e]),(λj0 hj0=>(by rw[e]))⟩⟩
theorem sRef10{p d:Nat->Int}{n:Nat}(hn:n<=68719476736)(h:∀i,i<n->Wd64 (p i)/\Wd64 (d i)):CallOK Tryz.prog 39 [fE p d n] (.sl 3 (λi0=>.qt (oneQ (p i0) (d i0))) n) []:=by
 exact kP (ch:=[.loop 3 (Nat) (λg=>g<=n) (λg=>n-g) (λg=>⟨[(0,fE p d n),(3,.own 0 0),(4,iN g)],[(0,.one (.row 78 3 (λi0=>.qt (oneQ (p i0) (d i0))) g))],1⟩) [(0,.nil)] (λ_=>[(0,.id 1)]) (λg=>[.reg 5 [(3,.k g),(8,.k g),(11,.callS (.qt (oneQ (p g) (d g))) []),(13,.row 0 (λi0=>.qt (oneQ (p i0) (d i0))))],.reg 4 [(1,.z ((g+1:Nat):Int))]])]) Tryz.func39 ((∀j0,j0<n->True)/\(((λX1 X2 X3:Prop=>∃g0:Nat,X1/\X2/\X3/\((0:Int)=(g0:Int))/\((g0:Nat)=0)/\(g0<=n)) _ _ _)/\∀g:Nat,(g<=n)->(((decide ((g:Int)<(n:Int)))=true->_/\(g<n)/\_/\(g<n)/\_/\(g+1<=68719476736)/\_/\_/\_/\((λX1 X2 X3 X4:Prop=>∃g1:Nat,X1/\X2/\X3/\(((g+1:Nat):Int)=(g1:Int))/\((g+1:Nat)=g1)/\X4/\(g1<=n)/\(n-g1<n-g)) _ _ _ _))/\((decide ((g:Int)<(n:Int)))=false->(((g:Nat)=n)/\_)))))
  ⟨(λ_ _=>trivial),⟨0,(rf n),(leS (λi0=>.agg (c2 (iZ (p i0)) (iZ (d i0)))) n),(rf 0),zo,zo,zo⟩,λg hg=>⟨λhc8=>have hc8:=dT hc8;have hg2:=h g zo;⟨(rf (g:Int)),zo,(rf (g:Int)),zo,sQOf (p:=p g) (q:=d g) hg2.1 hg2.2,zo,(oldS (λi0=>.qt (oneQ (p i0) (d i0))) g),(newS (λi0=>.qt (oneQ (p i0) (d i0))) g),(wI (g:=g) zo),g+1,(rf n),(leS (λi0=>.agg (c2 (iZ (p i0)) (iZ (d i0)))) n),(rf 0),zo,zo,(leS (λi0=>.qt (oneQ (p i0) (d i0))) (g+1)),zo,zo⟩,λhc8=>have hc8:=dF hc8;have hi2:g=n:=zo;⟨hi2,(leS (λi0=>.qt (oneQ (p i0) (d i0))) g)⟩⟩⟩
open Go.RowKit
theorem sRef11{z l:Nat}{k:Nat->Nat}{p d:Nat->Nat->Int}(h:∀r,r<l->∀c,c<k r->Wd64 (p r c)/\Wd64 (d r c)):CallOK Tryz.prog 66 [.agg (c2 (.ex (.int .u8 (z:Int))) (.sl 1 (λi0=>.sl 2 (λi1=>.agg (c2 (iZ (p i0 i1)) (iZ (d i0 i1)))) (k i0)) l))] (.agg (c2 (.sl 1 (λi0=>.sl 3 (λi1=>.qt (oneQ (padZ (k i0) (p i0) i1) (padZ (k i0) (d i0) i1))) (z%7)) (min l 6)) (iN (z%7)))) []:=by
 have hw:∀r,r<min l 6->∀c,c<z%7->Wd64 (padZ (k r) (p r) c)/\Wd64 (padZ (k r) (d r) c):=λr hr c _=>⟨padZ_wd λhc=>(h r zo c hc).1,padZ_wd λhc=>(h r zo c hc).2⟩
 exact kP (ch:=[.reg 1 [(1,.callS (c2 (.sl 1 (λi0=>.sl 2 (λi1=>.agg (c2 (iZ (padZ (k i0) (p i0) i1)) (iZ (padZ (k i0) (d i0) i1)))) (z%7)) (min l 6)) (iN (z%7))) [])],.loop 4 (Nat) (λg=>g<=(min l 6)) (λg=>min l 6-g) (λg=>⟨[(2,.own 1 0),(3,.sl 1 (λi0=>.sl 2 (λi1=>.agg (c2 (iZ (padZ (k i0) (p i0) i1)) (iZ (padZ (k i0) (d i0) i1)))) (z%7)) (min l 6)),(5,.own 2 0),(6,iN g)],[(0,.one (.var 24 (.agg (c2 (.ex (.int .u8 (z:Int))) (.sl 1 (λi0=>.sl 2 (λi1=>.agg (c2 (iZ (p i0 i1)) (iZ (d i0 i1)))) (k i0)) l))))),(1,.one (.var 68 (.ex (.agg #[.slice none 0 0,.int .i64 0])))),(2,.one (.var 68 (.agg (c2 (.own 3 0) (iN (z%7)))))),(3,.one (.row 86 1 (λi0=>.sl 3 (λi1=>.qt (oneQ (padZ (k i0) (p i0) i1) (padZ (k i0) (d i0) i1))) (z%7)) g))],4⟩) [(0,.id 0),(1,.id 1),(2,.id 2),(3,.nil)] (λ_=>[(0,.id 0),(1,.id 1),(2,.id 2),(3,.id 4)]) (λg=>[.reg 6 [(4,.k g),(6,.callS (.sl 3 (λi0=>.qt (oneQ (padZ (k g) (p g) i0) (padZ (k g) (d g) i0))) (z%7)) []),(8,.row 0 (λi0=>.sl 3 (λi1=>.qt (oneQ (padZ (k i0) (p i0) i1) (padZ (k i0) (d i0) i1))) (z%7)))],.reg 5 [(1,.z ((g+1:Nat):Int))]])]) Tryz.func66 ((∀j0,j0<l->(∀j1,j1<(k j0)->True))/\_/\(((λX1 X2 X3 X4 X5 X6 X7 X8 X9:Prop=>∃g0:Nat,X1/\X2/\X3/\X4/\((0:Int)=(g0:Int))/\X5/\X6/\X7/\((.agg #[.slice none 0 0,.int .i64 0]:Value)=.agg #[.slice none 0 0,.int .i64 0])/\X8/\X9/\((g0:Nat)=0)/\(g0<=(min l 6))) _ _ _ _ _ _ _ _ _)/\∀g:Nat,(g<=(min l 6))->(((decide ((g:Int)<((min l 6:Nat):Int)))=true->_/\(g<(min l 6))/\_/\(g+1<=68719476736)/\_/\_/\_/\((λX1 X2 X3 X4 X5 X6 X7 X8 X9 X10:Prop=>∃g1:Nat,X1/\X2/\X3/\X4/\(((g+1:Nat):Int)=(g1:Int))/\X5/\X6/\X7/\((.agg #[.slice none 0 0,.int .i64 0]:Value)=.agg #[.slice none 0 0,.int .i64 0])/\X8/\X9/\((g+1:Nat)=g1)/\X10/\(g1<=(min l 6))/\(min l 6-g1<min l 6-g)) _ _ _ _ _ _ _ _ _ _))/\((decide ((g:Int)<((min l 6:Nat):Int)))=false->(((g:Nat)=(min l 6))/\_/\_)))))
  ⟨(λ_ _=>(λ_ _=>trivial)),sRows11 (z:=z) (l:=l) (k:=k) (p:=p) (d:=d),⟨0,(rf 0),(rf (min l 6:Nat)),(leS (λi0=>.sl 2 (λi1=>.agg (c2 (iZ (padZ (k i0) (p i0) i1)) (iZ (padZ (k i0) (d i0) i1)))) (z%7)) (min l 6)),(rf 0),zo,(rf (z:Int)),(rf l),(leS (λi0=>.sl 2 (λi1=>.agg (c2 (iZ (p i0 i1)) (iZ (d i0 i1)))) (k i0)) l),rfl,(rf 0),(rf ((z%7:Nat):Int)),zo,zo⟩,λg hg=>⟨λhc17=>have hc17:=dT hc17;have hg2:=hw g zo;⟨(rf (g:Int)),zo,sRef10 (n:=z%7) (p:=λi=>padZ (k g) (p g) i) (d:=λi=>padZ (k g) (d g) i) zo hg2,zo,(oldS (λi0=>.sl 3 (λi1=>.qt (oneQ (padZ (k i0) (p i0) i1) (padZ (k i0) (d i0) i1))) (z%7)) g),(newS (λi0=>.sl 3 (λi1=>.qt (oneQ (padZ (k i0) (p i0) i1) (padZ (k i0) (d i0) i1))) (z%7)) g),(wI (g:=g) zo),g+1,(rf 0),(rf (min l 6:Nat)),(leS (λi0=>.sl 2 (λi1=>.agg (c2 (iZ (padZ (k i0) (p i0) i1)) (iZ (padZ (k i0) (d i0) i1)))) (z%7)) (min l 6)),(rf 0),zo,(rf (z:Int)),(rf l),(leS (λi0=>.sl 2 (λi1=>.agg (c2 (iZ (p i0 i1)) (iZ (d i0 i1)))) (k i0)) l),rfl,(rf 0),(rf ((z%7:Nat):Int)),zo,(leS (λi0=>.sl 3 (λi1=>.qt (oneQ (padZ (k i0) (p i0) i1) (padZ (k i0) (d i0) i1))) (z%7)) (g+1)),zo,zo⟩,λhc17=>have hc17:=dF hc17;have hi2:g=min l 6:=zo;⟨hi2,(leS (λi0=>.sl 3 (λi1=>.qt (oneQ (padZ (k i0) (p i0) i1) (padZ (k i0) (d i0) i1))) (z%7)) g),(rf ((z%7:Nat):Int))⟩⟩⟩
open Go.RowKit
theorem sgn_par:∀n,sgn n=if n%2=1 then-1 else 1
 | 0=>rfl
 | n+1=>by
  show-sgn n=_
  rw[sgn_par n]
  by_cases h:n%2=1
  ·rw[if_pos h,if_neg zo];rfl
  ·rw[if_neg h,if_pos zo]
def dB (E:Nat):Nat->Nat
 | 0=>1
 | n+1=>(n+1)*(E+dB E n+2)+1
theorem ht_sgnm(n:Nat)(x:Rat):htq (sgn n*x)=htq x:=by
 rw[sgn_par]
 split
 ·rw[show(-1:Rat)*x=-x by grind,ht_neg]
 ·rw[show(1:Rat)*x=x by grind]
theorem det_ht{E:Nat}:∀n {q:Nat->Nat->Rat},(∀i,i<n->∀j,j<n->htq (q i j)<=E)->htq (det n q)<=dB E n/\∀g,g<=n->htq (sumQ (λc=>sgn c*q 0 c*det (n-1) (yB q 0 c)) g)<=dB E n
 | 0,q,_=>⟨by show htq 1<=1;rw[ht_one];omega,λg hg=>(by cases Nat.le_zero.1 hg;show htq 0<=1;rw[ht_zero];omega)⟩
 | n+1,q,h=>by
  have hs:∀g,g<=n+1->htq (sumQ (λc=>sgn c*q 0 c*det n (yB q 0 c)) g)<=g*(E+dB E n+2)+1:=by
   intro g
   induction g with
   | zero=>intro _;show htq 0<=_;rw[ht_zero];omega
   | succ g ih=>
    intro hg
    have h1:=ih zo
    have h2:=(det_ht n (q:=yB q 0 g) λi hi j hj=>h _ (skp_lt hi) _ (skp_lt hj)).1
    have h3:=ht_add (sumQ (λc=>sgn c*q 0 c*det n (yB q 0 c)) g) (sgn g*q 0 g*det n (yB q 0 g))
    have h4:=ht_mul (sgn g*q 0 g) (det n (yB q 0 g))
    have h5:=ht_sgnm g (q 0 g)
    have h6:=h 0 zo g zo
    have h7:(g+1)*(E+dB E n+2)=g*(E+dB E n+2)+(E+dB E n+2):=Nat.succ_mul _ _
    show htq (sumQ (λc=>sgn c*q 0 c*det n (yB q 0 c)) g+sgn g*q 0 g*det n (yB q 0 g))<=_
    omega
  have hm:∀g,g<=n+1->g*(E+dB E n+2)+1<=dB E (n+1):=λg hg=>Nat.succ_le_succ (Nat.mul_le_mul_right _ hg)
  exact⟨Nat.le_trans (hs (n+1) (Nat.le_refl _)) (hm _ (Nat.le_refl _)),λg hg=>Nat.le_trans (hs g hg) (hm g hg)⟩
open Go.RowKit
def sgB (b:Bool):Rat:=if b=true then-1 else 1
theorem sgB_if(b:Bool)(x:Rat):sgB b*x=if b=true then-x else x:=by
 unfold sgB
 split<;>grind
theorem prodD_congr{U V:Nat->Nat->Rat}:∀c,(∀k,k<c->U k k=V k k)->uD U c=uD V c
 | 0,_=>rfl
 | c+1,h=>by show uD U c*U c c=uD V c*V c c;rw[prodD_congr c λk hk=>h k zo,h c (Nat.lt_succ_self c)]
theorem prodD_ne{U:Nat->Nat->Rat}:∀c,(∀k,k<c->U k k≠0)->uD U c≠0
 | 0,_=>by show(1:Rat)≠0;decide
 | c+1,h=>λe=>by
  have:=Rat.mul_eq_zero.1 (show uD U c*U c c=0 from e)
  exact this.elim (prodD_ne c λk hk=>h k zo) (h c (Nat.lt_succ_self c))
section
variable {s n:Nat} {q:Nat->Nat->Rat}
theorem lu_detI(hs:∀i,i<n->∀j,j<n->szq (q i j)<=s):∀c,c<=n->luOK n q c->DetI s n q (c,(luS n q c).1,sgB (luS n q c).2.2.2.2*uD (luS n q c).1 c)
 | 0,_,_=>by
  show DetI s n q (0,q,sgB false*1)
  rw[show sgB false*1=1 by unfold sgB;rw[if_neg zd];grind]
  exact DetI.start hs
 | c+1,hc,hok=>by
  have H:=lu_detI hs c zo λk hk=>hok k zo
  have hK:=hok c (Nat.lt_succ_self c)
  have hge:=luK_ge (n:=n) (s:=luS n q c) (c:=c)
  have hpv:(luS n q c).1 (luK n (luS n q c) c) c≠0:=leadK_at _ _ (show zC _ c c (n-c)<_ by have:luK n (luS n q c) c<n:=hK;unfold luK at this;omega)
  have N:=H.next (K:=luK n (luS n q c) c) (show c<n by omega) hge hK hpv
  show DetI s n q (c+1,(zU n (luS n q c) c).1,sgB (zU n (luS n q c) c).2.2.2.2*uD (zU n (luS n q c) c).1 (c+1))
  unfold zU
  generalize luK n (luS n q c) c=K at N hge hK
  generalize luS n q c=S at N
  obtain⟨U,L,P,R,b⟩:=S
  have e:sgB (if K=c then b else !b)*uD (zB (zA U c K) c n) (c+1)=(if K=c then sgB b*uD U c else-(sgB b*uD U c))*zA U c K c c:=by
   show sgB _*(uD (zB (zA U c K) c n) c*zB (zA U c K) c n c c)=_
   rw[prodD_congr (V:=U) c λk hk=>by
    rw[xV zo]
    show U (if k=c then K else if k=K then c else k) k=U k k
    rw[if_neg zo,if_neg zo],xV (Nat.le_refl c)]
   by_cases z:K=c
   ·rw[if_pos z,if_pos z,Rat.mul_assoc]
   ·rw[if_neg z,if_neg z]
    cases b<;>simp only[sgB,Bool.not_true,Bool.not_false,if_true,Bool.false_eq_true,if_false]<;>grind
  show DetI s n q (c+1,zB (zA U c K) c n,sgB (if K=c then b else !b)*uD (zB (zA U c K) c n) (c+1))
  rw[e]
  exact N
theorem lu_det(hs:∀i,i<n->∀j,j<n->szq (q i j)<=s)(h:luOK n q n):det n q=if(luS n q n).2.2.2.2=true then-(uD (luS n q n).1 n) else uD (luS n q n).1 n:=by
 rw[kC,←(lu_detI hs n (Nat.le_refl n) h).done rfl]
 exact sgB_if _ _
theorem lu_det_ne(hs:∀i,i<n->∀j,j<n->szq (q i j)<=s)(h:luOK n q n):det n q≠0:=by
 have hp:=prodD_ne n (lu_inv (A:=q) n (Nat.le_refl n) h).piv
 rw[lu_det hs h]
 split
 ·intro e;exact hp (by grind)
 ·exact hp
theorem lu_or(hs:∀i,i<n->∀j,j<n->szq (q i j)<=s):∀c,c<=n->luOK n q c∨cdet n q=0
 | 0,_=>.inl λk hk=>absurd hk (Nat.not_lt_zero k)
 | c+1,hc=>by
  rcases lu_or hs c zo with h | h
  ·by_cases k:luK n (luS n q c) c<n
   ·exact .inl (ok_next h k)
   ·refine .inr ((lu_detI hs c zo h).none (show c<n by omega) ?_)
    have:=(leadK_le (B:=(luS n q c).1) (c:=c) (n-c) c).2
    show zC (luS n q c).1 c c (n-c)=n
    have:luK n (luS n q c) c=zC (luS n q c).1 c c (n-c):=rfl
    omega
  ·exact .inr h
theorem cram_div{b x:Nat->Rat}(hd:det n q≠0)(h:∀r,r<n->sumQ (λj=>q r j*x j) n=b r){c:Nat}(hc:c<n):det n (putC q c b)/det n q=x c:=by
 rw[kC,kC] at*
 rw[cramer h hc,Rat.div_def,Rat.mul_assoc,Rat.mul_inv_cancel _ hd,Rat.mul_one]
end
theorem sRefCut{l0:Nat}{k0:Nat->Nat}{p0 d0:Nat->Nat->Int}{n m:Nat}(h0:∀r,r<l0->∀c,c<k0 r->Wd64 (p0 r c)/\Wd64 (d0 r c))(hn:n<=6)(hm:min l0 n=m):CallOK Tryz.prog 66 [.agg (c2 (.ex (.int .u8 (n:Int))) (.sl 1 (gE k0 p0 d0) m))] (.agg (c2 (.sl 1 (λi0=>.sl 3 (λi1=>.agg (c2 (.agg (c2 (bX (decide (((gQ k0 p0 d0 i0 i1).num)<0))) (.sl 1 (λi2=>iN (dg (((gQ k0 p0 d0 i0 i1).num).natAbs) i2)) (nd (((gQ k0 p0 d0 i0 i1).num).natAbs))))) (.sl 1 (λi2=>iN (dg ((gQ k0 p0 d0 i0 i1).den) i2)) (nd ((gQ k0 p0 d0 i0 i1).den))))) n) m) (iN n))) []:=by
 have h:=sRef11 (z:=n) (l:=m) (k:=k0) (p:=p0) (d:=d0) (λr hr=>h0 r zo)
 rw[Nat.mod_eq_of_lt (show n<7 by omega),Nat.min_eq_left (show m<=6 by omega)] at h
 exact h
open Go.RowKit
theorem ne_of_bool{z:Int}{k g:Nat}(e:z=(k:Int))(h:(!decide (z=(g:Int)))=true):k≠g:=by rintro rfl;simp[e] at h
theorem eq_of_bool{z:Int}{k g:Nat}(e:z=(k:Int))(h:(!decide (z=(g:Int)))=false):k=g:=by
 have h2:z=(g:Int):=by simpa using h
 omega
theorem DetI.room{s n K:Nat}{q:Nat->Nat->Rat}{g:Nat×(Nat->Nat->Rat)×Rat}(H:DetI s n q g)(hn:n<=6)(hs:s<=1000)(hc:g.1<n)(hK:K<n):
  szq (if K=g.1 then g.2.2 else-g.2.2)+szq (zA g.2.1 g.1 K g.1 g.1)<=17179869184/\
  (∀h,g.1<h->h<n->szq (zB (zA g.2.1 g.1 K) g.1 h h g.1)+szq (zB (zA g.2.1 g.1 K) g.1 h g.1 g.1)+1<=17179869184)/\
  ∀h,g.1<h->h<n->∀j,j<n->szq (-(zB (zA g.2.1 g.1 K) g.1 h h g.1/zB (zA g.2.1 g.1 K) g.1 h g.1 g.1))+szq (zB (zA g.2.1 g.1 K) g.1 h g.1 j)<=17179869184/\szq (zB (zA g.2.1 g.1 K) g.1 h h j)+szq (-(zB (zA g.2.1 g.1 K) g.1 h h g.1/zB (zA g.2.1 g.1 K) g.1 h g.1 g.1)*zB (zA g.2.1 g.1 K) g.1 h g.1 j)<=17179869184:=by
 have hsw:=swap_sz hc hK H.sz
 have ht:=szE_top (c:=g.1) hs zo
 have h0:3<=szE s g.1:=by have:=szE_ge s g.1;omega
 have ho:=H.so
 have hm:g.1*szE s g.1<=6*533035323:=Nat.mul_le_mul zo ht
 refine⟨?_,λh h1 h2=>?_,λh h1 h2 j hj=>?_⟩
 ·have h4:szq (if K=g.1 then g.2.2 else-g.2.2)=szq g.2.2:=by split;rfl;exact szq_neg _
  have:=hsw g.1 hc g.1 hc
  omega
 ·rw[jK (Nat.le_refl h),xV (Nat.le_refl g.1)]
  have:=hsw h h2 g.1 hc
  have:=hsw g.1 hc g.1 hc
  omega
 ·rw[jK (Nat.le_refl h),xV (Nat.le_refl g.1)]
  have e:=elim_sz1 h0 (hsw h h2 j hj) (hsw h h2 g.1 hc) (hsw g.1 hc g.1 hc) (hsw g.1 hc j hj)
  have:=hsw g.1 hc j hj
  have:=hsw h h2 j hj
  rw[szq_neg]
  omega
theorem sDet{q:Nat->Nat->Rat}{n s:Nat}(hn:n<=6)(h1:s<=1000)(hs:∀i,i<n->∀j,j<n->szq (q i j)<=s):CallOK Tryz.prog 43 [.agg (c2 (.sl 1 (mE q n) n) (iN n))] (c2 (.rat (cdet n q)) (bX true)) []:=by
 exact kP (ch:=[.reg 1 [(1,.callS (iN n) []),(3,.callS (iN n) [])],.dec 15 false,.reg 3 [(1,.callS (.own 0 0) [cC q n])],.reg 4 [(0,.callS (.rat ((1:Int):Rat)) [])],.loop 6 (Nat×(Nat->Nat->Rat)×Rat) (λg=>DetI s n q g) (λg=>n-g.1) (λg=>⟨[(2,.own 1 0),(4,.own 2 0),(5,.own 3 0),(21,iN n),(22,iN (g.1))],[(0,.one (.var 53 (.agg (c2 (.sl 1 (mE q n) n) (iN n))))),(1,.one (.var 47 (.ex (.agg #[.bool false,.slice none 0 0,.slice none 0 0])))),(2,cC g.2.1 n),(3,.one (.var 47 (.rat g.2.2)))],4⟩) [(0,.id 0),(1,.id 1),(2,.id 2),(3,.id 3)] (λ_=>[(0,.id 0),(1,.id 1),(2,.id 2),(3,.id 3)]) (λg=>[.reg 8 [(3,.callS (iZ (jE g.2.1 n g.1 g.1)) [])],.reg 12 [(6,.k (zC g.2.1 g.1 g.1 (n-g.1))),(10,.k g.1),(12,.k g.1),(13,.row 0 (mE (setR g.2.1 g.1 (g.2.1 (zC g.2.1 g.1 g.1 (n-g.1)))) n)),(14,.k (zC g.2.1 g.1 g.1 (n-g.1))),(15,.row 0 (mE (zA g.2.1 g.1 (zC g.2.1 g.1 g.1 (n-g.1))) n))],.reg 13 [(1,.callS (.rat (-g.2.2)) [])],.conv 14 [(0,.id 0),(1,.id 1),(2,.id 2),(3,.id 3)] ⟨[(2,.own 1 0),(4,.own 2 0),(5,.own 3 0),(21,iN n),(22,iN (g.1)),(6,iN (g.1))],[(0,.one (.var 53 (.agg (c2 (.sl 1 (mE q n) n) (iN n))))),(1,.one (.var 47 (.ex (.agg #[.bool false,.slice none 0 0,.slice none 0 0])))),(2,cC (zA g.2.1 g.1 (zC g.2.1 g.1 g.1 (n-g.1))) n),(3,.one (.var 47 (.rat (if zC g.2.1 g.1 g.1 (n-g.1)=g.1 then g.2.2 else-g.2.2))))],4⟩,.reg 14 [(3,.k g.1),(6,.k g.1),(8,.callS (.rat ((if zC g.2.1 g.1 g.1 (n-g.1)=g.1 then g.2.2 else-g.2.2)*((zA g.2.1 g.1 (zC g.2.1 g.1 g.1 (n-g.1))) g.1 g.1))) [])],.reg 15 [(1,.z ((g.1+1:Nat):Int))],.loop 16 (Nat) (λh=>g.1+1<=h/\h<=n) (λh=>n-h) (λh=>⟨[(2,.own 1 0),(4,.own 2 0),(5,.own 3 0),(21,iN n),(22,iN (g.1)),(6,iN (g.1)),(8,iN h)],[(0,.one (.var 53 (.agg (c2 (.sl 1 (mE q n) n) (iN n))))),(1,.one (.var 47 (.ex (.agg #[.bool false,.slice none 0 0,.slice none 0 0])))),(2,cC (zB (zA g.2.1 g.1 (zC g.2.1 g.1 g.1 (n-g.1))) g.1 h) n),(3,.one (.var 47 (.rat ((if zC g.2.1 g.1 g.1 (n-g.1)=g.1 then g.2.2 else-g.2.2)*(zA g.2.1 g.1 (zC g.2.1 g.1 g.1 (n-g.1))) g.1 g.1))))],4⟩) [(0,.id 0),(1,.id 1),(2,.id 2),(3,.id 3)] (λ_=>[(0,.id 0),(1,.id 1),(2,.id 2),(3,.id 3)]) (λh=>[.reg 18 [(2,.k h),(5,.k g.1),(9,.k g.1),(12,.k g.1),(14,.callS (c2 (.rat (((zB (zA g.2.1 g.1 (zC g.2.1 g.1 g.1 (n-g.1))) g.1 h) h g.1)/((zB (zA g.2.1 g.1 (zC g.2.1 g.1 g.1 (n-g.1))) g.1 h) g.1 g.1))) (bX (!decide (((zB (zA g.2.1 g.1 (zC g.2.1 g.1 g.1 (n-g.1))) g.1 h) g.1 g.1)=0)))) [])],.reg 19 [(4,.k h),(7,.callS (.rat (-(((zB (zA g.2.1 g.1 (zC g.2.1 g.1 g.1 (n-g.1))) g.1 h) h g.1)/((zB (zA g.2.1 g.1 (zC g.2.1 g.1 g.1 (n-g.1))) g.1 h) g.1 g.1)))) []),(10,.k g.1),(12,.callS (c2 (.sl 3 (λi0=>.rat (((zB (zA g.2.1 g.1 (zC g.2.1 g.1 g.1 (n-g.1))) g.1 h) h i0)+(-(((zB (zA g.2.1 g.1 (zC g.2.1 g.1 g.1 (n-g.1))) g.1 h) h g.1)/((zB (zA g.2.1 g.1 (zC g.2.1 g.1 g.1 (n-g.1))) g.1 h) g.1 g.1)))*((zB (zA g.2.1 g.1 (zC g.2.1 g.1 g.1 (n-g.1))) g.1 h) g.1 i0))) n) (bX true)) []),(16,.k h),(17,.row 0 (mE (zB (zA g.2.1 g.1 (zC g.2.1 g.1 g.1 (n-g.1))) g.1 (h+1)) n))],.reg 17 [(1,.z ((h+1:Nat):Int))],.reg 20 [(0,.z ((g.1+1:Nat):Int))]]),.conv 14 [(0,.id 0),(1,.id 1),(2,.id 2),(3,.id 3)] ⟨[(2,.own 1 0),(4,.own 2 0),(5,.own 3 0),(21,iN n),(22,iN (g.1)),(6,iN (g.1))],[(0,.one (.var 53 (.agg (c2 (.sl 1 (mE q n) n) (iN n))))),(1,.one (.var 47 (.ex (.agg #[.bool false,.slice none 0 0,.slice none 0 0])))),(2,cC (zA g.2.1 g.1 (zC g.2.1 g.1 g.1 (n-g.1))) n),(3,.one (.var 47 (.rat (if zC g.2.1 g.1 g.1 (n-g.1)=g.1 then g.2.2 else-g.2.2))))],4⟩,.reg 14 [(3,.k g.1),(6,.k g.1),(8,.callS (.rat ((if zC g.2.1 g.1 g.1 (n-g.1)=g.1 then g.2.2 else-g.2.2)*((zA g.2.1 g.1 (zC g.2.1 g.1 g.1 (n-g.1))) g.1 g.1))) [])],.reg 15 [(1,.z ((g.1+1:Nat):Int))],.loop 16 (Nat) (λh=>g.1+1<=h/\h<=n) (λh=>n-h) (λh=>⟨[(2,.own 1 0),(4,.own 2 0),(5,.own 3 0),(21,iN n),(22,iN (g.1)),(6,iN (g.1)),(8,iN h)],[(0,.one (.var 53 (.agg (c2 (.sl 1 (mE q n) n) (iN n))))),(1,.one (.var 47 (.ex (.agg #[.bool false,.slice none 0 0,.slice none 0 0])))),(2,cC (zB (zA g.2.1 g.1 (zC g.2.1 g.1 g.1 (n-g.1))) g.1 h) n),(3,.one (.var 47 (.rat ((if zC g.2.1 g.1 g.1 (n-g.1)=g.1 then g.2.2 else-g.2.2)*(zA g.2.1 g.1 (zC g.2.1 g.1 g.1 (n-g.1))) g.1 g.1))))],4⟩) [(0,.id 0),(1,.id 1),(2,.id 2),(3,.id 3)] (λ_=>[(0,.id 0),(1,.id 1),(2,.id 2),(3,.id 3)]) (λh=>[.reg 18 [(2,.k h),(5,.k g.1),(9,.k g.1),(12,.k g.1),(14,.callS (c2 (.rat (((zB (zA g.2.1 g.1 (zC g.2.1 g.1 g.1 (n-g.1))) g.1 h) h g.1)/((zB (zA g.2.1 g.1 (zC g.2.1 g.1 g.1 (n-g.1))) g.1 h) g.1 g.1))) (bX (!decide (((zB (zA g.2.1 g.1 (zC g.2.1 g.1 g.1 (n-g.1))) g.1 h) g.1 g.1)=0)))) [])],.reg 19 [(4,.k h),(7,.callS (.rat (-(((zB (zA g.2.1 g.1 (zC g.2.1 g.1 g.1 (n-g.1))) g.1 h) h g.1)/((zB (zA g.2.1 g.1 (zC g.2.1 g.1 g.1 (n-g.1))) g.1 h) g.1 g.1)))) []),(10,.k g.1),(12,.callS (c2 (.sl 3 (λi0=>.rat (((zB (zA g.2.1 g.1 (zC g.2.1 g.1 g.1 (n-g.1))) g.1 h) h i0)+(-(((zB (zA g.2.1 g.1 (zC g.2.1 g.1 g.1 (n-g.1))) g.1 h) h g.1)/((zB (zA g.2.1 g.1 (zC g.2.1 g.1 g.1 (n-g.1))) g.1 h) g.1 g.1)))*((zB (zA g.2.1 g.1 (zC g.2.1 g.1 g.1 (n-g.1))) g.1 h) g.1 i0))) n) (bX true)) []),(16,.k h),(17,.row 0 (mE (zB (zA g.2.1 g.1 (zC g.2.1 g.1 g.1 (n-g.1))) g.1 (h+1)) n))],.reg 17 [(1,.z ((h+1:Nat):Int))],.reg 20 [(0,.z ((g.1+1:Nat):Int))]])])]) Tryz.func43 ((∀j0,j0<n->(∀j1,j1<n->True))/\_/\_/\((!decide ((n:Int)=(n:Int)))=false)/\_/\_/\(((λX1 X2 X3 X4 X5 X6 X7 X8:Prop=>∃g0:Nat×(Nat->Nat->Rat)×Rat,X1/\X2/\X3/\X4/\((0:Int)=((g0.1:Nat):Int))/\X5/\X6/\X7/\((.agg #[.bool false,.slice none 0 0,.slice none 0 0]:Value)=.agg #[.bool false,.slice none 0 0,.slice none 0 0])/\X8/\(∀j0,j0<n->((n:Nat)=n)/\(∀j1,j1<n->((q j0 j1:Rat)=(g0.2.1 j0 j1))))/\((((1:Int):Rat):Rat)=g0.2.2)/\(DetI s n q g0)) _ _ _ _ _ _ _ _)/\∀g:Nat×(Nat->Nat->Rat)×Rat,(DetI s n q g)->(((decide (((g.1:Nat):Int)<(n:Int)))=true->_/\(((decide ((jE g.2.1 n g.1 g.1:Int)<0))=true->(((cdet n q:Rat)=0)/\_))/\((decide ((jE g.2.1 n g.1 g.1:Int)<0))=false->(((!decide ((jE g.2.1 n g.1 g.1:Int)=((g.1:Nat):Int)))=true->((jE g.2.1 n g.1 g.1:Int)=(zC g.2.1 g.1 g.1 (n-g.1):Int))/\((zC g.2.1 g.1 g.1 (n-g.1))<n)/\((zC g.2.1 g.1 g.1 (n-g.1))<n)/\_/\(g.1<n)/\(g.1<n)/\_/\(g.1<n)/\(g.1<n)/\(((n:Nat)=n)/\(∀j0,j0<n->((g.2.1 (zC g.2.1 g.1 g.1 (n-g.1)) j0:Rat)=((setR g.2.1 g.1 (g.2.1 (zC g.2.1 g.1 g.1 (n-g.1)))) g.1 j0))))/\(∀t,t<n->t≠g.1->(.sl 3 (λi0=>.rat ((setR g.2.1 g.1 (g.2.1 (zC g.2.1 g.1 g.1 (n-g.1)))) t i0)) n:SV)=.sl 3 (λi0=>.rat (g.2.1 t i0)) n)/\((jE g.2.1 n g.1 g.1:Int)=(zC g.2.1 g.1 g.1 (n-g.1):Int))/\((zC g.2.1 g.1 g.1 (n-g.1))<n)/\((zC g.2.1 g.1 g.1 (n-g.1))<n)/\(((n:Nat)=n)/\(∀j0,j0<n->((g.2.1 g.1 j0:Rat)=((zA g.2.1 g.1 (zC g.2.1 g.1 g.1 (n-g.1))) (zC g.2.1 g.1 g.1 (n-g.1)) j0))))/\(∀t,t<n->t≠(zC g.2.1 g.1 g.1 (n-g.1))->(.sl 3 (λi0=>.rat ((zA g.2.1 g.1 (zC g.2.1 g.1 g.1 (n-g.1))) t i0)) n:SV)=.sl 3 (λi0=>.rat ((setR g.2.1 g.1 (g.2.1 (zC g.2.1 g.1 g.1 (n-g.1)))) t i0)) n)/\_/\_/\_/\_/\_/\_/\_/\_/\_/\_/\((.agg #[.bool false,.slice none 0 0,.slice none 0 0]:Value)=.agg #[.bool false,.slice none 0 0,.slice none 0 0])/\_/\_/\((-g.2.2:Rat)=(if zC g.2.1 g.1 g.1 (n-g.1)=g.1 then g.2.2 else-g.2.2))/\_/\(g.1<n)/\(g.1<n)/\_/\(g.1<n)/\_/\_/\(((λX1 X2 X3 X4 X5 X6 X7 X8 X9 X10:Prop=>∃h0:Nat,X1/\X2/\X3/\X4/\X5/\X6/\(((g.1+1:Nat):Int)=(h0:Int))/\X7/\X8/\X9/\((.agg #[.bool false,.slice none 0 0,.slice none 0 0]:Value)=.agg #[.bool false,.slice none 0 0,.slice none 0 0])/\X10/\(∀j0,j0<n->((n:Nat)=n)/\(∀j1,j1<n->(((zA g.2.1 g.1 (zC g.2.1 g.1 g.1 (n-g.1))) j0 j1:Rat)=((zB (zA g.2.1 g.1 (zC g.2.1 g.1 g.1 (n-g.1))) g.1 h0) j0 j1))))/\(((if zC g.2.1 g.1 g.1 (n-g.1)=g.1 then g.2.2 else-g.2.2)*((zA g.2.1 g.1 (zC g.2.1 g.1 g.1 (n-g.1))) g.1 g.1):Rat)=((if zC g.2.1 g.1 g.1 (n-g.1)=g.1 then g.2.2 else-g.2.2)*(zA g.2.1 g.1 (zC g.2.1 g.1 g.1 (n-g.1))) g.1 g.1))/\(g.1+1<=h0/\h0<=n)) _ _ _ _ _ _ _ _ _ _)/\∀h:Nat,(g.1+1<=h/\h<=n)->(((decide ((h:Int)<(n:Int)))=true->_/\(h<n)/\(h<n)/\_/\(g.1<n)/\_/\(g.1<n)/\(g.1<n)/\_/\(g.1<n)/\_/\_/\(h<n)/\(h<n)/\_/\_/\(g.1<n)/\(g.1<n)/\_/\_/\(h<n)/\(h<n)/\(((n:Nat)=n)/\(∀j0,j0<n->((((zB (zA g.2.1 g.1 (zC g.2.1 g.1 g.1 (n-g.1))) g.1 h) h j0)+(-(((zB (zA g.2.1 g.1 (zC g.2.1 g.1 g.1 (n-g.1))) g.1 h) h g.1)/((zB (zA g.2.1 g.1 (zC g.2.1 g.1 g.1 (n-g.1))) g.1 h) g.1 g.1)))*((zB (zA g.2.1 g.1 (zC g.2.1 g.1 g.1 (n-g.1))) g.1 h) g.1 j0):Rat)=((zB (zA g.2.1 g.1 (zC g.2.1 g.1 g.1 (n-g.1))) g.1 (h+1)) h j0))))/\(∀t,t<n->t≠h->(.sl 3 (λi0=>.rat ((zB (zA g.2.1 g.1 (zC g.2.1 g.1 g.1 (n-g.1))) g.1 (h+1)) t i0)) n:SV)=.sl 3 (λi0=>.rat ((zB (zA g.2.1 g.1 (zC g.2.1 g.1 g.1 (n-g.1))) g.1 h) t i0)) n)/\_/\((λX1 X2 X3 X4 X5 X6 X7 X8 X9 X10 X11:Prop=>∃h1:Nat,X1/\X2/\X3/\X4/\X5/\X6/\(((h+1:Nat):Int)=(h1:Int))/\X7/\X8/\X9/\((.agg #[.bool false,.slice none 0 0,.slice none 0 0]:Value)=.agg #[.bool false,.slice none 0 0,.slice none 0 0])/\X10/\(∀j0,j0<n->((n:Nat)=n)/\(∀j1,j1<n->(((zB (zA g.2.1 g.1 (zC g.2.1 g.1 g.1 (n-g.1))) g.1 (h+1)) j0 j1:Rat)=((zB (zA g.2.1 g.1 (zC g.2.1 g.1 g.1 (n-g.1))) g.1 h1) j0 j1))))/\X11/\(g.1+1<=h1/\h1<=n)/\(n-h1<n-h)) _ _ _ _ _ _ _ _ _ _ _))/\((decide ((h:Int)<(n:Int)))=false->_/\((λX1 X2 X3 X4 X5 X6 X7 X8:Prop=>∃g1:Nat×(Nat->Nat->Rat)×Rat,X1/\X2/\X3/\X4/\(((g.1+1:Nat):Int)=((g1.1:Nat):Int))/\X5/\X6/\X7/\((.agg #[.bool false,.slice none 0 0,.slice none 0 0]:Value)=.agg #[.bool false,.slice none 0 0,.slice none 0 0])/\X8/\(∀j0,j0<n->((n:Nat)=n)/\(∀j1,j1<n->(((zB (zA g.2.1 g.1 (zC g.2.1 g.1 g.1 (n-g.1))) g.1 h) j0 j1:Rat)=(g1.2.1 j0 j1))))/\((((if zC g.2.1 g.1 g.1 (n-g.1)=g.1 then g.2.2 else-g.2.2)*(zA g.2.1 g.1 (zC g.2.1 g.1 g.1 (n-g.1))) g.1 g.1):Rat)=g1.2.2)/\(DetI s n q g1)/\(n-g1.1<n-g.1)) _ _ _ _ _ _ _ _)))))/\((!decide ((jE g.2.1 n g.1 g.1:Int)=((g.1:Nat):Int)))=false->_/\_/\_/\_/\_/\_/\_/\_/\_/\((.agg #[.bool false,.slice none 0 0,.slice none 0 0]:Value)=.agg #[.bool false,.slice none 0 0,.slice none 0 0])/\_/\(∀j0,j0<n->((n:Nat)=n)/\(∀j1,j1<n->((g.2.1 j0 j1:Rat)=((zA g.2.1 g.1 (zC g.2.1 g.1 g.1 (n-g.1))) j0 j1))))/\((g.2.2:Rat)=(if zC g.2.1 g.1 g.1 (n-g.1)=g.1 then g.2.2 else-g.2.2))/\_/\(g.1<n)/\(g.1<n)/\_/\(g.1<n)/\_/\_/\(((λX1 X2 X3 X4 X5 X6 X7 X8 X9 X10:Prop=>∃h0:Nat,X1/\X2/\X3/\X4/\X5/\X6/\(((g.1+1:Nat):Int)=(h0:Int))/\X7/\X8/\X9/\((.agg #[.bool false,.slice none 0 0,.slice none 0 0]:Value)=.agg #[.bool false,.slice none 0 0,.slice none 0 0])/\X10/\(∀j0,j0<n->((n:Nat)=n)/\(∀j1,j1<n->(((zA g.2.1 g.1 (zC g.2.1 g.1 g.1 (n-g.1))) j0 j1:Rat)=((zB (zA g.2.1 g.1 (zC g.2.1 g.1 g.1 (n-g.1))) g.1 h0) j0 j1))))/\(((if zC g.2.1 g.1 g.1 (n-g.1)=g.1 then g.2.2 else-g.2.2)*((zA g.2.1 g.1 (zC g.2.1 g.1 g.1 (n-g.1))) g.1 g.1):Rat)=((if zC g.2.1 g.1 g.1 (n-g.1)=g.1 then g.2.2 else-g.2.2)*(zA g.2.1 g.1 (zC g.2.1 g.1 g.1 (n-g.1))) g.1 g.1))/\(g.1+1<=h0/\h0<=n)) _ _ _ _ _ _ _ _ _ _)/\∀h:Nat,(g.1+1<=h/\h<=n)->(((decide ((h:Int)<(n:Int)))=true->_/\(h<n)/\(h<n)/\_/\(g.1<n)/\_/\(g.1<n)/\(g.1<n)/\_/\(g.1<n)/\_/\_/\(h<n)/\(h<n)/\_/\_/\(g.1<n)/\(g.1<n)/\_/\_/\(h<n)/\(h<n)/\(((n:Nat)=n)/\(∀j0,j0<n->((((zB (zA g.2.1 g.1 (zC g.2.1 g.1 g.1 (n-g.1))) g.1 h) h j0)+(-(((zB (zA g.2.1 g.1 (zC g.2.1 g.1 g.1 (n-g.1))) g.1 h) h g.1)/((zB (zA g.2.1 g.1 (zC g.2.1 g.1 g.1 (n-g.1))) g.1 h) g.1 g.1)))*((zB (zA g.2.1 g.1 (zC g.2.1 g.1 g.1 (n-g.1))) g.1 h) g.1 j0):Rat)=((zB (zA g.2.1 g.1 (zC g.2.1 g.1 g.1 (n-g.1))) g.1 (h+1)) h j0))))/\(∀t,t<n->t≠h->(.sl 3 (λi0=>.rat ((zB (zA g.2.1 g.1 (zC g.2.1 g.1 g.1 (n-g.1))) g.1 (h+1)) t i0)) n:SV)=.sl 3 (λi0=>.rat ((zB (zA g.2.1 g.1 (zC g.2.1 g.1 g.1 (n-g.1))) g.1 h) t i0)) n)/\_/\((λX1 X2 X3 X4 X5 X6 X7 X8 X9 X10 X11:Prop=>∃h1:Nat,X1/\X2/\X3/\X4/\X5/\X6/\(((h+1:Nat):Int)=(h1:Int))/\X7/\X8/\X9/\((.agg #[.bool false,.slice none 0 0,.slice none 0 0]:Value)=.agg #[.bool false,.slice none 0 0,.slice none 0 0])/\X10/\(∀j0,j0<n->((n:Nat)=n)/\(∀j1,j1<n->(((zB (zA g.2.1 g.1 (zC g.2.1 g.1 g.1 (n-g.1))) g.1 (h+1)) j0 j1:Rat)=((zB (zA g.2.1 g.1 (zC g.2.1 g.1 g.1 (n-g.1))) g.1 h1) j0 j1))))/\X11/\(g.1+1<=h1/\h1<=n)/\(n-h1<n-h)) _ _ _ _ _ _ _ _ _ _ _))/\((decide ((h:Int)<(n:Int)))=false->_/\((λX1 X2 X3 X4 X5 X6 X7 X8:Prop=>∃g1:Nat×(Nat->Nat->Rat)×Rat,X1/\X2/\X3/\X4/\(((g.1+1:Nat):Int)=((g1.1:Nat):Int))/\X5/\X6/\X7/\((.agg #[.bool false,.slice none 0 0,.slice none 0 0]:Value)=.agg #[.bool false,.slice none 0 0,.slice none 0 0])/\X8/\(∀j0,j0<n->((n:Nat)=n)/\(∀j1,j1<n->(((zB (zA g.2.1 g.1 (zC g.2.1 g.1 g.1 (n-g.1))) g.1 h) j0 j1:Rat)=(g1.2.1 j0 j1))))/\((((if zC g.2.1 g.1 g.1 (n-g.1)=g.1 then g.2.2 else-g.2.2)*(zA g.2.1 g.1 (zC g.2.1 g.1 g.1 (n-g.1))) g.1 g.1):Rat)=g1.2.2)/\(DetI s n q g1)/\(n-g1.1<n-g.1)) _ _ _ _ _ _ _ _)))))))))/\((decide (((g.1:Nat):Int)<(n:Int)))=false->(((g.2.2:Rat)=(cdet n q))/\_)))))
  ⟨(λ_ _=>(λ_ _=>trivial)),sMatRows (m:=n) (n:=n) (q:=q),sMatCols (m:=n) (n:=n) (q:=q),zs,sRowsOf (m:=n) (n:=n) (q:=q) zo zo,sRatInt (x:=1) zo zo,⟨(0,q,1),(rf 0),(rf 0),(rf 0),(rf (n:Int)),rfl,(rf n),(leS (mE q n) n),(rf (n:Int)),rfl,(rf n),(λj0 hj0=>⟨rfl,(λj1 hj1=>rfl)⟩),rfl,(DetI.start hs)⟩,λg hg=>have hg1:=hg.le;⟨λhc23=>have hc23:=dT hc23;⟨sLead (m:=n) (n:=n) (a:=g.1) (c:=g.1) (q:=g.2.1) zo zo zo,λhc30=>have hc30:=dT hc30;have hk2:=lead_no hc30;have hk1:=leadK_le (B:=g.2.1) (c:=g.1) (n-g.1) g.1;⟨(hg.none zo zo),(rf (true:Bool))⟩,λhc30=>have hc30:=dF hc30;have hk2:=lead_yes hc30;have hk1:=leadK_le (B:=g.2.1) (c:=g.1) (n-g.1) g.1;have hp:=leadK_at (B:=g.2.1) (c:=g.1) (n-g.1) g.1 zo;have hR:=hg.room hn h1 zo hk2;have hd:=hg.next zo hk1.1 hk2 hp;⟨λhc34=>have hk3:=ne_of_bool (leadZ_pos hk2) hc34;⟨(leadZ_pos hk2),zo,zo,(rf ((g.1:Nat):Int)),zo,zo,(rf ((g.1:Nat):Int)),zo,zo,⟨rfl,(λj0 hj0=>(if_pos rfl).symm)⟩,(λt ht hne=>by simp only[setR_ne hne]),(leadZ_pos hk2),zo,zo,⟨rfl,(λj0 hj0=>(swap_at))⟩,(λt ht hne=>by simp only[swap_other hne]),sRatNeg (q:=g.2.2),(rf 0),(rf 0),(rf 0),(rf (n:Int)),(rf ((g.1:Nat):Int)),(rf ((g.1:Nat):Int)),(rf n),(leS (mE q n) n),(rf (n:Int)),rfl,(rf n),(leS (mE (zA g.2.1 g.1 (zC g.2.1 g.1 g.1 (n-g.1))) n) n),(by first | exact(if_neg hk3).symm | exact(if_pos hk3).symm),(rf ((g.1:Nat):Int)),zo,zo,(rf ((g.1:Nat):Int)),zo,jN (p:=if zC g.2.1 g.1 g.1 (n-g.1)=g.1 then g.2.2 else-g.2.2) (q:=(zA g.2.1 g.1 (zC g.2.1 g.1 g.1 (n-g.1))) g.1 g.1) hR.1,(wI (g:=g.1) zo),⟨g.1+1,(rf 0),(rf 0),(rf 0),(rf (n:Int)),(rf ((g.1:Nat):Int)),(rf ((g.1:Nat):Int)),zo,(rf n),(leS (mE q n) n),(rf (n:Int)),rfl,(rf n),(λj0 hj0=>⟨rfl,(λj1 hj1=>elimQ_zero)⟩),rfl,Nat.le_refl _,by omega⟩,λh hh0=>have hh1:=hh0.1;have hh2:=hh0.2;⟨λhc65=>have hc65:=dT hc65;have hh:g.1<h/\h<n:=⟨by omega,by omega⟩;⟨(rf (h:Int)),zo,zo,(rf ((g.1:Nat):Int)),zo,(rf ((g.1:Nat):Int)),zo,zo,(rf ((g.1:Nat):Int)),zo,sRatDiv (p:=(zB (zA g.2.1 g.1 (zC g.2.1 g.1 g.1 (n-g.1))) g.1 h) h g.1) (q:=(zB (zA g.2.1 g.1 (zC g.2.1 g.1 g.1 (n-g.1))) g.1 h) g.1 g.1) (hR.2.1 h hh.1 hh.2),(rf (h:Int)),zo,zo,sRatNeg (q:=((zB (zA g.2.1 g.1 (zC g.2.1 g.1 g.1 (n-g.1))) g.1 h) h g.1)/((zB (zA g.2.1 g.1 (zC g.2.1 g.1 g.1 (n-g.1))) g.1 h) g.1 g.1)),(rf ((g.1:Nat):Int)),zo,zo,(uG (a:=(zB (zA g.2.1 g.1 (zC g.2.1 g.1 g.1 (n-g.1))) g.1 h) h) (b:=(zB (zA g.2.1 g.1 (zC g.2.1 g.1 g.1 (n-g.1))) g.1 h) g.1) (n:=n) (r:=-(((zB (zA g.2.1 g.1 (zC g.2.1 g.1 g.1 (n-g.1))) g.1 h) h g.1)/((zB (zA g.2.1 g.1 (zC g.2.1 g.1 g.1 (n-g.1))) g.1 h) g.1 g.1))) zo (hR.2.2 h hh.1 hh.2)).frzV2,(rf (h:Int)),zo,zo,⟨rfl,(λj0 hj0=>(elim_now zo))⟩,(λt ht hne=>by simp only[elimQ_ne hne]),(wI (g:=h) zo),h+1,(rf 0),(rf 0),(rf 0),(rf (n:Int)),(rf ((g.1:Nat):Int)),(rf ((g.1:Nat):Int)),zo,(rf n),(leS (mE q n) n),(rf (n:Int)),rfl,(rf n),(λj0 hj0=>⟨rfl,(λj1 hj1=>rfl)⟩),(rf (((if zC g.2.1 g.1 g.1 (n-g.1)=g.1 then g.2.2 else-g.2.2)*(zA g.2.1 g.1 (zC g.2.1 g.1 g.1 (n-g.1))) g.1 g.1):Rat)),⟨by omega,by omega⟩,zo⟩,λhc65=>have hc65:=dF hc65;have hi3:h=n:=zo;⟨(wI (g:=g.1) zo),(g.1+1,zB (zA g.2.1 g.1 (zC g.2.1 g.1 g.1 (n-g.1))) g.1 n,((if zC g.2.1 g.1 g.1 (n-g.1)=g.1 then g.2.2 else-g.2.2)*(zA g.2.1 g.1 (zC g.2.1 g.1 g.1 (n-g.1))) g.1 g.1)),(rf 0),(rf 0),(rf 0),(rf (n:Int)),rfl,(rf n),(leS (mE q n) n),(rf (n:Int)),rfl,(rf n),(λj0 hj0=>⟨rfl,(λj1 hj1=>(by simp only[hi3]))⟩),rfl,hd,(by show n-(g.1+1)<n-g.1;omega)⟩⟩⟩,λhc34=>have hk3:=eq_of_bool (leadZ_pos hk2) hc34;⟨(rf 0),(rf 0),(rf 0),(rf (n:Int)),(rf ((g.1:Nat):Int)),(rf ((g.1:Nat):Int)),(rf n),(leS (mE q n) n),(rf (n:Int)),rfl,(rf n),(λj0 hj0=>⟨rfl,(λj1 hj1=>(by first | rfl | exact(swap_same hk3).symm))⟩),(by first | exact(if_neg hk3).symm | exact(if_pos hk3).symm),(rf ((g.1:Nat):Int)),zo,zo,(rf ((g.1:Nat):Int)),zo,jN (p:=if zC g.2.1 g.1 g.1 (n-g.1)=g.1 then g.2.2 else-g.2.2) (q:=(zA g.2.1 g.1 (zC g.2.1 g.1 g.1 (n-g.1))) g.1 g.1) hR.1,(wI (g:=g.1) zo),⟨g.1+1,(rf 0),(rf 0),(rf 0),(rf (n:Int)),(rf ((g.1:Nat):Int)),(rf ((g.1:Nat):Int)),zo,(rf n),(leS (mE q n) n),(rf (n:Int)),rfl,(rf n),(λj0 hj0=>⟨rfl,(λj1 hj1=>elimQ_zero)⟩),rfl,Nat.le_refl _,by omega⟩,λh hh0=>have hh1:=hh0.1;have hh2:=hh0.2;⟨λhc65=>have hc65:=dT hc65;have hh:g.1<h/\h<n:=⟨by omega,by omega⟩;⟨(rf (h:Int)),zo,zo,(rf ((g.1:Nat):Int)),zo,(rf ((g.1:Nat):Int)),zo,zo,(rf ((g.1:Nat):Int)),zo,sRatDiv (p:=(zB (zA g.2.1 g.1 (zC g.2.1 g.1 g.1 (n-g.1))) g.1 h) h g.1) (q:=(zB (zA g.2.1 g.1 (zC g.2.1 g.1 g.1 (n-g.1))) g.1 h) g.1 g.1) (hR.2.1 h hh.1 hh.2),(rf (h:Int)),zo,zo,sRatNeg (q:=((zB (zA g.2.1 g.1 (zC g.2.1 g.1 g.1 (n-g.1))) g.1 h) h g.1)/((zB (zA g.2.1 g.1 (zC g.2.1 g.1 g.1 (n-g.1))) g.1 h) g.1 g.1)),(rf ((g.1:Nat):Int)),zo,zo,(uG (a:=(zB (zA g.2.1 g.1 (zC g.2.1 g.1 g.1 (n-g.1))) g.1 h) h) (b:=(zB (zA g.2.1 g.1 (zC g.2.1 g.1 g.1 (n-g.1))) g.1 h) g.1) (n:=n) (r:=-(((zB (zA g.2.1 g.1 (zC g.2.1 g.1 g.1 (n-g.1))) g.1 h) h g.1)/((zB (zA g.2.1 g.1 (zC g.2.1 g.1 g.1 (n-g.1))) g.1 h) g.1 g.1))) zo (hR.2.2 h hh.1 hh.2)).frzV2,(rf (h:Int)),zo,zo,⟨rfl,(λj0 hj0=>(elim_now zo))⟩,(λt ht hne=>by simp only[elimQ_ne hne]),(wI (g:=h) zo),h+1,(rf 0),(rf 0),(rf 0),(rf (n:Int)),(rf ((g.1:Nat):Int)),(rf ((g.1:Nat):Int)),zo,(rf n),(leS (mE q n) n),(rf (n:Int)),rfl,(rf n),(λj0 hj0=>⟨rfl,(λj1 hj1=>rfl)⟩),(rf (((if zC g.2.1 g.1 g.1 (n-g.1)=g.1 then g.2.2 else-g.2.2)*(zA g.2.1 g.1 (zC g.2.1 g.1 g.1 (n-g.1))) g.1 g.1):Rat)),⟨by omega,by omega⟩,zo⟩,λhc65=>have hc65:=dF hc65;have hi3:h=n:=zo;⟨(wI (g:=g.1) zo),(g.1+1,zB (zA g.2.1 g.1 (zC g.2.1 g.1 g.1 (n-g.1))) g.1 n,((if zC g.2.1 g.1 g.1 (n-g.1)=g.1 then g.2.2 else-g.2.2)*(zA g.2.1 g.1 (zC g.2.1 g.1 g.1 (n-g.1))) g.1 g.1)),(rf 0),(rf 0),(rf 0),(rf (n:Int)),rfl,(rf n),(leS (mE q n) n),(rf (n:Int)),rfl,(rf n),(λj0 hj0=>⟨rfl,(λj1 hj1=>(by simp only[hi3]))⟩),rfl,hd,(by show n-(g.1+1)<n-g.1;omega)⟩⟩⟩⟩⟩,λhc23=>have hc23:=dF hc23;have hi2:g.1=n:=zo;⟨(hg.done hi2),(rf (true:Bool))⟩⟩⟩
open Go.RowKit
def offQ (k:Nat) (f:Nat->Rat) (j:Nat):Rat:=if j=k then 0 else f j
theorem off_self{k:Nat}{f:Nat->Rat}:offQ k f k=0:=if_pos rfl
theorem off_ne{k j:Nat}{f:Nat->Rat}(h:j≠k):offQ k f j=f j:=if_neg h
theorem sum_off{k n:Nat}(f:Nat->Rat)(hk:k<n):sumQ f n=f k+sumQ (offQ k f) n:=by
 have h1:sumQ f n=sumQ (λj=>(if j=k then f k else 0)+offQ k f j) n:=zI n λj _=>by
  by_cases e:j=k
  ·rw[if_pos e,e,off_self];grind
  ·rw[if_neg e,off_ne e];grind
 rw[h1,sumQ_add,jT (f:=λj=>if j=k then f k else 0) n hk λi _ hne=>if_neg hne,if_pos rfl]
def etaX (k:Nat) (w x:Nat->Rat) (j:Nat):Rat:=if j=k then x k/w k else x j-w j*(x k/w k)
def mulV (n:Nat) (A:Nat->Nat->Rat) (w:Nat->Rat) (i:Nat):Rat:=sumQ (λl=>A i l*w l) n
theorem rat_mul_div{a b:Rat}(h:b≠0):b*(a/b)=a:=by
 rw[Rat.div_def,Rat.mul_comm a,←Rat.mul_assoc,Rat.mul_inv_cancel _ h,Rat.one_mul]
theorem putC_self{A:Nat->Nat->Rat}{k i:Nat}{b:Nat->Rat}:putC A k b i k=b i:=if_pos rfl
theorem putC_ne{A:Nat->Nat->Rat}{k i j:Nat}{b:Nat->Rat}(h:j≠k):putC A k b i j=A i j:=if_neg h
theorem eta_step{n k:Nat}{A:Nat->Nat->Rat}{w x:Nat->Rat}(hk:k<n)(hw:w k≠0)(i:Nat):mulV n (putC A k (mulV n A w)) (etaX k w x) i=mulV n A x i:=by
 have hy:=rat_mul_div (a:=x k) hw
 show sumQ (λj=>putC A k (mulV n A w) i j*etaX k w x j) n=sumQ (λj=>A i j*x j) n
 rw[sum_off _ hk,sum_off (λj=>A i j*x j) hk]
 have e1:sumQ (offQ k λj=>putC A k (mulV n A w) i j*etaX k w x j) n=sumQ (λj=>offQ k (λj=>A i j*x j) j+-(x k/w k)*offQ k (λl=>A i l*w l) j) n:=zI n λj _=>by
  by_cases e:j=k
  ·rw[e,off_self,off_self,off_self];grind
  ·rw[off_ne e,off_ne e,off_ne e,putC_ne e]
   show A i j*(if j=k then _ else _)=_
   rw[if_neg e];grind
 have e2:putC A k (mulV n A w) i k*etaX k w x k=(A i k*w k+sumQ (offQ k λl=>A i l*w l) n)*(x k/w k):=by
  rw[putC_self]
  show sumQ (λl=>A i l*w l) n*(if k=k then x k/w k else _)=_
  rw[if_pos rfl,sum_off _ hk]
 have e3:A i k*x k=A i k*w k*(x k/w k):=by rw[Rat.mul_assoc,hy]
 rw[e1,e2,sumQ_add,yQ,e3]
 grind
def etaP (k:Nat) (w z:Nat->Rat) (h:Nat):Rat:=z k-sumQ (offQ k λl=>w l*z l) h
def etaZ (n k:Nat) (w z:Nat->Rat) (j:Nat):Rat:=if j=k then etaP k w z n/w k else z j
def rowM (n:Nat) (A:Nat->Nat->Rat) (y:Nat->Rat) (j:Nat):Rat:=sumQ (λi=>y i*A i j) n
theorem row_mulV{n k:Nat}{A:Nat->Nat->Rat}{w y:Nat->Rat}:rowM n (putC A k (mulV n A w)) y k=sumQ (λl=>w l*rowM n A y l) n:=by
 show sumQ (λi=>y i*putC A k (mulV n A w) i k) n=_
 rw[show sumQ (λi=>y i*putC A k (mulV n A w) i k) n=sumQ (λi=>sumQ (λl=>w l*(y i*A i l)) n) n from zI n λi _=>by
  rw[putC_self]
  show y i*sumQ _ n=_
  rw[←yQ]
  exact zI n λl _=>by grind,sumQ_comm]
 exact zI n λl _=>by rw[yQ];rfl
theorem row_ne{n k j:Nat}{A:Nat->Nat->Rat}{b y:Nat->Rat}(h:j≠k):rowM n (putC A k b) y j=rowM n A y j:=zI n λi _=>by rw[putC_ne h]
theorem etaZ_back{n k:Nat}{A:Nat->Nat->Rat}{w y z:Nat->Rat}(hk:k<n)(hw:w k≠0)(h:∀j,j<n->rowM n A y j=etaZ n k w z j):∀j,j<n->rowM n (putC A k (mulV n A w)) y j=z j:=λj hj=>by
 by_cases e:j=k
 ·subst e
  rw[row_mulV,sum_off _ hk,h j hj,show sumQ (offQ j λl=>w l*rowM n A y l) n=sumQ (offQ j λl=>w l*z l) n from zI n λl hl=>by
   by_cases e:l=j
   ·rw[e,off_self,off_self]
   ·rw[off_ne e,off_ne e,h l hl];unfold etaZ;rw[if_neg e]]
  unfold etaZ
  rw[if_pos rfl,rat_mul_div hw]
  unfold etaP
  grind
 ·rw[row_ne e,h j hj];unfold etaZ;rw[if_neg e]
abbrev Etas:=Nat->Nat×(Nat->Rat)
def etaM (n:Nat) (A:Nat->Nat->Rat) (e:Etas):Nat->Nat->Nat->Rat
 | 0=>A
 | t+1=>putC (etaM n A e t) (e t).1 (mulV n (etaM n A e t) (e t).2)
def zL (x:Nat->Rat) (e:Etas):Nat->Nat->Rat
 | 0=>x
 | t+1=>etaX (e t).1 (e t).2 (zL x e t)
def yA (n m:Nat) (z:Nat->Rat) (e:Etas):Nat->Nat->Rat
 | 0=>z
 | g+1=>etaZ n (e (m-1-g)).1 (e (m-1-g)).2 (yA n m z e g)
structure EtaOK (n:Nat) (e:Etas) (m:Nat):Prop where
 at_:∀t,t<m->(e t).1<n
 ne:∀t,t<m->(e t).2 (e t).1≠0
section
variable {n m:Nat} {A:Nat->Nat->Rat} {e:Etas}
theorem etaXs_ok(H:EtaOK n e m)(x:Nat->Rat)(i:Nat):∀t,t<=m->mulV n (etaM n A e t) (zL x e t) i=mulV n A x i
 | 0,_=>rfl
 | t+1,ht=>(eta_step (H.at_ t zo) (H.ne t zo) i).trans (etaXs_ok H x i t zo)
theorem etaZs_back(H:EtaOK n e m){y z:Nat->Rat}(h:∀j,j<n->rowM n A y j=yA n m z e m j):∀g,g<=m->∀j,j<n->rowM n (etaM n A e g) y j=yA n m z e (m-g) j
 | 0,_=>h
 | g+1,hg=>by
  have ih:=etaZs_back H h g zo
  rw[show m-g=(m-(g+1))+1 by omega] at ih
  have e1:m-1-(m-(g+1))=g:=by omega
  refine etaZ_back (A:=etaM n A e g) (H.at_ g zo) (H.ne g zo) λj hj=>(ih j hj).trans ?_
  show etaZ n (e (m-1-(m-(g+1)))).1 (e (m-1-(m-(g+1)))).2 _ j=_
  rw[e1]
theorem etaM_det(H:EtaOK n e m)(hA:cdet n A≠0):∀t,t<=m->cdet n (etaM n A e t)≠0
 | 0,_=>hA
 | t+1,ht=>by
  show cdet n (putC _ _ _)≠0
  rw[cramer (A:=etaM n A e t) (b:=mulV n (etaM n A e t) (e t).2) (x:=(e t).2) (λr _=>rfl) (H.at_ t zo)]
  exact rat_mul_ne (H.ne t zo) (etaM_det H hA t zo)
theorem etaM_cong{e':Etas}:∀t,(∀i,i<t->e i=e' i)->etaM n A e t=etaM n A e' t
 | 0,_=>rfl
 | t+1,h=>by
  show putC (etaM n A e t) (e t).1 (mulV n (etaM n A e t) (e t).2)=putC (etaM n A e' t) (e' t).1 (mulV n (etaM n A e' t) (e' t).2)
  rw[etaM_cong t λi hi=>h i zo,h t (Nat.lt_succ_self t)]
end
open Go.RowKit Go.Extern.Stop Go.Stop Go.Extern
namespace Er
theorem rlm(z:Sem Value)(f:TypeId->Addr->Nat->Nat->Sem Value)(v:Value):
  ReflectliteValue.method z f #[v]=(do match←ReflectliteValue.parts v with | none=>z | some (t,a,fl)=>f t a fl (fl%32)):=rfl
theorem rls(v x:Value):ReflectliteValue.set #[v,x]=(do
  let (some (dst,a,fl),some (src,b,_)):=(←ReflectliteValue.parts v,←ReflectliteValue.parts x)
   | unsupported (.noEntry "extern/(internal/reflectlite.Value).Set.zeroValue")
  if fl/ReflectliteValue.flagAddr%2==0 then unsupported (.noEntry "extern/(internal/reflectlite.Value).Set.unaddressable")
  let val←loadVar src b
  if←Rtype.directlyAssignable dst src then storeVar dst a val
  else if←Rtype.implements dst src then
   if(←Rtype.kind src)==20 then
    match val with
    | .nilIface=>unsupported (.noEntry "extern/reflectlite: a nil value of one interface type handed on as a value of another")
    | _=>storeVar dst a val
   else storeVar dst a (.iface src val)
  else panicString ("reflectlite.Set: value of type " ++(←Rtype.spelt src)++ " is not assignable to type " ++(←Rtype.spelt dst))
  pure (.tuple #[])):=rfl
theorem methodKind(h:Value)(w:World):(Go.method 377 169 (.agg #[h]) "Kind").run Tryz.prog w=.ok (199,h) w:=by kernel_rfl
theorem methodElem(h:Value)(w:World):(Go.method 377 169 (.agg #[h]) "Elem").run Tryz.prog w=.ok (215,.agg #[h]) w:=by kernel_rfl
theorem kF(h:Value)(w:World):(Go.method 377 169 (.agg #[h]) "Implements").run Tryz.prog w=.ok (216,.agg #[h]) w:=by kernel_rfl
theorem xR(h:Value)(w:World):(Go.method 377 169 (.agg #[h]) "AssignableTo").run Tryz.prog w=.ok (213,.agg #[h]) w:=by kernel_rfl
theorem valueOfTF(t:Addr)(w:World):(ReflectliteValue.unpack (.iface 115 (.pointer (some t)))).run Tryz.prog w
  =.ok (.agg #[.pointer (some ⟨1,115,none⟩),.pointer (some ⟨w.heap.size,0,none⟩),.int .u64 150]) (w.alloc (.cells #[.pointer (some t)] 115)):=by kernel_rfl
theorem typeTF(a:Addr)(w:World):(ReflectliteValue.methodAny (ReflectliteValue.valueError "reflectlite.Value.Type" 0) (λt _ _ _=>ReflectliteType.toType t) #[.agg #[.pointer (some ⟨1,115,none⟩),.pointer (some a),.int .u64 150]]).run Tryz.prog w=.ok (.iface 169 (.agg #[.pointer (some ⟨1,115,none⟩)])) w:=by kernel_rfl
theorem kindTF(w:World):((ReflectliteType.abiMethod λt=>(λa:Nat=>Value.int IntKind.u8 (a:Int))<$>Rtype.kind t) #[.pointer (some ⟨1,115,none⟩)]).run Tryz.prog w=.ok (.int .u8 22) w:=by kernel_rfl
theorem kindF(w:World):((ReflectliteType.abiMethod λt=>(λa:Nat=>Value.int IntKind.u8 (a:Int))<$>Rtype.kind t) #[.pointer (some ⟨1,113,none⟩)]).run Tryz.prog w=.ok (.int .u8 22) w:=by kernel_rfl
theorem partsTF(a:Addr)(w:World):(ReflectliteValue.parts (.agg #[.pointer (some ⟨1,115,none⟩),.pointer (some a),.int .u64 150])).run Tryz.prog w=.ok (some (115,a,150)) w:=by kernel_rfl
theorem isNilTF(a p:Addr)(W:World)(ha:W.cell? a=some (.pointer (some p))):
  (ReflectliteValue.method (ReflectliteValue.valueError "reflectlite.Value.IsNil" 0) ReflectliteValue.isNil #[.agg #[.pointer (some ⟨1,115,none⟩),.pointer (some a),.int .u64 150]]).run Tryz.prog W=.ok (.bool false) W:=by
 rw[rlm]
 simp only[Sem.run_bind,partsTF,Result.andThen]
 simp[ReflectliteValue.isNil,loadVar,isAgg,underlying,Tryz.underlying115,ha,Result.andThen]
theorem elemTF(w:World):(ReflectliteType.method ReflectliteType.elem #[.agg #[.pointer (some ⟨1,115,none⟩)]]).run Tryz.prog w=.ok (.iface 169 (.agg #[.pointer (some ⟨1,113,none⟩)])) w:=by kernel_rfl
theorem implementsF(w:World):(ReflectliteType.relation "Implements" ReflectliteType.implements_ #[.agg #[.pointer (some ⟨1,113,none⟩)],.iface 169 (.agg #[.pointer (some ⟨1,37,none⟩)])]).run Tryz.prog w=.ok (.bool true) w:=by kernel_rfl
theorem typeOfF(v:Value)(w:World):(ReflectliteType.typeOf #[.iface 113 v]).run Tryz.prog w=.ok (.iface 169 (.agg #[.pointer (some ⟨1,113,none⟩)])) w:=by kernel_rfl
theorem assignableFF(w:World):(ReflectliteType.relation "AssignableTo" ReflectliteType.assignableTo #[.agg #[.pointer (some ⟨1,113,none⟩)],.iface 169 (.agg #[.pointer (some ⟨1,113,none⟩)])]).run Tryz.prog w=.ok (.bool true) w:=by kernel_rfl
theorem assignableEF(w:World):(ReflectliteType.relation "AssignableTo" ReflectliteType.assignableTo #[.agg #[.pointer (some ⟨1,63,none⟩)],.iface 169 (.agg #[.pointer (some ⟨1,113,none⟩)])]).run Tryz.prog w=.ok (.bool false) w:=by kernel_rfl
theorem valueOfF(e:Addr)(w:World):(ReflectliteValue.unpack (.iface 113 (.pointer (some e)))).run Tryz.prog w
  =.ok (.agg #[.pointer (some ⟨1,113,none⟩),.pointer (some ⟨w.heap.size,0,none⟩),.int .u64 150]) (w.alloc (.cells #[.pointer (some e)] 113)):=by kernel_rfl
theorem elemOfTF(w:World):(Rtype.elem? 115).run Tryz.prog w=.ok (some 113) w:=by kernel_rfl
theorem mkF(p:Addr)(w:World):(ReflectliteValue.mk 113 p ReflectliteValue.flagAddr).run Tryz.prog w=.ok (.agg #[.pointer (some ⟨1,113,none⟩),.pointer (some p),.int .u64 406]) w:=by kernel_rfl
theorem elemVTF(a p:Addr)(W:World)(ha:W.cell? a=some (.pointer (some p))):
  (ReflectliteValue.method (ReflectliteValue.valueError "reflectlite.Value.Elem" 0) ReflectliteValue.elem #[.agg #[.pointer (some ⟨1, 115, none⟩), .pointer (some a), .int .u64 150]]).run Tryz.prog W
   =.ok (.agg #[.pointer (some ⟨1,113,none⟩),.pointer (some p),.int .u64 406]) W:=by
 rw[rlm]
 simp only[Sem.run_bind,partsTF,Result.andThen]
 simp[ReflectliteValue.elem,loadVar,isAgg,underlying,Tryz.underlying115,ha,Result.andThen,elemOfTF,mkF]
theorem partsAF(a:Addr)(w:World):(ReflectliteValue.parts (.agg #[.pointer (some ⟨1,113,none⟩),.pointer (some a),.int .u64 406])).run Tryz.prog w=.ok (some (113,a,406)) w:=by kernel_rfl
theorem partsF(a:Addr)(w:World):(ReflectliteValue.parts (.agg #[.pointer (some ⟨1,113,none⟩),.pointer (some a),.int .u64 150])).run Tryz.prog w=.ok (some (113,a,150)) w:=by kernel_rfl
theorem directF(w:World):(Rtype.directlyAssignable 113 113).run Tryz.prog w=.ok true w:=by kernel_rfl
theorem setF(ta b:Addr)(e:Addr)(old:Value)(W:World)(hb:W.cell? b=some (.pointer (some e)))(ht:W.cell? ta=some old)(hf:W.frozen? ta=false):
  (ReflectliteValue.set #[.agg #[.pointer (some ⟨1, 113, none⟩), .pointer (some ta), .int .u64 406], .agg #[.pointer (some ⟨1, 113, none⟩), .pointer (some b), .int .u64 150]]).run Tryz.prog W
   =.ok (.tuple #[]) (W.setCell ta (.pointer (some e))):=by
 rw[rls]
 simp only[Sem.run_bind,partsAF,partsF,Result.andThen]
 simp[ReflectliteValue.flagAddr,loadVar,isAgg,underlying,Tryz.underlying113,hb,Result.andThen,directF,storeVar,Value.cells,storeCells,Addr.add]
 rw[run_store Tryz.prog W ta _ _ (by rfl)]
 simp[ht,hf]
theorem valueOfTE(t:Addr)(w:World):(ReflectliteValue.unpack (.iface 165 (.pointer (some t)))).run Tryz.prog w
  =.ok (.agg #[.pointer (some ⟨1,165,none⟩),.pointer (some ⟨w.heap.size,0,none⟩),.int .u64 150]) (w.alloc (.cells #[.pointer (some t)] 165)):=by kernel_rfl
theorem typeTE(a:Addr)(w:World):(ReflectliteValue.methodAny (ReflectliteValue.valueError "reflectlite.Value.Type" 0) (λt _ _ _=>ReflectliteType.toType t) #[.agg #[.pointer (some ⟨1,165,none⟩),.pointer (some a),.int .u64 150]]).run Tryz.prog w=.ok (.iface 169 (.agg #[.pointer (some ⟨1,165,none⟩)])) w:=by kernel_rfl
theorem kindTE(w:World):((ReflectliteType.abiMethod λt=>(λa:Nat=>Value.int IntKind.u8 (a:Int))<$>Rtype.kind t) #[.pointer (some ⟨1,165,none⟩)]).run Tryz.prog w=.ok (.int .u8 22) w:=by kernel_rfl
theorem kindE(w:World):((ReflectliteType.abiMethod λt=>(λa:Nat=>Value.int IntKind.u8 (a:Int))<$>Rtype.kind t) #[.pointer (some ⟨1,63,none⟩)]).run Tryz.prog w=.ok (.int .u8 2) w:=by kernel_rfl
theorem partsTE(a:Addr)(w:World):(ReflectliteValue.parts (.agg #[.pointer (some ⟨1,165,none⟩),.pointer (some a),.int .u64 150])).run Tryz.prog w=.ok (some (165,a,150)) w:=by kernel_rfl
theorem isNilTE(a p:Addr)(W:World)(ha:W.cell? a=some (.pointer (some p))):
  (ReflectliteValue.method (ReflectliteValue.valueError "reflectlite.Value.IsNil" 0) ReflectliteValue.isNil #[.agg #[.pointer (some ⟨1,165,none⟩),.pointer (some a),.int .u64 150]]).run Tryz.prog W=.ok (.bool false) W:=by
 rw[rlm]
 simp only[Sem.run_bind,partsTE,Result.andThen]
 simp[ReflectliteValue.isNil,loadVar,isAgg,underlying,Tryz.underlying165,ha,Result.andThen]
theorem elemTE(w:World):(ReflectliteType.method ReflectliteType.elem #[.agg #[.pointer (some ⟨1,165,none⟩)]]).run Tryz.prog w=.ok (.iface 169 (.agg #[.pointer (some ⟨1,63,none⟩)])) w:=by kernel_rfl
theorem implementsE(w:World):(ReflectliteType.relation "Implements" ReflectliteType.implements_ #[.agg #[.pointer (some ⟨1,63,none⟩)],.iface 169 (.agg #[.pointer (some ⟨1,37,none⟩)])]).run Tryz.prog w=.ok (.bool true) w:=by kernel_rfl
theorem typeOfE(v:Value)(w:World):(ReflectliteType.typeOf #[.iface 63 v]).run Tryz.prog w=.ok (.iface 169 (.agg #[.pointer (some ⟨1,63,none⟩)])) w:=by kernel_rfl
theorem assignableFE(w:World):(ReflectliteType.relation "AssignableTo" ReflectliteType.assignableTo #[.agg #[.pointer (some ⟨1,113,none⟩)],.iface 169 (.agg #[.pointer (some ⟨1,63,none⟩)])]).run Tryz.prog w=.ok (.bool false) w:=by kernel_rfl
theorem assignableEE(w:World):(ReflectliteType.relation "AssignableTo" ReflectliteType.assignableTo #[.agg #[.pointer (some ⟨1,63,none⟩)],.iface 169 (.agg #[.pointer (some ⟨1,63,none⟩)])]).run Tryz.prog w=.ok (.bool true) w:=by kernel_rfl
theorem valueOfE(n:Int)(w:World):(ReflectliteValue.unpack (.iface 63 (.int .i64 n))).run Tryz.prog w
  =.ok (.agg #[.pointer (some ⟨1,63,none⟩),.pointer (some ⟨w.heap.size,0,none⟩),.int .u64 130]) (w.alloc (.cells #[.int .i64 n] 63)):=by kernel_rfl
theorem elemOfTE(w:World):(Rtype.elem? 165).run Tryz.prog w=.ok (some 63) w:=by kernel_rfl
theorem mkE(p:Addr)(w:World):(ReflectliteValue.mk 63 p ReflectliteValue.flagAddr).run Tryz.prog w=.ok (.agg #[.pointer (some ⟨1,63,none⟩),.pointer (some p),.int .u64 386]) w:=by kernel_rfl
theorem elemVTE(a p:Addr)(W:World)(ha:W.cell? a=some (.pointer (some p))):
  (ReflectliteValue.method (ReflectliteValue.valueError "reflectlite.Value.Elem" 0) ReflectliteValue.elem #[.agg #[.pointer (some ⟨1, 165, none⟩), .pointer (some a), .int .u64 150]]).run Tryz.prog W
   =.ok (.agg #[.pointer (some ⟨1,63,none⟩),.pointer (some p),.int .u64 386]) W:=by
 rw[rlm]
 simp only[Sem.run_bind,partsTE,Result.andThen]
 simp[ReflectliteValue.elem,loadVar,isAgg,underlying,Tryz.underlying165,ha,Result.andThen,elemOfTE,mkE]
theorem partsAE(a:Addr)(w:World):(ReflectliteValue.parts (.agg #[.pointer (some ⟨1,63,none⟩),.pointer (some a),.int .u64 386])).run Tryz.prog w=.ok (some (63,a,386)) w:=by kernel_rfl
theorem partsE(a:Addr)(w:World):(ReflectliteValue.parts (.agg #[.pointer (some ⟨1,63,none⟩),.pointer (some a),.int .u64 130])).run Tryz.prog w=.ok (some (63,a,130)) w:=by kernel_rfl
theorem directE(w:World):(Rtype.directlyAssignable 63 63).run Tryz.prog w=.ok true w:=by kernel_rfl
theorem setE(ta b:Addr)(n:Int)(old:Value)(W:World)(hb:W.cell? b=some (.int .i64 n))(ht:W.cell? ta=some old)(hf:W.frozen? ta=false):
  (ReflectliteValue.set #[.agg #[.pointer (some ⟨1, 63, none⟩), .pointer (some ta), .int .u64 386], .agg #[.pointer (some ⟨1, 63, none⟩), .pointer (some b), .int .u64 130]]).run Tryz.prog W
   =.ok (.tuple #[]) (W.setCell ta (.int .i64 n)):=by
 rw[rls]
 simp only[Sem.run_bind,partsAE,partsE,Result.andThen]
 simp[ReflectliteValue.flagAddr,loadVar,isAgg,underlying,Tryz.underlying63,hb,Result.andThen,directE,storeVar,Value.cells,storeCells,Addr.add]
 rw[run_store Tryz.prog W ta _ _ (by rfl)]
 simp[ht,hf]
theorem noAsF(v:Value)(xT:TypeId)(w:World):(Instr.typeAssert (.iface 113 v) xT 203 true).run Tryz.prog w=.ok (.tuple #[.nilIface,.bool false]) w:=run_typeAssert_lacksB Tryz.underlying203 zk zk v xT w
theorem hasUnF(v:Value)(xT:TypeId)(w:World):(Instr.typeAssert (.iface 113 v) xT 174 true).run Tryz.prog w=.ok (.tuple #[.iface 113 v,.bool true]) w:=run_typeAssert_hasB Tryz.underlying174 zk v xT w
theorem noAsE(v:Value)(xT:TypeId)(w:World):(Instr.typeAssert (.iface 63 v) xT 203 true).run Tryz.prog w=.ok (.tuple #[.nilIface,.bool false]) w:=run_typeAssert_lacksB Tryz.underlying203 zk zk v xT w
theorem noUnE(v:Value)(xT:TypeId)(w:World):(Instr.typeAssert (.iface 63 v) xT 174 true).run Tryz.prog w=.ok (.tuple #[.nilIface,.bool false]) w:=run_typeAssert_lacksB Tryz.underlying174 zk zk v xT w
theorem noUnsE(v:Value)(xT:TypeId)(w:World):(Instr.typeAssert (.iface 63 v) xT 176 true).run Tryz.prog w=.ok (.tuple #[.nilIface,.bool false]) w:=run_typeAssert_lacksB Tryz.underlying176 zk zk v xT w
theorem methodUnwrap(v:Value)(w:World):(Go.method 377 113 v "Unwrap").run Tryz.prog w=.ok (208,v) w:=by kernel_rfl
set_option maxHeartbeats 4000000 in
theorem as_FF(e:Addr)(t:Addr)(old:Value)(w:World)(hg:w.cell? ⟨0,0,none⟩=some (.iface 169 (.agg #[.pointer (some ⟨1,37,none⟩)])))(ht0:w.cell? t=some old)(hf0:w.frozen? t=false):
  Calls Tryz.prog 60 #[.iface 113 (.pointer (some e)),.iface 115 (.pointer (some t))] w λev w'=>ev=.returned (.bool true)/\w'=((((w.alloc (.cells #[.pointer (some t)] 115)).alloc (.cells #[.pointer (some ⟨1,115,none⟩),.pointer (some ⟨w.heap.size,0,none⟩),.int .u64 150] 158)).alloc (.cells #[.pointer (some ⟨1,115,none⟩),.pointer (some ⟨w.heap.size,0,none⟩),.int .u64 150] 158)).alloc (.cells #[.pointer (some e)] 113)).setCell t (.pointer (some e)):=by
 have hVO:=@run_callFunc_extern Tryz.prog 98 _ (λargs=>ReflectliteValue.unpack (args.getD 0 (.tuple #[]))) Tryz.func98 zk zk zk zk
 have hTy:=@run_callFunc_extern Tryz.prog 99 _ (ReflectliteValue.methodAny (ReflectliteValue.valueError "reflectlite.Value.Type" 0) (λt _ _ _=>ReflectliteType.toType t)) Tryz.func99 zk zk zk zk
 have hIN:=@run_callFunc_extern Tryz.prog 100 _ (ReflectliteValue.method (ReflectliteValue.valueError "reflectlite.Value.IsNil" 0) ReflectliteValue.isNil) Tryz.func100 zk zk zk zk
 have hKi:=@run_callFunc_extern Tryz.prog 199 _ (ReflectliteType.abiMethod λt=>do pure (.int .u8 (←Rtype.kind t))) Tryz.func199 zk zk zk zk
 have hEl:=@run_callFunc_extern Tryz.prog 215 _ (ReflectliteType.method ReflectliteType.elem) Tryz.func215 zk zk zk zk
 have hIm:=@run_callFunc_extern Tryz.prog 216 _ (ReflectliteType.relation "Implements" ReflectliteType.implements_) Tryz.func216 zk zk zk zk
 have hTO:=@run_callFunc_extern Tryz.prog 67 _ ReflectliteType.typeOf Tryz.func67 zk zk zk zk
 have hAT:=@run_callFunc_extern Tryz.prog 213 _ (ReflectliteType.relation "AssignableTo" ReflectliteType.assignableTo) Tryz.func213 zk zk zk zk
 have hEV:=@run_callFunc_extern Tryz.prog 134 _ (ReflectliteValue.method (ReflectliteValue.valueError "reflectlite.Value.Elem" 0) ReflectliteValue.elem) Tryz.func134 zk zk zk zk
 have hSe:=@run_callFunc_extern Tryz.prog 135 _ ReflectliteValue.set Tryz.func135 zk zk zk zk
 have xvalueOfTF:=valueOfTF
 have xtypeTF:=typeTF
 have xmethodKind:=methodKind
 have xmethodElem:=methodElem
 have xmethodImplements:=kF
 have xmethodAssignableTo:=xR
 have xkindTF:=kindTF
 have xkindF:=kindF
 have xelemTF:=elemTF
 have ximplementsF:=implementsF
 have xvalueOfF:=valueOfF
 have xtypeOfF:=typeOfF
 have xassignableFF:=assignableFF
 have xnoAsF:=noAsF
 have xhasUnF:=hasUnF
 have xtypeOfE:=typeOfE
 have xassignableEF:=assignableEF
 have xnoAsE:=noAsE
 have xnoUnE:=noUnE
 have xnoUnsE:=noUnsE
 have n8:=isNilTF ⟨w.heap.size,0,none⟩ t ((w.alloc (.cells #[.pointer (some t)] 115)).alloc (.cells #[.pointer (some ⟨1,115,none⟩),.pointer (some ⟨w.heap.size,0,none⟩),.int .u64 150] 158)) (by simp)
 have hlt:0<w.heap.size:=by
  rcases Nat.eq_zero_or_pos w.heap.size with h0 | h
  ·simp[World.cell?,h0] at hg
  ·exact h
 have hg2:((w.alloc (.cells #[.pointer (some t)] 115)).alloc (.cells #[.pointer (some ⟨1,115,none⟩),.pointer (some ⟨w.heap.size,0,none⟩),.int .u64 150] 158)).cell? ⟨0,0,none⟩=some (.iface 169 (.agg #[.pointer (some ⟨1,37,none⟩)])):=by
  rw[World.cell?_alloc_lt _ _ ⟨0,0,none⟩ (by simp),World.cell?_alloc_lt _ _ ⟨0,0,none⟩ hlt];exact hg
 have htl:t.block<w.heap.size:=by
  rcases Nat.lt_or_ge t.block w.heap.size with h | h
  ·exact h
  ·simp[World.cell?,Array.getElem?_eq_none h] at ht0
 have el:=elemVTF ⟨w.heap.size,0,none⟩ t (((w.alloc (.cells #[.pointer (some t)] 115)).alloc (.cells #[.pointer (some ⟨1,115,none⟩),.pointer (some ⟨w.heap.size,0,none⟩),.int .u64 150] 158)).alloc (.cells #[.pointer (some ⟨1,115,none⟩),.pointer (some ⟨w.heap.size,0,none⟩),.int .u64 150] 158)) (by rw[World.cell?_alloc_lt _ _ ⟨w.heap.size,0,none⟩ (by simp;omega)];simp)
 have st:=setF t ⟨w.heap.size+1+1+1,0,none⟩ e old (((((w.alloc (.cells #[.pointer (some t)] 115)).alloc (.cells #[.pointer (some ⟨1,115,none⟩),.pointer (some ⟨w.heap.size,0,none⟩),.int .u64 150] 158)).alloc (.cells #[.pointer (some ⟨1,115,none⟩),.pointer (some ⟨w.heap.size,0,none⟩),.int .u64 150] 158)).alloc (.cells #[.pointer (some e)] 113)))
  (by rw[World.cell?_alloc_at _ _ _ _ (by simp)];rfl)
  (by rw[World.cell?_alloc_lt _ _ t (by simp;omega),World.cell?_alloc_lt _ _ t (by simp;omega),World.cell?_alloc_lt _ _ t (by simp;omega),World.cell?_alloc_lt _ _ t htl];exact ht0)
  (by rw[World.frozen?_alloc_old _ _ t (by simp;omega),World.frozen?_alloc_old _ _ t (by simp;omega),World.frozen?_alloc_old _ _ t (by simp;omega),World.frozen?_alloc_old _ _ t (Nat.ne_of_lt htl)];exact hf0)
 go_enter Tryz.func60,Tryz.ntmps60
 go_wp2
 refine wp_loop_rounds 1 ?_
 rw[rounds_succ]
 go_wp2
 go_ret
 exact⟨rfl,rfl⟩
set_option maxHeartbeats 4000000 in
theorem as_EE(n:Int)(t:Addr)(old:Value)(w:World)(hg:w.cell? ⟨0,0,none⟩=some (.iface 169 (.agg #[.pointer (some ⟨1,37,none⟩)])))(ht0:w.cell? t=some old)(hf0:w.frozen? t=false):
  Calls Tryz.prog 60 #[.iface 63 (.int .i64 n),.iface 165 (.pointer (some t))] w λev w'=>ev=.returned (.bool true)/\w'=((((w.alloc (.cells #[.pointer (some t)] 165)).alloc (.cells #[.pointer (some ⟨1,165,none⟩),.pointer (some ⟨w.heap.size,0,none⟩),.int .u64 150] 158)).alloc (.cells #[.pointer (some ⟨1,165,none⟩),.pointer (some ⟨w.heap.size,0,none⟩),.int .u64 150] 158)).alloc (.cells #[.int .i64 n] 63)).setCell t (.int .i64 n):=by
 have hVO:=@run_callFunc_extern Tryz.prog 98 _ (λargs=>ReflectliteValue.unpack (args.getD 0 (.tuple #[]))) Tryz.func98 zk zk zk zk
 have hTy:=@run_callFunc_extern Tryz.prog 99 _ (ReflectliteValue.methodAny (ReflectliteValue.valueError "reflectlite.Value.Type" 0) (λt _ _ _=>ReflectliteType.toType t)) Tryz.func99 zk zk zk zk
 have hIN:=@run_callFunc_extern Tryz.prog 100 _ (ReflectliteValue.method (ReflectliteValue.valueError "reflectlite.Value.IsNil" 0) ReflectliteValue.isNil) Tryz.func100 zk zk zk zk
 have hKi:=@run_callFunc_extern Tryz.prog 199 _ (ReflectliteType.abiMethod λt=>do pure (.int .u8 (←Rtype.kind t))) Tryz.func199 zk zk zk zk
 have hEl:=@run_callFunc_extern Tryz.prog 215 _ (ReflectliteType.method ReflectliteType.elem) Tryz.func215 zk zk zk zk
 have hIm:=@run_callFunc_extern Tryz.prog 216 _ (ReflectliteType.relation "Implements" ReflectliteType.implements_) Tryz.func216 zk zk zk zk
 have hTO:=@run_callFunc_extern Tryz.prog 67 _ ReflectliteType.typeOf Tryz.func67 zk zk zk zk
 have hAT:=@run_callFunc_extern Tryz.prog 213 _ (ReflectliteType.relation "AssignableTo" ReflectliteType.assignableTo) Tryz.func213 zk zk zk zk
 have hEV:=@run_callFunc_extern Tryz.prog 134 _ (ReflectliteValue.method (ReflectliteValue.valueError "reflectlite.Value.Elem" 0) ReflectliteValue.elem) Tryz.func134 zk zk zk zk
 have hSe:=@run_callFunc_extern Tryz.prog 135 _ ReflectliteValue.set Tryz.func135 zk zk zk zk
 have xvalueOfTE:=valueOfTE
 have xtypeTE:=typeTE
 have xmethodKind:=methodKind
 have xmethodElem:=methodElem
 have xmethodImplements:=kF
 have xmethodAssignableTo:=xR
 have xkindTE:=kindTE
 have xkindE:=kindE
 have xelemTE:=elemTE
 have ximplementsE:=implementsE
 have xvalueOfE:=valueOfE
 have xtypeOfF:=typeOfF
 have xassignableFE:=assignableFE
 have xnoAsF:=noAsF
 have xhasUnF:=hasUnF
 have xtypeOfE:=typeOfE
 have xassignableEE:=assignableEE
 have xnoAsE:=noAsE
 have xnoUnE:=noUnE
 have xnoUnsE:=noUnsE
 have n8:=isNilTE ⟨w.heap.size,0,none⟩ t ((w.alloc (.cells #[.pointer (some t)] 165)).alloc (.cells #[.pointer (some ⟨1,165,none⟩),.pointer (some ⟨w.heap.size,0,none⟩),.int .u64 150] 158)) (by simp)
 have hlt:0<w.heap.size:=by
  rcases Nat.eq_zero_or_pos w.heap.size with h0 | h
  ·simp[World.cell?,h0] at hg
  ·exact h
 have hg2:((w.alloc (.cells #[.pointer (some t)] 165)).alloc (.cells #[.pointer (some ⟨1,165,none⟩),.pointer (some ⟨w.heap.size,0,none⟩),.int .u64 150] 158)).cell? ⟨0,0,none⟩=some (.iface 169 (.agg #[.pointer (some ⟨1,37,none⟩)])):=by
  rw[World.cell?_alloc_lt _ _ ⟨0,0,none⟩ (by simp),World.cell?_alloc_lt _ _ ⟨0,0,none⟩ hlt];exact hg
 have htl:t.block<w.heap.size:=by
  rcases Nat.lt_or_ge t.block w.heap.size with h | h
  ·exact h
  ·simp[World.cell?,Array.getElem?_eq_none h] at ht0
 have el:=elemVTE ⟨w.heap.size,0,none⟩ t (((w.alloc (.cells #[.pointer (some t)] 165)).alloc (.cells #[.pointer (some ⟨1,165,none⟩),.pointer (some ⟨w.heap.size,0,none⟩),.int .u64 150] 158)).alloc (.cells #[.pointer (some ⟨1,165,none⟩),.pointer (some ⟨w.heap.size,0,none⟩),.int .u64 150] 158)) (by rw[World.cell?_alloc_lt _ _ ⟨w.heap.size,0,none⟩ (by simp;omega)];simp)
 have st:=setE t ⟨w.heap.size+1+1+1,0,none⟩ n old (((((w.alloc (.cells #[.pointer (some t)] 165)).alloc (.cells #[.pointer (some ⟨1,165,none⟩),.pointer (some ⟨w.heap.size,0,none⟩),.int .u64 150] 158)).alloc (.cells #[.pointer (some ⟨1,165,none⟩),.pointer (some ⟨w.heap.size,0,none⟩),.int .u64 150] 158)).alloc (.cells #[.int .i64 n] 63)))
  (by rw[World.cell?_alloc_at _ _ _ _ (by simp)];rfl)
  (by rw[World.cell?_alloc_lt _ _ t (by simp;omega),World.cell?_alloc_lt _ _ t (by simp;omega),World.cell?_alloc_lt _ _ t (by simp;omega),World.cell?_alloc_lt _ _ t htl];exact ht0)
  (by rw[World.frozen?_alloc_old _ _ t (by simp;omega),World.frozen?_alloc_old _ _ t (by simp;omega),World.frozen?_alloc_old _ _ t (by simp;omega),World.frozen?_alloc_old _ _ t (Nat.ne_of_lt htl)];exact hf0)
 go_enter Tryz.func60,Tryz.ntmps60
 go_wp2
 refine wp_loop_rounds 1 ?_
 rw[rounds_succ]
 go_wp2
 go_ret
 exact⟨rfl,rfl⟩
set_option maxHeartbeats 4000000 in
theorem as_EF(n:Int)(t:Addr)(old:Value)(w:World)(hg:w.cell? ⟨0,0,none⟩=some (.iface 169 (.agg #[.pointer (some ⟨1,37,none⟩)])))(ht0:w.cell? t=some old):
  Calls Tryz.prog 60 #[.iface 63 (.int .i64 n),.iface 115 (.pointer (some t))] w λev w'=>ev=.returned (.bool false)/\w'=(((w.alloc (.cells #[.pointer (some t)] 115)).alloc (.cells #[.pointer (some ⟨1,115,none⟩),.pointer (some ⟨w.heap.size,0,none⟩),.int .u64 150] 158)).alloc (.cells #[.pointer (some ⟨1,115,none⟩),.pointer (some ⟨w.heap.size,0,none⟩),.int .u64 150] 158)):=by
 have hVO:=@run_callFunc_extern Tryz.prog 98 _ (λargs=>ReflectliteValue.unpack (args.getD 0 (.tuple #[]))) Tryz.func98 zk zk zk zk
 have hTy:=@run_callFunc_extern Tryz.prog 99 _ (ReflectliteValue.methodAny (ReflectliteValue.valueError "reflectlite.Value.Type" 0) (λt _ _ _=>ReflectliteType.toType t)) Tryz.func99 zk zk zk zk
 have hIN:=@run_callFunc_extern Tryz.prog 100 _ (ReflectliteValue.method (ReflectliteValue.valueError "reflectlite.Value.IsNil" 0) ReflectliteValue.isNil) Tryz.func100 zk zk zk zk
 have hKi:=@run_callFunc_extern Tryz.prog 199 _ (ReflectliteType.abiMethod λt=>do pure (.int .u8 (←Rtype.kind t))) Tryz.func199 zk zk zk zk
 have hEl:=@run_callFunc_extern Tryz.prog 215 _ (ReflectliteType.method ReflectliteType.elem) Tryz.func215 zk zk zk zk
 have hIm:=@run_callFunc_extern Tryz.prog 216 _ (ReflectliteType.relation "Implements" ReflectliteType.implements_) Tryz.func216 zk zk zk zk
 have hTO:=@run_callFunc_extern Tryz.prog 67 _ ReflectliteType.typeOf Tryz.func67 zk zk zk zk
 have hAT:=@run_callFunc_extern Tryz.prog 213 _ (ReflectliteType.relation "AssignableTo" ReflectliteType.assignableTo) Tryz.func213 zk zk zk zk
 have xvalueOfTF:=valueOfTF
 have xtypeTF:=typeTF
 have xmethodKind:=methodKind
 have xmethodElem:=methodElem
 have xmethodImplements:=kF
 have xmethodAssignableTo:=xR
 have xkindTF:=kindTF
 have xkindF:=kindF
 have xelemTF:=elemTF
 have ximplementsF:=implementsF
 have xtypeOfF:=typeOfF
 have xassignableFF:=assignableFF
 have xnoAsF:=noAsF
 have xhasUnF:=hasUnF
 have xtypeOfE:=typeOfE
 have xassignableEF:=assignableEF
 have xnoAsE:=noAsE
 have xnoUnE:=noUnE
 have xnoUnsE:=noUnsE
 have n8:=isNilTF ⟨w.heap.size,0,none⟩ t ((w.alloc (.cells #[.pointer (some t)] 115)).alloc (.cells #[.pointer (some ⟨1,115,none⟩),.pointer (some ⟨w.heap.size,0,none⟩),.int .u64 150] 158)) (by simp)
 have hlt:0<w.heap.size:=by
  rcases Nat.eq_zero_or_pos w.heap.size with h0 | h
  ·simp[World.cell?,h0] at hg
  ·exact h
 have hg2:((w.alloc (.cells #[.pointer (some t)] 115)).alloc (.cells #[.pointer (some ⟨1,115,none⟩),.pointer (some ⟨w.heap.size,0,none⟩),.int .u64 150] 158)).cell? ⟨0,0,none⟩=some (.iface 169 (.agg #[.pointer (some ⟨1,37,none⟩)])):=by
  rw[World.cell?_alloc_lt _ _ ⟨0,0,none⟩ (by simp),World.cell?_alloc_lt _ _ ⟨0,0,none⟩ hlt];exact hg
 have htl:t.block<w.heap.size:=by
  rcases Nat.lt_or_ge t.block w.heap.size with h | h
  ·exact h
  ·simp[World.cell?,Array.getElem?_eq_none h] at ht0
 go_enter Tryz.func60,Tryz.ntmps60
 go_wp2
 refine wp_loop_rounds 1 ?_
 rw[rounds_succ]
 go_wp2
 go_ret
 exact⟨rfl,rfl⟩
set_option maxHeartbeats 4000000 in
theorem as_FE(n:Int)(g o:Nat)(t:Addr)(old:Value)(w:World)(hg:w.cell? ⟨0,0,none⟩=some (.iface 169 (.agg #[.pointer (some ⟨1,37,none⟩)])))(ht0:w.cell? t=some old)(hf0:w.frozen? t=false)(he:w.cell? ⟨g,o+2,none⟩=some (.iface 63 (.int .i64 n))):
  Calls Tryz.prog 60 #[.iface 113 (.pointer (some ⟨g,o,none⟩)),.iface 165 (.pointer (some t))] w λev w'=>ev=.returned (.bool true)/\w'=((((w.alloc (.cells #[.pointer (some t)] 165)).alloc (.cells #[.pointer (some ⟨1,165,none⟩),.pointer (some ⟨w.heap.size,0,none⟩),.int .u64 150] 158)).alloc (.cells #[.pointer (some ⟨1,165,none⟩),.pointer (some ⟨w.heap.size,0,none⟩),.int .u64 150] 158)).alloc (.cells #[.int .i64 n] 63)).setCell t (.int .i64 n):=by
 have hVO:=@run_callFunc_extern Tryz.prog 98 _ (λargs=>ReflectliteValue.unpack (args.getD 0 (.tuple #[]))) Tryz.func98 zk zk zk zk
 have hTy:=@run_callFunc_extern Tryz.prog 99 _ (ReflectliteValue.methodAny (ReflectliteValue.valueError "reflectlite.Value.Type" 0) (λt _ _ _=>ReflectliteType.toType t)) Tryz.func99 zk zk zk zk
 have hIN:=@run_callFunc_extern Tryz.prog 100 _ (ReflectliteValue.method (ReflectliteValue.valueError "reflectlite.Value.IsNil" 0) ReflectliteValue.isNil) Tryz.func100 zk zk zk zk
 have hKi:=@run_callFunc_extern Tryz.prog 199 _ (ReflectliteType.abiMethod λt=>do pure (.int .u8 (←Rtype.kind t))) Tryz.func199 zk zk zk zk
 have hEl:=@run_callFunc_extern Tryz.prog 215 _ (ReflectliteType.method ReflectliteType.elem) Tryz.func215 zk zk zk zk
 have hIm:=@run_callFunc_extern Tryz.prog 216 _ (ReflectliteType.relation "Implements" ReflectliteType.implements_) Tryz.func216 zk zk zk zk
 have hTO:=@run_callFunc_extern Tryz.prog 67 _ ReflectliteType.typeOf Tryz.func67 zk zk zk zk
 have hAT:=@run_callFunc_extern Tryz.prog 213 _ (ReflectliteType.relation "AssignableTo" ReflectliteType.assignableTo) Tryz.func213 zk zk zk zk
 have hEV:=@run_callFunc_extern Tryz.prog 134 _ (ReflectliteValue.method (ReflectliteValue.valueError "reflectlite.Value.Elem" 0) ReflectliteValue.elem) Tryz.func134 zk zk zk zk
 have hSe:=@run_callFunc_extern Tryz.prog 135 _ ReflectliteValue.set Tryz.func135 zk zk zk zk
 have xvalueOfTE:=valueOfTE
 have xtypeTE:=typeTE
 have xmethodKind:=methodKind
 have xmethodElem:=methodElem
 have xmethodImplements:=kF
 have xmethodAssignableTo:=xR
 have xkindTE:=kindTE
 have xkindE:=kindE
 have xelemTE:=elemTE
 have ximplementsE:=implementsE
 have xvalueOfE:=valueOfE
 have xtypeOfF:=typeOfF
 have xassignableFE:=assignableFE
 have xnoAsF:=noAsF
 have xhasUnF:=hasUnF
 have xtypeOfE:=typeOfE
 have xassignableEE:=assignableEE
 have xnoAsE:=noAsE
 have xnoUnE:=noUnE
 have xnoUnsE:=noUnsE
 have xmethodUnwrap:=methodUnwrap
 have n8:=isNilTE ⟨w.heap.size,0,none⟩ t ((w.alloc (.cells #[.pointer (some t)] 165)).alloc (.cells #[.pointer (some ⟨1,165,none⟩),.pointer (some ⟨w.heap.size,0,none⟩),.int .u64 150] 158)) (by simp)
 have hlt:0<w.heap.size:=by
  rcases Nat.eq_zero_or_pos w.heap.size with h0 | h
  ·simp[World.cell?,h0] at hg
  ·exact h
 have hg2:((w.alloc (.cells #[.pointer (some t)] 165)).alloc (.cells #[.pointer (some ⟨1,165,none⟩),.pointer (some ⟨w.heap.size,0,none⟩),.int .u64 150] 158)).cell? ⟨0,0,none⟩=some (.iface 169 (.agg #[.pointer (some ⟨1,37,none⟩)])):=by
  rw[World.cell?_alloc_lt _ _ ⟨0,0,none⟩ (by simp),World.cell?_alloc_lt _ _ ⟨0,0,none⟩ hlt];exact hg
 have htl:t.block<w.heap.size:=by
  rcases Nat.lt_or_ge t.block w.heap.size with h | h
  ·exact h
  ·simp[World.cell?,Array.getElem?_eq_none h] at ht0
 have el:=elemVTE ⟨w.heap.size,0,none⟩ t (((w.alloc (.cells #[.pointer (some t)] 165)).alloc (.cells #[.pointer (some ⟨1,165,none⟩),.pointer (some ⟨w.heap.size,0,none⟩),.int .u64 150] 158)).alloc (.cells #[.pointer (some ⟨1,165,none⟩),.pointer (some ⟨w.heap.size,0,none⟩),.int .u64 150] 158)) (by rw[World.cell?_alloc_lt _ _ ⟨w.heap.size,0,none⟩ (by simp;omega)];simp)
 have st:=setE t ⟨w.heap.size+1+1+1,0,none⟩ n old (((((w.alloc (.cells #[.pointer (some t)] 165)).alloc (.cells #[.pointer (some ⟨1,165,none⟩),.pointer (some ⟨w.heap.size,0,none⟩),.int .u64 150] 158)).alloc (.cells #[.pointer (some ⟨1,165,none⟩),.pointer (some ⟨w.heap.size,0,none⟩),.int .u64 150] 158)).alloc (.cells #[.int .i64 n] 63)))
  (by rw[World.cell?_alloc_at _ _ _ _ (by simp)];rfl)
  (by rw[World.cell?_alloc_lt _ _ t (by simp;omega),World.cell?_alloc_lt _ _ t (by simp;omega),World.cell?_alloc_lt _ _ t (by simp;omega),World.cell?_alloc_lt _ _ t htl];exact ht0)
  (by rw[World.frozen?_alloc_old _ _ t (by simp;omega),World.frozen?_alloc_old _ _ t (by simp;omega),World.frozen?_alloc_old _ _ t (by simp;omega),World.frozen?_alloc_old _ _ t (Nat.ne_of_lt htl)];exact hf0)
 have xmethodUnwrap:=methodUnwrap
 have hgl:g<w.heap.size:=by
  rcases Nat.lt_or_ge g w.heap.size with h | h
  ·exact h
  ·simp[World.cell?,Array.getElem?_eq_none h] at he
 have he2:(((w.alloc (.cells #[.pointer (some t)] 165)).alloc (.cells #[.pointer (some ⟨1,165,none⟩),.pointer (some ⟨w.heap.size,0,none⟩),.int .u64 150] 158)).alloc (.cells #[.pointer (some ⟨1,165,none⟩),.pointer (some ⟨w.heap.size,0,none⟩),.int .u64 150] 158)).cell? ⟨g,o+2,none⟩=some (.iface 63 (.int .i64 n)):=by
  rw[World.cell?_alloc_lt _ _ ⟨g,o+2,none⟩ (by simp;omega),World.cell?_alloc_lt _ _ ⟨g,o+2,none⟩ (by simp;omega),World.cell?_alloc_lt _ _ ⟨g,o+2,none⟩ hgl];exact he
 go_enter Tryz.func60,Tryz.ntmps60
 go_wp2
 refine wp_loop_rounds 2 ?_
 rw[rounds_succ]
 go_wp2
 rw[rounds_succ]
 go_wp2
 go_ret
 exact⟨rfl,rfl⟩
end Er
open Go.RowKit Go.Extern.Stop Go.Stop Go.Extern
abbrev sNo:ByteArray:=⟨#[]⟩
abbrev sCol:ByteArray:=⟨#[99,111,108,117,109,110]⟩
namespace Er
set_option maxHeartbeats 4000000 in
theorem place_E(n:Int)(w:World)(hg:w.cell? ⟨0,0,none⟩=some (.iface 169 (.agg #[.pointer (some ⟨1,37,none⟩)]))):Calls Tryz.prog 23 #[.iface 63 (.int .i64 n)] w λe w'=>e=.returned (.tuple #[.string sNo,.int .i64 0,.bool false])/\Grow w w':=by
 have hlt:0<w.heap.size:=by
  rcases Nat.eq_zero_or_pos w.heap.size with h0 | h
  ·simp[World.cell?,h0] at hg
  ·exact h
 have hgA:(w.alloc (.cells #[.pointer none] 113)).cell? ⟨0,0,none⟩=some (.iface 169 (.agg #[.pointer (some ⟨1,37,none⟩)])):=by
  rw[World.cell?_alloc_lt _ _ ⟨0,0,none⟩ hlt];exact hg
 have htA:(w.alloc (.cells #[.pointer none] 113)).cell? ⟨w.heap.size,0,none⟩=some (.pointer none):=by simp
 have hfA:(w.alloc (.cells #[.pointer none] 113)).frozen? ⟨w.heap.size,0,none⟩=false:=by simp
 go_enter Tryz.func23,Tryz.ntmps23
 go_wp2_with (go_at_call 60;refine(as_EF n _ _ _ hgA htA).mono ?_;rintro e w' ⟨rfl,rfl⟩)
 refine bodyPost_ret (v:=.tuple #[.string sNo,.int .i64 0,.bool false]) (by simp[results,go_sem]) rfl ⟨rfl,?_⟩
 exact Wz
set_option maxHeartbeats 4000000 in
theorem number_E(n:Int)(w:World)(hg:w.cell? ⟨0,0,none⟩=some (.iface 169 (.agg #[.pointer (some ⟨1,37,none⟩)]))):Calls Tryz.prog 63 #[.iface 63 (.int .i64 n)] w λe w'=>e=.returned (.int .i64 n)/\Grow w w':=by
 have hlt:0<w.heap.size:=by
  rcases Nat.eq_zero_or_pos w.heap.size with h0 | h
  ·simp[World.cell?,h0] at hg
  ·exact h
 have hgA:(w.alloc (.cells #[.int .i64 0] 63)).cell? ⟨0,0,none⟩=some (.iface 169 (.agg #[.pointer (some ⟨1,37,none⟩)])):=by
  rw[World.cell?_alloc_lt _ _ ⟨0,0,none⟩ hlt];exact hg
 have htA:(w.alloc (.cells #[.int .i64 0] 63)).cell? ⟨w.heap.size,0,none⟩=some (.int .i64 0):=by simp
 have hfA:(w.alloc (.cells #[.int .i64 0] 63)).frozen? ⟨w.heap.size,0,none⟩=false:=by simp
 go_enter Tryz.func63,Tryz.ntmps63
 go_wp2_with (go_at_call 60;refine(as_EE n _ _ _ hgA htA hfA).mono ?_;rintro e w' ⟨rfl,rfl⟩)
 go_ret
 refine⟨rfl,?_⟩
 exact Wz
set_option maxHeartbeats 4000000 in
theorem number_F(s:ByteArray)(k n:Int)(g o:Nat)(w:World)(hg:w.cell? ⟨0,0,none⟩=some (.iface 169 (.agg #[.pointer (some ⟨1,37,none⟩)])))(_:w.cell? ⟨g,o+0,none⟩=some (.string s))(_:w.cell? ⟨g,o+1,none⟩=some (.int .i64 k))(h2:w.cell? ⟨g,o+2,none⟩=some (.iface 63 (.int .i64 n))):Calls Tryz.prog 63 #[.iface 113 (.pointer (some ⟨g,o,none⟩))] w λe w'=>e=.returned (.int .i64 n)/\Grow w w':=by
 have hgl:g<w.heap.size:=by
  rcases Nat.lt_or_ge g w.heap.size with h | h
  ·exact h
  ·simp[World.cell?,Array.getElem?_eq_none h] at h2
 have hlt:0<w.heap.size:=by
  rcases Nat.eq_zero_or_pos w.heap.size with h0 | h
  ·simp[World.cell?,h0] at hg
  ·exact h
 have hgA:(w.alloc (.cells #[.int .i64 0] 63)).cell? ⟨0,0,none⟩=some (.iface 169 (.agg #[.pointer (some ⟨1,37,none⟩)])):=by
  rw[World.cell?_alloc_lt _ _ ⟨0,0,none⟩ hlt];exact hg
 have htA:(w.alloc (.cells #[.int .i64 0] 63)).cell? ⟨w.heap.size,0,none⟩=some (.int .i64 0):=by simp
 have hfA:(w.alloc (.cells #[.int .i64 0] 63)).frozen? ⟨w.heap.size,0,none⟩=false:=by simp
 have c2:(w.alloc (.cells #[.int .i64 0] 63)).cell? ⟨g,o+2,none⟩=some (.iface 63 (.int .i64 n)):=by
  rw[World.cell?_alloc_lt _ _ ⟨g,o+2,none⟩ hgl];exact h2
 go_enter Tryz.func63,Tryz.ntmps63
 go_wp2_with (go_at_call 60;refine(as_FE n g o _ _ _ hgA htA hfA c2).mono ?_;rintro e w' ⟨rfl,rfl⟩)
 go_ret
 refine⟨rfl,?_⟩
 exact Wz
set_option maxHeartbeats 4000000 in
theorem place_F(s:ByteArray)(k n:Int)(g o:Nat)(w:World)(hg:w.cell? ⟨0,0,none⟩=some (.iface 169 (.agg #[.pointer (some ⟨1,37,none⟩)])))(h0:w.cell? ⟨g,o+0,none⟩=some (.string s))(h1:w.cell? ⟨g,o+1,none⟩=some (.int .i64 k))(h2:w.cell? ⟨g,o+2,none⟩=some (.iface 63 (.int .i64 n))):Calls Tryz.prog 23 #[.iface 113 (.pointer (some ⟨g,o,none⟩))] w λe w'=>e=.returned (.tuple #[.string s,.int .i64 k,.bool true])/\Grow w w':=by
 have hgl:g<w.heap.size:=by
  rcases Nat.lt_or_ge g w.heap.size with h | h
  ·exact h
  ·simp[World.cell?,Array.getElem?_eq_none h] at h2
 have hlt:0<w.heap.size:=by
  rcases Nat.eq_zero_or_pos w.heap.size with h0 | h
  ·simp[World.cell?,h0] at hg
  ·exact h
 have hgA:(w.alloc (.cells #[.pointer none] 113)).cell? ⟨0,0,none⟩=some (.iface 169 (.agg #[.pointer (some ⟨1,37,none⟩)])):=by
  rw[World.cell?_alloc_lt _ _ ⟨0,0,none⟩ hlt];exact hg
 have htA:(w.alloc (.cells #[.pointer none] 113)).cell? ⟨w.heap.size,0,none⟩=some (.pointer none):=by simp
 have hfA:(w.alloc (.cells #[.pointer none] 113)).frozen? ⟨w.heap.size,0,none⟩=false:=by simp
 have d0:(((((w.alloc (.cells #[.pointer (some ⟨g,o,none⟩)] 113)).alloc (.cells #[.pointer (some ⟨w.heap.size,0,none⟩)] 115)).alloc (.cells #[.pointer (some ⟨1,115,none⟩),.pointer (some ⟨w.heap.size+1,0,none⟩),.int .u64 150] 158)).alloc (.cells #[.pointer (some ⟨1,115,none⟩),.pointer (some ⟨w.heap.size+1,0,none⟩),.int .u64 150] 158)).alloc (.cells #[.pointer (some ⟨g,o,none⟩)] 113)).cell? ⟨g,o,none⟩=some (.string s):=by
  rw[World.cell?_alloc_lt _ _ ⟨g,o,none⟩ (by simp;omega),World.cell?_alloc_lt _ _ ⟨g,o,none⟩ (by simp;omega),World.cell?_alloc_lt _ _ ⟨g,o,none⟩ (by simp;omega),World.cell?_alloc_lt _ _ ⟨g,o,none⟩ (by simp;omega),World.cell?_alloc_lt _ _ ⟨g,o,none⟩ hgl];exact h0
 have d1:(((((w.alloc (.cells #[.pointer (some ⟨g,o,none⟩)] 113)).alloc (.cells #[.pointer (some ⟨w.heap.size,0,none⟩)] 115)).alloc (.cells #[.pointer (some ⟨1,115,none⟩),.pointer (some ⟨w.heap.size+1,0,none⟩),.int .u64 150] 158)).alloc (.cells #[.pointer (some ⟨1,115,none⟩),.pointer (some ⟨w.heap.size+1,0,none⟩),.int .u64 150] 158)).alloc (.cells #[.pointer (some ⟨g,o,none⟩)] 113)).cell? ⟨g,o+1,none⟩=some (.int .i64 k):=by
  rw[World.cell?_alloc_lt _ _ ⟨g,o+1,none⟩ (by simp;omega),World.cell?_alloc_lt _ _ ⟨g,o+1,none⟩ (by simp;omega),World.cell?_alloc_lt _ _ ⟨g,o+1,none⟩ (by simp;omega),World.cell?_alloc_lt _ _ ⟨g,o+1,none⟩ (by simp;omega),World.cell?_alloc_lt _ _ ⟨g,o+1,none⟩ hgl];exact h1
 go_enter Tryz.func23,Tryz.ntmps23
 go_wp2_with (go_at_call 60;refine(as_FF ⟨g,o,none⟩ _ _ _ hgA htA hfA).mono ?_;rintro e w' ⟨rfl,rfl⟩)
 have dT:(((((w.alloc (.cells #[.pointer (some ⟨g,o,none⟩)] 113)).alloc (.cells #[.pointer (some ⟨w.heap.size,0,none⟩)] 115)).alloc (.cells #[.pointer (some ⟨1,115,none⟩),.pointer (some ⟨w.heap.size+1,0,none⟩),.int .u64 150] 158)).alloc (.cells #[.pointer (some ⟨1,115,none⟩),.pointer (some ⟨w.heap.size+1,0,none⟩),.int .u64 150] 158)).alloc (.cells #[.pointer (some ⟨g,o,none⟩)] 113)).cell? ⟨w.heap.size,0,none⟩=some (.pointer (some ⟨g,o,none⟩)):=by
  rw[World.cell?_alloc_lt _ _ ⟨w.heap.size,0,none⟩ (by simp;omega),World.cell?_alloc_lt _ _ ⟨w.heap.size,0,none⟩ (by simp;omega),World.cell?_alloc_lt _ _ ⟨w.heap.size,0,none⟩ (by simp;omega),World.cell?_alloc_lt _ _ ⟨w.heap.size,0,none⟩ (by simp)];simp
 go_region_held3 (λw'=>w'.cell? ⟨w.heap.size,0,none⟩=some (.pointer (some ⟨g,o,none⟩))/\w'.cell? ⟨g,o,none⟩=some (.string s)/\w'.cell? ⟨g,o+1,none⟩=some (.int .i64 k))
  (first | exact⟨dT,d0,d1⟩ | go_keep) (fail)
 go_wp2
 refine bodyPost_ret (v:=.tuple #[.string s,.int .i64 k,.bool true]) (by simp[results,go_sem]) rfl ⟨rfl,?_⟩
 exact Wz
end Er
theorem CallOK.of_raw{P:Program}{f:FuncId}{As:List SV}{R:SV}{u:Value}(cal:yF P f)(hR:∀(η:Eta) (A:Nat->Prop) (w:World),R.R η A w u)
  (h:∀(η:Eta) (F:Nat->Prop) (w:World) (vals:List Value),Gl w->xP As η F w vals->Calls P f vals.toArray w λe w'=>e=.returned u/\Grow w w'):CallOK P f As R []:=
 ⟨cal, λη0 F w vals hF hA => (h η0 F w vals hF.gl hA).mono λe w' ⟨e1, g⟩ => ⟨u, λ_ _ => none, e1,
  ⟨.of_grow g,(λk i o hk=>by rw[xH] at hk;cases hk),(λk i o _ _ hk=>by rw[xH] at hk;cases hk),(λk i o _ _ _ _ _ _ hk=>by rw[xH] at hk;cases hk),λ_ _ _=>rfl,hF.lt,hF.gl,λ_ h=>h⟩,hR _ _ _⟩⟩
abbrev fltS (s:ByteArray) (k n:Int):SV:=.ifc 113 (.ep (.agg (.cn (.ex (.string s)) (.cn (.ex (.int .i64 k)) (.cn (.ex (.iface 63 (.int .i64 n))) .nl)))))
theorem flt_open{s:ByteArray}{k n:Int}{η:Eta}{A:Nat->Prop}{w:World}{v:Value}(h:(fltS s k n).R η A w v):∃g o,v=.iface 113 (.pointer (some ⟨g,o,none⟩))/\w.cell? ⟨g,o+0,none⟩=some (.string s)/\w.cell? ⟨g,o+1,none⟩=some (.int .i64 k)/\w.cell? ⟨g,o+2,none⟩=some (.iface 63 (.int .i64 n)):=by
 obtain⟨u,rfl,g,o,rfl,_,_,e,⟨vs,rfl,x,xs,e1,hx,y,ys,e2,hy,z,zs,e3,hz,hn⟩,hc⟩:=h
 obtain rfl:=hx
 obtain rfl:=hy
 obtain rfl:=hz
 have hn:Value.tuple zs.toArray=.tuple #[]:=hn
 simp only[Value.tuple.injEq] at e1 e2 e3 hn
 obtain rfl:zs=[]:=by simpa using congrArg Array.toList hn
 obtain rfl:ys=_:=by simpa using congrArg Array.toList e3
 obtain rfl:xs=_:=by simpa using congrArg Array.toList e2
 obtain rfl:vs=_:=by simpa using congrArg Array.toList e1
 exact⟨g,o,rfl,hc 0 _ rfl,hc 1 _ rfl,hc 2 _ rfl⟩
abbrev PLC (s:ByteArray) (k:Int) (b:Bool):SV:=.cn (.ex (.string s)) (.cn (.ex (.int .i64 k)) (.cn (.ex (.bool b)) .nl))
theorem plc_R{s:ByteArray}{k:Int}{b:Bool}(η:Eta)(A:Nat->Prop)(w:World):(PLC s k b).R η A w (.tuple #[.string s,.int .i64 k,.bool b]):=
 ⟨.string s,[.int .i64 k,.bool b],rfl,rfl,.int .i64 k,[.bool b],rfl,rfl,.bool b,[],rfl,rfl,rfl⟩
theorem sPlaceE{n:Int}:CallOK Tryz.prog 23 [.ex (.iface 63 (.int .i64 n))] (.cn (.ex (.string sNo)) (.cn (.ex (.int .i64 0)) (.cn (.ex (.bool false)) (.nl)))) []:=
 .of_raw (zK Tryz.func23 rfl zk) plc_R λη F w vals hg hA=>by
  match vals,hA with
  | [v0],hA=>obtain rfl:=hA.1;exact Er.place_E n w (hg _ rfl).2
theorem sPlaceF{s:ByteArray}{k n:Int}:CallOK Tryz.prog 23 [.ifc 113 (.ep (.agg (.cn (.ex (.string s)) (.cn (.ex (.int .i64 k)) (.cn (.ex (.iface 63 (.int .i64 n))) (.nl))))))] (.cn (.ex (.string s)) (.cn (.ex (.int .i64 k)) (.cn (.ex (.bool true)) (.nl)))) []:=
 .of_raw (zK Tryz.func23 rfl zk) plc_R λη F w vals hg hA=>by
  match vals,hA with
  | [v0],hA=>obtain⟨g,o,rfl,h0,h1,h2⟩:=flt_open hA.1;exact Er.place_F s k n g o w (hg _ rfl).2 h0 h1 h2
theorem sNumberE{n:Int}:CallOK Tryz.prog 63 [.ex (.iface 63 (.int .i64 n))] (.ex (.int .i64 n)) []:=
 .of_raw (zK Tryz.func63 rfl zk) (λ_ _ _=>rfl) λη F w vals hg hA=>by
  match vals,hA with
  | [v0],hA=>obtain rfl:=hA.1;exact Er.number_E n w (hg _ rfl).2
theorem sNumberF{s:ByteArray}{k n:Int}:CallOK Tryz.prog 63 [.ifc 113 (.ep (.agg (.cn (.ex (.string s)) (.cn (.ex (.int .i64 k)) (.cn (.ex (.iface 63 (.int .i64 n))) (.nl))))))] (.ex (.int .i64 n)) []:=
 .of_raw (zK Tryz.func63 rfl zk) (λ_ _ _=>rfl) λη F w vals hg hA=>by
  match vals,hA with
  | [v0],hA=>obtain⟨g,o,rfl,h0,h1,h2⟩:=flt_open hA.1;exact Er.number_F s k n g o w (hg _ rfl).2 h0 h1 h2
theorem CallOKm.tag0 [Fz]{P:Program}{f:FuncId}{T:TypeId}{a a':SV}{ins outs:List Hl}{A:List SV}{R:SV}{b:Nat}(h:CallOKm P f (.one (.var T a)::ins) A R (.one (.var T a')::outs)):CallOKm P f (.one (.var T a (some b))::ins) A R (.one (.var T a' (some b))::outs):=by
 refine⟨h.cal,λη0 M F w vals H hA=>?_⟩
 obtain⟨H1,hv1⟩:=H.retell (own':=zN 0 (.one (.var T a)::ins)) (λk i o' hk=>by
  rw[kW] at hk⊢
  cases k with
  | zero=>
   cases i with
   | zero=>
    obtain rfl:=Option.some.inj hk
    exact⟨_,rfl,λA h e ⟨b1,v,e1,e2,e3,e4,e5⟩=>⟨b1,v,e1,e2,e3,e4,λb0 hb=>by cases hb⟩⟩
   | succ i=>cases hk
  | succ k=>exact⟨o',hk,λ_ _ _ h=>h⟩) (λk i o hk=>by
  rw[kW] at hk⊢
  cases k with
  | zero=>
   cases i with
   | zero=>exact⟨_,rfl⟩
   | succ i=>cases hk
  | succ k=>exact⟨o,hk⟩) (λk i hk=>by
  rw[kW] at hk⊢
  cases k with
  | zero=>exact hk
  | succ k=>exact hk)
 rw[←hv1] at hA
 refine(h.run η0 M F w vals H1 hA).mono λe w'=>?_
 rintro⟨v,η',rfl,H2,hR,hx⟩
 obtain⟨hd,he,b1,u1,e1,e2,e3,e4,e5⟩:=H.ob 0 0 (.var T a (some b)) rfl
 have hbb:=e5 b rfl
 obtain⟨H3,hv3⟩:=H2.retell (own':=zN 0 (.one (.var T a' (some b))::outs)) (λk i o' hk=>by
  rw[kW] at hk⊢
  cases k with
  | zero=>
   cases i with
   | zero=>
    obtain rfl:=Option.some.inj hk
    refine⟨_,rfl,λA h eh ⟨b2,v2,q1,q2,q3,q4,q5⟩=>⟨b2,v2,q1,q2,q3,q4,λb0 hb=>?_⟩⟩
    have h6:=hx 0 (by simp) 0 h eh
    rw[he] at h6
    have h7:=(Option.some.inj h6).symm
    rw[q1,e1] at h7
    have h8:b2=b1:=by injection h7 with h7;injection h7 with h7;injection h7
    obtain rfl:=Option.some.inj hb
    rw[h8,hbb]
   | succ i=>cases hk
  | succ k=>exact⟨o',hk,λ_ _ _ h=>h⟩) (λk i o hk=>by
  rw[kW] at hk⊢
  cases k with
  | zero=>
   cases i with
   | zero=>exact⟨_,rfl⟩
   | succ i=>cases hk
  | succ k=>exact⟨o,hk⟩) (λk i hk=>by
  rw[kW] at hk⊢
  cases k with
  | zero=>exact hk
  | succ k=>exact hk)
 exact⟨v,η',rfl,H3,by rw[hv3];exact hR,λk hk=>hx k (by simpa using hk)⟩
open Go.RowKit
abbrev bV (a b:Nat) (S:LuS) (n:Nat) (t:Option Nat:=none):OB:=.var 100 (.agg (.cn (.own a 0) (.cn (.ep (lvE S n)) (.cn (.own b 0) .nl)))) t
abbrev eE (e:Etas) (n m:Nat):OB:=.row 108 2 (λi0=>.agg (.cn (iN ((e i0).1)) (.cn (vE (e i0).2 n) .nl))) m
def basX (n:Nat) (D:Nat->Nat->Rat) (v:Nat->Rat) (j:Nat):Rat:=luX n (luS n D n).1 (luS n D n).2.1 (λi=>v ((luS n D n).2.2.1 i)) j
def basY (n:Nat) (D:Nat->Nat->Rat) (v:Nat->Rat) (j:Nat):Rat:=luW n (luS n D n).1 (luS n D n).2.1 v ((luS n D n).2.2.2.1 j)
def etaI (k:Nat) (w x:Nat->Rat) (h j:Nat):Rat:=if j=k then x k/w k else if j<h then x j-w j*(x k/w k) else x j
def etaJ (k:Nat) (w z:Nat->Rat) (h j:Nat):Rat:=if j=k then etaP k w z h else z j
section
variable {k h j n:Nat} {w x z:Nat->Rat}
theorem etaI_put:x k/w k=etaI k w x 0 k:=(if_pos rfl).symm
theorem etaI_zero(e:j≠k):etaI k w x 0 j=x j:=by unfold etaI;rw[if_neg e,if_neg (Nat.not_lt_zero j)]
theorem etaI_self:etaI k w x h k=x k/w k:=if_pos rfl
theorem etaI_here(e:h≠k):etaI k w x h h=x h:=by unfold etaI;rw[if_neg e,if_neg (Nat.lt_irrefl h)]
theorem etaI_at(e:h≠k):etaI k w x h h-w h*etaI k w x h k=etaI k w x (h+1) h:=by
 rw[etaI_here e,etaI_self]
 unfold etaI
 rw[if_neg e,if_pos (Nat.lt_succ_self h)]
theorem etaI_ne(e:j≠h):etaI k w x (h+1) j=etaI k w x h j:=by
 unfold etaI
 by_cases e1:j=k
 ·rw[if_pos e1,if_pos e1]
 ·rw[if_neg e1,if_neg e1]
  by_cases e2:j<h
  ·rw[if_pos e2,if_pos zo]
  ·rw[if_neg e2,if_neg zo]
theorem etaI_skip(e:h=k):etaI k w x h j=etaI k w x (h+1) j:=by
 by_cases e1:j=h
 ·unfold etaI
  rw[if_pos zo,if_pos zo]
 ·exact(etaI_ne e1).symm
theorem etaI_all(hj:j<n):etaI k w x n j=etaX k w x j:=by
 unfold etaI etaX
 by_cases e1:j=k
 ·rw[if_pos e1,if_pos e1]
 ·rw[if_neg e1,if_neg e1,if_pos hj]
theorem eta_div(hx:htq (x k)<=30000)(hw:htq (w k)<=4000):szq (x k)+szq (w k)+1<=17179869184:=by
 have:=uC (x k)
 have:=uC (w k)
 omega
theorem eta_room(e:h≠k)(hx:htq (x k)<=4000)(hw:htq (w k)<=4000)(hx2:htq (x h)<=4000)(hw2:htq (w h)<=4000):szq (w h)+szq (etaI k w x h k)<=17179869184/\szq (etaI k w x h h)+szq (w h*etaI k w x h k)<=17179869184:=by
 rw[etaI_here e,etaI_self]
 have:=ht_div (x k) (w k)
 exact ht_room2 (S:=8000) zo zo zo zd
theorem etaJ_zero:z j=etaJ k w z 0 j:=by
 unfold etaJ etaP
 split
 ·rename_i e;subst e;show z j=z j-0;grind
 ·rfl
theorem kG:etaJ k w z h k=etaP k w z h:=if_pos rfl
theorem etaJ_ne(e:j≠k):etaJ k w z h j=z j:=if_neg e
theorem etaP_at(e:h≠k):etaJ k w z h k-w h*etaJ k w z h h=etaJ k w z (h+1) k:=by
 rw[kG,kG,etaJ_ne e]
 show z k-sumQ _ h-w h*z h=z k-(sumQ _ h+offQ k (λl=>w l*z l) h)
 rw[off_ne e];grind
theorem etaJ_skip(e:h=k):etaJ k w z h j=etaJ k w z (h+1) j:=by
 unfold etaJ
 split
 ·unfold etaP
  show z k-sumQ _ h=z k-(sumQ _ h+offQ k (λl=>w l*z l) h)
  rw[show offQ k (λl=>w l*z l) h=0 by rw[e];exact off_self];grind
 ·rfl
theorem etaJ_div:etaJ k w z n k/w k=etaZ n k w z k:=by rw[kG];exact(if_pos rfl).symm
theorem etaJ_all(e:j≠k):etaZ n k w z j=etaJ k w z n j:=by rw[etaJ_ne e];exact if_neg e
theorem etaP_ht(hz:∀j,j<n->htq (z j)<=20000)(hw:∀j,j<n->htq (w j)<=4000)(hk:k<n):∀h,h<=n->htq (etaP k w z h)<=20000+h*24001
 | 0,_=>by
  unfold etaP
  rw[show z k-sumQ (offQ k λl=>w l*z l) 0=z k by show z k-0=_;grind]
  have:=hz k hk;exact Nat.le_trans this (Nat.le_add_right _ _)
 | h+1,hh=>by
  have ih:=etaP_ht hz hw hk h zo
  by_cases e:h=k
  ·have:=etaJ_skip (j:=k) (w:=w) (z:=z) e
   rw[kG,kG] at this
   rw[←this,Nat.succ_mul];exact Nat.le_trans ih zo
  ·have h1:=etaP_at (w:=w) (z:=z) e
   rw[kG,kG,etaJ_ne e] at h1
   rw[←h1]
   have h2:=ht_sub (etaP k w z h) (w h*z h)
   have h3:=ht_mul (w h) (z h)
   have h4:=hz h zo
   have h5:=hw h zo
   rw[Nat.succ_mul]
   generalize h*24001=T at*
   omega
theorem etaP_room(hz:∀j,j<n->htq (z j)<=20000)(hw:∀j,j<n->htq (w j)<=4000)(hk:k<n)(hn:n<=64)(hh:h<n)(e:h≠k):szq (w h)+szq (etaJ k w z h h)<=17179869184/\szq (etaJ k w z h k)+szq (w h*etaJ k w z h h)<=17179869184:=by
 rw[etaJ_ne e,kG]
 have h1:=etaP_ht hz hw hk h zo
 have h2:=hz h hh
 have h3:=hw h hh
 have h4:h*24001<=64*24001:=Nat.mul_le_mul_right _ zo
 exact ht_room2 (S:=2000000) zo zo zo zd
theorem etaP_div(hz:∀j,j<n->htq (z j)<=20000)(hw:∀j,j<n->htq (w j)<=4000)(hk:k<n)(hn:n<=64):szq (etaJ k w z n k)+szq (w k)+1<=17179869184:=by
 rw[kG]
 have h1:=etaP_ht hz hw hk n (Nat.le_refl n)
 have h2:=hw k hk
 have h4:n*24001<=64*24001:=Nat.mul_le_mul_right _ hn
 have:=uC (etaP k w z n)
 have:=uC (w k)
 omega
end
theorem sMatOfM{D C:Nat->Nat->Rat}{e:Etas}{n m:Nat}(hn:n<=64):CallOKm Tryz.prog 58 [.one (bV 1 2 (luS n D n) n),cC C n,.one (eE e n m)] [iN n,.own 1 0] (c2 (.agg (c2 (.sl 1 (mE C n) n) (iN n))) (bX true)) [.one (bV 3 4 (luS n D n) n),.dead,.dead,cC C n,.one (eE e n m)]:=by
 exact zX (ch:=λB=>[.reg 1 [(3,.callS (c2 (.agg (c2 (.own 0 0) (iN n))) (bX true)) [.one (.row 33 1 (λi0=>.own 1 i0) n),.fam n (λ_=>.row 47 3 (λ_=>.rat 0) n)])],.dec 18 false,.loop 5 (Nat) (λg=>g<=n) (λg=>n-g) (λg=>⟨[(0,iN n),(4,.own 3 0),(6,.own 6 0),(20,.own 1 0),(21,iN n),(22,iN g)],[(0,.one (bV 1 2 (luS n D n) n (some (B 0)))),(1,cC C n),(2,.one (eE e n m)),(3,.one (.var 53 (.ex (.agg #[.slice none 0 0,.int .i64 0])))),(4,.one (.row 33 1 (λi0=>.own 5 i0) n)),(5,.fam n (λi0=>.row 47 3 (λi1=>.rat (yG g C i0 i1)) n)),(6,.one (.var 53 (.agg (c2 (.own 4 0) (iN n)))))],7⟩) [(0,.id 0),(1,.id 1),(2,.id 2),(3,.id 3),(4,.id 4),(5,.id 5),(6,.id 6)] (λ_=>[(0,.id 0),(1,.id 1),(2,.id 2),(3,.id 3),(4,.id 4),(5,.id 5),(6,.id 6)]) (λg=>[.reg 6 [(1,.k g)],.dec 30 false,.reg 9 [(3,.k g),(6,.rowF (λi0=>.rat (yG (g+1) C g i0)) (λi0=>.row 47 3 (λi1=>.rat (yG (g+1) C i0 i1)) n))],.reg 10 [(0,.z ((g+1:Nat):Int))],.ret 11 [(0,.id 0),(3,.id 1),(4,.id 2)]])]) hMix Tryz.func58 rfl zk zk zk (λB=>_/\((!true)=false)/\(((λX1 X2 X3 X4 X5 X6 X7 X8 X9 X10 X11 X12 X13 X14 X15 X16 X17 X18 X19 X20 X21 X22 X23:Prop=>∃g0:Nat,X1/\X2/\X3/\X4/\X5/\((0:Int)=(g0:Int))/\X6/\X7/\X8/\X9/\X10/\X11/\X12/\X13/\X14/\X15/\X16/\X17/\X18/\X19/\((.agg #[.slice none 0 0,.int .i64 0]:Value)=.agg #[.slice none 0 0,.int .i64 0])/\X20/\(∀j0,j0<n->((j0:Nat)=j0))/\X21/\(∀j0,j0<n->((n:Nat)=n)/\(∀j1,j1<n->((0:Rat)=(yG g0 C j0 j1))))/\X22/\X23/\(g0<=n)) _ _ _ _ _ _ _ _ _ _ _ _ _ _ _ _ _ _ _ _ _ _ _)/\∀g:Nat,(g<=n)->(((decide ((g:Int)<(n:Int)))=true->_/\(g<n)/\(g<n)/\((!decide ((n:Int)=(n:Int)))=false)/\_/\(g<n)/\(g<n)/\(n<=n)/\(∀j0,j0<n->n<=j0->(.rat (yG (g+1) C g j0):SV)=.rat (yG g C g j0))/\(∀j0,j0<n->((C g j0:Rat)=(yG (g+1) C g j0)))/\(g<n)/\((.row 47 3 (λi0=>.rat (yG (g+1) C g i0)) n:OB)=.row 47 3 (λi0=>.rat (yG (g+1) C g i0)) n)/\(∀t,t<n->t≠g->(.row 47 3 (λi0=>.rat (yG (g+1) C t i0)) n:OB)=.row 47 3 (λi0=>.rat (yG g C t i0)) n)/\_/\((λX1 X2 X3 X4 X5 X6 X7 X8 X9 X10 X11 X12 X13 X14 X15 X16 X17 X18 X19 X20 X21 X22 X23:Prop=>∃g1:Nat,X1/\X2/\X3/\X4/\X5/\(((g+1:Nat):Int)=(g1:Int))/\X6/\X7/\X8/\X9/\X10/\X11/\X12/\X13/\X14/\X15/\X16/\X17/\X18/\X19/\((.agg #[.slice none 0 0,.int .i64 0]:Value)=.agg #[.slice none 0 0,.int .i64 0])/\X20/\(∀j0,j0<n->((j0:Nat)=j0))/\X21/\(∀j0,j0<n->((n:Nat)=n)/\(∀j1,j1<n->((yG (g+1) C j0 j1:Rat)=(yG g1 C j0 j1))))/\X22/\X23/\(g1<=n)/\(n-g1<n-g)) _ _ _ _ _ _ _ _ _ _ _ _ _ _ _ _ _ _ _ _ _ _ _))/\((decide ((g:Int)<(n:Int)))=false->(_/\(∀j0,j0<n->((n:Nat)=n)/\(∀j1,j1<n->((yG g C j0 j1:Rat)=(C j0 j1)))/\(j0<n))/\_/\_/\_/\_/\_/\_/\_/\_/\_/\_/\_/\_/\_/\_/\_/\_))))) (λB=>by kernel_rfl)
  (λB=>⟨sMatNew (m:=n) (n:=n) zo zo,rfl,⟨0,(rf (n:Int)),(rf 0),(rf 0),(rf 0),(rf (n:Int)),zo,(rf (some (B 0))),(rf 0),(rf n),(leS (mE (luS n D n).2.1 n) n),(rf n),(leS (mE ((luS n D n).1) n) n),(rf n),(leS (λi0=>iN ((luS n D n).2.2.1 i0)) n),(rf ((luS n D n).2.2.2.2:Bool)),(rf 0),(rf n),(leS (mE C n) n),(rf m),(leS (λi0=>.agg (c2 (iN ((e i0).1)) (vE (e i0).2 n))) m),rfl,(rf n),(λj0 hj0=>rfl),(rf n),(λj0 hj0=>⟨rfl,(λj1 hj1=>(by rw[uptoR_zero]))⟩),(rf 0),(rf (n:Int)),zo⟩,λg hg=>⟨λhc23=>have hc23:=dT hc23;⟨(rf (g:Int)),zo,zo,zs,(rf (g:Int)),zo,zo,zo,(λj0 hj0 hm=>absurd hj0 (Nat.not_lt.2 hm)),(λj0 hj0=>(by rw[uptoR_at])),zo,rfl,(λt ht hne=>by simp only[uptoR_ne hne]),(wI (g:=g) zo),g+1,(rf (n:Int)),(rf 0),(rf 0),(rf 0),(rf (n:Int)),zo,(rf (some (B 0))),(rf 0),(rf n),(leS (mE (luS n D n).2.1 n) n),(rf n),(leS (mE ((luS n D n).1) n) n),(rf n),(leS (λi0=>iN ((luS n D n).2.2.1 i0)) n),(rf ((luS n D n).2.2.2.2:Bool)),(rf 0),(rf n),(leS (mE C n) n),(rf m),(leS (λi0=>.agg (c2 (iN ((e i0).1)) (vE (e i0).2 n))) m),rfl,(rf n),(λj0 hj0=>rfl),(rf n),(λj0 hj0=>⟨rfl,(λj1 hj1=>rfl)⟩),(rf 0),(rf (n:Int)),zo,zo⟩,λhc23=>have hc23:=dF hc23;have hi2:g=n:=zo;⟨(rf n),(λj0 hj0=>⟨rfl,(λj1 hj1=>(by rw[hi2];exact uptoR_all zo)),zo⟩),(rf (n:Int)),(rf (true:Bool)),(rf (some (B 0))),(rf 0),(rf n),(leS (mE (luS n D n).2.1 n) n),(rf n),(leS (mE ((luS n D n).1) n) n),(rf n),(leS (λi0=>iN ((luS n D n).2.2.1 i0)) n),(rf ((luS n D n).2.2.2.2:Bool)),(rf 0),(rf n),(leS (mE C n) n),(rf m),(leS (λi0=>.agg (c2 (iN ((e i0).1)) (vE (e i0).2 n))) m)⟩⟩⟩)
theorem sBMatrix{D C:Nat->Nat->Rat}{e:Etas}{n m:Nat}(hn:n<=64):CallOKm Tryz.prog 21 [.one (bV 1 2 (luS n D n) n),cC C n,.one (eE e n m)] [.own 0 0] (.agg (c2 (.sl 1 (mE (trM C) n) n) (iN n))) [.one (bV 3 4 (luS n D n) n),.dead,.dead,cC C n,.one (eE e n m)]:=by
 exact zX (ch:=λB=>[.reg 1 [(9,.callM [0,1,2] [.one (bV 1 2 (luS n D n) n (some (B 0))),cC C n,.one (eE e n m)] [iN n,.own 1 0] (c2 (.agg (c2 (.sl 1 (mE C n) n) (iN n))) (bX true)) [.one (bV 3 4 (luS n D n) n (some (B 0))),.dead,.dead,cC C n,.one (eE e n m)])],.reg 2 [(1,.callS (.agg (c2 (.sl 1 (λi0=>.sl 3 (λi1=>.rat (C i1 i0)) n) n) (iN n))) [])],.ret 2 [(0,.id 0),(3,.id 4),(4,.id 5)]]) hMix Tryz.func21 rfl zk zk zk (λB=>(CallOKm Tryz.prog 58 [.one (bV 1 2 (luS n D n) n (some (B 0))),cC C n,.one (eE e n m)] [iN n,.own 1 0] (c2 (.agg (c2 (.sl 1 (mE C n) n) (iN n))) (bX true)) [.one (bV 3 4 (luS n D n) n (some (B 0))),.dead,.dead,cC C n,.one (eE e n m)])/\_/\_/\_/\_/\_/\_/\_/\(_/\(∀j0,j0<n->((n:Nat)=n)/\(∀j1,j1<n->((C j1 j0:Rat)=((trM C) j0 j1))))/\_/\_/\_/\_/\_/\_/\_/\_/\_/\_/\_/\_/\_/\_/\_)) (λB=>by kernel_rfl)
  (λB=>⟨((sMatOfM (D:=D) (C:=C) (e:=e) (m:=m) (n:=n) zo)).tag0 (b:=B 0),(rf (.one (bV 1 2 (luS n D n) n (some (B 0))):Hl)),(rf (cC C n:Hl)),(rf (.one (eE e n m):Hl)),(rf (n:Int)),(rf 1),(rf 0),sMatTurned (m:=n) (n:=n) (q:=C) zo zo,(rf n),(λj0 hj0=>⟨rfl,(λj1 hj1=>rfl)⟩),(rf (n:Int)),(rf (some (B 0))),(rf 0),(rf n),(leS (mE (luS n D n).2.1 n) n),(rf n),(leS (mE ((luS n D n).1) n) n),(rf n),(leS (λi0=>iN ((luS n D n).2.2.1 i0)) n),(rf ((luS n D n).2.2.2.2:Bool)),(rf 0),(rf n),(leS (mE C n) n),(rf m),(leS (λi0=>.agg (c2 (iN ((e i0).1)) (vE (e i0).2 n))) m)⟩)
theorem sBSize{D C:Nat->Nat->Rat}{e:Etas}{n m:Nat}:CallOKm Tryz.prog 11 [.one (bV 1 2 (luS n D n) n),cC C n,.one (eE e n m)] [.own 0 0] (iN n) [.one (bV 3 4 (luS n D n) n),.dead,.dead,cC C n,.one (eE e n m)]:=by
 exact zX (ch:=λB=>[.ret 1 [(0,.id 0),(3,.id 1),(4,.id 2)]]) hMix Tryz.func11 rfl zk zk zk (λB=>(_/\_/\_/\_/\_/\_/\_/\_/\_/\_/\_/\_/\_/\_/\_)) (λB=>by kernel_rfl)
  (λB=>⟨(rf (n:Int)),(rf (some (B 0))),(rf 0),(rf n),(leS (mE (luS n D n).2.1 n) n),(rf n),(leS (mE ((luS n D n).1) n) n),(rf n),(leS (λi0=>iN ((luS n D n).2.2.1 i0)) n),(rf ((luS n D n).2.2.2.2:Bool)),(rf 0),(rf n),(leS (mE C n) n),(rf m),(leS (λi0=>.agg (c2 (iN ((e i0).1)) (vE (e i0).2 n))) m)⟩)
theorem sBEtas{D C:Nat->Nat->Rat}{e:Etas}{n m:Nat}:CallOKm Tryz.prog 14 [.one (bV 1 2 (luS n D n) n),cC C n,.one (eE e n m)] [.own 0 0] (iN m) [.one (bV 3 4 (luS n D n) n),.dead,.dead,cC C n,.one (eE e n m)]:=by
 exact zX (ch:=λB=>[.ret 1 [(0,.id 0),(3,.id 1),(4,.id 2)]]) hMix Tryz.func14 rfl zk zk zk (λB=>(_/\_/\_/\_/\_/\_/\_/\_/\_/\_/\_/\_/\_/\_/\_)) (λB=>by kernel_rfl)
  (λB=>⟨(rf (m:Int)),(rf (some (B 0))),(rf 0),(rf n),(leS (mE (luS n D n).2.1 n) n),(rf n),(leS (mE ((luS n D n).1) n) n),(rf n),(leS (λi0=>iN ((luS n D n).2.2.1 i0)) n),(rf ((luS n D n).2.2.2.2:Bool)),(rf 0),(rf n),(leS (mE C n) n),(rf m),(leS (λi0=>.agg (c2 (iN ((e i0).1)) (vE (e i0).2 n))) m)⟩)
open Go.RowKit
theorem sMatOfF{C:Nat->Nat->Rat}{n:Nat}(hn:n<=64):CallOKm Tryz.prog 58 [.one (.var 100 (.agg (c3 (.own 1 0) (.ex (.pointer none)) (.ex sN)))),cC C n] [iN n,.own 1 0] (c2 (.agg (c2 (.sl 1 (mE C n) n) (iN n))) (bX true)) [.one (.var 100 (.agg (c3 (.own 2 0) (.ex (.pointer none)) (.ex sN)))),.dead,cC C n]:=by
 exact zX (ch:=λB=>[.reg 1 [(3,.callS (c2 (.agg (c2 (.own 0 0) (iN n))) (bX true)) [.one (.row 33 1 (λi0=>.own 1 i0) n),.fam n (λ_=>.row 47 3 (λ_=>.rat 0) n)])],.dec 18 false,.loop 5 (Nat) (λg=>g<=n) (λg=>n-g) (λg=>⟨[(0,iN n),(4,.own 2 0),(6,.own 5 0),(20,.own 1 0),(21,iN n),(22,iN g)],[(0,.one (.var 100 (.agg (c3 (.own 1 0) (.ex (.pointer none)) (.ex sN))) (some (B 0)))),(1,cC C n),(2,.one (.var 53 (.ex (.agg #[.slice none 0 0,.int .i64 0])))),(3,.one (.row 33 1 (λi0=>.own 4 i0) n)),(4,.fam n (λi0=>.row 47 3 (λi1=>.rat (yG g C i0 i1)) n)),(5,.one (.var 53 (.agg (c2 (.own 3 0) (iN n)))))],6⟩) [(0,.id 0),(1,.id 1),(2,.id 2),(3,.id 3),(4,.id 4),(5,.id 5)] (λ_=>[(0,.id 0),(1,.id 1),(2,.id 2),(3,.id 3),(4,.id 4),(5,.id 5)]) (λg=>[.reg 6 [(1,.k g)],.dec 30 false,.reg 9 [(3,.k g),(6,.rowF (λi0=>.rat (yG (g+1) C g i0)) (λi0=>.row 47 3 (λi1=>.rat (yG (g+1) C i0 i1)) n))],.reg 10 [(0,.z ((g+1:Nat):Int))],.ret 11 [(0,.id 0),(2,.id 1)]])]) hMix Tryz.func58 rfl zk zk zk (λB=>_/\((!true)=false)/\(((λX1 X2 X3 X4 X5 X6 X7 X8 X9 X10 X11 X12 X13:Prop=>∃g0:Nat,X1/\X2/\X3/\X4/\X5/\((0:Int)=(g0:Int))/\X6/\X7/\((.pointer none:Value)=.pointer none)/\X8/\X9/\((.agg #[.slice none 0 0,.int .i64 0]:Value)=.agg #[.slice none 0 0,.int .i64 0])/\X10/\(∀j0,j0<n->((j0:Nat)=j0))/\X11/\(∀j0,j0<n->((n:Nat)=n)/\(∀j1,j1<n->((0:Rat)=(yG g0 C j0 j1))))/\X12/\X13/\(g0<=n)) _ _ _ _ _ _ _ _ _ _ _ _ _)/\∀g:Nat,(g<=n)->(((decide ((g:Int)<(n:Int)))=true->_/\(g<n)/\(g<n)/\((!decide ((n:Int)=(n:Int)))=false)/\_/\(g<n)/\(g<n)/\(n<=n)/\(∀j0,j0<n->n<=j0->(.rat (yG (g+1) C g j0):SV)=.rat (yG g C g j0))/\(∀j0,j0<n->((C g j0:Rat)=(yG (g+1) C g j0)))/\(g<n)/\((.row 47 3 (λi0=>.rat (yG (g+1) C g i0)) n:OB)=.row 47 3 (λi0=>.rat (yG (g+1) C g i0)) n)/\(∀t,t<n->t≠g->(.row 47 3 (λi0=>.rat (yG (g+1) C t i0)) n:OB)=.row 47 3 (λi0=>.rat (yG g C t i0)) n)/\_/\((λX1 X2 X3 X4 X5 X6 X7 X8 X9 X10 X11 X12 X13:Prop=>∃g1:Nat,X1/\X2/\X3/\X4/\X5/\(((g+1:Nat):Int)=(g1:Int))/\X6/\X7/\((.pointer none:Value)=.pointer none)/\X8/\X9/\((.agg #[.slice none 0 0,.int .i64 0]:Value)=.agg #[.slice none 0 0,.int .i64 0])/\X10/\(∀j0,j0<n->((j0:Nat)=j0))/\X11/\(∀j0,j0<n->((n:Nat)=n)/\(∀j1,j1<n->((yG (g+1) C j0 j1:Rat)=(yG g1 C j0 j1))))/\X12/\X13/\(g1<=n)/\(n-g1<n-g)) _ _ _ _ _ _ _ _ _ _ _ _ _))/\((decide ((g:Int)<(n:Int)))=false->(_/\(∀j0,j0<n->((n:Nat)=n)/\(∀j1,j1<n->((yG g C j0 j1:Rat)=(C j0 j1)))/\(j0<n))/\_/\_/\_/\_/\((.pointer none:Value)=.pointer none)/\_/\_))))) (λB=>by kernel_rfl)
  (λB=>⟨sMatNew (m:=n) (n:=n) zo zo,rfl,⟨0,(rf (n:Int)),(rf 0),(rf 0),(rf 0),(rf (n:Int)),zo,(rf (some (B 0))),(rf 0),rfl,(rf n),(leS (mE C n) n),rfl,(rf n),(λj0 hj0=>rfl),(rf n),(λj0 hj0=>⟨rfl,(λj1 hj1=>(by rw[uptoR_zero]))⟩),(rf 0),(rf (n:Int)),zo⟩,λg hg=>⟨λhc23=>have hc23:=dT hc23;⟨(rf (g:Int)),zo,zo,zs,(rf (g:Int)),zo,zo,zo,(λj0 hj0 hm=>absurd hj0 (Nat.not_lt.2 hm)),(λj0 hj0=>(by rw[uptoR_at])),zo,rfl,(λt ht hne=>by simp only[uptoR_ne hne]),(wI (g:=g) zo),g+1,(rf (n:Int)),(rf 0),(rf 0),(rf 0),(rf (n:Int)),zo,(rf (some (B 0))),(rf 0),rfl,(rf n),(leS (mE C n) n),rfl,(rf n),(λj0 hj0=>rfl),(rf n),(λj0 hj0=>⟨rfl,(λj1 hj1=>rfl)⟩),(rf 0),(rf (n:Int)),zo,zo⟩,λhc23=>have hc23:=dF hc23;have hi2:g=n:=zo;⟨(rf n),(λj0 hj0=>⟨rfl,(λj1 hj1=>(by rw[hi2];exact uptoR_all zo)),zo⟩),(rf (n:Int)),(rf (true:Bool)),(rf (some (B 0))),(rf 0),rfl,(rf n),(leS (mE C n) n)⟩⟩⟩)
theorem sBMatrixF{C:Nat->Nat->Rat}{n:Nat}(hn:n<=64):CallOKm Tryz.prog 21 [.one (.var 100 (.agg (c3 (.own 1 0) (.ex (.pointer none)) (.ex sN)))),cC C n] [.own 0 0] (.agg (c2 (.sl 1 (mE (trM C) n) n) (iN n))) [.one (.var 100 (.agg (c3 (.own 2 0) (.ex (.pointer none)) (.ex sN)))),.dead,cC C n]:=by
 exact zX (ch:=λB=>[.reg 1 [(9,.callM [0,1] [.one (.var 100 (.agg (c3 (.own 1 0) (.ex (.pointer none)) (.ex sN))) (some (B 0))),cC C n] [iN n,.own 1 0] (c2 (.agg (c2 (.sl 1 (mE C n) n) (iN n))) (bX true)) [.one (.var 100 (.agg (c3 (.own 2 0) (.ex (.pointer none)) (.ex sN))) (some (B 0))),.dead,cC C n])],.reg 2 [(1,.callS (.agg (c2 (.sl 1 (λi0=>.sl 3 (λi1=>.rat (C i1 i0)) n) n) (iN n))) [])],.ret 2 [(0,.id 0),(2,.id 3)]]) hMix Tryz.func21 rfl zk zk zk (λB=>(CallOKm Tryz.prog 58 [.one (.var 100 (.agg (c3 (.own 1 0) (.ex (.pointer none)) (.ex sN))) (some (B 0))),cC C n] [iN n,.own 1 0] (c2 (.agg (c2 (.sl 1 (mE C n) n) (iN n))) (bX true)) [.one (.var 100 (.agg (c3 (.own 2 0) (.ex (.pointer none)) (.ex sN))) (some (B 0))),.dead,cC C n])/\_/\_/\_/\_/\_/\_/\(_/\(∀j0,j0<n->((n:Nat)=n)/\(∀j1,j1<n->((C j1 j0:Rat)=((trM C) j0 j1))))/\_/\_/\_/\((.pointer none:Value)=.pointer none)/\_/\_)) (λB=>by kernel_rfl)
  (λB=>⟨((sMatOfF (C:=C) zo)).tag0 (b:=B 0),(rf (.one (.var 100 (.agg (c3 (.own 1 0) (.ex (.pointer none)) (.ex sN))) (some (B 0))):Hl)),(rf (cC C n:Hl)),(rf (n:Int)),(rf 1),(rf 0),sMatTurned (m:=n) (n:=n) (q:=C) zo zo,(rf n),(λj0 hj0=>⟨rfl,(λj1 hj1=>rfl)⟩),(rf (n:Int)),(rf (some (B 0))),(rf 0),rfl,(rf n),(leS (mE C n) n)⟩)
theorem sBFactorF{C:Nat->Nat->Rat}{n:Nat}(hn:n<=6)(hD:HtB n n 3 (trM C))(hok:luOK n (trM C) n):CallOKm Tryz.prog 49 [.one (.var 100 (.agg (c3 (.own 1 0) (.ex (.pointer none)) (.ex sN)))),cC C n] [.own 0 0] (bX true) [.one (.var 100 (.agg (c3 (.own 2 0) (.ep (lvE (luS n (trM C) n) n)) (.ex sN)))),.dead,cC C n]:=by
 exact zX (ch:=λB=>[.reg 1 [(1,.callM [0,1] [.one (.var 100 (.agg (c3 (.own 1 0) (.ex (.pointer none)) (.ex sN))) (some (B 0))),cC C n] [.own 0 0] (.agg (c2 (.sl 1 (mE (trM C) n) n) (iN n))) [.one (.var 100 (.agg (c3 (.own 2 0) (.ex (.pointer none)) (.ex sN))) (some (B 0))),.dead,cC C n]),(2,.callS (c2 (.ep (lvE (luS n (trM C) n) n)) (bX true)) [])],.dec 11 true,.ret 4 [(0,.id 0),(2,.id 2)]]) hMix Tryz.func49 rfl zk zk zk (λB=>(CallOKm Tryz.prog 21 [.one (.var 100 (.agg (c3 (.own 1 0) (.ex (.pointer none)) (.ex sN))) (some (B 0))),cC C n] [.own 0 0] (.agg (c2 (.sl 1 (mE (trM C) n) n) (iN n))) [.one (.var 100 (.agg (c3 (.own 2 0) (.ex (.pointer none)) (.ex sN))) (some (B 0))),.dead,cC C n])/\_/\_/\_/\_/\_/\(true=true)/\(_/\_/\_/\_/\_/\_/\_/\_/\_/\_/\_/\_)) (λB=>by kernel_rfl)
  (λB=>⟨((sBMatrixF (C:=C) zo)).tag0 (b:=B 0),(rf (.one (.var 100 (.agg (c3 (.own 1 0) (.ex (.pointer none)) (.ex sN))) (some (B 0))):Hl)),(rf (cC C n:Hl)),(rf 0),(rf 0),(sLuFactor (n:=n) (q:=(trM C)) zo (lu_hH hD hn) hok),rfl,(rf (true:Bool)),(rf (some (B 0))),(rf 0),(rf n),(leS (mE (luS n (trM C) n).2.1 n) n),(rf n),(leS (mE ((luS n (trM C) n).1) n) n),(rf n),(leS (λi0=>iN ((luS n (trM C) n).2.2.1 i0)) n),(rf ((luS n (trM C) n).2.2.2.2:Bool)),(rf n),(leS (mE C n) n)⟩)
theorem sBFactorX{C:Nat->Nat->Rat}{n:Nat}(hn:n<=6)(hD:HtB n n 3 (trM C))(hok:¬luOK n (trM C) n):CallOKm Tryz.prog 49 [.one (.var 100 (.agg (c3 (.own 1 0) (.ex (.pointer none)) (.ex sN)))),cC C n] [.own 0 0] (bX false) [.one (.var 100 (.agg (c3 (.own 2 0) (.ex (.pointer none)) (.ex sN)))),.dead,cC C n]:=by
 exact zX (ch:=λB=>[.reg 1 [(1,.callM [0,1] [.one (.var 100 (.agg (c3 (.own 1 0) (.ex (.pointer none)) (.ex sN))) (some (B 0))),cC C n] [.own 0 0] (.agg (c2 (.sl 1 (mE (trM C) n) n) (iN n))) [.one (.var 100 (.agg (c3 (.own 2 0) (.ex (.pointer none)) (.ex sN))) (some (B 0))),.dead,cC C n]),(2,.callS (c2 (.ex (.pointer none)) (bX false)) [])],.dec 11 false,.ret 4 [(0,.id 0),(2,.id 2)]]) hMix Tryz.func49 rfl zk zk zk (λB=>(CallOKm Tryz.prog 21 [.one (.var 100 (.agg (c3 (.own 1 0) (.ex (.pointer none)) (.ex sN))) (some (B 0))),cC C n] [.own 0 0] (.agg (c2 (.sl 1 (mE (trM C) n) n) (iN n))) [.one (.var 100 (.agg (c3 (.own 2 0) (.ex (.pointer none)) (.ex sN))) (some (B 0))),.dead,cC C n])/\_/\_/\_/\_/\_/\(false=false)/\(_/\_/\_/\((.pointer none:Value)=.pointer none)/\_/\_)) (λB=>by kernel_rfl)
  (λB=>⟨((sBMatrixF (C:=C) zo)).tag0 (b:=B 0),(rf (.one (.var 100 (.agg (c3 (.own 1 0) (.ex (.pointer none)) (.ex sN))) (some (B 0))):Hl)),(rf (cC C n:Hl)),(rf 0),(rf 0),(sLuFactorSing (n:=n) (q:=(trM C)) zo (lu_hH hD hn) hok),rfl,(rf (false:Bool)),(rf (some (B 0))),(rf 0),rfl,(rf n),(leS (mE C n) n)⟩)
theorem sBFactor{D C:Nat->Nat->Rat}{e:Etas}{n m:Nat}(hn:n<=6)(hD:HtB n n 3 (trM C))(hok:luOK n (trM C) n):CallOKm Tryz.prog 49 [.one (bV 1 2 (luS n D n) n),cC C n,.one (eE e n m)] [.own 0 0] (bX true) [.one (.var 100 (.agg (c3 (.own 3 0) (.ep (lvE (luS n (trM C) n) n)) (.ex sN)))),.dead,.dead,cC C n]:=by
 exact zX (ch:=λB=>[.reg 1 [(1,.callM [0,1,2] [.one (bV 1 2 (luS n D n) n (some (B 0))),cC C n,.one (eE e n m)] [.own 0 0] (.agg (c2 (.sl 1 (λi0=>.sl 3 (λi1=>.rat (trM C i0 i1)) n) n) (iN n))) [.one (bV 3 4 (luS n D n) n (some (B 0))),.dead,.dead,cC C n,.one (eE e n m)]),(2,.callS (c2 (.ep (lvE (luS n (trM C) n) n)) (bX true)) [])],.dec 11 true,.ret 4 [(0,.id 0),(3,.id 3)]]) hMix Tryz.func49 rfl zk zk zk (λB=>_/\_/\_/\_/\_/\_/\_/\(true=true)/\(_/\_/\_/\_/\_/\_/\_/\_/\_/\_/\_/\_)) (λB=>by kernel_rfl)
  (λB=>⟨((sBMatrix (D:=D) (C:=C) (e:=e) (m:=m) (n:=n) zo)).tag0 (b:=B 0),(rf (.one (bV 1 2 (luS n D n) n (some (B 0))):Hl)),(rf (cC C n:Hl)),(rf (.one (eE e n m):Hl)),(rf 0),(rf 0),(sLuFactor (n:=n) (q:=(trM C)) zo (lu_hH hD hn) hok),rfl,(rf (true:Bool)),(rf (some (B 0))),(rf 0),(rf n),(leS (mE (luS n (trM C) n).2.1 n) n),(rf n),(leS (mE ((luS n (trM C) n).1) n) n),(rf n),(leS (λi0=>iN ((luS n (trM C) n).2.2.1 i0)) n),(rf ((luS n (trM C) n).2.2.2.2:Bool)),(rf n),(leS (mE C n) n)⟩)
open Go.RowKit
@[simp] theorem sCol_sCol:(sCol.toList==sCol.toList)=true:=beq_self_eq_true _
@[simp] theorem sNo_sNo:(sNo.toList==sNo.toList)=true:=beq_self_eq_true _
@[simp] theorem sCol_sNo:(sCol.toList==sNo.toList)=false:=by
 have h1:sNo.toList=[]:=by simp[ByteArray.toList,ByteArray.toList.loop,ByteArray.size]
 have h2:sCol.toList.length≠0:=by simp[ByteArray.toList,ByteArray.toList.loop,ByteArray.size]
 rw[h1]
 cases h:sCol.toList with
 | nil=>rw[h] at h2;exact absurd rfl h2
 | cons a l=>rfl
theorem sWrap{s:ByteArray}{k n:Int}:CallOK Tryz.prog 48 [.ex (.iface 63 (.int .i64 n)),.ex (.string s),.ex (.int .i64 k)] (.ifc 113 (.ep (.agg (c3 (.ex (.string s)) (.ex (.int .i64 k)) (.ex (.iface 63 (.int .i64 n))))))) []:=by
 exact kP (ch:=[.dec 8 false]) Tryz.func48 ((false=false)/\(((.string s:Value)=.string s)/\_/\((.iface 63 (.int .i64 n):Value)=.iface 63 (.int .i64 n))))
  ⟨rfl,rfl,(rf (k:Int)),rfl⟩
theorem sToldE{n k:Int}:CallOK Tryz.prog 27 [.ex (.iface 63 (.int .i64 n)),.ex (.int .i64 n),.ex (.string sNo),.ex (.int .i64 k)] (bX true) []:=by
 exact kP (ch:=[.reg 1 [(1,.callS (c3 (.ex (.string sNo)) (.ex (.int .i64 0)) (bX false)) [])],.reg 2 [(1,.callS (.ex (.int .i64 n)) []),(9,.skip)],.dec 27 false]) Tryz.func27 ((CallOK Tryz.prog 23 [.ex (.iface 63 (.int .i64 n))] (c3 (.ex (.string sNo)) (.ex (.int .i64 0)) (bX false)) [])/\(CallOK Tryz.prog 63 [.ex (.iface 63 (.int .i64 n))] (.ex (.int .i64 n)) [])/\_/\_/\_/\((!decide ((n:Int)=n))=false)/\(((!decide ((n:Int)=n))==false)=true)/\((!(false==(!((sNo).toList==(sNo).toList))))=false)/\_/\_/\_/\_/\_/\_/\(((!false)==false)=true->((sNo).toList==(sNo).toList)=true->((((!false)==false)&&true)&&(((sNo).toList==(sNo).toList)==true))=true)/\((!(!false))=true->((!false)==false)=true)/\(((bif (!false) then true else(bif ((sNo).toList==(sNo).toList) then(decide ((0:Int)=k)) else false):Bool)=true)))
  ⟨sPlaceE,sNumberE,(idB ((!decide ((n:Int)=n))==false)),(idB ((!decide ((n:Int)=n))==false)),(idB ((!decide ((n:Int)=n))==false)),(by first | (simp;done) | (simp at hg)),(by first | (simp;done) | (simp at hg)),(by first | (simp;done) | (simp at hg)),(idB ((!false)==false)),(idB ((!false)==false)),(idB ((!false)==false)),(idB ((((!false)==false)&&true)&&(((sNo).toList==(sNo).toList)==true))),(idB ((((!false)==false)&&true)&&(((sNo).toList==(sNo).toList)==true))),(idB ((!false)==false)),(λhg=>(by first | (simp;done) | (simp at hg))),(by first | (simp;done) | (simp at hg)),(by first | (simp;done) | (simp at hg))⟩
theorem sToldF{n k:Int}:CallOK Tryz.prog 27 [.ifc 113 (.ep (.agg (c3 (.ex (.string sCol)) (.ex (.int .i64 k)) (.ex (.iface 63 (.int .i64 n)))))),.ex (.int .i64 n),.ex (.string sCol),.ex (.int .i64 k)] (bX true) []:=by
 exact kP (ch:=[.reg 1 [(1,.callS (c3 (.ex (.string sCol)) (.ex (.int .i64 k)) (bX true)) [])],.reg 2 [(1,.callS (.ex (.int .i64 n)) []),(9,.skip)],.dec 27 false,.reg 4 [(10,.sure .no),(11,.skip)]]) Tryz.func27 ((CallOK Tryz.prog 23 [.ifc 113 (.ep (.agg (c3 (.ex (.string sCol)) (.ex (.int .i64 k)) (.ex (.iface 63 (.int .i64 n))))))] (c3 (.ex (.string sCol)) (.ex (.int .i64 k)) (bX true)) [])/\(CallOK Tryz.prog 63 [.ifc 113 (.ep (.agg (c3 (.ex (.string sCol)) (.ex (.int .i64 k)) (.ex (.iface 63 (.int .i64 n))))))] (.ex (.int .i64 n)) [])/\_/\_/\_/\((!decide ((n:Int)=n))=false)/\(((!decide ((n:Int)=n))==false)=true)/\((!(true==(!((sCol).toList==(sNo).toList))))=false)/\_/\_/\_/\_/\_/\_/\(((!true)==false)=true->((sCol).toList==(sCol).toList)=true)/\(((!true)==false)=true->((((!true)==false)&&true)&&(((sCol).toList==(sCol).toList)==true))=true)/\((!true)=false)/\(((!true)==false)=true)/\(((decide ((k:Int)=k):Bool)=true)))
  ⟨sPlaceF,sNumberF,(idB ((!decide ((n:Int)=n))==false)),(idB ((!decide ((n:Int)=n))==false)),(idB ((!decide ((n:Int)=n))==false)),(by first | (simp;done) | (simp at hg)),(by first | (simp;done) | (simp at hg)),(by first | (simp;done) | (simp at hg)),(idB ((!true)==false)),(idB ((!true)==false)),(idB ((!true)==false)),(idB ((((!true)==false)&&true)&&(((sCol).toList==(sCol).toList)==true))),(idB ((((!true)==false)&&true)&&(((sCol).toList==(sCol).toList)==true))),(idB ((!true)==false)),(λhg=>(by first | (simp;done) | (simp at hg))),(λhg=>(by first | (simp;done) | (simp at hg))),(by first | (simp;done) | (simp at hg)),(by first | (simp;done) | (simp at hg)),(by first | (simp;done) | (simp at hg))⟩
open Go.RowKit
theorem sBNew{C:Nat->Nat->Rat}{e:Etas}{n:Nat}(hn:n<=6)(hD:HtB n n 3 (trM C))(hok:luOK n (trM C) n):CallOK Tryz.prog 13 [.sl 1 (mE C n) n] (c2 (.own 0 0) (.ex (.nilIface))) [.one (bV 1 2 (luS n (trM C) n) n),cC C n,.one (eE e n 0)]:=by
 exact kP (ch:=[.loop 3 (Nat) (λg=>g<=n) (λg=>n-g) (λg=>⟨[(0,.sl 1 (mE C n) n),(4,.own 0 0),(9,.sl 1 (mE C n) n),(10,iN n),(11,iN g)],[(0,.one (.var 100 (.agg (c3 (.own 1 0) (.ex (.pointer none)) (.ex sN))))),(1,.one (.row 33 1 (mE C n) g))],2⟩) [(0,.id 0),(1,.nil)] (λ_=>[(0,.id 0),(1,.id 2)]) (λg=>[.reg 4 [(1,.k g)],.dec 25 false,.reg 7 [(6,.callS (.sl 3 (λi0=>.rat (C g i0)) n) []),(8,.row 0 (mE C n))],.reg 8 [(0,.z ((g+1:Nat):Int))],.conv 9 [(0,.id 0),(1,.id 1)] ⟨[(4,.own 0 0)],[(0,.one (.var 100 (.agg (c3 (.own 1 0) (.ex (.pointer none)) (.ex sN))))),(1,cC C n)],2⟩,.reg 9 [(1,.callM [0,1] [.one (.var 100 (.agg (c3 (.own 1 0) (.ex (.pointer none)) (.ex sN)))),cC C n] [.own 0 0] (bX true) [.one (.var 100 (.agg (c3 (.own 2 0) (.ep (lvE (luS n (trM C) n) n)) (.ex sN)))),.dead,cC C n])],.dec 43 false,.ret 11 [(0,.id 0),(1,.id 2),(2,.nil)]])]) Tryz.func13 ((∀j0,j0<n->(∀j1,j1<n->True))/\(((λX1 X2 X3 X4 X5 X6 X7:Prop=>∃g0:Nat,X1/\X2/\X3/\X4/\X5/\X6/\((0:Int)=(g0:Int))/\X7/\((.pointer none:Value)=.pointer none)/\((g0:Nat)=0)/\(g0<=n)) _ _ _ _ _ _ _)/\∀g:Nat,(g<=n)->(((decide ((g:Int)<(n:Int)))=true->_/\(g<n)/\_/\_/\((!(!decide ((n:Int)=(n:Int))))=true->((!decide ((n:Int)=(n:Int)))==false)=true)/\((bif (!decide ((n:Int)=(n:Int))) then true else(decide ((64:Int)<(n:Int))))=false)/\_/\(g+1<=68719476736)/\_/\_/\_/\((λX1 X2 X3 X4 X5 X6 X7 X8:Prop=>∃g1:Nat,X1/\X2/\X3/\X4/\X5/\X6/\(((g+1:Nat):Int)=(g1:Int))/\X7/\((.pointer none:Value)=.pointer none)/\((g+1:Nat)=g1)/\X8/\(g1<=n)/\(n-g1<n-g)) _ _ _ _ _ _ _ _))/\((decide ((g:Int)<(n:Int)))=false->_/\_/\((.pointer none:Value)=.pointer none)/\((g:Nat)=n)/\_/\(CallOKm Tryz.prog 49 [.one (.var 100 (.agg (c3 (.own 1 0) (.ex (.pointer none)) (.ex sN)))),cC C n] [.own 0 0] (bX true) [.one (.var 100 (.agg (c3 (.own 2 0) (.ep (lvE (luS n (trM C) n) n)) (.ex sN)))),.dead,cC C n])/\_/\_/\_/\_/\((!true)=false)/\(_/\((.nilIface:Value)=.nilIface)/\_/\_/\_/\_/\_/\_/\_/\_/\_/\_/\_/\_)))))
  ⟨(λ_ _=>(λ_ _=>trivial)),⟨0,(rf n),(leS (mE C n) n),(rf 0),(rf n),(leS (mE C n) n),(rf (n:Int)),zo,(rf 0),rfl,zo,zo⟩,λg hg=>⟨λhc12=>have hc12:=dT hc12;⟨(rf (g:Int)),zo,(idB ((!decide ((n:Int)=(n:Int)))==false)),(idB ((!decide ((n:Int)=(n:Int)))==false)),zs,(by simp;omega),(yY (n:=n) (q:=(λi=>C g i)) zo).frzV,zo,(oldS (mE C n) g),(newS (mE C n) g),(wI (g:=g) zo),g+1,(rf n),(leS (mE C n) n),(rf 0),(rf n),(leS (mE C n) n),(rf (n:Int)),zo,(rf 0),rfl,zo,(leS (mE C n) (g+1)),zo,zo⟩,λhc12=>have hc12:=dF hc12;have hi2:g=n:=zo;⟨(rf 0),(rf 0),rfl,hi2,(leS (mE C n) g),(sBFactorF hn hD hok),(rf (.one (.var 100 (.agg (c3 (.own 1 0) (.ex (.pointer none)) (.ex sN)))):Hl)),(rf (cC C n:Hl)),(rf 0),(rf 0),rfl,(rf 0),rfl,(rf 0),(rf n),(leS (mE (luS n (trM C) n).2.1 n) n),(rf n),(leS (mE ((luS n (trM C) n).1) n) n),(rf n),(leS (λi0=>iN ((luS n (trM C) n).2.2.1 i0)) n),(rf ((luS n (trM C) n).2.2.2.2:Bool)),(rf 0),(rf n),(leS (mE C n) n),(rf 0)⟩⟩⟩
theorem sBNew_sing{C:Nat->Nat->Rat}{n:Nat}(hn:n<=6)(hD:HtB n n 3 (trM C))(hok:¬luOK n (trM C) n):CallOK Tryz.prog 13 [.sl 1 (mE C n) n] (c2 (.ex (.pointer none)) (.ex (.iface 63 (.int .i64 140)))) []:=by
 exact kP (ch:=[.loop 3 (Nat) (λg=>g<=n) (λg=>n-g) (λg=>⟨[(0,.sl 1 (mE C n) n),(4,.own 0 0),(9,.sl 1 (mE C n) n),(10,iN n),(11,iN g)],[(0,.one (.var 100 (.agg (c3 (.own 1 0) (.ex (.pointer none)) (.ex sN))))),(1,.one (.row 33 1 (mE C n) g))],2⟩) [(0,.id 0),(1,.nil)] (λ_=>[(0,.id 0),(1,.id 2)]) (λg=>[.reg 4 [(1,.k g)],.dec 25 false,.reg 7 [(6,.callS (.sl 3 (λi0=>.rat (C g i0)) n) []),(8,.row 0 (mE C n))],.reg 8 [(0,.z ((g+1:Nat):Int))],.conv 9 [(0,.id 0),(1,.id 1)] ⟨[(4,.own 0 0)],[(0,.one (.var 100 (.agg (c3 (.own 1 0) (.ex (.pointer none)) (.ex sN))))),(1,cC C n)],2⟩,.reg 9 [(1,.callM [0,1] [.one (.var 100 (.agg (c3 (.own 1 0) (.ex (.pointer none)) (.ex sN)))),cC C n] [.own 0 0] (bX false) [.one (.var 100 (.agg (c3 (.own 2 0) (.ex (.pointer none)) (.ex sN)))),.dead,cC C n])],.dec 43 true])]) Tryz.func13 ((∀j0,j0<n->(∀j1,j1<n->True))/\(((λX1 X2 X3 X4 X5 X6 X7:Prop=>∃g0:Nat,X1/\X2/\X3/\X4/\X5/\X6/\((0:Int)=(g0:Int))/\X7/\((.pointer none:Value)=.pointer none)/\((g0:Nat)=0)/\(g0<=n)) _ _ _ _ _ _ _)/\∀g:Nat,(g<=n)->(((decide ((g:Int)<(n:Int)))=true->_/\(g<n)/\_/\_/\((!(!decide ((n:Int)=(n:Int))))=true->((!decide ((n:Int)=(n:Int)))==false)=true)/\((bif (!decide ((n:Int)=(n:Int))) then true else(decide ((64:Int)<(n:Int))))=false)/\_/\(g+1<=68719476736)/\_/\_/\_/\((λX1 X2 X3 X4 X5 X6 X7 X8:Prop=>∃g1:Nat,X1/\X2/\X3/\X4/\X5/\X6/\(((g+1:Nat):Int)=(g1:Int))/\X7/\((.pointer none:Value)=.pointer none)/\((g+1:Nat)=g1)/\X8/\(g1<=n)/\(n-g1<n-g)) _ _ _ _ _ _ _ _))/\((decide ((g:Int)<(n:Int)))=false->_/\_/\((.pointer none:Value)=.pointer none)/\((g:Nat)=n)/\_/\(CallOKm Tryz.prog 49 [.one (.var 100 (.agg (c3 (.own 1 0) (.ex (.pointer none)) (.ex sN)))),cC C n] [.own 0 0] (bX false) [.one (.var 100 (.agg (c3 (.own 2 0) (.ex (.pointer none)) (.ex sN)))),.dead,cC C n])/\_/\_/\_/\_/\((!false)=true)/\(((.pointer none:Value)=.pointer none)/\((.iface 63 (.int .i64 140):Value)=.iface 63 (.int .i64 140)))))))
  ⟨(λ_ _=>(λ_ _=>trivial)),⟨0,(rf n),(leS (mE C n) n),(rf 0),(rf n),(leS (mE C n) n),(rf (n:Int)),zo,(rf 0),rfl,zo,zo⟩,λg hg=>⟨λhc12=>have hc12:=dT hc12;⟨(rf (g:Int)),zo,(idB ((!decide ((n:Int)=(n:Int)))==false)),(idB ((!decide ((n:Int)=(n:Int)))==false)),zs,(by simp;omega),(yY (n:=n) (q:=(λi=>C g i)) zo).frzV,zo,(oldS (mE C n) g),(newS (mE C n) g),(wI (g:=g) zo),g+1,(rf n),(leS (mE C n) n),(rf 0),(rf n),(leS (mE C n) n),(rf (n:Int)),zo,(rf 0),rfl,zo,(leS (mE C n) (g+1)),zo,zo⟩,λhc12=>have hc12:=dF hc12;have hi2:g=n:=zo;⟨(rf 0),(rf 0),rfl,hi2,(leS (mE C n) g),(sBFactorX hn hD hok),(rf (.one (.var 100 (.agg (c3 (.own 1 0) (.ex (.pointer none)) (.ex sN)))):Hl)),(rf (cC C n:Hl)),(rf 0),(rf 0),rfl,rfl,rfl⟩⟩⟩
theorem sBNew_len{C:Nat->Nat->Rat}{len:Nat->Nat}{n k:Nat}(hn:n<=6)(hk:k<n)(hlen:∀i,i<k->len i=n)(hne:len k≠n):CallOK Tryz.prog 13 [.sl 1 (λi0=>.sl 3 (λi1=>.rat (C i0 i1)) (len i0)) n] (c2 (.ex (.pointer none)) (.ifc 113 (.ep (.agg (c3 (.ex (.string sCol)) (iN k) (.ex (.iface 63 (.int .i64 2)))))))) []:=by
 exact kP (ch:=[.loop 3 (Nat) (λg=>g<=k) (λg=>n-g) (λg=>⟨[(0,.sl 1 (λi0=>.sl 3 (λi1=>.rat (C i0 i1)) (len i0)) n),(4,.own 0 0),(9,.sl 1 (λi0=>.sl 3 (λi1=>.rat (C i0 i1)) (len i0)) n),(10,iN n),(11,iN g)],[(0,.one (.var 100 (.agg (c3 (.own 1 0) (.ex (.pointer none)) (.ex sN))))),(1,.one (.row 33 1 (λi0=>.sl 3 (λi1=>.rat (C i0 i1)) (len i0)) g))],2⟩) [(0,.id 0),(1,.nil)] (λ_=>[(0,.id 0),(1,.id 2)]) (λg=>[.reg 4 [(1,.k g)],.reg 6 [(2,.callS (.ifc 113 (.ep (.agg (c3 (.ex (.string sCol)) (iN g) (.ex (.iface 63 (.int .i64 2))))))) [])],.reg 7 [(6,.callS (.sl 3 (λi0=>.rat (C g i0)) (len g)) []),(8,.row 0 (λi0=>.sl 3 (λi1=>.rat (C i0 i1)) (len i0)))],.reg 8 [(0,.z ((g+1:Nat):Int))],.conv 9 [(0,.id 0),(1,.id 1)] ⟨[(4,.own 0 0)],[(0,.one (.var 100 (.agg (c3 (.own 1 0) (.ex (.pointer none)) (.ex sN))))),(1,cC C n)],2⟩,.reg 9 [(1,.callM [0,1] [.one (.var 100 (.agg (c3 (.own 1 0) (.ex (.pointer none)) (.ex sN)))),cC C n] [.own 0 0] (bX false) [.one (.var 100 (.agg (c3 (.own 2 0) (.ex (.pointer none)) (.ex sN)))),.dead,cC C n])],.dec 43 false])]) Tryz.func13 ((∀j0,j0<n->(∀j1,j1<(len j0)->True))/\(((λX1 X2 X3 X4 X5 X6 X7:Prop=>∃g0:Nat,X1/\X2/\X3/\X4/\X5/\X6/\((0:Int)=(g0:Int))/\X7/\((.pointer none:Value)=.pointer none)/\((g0:Nat)=0)/\(g0<=k)) _ _ _ _ _ _ _)/\∀g:Nat,(g<=k)->(((decide ((g:Int)<(n:Int)))=true->_/\(g<n)/\_/\_/\((!(!decide (((len g:Nat):Int)=(n:Int))))=true->((!decide (((len g:Nat):Int)=(n:Int)))==false)=true)/\(((bif (!decide (((len g:Nat):Int)=(n:Int))) then true else(decide ((64:Int)<(n:Int))))=true->(CallOK Tryz.prog 48 [.ex (.iface 63 (.int .i64 2)),.ex (.string sCol),iN g] (.ifc 113 (.ep (.agg (c3 (.ex (.string sCol)) (iN g) (.ex (.iface 63 (.int .i64 2))))))) [])/\(((.pointer none:Value)=.pointer none)/\((.string sCol:Value)=.string sCol)/\((g:Int)=(k:Int))/\((.iface 63 (.int .i64 2):Value)=.iface 63 (.int .i64 2))))/\((bif (!decide (((len g:Nat):Int)=(n:Int))) then true else(decide ((64:Int)<(n:Int))))=false->_/\(g+1<=68719476736)/\_/\_/\_/\((λX1 X2 X3 X4 X5 X6 X7 X8:Prop=>∃g1:Nat,X1/\X2/\X3/\X4/\X5/\X6/\(((g+1:Nat):Int)=(g1:Int))/\X7/\((.pointer none:Value)=.pointer none)/\((g+1:Nat)=g1)/\X8/\(g1<=k)/\(n-g1<n-g)) _ _ _ _ _ _ _ _))))/\((decide ((g:Int)<(n:Int)))=false->_/\_/\((.pointer none:Value)=.pointer none)/\((g:Nat)=n)/\(∀j0,j0<g->((len j0:Nat)=n)/\(∀j1,j1<(len j0)->((C j0 j1:Rat)=(C j0 j1))))/\(CallOKm Tryz.prog 49 [.one (.var 100 (.agg (c3 (.own 1 0) (.ex (.pointer none)) (.ex sN)))),cC C n] [.own 0 0] (bX false) [.one (.var 100 (.agg (c3 (.own 2 0) (.ex (.pointer none)) (.ex sN)))),.dead,cC C n])/\_/\_/\_/\_/\((!false)=false)/\((False)/\(False))))))
  ⟨(λ_ _=>(λ_ _=>trivial)),⟨0,(rf n),(leS (λi0=>.sl 3 (λi1=>.rat (C i0 i1)) (len i0)) n),(rf 0),(rf n),(leS (λi0=>.sl 3 (λi1=>.rat (C i0 i1)) (len i0)) n),(rf (n:Int)),zo,(rf 0),rfl,zo,zo⟩,λg hg=>⟨λhc12=>have hc12:=dT hc12;have hgn:g<n:=zo;⟨(rf (g:Int)),zo,(idB ((!decide (((len g:Nat):Int)=(n:Int)))==false)),(idB ((!decide (((len g:Nat):Int)=(n:Int)))==false)),zs,λhc25=>have hgk:g=k:=(by rcases Nat.lt_or_eq_of_le hg with h | h;exact absurd hc25 (by rw[hlen g h];simp;omega);exact h);⟨sWrap,(by first | rfl | rw[hgk]),(by first | rfl | rw[hgk]),(by first | rfl | rw[hgk]),(by first | rfl | rw[hgk])⟩,λhc25=>have hgk:g<k:=(by rcases Nat.lt_or_eq_of_le hg with h | h;exact h;subst h;simp at hc25;omega);⟨(yY (n:=len g) (q:=(λi=>C g i)) (by rw[hlen g hgk];omega)).frzV,zo,(oldS (λi0=>.sl 3 (λi1=>.rat (C i0 i1)) (len i0)) g),(newS (λi0=>.sl 3 (λi1=>.rat (C i0 i1)) (len i0)) g),(wI (g:=g) zo),g+1,(rf n),(leS (λi0=>.sl 3 (λi1=>.rat (C i0 i1)) (len i0)) n),(rf 0),(rf n),(leS (λi0=>.sl 3 (λi1=>.rat (C i0 i1)) (len i0)) n),(rf (n:Int)),zo,(rf 0),rfl,zo,(leS (λi0=>.sl 3 (λi1=>.rat (C i0 i1)) (len i0)) (g+1)),zo,zo⟩⟩,λhc12=>have hc12:=dF hc12;have hx:False:=zo;⟨(rf 0),(rf 0),rfl,hx.elim,(λj0 hj0=>⟨hx.elim,(λj1 hj1=>rfl)⟩),(sBFactorX hx.elim hx.elim hx.elim),(rf (.one (.var 100 (.agg (c3 (.own 1 0) (.ex (.pointer none)) (.ex sN)))):Hl)),(rf (cC C n:Hl)),(rf 0),(rf 0),hx.elim,hx.elim,hx.elim⟩⟩⟩
open Go.RowKit
def zH (n:Nat) (C:Nat->Nat->Rat) (w v:Nat->Rat) (k r:Nat):Rat:=if k<n then if r<n then C k r else w k else v r
section
variable {n k r:Nat} {C:Nat->Nat->Rat} {w v:Nat->Rat}
theorem growC_in(hk:k<n)(hr:r<n):zH n C w v k r=C k r:=by unfold zH;rw[if_pos hk,if_pos hr]
theorem growC_row(hk:k<n)(hr:n<=r):zH n C w v k r=w k:=by unfold zH;rw[if_pos hk,if_neg zo]
theorem growC_col(hk:n<=k):zH n C w v k r=v r:=by unfold zH;rw[if_neg zo]
end
theorem grow_no{n l1 l2:Nat}{P:Bool}(h:l1≠n∨l2≠n+1):(bif (bif (!decide ((l1:Int)=(n:Int))) then true else(!decide ((l2:Int)=((n+1:Nat):Int)))) then true else P)=true:=by
 rcases h with h | h
 ·have:¬((l1:Int)=(n:Int)):=by omega
  simp[this]
 ·have:¬((l2:Int)=(n:Int)+1):=by omega
  simp[this]
theorem sBNewM{C:Nat->Nat->Rat}{e:Etas}{n:Nat}(hn:n<=6)(hD:HtB n n 3 (trM C))(hok:luOK n (trM C) n):CallOKm Tryz.prog 13 [cC C n] [.own 0 0] (c2 (.own 1 0) (.ex (.nilIface))) [.dead,.one (bV 2 3 (luS n (trM C) n) n),cC C n,.one (eE e n 0)]:=by
 exact zX (ch:=λB=>[.loop 3 (Nat) (λg=>g<=n) (λg=>n-g) (λg=>⟨[(0,.own 0 0),(4,.own 1 0),(9,.own 0 0),(10,iN n),(11,iN g)],[(0,cC C n),(1,.one (.var 100 (.agg (c3 (.own 2 0) (.ex (.pointer none)) (.ex sN))))),(2,.one (.row 33 1 (mE C n) g))],3⟩) [(0,.id 0),(1,.id 1),(2,.nil)] (λ_=>[(0,.id 0),(1,.id 1),(2,.id 3)]) (λg=>[.reg 4 [(1,.k g)],.dec 25 false,.reg 7 [(6,.callS (.sl 3 (λi0=>.rat (C g i0)) n) []),(8,.row 0 (mE C n))],.reg 8 [(0,.z ((g+1:Nat):Int))],.conv 9 [(0,.id 1),(1,.id 2)] ⟨[(4,.own 0 0)],[(0,.one (.var 100 (.agg (c3 (.own 1 0) (.ex (.pointer none)) (.ex sN))))),(1,cC C n)],2⟩,.reg 9 [(1,.callM [0,1] [.one (.var 100 (.agg (c3 (.own 1 0) (.ex (.pointer none)) (.ex sN)))),cC C n] [.own 0 0] (bX true) [.one (.var 100 (.agg (c3 (.own 2 0) (.ep (lvE (luS n (trM C) n) n)) (.ex sN)))),.dead,cC C n])],.dec 43 false,.ret 11 [(1,.id 0),(2,.id 2),(3,.nil)]])]) hMix Tryz.func13 rfl zk zk zk (λB=>(((λX1 X2 X3 X4 X5 X6 X7:Prop=>∃g0:Nat,X1/\X2/\X3/\X4/\((0:Int)=(g0:Int))/\X5/\X6/\X7/\((.pointer none:Value)=.pointer none)/\((g0:Nat)=0)/\(g0<=n)) _ _ _ _ _ _ _)/\∀g:Nat,(g<=n)->(((decide ((g:Int)<(n:Int)))=true->_/\(g<n)/\(g<n)/\_/\_/\((!(!decide ((n:Int)=(n:Int))))=true->((!decide ((n:Int)=(n:Int)))==false)=true)/\((bif (!decide ((n:Int)=(n:Int))) then true else(decide ((64:Int)<(n:Int))))=false)/\_/\(g+1<=68719476736)/\_/\_/\_/\((λX1 X2 X3 X4 X5 X6 X7 X8:Prop=>∃g1:Nat,X1/\X2/\X3/\X4/\(((g+1:Nat):Int)=(g1:Int))/\X5/\X6/\X7/\((.pointer none:Value)=.pointer none)/\((g+1:Nat)=g1)/\X8/\(g1<=n)/\(n-g1<n-g)) _ _ _ _ _ _ _ _))/\((decide ((g:Int)<(n:Int)))=false->_/\_/\((.pointer none:Value)=.pointer none)/\((g:Nat)=n)/\_/\(CallOKm Tryz.prog 49 [.one (.var 100 (.agg (c3 (.own 1 0) (.ex (.pointer none)) (.ex sN)))),cC C n] [.own 0 0] (bX true) [.one (.var 100 (.agg (c3 (.own 2 0) (.ep (lvE (luS n (trM C) n) n)) (.ex sN)))),.dead,cC C n])/\_/\_/\_/\_/\((!true)=false)/\(_/\((.nilIface:Value)=.nilIface)/\_/\_/\_/\_/\_/\_/\_/\_/\_/\_/\_/\_))))) (λB=>by kernel_rfl)
  (λB=>⟨⟨0,(rf 0),(rf 0),(rf 0),(rf (n:Int)),zo,(rf n),(leS (mE C n) n),(rf 0),rfl,zo,zo⟩,λg hg=>⟨λhc12=>have hc12:=dT hc12;⟨(rf (g:Int)),zo,zo,(idB ((!decide ((n:Int)=(n:Int)))==false)),(idB ((!decide ((n:Int)=(n:Int)))==false)),zs,(by simp;omega),(yY (n:=n) (q:=(λi=>C g i)) zo).frzV,zo,(oldS (mE C n) g),(newS (mE C n) g),(wI (g:=g) zo),g+1,(rf 0),(rf 0),(rf 0),(rf (n:Int)),zo,(rf n),(leS (mE C n) n),(rf 0),rfl,zo,(leS (mE C n) (g+1)),zo,zo⟩,λhc12=>have hc12:=dF hc12;have hi2:g=n:=zo;⟨(rf 0),(rf 0),rfl,hi2,(leS (mE C n) g),(sBFactorF hn hD hok),(rf (.one (.var 100 (.agg (c3 (.own 1 0) (.ex (.pointer none)) (.ex sN)))):Hl)),(rf (cC C n:Hl)),(rf 0),(rf 0),rfl,(rf 0),rfl,(rf 0),(rf n),(leS (mE (luS n (trM C) n).2.1 n) n),(rf n),(leS (mE ((luS n (trM C) n).1) n) n),(rf n),(leS (λi0=>iN ((luS n (trM C) n).2.2.1 i0)) n),(rf ((luS n (trM C) n).2.2.2.2:Bool)),(rf 0),(rf n),(leS (mE C n) n),(rf 0)⟩⟩⟩)
theorem sBNewM_sing{C:Nat->Nat->Rat}{n:Nat}(hn:n<=6)(hD:HtB n n 3 (trM C))(hok:¬luOK n (trM C) n):CallOKm Tryz.prog 13 [cC C n] [.own 0 0] (c2 (.ex (.pointer none)) (.ex (.iface 63 (.int .i64 140)))) [.dead]:=by
 exact zX (ch:=λB=>[.loop 3 (Nat) (λg=>g<=n) (λg=>n-g) (λg=>⟨[(0,.own 0 0),(4,.own 1 0),(9,.own 0 0),(10,iN n),(11,iN g)],[(0,cC C n),(1,.one (.var 100 (.agg (c3 (.own 2 0) (.ex (.pointer none)) (.ex sN))))),(2,.one (.row 33 1 (mE C n) g))],3⟩) [(0,.id 0),(1,.id 1),(2,.nil)] (λ_=>[(0,.id 0),(1,.id 1),(2,.id 3)]) (λg=>[.reg 4 [(1,.k g)],.dec 25 false,.reg 7 [(6,.callS (.sl 3 (λi0=>.rat (C g i0)) n) []),(8,.row 0 (mE C n))],.reg 8 [(0,.z ((g+1:Nat):Int))],.conv 9 [(0,.id 1),(1,.id 2)] ⟨[(4,.own 0 0)],[(0,.one (.var 100 (.agg (c3 (.own 1 0) (.ex (.pointer none)) (.ex sN))))),(1,cC C n)],2⟩,.reg 9 [(1,.callM [0,1] [.one (.var 100 (.agg (c3 (.own 1 0) (.ex (.pointer none)) (.ex sN)))),cC C n] [.own 0 0] (bX false) [.one (.var 100 (.agg (c3 (.own 2 0) (.ex (.pointer none)) (.ex sN)))),.dead,cC C n])],.dec 43 true])]) hMix Tryz.func13 rfl zk zk zk (λB=>(((λX1 X2 X3 X4 X5 X6 X7:Prop=>∃g0:Nat,X1/\X2/\X3/\X4/\((0:Int)=(g0:Int))/\X5/\X6/\X7/\((.pointer none:Value)=.pointer none)/\((g0:Nat)=0)/\(g0<=n)) _ _ _ _ _ _ _)/\∀g:Nat,(g<=n)->(((decide ((g:Int)<(n:Int)))=true->_/\(g<n)/\(g<n)/\_/\_/\((!(!decide ((n:Int)=(n:Int))))=true->((!decide ((n:Int)=(n:Int)))==false)=true)/\((bif (!decide ((n:Int)=(n:Int))) then true else(decide ((64:Int)<(n:Int))))=false)/\_/\(g+1<=68719476736)/\_/\_/\_/\((λX1 X2 X3 X4 X5 X6 X7 X8:Prop=>∃g1:Nat,X1/\X2/\X3/\X4/\(((g+1:Nat):Int)=(g1:Int))/\X5/\X6/\X7/\((.pointer none:Value)=.pointer none)/\((g+1:Nat)=g1)/\X8/\(g1<=n)/\(n-g1<n-g)) _ _ _ _ _ _ _ _))/\((decide ((g:Int)<(n:Int)))=false->_/\_/\((.pointer none:Value)=.pointer none)/\((g:Nat)=n)/\_/\(CallOKm Tryz.prog 49 [.one (.var 100 (.agg (c3 (.own 1 0) (.ex (.pointer none)) (.ex sN)))),cC C n] [.own 0 0] (bX false) [.one (.var 100 (.agg (c3 (.own 2 0) (.ex (.pointer none)) (.ex sN)))),.dead,cC C n])/\_/\_/\_/\_/\((!false)=true)/\(((.pointer none:Value)=.pointer none)/\((.iface 63 (.int .i64 140):Value)=.iface 63 (.int .i64 140))))))) (λB=>by kernel_rfl)
  (λB=>⟨⟨0,(rf 0),(rf 0),(rf 0),(rf (n:Int)),zo,(rf n),(leS (mE C n) n),(rf 0),rfl,zo,zo⟩,λg hg=>⟨λhc12=>have hc12:=dT hc12;⟨(rf (g:Int)),zo,zo,(idB ((!decide ((n:Int)=(n:Int)))==false)),(idB ((!decide ((n:Int)=(n:Int)))==false)),zs,(by simp;omega),(yY (n:=n) (q:=(λi=>C g i)) zo).frzV,zo,(oldS (mE C n) g),(newS (mE C n) g),(wI (g:=g) zo),g+1,(rf 0),(rf 0),(rf 0),(rf (n:Int)),zo,(rf n),(leS (mE C n) n),(rf 0),rfl,zo,(leS (mE C n) (g+1)),zo,zo⟩,λhc12=>have hc12:=dF hc12;have hi2:g=n:=zo;⟨(rf 0),(rf 0),rfl,hi2,(leS (mE C n) g),(sBFactorX hn hD hok),(rf (.one (.var 100 (.agg (c3 (.own 1 0) (.ex (.pointer none)) (.ex sN)))):Hl)),(rf (cC C n:Hl)),(rf 0),(rf 0),rfl,rfl,rfl⟩⟩⟩)
theorem sBGrow_no{D C:Nat->Nat->Rat}{e:Etas}{n m:Nat}{a v:Nat->Rat}{l1 l2:Nat}(hn:n<=6)(hl:l1≠n∨l2≠n+1):CallOKm Tryz.prog 40 [.one (bV 1 2 (luS n D n) n),cC C n,.one (eE e n m)] [.own 0 0,.sl 3 (λi0=>.rat (a i0)) l1,.sl 3 (λi0=>.rat (v i0)) l2] (c2 (.ex (.pointer none)) (.ex (.iface 63 (.int .i64 2)))) [.one (bV 3 4 (luS n D n) n),.dead,.dead,cC C n,.one (eE e n m)]:=by
 exact zX (ch:=λB=>[.reg 2 [(8,.z ((n+1:Nat):Int))],.dec 31 true,.ret 3 [(0,.id 0),(3,.id 1),(4,.id 2)]]) hMix Tryz.func40 rfl zk zk zk (λB=>_/\_/\(((!decide ((l1:Int)=(n:Int)))==false)=true->IntKind.wrap .i64 ((n:Int)+1)=(((n+1:Nat):Int)))/\_/\_/\((!(!decide ((l1:Int)=(n:Int))))=true->((!decide ((l1:Int)=(n:Int)))==false)=true)/\_/\((!(bif (!decide ((l1:Int)=(n:Int))) then true else(!decide ((l2:Int)=((n+1:Nat):Int)))))=true->((bif (!decide ((l1:Int)=(n:Int))) then true else(!decide ((l2:Int)=((n+1:Nat):Int))))==false)=true)/\((bif (bif (!decide ((l1:Int)=(n:Int))) then true else(!decide ((l2:Int)=((n+1:Nat):Int)))) then true else(decide ((64:Int)<=(n:Int))))=true)/\(((.pointer none:Value)=.pointer none)/\((.iface 63 (.int .i64 2):Value)=.iface 63 (.int .i64 2))/\_/\_/\_/\_/\_/\_/\_/\_/\_/\_/\_/\_/\_/\_)) (λB=>by kernel_rfl)
  (λB=>⟨(idB ((!decide ((l1:Int)=(n:Int)))==false)),(idB ((!decide ((l1:Int)=(n:Int)))==false)),(λhg=>(by rw[IntKind.wrap_i64];omega)),(idB ((!decide ((l1:Int)=(n:Int)))==false)),(idB ((!decide ((l1:Int)=(n:Int)))==false)),zs,(idB ((bif (!decide ((l1:Int)=(n:Int))) then true else(!decide ((l2:Int)=((n+1:Nat):Int))))==false)),zs,(grow_no hl),rfl,rfl,(rf (some (B 0))),(rf 0),(rf n),(leS (mE (luS n D n).2.1 n) n),(rf n),(leS (mE ((luS n D n).1) n) n),(rf n),(leS (λi0=>iN ((luS n D n).2.2.1 i0)) n),(rf ((luS n D n).2.2.2.2:Bool)),(rf 0),(rf n),(leS (mE C n) n),(rf m),(leS (λi0=>.agg (c2 (iN ((e i0).1)) (vE (e i0).2 n))) m)⟩)
theorem sBGrow{D C:Nat->Nat->Rat}{e:Etas}{n m:Nat}{a v:Nat->Rat}{e2:Etas}(hn:n+1<=6)(hD:HtB (n+1) (n+1) 3 (trM (zH n C a v)))(hok:luOK (n+1) (trM (zH n C a v)) (n+1)):CallOKm Tryz.prog 40 [.one (bV 1 2 (luS n D n) n),cC C n,.one (eE e n m)] [.own 0 0,.sl 3 (λi0=>.rat (a i0)) n,.sl 3 (λi0=>.rat (v i0)) (n+1)] (c2 (.own 5 0) (.ex (.nilIface))) [.one (bV 3 4 (luS n D n) n),.dead,.dead,cC C n,.one (eE e n m),.one (bV 6 7 (luS (n+1) (trM (zH n C a v)) (n+1)) (n+1)),cC (zH n C a v) (n+1),.one (eE e2 (n+1) 0)]:=by
 exact zX (ch:=λB=>[.reg 2 [(8,.z ((n+1:Nat):Int))],.dec 31 false,.loop 6 (Nat) (λg=>g<=n) (λg=>n-g) (λg=>⟨[(0,.own 0 0),(1,.sl 3 (λi0=>.rat (a i0)) n),(2,.sl 3 (λi0=>.rat (v i0)) (n+1)),(9,.own 3 0),(36,.own 1 0),(37,iN n),(38,iN g)],[(0,.one (bV 1 2 (luS n D n) n (some (B 0)))),(1,cC C n),(2,.one (eE e n m)),(3,.one (.row 33 1 (λi0=>.own 4 i0) g)),(4,.fam g (λi0=>.row 47 3 (λi1=>.rat (zH n C a v i0 i1)) (n+1)))],5⟩) [(0,.id 0),(1,.id 1),(2,.id 2),(3,.nil),(4,.emp)] (λg=>[(0,.id 0),(1,.id 1),(2,.id 2),(3,.id 7),(4,.put 4 g 6)]) (λg=>[.reg 7 [(1,.k g)],.reg 8 [(2,.callS (.own 0 0) [.one (.row 47 3 (λi0=>.rat (C g i0)) n)]),(5,.k g),(8,.row 0 (λi0=>.rat (zH n C a v g i0))),(10,.row 0 (λi0=>.own (if i0<g then 4 else 6) (if i0<g then i0 else 0)))],.reg 9 [(0,.z ((g+1:Nat):Int))],.conv 10 [(0,.id 0),(1,.id 1),(2,.id 2),(3,.id 3)] ⟨[(0,.own 0 0),(2,.sl 3 (λi0=>.rat (v i0)) (n+1)),(9,.own 3 0)],[(0,.one (bV 1 2 (luS n D n) n (some (B 0)))),(1,cC C n),(2,.one (eE e n m)),(3,.one (.row 33 1 (λi0=>.sl 3 (λi1=>.rat (zH n C a v i0 i1)) (n+1)) n))],4⟩,.reg 10 [(3,.row 0 (λi0=>.sl 3 (λi1=>.rat (zH n C a v i0 i1)) (n+1))),(4,.callM [4] [.one (.row 33 1 (λi0=>.sl 3 (λi1=>.rat (zH n C a v i0 i1)) (n+1)) (n+1))] [.own 0 0] (c2 (.own 1 0) (.ex (.nilIface))) [.dead,.one (bV 2 3 (luS (n+1) (trM (zH n C a v)) (n+1)) (n+1)),cC (zH n C a v) (n+1),.one (eE e2 (n+1) 0)])],.ret 10 [(0,.id 0),(3,.id 1),(4,.id 2),(5,.id 5),(6,.id 6),(7,.id 7)]])]) hMix Tryz.func40 rfl zk zk zk (λB=>let y0:=((!decide ((n:Int)=(n:Int)))==false);let y1:=(bif (!decide ((n:Int)=(n:Int))) then true else(!decide (((n+1:Nat):Int)=((n+1:Nat):Int))));(y0=true->y0=true)/\(y0=true->y0=true)/\(y0=true->IntKind.wrap .i64 ((n:Int)+1)=(((n+1:Nat):Int)))/\(y0=true->y0=true)/\(y0=true->y0=true)/\((!(!decide ((n:Int)=(n:Int))))=true->y0=true)/\((y1==false)=true->(y1==false)=true)/\((!y1)=true->(y1==false)=true)/\((bif y1 then true else(decide ((64:Int)<=(n:Int))))=false)/\(((λX1 X2 X3 X4 X5 X6 X7 X8 X9 X10 X11 X12 X13 X14 X15 X16 X17 X18 X19 X20 X21 X22:Prop=>∃g0:Nat,X1/\X2/\X3/\X4/\X5/\X6/\X7/\X8/\((0:Int)=(g0:Int))/\X9/\X10/\X11/\X12/\X13/\X14/\X15/\X16/\X17/\X18/\X19/\X20/\X21/\X22/\((g0:Nat)=0)/\((g0:Nat)=0)/\(g0<=n)) _ _ _ _ _ _ _ _ _ _ _ _ _ _ _ _ _ _ _ _ _ _)/\∀g:Nat,(g<=n)->(((decide ((g:Int)<(n:Int)))=true->_/\(g<n)/\(g<n)/\_/\_/\(g<n)/\(n+1<=68719476736)/\(∀j0,j0<n->(.rat (zH n C a v g j0):SV)=.rat (C g j0))/\(∀j0,j0<1->((a g:Rat)=(zH n C a v g (n+j0))))/\(g+1<=68719476736)/\(∀j0,j0<g->(.own (if j0<g then 4 else 6) (if j0<g then j0 else 0):SV)=.own 4 j0)/\(∀j0,j0<1->((6:Nat)=(if g+j0<g then 4 else 6))/\((0:Nat)=(if g+j0<g then g+j0 else 0)))/\_/\((λX1 X2 X3 X4 X5 X6 X7 X8 X9 X10 X11 X12 X13 X14 X15 X16 X17 X18 X19 X20 X21 X22 X23:Prop=>∃g1:Nat,X1/\X2/\X3/\X4/\X5/\X6/\X7/\X8/\(((g+1:Nat):Int)=(g1:Int))/\X9/\X10/\X11/\X12/\X13/\X14/\X15/\X16/\X17/\X18/\X19/\X20/\X21/\X22/\((g+1:Nat)=g1)/\(∀j0,j0<(g+1)->(((if j0<g then 4 else 6:Nat)=6/\(if j0<g then j0 else 0:Nat)=0/\(j0:Nat)=g)∨((if j0<g then 4 else 6:Nat)=4/\(if j0<g then j0 else 0:Nat)=j0/\(j0:Nat)≠g)))/\((g1:Nat)=g+1)/\X23/\(((n+1:Nat)=(n+1))/\(∀j1,j1<(n+1)->((zH n C a v g j1:Rat)=(zH n C a v g j1))))/\(∀j0,j0<g->((n+1:Nat)=(n+1))/\(∀j1,j1<(n+1)->((zH n C a v j0 j1:Rat)=(zH n C a v j0 j1))))/\(g1<=n)/\(n-g1<n-g)) _ _ _ _ _ _ _ _ _ _ _ _ _ _ _ _ _ _ _ _ _ _ _))/\((decide ((g:Int)<(n:Int)))=false->_/\_/\_/\_/\_/\_/\_/\_/\_/\_/\_/\_/\_/\_/\_/\_/\_/\_/\((g:Nat)=n)/\(∀j0,j0<g->((n+1:Nat)=(n+1))/\(∀j1,j1<(n+1)->((zH n C a v j0 j1:Rat)=(zH n C a v j0 j1)))/\(j0<g))/\(n+1<=68719476736)/\_/\(∀j0,j0<1->((n+1:Nat)=(n+1))/\(∀j1,j1<(n+1)->((v j1:Rat)=(zH n C a v (n+j0) j1))))/\(CallOKm Tryz.prog 13 [.one (.row 33 1 (λi0=>.sl 3 (λi1=>.rat (zH n C a v i0 i1)) (n+1)) (n+1))] [.own 0 0] (c2 (.own 1 0) (.ex (.nilIface))) [.dead,.one (bV 2 3 (luS (n+1) (trM (zH n C a v)) (n+1)) (n+1)),cC (zH n C a v) (n+1),.one (eE e2 (n+1) 0)])/\_/\_/\_/\(_/\((.nilIface:Value)=.nilIface)/\_/\_/\_/\_/\_/\_/\_/\_/\_/\_/\_/\_/\_/\_/\_/\_/\_/\_/\_/\_/\_/\_/\_/\_/\_/\_/\_))))) (λB=>by kernel_rfl)
  (λB=>⟨id,id,(λhg=>(by rw[IntKind.wrap_i64];omega)),id,id,zs,id,zs,(by simp;omega),⟨0,(rf 0),(rf n),(leS (λi0=>.rat (a i0)) n),(rf (n+1:Nat)),(leS (λi0=>.rat (v i0)) (n+1)),(rf 0),(rf 0),(rf (n:Int)),zo,(rf (some (B 0))),(rf 0),(rf n),(leS (mE (luS n D n).2.1 n) n),(rf n),(leS (mE ((luS n D n).1) n) n),(rf n),(leS (λi0=>iN ((luS n D n).2.2.1 i0)) n),(rf ((luS n D n).2.2.2.2:Bool)),(rf 0),(rf n),(leS (mE C n) n),(rf m),(leS (λi0=>.agg (c2 (iN ((e i0).1)) (vE (e i0).2 n))) m),zo,zo,zo⟩,λg hg=>⟨λhc39=>have hc39:=dT hc39;have hgn:g<n:=zo;⟨(rf (g:Int)),zo,zo,yY (n:=n) (q:=(λi=>C g i)) zo,(rf (g:Int)),zo,zo,(λj0 hj0=>by rw[growC_in hgn hj0]),(λj0 hj0=>(growC_row hgn (Nat.le_add_right n j0)).symm),zo,(λj0 hj0=>by rw[if_pos hj0,if_pos hj0]),(λj0 hj0=>⟨(by rw[if_neg zo]),(by rw[if_neg zo])⟩),(wI (g:=g) zo),g+1,(rf 0),(rf n),(leS (λi0=>.rat (a i0)) n),(rf (n+1:Nat)),(leS (λi0=>.rat (v i0)) (n+1)),(rf 0),(rf 0),(rf (n:Int)),zo,(rf (some (B 0))),(rf 0),(rf n),(leS (mE (luS n D n).2.1 n) n),(rf n),(leS (mE ((luS n D n).1) n) n),(rf n),(leS (λi0=>iN ((luS n D n).2.2.1 i0)) n),(rf ((luS n D n).2.2.2.2:Bool)),(rf 0),(rf n),(leS (mE C n) n),(rf m),(leS (λi0=>.agg (c2 (iN ((e i0).1)) (vE (e i0).2 n))) m),zo,(λj0 hj0=>(by first | omega | (split<;>omega))),zo,(rf g),⟨rfl,(λj1 hj1=>rfl)⟩,(λj0 hj0=>⟨rfl,(λj1 hj1=>rfl)⟩),zo,zo⟩,λhc39=>have hc39:=dF hc39;have hi2:g=n:=zo;⟨(rf 0),(rf (n+1:Nat)),(leS (λi0=>.rat (v i0)) (n+1)),(rf 0),(rf (some (B 0))),(rf 0),(rf n),(leS (mE (luS n D n).2.1 n) n),(rf n),(leS (mE ((luS n D n).1) n) n),(rf n),(leS (λi0=>iN ((luS n D n).2.2.1 i0)) n),(rf ((luS n D n).2.2.2.2:Bool)),(rf 0),(rf n),(leS (mE C n) n),(rf m),(leS (λi0=>.agg (c2 (iN ((e i0).1)) (vE (e i0).2 n))) m),hi2,(λj0 hj0=>⟨rfl,(λj1 hj1=>rfl),zo⟩),zo,(oldS (λi0=>.sl 3 (λi1=>.rat (zH n C a v i0 i1)) (n+1)) n),(λj0 hj0=>by obtain rfl:j0=0:=zo;exact⟨rfl,λj1 _=>(growC_col (Nat.le_refl n)).symm⟩),(sBNewM (C:=(zH n C a v)) (e:=e2) hn hD hok),(rf (.one (.row 33 1 (λi0=>.sl 3 (λi1=>.rat (zH n C a v i0 i1)) (n+1)) (n+1)):Hl)),(rf 4),(rf 0),(rf 0),rfl,(rf (some (B 0))),(rf 0),(rf n),(leS (mE (luS n D n).2.1 n) n),(rf n),(leS (mE ((luS n D n).1) n) n),(rf n),(leS (λi0=>iN ((luS n D n).2.2.1 i0)) n),(rf ((luS n D n).2.2.2.2:Bool)),(rf 0),(rf n),(leS (mE C n) n),(rf m),(leS (λi0=>.agg (c2 (iN ((e i0).1)) (vE (e i0).2 n))) m),(rf 0),(rf (n+1:Nat)),(leS (mE (luS (n+1) (trM (zH n C a v)) (n+1)).2.1 (n+1)) (n+1)),(rf (n+1:Nat)),(leS (mE ((luS (n+1) (trM (zH n C a v)) (n+1)).1) (n+1)) (n+1)),(rf (n+1:Nat)),(leS (λi0=>iN ((luS (n+1) (trM (zH n C a v)) (n+1)).2.2.1 i0)) (n+1)),(rf ((luS (n+1) (trM (zH n C a v)) (n+1)).2.2.2.2:Bool)),(rf 0),(rf (n+1:Nat)),(leS (mE (zH n C a v) (n+1)) (n+1)),(rf 0),(leS (λi0=>.agg (c2 (iN ((e2 i0).1)) (vE (e2 i0).2 (n+1)))) 0)⟩⟩⟩)
theorem sBGrow_sing{D C:Nat->Nat->Rat}{e:Etas}{n m:Nat}{a v:Nat->Rat}(hn:n+1<=6)(hD:HtB (n+1) (n+1) 3 (trM (zH n C a v)))(hok:¬luOK (n+1) (trM (zH n C a v)) (n+1)):CallOKm Tryz.prog 40 [.one (bV 1 2 (luS n D n) n),cC C n,.one (eE e n m)] [.own 0 0,.sl 3 (λi0=>.rat (a i0)) n,.sl 3 (λi0=>.rat (v i0)) (n+1)] (c2 (.ex (.pointer none)) (.ex (.iface 63 (.int .i64 140)))) [.one (bV 3 4 (luS n D n) n),.dead,.dead,cC C n,.one (eE e n m)]:=by
 exact zX (ch:=λB=>[.reg 2 [(8,.z ((n+1:Nat):Int))],.dec 31 false,.loop 6 (Nat) (λg=>g<=n) (λg=>n-g) (λg=>⟨[(0,.own 0 0),(1,.sl 3 (λi0=>.rat (a i0)) n),(2,.sl 3 (λi0=>.rat (v i0)) (n+1)),(9,.own 3 0),(36,.own 1 0),(37,iN n),(38,iN g)],[(0,.one (bV 1 2 (luS n D n) n (some (B 0)))),(1,cC C n),(2,.one (eE e n m)),(3,.one (.row 33 1 (λi0=>.own 4 i0) g)),(4,.fam g (λi0=>.row 47 3 (λi1=>.rat (zH n C a v i0 i1)) (n+1)))],5⟩) [(0,.id 0),(1,.id 1),(2,.id 2),(3,.nil),(4,.emp)] (λg=>[(0,.id 0),(1,.id 1),(2,.id 2),(3,.id 7),(4,.put 4 g 6)]) (λg=>[.reg 7 [(1,.k g)],.reg 8 [(2,.callS (.own 0 0) [.one (.row 47 3 (λi0=>.rat (C g i0)) n)]),(5,.k g),(8,.row 0 (λi0=>.rat (zH n C a v g i0))),(10,.row 0 (λi0=>.own (if i0<g then 4 else 6) (if i0<g then i0 else 0)))],.reg 9 [(0,.z ((g+1:Nat):Int))],.conv 10 [(0,.id 0),(1,.id 1),(2,.id 2),(3,.id 3)] ⟨[(0,.own 0 0),(2,.sl 3 (λi0=>.rat (v i0)) (n+1)),(9,.own 3 0)],[(0,.one (bV 1 2 (luS n D n) n (some (B 0)))),(1,cC C n),(2,.one (eE e n m)),(3,.one (.row 33 1 (λi0=>.sl 3 (λi1=>.rat (zH n C a v i0 i1)) (n+1)) n))],4⟩,.reg 10 [(3,.row 0 (λi0=>.sl 3 (λi1=>.rat (zH n C a v i0 i1)) (n+1))),(4,.callM [4] [.one (.row 33 1 (λi0=>.sl 3 (λi1=>.rat (zH n C a v i0 i1)) (n+1)) (n+1))] [.own 0 0] (c2 (.ex (.pointer none)) (.ex (.iface 63 (.int .i64 140)))) [.dead])],.ret 10 [(0,.id 0),(3,.id 1),(4,.id 2)]])]) hMix Tryz.func40 rfl zk zk zk (λB=>let y0:=((!decide ((n:Int)=(n:Int)))==false);let y1:=(bif (!decide ((n:Int)=(n:Int))) then true else(!decide (((n+1:Nat):Int)=((n+1:Nat):Int))));(y0=true->y0=true)/\(y0=true->y0=true)/\(y0=true->IntKind.wrap .i64 ((n:Int)+1)=(((n+1:Nat):Int)))/\(y0=true->y0=true)/\(y0=true->y0=true)/\((!(!decide ((n:Int)=(n:Int))))=true->y0=true)/\((y1==false)=true->(y1==false)=true)/\((!y1)=true->(y1==false)=true)/\((bif y1 then true else(decide ((64:Int)<=(n:Int))))=false)/\(((λX1 X2 X3 X4 X5 X6 X7 X8 X9 X10 X11 X12 X13 X14 X15 X16 X17 X18 X19 X20 X21 X22:Prop=>∃g0:Nat,X1/\X2/\X3/\X4/\X5/\X6/\X7/\X8/\((0:Int)=(g0:Int))/\X9/\X10/\X11/\X12/\X13/\X14/\X15/\X16/\X17/\X18/\X19/\X20/\X21/\X22/\((g0:Nat)=0)/\((g0:Nat)=0)/\(g0<=n)) _ _ _ _ _ _ _ _ _ _ _ _ _ _ _ _ _ _ _ _ _ _)/\∀g:Nat,(g<=n)->(((decide ((g:Int)<(n:Int)))=true->_/\(g<n)/\(g<n)/\_/\_/\(g<n)/\(n+1<=68719476736)/\(∀j0,j0<n->(.rat (zH n C a v g j0):SV)=.rat (C g j0))/\(∀j0,j0<1->((a g:Rat)=(zH n C a v g (n+j0))))/\(g+1<=68719476736)/\(∀j0,j0<g->(.own (if j0<g then 4 else 6) (if j0<g then j0 else 0):SV)=.own 4 j0)/\(∀j0,j0<1->((6:Nat)=(if g+j0<g then 4 else 6))/\((0:Nat)=(if g+j0<g then g+j0 else 0)))/\_/\((λX1 X2 X3 X4 X5 X6 X7 X8 X9 X10 X11 X12 X13 X14 X15 X16 X17 X18 X19 X20 X21 X22 X23:Prop=>∃g1:Nat,X1/\X2/\X3/\X4/\X5/\X6/\X7/\X8/\(((g+1:Nat):Int)=(g1:Int))/\X9/\X10/\X11/\X12/\X13/\X14/\X15/\X16/\X17/\X18/\X19/\X20/\X21/\X22/\((g+1:Nat)=g1)/\(∀j0,j0<(g+1)->(((if j0<g then 4 else 6:Nat)=6/\(if j0<g then j0 else 0:Nat)=0/\(j0:Nat)=g)∨((if j0<g then 4 else 6:Nat)=4/\(if j0<g then j0 else 0:Nat)=j0/\(j0:Nat)≠g)))/\((g1:Nat)=g+1)/\X23/\(((n+1:Nat)=(n+1))/\(∀j1,j1<(n+1)->((zH n C a v g j1:Rat)=(zH n C a v g j1))))/\(∀j0,j0<g->((n+1:Nat)=(n+1))/\(∀j1,j1<(n+1)->((zH n C a v j0 j1:Rat)=(zH n C a v j0 j1))))/\(g1<=n)/\(n-g1<n-g)) _ _ _ _ _ _ _ _ _ _ _ _ _ _ _ _ _ _ _ _ _ _ _))/\((decide ((g:Int)<(n:Int)))=false->_/\_/\_/\_/\_/\_/\_/\_/\_/\_/\_/\_/\_/\_/\_/\_/\_/\_/\((g:Nat)=n)/\(∀j0,j0<g->((n+1:Nat)=(n+1))/\(∀j1,j1<(n+1)->((zH n C a v j0 j1:Rat)=(zH n C a v j0 j1)))/\(j0<g))/\(n+1<=68719476736)/\_/\(∀j0,j0<1->((n+1:Nat)=(n+1))/\(∀j1,j1<(n+1)->((v j1:Rat)=(zH n C a v (n+j0) j1))))/\(CallOKm Tryz.prog 13 [.one (.row 33 1 (λi0=>.sl 3 (λi1=>.rat (zH n C a v i0 i1)) (n+1)) (n+1))] [.own 0 0] (c2 (.ex (.pointer none)) (.ex (.iface 63 (.int .i64 140)))) [.dead])/\_/\_/\_/\(((.pointer none:Value)=.pointer none)/\((.iface 63 (.int .i64 140):Value)=.iface 63 (.int .i64 140))/\_/\_/\_/\_/\_/\_/\_/\_/\_/\_/\_/\_/\_/\_))))) (λB=>by kernel_rfl)
  (λB=>⟨id,id,(λhg=>(by rw[IntKind.wrap_i64];omega)),id,id,zs,id,zs,(by simp;omega),⟨0,(rf 0),(rf n),(leS (λi0=>.rat (a i0)) n),(rf (n+1:Nat)),(leS (λi0=>.rat (v i0)) (n+1)),(rf 0),(rf 0),(rf (n:Int)),zo,(rf (some (B 0))),(rf 0),(rf n),(leS (mE (luS n D n).2.1 n) n),(rf n),(leS (mE ((luS n D n).1) n) n),(rf n),(leS (λi0=>iN ((luS n D n).2.2.1 i0)) n),(rf ((luS n D n).2.2.2.2:Bool)),(rf 0),(rf n),(leS (mE C n) n),(rf m),(leS (λi0=>.agg (c2 (iN ((e i0).1)) (vE (e i0).2 n))) m),zo,zo,zo⟩,λg hg=>⟨λhc39=>have hc39:=dT hc39;have hgn:g<n:=zo;⟨(rf (g:Int)),zo,zo,yY (n:=n) (q:=(λi=>C g i)) zo,(rf (g:Int)),zo,zo,(λj0 hj0=>by rw[growC_in hgn hj0]),(λj0 hj0=>(growC_row hgn (Nat.le_add_right n j0)).symm),zo,(λj0 hj0=>by rw[if_pos hj0,if_pos hj0]),(λj0 hj0=>⟨(by rw[if_neg zo]),(by rw[if_neg zo])⟩),(wI (g:=g) zo),g+1,(rf 0),(rf n),(leS (λi0=>.rat (a i0)) n),(rf (n+1:Nat)),(leS (λi0=>.rat (v i0)) (n+1)),(rf 0),(rf 0),(rf (n:Int)),zo,(rf (some (B 0))),(rf 0),(rf n),(leS (mE (luS n D n).2.1 n) n),(rf n),(leS (mE ((luS n D n).1) n) n),(rf n),(leS (λi0=>iN ((luS n D n).2.2.1 i0)) n),(rf ((luS n D n).2.2.2.2:Bool)),(rf 0),(rf n),(leS (mE C n) n),(rf m),(leS (λi0=>.agg (c2 (iN ((e i0).1)) (vE (e i0).2 n))) m),zo,(λj0 hj0=>(by first | omega | (split<;>omega))),zo,(rf g),⟨rfl,(λj1 hj1=>rfl)⟩,(λj0 hj0=>⟨rfl,(λj1 hj1=>rfl)⟩),zo,zo⟩,λhc39=>have hc39:=dF hc39;have hi2:g=n:=zo;⟨(rf 0),(rf (n+1:Nat)),(leS (λi0=>.rat (v i0)) (n+1)),(rf 0),(rf (some (B 0))),(rf 0),(rf n),(leS (mE (luS n D n).2.1 n) n),(rf n),(leS (mE ((luS n D n).1) n) n),(rf n),(leS (λi0=>iN ((luS n D n).2.2.1 i0)) n),(rf ((luS n D n).2.2.2.2:Bool)),(rf 0),(rf n),(leS (mE C n) n),(rf m),(leS (λi0=>.agg (c2 (iN ((e i0).1)) (vE (e i0).2 n))) m),hi2,(λj0 hj0=>⟨rfl,(λj1 hj1=>rfl),zo⟩),zo,(oldS (λi0=>.sl 3 (λi1=>.rat (zH n C a v i0 i1)) (n+1)) n),(λj0 hj0=>by obtain rfl:j0=0:=zo;exact⟨rfl,λj1 _=>(growC_col (Nat.le_refl n)).symm⟩),(sBNewM_sing (C:=(zH n C a v)) hn hD hok),(rf (.one (.row 33 1 (λi0=>.sl 3 (λi1=>.rat (zH n C a v i0 i1)) (n+1)) (n+1)):Hl)),(rf 4),(rf 0),rfl,rfl,(rf (some (B 0))),(rf 0),(rf n),(leS (mE (luS n D n).2.1 n) n),(rf n),(leS (mE ((luS n D n).1) n) n),(rf n),(leS (λi0=>iN ((luS n D n).2.2.1 i0)) n),(rf ((luS n D n).2.2.2.2:Bool)),(rf 0),(rf n),(leS (mE C n) n),(rf m),(leS (λi0=>.agg (c2 (iN ((e i0).1)) (vE (e i0).2 n))) m)⟩⟩⟩)
open Go.RowKit
theorem shr_no{n:Nat}{r c:Int}(h:(n:Int)<=r):(bif (bif (bif decide (r<0) then true else decide ((n:Int)<=r)) then true else decide (c<0)) then true else decide ((n:Int)<=c))=true:=by
 have e:decide ((n:Int)<=r)=true:=decide_eq_true h
 rw[e]
 cases decide (r<0)<;>rfl
theorem sBShrink{D C:Nat->Nat->Rat}{e:Etas}{n m:Nat}{e2:Etas}(hn:n<=6)(hD:HtB n n 3 (trM C))(hok:luOK n (trM C) n):CallOKm Tryz.prog 45 [.one (bV 1 2 (luS (n+1) D (n+1)) (n+1)),cC C (n+1),.one (eE e (n+1) m)] [.own 0 0,iN n,iN n] (c2 (.own 5 0) (.ex (.nilIface))) [.one (bV 3 4 (luS (n+1) D (n+1)) (n+1)),.dead,.dead,cC C (n+1),.one (eE e (n+1) m),.one (bV 6 7 (luS n (trM C) n) n),cC C n,.one (eE e2 n 0)]:=by
 exact zX (ch:=λB=>[.dec 32 false,.loop 6 (Nat) (λg=>g<=n+1) (λg=>n+1-g) (λg=>⟨[(0,.own 0 0),(1,iN n),(2,iN n),(9,.own 3 0),(37,.own 1 0),(38,iN (n+1)),(39,iN g)],[(0,.one (bV 1 2 (luS (n+1) D (n+1)) (n+1) (some (B 0)))),(1,cC C (n+1)),(2,.one (eE e (n+1) m)),(3,.one (.row 33 1 (λi0=>.own 4 i0) (min g n))),(4,.fam (min g n) (λi0=>.row 47 3 (λi1=>.rat (C i0 i1)) n))],5⟩) [(0,.id 0),(1,.id 1),(2,.id 2),(3,.nil),(4,.emp)] (λ_=>[(0,.id 0),(1,.id 1),(2,.id 2),(3,.id 3),(4,.id 4)]) (λg=>[.reg 7 [(1,.k g)],.reg 9 [(3,.kk 0 n),(4,.callS (.own 0 0) [.one (.row 47 3 (λi0=>.rat (C g i0)) n)]),(7,.z ((n+1:Nat):Int)),(8,.kk (n+1) (n+1)),(9,.row 0 (λi0=>.rat (C g i0))),(11,.row 0 (λi0=>.own (if i0<(min g n) then 4 else 6) (if i0<(min g n) then i0 else 0)))],.conv2 10 7 [(0,.id 0),(1,.id 1),(2,.id 2),(3,.id 7),(4,.put 4 (min g n) 6)] [(0,.id 0),(1,.id 1),(2,.id 2),(3,.id 3),(4,.id 4)] ⟨[(0,.own 0 0),(1,iN n),(2,iN n),(9,.own 3 0),(37,.own 1 0),(38,iN (n+1)),(39,iN g)],[(0,.one (bV 1 2 (luS (n+1) D (n+1)) (n+1) (some (B 0)))),(1,cC C (n+1)),(2,.one (eE e (n+1) m)),(3,.one (.row 33 1 (λi0=>.own 4 i0) (min (g+1) n))),(4,.fam (min (g+1) n) (λi0=>.row 47 3 (λi1=>.rat (C i0 i1)) n))],5⟩,.reg 10 [(0,.z ((g+1:Nat):Int))],.conv2 10 7 [(0,.id 0),(1,.id 1),(2,.id 2),(3,.id 7),(4,.put 4 (min g n) 6)] [(0,.id 0),(1,.id 1),(2,.id 2),(3,.id 3),(4,.id 4)] ⟨[(0,.own 0 0),(1,iN n),(2,iN n),(9,.own 3 0),(37,.own 1 0),(38,iN (n+1)),(39,iN g)],[(0,.one (bV 1 2 (luS (n+1) D (n+1)) (n+1) (some (B 0)))),(1,cC C (n+1)),(2,.one (eE e (n+1) m)),(3,.one (.row 33 1 (λi0=>.own 4 i0) (min (g+1) n))),(4,.fam (min (g+1) n) (λi0=>.row 47 3 (λi1=>.rat (C i0 i1)) n))],5⟩,.reg 10 [(0,.z ((g+1:Nat):Int))],.conv 11 [(0,.id 0),(1,.id 1),(2,.id 2),(3,.id 3)] ⟨[(0,.own 0 0),(9,.own 3 0)],[(0,.one (bV 1 2 (luS (n+1) D (n+1)) (n+1) (some (B 0)))),(1,cC C (n+1)),(2,.one (eE e (n+1) m)),(3,cC C n)],4⟩,.reg 11 [(1,.callM [3] [cC C n] [.own 0 0] (c2 (.own 1 0) (.ex (.nilIface))) [.dead,.one (bV 2 3 (luS n (trM C) n) n),cC C n,.one (eE e2 n 0)])],.ret 11 [(0,.id 0),(3,.id 1),(4,.id 2),(5,.id 4),(6,.id 5),(7,.id 6)]])]) hMix Tryz.func45 rfl zk zk zk (λB=>let y1:=(decide ((n:Int)<0));let y3:=(decide (((n+1:Nat):Int)<=(n:Int)));let y0:=(bif y1 then true else y3);let y2:=(bif y0 then true else y1);((y1==false)=true->(y1==false)=true)/\((y1==false)=true->(y1==false)=true)/\((!y1)=true->(y1==false)=true)/\((y0==false)=true->(y0==false)=true)/\((!y0)=true->(y0==false)=true)/\((y2==false)=true->(y2==false)=true)/\((y2==false)=true->(y2==false)=true)/\((!y2)=true->(y2==false)=true)/\((bif y2 then true else y3)=false)/\(((λX1 X2 X3 X4 X5 X6 X7 X8 X9 X10 X11 X12 X13 X14 X15 X16 X17 X18 X19 X20:Prop=>∃g0:Nat,X1/\X2/\X3/\X4/\X5/\X6/\((0:Int)=(g0:Int))/\X7/\X8/\X9/\X10/\X11/\X12/\X13/\X14/\X15/\X16/\X17/\X18/\X19/\X20/\((min g0 n:Nat)=0)/\((min g0 n:Nat)=0)/\(g0<=n+1)) _ _ _ _ _ _ _ _ _ _ _ _ _ _ _ _ _ _ _ _)/\∀g:Nat,(g<=n+1)->(((decide ((g:Int)<((n+1:Nat):Int)))=true->_/\(g<(n+1))/\(g<(n+1))/\(((!decide ((g:Int)=(n:Int)))=true->_/\(n<=(n+1))/\_/\(IntKind.wrap .i64 ((n:Int)+1)=(((n+1:Nat):Int)))/\_/\((n+1)<=(n+1))/\(n+((n+1)-(n+1))<=68719476736)/\(∀j0,j0<n->(.rat (C g j0):SV)=.rat (C g j0))/\(∀j0,j0<((n+1)-(n+1))->((C g ((n+1)+j0):Rat)=(C g (n+j0))))/\((min g n)+1<=68719476736)/\(∀j0,j0<(min g n)->(.own (if j0<(min g n) then 4 else 6) (if j0<(min g n) then j0 else 0):SV)=.own 4 j0)/\(∀j0,j0<1->((6:Nat)=(if(min g n)+j0<(min g n) then 4 else 6))/\((0:Nat)=(if(min g n)+j0<(min g n) then(min g n)+j0 else 0)))/\_/\_/\_/\_/\_/\_/\_/\_/\_/\_/\_/\_/\_/\_/\_/\_/\_/\_/\_/\_/\_/\(((min g n)+1:Nat)=(min (g+1) n))/\(∀j0,j0<((min g n)+1)->(((if j0<(min g n) then 4 else 6:Nat)=6/\(if j0<(min g n) then j0 else 0:Nat)=0/\(j0:Nat)=(min g n))∨((if j0<(min g n) then 4 else 6:Nat)=4/\(if j0<(min g n) then j0 else 0:Nat)=j0/\(j0:Nat)≠(min g n))))/\((min (g+1) n:Nat)=(min g n)+1)/\(((min g n):Nat)=(min g n))/\(((n+(n+1-(n+1)):Nat)=n)/\(∀j1,j1<(n+(n+1-(n+1)))->((C g j1:Rat)=(C (min g n) j1))))/\(∀j0,j0<(min g n)->((n:Nat)=n)/\(∀j1,j1<n->((C j0 j1:Rat)=(C j0 j1))))/\_/\((λX1 X2 X3 X4 X5 X6 X7 X8 X9 X10 X11 X12 X13 X14 X15 X16 X17 X18 X19 X20:Prop=>∃g1:Nat,X1/\X2/\X3/\X4/\X5/\X6/\(((g+1:Nat):Int)=(g1:Int))/\X7/\X8/\X9/\X10/\X11/\X12/\X13/\X14/\X15/\X16/\X17/\X18/\X19/\X20/\((min (g+1) n:Nat)=(min g1 n))/\(∀j0,j0<(min (g+1) n)->((j0:Nat)=j0))/\((min (g+1) n:Nat)=(min g1 n))/\(∀j0,j0<(min (g+1) n)->((n:Nat)=n)/\(∀j1,j1<n->((C j0 j1:Rat)=(C j0 j1))))/\(g1<=n+1)/\(n+1-g1<n+1-g)) _ _ _ _ _ _ _ _ _ _ _ _ _ _ _ _ _ _ _ _))/\((!decide ((g:Int)=(n:Int)))=false->_/\_/\_/\_/\_/\_/\_/\_/\_/\_/\_/\_/\_/\_/\_/\_/\_/\_/\_/\_/\_/\((min g n:Nat)=(min (g+1) n))/\(∀j0,j0<(min g n)->((j0:Nat)=j0))/\((min g n:Nat)=(min (g+1) n))/\(∀j0,j0<(min g n)->((n:Nat)=n)/\(∀j1,j1<n->((C j0 j1:Rat)=(C j0 j1))))/\_/\((λX1 X2 X3 X4 X5 X6 X7 X8 X9 X10 X11 X12 X13 X14 X15 X16 X17 X18 X19 X20:Prop=>∃g1:Nat,X1/\X2/\X3/\X4/\X5/\X6/\(((g+1:Nat):Int)=(g1:Int))/\X7/\X8/\X9/\X10/\X11/\X12/\X13/\X14/\X15/\X16/\X17/\X18/\X19/\X20/\((min (g+1) n:Nat)=(min g1 n))/\(∀j0,j0<(min (g+1) n)->((j0:Nat)=j0))/\((min (g+1) n:Nat)=(min g1 n))/\(∀j0,j0<(min (g+1) n)->((n:Nat)=n)/\(∀j1,j1<n->((C j0 j1:Rat)=(C j0 j1))))/\(g1<=n+1)/\(n+1-g1<n+1-g)) _ _ _ _ _ _ _ _ _ _ _ _ _ _ _ _ _ _ _ _))))/\((decide ((g:Int)<((n+1:Nat):Int)))=false->_/\_/\_/\_/\_/\_/\_/\_/\_/\_/\_/\_/\_/\_/\_/\_/\((min g n:Nat)=n)/\(∀j0,j0<(min g n)->((n:Nat)=n)/\(∀j1,j1<n->((C j0 j1:Rat)=(C j0 j1)))/\(j0<(min g n)))/\(CallOKm Tryz.prog 13 [cC C n] [.own 0 0] (c2 (.own 1 0) (.ex (.nilIface))) [.dead,.one (bV 2 3 (luS n (trM C) n) n),cC C n,.one (eE e2 n 0)])/\_/\_/\_/\(_/\((.nilIface:Value)=.nilIface)/\_/\_/\_/\_/\_/\_/\_/\_/\_/\_/\_/\_/\_/\_/\_/\_/\_/\_/\_/\_/\_/\_/\_/\_/\_/\_/\_))))) (λB=>by kernel_rfl)
  (λB=>⟨id,id,zs,id,zs,id,id,zs,(by simp;omega),⟨0,(rf 0),(rf (n:Int)),(rf (n:Int)),(rf 0),(rf 0),(rf ((n+1:Nat):Int)),zo,(rf (some (B 0))),(rf 0),(rf (n+1:Nat)),(leS (mE (luS (n+1) D (n+1)).2.1 (n+1)) (n+1)),(rf (n+1:Nat)),(leS (mE ((luS (n+1) D (n+1)).1) (n+1)) (n+1)),(rf (n+1:Nat)),(leS (λi0=>iN ((luS (n+1) D (n+1)).2.2.1 i0)) (n+1)),(rf ((luS (n+1) D (n+1)).2.2.2.2:Bool)),(rf 0),(rf (n+1:Nat)),(leS (mE C (n+1)) (n+1)),(rf m),(leS (λi0=>.agg (c2 (iN ((e i0).1)) (vE (e i0).2 (n+1)))) m),zo,zo,zo⟩,λg hg=>⟨λhc40=>have hc40:=dT hc40;have hgn:g<n+1:=zo;⟨(rf (g:Int)),zo,zo,λhc46=>have hg1:g<n:=(by simp at hc46;omega);⟨(rf (n:Int)),zo,yY (n:=n) (q:=(λi=>C g i)) zo,(by rw[IntKind.wrap_i64];omega),(rf ((n+1:Nat):Int)),zo,zo,(λj0 hj0=>rfl),(λj0 hj0=>absurd hj0 zo),zo,(λj0 hj0=>by rw[if_pos hj0,if_pos hj0]),(λj0 hj0=>⟨(by rw[if_neg zo]),(by rw[if_neg zo])⟩),(rf 0),(rf (n:Int)),(rf (n:Int)),(rf 0),(rf 0),(rf ((n+1:Nat):Int)),(rf (g:Int)),(rf (some (B 0))),(rf 0),(rf (n+1:Nat)),(leS (mE (luS (n+1) D (n+1)).2.1 (n+1)) (n+1)),(rf (n+1:Nat)),(leS (mE ((luS (n+1) D (n+1)).1) (n+1)) (n+1)),(rf (n+1:Nat)),(leS (λi0=>iN ((luS (n+1) D (n+1)).2.2.1 i0)) (n+1)),(rf ((luS (n+1) D (n+1)).2.2.2.2:Bool)),(rf 0),(rf (n+1:Nat)),(leS (mE C (n+1)) (n+1)),(rf m),(leS (λi0=>.agg (c2 (iN ((e i0).1)) (vE (e i0).2 (n+1)))) m),zo,(λj0 hj0=>(by first | omega | (split<;>omega))),zo,zo,⟨zo,(λj1 hj1=>(by first | rfl | (rw[Nat.min_eq_left (Nat.le_of_lt hg1)])))⟩,(λj0 hj0=>⟨rfl,(λj1 hj1=>rfl)⟩),(wI (g:=g) zo),g+1,(rf 0),(rf (n:Int)),(rf (n:Int)),(rf 0),(rf 0),(rf ((n+1:Nat):Int)),zo,(rf (some (B 0))),(rf 0),(rf (n+1:Nat)),(leS (mE (luS (n+1) D (n+1)).2.1 (n+1)) (n+1)),(rf (n+1:Nat)),(leS (mE ((luS (n+1) D (n+1)).1) (n+1)) (n+1)),(rf (n+1:Nat)),(leS (λi0=>iN ((luS (n+1) D (n+1)).2.2.1 i0)) (n+1)),(rf ((luS (n+1) D (n+1)).2.2.2.2:Bool)),(rf 0),(rf (n+1:Nat)),(leS (mE C (n+1)) (n+1)),(rf m),(leS (λi0=>.agg (c2 (iN ((e i0).1)) (vE (e i0).2 (n+1)))) m),zo,(λj0 hj0=>rfl),zo,(λj0 hj0=>⟨rfl,(λj1 hj1=>rfl)⟩),zo,zo⟩,λhc46=>have hg1:g=n:=(by simp at hc46;omega);⟨(rf 0),(rf (n:Int)),(rf (n:Int)),(rf 0),(rf 0),(rf ((n+1:Nat):Int)),(rf (g:Int)),(rf (some (B 0))),(rf 0),(rf (n+1:Nat)),(leS (mE (luS (n+1) D (n+1)).2.1 (n+1)) (n+1)),(rf (n+1:Nat)),(leS (mE ((luS (n+1) D (n+1)).1) (n+1)) (n+1)),(rf (n+1:Nat)),(leS (λi0=>iN ((luS (n+1) D (n+1)).2.2.1 i0)) (n+1)),(rf ((luS (n+1) D (n+1)).2.2.2.2:Bool)),(rf 0),(rf (n+1:Nat)),(leS (mE C (n+1)) (n+1)),(rf m),(leS (λi0=>.agg (c2 (iN ((e i0).1)) (vE (e i0).2 (n+1)))) m),zo,(λj0 hj0=>rfl),zo,(λj0 hj0=>⟨rfl,(λj1 hj1=>rfl)⟩),(wI (g:=g) zo),g+1,(rf 0),(rf (n:Int)),(rf (n:Int)),(rf 0),(rf 0),(rf ((n+1:Nat):Int)),zo,(rf (some (B 0))),(rf 0),(rf (n+1:Nat)),(leS (mE (luS (n+1) D (n+1)).2.1 (n+1)) (n+1)),(rf (n+1:Nat)),(leS (mE ((luS (n+1) D (n+1)).1) (n+1)) (n+1)),(rf (n+1:Nat)),(leS (λi0=>iN ((luS (n+1) D (n+1)).2.2.1 i0)) (n+1)),(rf ((luS (n+1) D (n+1)).2.2.2.2:Bool)),(rf 0),(rf (n+1:Nat)),(leS (mE C (n+1)) (n+1)),(rf m),(leS (λi0=>.agg (c2 (iN ((e i0).1)) (vE (e i0).2 (n+1)))) m),zo,(λj0 hj0=>rfl),zo,(λj0 hj0=>⟨rfl,(λj1 hj1=>rfl)⟩),zo,zo⟩⟩,λhc40=>have hc40:=dF hc40;have hi2:g=n+1:=zo;⟨(rf 0),(rf 0),(rf (some (B 0))),(rf 0),(rf (n+1:Nat)),(leS (mE (luS (n+1) D (n+1)).2.1 (n+1)) (n+1)),(rf (n+1:Nat)),(leS (mE ((luS (n+1) D (n+1)).1) (n+1)) (n+1)),(rf (n+1:Nat)),(leS (λi0=>iN ((luS (n+1) D (n+1)).2.2.1 i0)) (n+1)),(rf ((luS (n+1) D (n+1)).2.2.2.2:Bool)),(rf 0),(rf (n+1:Nat)),(leS (mE C (n+1)) (n+1)),(rf m),(leS (λi0=>.agg (c2 (iN ((e i0).1)) (vE (e i0).2 (n+1)))) m),zo,(λj0 hj0=>⟨rfl,(λj1 hj1=>rfl),zo⟩),(sBNewM (C:=C) (e:=e2) hn hD hok),(rf (cC C n:Hl)),(rf 3),(rf 0),(rf 0),rfl,(rf (some (B 0))),(rf 0),(rf (n+1:Nat)),(leS (mE (luS (n+1) D (n+1)).2.1 (n+1)) (n+1)),(rf (n+1:Nat)),(leS (mE ((luS (n+1) D (n+1)).1) (n+1)) (n+1)),(rf (n+1:Nat)),(leS (λi0=>iN ((luS (n+1) D (n+1)).2.2.1 i0)) (n+1)),(rf ((luS (n+1) D (n+1)).2.2.2.2:Bool)),(rf 0),(rf (n+1:Nat)),(leS (mE C (n+1)) (n+1)),(rf m),(leS (λi0=>.agg (c2 (iN ((e i0).1)) (vE (e i0).2 (n+1)))) m),(rf 0),(rf n),(leS (mE (luS n (trM C) n).2.1 n) n),(rf n),(leS (mE ((luS n (trM C) n).1) n) n),(rf n),(leS (λi0=>iN ((luS n (trM C) n).2.2.1 i0)) n),(rf ((luS n (trM C) n).2.2.2.2:Bool)),(rf 0),(rf n),(leS (mE C n) n),(rf 0),(leS (λi0=>.agg (c2 (iN ((e2 i0).1)) (vE (e2 i0).2 n))) 0)⟩⟩⟩)
theorem sBShrink_no{D C:Nat->Nat->Rat}{e:Etas}{n m:Nat}{r c:Int}(h:(n:Int)<=r):CallOKm Tryz.prog 45 [.one (bV 1 2 (luS n D n) n),cC C n,.one (eE e n m)] [.own 0 0,.ex (.int .i64 r),.ex (.int .i64 c)] (c2 (.ex (.pointer none)) (.ex (.iface 63 (.int .i64 1)))) [.one (bV 3 4 (luS n D n) n),.dead,.dead,cC C n,.one (eE e n m)]:=by
 exact zX (ch:=λB=>[.dec 32 true,.ret 3 [(0,.id 0),(3,.id 1),(4,.id 2)]]) hMix Tryz.func45 rfl zk zk zk (λB=>_/\_/\((!(decide ((r:Int)<0)))=true->((decide ((r:Int)<0))==false)=true)/\_/\((!(bif (decide ((r:Int)<0)) then true else(decide ((n:Int)<=r))))=true->((bif (decide ((r:Int)<0)) then true else(decide ((n:Int)<=r)))==false)=true)/\_/\_/\((!(bif (bif (decide ((r:Int)<0)) then true else(decide ((n:Int)<=r))) then true else(decide ((c:Int)<0))))=true->((bif (bif (decide ((r:Int)<0)) then true else(decide ((n:Int)<=r))) then true else(decide ((c:Int)<0)))==false)=true)/\((bif (bif (bif (decide ((r:Int)<0)) then true else(decide ((n:Int)<=r))) then true else(decide ((c:Int)<0))) then true else(decide ((n:Int)<=c)))=true)/\(((.pointer none:Value)=.pointer none)/\((.iface 63 (.int .i64 1):Value)=.iface 63 (.int .i64 1))/\_/\_/\_/\_/\_/\_/\_/\_/\_/\_/\_/\_/\_/\_)) (λB=>by kernel_rfl)
  (λB=>⟨(idB ((decide ((r:Int)<0))==false)),(idB ((decide ((r:Int)<0))==false)),zs,(idB ((bif (decide ((r:Int)<0)) then true else(decide ((n:Int)<=r)))==false)),zs,(idB ((bif (bif (decide ((r:Int)<0)) then true else(decide ((n:Int)<=r))) then true else(decide ((c:Int)<0)))==false)),(idB ((bif (bif (decide ((r:Int)<0)) then true else(decide ((n:Int)<=r))) then true else(decide ((c:Int)<0)))==false)),zs,(shr_no h),rfl,rfl,(rf (some (B 0))),(rf 0),(rf n),(leS (mE (luS n D n).2.1 n) n),(rf n),(leS (mE ((luS n D n).1) n) n),(rf n),(leS (λi0=>iN ((luS n D n).2.2.1 i0)) n),(rf ((luS n D n).2.2.2.2:Bool)),(rf 0),(rf n),(leS (mE C n) n),(rf m),(leS (λi0=>.agg (c2 (iN ((e i0).1)) (vE (e i0).2 n))) m)⟩)
end Go.Proofs.YtgighdoacajmfaaGreatDoor
