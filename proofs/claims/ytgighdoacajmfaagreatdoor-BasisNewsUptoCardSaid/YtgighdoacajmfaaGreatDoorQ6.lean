/- The parts SU2, SI, SRM, SR2, SX, SIR, SE2, Eta, Err, Err2, BA, BS, BF, BE, BN, BR, BP, BQ, BT, BG, BM, BW, BZ, Row, SO, SO2. -/
import Derived.Test.YtgighdoacajmfaaGreatDoorQ5
set_option maxRecDepth 100000
namespace Go.Proofs.YtgighdoacajmfaaGreatDoor
open Go.RowKit
abbrev lvE (S:LuS) (n:Nat):SV:=.agg (.cn (.sl 1 (mE S.2.1 n) n) (.cn (.sl 1 (mE S.1 n) n) (.cn (.sl 1 (λi0=>iN (S.2.2.1 i0)) n) (.cn (bX S.2.2.2.2) .nl))))
theorem not_dec{P:Prop} [Decidable P](h:(!decide P)=false):P:=by simpa using h
theorem ok_next{n g:Nat}{q:Nat->Nat->Rat}(h:luOK n q g)(hk:luK n (luS n q g) g<n):luOK n q (g+1):=λk hk2=>by
 by_cases e:k=g
 ·rw[e];exact hk
 ·exact h k zo
def jX (U:Nat->Nat->Rat):Nat->Rat
 | 0=>1
 | k+1=>jX U k*U k k
section
variable {L U:Nat->Nat->Rat} {d base z:Nat->Rat} {f:Nat->Rat->Rat} {n g h:Nat}
theorem pow_le6{k E T:Nat}(hk:k<=6)(h:64*E<=T):2^k*E<=T:=Nat.le_trans (Nat.mul_le_mul_right _ (Nat.pow_le_pow_right zd hk)) h
theorem fw_top(hL:∀k,k<n->∀c,c<n->htq (L k c)<=30000)(hd:∀k,k<n->htq (d k)<=30000)(hf:∀k x,k<n->htq (f k x)<=htq x+30000)(hn:n<=6):∀j,j<n->htq (fwS L d f base n j)<=5800000:=λj hj=>by
 have h1:=fw_ht (base:=base) (λk hk c hc=>hL k hk c zo) hd hf n (Nat.le_refl n) j hj
 have h2:=pow_le6 (k:=j) (E:=30000+2*30000+1) (T:=5800000) zo zd
 omega
theorem fwI_ht(hL:∀k,k<n->∀c,c<n->htq (L k c)<=30000)(hd:∀k,k<n->htq (d k)<=30000)(hf:∀k x,k<n->htq (f k x)<=htq x+30000)(hn:n<=6)(hg:g<n)(hh:h<=g){j:Nat}(hj:j<=g):htq (fwI L d f base g h j)<=5830100:=by
 have h0:=fw_ht (base:=base) (λk hk c hc=>hL k hk c zo) hd hf g zo
 unfold fwI
 split
 ·have h1:=par_ht (λc hc=>hL g hg c zo) (hd g hg) h hh λc hc=>h0 c zo
  have h2:=pow_le6 (k:=h) (E:=30000+2*30000+1) (T:=5800000) zo zd
  omega
 ·have h1:=h0 j zo
  have h2:=pow_le6 (k:=j) (E:=30000+2*30000+1) (T:=5800000) zo zd
  omega
theorem room_ms{a b r:Rat}{S:Nat}(ha:htq a<=S)(hb:htq b<=S)(hr:htq r<=S)(hS:S<=1073741824):szq r+szq b<=17179869184/\szq a+szq (r*b)<=17179869184:=ht_room2 ha hb hr hS
theorem fw_room(hL:∀k,k<n->∀c,c<n->htq (L k c)<=30000)(hd:∀k,k<n->htq (d k)<=30000)(hf:∀k x,k<n->htq (f k x)<=htq x+30000)(hn:n<=6)(hg:g<n)(hh:h<g):szq (L g h)+szq (fwI L d f base g h h)<=17179869184/\szq (fwI L d f base g h g)+szq (L g h*fwI L d f base g h h)<=17179869184:=
 room_ms (S:=5830100) (fwI_ht hL hd hf hn hg zo (Nat.le_refl g)) (fwI_ht hL hd hf hn hg zo zo) (Nat.le_trans (hL g hg h zo) zd) zd
theorem fw_div(hL:∀k,k<n->∀c,c<n->htq (L k c)<=30000)(hd:∀k,k<n->htq (d k)<=30000)(hf:∀k x,k<n->htq (f k x)<=htq x+30000)(hn:n<=6)(hg:g<n)(hh:h<=g){u:Rat}(hu:htq u<=30000):szq (fwI L d f base g h g)+szq u+1<=17179869184:=by
 have h1:=fwI_ht (base:=base) hL hd hf hn hg hh (Nat.le_refl g)
 have:=jB (fwI L d f base g h g)
 have:=jB u
 omega
theorem bwI_ht(hU:∀k,k<n->∀c,c<n->htq (U k c)<=30000)(hz:∀j,j<n->htq (z j)<=5800000)(hf:∀k x,k<n->htq (f k x)<=htq x+30000)(hn:n<=6)(hg:g<n)(hh:h<=g){j:Nat}(hj:j<n)(hj2:n-1-g<=j):htq (bwI U z f n g h j)<=382000000:=by
 have h0:=bw_ht hU hz hf g zo
 unfold bwI
 split
 ·have h1:=bwP_ht (U:=U) (n:=n) (k:=n-1-g) (g:=g) (x:=bwS U z f n g) (t:=z (n-1-g)) (E:=5800000+2*30000+1) (hU _ zo) (hz _ zo) zo h hh λc hc=>by
   have:=h0 (g-1-c) zo
   rwa [show n-1-(g-1-c)=n-1-g+1+c by omega] at this
  have h2:=pow_le6 (k:=g) (E:=5800000+2*30000+1) (T:=376000000) zo zd
  omega
 ·have h1:=h0 (n-1-j) zo
  rw[show n-1-(n-1-j)=j by omega] at h1
  have h2:=pow_le6 (k:=n-1-j) (E:=5800000+2*30000+1) (T:=376000000) zo zd
  omega
theorem bw_room(hU:∀k,k<n->∀c,c<n->htq (U k c)<=30000)(hz:∀j,j<n->htq (z j)<=5800000)(hf:∀k x,k<n->htq (f k x)<=htq x+30000)(hn:n<=6)(hg:g<n)(hh:h<g):szq (U (n-1-g) (n-1-g+1+h))+szq (bwI U z f n g h (n-1-g+1+h))<=17179869184/\szq (bwI U z f n g h (n-1-g))+szq (U (n-1-g) (n-1-g+1+h)*bwI U z f n g h (n-1-g+1+h))<=17179869184:=
 room_ms (S:=382000000) (bwI_ht hU hz hf hn hg zo zo (Nat.le_refl _)) (bwI_ht hU hz hf hn hg zo zo zo) (Nat.le_trans (hU _ zo _ zo) zd) zd
theorem bw_div(hU:∀k,k<n->∀c,c<n->htq (U k c)<=30000)(hz:∀j,j<n->htq (z j)<=5800000)(hf:∀k x,k<n->htq (f k x)<=htq x+30000)(hn:n<=6)(hg:g<n)(hh:h<=g):szq (bwI U z f n g h (n-1-g))+szq (U (n-1-g) (n-1-g))+1<=17179869184:=by
 have h1:=bwI_ht hU hz hf hn hg hh (j:=n-1-g) zo (Nat.le_refl _)
 have h2:=hU (n-1-g) zo (n-1-g) zo
 have:=jB (bwI U z f n g h (n-1-g))
 have:=jB (U (n-1-g) (n-1-g))
 omega
end
def yP (ρ:Nat->Nat) (w:Nat->Rat) (g j:Nat):Rat:=if ρ j<g then w (ρ j) else 0
theorem yP_zero{ρ:Nat->Nat}{w:Nat->Rat}{j:Nat}:yP ρ w 0 j=0:=if_neg (Nat.not_lt_zero _)
theorem yP_all{ρ:Nat->Nat}{w:Nat->Rat}{n j:Nat}(h:ρ j<n):yP ρ w n j=w (ρ j):=if_pos h
theorem yP_at{n g:Nat}{P ρ:Nat->Nat}{w:Nat->Rat}(H:Bij n P ρ):w g=yP ρ w (g+1) (P g):=by
 unfold yP;rw[H.inv,if_pos (Nat.lt_succ_self g)]
theorem yP_ne{n g j:Nat}{P ρ:Nat->Nat}{w:Nat->Rat}(H:Bij n P ρ)(h:j≠P g):yP ρ w (g+1) j=yP ρ w g j:=by
 have:ρ j≠g:=λe=>h (by rw[←e,H.inv'])
 unfold yP
 by_cases k:ρ j<g
 ·rw[if_pos k,if_pos zo]
 ·rw[if_neg k,if_neg zo]
theorem sLuStepNo{U L:Nat->Nat->Rat}{P ρ:Nat->Nat}{o:Bool}{n c:Nat}(hn:n<=68719476736)(hc:c<n)(hk:¬luK n (U,L,P,ρ,o) c<n):CallOKm Tryz.prog 118 [.one (.var 147 (.agg (.cn (.own 1 0) (c3 (.own 2 0) (.own 3 0) (bX o))))),.one (.row 33 1 (λi0=>.own 4 (P i0)) n),cC U n,.one (.row 3 1 (λi0=>iN (P i0)) n),.fam n (λi0=>.row 47 3 (λi1=>.rat (L (ρ i0) i1)) n)] [.own 0 0,iN c] (bX false) [.one (.var 147 (.agg (.cn (.own 5 0) (c3 (.own 6 0) (.own 7 0) (bX o))))),.dead,.dead,.dead,.dead,.one (.row 33 1 (λi0=>.own 8 (P i0)) n),cC U n,.one (.row 3 1 (λi0=>iN (P i0)) n),.fam n (λi0=>.row 47 3 (λi1=>.rat (L (ρ i0) i1)) n)]:=by
 exact yR (ch:=λB=>[.loop 2 (Nat) (λg=>c<=g/\g<=n/\zG U c c (n-c)=zG U c g (n-g)) (λg=>n-g) (λg=>⟨[(0,.own 0 0),(1,iN c),(5,iN g)],[(0,.one (.var 147 (.agg (.cn (.own 1 0) (c3 (.own 2 0) (.own 3 0) (bX o)))) (some (B 0)))),(1,.one (.row 33 1 (λi0=>.own 4 (P i0)) n)),(2,cC U n),(3,.one (.row 3 1 (λi0=>iN (P i0)) n)),(4,.fam n (λi0=>.row 47 3 (λi1=>.rat (L (ρ i0) i1)) n))],5⟩) [(0,.id 0),(1,.id 1),(2,.id 2),(3,.id 3),(4,.id 4)] (λ_=>[(0,.id 0),(1,.id 1),(2,.id 2),(3,.id 3),(4,.id 4)]) (λg=>[.reg 2 [(13,.k g),(16,.k c),(18,.callS (bX (decide (U g c=0))) [])],.reg 3 [(1,.z ((g+1:Nat):Int))],.dec 38 true,.ret 5 [(0,.id 0),(5,.id 1),(6,.id 2),(7,.id 3),(8,.id 4)]])]) hMix Tryz.func118 rfl zk zk zk (λB=>(((λX1 X2 X3 X4 X5 X6 X7 X8 X9 X10 X11 X12 X13:Prop=>∃g0:Nat,X1/\X2/\((c:Int)=(g0:Int))/\X3/\X4/\X5/\X6/\X7/\X8/\(∀j0,j0<n->((P j0:Nat)=(P j0)))/\X9/\X10/\X11/\X12/\X13/\(∀j0,j0<n->((n:Nat)=n)/\(∀j1,j1<n->((L (ρ j0) j1:Rat)=(L (ρ j0) j1))))/\(c<=g0/\g0<=n/\zG U c c (n-c)=zG U c g0 (n-g0))) _ _ _ _ _ _ _ _ _ _ _ _ _)/\∀g:Nat,(c<=g/\g<=n/\zG U c c (n-c)=zG U c g (n-g))->_/\_/\_/\_/\_/\(((decide ((g:Int)<(n:Int)))==true)=true->_)/\(((decide ((g:Int)<(n:Int)))==true)=true->g<n)/\_/\(((decide ((g:Int)<(n:Int)))==true)=true->g<n)/\_/\_/\(((decide ((g:Int)<(n:Int)))==true)=true->_)/\(((decide ((g:Int)<(n:Int)))==true)=true->c<n)/\_/\_/\(((decide ((g:Int)<(n:Int)))==true)=true->_)/\((decide ((g:Int)<(n:Int)))=true->((decide ((g:Int)<(n:Int)))==true)=true)/\(((bif (decide ((g:Int)<(n:Int))) then(decide (U g c=0)) else false)=true->(IntKind.wrap .i64 ((g:Int)+1)=(((g+1:Nat):Int)))/\((λX1 X2 X3 X4 X5 X6 X7 X8 X9 X10 X11 X12 X13:Prop=>∃g1:Nat,X1/\X2/\(((g+1:Nat):Int)=(g1:Int))/\X3/\X4/\X5/\X6/\X7/\X8/\(∀j0,j0<n->((P j0:Nat)=(P j0)))/\X9/\X10/\X11/\X12/\X13/\(∀j0,j0<n->((n:Nat)=n)/\(∀j1,j1<n->((L (ρ j0) j1:Rat)=(L (ρ j0) j1))))/\(c<=g1/\g1<=n/\zG U c c (n-c)=zG U c g1 (n-g1))/\(n-g1<n-g)) _ _ _ _ _ _ _ _ _ _ _ _ _))/\((bif (decide ((g:Int)<(n:Int))) then(decide (U g c=0)) else false)=false->((decide ((g:Int)=(n:Int)))=true)/\(_/\_/\_/\_/\_/\_/\_/\(∀j0,j0<n->((P j0:Nat)=(P j0)))/\_/\_/\_/\_/\_/\(∀j0,j0<n->((n:Nat)=n)/\(∀j1,j1<n->((L (ρ j0) j1:Rat)=(L (ρ j0) j1))))))))) (λB=>by kernel_rfl)
  (λB=>⟨⟨c,(rf 0),(rf (c:Int)),zo,(rf (some (B 0))),(rf 0),(rf 0),(rf 0),(rf (o:Bool)),(rf n),(λj0 hj0=>rfl),(rf n),(leS (mE U n) n),(rf n),(leS (λi0=>iN (P i0)) n),(rf n),(λj0 hj0=>⟨rfl,(λj1 hj1=>rfl)⟩),Nat.le_refl _,by omega,rfl⟩,λg hg0=>have hg1:=hg0.1;have hg2:=hg0.2.1;⟨(idB ((decide ((g:Int)<(n:Int)))==true)),(idB ((decide ((g:Int)<(n:Int)))==true)),(idB ((decide ((g:Int)<(n:Int)))==true)),(idB ((decide ((g:Int)<(n:Int)))==true)),(idB ((decide ((g:Int)<(n:Int)))==true)),(λhg=>(rf (g:Int))),(λhg=>(by have hg2:=of_guard hg;omega)),(idB ((decide ((g:Int)<(n:Int)))==true)),(λhg=>(by have hg2:=of_guard hg;omega)),(idB ((decide ((g:Int)<(n:Int)))==true)),(idB ((decide ((g:Int)<(n:Int)))==true)),(λhg=>(rf (c:Int))),(λhg=>zo),(idB ((decide ((g:Int)<(n:Int)))==true)),(idB ((decide ((g:Int)<(n:Int)))==true)),(λhg=>sRatZero (q:=U g c)),zs,λhc29=>have hz:=step_yes hc29;⟨(by rw[IntKind.wrap_i64];omega),g+1,(rf 0),(rf (c:Int)),zo,(rf (some (B 0))),(rf 0),(rf 0),(rf 0),(rf (o:Bool)),(rf n),(λj0 hj0=>rfl),(rf n),(leS (mE U n) n),(rf n),(leS (λi0=>iN (P i0)) n),(rf n),(λj0 hj0=>⟨rfl,(λj1 hj1=>rfl)⟩),⟨by omega,by omega,hg0.2.2.trans (leadK_step hz.1 hz.2)⟩,zo⟩,λhc29=>have hz:=step_no hg2 hc29;have hK:luK n (U,L,P,ρ,o) c=g:=step_K hg0.2.2 hz;have hgn:¬g<n:=(by rw[←hK];exact hk);⟨(by simp;omega),(rf (false:Bool)),(rf (some (B 0))),(rf 0),(rf 0),(rf 0),(rf (o:Bool)),(rf n),(λj0 hj0=>rfl),(rf n),(leS (mE U n) n),(rf n),(leS (λi0=>iN (P i0)) n),(rf n),(λj0 hj0=>⟨rfl,(λj1 hj1=>rfl)⟩)⟩⟩⟩)
def luT (n:Nat) (s:LuS) (c:Nat):LuS:=if luK n s c<n then zU n s c else s
theorem luT_yes{n:Nat}{s:LuS}{c:Nat}(h:luK n s c<n):luT n s c=zU n s c:=if_pos h
theorem sLuStepT{U L:Nat->Nat->Rat}{P ρ:Nat->Nat}{o:Bool}{n c:Nat}(hn:n<=68719476736)(hc:c<n)(hB:Bij n P ρ)(hH:HtB n n 100000000 U):CallOKm Tryz.prog 118 [.one (.var 147 (.agg (.cn (.own 1 0) (c3 (.own 2 0) (.own 3 0) (bX o))))),.one (.row 33 1 (λi0=>.own 4 (P i0)) n),cC U n,.one (.row 3 1 (λi0=>iN (P i0)) n),.fam n (λi0=>.row 47 3 (λi1=>.rat (L (ρ i0) i1)) n)] [.own 0 0,iN c] (bX (decide (luK n (U,L,P,ρ,o) c<n))) [.one (.var 147 (.agg (.cn (.own 5 0) (c3 (.own 6 0) (.own 7 0) (bX ((luT n (U,L,P,ρ,o) c).2.2.2.2)))))),.dead,.dead,.dead,.dead,.one (.row 33 1 (λi0=>.own 8 ((luT n (U,L,P,ρ,o) c).2.2.1 i0)) n),cC ((luT n (U,L,P,ρ,o) c).1) n,.one (.row 3 1 (λi0=>iN ((luT n (U,L,P,ρ,o) c).2.2.1 i0)) n),.fam n (λi0=>.row 47 3 (λi1=>.rat ((luT n (U,L,P,ρ,o) c).2.1 ((luT n (U,L,P,ρ,o) c).2.2.2.1 i0) i1)) n)]:=by
 by_cases h:luK n (U,L,P,ρ,o) c<n
 ·rw[decide_eq_true h,luT_yes h]
  exact sLuStep hn hc hB hH h
 ·rw[decide_eq_false h,show luT n (U,L,P,ρ,o) c=(U,L,P,ρ,o) from if_neg h]
  exact sLuStepNo hn hc h
theorem sLuFactor{q:Nat->Nat->Rat}{n:Nat}(hn:n<=64)(hH:∀c,c<=n->luOK n q c->HtB n n 100000000 (luS n q c).1)(hok:luOK n q n):CallOK Tryz.prog 86 [.agg (c2 (.sl 1 (mE q n) n) (iN n))] (c2 (.ep (lvE (luS n q n) n)) (bX true)) []:=by
 exact kP (ch:=[.reg 1 [(1,.callS (iN n) [])],.reg 2 [(2,.callS (iN n) [])],.dec 15 false,.loop 6 (Nat) (λg=>g<=n) (λg=>n-g) (λg=>⟨[(1,.own 0 0),(4,iN n),(5,.own 1 0),(18,iN n),(19,iN g)],[(0,.one (.var 53 (.agg (c2 (.sl 1 (mE q n) n) (iN n))))),(1,.one (.var 147 (.agg (.cn (.own 2 0) (c3 (.own 3 0) (.own 4 0) (bX false)))))),(2,.one (.row 33 1 (λi0=>.own 5 i0) g)),(3,.one (.row 33 1 (mE q n) g)),(4,.one (.row 3 1 (λi0=>iN i0) g)),(5,.fam g (λ_=>.row 47 3 (λ_=>.rat 0) n))],6⟩) [(0,.id 0),(1,.id 1),(2,.nil),(3,.nil),(4,.nil),(5,.emp)] (λg=>[(0,.id 0),(1,.id 1),(2,.id 8),(3,.id 6),(4,.id 9),(5,.put 5 g 7)]) (λg=>[.reg 8 [(2,.callS (c2 (.sl 3 (λi0=>.rat (q g i0)) n) (bX true)) [])],.reg 9 [(7,.row 0 (mE q n))],.reg 10 [(6,.row n (λ_=>.rat 0)),(8,.row 0 (λi0=>.own (if i0<g then 5 else 7) (if i0<g then i0 else 0)))],.reg 11 [(7,.row 0 (λi0=>iN i0))],.reg 12 [(0,.z ((g+1:Nat):Int))],.loop 14 (Nat) (λg=>g<=n) (λg=>n-g) (λg=>⟨[(5,.own 1 0),(60,iN n),(61,iN g)],[(0,.one (.var 53 (.agg (c2 (.sl 1 (mE q n) n) (iN n))))),(1,.one (.var 147 (.agg (.cn (.own 2 0) (c3 (.own 3 0) (.own 4 0) (bX ((luS n q g).2.2.2.2))))))),(2,.one (.row 33 1 (λi0=>.own 5 ((luS n q g).2.2.1 i0)) n)),(3,cC ((luS n q g).1) n),(4,.one (.row 3 1 (λi0=>iN ((luS n q g).2.2.1 i0)) n)),(5,.fam n (λi0=>.row 47 3 (λi1=>.rat ((luS n q g).2.1 ((luS n q g).2.2.2.1 i0) i1)) n))],6⟩) [(0,.id 0),(1,.id 1),(2,.id 2),(3,.id 3),(4,.id 4),(5,.id 5)] (λ_=>[(0,.id 0),(1,.id 1),(2,.id 6),(3,.id 7),(4,.id 8),(5,.id 9)]) (λg=>[.reg 16 [(2,.callM [1,2,3,4,5] [.one (.var 147 (.agg (.cn (.own 1 0) (c3 (.own 2 0) (.own 3 0) (bX ((luS n q g).2.2.2.2)))))),.one (.row 33 1 (λi0=>.own 4 ((luS n q g).2.2.1 i0)) n),cC ((luS n q g).1) n,.one (.row 3 1 (λi0=>iN ((luS n q g).2.2.1 i0)) n),.fam n (λi0=>.row 47 3 (λi1=>.rat ((luS n q g).2.1 ((luS n q g).2.2.2.1 i0) i1)) n)] [.own 0 0,iN g] (bX true) [.one (.var 147 (.agg (.cn (.own 5 0) (c3 (.own 6 0) (.own 7 0) (bX ((zU n (luS n q g) g).2.2.2.2)))))),.dead,.dead,.dead,.dead,.one (.row 33 1 (λi0=>.own 8 ((zU n (luS n q g) g).2.2.1 i0)) n),cC ((zU n (luS n q g) g).1) n,.one (.row 3 1 (λi0=>iN ((zU n (luS n q g) g).2.2.1 i0)) n),.fam n (λi0=>.row 47 3 (λi1=>.rat ((zU n (luS n q g) g).2.1 ((zU n (luS n q g) g).2.2.2.1 i0) i1)) n)])],.dec 67 false,.reg 18 [(0,.z ((g+1:Nat):Int))],.conv 19 [(1,.id 1)] ⟨[(5,.own 1 0)],[(1,.one (.var 147 (lvE (luS n q g) n)))],2⟩])])]) Tryz.func86 ((∀j0,j0<n->(∀j1,j1<n->True))/\_/\_/\((!decide ((n:Int)=(n:Int)))=false)/\(((λX1 X2 X3 X4 X5 X6 X7 X8 X9 X10 X11:Prop=>∃g0:Nat,X1/\X2/\X3/\X4/\((0:Int)=(g0:Int))/\X5/\X6/\X7/\X8/\X9/\X10/\X11/\((g0:Nat)=0)/\((g0:Nat)=0)/\((g0:Nat)=0)/\((g0:Nat)=0)/\(g0<=n)) _ _ _ _ _ _ _ _ _ _ _)/\∀g:Nat,(g<=n)->(((decide ((g:Int)<(n:Int)))=true->_/\(g+1<=68719476736)/\_/\_/\_/\_/\(n<=68719476736)/\(∀j0,j0<n->((0:Rat)=0))/\(g+1<=68719476736)/\(∀j0,j0<g->(.own (if j0<g then 5 else 7) (if j0<g then j0 else 0):SV)=.own 5 j0)/\(∀j0,j0<1->((7:Nat)=(if g+j0<g then 5 else 7))/\((0:Nat)=(if g+j0<g then g+j0 else 0)))/\(g+1<=68719476736)/\_/\_/\_/\((λX1 X2 X3 X4 X5 X6 X7 X8 X9 X10 X11 X12 X13 X14:Prop=>∃g1:Nat,X1/\X2/\X3/\X4/\(((g+1:Nat):Int)=(g1:Int))/\X5/\X6/\X7/\X8/\X9/\X10/\X11/\((g+1:Nat)=g1)/\(∀j0,j0<(g+1)->(((if j0<g then 5 else 7:Nat)=7/\(if j0<g then j0 else 0:Nat)=0/\(j0:Nat)=g)∨((if j0<g then 5 else 7:Nat)=5/\(if j0<g then j0 else 0:Nat)=j0/\(j0:Nat)≠g)))/\((g+1:Nat)=g1)/\X12/\((g+1:Nat)=g1)/\X13/\((g1:Nat)=g+1)/\X14/\(((n:Nat)=n)/\(∀j1,j1<n->((0:Rat)=0)))/\(∀j0,j0<g->((n:Nat)=n)/\(∀j1,j1<n->((0:Rat)=0)))/\(g1<=n)/\(n-g1<n-g)) _ _ _ _ _ _ _ _ _ _ _ _ _ _))/\((decide ((g:Int)<(n:Int)))=false->(((λX1 X2 X3 X4 X5 X6 X7 X8:Prop=>∃g0:Nat,X1/\X2/\((0:Int)=(g0:Int))/\X3/\X4/\X5/\X6/\X7/\X8/\((false:Bool)=((luS n q g0).2.2.2.2))/\((g:Nat)=n)/\(∀j0,j0<g->((j0:Nat)=((luS n q g0).2.2.1 j0)))/\((g:Nat)=n)/\(∀j0,j0<g->((n:Nat)=n)/\(∀j1,j1<n->((q j0 j1:Rat)=(((luS n q g0).1) j0 j1))))/\((g:Nat)=n)/\(∀j0,j0<g->((j0:Int)=(((luS n q g0).2.2.1 j0:Nat):Int)))/\((g:Nat)=n)/\(∀j0,j0<g->((n:Nat)=n)/\(∀j1,j1<n->((0:Rat)=((luS n q g0).2.1 ((luS n q g0).2.2.2.1 j0) j1))))/\(g0<=n)) _ _ _ _ _ _ _ _)/\∀g:Nat,(g<=n)->(((decide ((g:Int)<(n:Int)))=true->(CallOKm Tryz.prog 118 [.one (.var 147 (.agg (.cn (.own 1 0) (c3 (.own 2 0) (.own 3 0) (bX ((luS n q g).2.2.2.2)))))),.one (.row 33 1 (λi0=>.own 4 ((luS n q g).2.2.1 i0)) n),cC ((luS n q g).1) n,.one (.row 3 1 (λi0=>iN ((luS n q g).2.2.1 i0)) n),.fam n (λi0=>.row 47 3 (λi1=>.rat ((luS n q g).2.1 ((luS n q g).2.2.2.1 i0) i1)) n)] [.own 0 0,iN g] (bX true) [.one (.var 147 (.agg (.cn (.own 5 0) (c3 (.own 6 0) (.own 7 0) (bX ((zU n (luS n q g) g).2.2.2.2)))))),.dead,.dead,.dead,.dead,.one (.row 33 1 (λi0=>.own 8 ((zU n (luS n q g) g).2.2.1 i0)) n),cC ((zU n (luS n q g) g).1) n,.one (.row 3 1 (λi0=>iN ((zU n (luS n q g) g).2.2.1 i0)) n),.fam n (λi0=>.row 47 3 (λi1=>.rat ((zU n (luS n q g) g).2.1 ((zU n (luS n q g) g).2.2.2.1 i0) i1)) n)])/\_/\_/\_/\_/\_/\_/\_/\_/\((!true)=false)/\_/\((λX1 X2 X3 X4 X5 X6 X7 X8 X9 X10 X11 X12:Prop=>∃g1:Nat,X1/\X2/\(((g+1:Nat):Int)=(g1:Int))/\X3/\X4/\X5/\X6/\X7/\X8/\(((zU n (luS n q g) g).2.2.2.2:Bool)=((luS n q g1).2.2.2.2))/\X9/\(∀j0,j0<n->(((zU n (luS n q g) g).2.2.1 j0:Nat)=((luS n q g1).2.2.1 j0)))/\X10/\(∀j0,j0<n->((n:Nat)=n)/\(∀j1,j1<n->((((zU n (luS n q g) g).1) j0 j1:Rat)=(((luS n q g1).1) j0 j1))))/\X11/\(∀j0,j0<n->((((zU n (luS n q g) g).2.2.1 j0:Nat):Int)=(((luS n q g1).2.2.1 j0:Nat):Int)))/\X12/\(∀j0,j0<n->((n:Nat)=n)/\(∀j1,j1<n->(((zU n (luS n q g) g).2.1 ((zU n (luS n q g) g).2.2.2.1 j0) j1:Rat)=((luS n q g1).2.1 ((luS n q g1).2.2.2.1 j0) j1))))/\(g1<=n)/\(n-g1<n-g)) _ _ _ _ _ _ _ _ _ _ _ _))/\((decide ((g:Int)<(n:Int)))=false->_/\_/\(∀j0,j0<n->((n:Nat)=n)/\(∀j1,j1<n->(((luS n q g).2.1 ((luS n q g).2.2.2.1 ((luS n q g).2.2.1 j0)) j1:Rat)=((luS n q g).2.1 j0 j1)))/\(((luS n q g).2.2.1 j0)<n))/\_/\_/\_/\_/\_/\(_/\(∀j0,j0<n->((n:Nat)=n)/\(∀j1,j1<n->(((luS n q g).2.1 j0 j1:Rat)=((luS n q n).2.1 j0 j1))))/\_/\(∀j0,j0<n->((n:Nat)=n)/\(∀j1,j1<n->((((luS n q g).1) j0 j1:Rat)=(((luS n q n).1) j0 j1))))/\_/\(∀j0,j0<n->((((luS n q g).2.2.1 j0:Nat):Int)=(((luS n q n).2.2.1 j0:Nat):Int)))/\(((luS n q g).2.2.2.2:Bool)=((luS n q n).2.2.2.2))/\_))))))))
  ⟨(λ_ _=>(λ_ _=>trivial)),sMatRows (m:=n) (n:=n) (q:=q),sMatCols (m:=n) (n:=n) (q:=q),zs,⟨0,(rf 0),(rf (n:Int)),(rf 0),(rf (n:Int)),zo,(rf n),(leS (mE q n) n),(rf (n:Int)),(rf 0),(rf 0),(rf 0),(rf (false:Bool)),zo,zo,zo,zo,zo⟩,λg hg=>⟨λhc20=>have hc20:=dT hc20;⟨sMatRow (m:=n) (n:=n) (r:=g) (q:=q) zo zo,zo,(oldS (mE q n) g),(newS (mE q n) g),(rf (n:Int)),(rf (n:Int)),zo,(λj0 hj0=>rfl),zo,(λj0 hj0=>by rw[if_pos hj0,if_pos hj0]),(λj0 hj0=>⟨(by rw[if_neg zo]),(by rw[if_neg zo])⟩),zo,(oldS (λi0=>iN i0) g),(newS (λi0=>iN i0) g),(wI (g:=g) zo),g+1,(rf 0),(rf (n:Int)),(rf 0),(rf (n:Int)),zo,(rf n),(leS (mE q n) n),(rf (n:Int)),(rf 0),(rf 0),(rf 0),(rf (false:Bool)),zo,(λj0 hj0=>(by first | omega | (split<;>omega))),zo,(leS (mE q n) (g+1)),zo,(leS (λi0=>iN i0) (g+1)),zo,(rf g),⟨rfl,(λj1 hj1=>rfl)⟩,(λj0 hj0=>⟨rfl,(λj1 hj1=>rfl)⟩),zo,zo⟩,λhc20=>have hc20:=dF hc20;have hi2:g=n:=zo;⟨⟨0,(rf 0),(rf (n:Int)),zo,(rf n),(leS (mE q n) n),(rf (n:Int)),(rf 0),(rf 0),(rf 0),rfl,hi2,(λj0 hj0=>rfl),hi2,(λj0 hj0=>⟨rfl,(λj1 hj1=>rfl)⟩),hi2,(λj0 hj0=>rfl),hi2,(λj0 hj0=>⟨rfl,(λj1 hj1=>rfl)⟩),zo⟩,λg hg0=>have hg1:=hg0;⟨λhc62=>have hc62:=dT hc62;⟨sLuStep (U:=(luS n q g).1) (L:=(luS n q g).2.1) (P:=(luS n q g).2.2.1) (ρ:=(luS n q g).2.2.2.1) (o:=(luS n q g).2.2.2.2) zo zo (lu_bij g zo (λk hk=>hok k zo)) (hH g zo (λk hk=>hok k zo)) (hok g zo),(rf (.one (.var 147 (.agg (.cn (.own 2 0) (c3 (.own 3 0) (.own 4 0) (bX ((luS n q g).2.2.2.2)))))):Hl)),(rf (.one (.row 33 1 (λi0=>.own 5 ((luS n q g).2.2.1 i0)) n):Hl)),(rf (cC ((luS n q g).1) n:Hl)),(rf (.one (.row 3 1 (λi0=>iN ((luS n q g).2.2.1 i0)) n):Hl)),(rf (.fam n (λi0=>.row 47 3 (λi1=>.rat ((luS n q g).2.1 ((luS n q g).2.2.2.1 i0) i1)) n):Hl)),(rf 1),(rf 0),(rf (g:Int)),rfl,(wI (g:=g) zo),g+1,(rf 0),(rf (n:Int)),zo,(rf n),(leS (mE q n) n),(rf (n:Int)),(rf 0),(rf 0),(rf 0),rfl,(rf n),(λj0 hj0=>rfl),(rf n),(λj0 hj0=>⟨rfl,(λj1 hj1=>rfl)⟩),(rf n),(λj0 hj0=>rfl),(rf n),(λj0 hj0=>⟨rfl,(λj1 hj1=>rfl)⟩),zo,zo⟩,λhc62=>have hc62:=dF hc62;have hi3:g=n:=zo;⟨(rf 0),(rf n),(λj0 hj0=>⟨rfl,(λj1 hj1=>(by rw[(lu_bij g zo (λk hk=>hok k zo)).inv])),((lu_bij g zo (λk hk=>hok k zo)).lt j0 hj0)⟩),(rf n),(leS (mE ((luS n q g).1) n) n),(rf n),(leS (λi0=>iN ((luS n q g).2.2.1 i0)) n),(rf ((luS n q g).2.2.2.2:Bool)),(rf n),(λj0 hj0=>⟨rfl,(λj1 hj1=>(by rw[hi3]))⟩),(rf n),(λj0 hj0=>⟨rfl,(λj1 hj1=>(by rw[hi3]))⟩),(rf n),(λj0 hj0=>(by rw[hi3])),(by rw[hi3]),(rf (true:Bool))⟩⟩⟩⟩⟩
theorem sLuFactorSing{q:Nat->Nat->Rat}{n:Nat}(hn:n<=64)(hH:∀c,c<=n->luOK n q c->HtB n n 100000000 (luS n q c).1)(hno:¬luOK n q n):CallOK Tryz.prog 86 [.agg (c2 (.sl 1 (mE q n) n) (iN n))] (c2 (.ex (.pointer none)) (bX false)) []:=by
 exact kP (ch:=[.reg 1 [(1,.callS (iN n) [])],.reg 2 [(2,.callS (iN n) [])],.dec 15 false,.loop 6 (Nat) (λg=>g<=n) (λg=>n-g) (λg=>⟨[(1,.own 0 0),(4,iN n),(5,.own 1 0),(18,iN n),(19,iN g)],[(0,.one (.var 53 (.agg (c2 (.sl 1 (mE q n) n) (iN n))))),(1,.one (.var 147 (.agg (.cn (.own 2 0) (c3 (.own 3 0) (.own 4 0) (bX false)))))),(2,.one (.row 33 1 (λi0=>.own 5 i0) g)),(3,.one (.row 33 1 (mE q n) g)),(4,.one (.row 3 1 (λi0=>iN i0) g)),(5,.fam g (λ_=>.row 47 3 (λ_=>.rat 0) n))],6⟩) [(0,.id 0),(1,.id 1),(2,.nil),(3,.nil),(4,.nil),(5,.emp)] (λg=>[(0,.id 0),(1,.id 1),(2,.id 8),(3,.id 6),(4,.id 9),(5,.put 5 g 7)]) (λg=>[.reg 8 [(2,.callS (c2 (.sl 3 (λi0=>.rat (q g i0)) n) (bX true)) [])],.reg 9 [(7,.row 0 (mE q n))],.reg 10 [(6,.row n (λ_=>.rat 0)),(8,.row 0 (λi0=>.own (if i0<g then 5 else 7) (if i0<g then i0 else 0)))],.reg 11 [(7,.row 0 (λi0=>iN i0))],.reg 12 [(0,.z ((g+1:Nat):Int))],.loop 14 (Nat) (λg=>g<=n/\luOK n q g) (λg=>n-g) (λg=>⟨[(5,.own 1 0),(60,iN n),(61,iN g)],[(0,.one (.var 53 (.agg (c2 (.sl 1 (mE q n) n) (iN n))))),(1,.one (.var 147 (.agg (.cn (.own 2 0) (c3 (.own 3 0) (.own 4 0) (bX ((luS n q g).2.2.2.2))))))),(2,.one (.row 33 1 (λi0=>.own 5 ((luS n q g).2.2.1 i0)) n)),(3,cC ((luS n q g).1) n),(4,.one (.row 3 1 (λi0=>iN ((luS n q g).2.2.1 i0)) n)),(5,.fam n (λi0=>.row 47 3 (λi1=>.rat ((luS n q g).2.1 ((luS n q g).2.2.2.1 i0) i1)) n))],6⟩) [(0,.id 0),(1,.id 1),(2,.id 2),(3,.id 3),(4,.id 4),(5,.id 5)] (λ_=>[(0,.id 0),(1,.id 1),(2,.id 6),(3,.id 7),(4,.id 8),(5,.id 9)]) (λg=>[.reg 16 [(2,.callM [1,2,3,4,5] [.one (.var 147 (.agg (.cn (.own 1 0) (c3 (.own 2 0) (.own 3 0) (bX ((luS n q g).2.2.2.2)))))),.one (.row 33 1 (λi0=>.own 4 ((luS n q g).2.2.1 i0)) n),cC ((luS n q g).1) n,.one (.row 3 1 (λi0=>iN ((luS n q g).2.2.1 i0)) n),.fam n (λi0=>.row 47 3 (λi1=>.rat ((luS n q g).2.1 ((luS n q g).2.2.2.1 i0) i1)) n)] [.own 0 0,iN g] (bX (decide (luK n (luS n q g) g<n))) [.one (.var 147 (.agg (.cn (.own 5 0) (c3 (.own 6 0) (.own 7 0) (bX ((luT n (luS n q g) g).2.2.2.2)))))),.dead,.dead,.dead,.dead,.one (.row 33 1 (λi0=>.own 8 ((luT n (luS n q g) g).2.2.1 i0)) n),cC ((luT n (luS n q g) g).1) n,.one (.row 3 1 (λi0=>iN ((luT n (luS n q g) g).2.2.1 i0)) n),.fam n (λi0=>.row 47 3 (λi1=>.rat ((luT n (luS n q g) g).2.1 ((luT n (luS n q g) g).2.2.2.1 i0) i1)) n)])],.reg 18 [(0,.z ((g+1:Nat):Int))]])])]) Tryz.func86 ((∀j0,j0<n->(∀j1,j1<n->True))/\_/\_/\((!decide ((n:Int)=(n:Int)))=false)/\(((λX1 X2 X3 X4 X5 X6 X7 X8 X9 X10 X11:Prop=>∃g0:Nat,X1/\X2/\X3/\X4/\((0:Int)=(g0:Int))/\X5/\X6/\X7/\X8/\X9/\X10/\X11/\((g0:Nat)=0)/\((g0:Nat)=0)/\((g0:Nat)=0)/\((g0:Nat)=0)/\(g0<=n)) _ _ _ _ _ _ _ _ _ _ _)/\∀g:Nat,(g<=n)->(((decide ((g:Int)<(n:Int)))=true->_/\(g+1<=68719476736)/\_/\_/\_/\_/\(n<=68719476736)/\(∀j0,j0<n->((0:Rat)=0))/\(g+1<=68719476736)/\(∀j0,j0<g->(.own (if j0<g then 5 else 7) (if j0<g then j0 else 0):SV)=.own 5 j0)/\(∀j0,j0<1->((7:Nat)=(if g+j0<g then 5 else 7))/\((0:Nat)=(if g+j0<g then g+j0 else 0)))/\(g+1<=68719476736)/\_/\_/\_/\((λX1 X2 X3 X4 X5 X6 X7 X8 X9 X10 X11 X12 X13 X14:Prop=>∃g1:Nat,X1/\X2/\X3/\X4/\(((g+1:Nat):Int)=(g1:Int))/\X5/\X6/\X7/\X8/\X9/\X10/\X11/\((g+1:Nat)=g1)/\(∀j0,j0<(g+1)->(((if j0<g then 5 else 7:Nat)=7/\(if j0<g then j0 else 0:Nat)=0/\(j0:Nat)=g)∨((if j0<g then 5 else 7:Nat)=5/\(if j0<g then j0 else 0:Nat)=j0/\(j0:Nat)≠g)))/\((g+1:Nat)=g1)/\X12/\((g+1:Nat)=g1)/\X13/\((g1:Nat)=g+1)/\X14/\(((n:Nat)=n)/\(∀j1,j1<n->((0:Rat)=0)))/\(∀j0,j0<g->((n:Nat)=n)/\(∀j1,j1<n->((0:Rat)=0)))/\(g1<=n)/\(n-g1<n-g)) _ _ _ _ _ _ _ _ _ _ _ _ _ _))/\((decide ((g:Int)<(n:Int)))=false->(((λX1 X2 X3 X4 X5 X6 X7 X8:Prop=>∃g0:Nat,X1/\X2/\((0:Int)=(g0:Int))/\X3/\X4/\X5/\X6/\X7/\X8/\((false:Bool)=((luS n q g0).2.2.2.2))/\((g:Nat)=n)/\(∀j0,j0<g->((j0:Nat)=((luS n q g0).2.2.1 j0)))/\((g:Nat)=n)/\(∀j0,j0<g->((n:Nat)=n)/\(∀j1,j1<n->((q j0 j1:Rat)=(((luS n q g0).1) j0 j1))))/\((g:Nat)=n)/\(∀j0,j0<g->((j0:Int)=(((luS n q g0).2.2.1 j0:Nat):Int)))/\((g:Nat)=n)/\(∀j0,j0<g->((n:Nat)=n)/\(∀j1,j1<n->((0:Rat)=((luS n q g0).2.1 ((luS n q g0).2.2.2.1 j0) j1))))/\(g0<=n/\luOK n q g0)) _ _ _ _ _ _ _ _)/\∀g:Nat,(g<=n/\luOK n q g)->(((decide ((g:Int)<(n:Int)))=true->(CallOKm Tryz.prog 118 [.one (.var 147 (.agg (.cn (.own 1 0) (c3 (.own 2 0) (.own 3 0) (bX ((luS n q g).2.2.2.2)))))),.one (.row 33 1 (λi0=>.own 4 ((luS n q g).2.2.1 i0)) n),cC ((luS n q g).1) n,.one (.row 3 1 (λi0=>iN ((luS n q g).2.2.1 i0)) n),.fam n (λi0=>.row 47 3 (λi1=>.rat ((luS n q g).2.1 ((luS n q g).2.2.2.1 i0) i1)) n)] [.own 0 0,iN g] (bX (decide (luK n (luS n q g) g<n))) [.one (.var 147 (.agg (.cn (.own 5 0) (c3 (.own 6 0) (.own 7 0) (bX ((luT n (luS n q g) g).2.2.2.2)))))),.dead,.dead,.dead,.dead,.one (.row 33 1 (λi0=>.own 8 ((luT n (luS n q g) g).2.2.1 i0)) n),cC ((luT n (luS n q g) g).1) n,.one (.row 3 1 (λi0=>iN ((luT n (luS n q g) g).2.2.1 i0)) n),.fam n (λi0=>.row 47 3 (λi1=>.rat ((luT n (luS n q g) g).2.1 ((luT n (luS n q g) g).2.2.2.1 i0) i1)) n)])/\_/\_/\_/\_/\_/\_/\_/\_/\(((!(decide (luK n (luS n q g) g<n)))=true->(((.pointer none:Value)=.pointer none)/\_))/\((!(decide (luK n (luS n q g) g<n)))=false->_/\((λX1 X2 X3 X4 X5 X6 X7 X8 X9 X10 X11 X12:Prop=>∃g1:Nat,X1/\X2/\(((g+1:Nat):Int)=(g1:Int))/\X3/\X4/\X5/\X6/\X7/\X8/\(((luT n (luS n q g) g).2.2.2.2:Bool)=((luS n q g1).2.2.2.2))/\X9/\(∀j0,j0<n->(((luT n (luS n q g) g).2.2.1 j0:Nat)=((luS n q g1).2.2.1 j0)))/\X10/\(∀j0,j0<n->((n:Nat)=n)/\(∀j1,j1<n->((((luT n (luS n q g) g).1) j0 j1:Rat)=(((luS n q g1).1) j0 j1))))/\X11/\(∀j0,j0<n->((((luT n (luS n q g) g).2.2.1 j0:Nat):Int)=(((luS n q g1).2.2.1 j0:Nat):Int)))/\X12/\(∀j0,j0<n->((n:Nat)=n)/\(∀j1,j1<n->(((luT n (luS n q g) g).2.1 ((luT n (luS n q g) g).2.2.2.1 j0) j1:Rat)=((luS n q g1).2.1 ((luS n q g1).2.2.2.1 j0) j1))))/\(g1<=n/\luOK n q g1)/\(n-g1<n-g)) _ _ _ _ _ _ _ _ _ _ _ _))))/\((decide ((g:Int)<(n:Int)))=false->((False)/\((true:Bool)=false)))))))))
  ⟨(λ_ _=>(λ_ _=>trivial)),sMatRows (m:=n) (n:=n) (q:=q),sMatCols (m:=n) (n:=n) (q:=q),zs,⟨0,(rf 0),(rf (n:Int)),(rf 0),(rf (n:Int)),zo,(rf n),(leS (mE q n) n),(rf (n:Int)),(rf 0),(rf 0),(rf 0),(rf (false:Bool)),zo,zo,zo,zo,zo⟩,λg hg=>⟨λhc20=>have hc20:=dT hc20;⟨sMatRow (m:=n) (n:=n) (r:=g) (q:=q) zo zo,zo,(oldS (mE q n) g),(newS (mE q n) g),(rf (n:Int)),(rf (n:Int)),zo,(λj0 hj0=>rfl),zo,(λj0 hj0=>by rw[if_pos hj0,if_pos hj0]),(λj0 hj0=>⟨(by rw[if_neg zo]),(by rw[if_neg zo])⟩),zo,(oldS (λi0=>iN i0) g),(newS (λi0=>iN i0) g),(wI (g:=g) zo),g+1,(rf 0),(rf (n:Int)),(rf 0),(rf (n:Int)),zo,(rf n),(leS (mE q n) n),(rf (n:Int)),(rf 0),(rf 0),(rf 0),(rf (false:Bool)),zo,(λj0 hj0=>(by first | omega | (split<;>omega))),zo,(leS (mE q n) (g+1)),zo,(leS (λi0=>iN i0) (g+1)),zo,(rf g),⟨rfl,(λj1 hj1=>rfl)⟩,(λj0 hj0=>⟨rfl,(λj1 hj1=>rfl)⟩),zo,zo⟩,λhc20=>have hc20:=dF hc20;have hi2:g=n:=zo;⟨⟨0,(rf 0),(rf (n:Int)),zo,(rf n),(leS (mE q n) n),(rf (n:Int)),(rf 0),(rf 0),(rf 0),rfl,hi2,(λj0 hj0=>rfl),hi2,(λj0 hj0=>⟨rfl,(λj1 hj1=>rfl)⟩),hi2,(λj0 hj0=>rfl),hi2,(λj0 hj0=>⟨rfl,(λj1 hj1=>rfl)⟩),Nat.zero_le _,λk hk=>absurd hk (Nat.not_lt_zero k)⟩,λg hg0=>have hg1:=hg0.1;⟨λhc62=>have hc62:=dT hc62;⟨sLuStepT (U:=(luS n q g).1) (L:=(luS n q g).2.1) (P:=(luS n q g).2.2.1) (ρ:=(luS n q g).2.2.2.1) (o:=(luS n q g).2.2.2.2) zo zo (lu_bij g zo hg0.2) (hH g zo hg0.2),(rf (.one (.var 147 (.agg (.cn (.own 2 0) (c3 (.own 3 0) (.own 4 0) (bX ((luS n q g).2.2.2.2)))))):Hl)),(rf (.one (.row 33 1 (λi0=>.own 5 ((luS n q g).2.2.1 i0)) n):Hl)),(rf (cC ((luS n q g).1) n:Hl)),(rf (.one (.row 3 1 (λi0=>iN ((luS n q g).2.2.1 i0)) n):Hl)),(rf (.fam n (λi0=>.row 47 3 (λi1=>.rat ((luS n q g).2.1 ((luS n q g).2.2.2.1 i0) i1)) n):Hl)),(rf 1),(rf 0),(rf (g:Int)),λhc67=>have hk0:=hc67;⟨rfl,(rf (false:Bool))⟩,λhc67=>have hk:luK n (luS n q g) g<n:=(not_dec hc67);⟨(wI (g:=g) zo),g+1,(rf 0),(rf (n:Int)),zo,(rf n),(leS (mE q n) n),(rf (n:Int)),(rf 0),(rf 0),(rf 0),(by rw[luT_yes hk];rfl),(rf n),(λj0 hj0=>(by rw[luT_yes hk];rfl)),(rf n),(λj0 hj0=>⟨rfl,(λj1 hj1=>(by rw[luT_yes hk];rfl))⟩),(rf n),(λj0 hj0=>(by rw[luT_yes hk];rfl)),(rf n),(λj0 hj0=>⟨rfl,(λj1 hj1=>(by rw[luT_yes hk];rfl))⟩),⟨by omega,ok_next hg0.2 hk⟩,zo⟩⟩,λhc62=>have hc62:=dF hc62;have hi3:g=n:=zo;have hx:False:=hno (by have:=hg0.2;rwa [hi3] at this);⟨hx.elim,hx.elim⟩⟩⟩⟩⟩
theorem sLuSolve{U L:Nat->Nat->Rat}{P:Nat->Nat}{o:Bool}{n:Nat}{b:Nat->Rat}(hn:n<=6)(hP:∀i,i<n->P i<n)(hL:∀k,k<n->∀c,c<n->htq (L k c)<=30000)(hU:∀k,k<n->∀c,c<n->htq (U k c)<=30000)(hb:∀k,k<n->htq (b k)<=30000):CallOK Tryz.prog 52 [.ep (.agg (.cn (.sl 1 (mE L n) n) (c3 (.sl 1 (mE U n) n) (.sl 1 (λi0=>iN (P i0)) n) (bX o)))),.sl 3 (λi0=>.rat (b i0)) n] (c2 (.own 0 0) (bX true)) [.one (.row 47 3 (λi0=>.rat (luX n U L (λi=>b (P i)) i0)) n)]:=by
 have hZ:∀j,j<n->htq (luZ n L (λi=>b (P i)) j)<=5800000:=fw_top hL (λk hk=>hb _ (hP k hk)) (λ_ x _=>Nat.le_add_right _ _) hn
 have hF:∀k x,k<n->htq ((λk x=>x/U k k) k x)<=htq x+30000:=λk x hk=>Nat.le_trans (ht_div _ _) (Nat.add_le_add_left (hU k hk k hk) _)
 exact kP (ch:=[.dec 20 false,.reg 4 [(1,.row n (λi0=>.rat (fwS L (λi=>b (P i)) (λ_ x=>x) (λ_=>0) 0 i0)))],.loop 6 (Nat) (λg=>g<=n) (λg=>n-g) (λg=>⟨[(0,.ep (.agg (.cn (.sl 1 (mE L n) n) (c3 (.sl 1 (mE U n) n) (.sl 1 (λi0=>iN (P i0)) n) (bX o))))),(1,.sl 3 (λi0=>.rat (b i0)) n),(6,iN n),(7,.own 0 0),(23,iN n),(24,iN g)],[(0,.one (.row 47 3 (λi0=>.rat (fwS L (λi=>b (P i)) (λ_ x=>x) (λ_=>0) g i0)) n))],1⟩) [(0,.id 0)] (λ_=>[(0,.id 0)]) (λg=>[.reg 8 [(8,.k g),(10,.k (P g)),(12,.k g),(13,.row 0 (λi0=>.rat (fwI L (λi=>b (P i)) (λ_ x=>x) (λ_=>0) g 0 i0)))],.loop 10 (Nat) (λh=>h<=g) (λh=>g-h) (λh=>⟨[(0,.ep (.agg (.cn (.sl 1 (mE L n) n) (c3 (.sl 1 (mE U n) n) (.sl 1 (λi0=>iN (P i0)) n) (bX o))))),(1,.sl 3 (λi0=>.rat (b i0)) n),(6,iN n),(7,.own 0 0),(8,iN g),(23,iN n),(24,iN g),(40,iN g),(41,iN h)],[(0,.one (.row 47 3 (λi0=>.rat (fwI L (λi=>b (P i)) (λ_ x=>x) (λ_=>0) g h i0)) n))],1⟩) [(0,.id 0)] (λ_=>[(0,.id 0)]) (λh=>[.reg 12 [(4,.k g),(11,.k g),(14,.k h),(18,.k h),(20,.callS (.rat ((L g h)*(fwI L (λi=>b (P i)) (λ_ x=>x) (λ_=>0) g h h))) []),(21,.callS (.rat ((fwI L (λi=>b (P i)) (λ_ x=>x) (λ_=>0) g h g)-((L g h)*(fwI L (λi=>b (P i)) (λ_ x=>x) (λ_=>0) g h h)))) []),(22,.k g),(23,.row 0 (λi0=>.rat (fwI L (λi=>b (P i)) (λ_ x=>x) (λ_=>0) g (h+1) i0)))],.reg 13 [(0,.z ((h+1:Nat):Int))],.reg 14 [(0,.z ((g+1:Nat):Int))]]),.reg 15 [(1,.z ((n:Int)-1-0))],.loop 16 (Nat) (λg=>g<=n) (λg=>n-g) (λg=>⟨[(0,.ep (.agg (.cn (.sl 1 (mE L n) n) (c3 (.sl 1 (mE U n) n) (.sl 1 (λi0=>iN (P i0)) n) (bX o))))),(1,.sl 3 (λi0=>.rat (b i0)) n),(6,iN n),(7,.own 0 0),(10,iZ ((n:Int)-1-(g:Int)))],[(0,.one (.row 47 3 (λi0=>.rat (bwS U (luZ n L (λi=>b (P i))) (λk x=>x/U k k) n g i0)) n))],1⟩) [(0,.id 0)] (λ_=>[(0,.id 0)]) (λg=>[.reg 18 [(1,.z (((n-1-g+1:Nat)):Int))],.loop 19 (Nat) (λh=>h<=g) (λh=>g-h) (λh=>⟨[(0,.ep (.agg (.cn (.sl 1 (mE L n) n) (c3 (.sl 1 (mE U n) n) (.sl 1 (λi0=>iN (P i0)) n) (bX o))))),(1,.sl 3 (λi0=>.rat (b i0)) n),(6,iN n),(7,.own 0 0),(10,iZ ((n:Int)-1-(g:Int))),(11,iN (n-1-g+1+h))],[(0,.one (.row 47 3 (λi0=>.rat (bwI U (luZ n L (λi=>b (P i))) (λk x=>x/U k k) n g h i0)) n))],1⟩) [(0,.id 0)] (λ_=>[(0,.id 0)]) (λh=>[.reg 21 [(4,.k (n-1-g)),(11,.k (n-1-g)),(14,.k (n-1-g+1+h)),(18,.k (n-1-g+1+h)),(20,.callS (.rat ((U (n-1-g) (n-1-g+1+h))*(bwI U (luZ n L (λi=>b (P i))) (λk x=>x/U k k) n g h (n-1-g+1+h)))) []),(21,.callS (.rat ((bwI U (luZ n L (λi=>b (P i))) (λk x=>x/U k k) n g h (n-1-g))-((U (n-1-g) (n-1-g+1+h))*(bwI U (luZ n L (λi=>b (P i))) (λk x=>x/U k k) n g h (n-1-g+1+h))))) []),(22,.k (n-1-g)),(23,.row 0 (λi0=>.rat (bwI U (luZ n L (λi=>b (P i))) (λk x=>x/U k k) n g (h+1) i0)))],.reg 20 [(1,.z ((n-1-g+1+(h+1):Nat):Int))],.reg 22 [(4,.k (n-1-g)),(11,.k (n-1-g)),(14,.k (n-1-g)),(16,.callS (c2 (.rat ((bwI U (luZ n L (λi=>b (P i))) (λk x=>x/U k k) n g h (n-1-g))/(U (n-1-g) (n-1-g)))) (bX (!decide ((U (n-1-g) (n-1-g))=0)))) []),(20,.k (n-1-g)),(21,.row 0 (λi0=>.rat (bwS U (luZ n L (λi=>b (P i))) (λk x=>x/U k k) n (g+1) i0)))],.reg 17 [(1,.z ((n:Int)-1-((g+1:Nat):Int)))]]),.ret 23 [(0,.id 0)]])])]) Tryz.func52 ((∀j0,j0<n->(∀j1,j1<n->True))/\(∀j0,j0<n->(∀j1,j1<n->True))/\(∀j0,j0<n->True)/\(∀j0,j0<n->True)/\((!decide ((n:Int)=(n:Int)))=false)/\_/\_/\(n<=68719476736)/\(∀j0,j0<n->((fwS L (λi=>b (P i)) (λ_ x=>x) (λ_=>0) 0 j0:Rat)=0))/\(((λX1 X2 X3 X4 X5 X6 X7 X8 X9 X10 X11 X12 X13:Prop=>∃g0:Nat,X1/\X2/\X3/\X4/\X5/\X6/\X7/\X8/\X9/\X10/\X11/\X12/\((0:Int)=(g0:Int))/\X13/\(∀j0,j0<n->((fwS L (λi=>b (P i)) (λ_ x=>x) (λ_=>0) 0 j0:Rat)=(fwS L (λi=>b (P i)) (λ_ x=>x) (λ_=>0) g0 j0)))/\(g0<=n)) _ _ _ _ _ _ _ _ _ _ _ _ _)/\∀g:Nat,(g<=n)->(((decide ((g:Int)<(n:Int)))=true->_/\(g<n)/\_/\((P g)<n)/\_/\(g<n)/\(g<n)/\(((b (P g):Rat)=(fwI L (λi=>b (P i)) (λ_ x=>x) (λ_=>0) g 0 g)))/\(∀t,t<n->t≠g->(.rat (fwI L (λi=>b (P i)) (λ_ x=>x) (λ_=>0) g 0 t):SV)=.rat (fwS L (λi=>b (P i)) (λ_ x=>x) (λ_=>0) g t))/\(((λX1 X2 X3 X4 X5 X6 X7 X8 X9 X10 X11 X12 X13 X14 X15 X16:Prop=>∃h0:Nat,X1/\X2/\X3/\X4/\X5/\X6/\X7/\X8/\X9/\X10/\X11/\X12/\X13/\X14/\X15/\((0:Int)=(h0:Int))/\X16/\(∀j0,j0<n->((fwI L (λi=>b (P i)) (λ_ x=>x) (λ_=>0) g 0 j0:Rat)=(fwI L (λi=>b (P i)) (λ_ x=>x) (λ_=>0) g h0 j0)))/\(h0<=g)) _ _ _ _ _ _ _ _ _ _ _ _ _ _ _ _)/\∀h:Nat,(h<=g)->(((decide ((h:Int)<(g:Int)))=true->_/\(g<n)/\(g<n)/\_/\(g<n)/\_/\(h<n)/\_/\(h<n)/\(h<n)/\_/\_/\_/\(g<n)/\(g<n)/\((((fwI L (λi=>b (P i)) (λ_ x=>x) (λ_=>0) g h g)-((L g h)*(fwI L (λi=>b (P i)) (λ_ x=>x) (λ_=>0) g h h)):Rat)=(fwI L (λi=>b (P i)) (λ_ x=>x) (λ_=>0) g (h+1) g)))/\(∀t,t<n->t≠g->(.rat (fwI L (λi=>b (P i)) (λ_ x=>x) (λ_=>0) g (h+1) t):SV)=.rat (fwI L (λi=>b (P i)) (λ_ x=>x) (λ_=>0) g h t))/\_/\((λX1 X2 X3 X4 X5 X6 X7 X8 X9 X10 X11 X12 X13 X14 X15 X16:Prop=>∃h1:Nat,X1/\X2/\X3/\X4/\X5/\X6/\X7/\X8/\X9/\X10/\X11/\X12/\X13/\X14/\X15/\(((h+1:Nat):Int)=(h1:Int))/\X16/\(∀j0,j0<n->((fwI L (λi=>b (P i)) (λ_ x=>x) (λ_=>0) g (h+1) j0:Rat)=(fwI L (λi=>b (P i)) (λ_ x=>x) (λ_=>0) g h1 j0)))/\(h1<=g)/\(g-h1<g-h)) _ _ _ _ _ _ _ _ _ _ _ _ _ _ _ _))/\((decide ((h:Int)<(g:Int)))=false->_/\((λX1 X2 X3 X4 X5 X6 X7 X8 X9 X10 X11 X12 X13:Prop=>∃g1:Nat,X1/\X2/\X3/\X4/\X5/\X6/\X7/\X8/\X9/\X10/\X11/\X12/\(((g+1:Nat):Int)=(g1:Int))/\X13/\(∀j0,j0<n->((fwI L (λi=>b (P i)) (λ_ x=>x) (λ_=>0) g h j0:Rat)=(fwS L (λi=>b (P i)) (λ_ x=>x) (λ_=>0) g1 j0)))/\(g1<=n)/\(n-g1<n-g)) _ _ _ _ _ _ _ _ _ _ _ _ _)))))/\((decide ((g:Int)<(n:Int)))=false->(IntKind.wrap .i64 ((n:Int)-1)=((n:Int)-1-0))/\(((λX1 X2 X3 X4 X5 X6 X7 X8 X9 X10 X11 X12:Prop=>∃g0:Nat,X1/\X2/\X3/\X4/\X5/\X6/\X7/\X8/\X9/\X10/\X11/\(((n:Int)-1-0:Int)=((n:Int)-1-(g0:Int)))/\X12/\(∀j0,j0<n->((fwS L (λi=>b (P i)) (λ_ x=>x) (λ_=>0) g j0:Rat)=(bwS U (luZ n L (λi=>b (P i))) (λk x=>x/U k k) n g0 j0)))/\(g0<=n)) _ _ _ _ _ _ _ _ _ _ _ _)/\∀g:Nat,(g<=n)->(((decide ((0:Int)<=((n:Int)-1-(g:Int))))=true->(IntKind.wrap .i64 (((n:Int)-1-(g:Int):Int)+1)=((((n-1-g+1:Nat)):Int)))/\(((λX1 X2 X3 X4 X5 X6 X7 X8 X9 X10 X11 X12 X13:Prop=>∃h0:Nat,X1/\X2/\X3/\X4/\X5/\X6/\X7/\X8/\X9/\X10/\X11/\X12/\((((n-1-g+1:Nat)):Int)=((n-1-g+1+h0:Nat):Int))/\X13/\(∀j0,j0<n->((bwS U (luZ n L (λi=>b (P i))) (λk x=>x/U k k) n g j0:Rat)=(bwI U (luZ n L (λi=>b (P i))) (λk x=>x/U k k) n g h0 j0)))/\(h0<=g)) _ _ _ _ _ _ _ _ _ _ _ _ _)/\∀h:Nat,(h<=g)->(((decide (((n-1-g+1+h:Nat):Int)<(n:Int)))=true->(((n:Int)-1-(g:Int):Int)=((n-1-g:Nat):Int))/\((n-1-g)<n)/\((n-1-g)<n)/\(((n:Int)-1-(g:Int):Int)=((n-1-g:Nat):Int))/\((n-1-g)<n)/\_/\((n-1-g+1+h)<n)/\_/\((n-1-g+1+h)<n)/\((n-1-g+1+h)<n)/\_/\_/\(((n:Int)-1-(g:Int):Int)=((n-1-g:Nat):Int))/\((n-1-g)<n)/\((n-1-g)<n)/\((((bwI U (luZ n L (λi=>b (P i))) (λk x=>x/U k k) n g h (n-1-g))-((U (n-1-g) (n-1-g+1+h))*(bwI U (luZ n L (λi=>b (P i))) (λk x=>x/U k k) n g h (n-1-g+1+h))):Rat)=(bwI U (luZ n L (λi=>b (P i))) (λk x=>x/U k k) n g (h+1) (n-1-g))))/\(∀t,t<n->t≠(n-1-g)->(.rat (bwI U (luZ n L (λi=>b (P i))) (λk x=>x/U k k) n g (h+1) t):SV)=.rat (bwI U (luZ n L (λi=>b (P i))) (λk x=>x/U k k) n g h t))/\(IntKind.wrap .i64 (((n-1-g+1+h:Nat):Int)+1)=(((n-1-g+1+(h+1):Nat):Int)))/\((λX1 X2 X3 X4 X5 X6 X7 X8 X9 X10 X11 X12 X13:Prop=>∃h1:Nat,X1/\X2/\X3/\X4/\X5/\X6/\X7/\X8/\X9/\X10/\X11/\X12/\(((n-1-g+1+(h+1):Nat):Int)=((n-1-g+1+h1:Nat):Int))/\X13/\(∀j0,j0<n->((bwI U (luZ n L (λi=>b (P i))) (λk x=>x/U k k) n g (h+1) j0:Rat)=(bwI U (luZ n L (λi=>b (P i))) (λk x=>x/U k k) n g h1 j0)))/\(h1<=g)/\(g-h1<g-h)) _ _ _ _ _ _ _ _ _ _ _ _ _))/\((decide (((n-1-g+1+h:Nat):Int)<(n:Int)))=false->(((n:Int)-1-(g:Int):Int)=((n-1-g:Nat):Int))/\((n-1-g)<n)/\((n-1-g)<n)/\(((n:Int)-1-(g:Int):Int)=((n-1-g:Nat):Int))/\((n-1-g)<n)/\(((n:Int)-1-(g:Int):Int)=((n-1-g:Nat):Int))/\((n-1-g)<n)/\_/\(((n:Int)-1-(g:Int):Int)=((n-1-g:Nat):Int))/\((n-1-g)<n)/\((n-1-g)<n)/\((((bwI U (luZ n L (λi=>b (P i))) (λk x=>x/U k k) n g h (n-1-g))/(U (n-1-g) (n-1-g)):Rat)=(bwS U (luZ n L (λi=>b (P i))) (λk x=>x/U k k) n (g+1) (n-1-g))))/\(∀t,t<n->t≠(n-1-g)->(.rat (bwS U (luZ n L (λi=>b (P i))) (λk x=>x/U k k) n (g+1) t):SV)=.rat (bwI U (luZ n L (λi=>b (P i))) (λk x=>x/U k k) n g h t))/\(IntKind.wrap .i64 (((n:Int)-1-(g:Int):Int)-1)=((n:Int)-1-((g+1:Nat):Int)))/\((λX1 X2 X3 X4 X5 X6 X7 X8 X9 X10 X11 X12:Prop=>∃g1:Nat,X1/\X2/\X3/\X4/\X5/\X6/\X7/\X8/\X9/\X10/\X11/\(((n:Int)-1-((g+1:Nat):Int):Int)=((n:Int)-1-(g1:Int)))/\X12/\(∀j0,j0<n->((bwS U (luZ n L (λi=>b (P i))) (λk x=>x/U k k) n (g+1) j0:Rat)=(bwS U (luZ n L (λi=>b (P i))) (λk x=>x/U k k) n g1 j0)))/\(g1<=n)/\(n-g1<n-g)) _ _ _ _ _ _ _ _ _ _ _ _)))))/\((decide ((0:Int)<=((n:Int)-1-(g:Int))))=false->(_/\_/\_/\(∀j0,j0<n->((bwS U (luZ n L (λi=>b (P i))) (λk x=>x/U k k) n g j0:Rat)=(luX n U L (λi=>b (P i)) j0)))))))))))
  ⟨(λ_ _=>(λ_ _=>trivial)),(λ_ _=>(λ_ _=>trivial)),(λ_ _=>trivial),(λ_ _=>trivial),zs,(rf (n:Int)),(rf (n:Int)),zo,(λj0 hj0=>rfl),⟨0,(rf n),(leS (mE L n) n),(rf n),(leS (mE U n) n),(rf n),(leS (λi0=>iN (P i0)) n),(rf (o:Bool)),(rf n),(leS (λi0=>.rat (b i0)) n),(rf (n:Int)),(rf 0),(rf (n:Int)),zo,(rf n),(λj0 hj0=>rfl),zo⟩,λg hg=>⟨λhc25=>have hc25:=dT hc25;have hgn:g<n:=zo;⟨(rf (g:Int)),zo,(rf (P g:Int)),(hP g zo),(rf (g:Int)),zo,zo,(fwI_put (d:=λi=>b (P i))),(λt ht hne=>by rw[fwI_zero hne]),⟨0,(rf n),(leS (mE L n) n),(rf n),(leS (mE U n) n),(rf n),(leS (λi0=>iN (P i0)) n),(rf (o:Bool)),(rf n),(leS (λi0=>.rat (b i0)) n),(rf (n:Int)),(rf 0),(rf (g:Int)),(rf (n:Int)),(rf (g:Int)),(rf (g:Int)),zo,(rf n),(λj0 hj0=>rfl),zo⟩,λh hh=>⟨λhc42=>have hc42:=dT hc42;have hr:=fw_room hL (λk hk=>hb _ (hP k hk)) (λ_ x _=>Nat.le_add_right _ _) hn hgn (show h<g by omega) (base:=λ_=>0);⟨(rf (g:Int)),zo,zo,(rf (g:Int)),zo,(rf (h:Int)),zo,(rf (h:Int)),zo,zo,uB (p:=L g h) (q:=fwI L (λi=>b (P i)) (λ_ x=>x) (λ_=>0) g h h) hr.1,sRatSub (p:=fwI L (λi=>b (P i)) (λ_ x=>x) (λ_=>0) g h g) (q:=(L g h)*(fwI L (λi=>b (P i)) (λ_ x=>x) (λ_=>0) g h h)) hr.2,(rf (g:Int)),zo,zo,(fwI_at zo),(λt ht hne=>by rw[fwI_ne hne]),(wI (g:=h) zo),h+1,(rf n),(leS (mE L n) n),(rf n),(leS (mE U n) n),(rf n),(leS (λi0=>iN (P i0)) n),(rf (o:Bool)),(rf n),(leS (λi0=>.rat (b i0)) n),(rf (n:Int)),(rf 0),(rf (g:Int)),(rf (n:Int)),(rf (g:Int)),(rf (g:Int)),zo,(rf n),(λj0 hj0=>rfl),zo,zo⟩,λhc42=>have hc42:=dF hc42;have hi3:h=g:=zo;⟨(wI (g:=g) zo),g+1,(rf n),(leS (mE L n) n),(rf n),(leS (mE U n) n),(rf n),(leS (λi0=>iN (P i0)) n),(rf (o:Bool)),(rf n),(leS (λi0=>.rat (b i0)) n),(rf (n:Int)),(rf 0),(rf (n:Int)),zo,(rf n),(λj0 hj0=>(by rw[hi3];exact fwI_all (λ_=>rfl))),zo,zo⟩⟩⟩,λhc25=>have hc25:=dF hc25;have hi2:g=n:=zo;⟨(by rw[IntKind.wrap_i64];omega),⟨0,(rf n),(leS (mE L n) n),(rf n),(leS (mE U n) n),(rf n),(leS (λi0=>iN (P i0)) n),(rf (o:Bool)),(rf n),(leS (λi0=>.rat (b i0)) n),(rf (n:Int)),(rf 0),zo,(rf n),(λj0 hj0=>(by rw[hi2];rfl)),zo⟩,λg hg=>⟨λhc72=>have hc72:=dT hc72;have hgn:g<n:=zo;⟨(by rw[IntKind.wrap_i64];omega),⟨0,(rf n),(leS (mE L n) n),(rf n),(leS (mE U n) n),(rf n),(leS (λi0=>iN (P i0)) n),(rf (o:Bool)),(rf n),(leS (λi0=>.rat (b i0)) n),(rf (n:Int)),(rf 0),(rf ((n:Int)-1-(g:Int):Int)),zo,(rf n),(λj0 hj0=>(bwI_start zo)),zo⟩,λh hh=>⟨λhc79=>have hc79:=dT hc79;have hhg:h<g:=zo;have hr:=bw_room hU hZ hF hn hgn hhg;⟨zo,zo,zo,zo,zo,(rf ((n-1-g+1+h:Nat):Int)),zo,(rf ((n-1-g+1+h:Nat):Int)),zo,zo,uB (p:=U (n-1-g) (n-1-g+1+h)) (q:=bwI U (luZ n L (λi=>b (P i))) (λk x=>x/U k k) n g h (n-1-g+1+h)) hr.1,sRatSub (p:=bwI U (luZ n L (λi=>b (P i))) (λk x=>x/U k k) n g h (n-1-g)) (q:=(U (n-1-g) (n-1-g+1+h))*(bwI U (luZ n L (λi=>b (P i))) (λk x=>x/U k k) n g h (n-1-g+1+h))) hr.2,zo,zo,zo,(bwI_at),(λt ht hne=>by rw[bwI_ne hne]),(by rw[IntKind.wrap_i64];omega),h+1,(rf n),(leS (mE L n) n),(rf n),(leS (mE U n) n),(rf n),(leS (λi0=>iN (P i0)) n),(rf (o:Bool)),(rf n),(leS (λi0=>.rat (b i0)) n),(rf (n:Int)),(rf 0),(rf ((n:Int)-1-(g:Int):Int)),zo,(rf n),(λj0 hj0=>rfl),zo,zo⟩,λhc79=>have hc79:=dF hc79;have hi4:h=g:=zo;have hq:=bw_div hU hZ hF hn hgn (Nat.le_of_eq hi4);⟨zo,zo,zo,zo,zo,zo,zo,sRatDiv (p:=bwI U (luZ n L (λi=>b (P i))) (λk x=>x/U k k) n g h (n-1-g)) (q:=U (n-1-g) (n-1-g)) hq,zo,zo,zo,(by rw[hi4];exact bwS_at (f:=λk x=>x/U k k)),(λt ht hne=>by rw[hi4,bwS_ne hne]),(by rw[IntKind.wrap_i64];omega),g+1,(rf n),(leS (mE L n) n),(rf n),(leS (mE U n) n),(rf n),(leS (λi0=>iN (P i0)) n),(rf (o:Bool)),(rf n),(leS (λi0=>.rat (b i0)) n),(rf (n:Int)),(rf 0),zo,(rf n),(λj0 hj0=>rfl),zo,zo⟩⟩⟩,λhc72=>have hc72:=dF hc72;have hi5:g=n:=zo;⟨(rf 0),(rf (true:Bool)),(rf n),(λj0 hj0=>(by rw[hi5];rfl))⟩⟩⟩⟩⟩
theorem sLuSolveT{U L:Nat->Nat->Rat}{P:Nat->Nat}{o:Bool}{ρ:Nat->Nat}{n:Nat}{b:Nat->Rat}(hn:n<=6)(hB:Bij n P ρ)(hL:∀k,k<n->∀c,c<n->htq (L k c)<=30000)(hU:∀k,k<n->∀c,c<n->htq (U k c)<=30000)(hb:∀k,k<n->htq (b k)<=30000):CallOK Tryz.prog 56 [.ep (.agg (.cn (.sl 1 (mE L n) n) (c3 (.sl 1 (mE U n) n) (.sl 1 (λi0=>iN (P i0)) n) (bX o)))),.sl 3 (λi0=>.rat (b i0)) n] (c2 (.own 0 0) (bX true)) [.one (.row 47 3 (λi0=>.rat (luW n U L b (ρ i0))) n)]:=by
 have hUT:∀k,k<n->∀c,c<n->htq (trM U k c)<=30000:=λk hk c hc=>hU c hc k hk
 have hLT:∀k,k<n->∀c,c<n->htq (trM L k c)<=30000:=λk hk c hc=>hL c hc k hk
 have hF:∀k x,k<n->htq ((λk x=>x/U k k) k x)<=htq x+30000:=λk x hk=>Nat.le_trans (ht_div _ _) (Nat.add_le_add_left (hU k hk k hk) _)
 have hZ:∀j,j<n->htq (luY n U b j)<=5800000:=fw_top hUT hb hF hn
 exact kP (ch:=[.dec 22 false,.reg 4 [(1,.callS (.own 0 0) [.one (.row 47 3 (λi0=>.rat (b i0)) n)])],.loop 6 (Nat) (λg=>g<=n) (λg=>n-g) (λg=>⟨[(0,.ep (.agg (.cn (.sl 1 (mE L n) n) (c3 (.sl 1 (mE U n) n) (.sl 1 (λi0=>iN (P i0)) n) (bX o))))),(6,iN n),(7,.own 0 0),(25,iN n),(26,iN g)],[(0,.one (.row 47 3 (λi0=>.rat (fwS (trM U) b (λk x=>x/U k k) b g i0)) n))],1⟩) [(0,.id 0)] (λ_=>[(0,.id 0)]) (λg=>[.loop 9 (Nat) (λh=>h<=g) (λh=>g-h) (λh=>⟨[(0,.ep (.agg (.cn (.sl 1 (mE L n) n) (c3 (.sl 1 (mE U n) n) (.sl 1 (λi0=>iN (P i0)) n) (bX o))))),(6,iN n),(7,.own 0 0),(8,iN g),(25,iN n),(26,iN g),(29,iN g),(30,iN h)],[(0,.one (.row 47 3 (λi0=>.rat (fwI (trM U) b (λk x=>x/U k k) b g h i0)) n))],1⟩) [(0,.id 0)] (λ_=>[(0,.id 0)]) (λh=>[.reg 11 [(4,.k g),(11,.k h),(14,.k g),(18,.k h),(20,.callS (.rat ((U h g)*(fwI (trM U) b (λk x=>x/U k k) b g h h))) []),(21,.callS (.rat ((fwI (trM U) b (λk x=>x/U k k) b g h g)-((U h g)*(fwI (trM U) b (λk x=>x/U k k) b g h h)))) []),(22,.k g),(23,.row 0 (λi0=>.rat (fwI (trM U) b (λk x=>x/U k k) b g (h+1) i0)))],.reg 12 [(0,.z ((h+1:Nat):Int))],.reg 13 [(4,.k g),(11,.k g),(14,.k g),(16,.callS (c2 (.rat ((fwI (trM U) b (λk x=>x/U k k) b g h g)/(U g g))) (bX (!decide ((U g g)=0)))) []),(20,.k g),(21,.row 0 (λi0=>.rat (fwS (trM U) b (λk x=>x/U k k) b (g+1) i0)))],.reg 14 [(0,.z ((g+1:Nat):Int))]]),.reg 15 [(1,.z ((n:Int)-1-0))],.loop 16 (Nat) (λg=>g<=n) (λg=>n-g) (λg=>⟨[(0,.ep (.agg (.cn (.sl 1 (mE L n) n) (c3 (.sl 1 (mE U n) n) (.sl 1 (λi0=>iN (P i0)) n) (bX o))))),(6,iN n),(7,.own 0 0),(10,iZ ((n:Int)-1-(g:Int)))],[(0,.one (.row 47 3 (λi0=>.rat (bwS (trM L) (luY n U b) (λ_ x=>x) n g i0)) n))],1⟩) [(0,.id 0)] (λ_=>[(0,.id 0)]) (λg=>[.reg 18 [(1,.z (((n-1-g+1:Nat)):Int))],.loop 19 (Nat) (λh=>h<=g) (λh=>g-h) (λh=>⟨[(0,.ep (.agg (.cn (.sl 1 (mE L n) n) (c3 (.sl 1 (mE U n) n) (.sl 1 (λi0=>iN (P i0)) n) (bX o))))),(6,iN n),(7,.own 0 0),(10,iZ ((n:Int)-1-(g:Int))),(11,iN (n-1-g+1+h))],[(0,.one (.row 47 3 (λi0=>.rat (bwI (trM L) (luY n U b) (λ_ x=>x) n g h i0)) n))],1⟩) [(0,.id 0)] (λ_=>[(0,.id 0)]) (λh=>[.reg 21 [(4,.k (n-1-g)),(11,.k (n-1-g+1+h)),(14,.k (n-1-g)),(18,.k (n-1-g+1+h)),(20,.callS (.rat ((L (n-1-g+1+h) (n-1-g))*(bwI (trM L) (luY n U b) (λ_ x=>x) n g h (n-1-g+1+h)))) []),(21,.callS (.rat ((bwI (trM L) (luY n U b) (λ_ x=>x) n g h (n-1-g))-((L (n-1-g+1+h) (n-1-g))*(bwI (trM L) (luY n U b) (λ_ x=>x) n g h (n-1-g+1+h))))) []),(22,.k (n-1-g)),(23,.row 0 (λi0=>.rat (bwI (trM L) (luY n U b) (λ_ x=>x) n g (h+1) i0)))],.reg 20 [(1,.z ((n-1-g+1+(h+1):Nat):Int))],.reg 17 [(1,.z ((n:Int)-1-((g+1:Nat):Int)))]]),.reg 22 [(1,.row n (λi0=>.rat (yP ρ (luW n U L b) 0 i0)))],.loop 24 (Nat) (λg=>g<=n) (λg=>n-g) (λg=>⟨[(0,.ep (.agg (.cn (.sl 1 (mE L n) n) (c3 (.sl 1 (mE U n) n) (.sl 1 (λi0=>iN (P i0)) n) (bX o))))),(6,iN n),(7,.own 0 0),(12,.own 1 0),(117,iN n),(118,iN g)],[(0,.one (.row 47 3 (λi0=>.rat (luW n U L b i0)) n)),(1,.one (.row 47 3 (λi0=>.rat (yP ρ (luW n U L b) g i0)) n))],2⟩) [(0,.id 0),(1,.id 1)] (λ_=>[(0,.id 0),(1,.id 1)]) (λg=>[.reg 26 [(6,.k g),(10,.k g),(12,.k (P g)),(13,.row 0 (λi0=>.rat (yP ρ (luW n U L b) (g+1) i0)))],.reg 27 [(0,.z ((g+1:Nat):Int))],.ret 28 [(0,.id 1)]])])])]) Tryz.func56 ((∀j0,j0<n->(∀j1,j1<n->True))/\(∀j0,j0<n->(∀j1,j1<n->True))/\(∀j0,j0<n->True)/\(∀j0,j0<n->True)/\((!decide ((n:Int)=(n:Int)))=false)/\_/\(((λX1 X2 X3 X4 X5 X6 X7 X8 X9 X10 X11:Prop=>∃g0:Nat,X1/\X2/\X3/\X4/\X5/\X6/\X7/\X8/\X9/\X10/\((0:Int)=(g0:Int))/\X11/\(∀j0,j0<n->((b j0:Rat)=(fwS (trM U) b (λk x=>x/U k k) b g0 j0)))/\(g0<=n)) _ _ _ _ _ _ _ _ _ _ _)/\∀g:Nat,(g<=n)->(((decide ((g:Int)<(n:Int)))=true->(((λX1 X2 X3 X4 X5 X6 X7 X8 X9 X10 X11 X12 X13 X14:Prop=>∃h0:Nat,X1/\X2/\X3/\X4/\X5/\X6/\X7/\X8/\X9/\X10/\X11/\X12/\X13/\((0:Int)=(h0:Int))/\X14/\(∀j0,j0<n->((fwS (trM U) b (λk x=>x/U k k) b g j0:Rat)=(fwI (trM U) b (λk x=>x/U k k) b g h0 j0)))/\(h0<=g)) _ _ _ _ _ _ _ _ _ _ _ _ _ _)/\∀h:Nat,(h<=g)->(((decide ((h:Int)<(g:Int)))=true->_/\(g<n)/\(g<n)/\_/\(h<n)/\_/\(g<n)/\_/\(h<n)/\(h<n)/\_/\_/\_/\(g<n)/\(g<n)/\((((fwI (trM U) b (λk x=>x/U k k) b g h g)-((U h g)*(fwI (trM U) b (λk x=>x/U k k) b g h h)):Rat)=(fwI (trM U) b (λk x=>x/U k k) b g (h+1) g)))/\(∀t,t<n->t≠g->(.rat (fwI (trM U) b (λk x=>x/U k k) b g (h+1) t):SV)=.rat (fwI (trM U) b (λk x=>x/U k k) b g h t))/\_/\((λX1 X2 X3 X4 X5 X6 X7 X8 X9 X10 X11 X12 X13 X14:Prop=>∃h1:Nat,X1/\X2/\X3/\X4/\X5/\X6/\X7/\X8/\X9/\X10/\X11/\X12/\X13/\(((h+1:Nat):Int)=(h1:Int))/\X14/\(∀j0,j0<n->((fwI (trM U) b (λk x=>x/U k k) b g (h+1) j0:Rat)=(fwI (trM U) b (λk x=>x/U k k) b g h1 j0)))/\(h1<=g)/\(g-h1<g-h)) _ _ _ _ _ _ _ _ _ _ _ _ _ _))/\((decide ((h:Int)<(g:Int)))=false->_/\(g<n)/\(g<n)/\_/\(g<n)/\_/\(g<n)/\_/\_/\(g<n)/\(g<n)/\((((fwI (trM U) b (λk x=>x/U k k) b g h g)/(U g g):Rat)=(fwS (trM U) b (λk x=>x/U k k) b (g+1) g)))/\(∀t,t<n->t≠g->(.rat (fwS (trM U) b (λk x=>x/U k k) b (g+1) t):SV)=.rat (fwI (trM U) b (λk x=>x/U k k) b g h t))/\_/\((λX1 X2 X3 X4 X5 X6 X7 X8 X9 X10 X11:Prop=>∃g1:Nat,X1/\X2/\X3/\X4/\X5/\X6/\X7/\X8/\X9/\X10/\(((g+1:Nat):Int)=(g1:Int))/\X11/\(∀j0,j0<n->((fwS (trM U) b (λk x=>x/U k k) b (g+1) j0:Rat)=(fwS (trM U) b (λk x=>x/U k k) b g1 j0)))/\(g1<=n)/\(n-g1<n-g)) _ _ _ _ _ _ _ _ _ _ _)))))/\((decide ((g:Int)<(n:Int)))=false->(IntKind.wrap .i64 ((n:Int)-1)=((n:Int)-1-0))/\(((λX1 X2 X3 X4 X5 X6 X7 X8 X9 X10:Prop=>∃g0:Nat,X1/\X2/\X3/\X4/\X5/\X6/\X7/\X8/\X9/\(((n:Int)-1-0:Int)=((n:Int)-1-(g0:Int)))/\X10/\(∀j0,j0<n->((fwS (trM U) b (λk x=>x/U k k) b g j0:Rat)=(bwS (trM L) (luY n U b) (λ_ x=>x) n g0 j0)))/\(g0<=n)) _ _ _ _ _ _ _ _ _ _)/\∀g:Nat,(g<=n)->(((decide ((0:Int)<=((n:Int)-1-(g:Int))))=true->(IntKind.wrap .i64 (((n:Int)-1-(g:Int):Int)+1)=((((n-1-g+1:Nat)):Int)))/\(((λX1 X2 X3 X4 X5 X6 X7 X8 X9 X10 X11:Prop=>∃h0:Nat,X1/\X2/\X3/\X4/\X5/\X6/\X7/\X8/\X9/\X10/\((((n-1-g+1:Nat)):Int)=((n-1-g+1+h0:Nat):Int))/\X11/\(∀j0,j0<n->((bwS (trM L) (luY n U b) (λ_ x=>x) n g j0:Rat)=(bwI (trM L) (luY n U b) (λ_ x=>x) n g h0 j0)))/\(h0<=g)) _ _ _ _ _ _ _ _ _ _ _)/\∀h:Nat,(h<=g)->(((decide (((n-1-g+1+h:Nat):Int)<(n:Int)))=true->(((n:Int)-1-(g:Int):Int)=((n-1-g:Nat):Int))/\((n-1-g)<n)/\((n-1-g)<n)/\_/\((n-1-g+1+h)<n)/\(((n:Int)-1-(g:Int):Int)=((n-1-g:Nat):Int))/\((n-1-g)<n)/\_/\((n-1-g+1+h)<n)/\((n-1-g+1+h)<n)/\_/\_/\(((n:Int)-1-(g:Int):Int)=((n-1-g:Nat):Int))/\((n-1-g)<n)/\((n-1-g)<n)/\((((bwI (trM L) (luY n U b) (λ_ x=>x) n g h (n-1-g))-((L (n-1-g+1+h) (n-1-g))*(bwI (trM L) (luY n U b) (λ_ x=>x) n g h (n-1-g+1+h))):Rat)=(bwI (trM L) (luY n U b) (λ_ x=>x) n g (h+1) (n-1-g))))/\(∀t,t<n->t≠(n-1-g)->(.rat (bwI (trM L) (luY n U b) (λ_ x=>x) n g (h+1) t):SV)=.rat (bwI (trM L) (luY n U b) (λ_ x=>x) n g h t))/\(IntKind.wrap .i64 (((n-1-g+1+h:Nat):Int)+1)=(((n-1-g+1+(h+1):Nat):Int)))/\((λX1 X2 X3 X4 X5 X6 X7 X8 X9 X10 X11:Prop=>∃h1:Nat,X1/\X2/\X3/\X4/\X5/\X6/\X7/\X8/\X9/\X10/\(((n-1-g+1+(h+1):Nat):Int)=((n-1-g+1+h1:Nat):Int))/\X11/\(∀j0,j0<n->((bwI (trM L) (luY n U b) (λ_ x=>x) n g (h+1) j0:Rat)=(bwI (trM L) (luY n U b) (λ_ x=>x) n g h1 j0)))/\(h1<=g)/\(g-h1<g-h)) _ _ _ _ _ _ _ _ _ _ _))/\((decide (((n-1-g+1+h:Nat):Int)<(n:Int)))=false->(IntKind.wrap .i64 (((n:Int)-1-(g:Int):Int)-1)=((n:Int)-1-((g+1:Nat):Int)))/\((λX1 X2 X3 X4 X5 X6 X7 X8 X9 X10:Prop=>∃g1:Nat,X1/\X2/\X3/\X4/\X5/\X6/\X7/\X8/\X9/\(((n:Int)-1-((g+1:Nat):Int):Int)=((n:Int)-1-(g1:Int)))/\X10/\(∀j0,j0<n->((bwI (trM L) (luY n U b) (λ_ x=>x) n g h j0:Rat)=(bwS (trM L) (luY n U b) (λ_ x=>x) n g1 j0)))/\(g1<=n)/\(n-g1<n-g)) _ _ _ _ _ _ _ _ _ _)))))/\((decide ((0:Int)<=((n:Int)-1-(g:Int))))=false->_/\_/\(n<=68719476736)/\(∀j0,j0<n->((yP ρ (luW n U L b) 0 j0:Rat)=0))/\(((λX1 X2 X3 X4 X5 X6 X7 X8 X9 X10 X11 X12 X13:Prop=>∃g0:Nat,X1/\X2/\X3/\X4/\X5/\X6/\X7/\X8/\X9/\X10/\X11/\((0:Int)=(g0:Int))/\X12/\(∀j0,j0<n->((bwS (trM L) (luY n U b) (λ_ x=>x) n g j0:Rat)=(luW n U L b j0)))/\X13/\(∀j0,j0<n->((yP ρ (luW n U L b) 0 j0:Rat)=(yP ρ (luW n U L b) g0 j0)))/\(g0<=n)) _ _ _ _ _ _ _ _ _ _ _ _ _)/\∀g:Nat,(g<=n)->(((decide ((g:Int)<(n:Int)))=true->_/\(g<n)/\_/\(g<n)/\(g<n)/\_/\((P g)<n)/\((P g)<n)/\(((luW n U L b g:Rat)=(yP ρ (luW n U L b) (g+1) (P g))))/\(∀t,t<n->t≠(P g)->(.rat (yP ρ (luW n U L b) (g+1) t):SV)=.rat (yP ρ (luW n U L b) g t))/\_/\((λX1 X2 X3 X4 X5 X6 X7 X8 X9 X10 X11 X12 X13 X14:Prop=>∃g1:Nat,X1/\X2/\X3/\X4/\X5/\X6/\X7/\X8/\X9/\X10/\X11/\(((g+1:Nat):Int)=(g1:Int))/\X12/\X13/\X14/\(∀j0,j0<n->((yP ρ (luW n U L b) (g+1) j0:Rat)=(yP ρ (luW n U L b) g1 j0)))/\(g1<=n)/\(n-g1<n-g)) _ _ _ _ _ _ _ _ _ _ _ _ _ _))/\((decide ((g:Int)<(n:Int)))=false->(_/\_/\_/\(∀j0,j0<n->((yP ρ (luW n U L b) g j0:Rat)=(luW n U L b (ρ j0)))))))))))))))
  ⟨(λ_ _=>(λ_ _=>trivial)),(λ_ _=>(λ_ _=>trivial)),(λ_ _=>trivial),(λ_ _=>trivial),zs,kZ (n:=n) (q:=b) zo,⟨0,(rf n),(leS (mE L n) n),(rf n),(leS (mE U n) n),(rf n),(leS (λi0=>iN (P i0)) n),(rf (o:Bool)),(rf (n:Int)),(rf 0),(rf (n:Int)),zo,(rf n),(λj0 hj0=>rfl),zo⟩,λg hg=>⟨λhc27=>have hc27:=dT hc27;have hgn:g<n:=zo;⟨⟨0,(rf n),(leS (mE L n) n),(rf n),(leS (mE U n) n),(rf n),(leS (λi0=>iN (P i0)) n),(rf (o:Bool)),(rf (n:Int)),(rf 0),(rf (g:Int)),(rf (n:Int)),(rf (g:Int)),(rf (g:Int)),zo,(rf n),(λj0 hj0=>(fwI_start rfl)),zo⟩,λh hh=>⟨λhc31=>have hc31:=dT hc31;have hr:=fw_room hUT hb hF hn hgn (show h<g by omega) (base:=b);⟨(rf (g:Int)),zo,zo,(rf (h:Int)),zo,(rf (g:Int)),zo,(rf (h:Int)),zo,zo,uB (p:=U h g) (q:=fwI (trM U) b (λk x=>x/U k k) b g h h) hr.1,sRatSub (p:=fwI (trM U) b (λk x=>x/U k k) b g h g) (q:=(U h g)*(fwI (trM U) b (λk x=>x/U k k) b g h h)) hr.2,(rf (g:Int)),zo,zo,(fwI_at (L:=trM U) zo),(λt ht hne=>by rw[fwI_ne hne]),(wI (g:=h) zo),h+1,(rf n),(leS (mE L n) n),(rf n),(leS (mE U n) n),(rf n),(leS (λi0=>iN (P i0)) n),(rf (o:Bool)),(rf (n:Int)),(rf 0),(rf (g:Int)),(rf (n:Int)),(rf (g:Int)),(rf (g:Int)),zo,(rf n),(λj0 hj0=>rfl),zo,zo⟩,λhc31=>have hc31:=dF hc31;have hi3:h=g:=zo;have hq:=fw_div hUT hb hF hn hgn (Nat.le_of_eq hi3) (hU g hgn g hgn) (base:=b);⟨(rf (g:Int)),zo,zo,(rf (g:Int)),zo,(rf (g:Int)),zo,sRatDiv (p:=fwI (trM U) b (λk x=>x/U k k) b g h g) (q:=U g g) hq,(rf (g:Int)),zo,zo,(by rw[hi3];exact fwS_at (f:=λk x=>x/U k k)),(λt ht hne=>by rw[hi3,fwS_ne hne]),(wI (g:=g) zo),g+1,(rf n),(leS (mE L n) n),(rf n),(leS (mE U n) n),(rf n),(leS (λi0=>iN (P i0)) n),(rf (o:Bool)),(rf (n:Int)),(rf 0),(rf (n:Int)),zo,(rf n),(λj0 hj0=>rfl),zo,zo⟩⟩⟩,λhc27=>have hc27:=dF hc27;have hi2:g=n:=zo;⟨(by rw[IntKind.wrap_i64];omega),⟨0,(rf n),(leS (mE L n) n),(rf n),(leS (mE U n) n),(rf n),(leS (λi0=>iN (P i0)) n),(rf (o:Bool)),(rf (n:Int)),(rf 0),zo,(rf n),(λj0 hj0=>(by rw[hi2];rfl)),zo⟩,λg hg=>⟨λhc82=>have hc82:=dT hc82;have hgn:g<n:=zo;⟨(by rw[IntKind.wrap_i64];omega),⟨0,(rf n),(leS (mE L n) n),(rf n),(leS (mE U n) n),(rf n),(leS (λi0=>iN (P i0)) n),(rf (o:Bool)),(rf (n:Int)),(rf 0),(rf ((n:Int)-1-(g:Int):Int)),zo,(rf n),(λj0 hj0=>(bwI_start zo)),zo⟩,λh hh=>⟨λhc89=>have hc89:=dT hc89;have hhg:h<g:=zo;have hr:=bw_room hLT hZ (λ_ x _=>Nat.le_add_right _ _) hn hgn hhg (f:=λ_ x=>x);⟨zo,zo,zo,(rf ((n-1-g+1+h:Nat):Int)),zo,zo,zo,(rf ((n-1-g+1+h:Nat):Int)),zo,zo,uB (p:=L (n-1-g+1+h) (n-1-g)) (q:=bwI (trM L) (luY n U b) (λ_ x=>x) n g h (n-1-g+1+h)) hr.1,sRatSub (p:=bwI (trM L) (luY n U b) (λ_ x=>x) n g h (n-1-g)) (q:=(L (n-1-g+1+h) (n-1-g))*(bwI (trM L) (luY n U b) (λ_ x=>x) n g h (n-1-g+1+h))) hr.2,zo,zo,zo,(bwI_at (U:=trM L)),(λt ht hne=>by rw[bwI_ne hne]),(by rw[IntKind.wrap_i64];omega),h+1,(rf n),(leS (mE L n) n),(rf n),(leS (mE U n) n),(rf n),(leS (λi0=>iN (P i0)) n),(rf (o:Bool)),(rf (n:Int)),(rf 0),(rf ((n:Int)-1-(g:Int):Int)),zo,(rf n),(λj0 hj0=>rfl),zo,zo⟩,λhc89=>have hc89:=dF hc89;have hi4:h=g:=zo;⟨(by rw[IntKind.wrap_i64];omega),g+1,(rf n),(leS (mE L n) n),(rf n),(leS (mE U n) n),(rf n),(leS (λi0=>iN (P i0)) n),(rf (o:Bool)),(rf (n:Int)),(rf 0),zo,(rf n),(λj0 hj0=>(by rw[hi4];exact bwI_all (λ_=>rfl))),zo,zo⟩⟩⟩,λhc82=>have hc82:=dF hc82;have hi5:g=n:=zo;⟨(rf (n:Int)),(rf (n:Int)),zo,(λj0 hj0=>(yP_zero)),⟨0,(rf n),(leS (mE L n) n),(rf n),(leS (mE U n) n),(rf n),(leS (λi0=>iN (P i0)) n),(rf (o:Bool)),(rf (n:Int)),(rf 0),(rf 0),(rf (n:Int)),zo,(rf n),(λj0 hj0=>(by rw[hi5];rfl)),(rf n),(λj0 hj0=>rfl),zo⟩,λg hg=>⟨λhc119=>have hc119:=dT hc119;⟨(rf (g:Int)),zo,(rf (g:Int)),zo,zo,(rf (P g:Int)),(hB.lt g zo),(hB.lt g zo),(yP_at hB),(λt ht hne=>by rw[yP_ne hB hne]),(wI (g:=g) zo),g+1,(rf n),(leS (mE L n) n),(rf n),(leS (mE U n) n),(rf n),(leS (λi0=>iN (P i0)) n),(rf (o:Bool)),(rf (n:Int)),(rf 0),(rf 0),(rf (n:Int)),zo,(rf n),(leS (λi0=>.rat (luW n U L b i0)) n),(rf n),(λj0 hj0=>rfl),zo,zo⟩,λhc119=>have hc119:=dF hc119;have hi6:g=n:=zo;⟨(rf 0),(rf (true:Bool)),(rf n),(λj0 hj0=>(by rw[hi6];exact yP_all (hB.lt' _ (by assumption))))⟩⟩⟩⟩⟩⟩⟩
open Go.RowKit
theorem lu_hH{n:Nat}{A:Nat->Nat->Rat}(h:HtB n n 3 A)(hn:n<=6):∀c,c<=n->luOK n A c->HtB n n 100000000 (luS n A c).1:=λc hc hok i hi j hj=>
 Nat.le_trans (lu_ht h c hc hok i hi j hj) (Nat.le_trans (Nat.mul_le_mul_left 3 (Nat.pow_le_pow_right (show 0<4 by decide) (show c<=6 by omega))) zd)
theorem lu_h3{n:Nat}{A:Nat->Nat->Rat}(h:HtB n n 3 A)(hn:n<=6)(c:Nat)(hc:c<=n)(hok:luOK n A c):HtB n n 12288 (luS n A c).1:=λi hi j hj=>
 Nat.le_trans (lu_ht h c hc hok i hi j hj) (Nat.le_trans (Nat.mul_le_mul_left 3 (Nat.pow_le_pow_right (show 0<4 by decide) (show c<=6 by omega))) zd)
theorem lu_hU{n:Nat}{A:Nat->Nat->Rat}(h:HtB n n 3 A)(hn:n<=6)(hok:luOK n A n):∀k,k<n->∀c,c<n->htq ((luS n A n).1 k c)<=30000:=λk hk c hc=>by
 have:=lu_h3 h hn n (Nat.le_refl n) hok k hk c hc
 omega
theorem lu_hL2{n:Nat}{A:Nat->Nat->Rat}(h:HtB n n 3 A)(hn:n<=6):∀c,c<=n->luOK n A c->∀i,i<n->∀j,j<n->htq ((luS n A c).2.1 i j)<=24576
 | 0,_,_=>λ_ _ _ _=>by show htq 0<=_;rw[ht_zero];omega
 | c+1,hc,hok=>λi hi j hj=>by
  have ih:=lu_hL2 h hn c zo λk hk=>hok k zo
  have hU:=lu_h3 h hn c zo λk hk=>hok k zo
  have hK:=hok c (Nat.lt_succ_self c)
  have hU2:=hU.swap (show c<n by omega) hK
  show htq (lowQ _ _ c n i j)<=_
  unfold lowQ
  split
  ·split
   ·rw[ht_one];omega
   ·have h1:=ht_div (zA (luS n A c).1 c (luK n (luS n A c) c) i c) (zA (luS n A c).1 c (luK n (luS n A c) c) c c)
    have h2:=hU2 i hi c zo
    have h3:=hU2 c zo c zo
    omega
  ·exact ih _ (sw_lt (show c<n by omega) hK hi) j hj
theorem lu_hL{n:Nat}{A:Nat->Nat->Rat}(h:HtB n n 3 A)(hn:n<=6)(hok:luOK n A n):∀k,k<n->∀c,c<n->htq ((luS n A n).2.1 k c)<=30000:=λk hk c hc=>by
 have:=lu_hL2 h hn n (Nat.le_refl n) hok k hk c hc
 omega
def nd (x:Nat):Nat:=(Wd.blen x+15)/16
open Go.RowKit
instance fzF:Fz:=⟨false,none⟩
instance fzT2:Fz:=⟨true,some (.iface 169 (.agg #[.pointer (some ⟨1,37,none⟩)]))⟩
open Go.RowKit
theorem sgn_par:∀n,sgn n=if n%2=1 then-1 else 1
 | 0=>rfl
 | n+1=>by
  show-sgn n=_
  rw[sgn_par n]
  by_cases h:n%2=1
  ·rw[if_pos h,if_neg zo];rfl
  ·rw[if_neg h,if_pos zo]
def dB (E:Nat):Nat->Nat
 | 0=>1
 | n+1=>(n+1)*(E+dB E n+2)+1
theorem ht_sgnm(n:Nat)(x:Rat):htq (sgn n*x)=htq x:=by
 rw[sgn_par]
 split
 ·rw[show(-1:Rat)*x=-x by grind,ht_neg]
 ·rw[show(1:Rat)*x=x by grind]
theorem det_ht{E:Nat}:∀n {q:Nat->Nat->Rat},(∀i,i<n->∀j,j<n->htq (q i j)<=E)->htq (det n q)<=dB E n/\∀g,g<=n->htq (sumQ (λc=>sgn c*q 0 c*det (n-1) (yB q 0 c)) g)<=dB E n
 | 0,q,_=>⟨by show htq 1<=1;rw[ht_one];omega,λg hg=>(by cases Nat.le_zero.1 hg;show htq 0<=1;rw[ht_zero];omega)⟩
 | n+1,q,h=>by
  have hs:∀g,g<=n+1->htq (sumQ (λc=>sgn c*q 0 c*det n (yB q 0 c)) g)<=g*(E+dB E n+2)+1:=by
   intro g
   induction g with
   | zero=>intro _;show htq 0<=_;rw[ht_zero];omega
   | succ g ih=>
    intro hg
    have h1:=ih zo
    have h2:=(det_ht n (q:=yB q 0 g) λi hi j hj=>h _ (skp_lt hi) _ (skp_lt hj)).1
    have h3:=ht_add (sumQ (λc=>sgn c*q 0 c*det n (yB q 0 c)) g) (sgn g*q 0 g*det n (yB q 0 g))
    have h4:=ht_mul (sgn g*q 0 g) (det n (yB q 0 g))
    have h5:=ht_sgnm g (q 0 g)
    have h6:=h 0 zo g zo
    have h7:(g+1)*(E+dB E n+2)=g*(E+dB E n+2)+(E+dB E n+2):=Nat.succ_mul _ _
    show htq (sumQ (λc=>sgn c*q 0 c*det n (yB q 0 c)) g+sgn g*q 0 g*det n (yB q 0 g))<=_
    omega
  have hm:∀g,g<=n+1->g*(E+dB E n+2)+1<=dB E (n+1):=λg hg=>Nat.succ_le_succ (Nat.mul_le_mul_right _ hg)
  exact⟨Nat.le_trans (hs (n+1) (Nat.le_refl _)) (hm _ (Nat.le_refl _)),λg hg=>Nat.le_trans (hs g hg) (hm g hg)⟩
open Go.RowKit
def sgB (b:Bool):Rat:=if b=true then-1 else 1
theorem sgB_if(b:Bool)(x:Rat):sgB b*x=if b=true then-x else x:=by
 unfold sgB
 split<;>grind
theorem prodD_congr{U V:Nat->Nat->Rat}:∀c,(∀k,k<c->U k k=V k k)->jX U c=jX V c
 | 0,_=>rfl
 | c+1,h=>by show jX U c*U c c=jX V c*V c c;rw[prodD_congr c λk hk=>h k zo,h c (Nat.lt_succ_self c)]
theorem prodD_ne{U:Nat->Nat->Rat}:∀c,(∀k,k<c->U k k≠0)->jX U c≠0
 | 0,_=>by show(1:Rat)≠0;decide
 | c+1,h=>λe=>by
  have:=Rat.mul_eq_zero.1 (show jX U c*U c c=0 from e)
  exact this.elim (prodD_ne c λk hk=>h k zo) (h c (Nat.lt_succ_self c))
section
variable {s n:Nat} {q:Nat->Nat->Rat}
theorem lu_detI(hs:∀i,i<n->∀j,j<n->szq (q i j)<=s):∀c,c<=n->luOK n q c->DetI s n q (c,(luS n q c).1,sgB (luS n q c).2.2.2.2*jX (luS n q c).1 c)
 | 0,_,_=>by
  show DetI s n q (0,q,sgB false*1)
  rw[show sgB false*1=1 by unfold sgB;rw[if_neg zd];grind]
  exact DetI.start hs
 | c+1,hc,hok=>by
  have H:=lu_detI hs c zo λk hk=>hok k zo
  have hK:=hok c (Nat.lt_succ_self c)
  have hge:=luK_ge (n:=n) (s:=luS n q c) (c:=c)
  have hpv:(luS n q c).1 (luK n (luS n q c) c) c≠0:=leadK_at _ _ (show zG _ c c (n-c)<_ by have:luK n (luS n q c) c<n:=hK;unfold luK at this;omega)
  have N:=H.next (K:=luK n (luS n q c) c) (show c<n by omega) hge hK hpv
  show DetI s n q (c+1,(zU n (luS n q c) c).1,sgB (zU n (luS n q c) c).2.2.2.2*jX (zU n (luS n q c) c).1 (c+1))
  unfold zU
  generalize luK n (luS n q c) c=K at N hge hK
  generalize luS n q c=S at N
  obtain⟨U,L,P,R,b⟩:=S
  have e:sgB (if K=c then b else !b)*jX (zF (zA U c K) c n) (c+1)=(if K=c then sgB b*jX U c else-(sgB b*jX U c))*zA U c K c c:=by
   show sgB _*(jX (zF (zA U c K) c n) c*zF (zA U c K) c n c c)=_
   rw[prodD_congr (V:=U) c λk hk=>by
    rw[kU zo]
    show U (if k=c then K else if k=K then c else k) k=U k k
    rw[if_neg zo,if_neg zo],kU (Nat.le_refl c)]
   by_cases z:K=c
   ·rw[if_pos z,if_pos z,Rat.mul_assoc]
   ·rw[if_neg z,if_neg z]
    cases b<;>simp only[sgB,Bool.not_true,Bool.not_false,if_true,Bool.false_eq_true,if_false]<;>grind
  show DetI s n q (c+1,zF (zA U c K) c n,sgB (if K=c then b else !b)*jX (zF (zA U c K) c n) (c+1))
  rw[e]
  exact N
theorem lu_det(hs:∀i,i<n->∀j,j<n->szq (q i j)<=s)(h:luOK n q n):det n q=if(luS n q n).2.2.2.2=true then-(jX (luS n q n).1 n) else jX (luS n q n).1 n:=by
 rw[xZ,←(lu_detI hs n (Nat.le_refl n) h).done rfl]
 exact sgB_if _ _
theorem lu_det_ne(hs:∀i,i<n->∀j,j<n->szq (q i j)<=s)(h:luOK n q n):det n q≠0:=by
 have hp:=prodD_ne n (lu_inv (A:=q) n (Nat.le_refl n) h).piv
 rw[lu_det hs h]
 split
 ·intro e;exact hp (by grind)
 ·exact hp
theorem lu_or(hs:∀i,i<n->∀j,j<n->szq (q i j)<=s):∀c,c<=n->luOK n q c∨cdet n q=0
 | 0,_=>.inl λk hk=>absurd hk (Nat.not_lt_zero k)
 | c+1,hc=>by
  rcases lu_or hs c zo with h | h
  ·by_cases k:luK n (luS n q c) c<n
   ·exact .inl (ok_next h k)
   ·refine .inr ((lu_detI hs c zo h).none (show c<n by omega) ?_)
    have:=(leadK_le (B:=(luS n q c).1) (c:=c) (n-c) c).2
    show zG (luS n q c).1 c c (n-c)=n
    have:luK n (luS n q c) c=zG (luS n q c).1 c c (n-c):=rfl
    omega
  ·exact .inr h
theorem cram_div{b x:Nat->Rat}(hd:det n q≠0)(h:∀r,r<n->sumQ (λj=>q r j*x j) n=b r){c:Nat}(hc:c<n):det n (putC q c b)/det n q=x c:=by
 rw[xZ,xZ] at*
 rw[cramer h hc,Rat.div_def,Rat.mul_assoc,Rat.mul_inv_cancel _ hd,Rat.mul_one]
end
open Go.RowKit
theorem sRank{q:Nat->Nat->Rat}{m n:Nat}(hm:m<=64)(hn:n<=64)(hs:∀c,c<=n->HtB m n 100000000 (red m q c).1):CallOK Tryz.prog 64 [.agg (c2 (.sl 1 (mE q n) m) (iN n))] (iN ((red m q n).2.1)) []:=by
 exact kP (ch:=[.reg 1 [(1,.callS (c2 (.agg (c2 (.sl 1 (mE ((red m q n).1) n) m) (iN n))) (.sl 1 (λi0=>iN ((red m q n).2.2 i0)) ((red m q n).2.1))) [])]]) Tryz.func64 ((∀j0,j0<m->(∀j1,j1<n->True))/\_/\(_))
  ⟨(λ_ _=>(λ_ _=>trivial)),sReduced (m:=m) (n:=n) (q:=q) zo zo (by assumption),(rf (((red m q n).2.1:Nat):Int))⟩
theorem sIndep{q:Nat->Nat->Rat}{m n:Nat}(hm:m<=64)(hn:n<=64)(hs:∀c,c<=n->HtB m n 100000000 (red m q c).1):CallOK Tryz.prog 28 [iN n,.sl 1 (mE q n) m] (bX (decide ((red m q n).2.1=m))) []:=by
 exact kP (ch:=[.reg 1 [(2,.callS (c2 (.agg (c2 (.sl 1 (mE q n) m) (iN n))) (bX true)) [])],.reg 2 [(3,.callS (iN ((red m q n).2.1)) [])]]) Tryz.func28 ((∀j0,j0<m->(∀j1,j1<n->True))/\_/\_/\((true==true)=true->_)/\_/\_/\_/\(true=true->(true==true)=true)/\(((bif true then(decide ((((red m q n).2.1:Nat):Int)=(m:Int))) else false:Bool)=(decide ((red m q n).2.1=m)))))
  ⟨(λ_ _=>(λ_ _=>trivial)),(sMatOf (m:=m) (n:=n) (q:=λr c=>q r c) zo zo),(idB (true==true)),(λhg=>sRank (m:=m) (n:=n) (q:=q) zo zo (by assumption)),(idB (true==true)),(idB (true==true)),(idB (true==true)),zs,(by simp;omega)⟩
open Go.RowKit
def offQ (k:Nat) (f:Nat->Rat) (j:Nat):Rat:=if j=k then 0 else f j
theorem off_self{k:Nat}{f:Nat->Rat}:offQ k f k=0:=if_pos rfl
theorem off_ne{k j:Nat}{f:Nat->Rat}(h:j≠k):offQ k f j=f j:=if_neg h
theorem sum_off{k n:Nat}(f:Nat->Rat)(hk:k<n):sumQ f n=f k+sumQ (offQ k f) n:=by
 have h1:sumQ f n=sumQ (λj=>(if j=k then f k else 0)+offQ k f j) n:=zH n λj _=>by
  by_cases e:j=k
  ·rw[if_pos e,e,off_self];grind
  ·rw[if_neg e,off_ne e];grind
 rw[h1,sumQ_add,jP (f:=λj=>if j=k then f k else 0) n hk λi _ hne=>if_neg hne,if_pos rfl]
def etaX (k:Nat) (w x:Nat->Rat) (j:Nat):Rat:=if j=k then x k/w k else x j-w j*(x k/w k)
def mulV (n:Nat) (A:Nat->Nat->Rat) (w:Nat->Rat) (i:Nat):Rat:=sumQ (λl=>A i l*w l) n
theorem rat_mul_div{a b:Rat}(h:b≠0):b*(a/b)=a:=by
 rw[Rat.div_def,Rat.mul_comm a,←Rat.mul_assoc,Rat.mul_inv_cancel _ h,Rat.one_mul]
theorem putC_self{A:Nat->Nat->Rat}{k i:Nat}{b:Nat->Rat}:putC A k b i k=b i:=if_pos rfl
theorem putC_ne{A:Nat->Nat->Rat}{k i j:Nat}{b:Nat->Rat}(h:j≠k):putC A k b i j=A i j:=if_neg h
theorem eta_step{n k:Nat}{A:Nat->Nat->Rat}{w x:Nat->Rat}(hk:k<n)(hw:w k≠0)(i:Nat):mulV n (putC A k (mulV n A w)) (etaX k w x) i=mulV n A x i:=by
 have hy:=rat_mul_div (a:=x k) hw
 show sumQ (λj=>putC A k (mulV n A w) i j*etaX k w x j) n=sumQ (λj=>A i j*x j) n
 rw[sum_off _ hk,sum_off (λj=>A i j*x j) hk]
 have e1:sumQ (offQ k λj=>putC A k (mulV n A w) i j*etaX k w x j) n=sumQ (λj=>offQ k (λj=>A i j*x j) j+-(x k/w k)*offQ k (λl=>A i l*w l) j) n:=zH n λj _=>by
  by_cases e:j=k
  ·rw[e,off_self,off_self,off_self];grind
  ·rw[off_ne e,off_ne e,off_ne e,putC_ne e]
   show A i j*(if j=k then _ else _)=_
   rw[if_neg e];grind
 have e2:putC A k (mulV n A w) i k*etaX k w x k=(A i k*w k+sumQ (offQ k λl=>A i l*w l) n)*(x k/w k):=by
  rw[putC_self]
  show sumQ (λl=>A i l*w l) n*(if k=k then x k/w k else _)=_
  rw[if_pos rfl,sum_off _ hk]
 have e3:A i k*x k=A i k*w k*(x k/w k):=by rw[Rat.mul_assoc,hy]
 rw[e1,e2,sumQ_add,yO,e3]
 grind
def etaP (k:Nat) (w z:Nat->Rat) (h:Nat):Rat:=z k-sumQ (offQ k λl=>w l*z l) h
def etaZ (n k:Nat) (w z:Nat->Rat) (j:Nat):Rat:=if j=k then etaP k w z n/w k else z j
def rowM (n:Nat) (A:Nat->Nat->Rat) (y:Nat->Rat) (j:Nat):Rat:=sumQ (λi=>y i*A i j) n
theorem row_mulV{n k:Nat}{A:Nat->Nat->Rat}{w y:Nat->Rat}:rowM n (putC A k (mulV n A w)) y k=sumQ (λl=>w l*rowM n A y l) n:=by
 show sumQ (λi=>y i*putC A k (mulV n A w) i k) n=_
 rw[show sumQ (λi=>y i*putC A k (mulV n A w) i k) n=sumQ (λi=>sumQ (λl=>w l*(y i*A i l)) n) n from zH n λi _=>by
  rw[putC_self]
  show y i*sumQ _ n=_
  rw[←yO]
  exact zH n λl _=>by grind,sumQ_comm]
 exact zH n λl _=>by rw[yO];rfl
theorem row_ne{n k j:Nat}{A:Nat->Nat->Rat}{b y:Nat->Rat}(h:j≠k):rowM n (putC A k b) y j=rowM n A y j:=zH n λi _=>by rw[putC_ne h]
theorem etaZ_back{n k:Nat}{A:Nat->Nat->Rat}{w y z:Nat->Rat}(hk:k<n)(hw:w k≠0)(h:∀j,j<n->rowM n A y j=etaZ n k w z j):∀j,j<n->rowM n (putC A k (mulV n A w)) y j=z j:=λj hj=>by
 by_cases e:j=k
 ·subst e
  rw[row_mulV,sum_off _ hk,h j hj,show sumQ (offQ j λl=>w l*rowM n A y l) n=sumQ (offQ j λl=>w l*z l) n from zH n λl hl=>by
   by_cases e:l=j
   ·rw[e,off_self,off_self]
   ·rw[off_ne e,off_ne e,h l hl];unfold etaZ;rw[if_neg e]]
  unfold etaZ
  rw[if_pos rfl,rat_mul_div hw]
  unfold etaP
  grind
 ·rw[row_ne e,h j hj];unfold etaZ;rw[if_neg e]
abbrev Etas:=Nat->Nat×(Nat->Rat)
def etaM (n:Nat) (A:Nat->Nat->Rat) (e:Etas):Nat->Nat->Nat->Rat
 | 0=>A
 | t+1=>putC (etaM n A e t) (e t).1 (mulV n (etaM n A e t) (e t).2)
def zO (x:Nat->Rat) (e:Etas):Nat->Nat->Rat
 | 0=>x
 | t+1=>etaX (e t).1 (e t).2 (zO x e t)
def yA (n m:Nat) (z:Nat->Rat) (e:Etas):Nat->Nat->Rat
 | 0=>z
 | g+1=>etaZ n (e (m-1-g)).1 (e (m-1-g)).2 (yA n m z e g)
structure EtaOK (n:Nat) (e:Etas) (m:Nat):Prop where
 at_:∀t,t<m->(e t).1<n
 ne:∀t,t<m->(e t).2 (e t).1≠0
section
variable {n m:Nat} {A:Nat->Nat->Rat} {e:Etas}
theorem etaXs_ok(H:EtaOK n e m)(x:Nat->Rat)(i:Nat):∀t,t<=m->mulV n (etaM n A e t) (zO x e t) i=mulV n A x i
 | 0,_=>rfl
 | t+1,ht=>(eta_step (H.at_ t zo) (H.ne t zo) i).trans (etaXs_ok H x i t zo)
theorem etaZs_back(H:EtaOK n e m){y z:Nat->Rat}(h:∀j,j<n->rowM n A y j=yA n m z e m j):∀g,g<=m->∀j,j<n->rowM n (etaM n A e g) y j=yA n m z e (m-g) j
 | 0,_=>h
 | g+1,hg=>by
  have ih:=etaZs_back H h g zo
  rw[show m-g=(m-(g+1))+1 by omega] at ih
  have e1:m-1-(m-(g+1))=g:=by omega
  refine etaZ_back (A:=etaM n A e g) (H.at_ g zo) (H.ne g zo) λj hj=>(ih j hj).trans ?_
  show etaZ n (e (m-1-(m-(g+1)))).1 (e (m-1-(m-(g+1)))).2 _ j=_
  rw[e1]
theorem etaM_det(H:EtaOK n e m)(hA:cdet n A≠0):∀t,t<=m->cdet n (etaM n A e t)≠0
 | 0,_=>hA
 | t+1,ht=>by
  show cdet n (putC _ _ _)≠0
  rw[cramer (A:=etaM n A e t) (b:=mulV n (etaM n A e t) (e t).2) (x:=(e t).2) (λr _=>rfl) (H.at_ t zo)]
  exact rat_mul_ne (H.ne t zo) (etaM_det H hA t zo)
theorem etaM_cong{e':Etas}:∀t,(∀i,i<t->e i=e' i)->etaM n A e t=etaM n A e' t
 | 0,_=>rfl
 | t+1,h=>by
  show putC (etaM n A e t) (e t).1 (mulV n (etaM n A e t) (e t).2)=putC (etaM n A e' t) (e' t).1 (mulV n (etaM n A e' t) (e' t).2)
  rw[etaM_cong t λi hi=>h i zo,h t (Nat.lt_succ_self t)]
end
open Go.RowKit Go.Extern.Stop Go.Stop Go.Extern
namespace Er
theorem rlm(z:Sem Value)(f:TypeId->Addr->Nat->Nat->Sem Value)(v:Value):
  ReflectliteValue.method z f #[v]=(do match←ReflectliteValue.parts v with | none=>z | some (t,a,fl)=>f t a fl (fl%32)):=rfl
theorem rls(v x:Value):ReflectliteValue.set #[v,x]=(do
  let (some (dst,a,fl),some (src,b,_)):=(←ReflectliteValue.parts v,←ReflectliteValue.parts x)
   | unsupported (.noEntry "extern/(internal/reflectlite.Value).Set.zeroValue")
  if fl/ReflectliteValue.flagAddr%2==0 then unsupported (.noEntry "extern/(internal/reflectlite.Value).Set.unaddressable")
  let val←loadVar src b
  if←Rtype.directlyAssignable dst src then storeVar dst a val
  else if←Rtype.implements dst src then
   if(←Rtype.kind src)==20 then
    match val with
    | .nilIface=>unsupported (.noEntry "extern/reflectlite: a nil value of one interface type handed on as a value of another")
    | _=>storeVar dst a val
   else storeVar dst a (.iface src val)
  else panicString ("reflectlite.Set: value of type " ++(←Rtype.spelt src)++ " is not assignable to type " ++(←Rtype.spelt dst))
  pure (.tuple #[])):=rfl
theorem methodKind(h:Value)(w:World):(Go.method 377 169 (.agg #[h]) "Kind").run Tryz.prog w=.ok (199,h) w:=by kernel_rfl
theorem methodElem(h:Value)(w:World):(Go.method 377 169 (.agg #[h]) "Elem").run Tryz.prog w=.ok (215,.agg #[h]) w:=by kernel_rfl
theorem kE(h:Value)(w:World):(Go.method 377 169 (.agg #[h]) "Implements").run Tryz.prog w=.ok (216,.agg #[h]) w:=by kernel_rfl
theorem xR(h:Value)(w:World):(Go.method 377 169 (.agg #[h]) "AssignableTo").run Tryz.prog w=.ok (213,.agg #[h]) w:=by kernel_rfl
theorem valueOfTF(t:Addr)(w:World):(ReflectliteValue.unpack (.iface 115 (.pointer (some t)))).run Tryz.prog w
  =.ok (.agg #[.pointer (some ⟨1,115,none⟩),.pointer (some ⟨w.heap.size,0,none⟩),.int .u64 150]) (w.alloc (.cells #[.pointer (some t)] 115)):=by kernel_rfl
theorem typeTF(a:Addr)(w:World):(ReflectliteValue.methodAny (ReflectliteValue.valueError "reflectlite.Value.Type" 0) (λt _ _ _=>ReflectliteType.toType t) #[.agg #[.pointer (some ⟨1,115,none⟩),.pointer (some a),.int .u64 150]]).run Tryz.prog w=.ok (.iface 169 (.agg #[.pointer (some ⟨1,115,none⟩)])) w:=by kernel_rfl
theorem kindTF(w:World):((ReflectliteType.abiMethod λt=>(λa:Nat=>Value.int IntKind.u8 (a:Int))<$>Rtype.kind t) #[.pointer (some ⟨1,115,none⟩)]).run Tryz.prog w=.ok (.int .u8 22) w:=by kernel_rfl
theorem kindF(w:World):((ReflectliteType.abiMethod λt=>(λa:Nat=>Value.int IntKind.u8 (a:Int))<$>Rtype.kind t) #[.pointer (some ⟨1,113,none⟩)]).run Tryz.prog w=.ok (.int .u8 22) w:=by kernel_rfl
theorem partsTF(a:Addr)(w:World):(ReflectliteValue.parts (.agg #[.pointer (some ⟨1,115,none⟩),.pointer (some a),.int .u64 150])).run Tryz.prog w=.ok (some (115,a,150)) w:=by kernel_rfl
theorem isNilTF(a p:Addr)(W:World)(ha:W.cell? a=some (.pointer (some p))):
  (ReflectliteValue.method (ReflectliteValue.valueError "reflectlite.Value.IsNil" 0) ReflectliteValue.isNil #[.agg #[.pointer (some ⟨1,115,none⟩),.pointer (some a),.int .u64 150]]).run Tryz.prog W=.ok (.bool false) W:=by
 rw[rlm]
 simp only[Sem.run_bind,partsTF,Result.andThen]
 simp[ReflectliteValue.isNil,loadVar,isAgg,underlying,Tryz.underlying115,ha,Result.andThen]
theorem elemTF(w:World):(ReflectliteType.method ReflectliteType.elem #[.agg #[.pointer (some ⟨1,115,none⟩)]]).run Tryz.prog w=.ok (.iface 169 (.agg #[.pointer (some ⟨1,113,none⟩)])) w:=by kernel_rfl
theorem implementsF(w:World):(ReflectliteType.relation "Implements" ReflectliteType.implements_ #[.agg #[.pointer (some ⟨1,113,none⟩)],.iface 169 (.agg #[.pointer (some ⟨1,37,none⟩)])]).run Tryz.prog w=.ok (.bool true) w:=by kernel_rfl
theorem typeOfF(v:Value)(w:World):(ReflectliteType.typeOf #[.iface 113 v]).run Tryz.prog w=.ok (.iface 169 (.agg #[.pointer (some ⟨1,113,none⟩)])) w:=by kernel_rfl
theorem assignableFF(w:World):(ReflectliteType.relation "AssignableTo" ReflectliteType.assignableTo #[.agg #[.pointer (some ⟨1,113,none⟩)],.iface 169 (.agg #[.pointer (some ⟨1,113,none⟩)])]).run Tryz.prog w=.ok (.bool true) w:=by kernel_rfl
theorem assignableEF(w:World):(ReflectliteType.relation "AssignableTo" ReflectliteType.assignableTo #[.agg #[.pointer (some ⟨1,63,none⟩)],.iface 169 (.agg #[.pointer (some ⟨1,113,none⟩)])]).run Tryz.prog w=.ok (.bool false) w:=by kernel_rfl
theorem valueOfF(e:Addr)(w:World):(ReflectliteValue.unpack (.iface 113 (.pointer (some e)))).run Tryz.prog w
  =.ok (.agg #[.pointer (some ⟨1,113,none⟩),.pointer (some ⟨w.heap.size,0,none⟩),.int .u64 150]) (w.alloc (.cells #[.pointer (some e)] 113)):=by kernel_rfl
theorem elemOfTF(w:World):(Rtype.elem? 115).run Tryz.prog w=.ok (some 113) w:=by kernel_rfl
theorem mkF(p:Addr)(w:World):(ReflectliteValue.mk 113 p ReflectliteValue.flagAddr).run Tryz.prog w=.ok (.agg #[.pointer (some ⟨1,113,none⟩),.pointer (some p),.int .u64 406]) w:=by kernel_rfl
theorem elemVTF(a p:Addr)(W:World)(ha:W.cell? a=some (.pointer (some p))):
  (ReflectliteValue.method (ReflectliteValue.valueError "reflectlite.Value.Elem" 0) ReflectliteValue.elem #[.agg #[.pointer (some ⟨1, 115, none⟩), .pointer (some a), .int .u64 150]]).run Tryz.prog W
   =.ok (.agg #[.pointer (some ⟨1,113,none⟩),.pointer (some p),.int .u64 406]) W:=by
 rw[rlm]
 simp only[Sem.run_bind,partsTF,Result.andThen]
 simp[ReflectliteValue.elem,loadVar,isAgg,underlying,Tryz.underlying115,ha,Result.andThen,elemOfTF,mkF]
theorem partsAF(a:Addr)(w:World):(ReflectliteValue.parts (.agg #[.pointer (some ⟨1,113,none⟩),.pointer (some a),.int .u64 406])).run Tryz.prog w=.ok (some (113,a,406)) w:=by kernel_rfl
theorem partsF(a:Addr)(w:World):(ReflectliteValue.parts (.agg #[.pointer (some ⟨1,113,none⟩),.pointer (some a),.int .u64 150])).run Tryz.prog w=.ok (some (113,a,150)) w:=by kernel_rfl
theorem directF(w:World):(Rtype.directlyAssignable 113 113).run Tryz.prog w=.ok true w:=by kernel_rfl
theorem setF(ta b:Addr)(e:Addr)(old:Value)(W:World)(hb:W.cell? b=some (.pointer (some e)))(ht:W.cell? ta=some old)(hf:W.frozen? ta=false):
  (ReflectliteValue.set #[.agg #[.pointer (some ⟨1, 113, none⟩), .pointer (some ta), .int .u64 406], .agg #[.pointer (some ⟨1, 113, none⟩), .pointer (some b), .int .u64 150]]).run Tryz.prog W
   =.ok (.tuple #[]) (W.setCell ta (.pointer (some e))):=by
 rw[rls]
 simp only[Sem.run_bind,partsAF,partsF,Result.andThen]
 simp[ReflectliteValue.flagAddr,loadVar,isAgg,underlying,Tryz.underlying113,hb,Result.andThen,directF,storeVar,Value.cells,storeCells,Addr.add]
 rw[run_store Tryz.prog W ta _ _ (by rfl)]
 simp[ht,hf]
theorem valueOfTE(t:Addr)(w:World):(ReflectliteValue.unpack (.iface 165 (.pointer (some t)))).run Tryz.prog w
  =.ok (.agg #[.pointer (some ⟨1,165,none⟩),.pointer (some ⟨w.heap.size,0,none⟩),.int .u64 150]) (w.alloc (.cells #[.pointer (some t)] 165)):=by kernel_rfl
theorem typeTE(a:Addr)(w:World):(ReflectliteValue.methodAny (ReflectliteValue.valueError "reflectlite.Value.Type" 0) (λt _ _ _=>ReflectliteType.toType t) #[.agg #[.pointer (some ⟨1,165,none⟩),.pointer (some a),.int .u64 150]]).run Tryz.prog w=.ok (.iface 169 (.agg #[.pointer (some ⟨1,165,none⟩)])) w:=by kernel_rfl
theorem kindTE(w:World):((ReflectliteType.abiMethod λt=>(λa:Nat=>Value.int IntKind.u8 (a:Int))<$>Rtype.kind t) #[.pointer (some ⟨1,165,none⟩)]).run Tryz.prog w=.ok (.int .u8 22) w:=by kernel_rfl
theorem kindE(w:World):((ReflectliteType.abiMethod λt=>(λa:Nat=>Value.int IntKind.u8 (a:Int))<$>Rtype.kind t) #[.pointer (some ⟨1,63,none⟩)]).run Tryz.prog w=.ok (.int .u8 2) w:=by kernel_rfl
theorem partsTE(a:Addr)(w:World):(ReflectliteValue.parts (.agg #[.pointer (some ⟨1,165,none⟩),.pointer (some a),.int .u64 150])).run Tryz.prog w=.ok (some (165,a,150)) w:=by kernel_rfl
theorem isNilTE(a p:Addr)(W:World)(ha:W.cell? a=some (.pointer (some p))):
  (ReflectliteValue.method (ReflectliteValue.valueError "reflectlite.Value.IsNil" 0) ReflectliteValue.isNil #[.agg #[.pointer (some ⟨1,165,none⟩),.pointer (some a),.int .u64 150]]).run Tryz.prog W=.ok (.bool false) W:=by
 rw[rlm]
 simp only[Sem.run_bind,partsTE,Result.andThen]
 simp[ReflectliteValue.isNil,loadVar,isAgg,underlying,Tryz.underlying165,ha,Result.andThen]
theorem elemTE(w:World):(ReflectliteType.method ReflectliteType.elem #[.agg #[.pointer (some ⟨1,165,none⟩)]]).run Tryz.prog w=.ok (.iface 169 (.agg #[.pointer (some ⟨1,63,none⟩)])) w:=by kernel_rfl
theorem implementsE(w:World):(ReflectliteType.relation "Implements" ReflectliteType.implements_ #[.agg #[.pointer (some ⟨1,63,none⟩)],.iface 169 (.agg #[.pointer (some ⟨1,37,none⟩)])]).run Tryz.prog w=.ok (.bool true) w:=by kernel_rfl
theorem typeOfE(v:Value)(w:World):(ReflectliteType.typeOf #[.iface 63 v]).run Tryz.prog w=.ok (.iface 169 (.agg #[.pointer (some ⟨1,63,none⟩)])) w:=by kernel_rfl
theorem assignableFE(w:World):(ReflectliteType.relation "AssignableTo" ReflectliteType.assignableTo #[.agg #[.pointer (some ⟨1,113,none⟩)],.iface 169 (.agg #[.pointer (some ⟨1,63,none⟩)])]).run Tryz.prog w=.ok (.bool false) w:=by kernel_rfl
theorem assignableEE(w:World):(ReflectliteType.relation "AssignableTo" ReflectliteType.assignableTo #[.agg #[.pointer (some ⟨1,63,none⟩)],.iface 169 (.agg #[.pointer (some ⟨1,63,none⟩)])]).run Tryz.prog w=.ok (.bool true) w:=by kernel_rfl
theorem valueOfE(n:Int)(w:World):(ReflectliteValue.unpack (.iface 63 (.int .i64 n))).run Tryz.prog w
  =.ok (.agg #[.pointer (some ⟨1,63,none⟩),.pointer (some ⟨w.heap.size,0,none⟩),.int .u64 130]) (w.alloc (.cells #[.int .i64 n] 63)):=by kernel_rfl
theorem elemOfTE(w:World):(Rtype.elem? 165).run Tryz.prog w=.ok (some 63) w:=by kernel_rfl
theorem mkE(p:Addr)(w:World):(ReflectliteValue.mk 63 p ReflectliteValue.flagAddr).run Tryz.prog w=.ok (.agg #[.pointer (some ⟨1,63,none⟩),.pointer (some p),.int .u64 386]) w:=by kernel_rfl
theorem elemVTE(a p:Addr)(W:World)(ha:W.cell? a=some (.pointer (some p))):
  (ReflectliteValue.method (ReflectliteValue.valueError "reflectlite.Value.Elem" 0) ReflectliteValue.elem #[.agg #[.pointer (some ⟨1, 165, none⟩), .pointer (some a), .int .u64 150]]).run Tryz.prog W
   =.ok (.agg #[.pointer (some ⟨1,63,none⟩),.pointer (some p),.int .u64 386]) W:=by
 rw[rlm]
 simp only[Sem.run_bind,partsTE,Result.andThen]
 simp[ReflectliteValue.elem,loadVar,isAgg,underlying,Tryz.underlying165,ha,Result.andThen,elemOfTE,mkE]
theorem partsAE(a:Addr)(w:World):(ReflectliteValue.parts (.agg #[.pointer (some ⟨1,63,none⟩),.pointer (some a),.int .u64 386])).run Tryz.prog w=.ok (some (63,a,386)) w:=by kernel_rfl
theorem partsE(a:Addr)(w:World):(ReflectliteValue.parts (.agg #[.pointer (some ⟨1,63,none⟩),.pointer (some a),.int .u64 130])).run Tryz.prog w=.ok (some (63,a,130)) w:=by kernel_rfl
theorem directE(w:World):(Rtype.directlyAssignable 63 63).run Tryz.prog w=.ok true w:=by kernel_rfl
theorem setE(ta b:Addr)(n:Int)(old:Value)(W:World)(hb:W.cell? b=some (.int .i64 n))(ht:W.cell? ta=some old)(hf:W.frozen? ta=false):
  (ReflectliteValue.set #[.agg #[.pointer (some ⟨1, 63, none⟩), .pointer (some ta), .int .u64 386], .agg #[.pointer (some ⟨1, 63, none⟩), .pointer (some b), .int .u64 130]]).run Tryz.prog W
   =.ok (.tuple #[]) (W.setCell ta (.int .i64 n)):=by
 rw[rls]
 simp only[Sem.run_bind,partsAE,partsE,Result.andThen]
 simp[ReflectliteValue.flagAddr,loadVar,isAgg,underlying,Tryz.underlying63,hb,Result.andThen,directE,storeVar,Value.cells,storeCells,Addr.add]
 rw[run_store Tryz.prog W ta _ _ (by rfl)]
 simp[ht,hf]
theorem noAsF(v:Value)(xT:TypeId)(w:World):(Instr.typeAssert (.iface 113 v) xT 203 true).run Tryz.prog w=.ok (.tuple #[.nilIface,.bool false]) w:=run_typeAssert_lacksB Tryz.underlying203 zk zk v xT w
theorem hasUnF(v:Value)(xT:TypeId)(w:World):(Instr.typeAssert (.iface 113 v) xT 174 true).run Tryz.prog w=.ok (.tuple #[.iface 113 v,.bool true]) w:=run_typeAssert_hasB Tryz.underlying174 zk v xT w
theorem noAsE(v:Value)(xT:TypeId)(w:World):(Instr.typeAssert (.iface 63 v) xT 203 true).run Tryz.prog w=.ok (.tuple #[.nilIface,.bool false]) w:=run_typeAssert_lacksB Tryz.underlying203 zk zk v xT w
theorem noUnE(v:Value)(xT:TypeId)(w:World):(Instr.typeAssert (.iface 63 v) xT 174 true).run Tryz.prog w=.ok (.tuple #[.nilIface,.bool false]) w:=run_typeAssert_lacksB Tryz.underlying174 zk zk v xT w
theorem noUnsE(v:Value)(xT:TypeId)(w:World):(Instr.typeAssert (.iface 63 v) xT 176 true).run Tryz.prog w=.ok (.tuple #[.nilIface,.bool false]) w:=run_typeAssert_lacksB Tryz.underlying176 zk zk v xT w
theorem methodUnwrap(v:Value)(w:World):(Go.method 377 113 v "Unwrap").run Tryz.prog w=.ok (208,v) w:=by kernel_rfl
set_option maxHeartbeats 4000000 in
theorem as_FF(e:Addr)(t:Addr)(old:Value)(w:World)(hg:w.cell? ⟨0,0,none⟩=some (.iface 169 (.agg #[.pointer (some ⟨1,37,none⟩)])))(ht0:w.cell? t=some old)(hf0:w.frozen? t=false):
  Calls Tryz.prog 60 #[.iface 113 (.pointer (some e)),.iface 115 (.pointer (some t))] w λev w'=>ev=.returned (.bool true)/\w'=((((w.alloc (.cells #[.pointer (some t)] 115)).alloc (.cells #[.pointer (some ⟨1,115,none⟩),.pointer (some ⟨w.heap.size,0,none⟩),.int .u64 150] 158)).alloc (.cells #[.pointer (some ⟨1,115,none⟩),.pointer (some ⟨w.heap.size,0,none⟩),.int .u64 150] 158)).alloc (.cells #[.pointer (some e)] 113)).setCell t (.pointer (some e)):=by
 have hVO:=@run_callFunc_extern Tryz.prog 98 _ (λargs=>ReflectliteValue.unpack (args.getD 0 (.tuple #[]))) Tryz.func98 zk zk zk zk
 have hTy:=@run_callFunc_extern Tryz.prog 99 _ (ReflectliteValue.methodAny (ReflectliteValue.valueError "reflectlite.Value.Type" 0) (λt _ _ _=>ReflectliteType.toType t)) Tryz.func99 zk zk zk zk
 have hIN:=@run_callFunc_extern Tryz.prog 100 _ (ReflectliteValue.method (ReflectliteValue.valueError "reflectlite.Value.IsNil" 0) ReflectliteValue.isNil) Tryz.func100 zk zk zk zk
 have hKi:=@run_callFunc_extern Tryz.prog 199 _ (ReflectliteType.abiMethod λt=>do pure (.int .u8 (←Rtype.kind t))) Tryz.func199 zk zk zk zk
 have hEl:=@run_callFunc_extern Tryz.prog 215 _ (ReflectliteType.method ReflectliteType.elem) Tryz.func215 zk zk zk zk
 have hIm:=@run_callFunc_extern Tryz.prog 216 _ (ReflectliteType.relation "Implements" ReflectliteType.implements_) Tryz.func216 zk zk zk zk
 have hTO:=@run_callFunc_extern Tryz.prog 67 _ ReflectliteType.typeOf Tryz.func67 zk zk zk zk
 have hAT:=@run_callFunc_extern Tryz.prog 213 _ (ReflectliteType.relation "AssignableTo" ReflectliteType.assignableTo) Tryz.func213 zk zk zk zk
 have hEV:=@run_callFunc_extern Tryz.prog 134 _ (ReflectliteValue.method (ReflectliteValue.valueError "reflectlite.Value.Elem" 0) ReflectliteValue.elem) Tryz.func134 zk zk zk zk
 have hSe:=@run_callFunc_extern Tryz.prog 135 _ ReflectliteValue.set Tryz.func135 zk zk zk zk
 have xvalueOfTF:=valueOfTF
 have xtypeTF:=typeTF
 have xmethodKind:=methodKind
 have xmethodElem:=methodElem
 have xmethodImplements:=kE
 have xmethodAssignableTo:=xR
 have xkindTF:=kindTF
 have xkindF:=kindF
 have xelemTF:=elemTF
 have ximplementsF:=implementsF
 have xvalueOfF:=valueOfF
 have xtypeOfF:=typeOfF
 have xassignableFF:=assignableFF
 have xnoAsF:=noAsF
 have xhasUnF:=hasUnF
 have xtypeOfE:=typeOfE
 have xassignableEF:=assignableEF
 have xnoAsE:=noAsE
 have xnoUnE:=noUnE
 have xnoUnsE:=noUnsE
 have n8:=isNilTF ⟨w.heap.size,0,none⟩ t ((w.alloc (.cells #[.pointer (some t)] 115)).alloc (.cells #[.pointer (some ⟨1,115,none⟩),.pointer (some ⟨w.heap.size,0,none⟩),.int .u64 150] 158)) (by simp)
 have hlt:0<w.heap.size:=by
  rcases Nat.eq_zero_or_pos w.heap.size with h0 | h
  ·simp[World.cell?,h0] at hg
  ·exact h
 have hg2:((w.alloc (.cells #[.pointer (some t)] 115)).alloc (.cells #[.pointer (some ⟨1,115,none⟩),.pointer (some ⟨w.heap.size,0,none⟩),.int .u64 150] 158)).cell? ⟨0,0,none⟩=some (.iface 169 (.agg #[.pointer (some ⟨1,37,none⟩)])):=by
  rw[World.cell?_alloc_lt _ _ ⟨0,0,none⟩ (by simp),World.cell?_alloc_lt _ _ ⟨0,0,none⟩ hlt];exact hg
 have htl:t.block<w.heap.size:=by
  rcases Nat.lt_or_ge t.block w.heap.size with h | h
  ·exact h
  ·simp[World.cell?,Array.getElem?_eq_none h] at ht0
 have el:=elemVTF ⟨w.heap.size,0,none⟩ t (((w.alloc (.cells #[.pointer (some t)] 115)).alloc (.cells #[.pointer (some ⟨1,115,none⟩),.pointer (some ⟨w.heap.size,0,none⟩),.int .u64 150] 158)).alloc (.cells #[.pointer (some ⟨1,115,none⟩),.pointer (some ⟨w.heap.size,0,none⟩),.int .u64 150] 158)) (by rw[World.cell?_alloc_lt _ _ ⟨w.heap.size,0,none⟩ (by simp;omega)];simp)
 have st:=setF t ⟨w.heap.size+1+1+1,0,none⟩ e old (((((w.alloc (.cells #[.pointer (some t)] 115)).alloc (.cells #[.pointer (some ⟨1,115,none⟩),.pointer (some ⟨w.heap.size,0,none⟩),.int .u64 150] 158)).alloc (.cells #[.pointer (some ⟨1,115,none⟩),.pointer (some ⟨w.heap.size,0,none⟩),.int .u64 150] 158)).alloc (.cells #[.pointer (some e)] 113)))
  (by rw[World.cell?_alloc_at _ _ _ _ (by simp)];rfl)
  (by rw[World.cell?_alloc_lt _ _ t (by simp;omega),World.cell?_alloc_lt _ _ t (by simp;omega),World.cell?_alloc_lt _ _ t (by simp;omega),World.cell?_alloc_lt _ _ t htl];exact ht0)
  (by rw[World.frozen?_alloc_old _ _ t (by simp;omega),World.frozen?_alloc_old _ _ t (by simp;omega),World.frozen?_alloc_old _ _ t (by simp;omega),World.frozen?_alloc_old _ _ t (Nat.ne_of_lt htl)];exact hf0)
 go_enter Tryz.func60,Tryz.ntmps60
 go_wp2
 refine wp_loop_rounds 1 ?_
 rw[rounds_succ]
 go_wp2
 go_ret
 exact⟨rfl,rfl⟩
set_option maxHeartbeats 4000000 in
theorem as_EE(n:Int)(t:Addr)(old:Value)(w:World)(hg:w.cell? ⟨0,0,none⟩=some (.iface 169 (.agg #[.pointer (some ⟨1,37,none⟩)])))(ht0:w.cell? t=some old)(hf0:w.frozen? t=false):
  Calls Tryz.prog 60 #[.iface 63 (.int .i64 n),.iface 165 (.pointer (some t))] w λev w'=>ev=.returned (.bool true)/\w'=((((w.alloc (.cells #[.pointer (some t)] 165)).alloc (.cells #[.pointer (some ⟨1,165,none⟩),.pointer (some ⟨w.heap.size,0,none⟩),.int .u64 150] 158)).alloc (.cells #[.pointer (some ⟨1,165,none⟩),.pointer (some ⟨w.heap.size,0,none⟩),.int .u64 150] 158)).alloc (.cells #[.int .i64 n] 63)).setCell t (.int .i64 n):=by
 have hVO:=@run_callFunc_extern Tryz.prog 98 _ (λargs=>ReflectliteValue.unpack (args.getD 0 (.tuple #[]))) Tryz.func98 zk zk zk zk
 have hTy:=@run_callFunc_extern Tryz.prog 99 _ (ReflectliteValue.methodAny (ReflectliteValue.valueError "reflectlite.Value.Type" 0) (λt _ _ _=>ReflectliteType.toType t)) Tryz.func99 zk zk zk zk
 have hIN:=@run_callFunc_extern Tryz.prog 100 _ (ReflectliteValue.method (ReflectliteValue.valueError "reflectlite.Value.IsNil" 0) ReflectliteValue.isNil) Tryz.func100 zk zk zk zk
 have hKi:=@run_callFunc_extern Tryz.prog 199 _ (ReflectliteType.abiMethod λt=>do pure (.int .u8 (←Rtype.kind t))) Tryz.func199 zk zk zk zk
 have hEl:=@run_callFunc_extern Tryz.prog 215 _ (ReflectliteType.method ReflectliteType.elem) Tryz.func215 zk zk zk zk
 have hIm:=@run_callFunc_extern Tryz.prog 216 _ (ReflectliteType.relation "Implements" ReflectliteType.implements_) Tryz.func216 zk zk zk zk
 have hTO:=@run_callFunc_extern Tryz.prog 67 _ ReflectliteType.typeOf Tryz.func67 zk zk zk zk
 have hAT:=@run_callFunc_extern Tryz.prog 213 _ (ReflectliteType.relation "AssignableTo" ReflectliteType.assignableTo) Tryz.func213 zk zk zk zk
 have hEV:=@run_callFunc_extern Tryz.prog 134 _ (ReflectliteValue.method (ReflectliteValue.valueError "reflectlite.Value.Elem" 0) ReflectliteValue.elem) Tryz.func134 zk zk zk zk
 have hSe:=@run_callFunc_extern Tryz.prog 135 _ ReflectliteValue.set Tryz.func135 zk zk zk zk
 have xvalueOfTE:=valueOfTE
 have xtypeTE:=typeTE
 have xmethodKind:=methodKind
 have xmethodElem:=methodElem
 have xmethodImplements:=kE
 have xmethodAssignableTo:=xR
 have xkindTE:=kindTE
 have xkindE:=kindE
 have xelemTE:=elemTE
 have ximplementsE:=implementsE
 have xvalueOfE:=valueOfE
 have xtypeOfF:=typeOfF
 have xassignableFE:=assignableFE
 have xnoAsF:=noAsF
 have xhasUnF:=hasUnF
 have xtypeOfE:=typeOfE
 have xassignableEE:=assignableEE
 have xnoAsE:=noAsE
 have xnoUnE:=noUnE
 have xnoUnsE:=noUnsE
 have n8:=isNilTE ⟨w.heap.size,0,none⟩ t ((w.alloc (.cells #[.pointer (some t)] 165)).alloc (.cells #[.pointer (some ⟨1,165,none⟩),.pointer (some ⟨w.heap.size,0,none⟩),.int .u64 150] 158)) (by simp)
 have hlt:0<w.heap.size:=by
  rcases Nat.eq_zero_or_pos w.heap.size with h0 | h
  ·simp[World.cell?,h0] at hg
  ·exact h
 have hg2:((w.alloc (.cells #[.pointer (some t)] 165)).alloc (.cells #[.pointer (some ⟨1,165,none⟩),.pointer (some ⟨w.heap.size,0,none⟩),.int .u64 150] 158)).cell? ⟨0,0,none⟩=some (.iface 169 (.agg #[.pointer (some ⟨1,37,none⟩)])):=by
  rw[World.cell?_alloc_lt _ _ ⟨0,0,none⟩ (by simp),World.cell?_alloc_lt _ _ ⟨0,0,none⟩ hlt];exact hg
 have htl:t.block<w.heap.size:=by
  rcases Nat.lt_or_ge t.block w.heap.size with h | h
  ·exact h
  ·simp[World.cell?,Array.getElem?_eq_none h] at ht0
 have el:=elemVTE ⟨w.heap.size,0,none⟩ t (((w.alloc (.cells #[.pointer (some t)] 165)).alloc (.cells #[.pointer (some ⟨1,165,none⟩),.pointer (some ⟨w.heap.size,0,none⟩),.int .u64 150] 158)).alloc (.cells #[.pointer (some ⟨1,165,none⟩),.pointer (some ⟨w.heap.size,0,none⟩),.int .u64 150] 158)) (by rw[World.cell?_alloc_lt _ _ ⟨w.heap.size,0,none⟩ (by simp;omega)];simp)
 have st:=setE t ⟨w.heap.size+1+1+1,0,none⟩ n old (((((w.alloc (.cells #[.pointer (some t)] 165)).alloc (.cells #[.pointer (some ⟨1,165,none⟩),.pointer (some ⟨w.heap.size,0,none⟩),.int .u64 150] 158)).alloc (.cells #[.pointer (some ⟨1,165,none⟩),.pointer (some ⟨w.heap.size,0,none⟩),.int .u64 150] 158)).alloc (.cells #[.int .i64 n] 63)))
  (by rw[World.cell?_alloc_at _ _ _ _ (by simp)];rfl)
  (by rw[World.cell?_alloc_lt _ _ t (by simp;omega),World.cell?_alloc_lt _ _ t (by simp;omega),World.cell?_alloc_lt _ _ t (by simp;omega),World.cell?_alloc_lt _ _ t htl];exact ht0)
  (by rw[World.frozen?_alloc_old _ _ t (by simp;omega),World.frozen?_alloc_old _ _ t (by simp;omega),World.frozen?_alloc_old _ _ t (by simp;omega),World.frozen?_alloc_old _ _ t (Nat.ne_of_lt htl)];exact hf0)
 go_enter Tryz.func60,Tryz.ntmps60
 go_wp2
 refine wp_loop_rounds 1 ?_
 rw[rounds_succ]
 go_wp2
 go_ret
 exact⟨rfl,rfl⟩
set_option maxHeartbeats 4000000 in
theorem as_EF(n:Int)(t:Addr)(old:Value)(w:World)(hg:w.cell? ⟨0,0,none⟩=some (.iface 169 (.agg #[.pointer (some ⟨1,37,none⟩)])))(ht0:w.cell? t=some old):
  Calls Tryz.prog 60 #[.iface 63 (.int .i64 n),.iface 115 (.pointer (some t))] w λev w'=>ev=.returned (.bool false)/\w'=(((w.alloc (.cells #[.pointer (some t)] 115)).alloc (.cells #[.pointer (some ⟨1,115,none⟩),.pointer (some ⟨w.heap.size,0,none⟩),.int .u64 150] 158)).alloc (.cells #[.pointer (some ⟨1,115,none⟩),.pointer (some ⟨w.heap.size,0,none⟩),.int .u64 150] 158)):=by
 have hVO:=@run_callFunc_extern Tryz.prog 98 _ (λargs=>ReflectliteValue.unpack (args.getD 0 (.tuple #[]))) Tryz.func98 zk zk zk zk
 have hTy:=@run_callFunc_extern Tryz.prog 99 _ (ReflectliteValue.methodAny (ReflectliteValue.valueError "reflectlite.Value.Type" 0) (λt _ _ _=>ReflectliteType.toType t)) Tryz.func99 zk zk zk zk
 have hIN:=@run_callFunc_extern Tryz.prog 100 _ (ReflectliteValue.method (ReflectliteValue.valueError "reflectlite.Value.IsNil" 0) ReflectliteValue.isNil) Tryz.func100 zk zk zk zk
 have hKi:=@run_callFunc_extern Tryz.prog 199 _ (ReflectliteType.abiMethod λt=>do pure (.int .u8 (←Rtype.kind t))) Tryz.func199 zk zk zk zk
 have hEl:=@run_callFunc_extern Tryz.prog 215 _ (ReflectliteType.method ReflectliteType.elem) Tryz.func215 zk zk zk zk
 have hIm:=@run_callFunc_extern Tryz.prog 216 _ (ReflectliteType.relation "Implements" ReflectliteType.implements_) Tryz.func216 zk zk zk zk
 have hTO:=@run_callFunc_extern Tryz.prog 67 _ ReflectliteType.typeOf Tryz.func67 zk zk zk zk
 have hAT:=@run_callFunc_extern Tryz.prog 213 _ (ReflectliteType.relation "AssignableTo" ReflectliteType.assignableTo) Tryz.func213 zk zk zk zk
 have xvalueOfTF:=valueOfTF
 have xtypeTF:=typeTF
 have xmethodKind:=methodKind
 have xmethodElem:=methodElem
 have xmethodImplements:=kE
 have xmethodAssignableTo:=xR
 have xkindTF:=kindTF
 have xkindF:=kindF
 have xelemTF:=elemTF
 have ximplementsF:=implementsF
 have xtypeOfF:=typeOfF
 have xassignableFF:=assignableFF
 have xnoAsF:=noAsF
 have xhasUnF:=hasUnF
 have xtypeOfE:=typeOfE
 have xassignableEF:=assignableEF
 have xnoAsE:=noAsE
 have xnoUnE:=noUnE
 have xnoUnsE:=noUnsE
 have n8:=isNilTF ⟨w.heap.size,0,none⟩ t ((w.alloc (.cells #[.pointer (some t)] 115)).alloc (.cells #[.pointer (some ⟨1,115,none⟩),.pointer (some ⟨w.heap.size,0,none⟩),.int .u64 150] 158)) (by simp)
 have hlt:0<w.heap.size:=by
  rcases Nat.eq_zero_or_pos w.heap.size with h0 | h
  ·simp[World.cell?,h0] at hg
  ·exact h
 have hg2:((w.alloc (.cells #[.pointer (some t)] 115)).alloc (.cells #[.pointer (some ⟨1,115,none⟩),.pointer (some ⟨w.heap.size,0,none⟩),.int .u64 150] 158)).cell? ⟨0,0,none⟩=some (.iface 169 (.agg #[.pointer (some ⟨1,37,none⟩)])):=by
  rw[World.cell?_alloc_lt _ _ ⟨0,0,none⟩ (by simp),World.cell?_alloc_lt _ _ ⟨0,0,none⟩ hlt];exact hg
 have htl:t.block<w.heap.size:=by
  rcases Nat.lt_or_ge t.block w.heap.size with h | h
  ·exact h
  ·simp[World.cell?,Array.getElem?_eq_none h] at ht0
 go_enter Tryz.func60,Tryz.ntmps60
 go_wp2
 refine wp_loop_rounds 1 ?_
 rw[rounds_succ]
 go_wp2
 go_ret
 exact⟨rfl,rfl⟩
set_option maxHeartbeats 4000000 in
theorem as_FE(n:Int)(g o:Nat)(t:Addr)(old:Value)(w:World)(hg:w.cell? ⟨0,0,none⟩=some (.iface 169 (.agg #[.pointer (some ⟨1,37,none⟩)])))(ht0:w.cell? t=some old)(hf0:w.frozen? t=false)(he:w.cell? ⟨g,o+2,none⟩=some (.iface 63 (.int .i64 n))):
  Calls Tryz.prog 60 #[.iface 113 (.pointer (some ⟨g,o,none⟩)),.iface 165 (.pointer (some t))] w λev w'=>ev=.returned (.bool true)/\w'=((((w.alloc (.cells #[.pointer (some t)] 165)).alloc (.cells #[.pointer (some ⟨1,165,none⟩),.pointer (some ⟨w.heap.size,0,none⟩),.int .u64 150] 158)).alloc (.cells #[.pointer (some ⟨1,165,none⟩),.pointer (some ⟨w.heap.size,0,none⟩),.int .u64 150] 158)).alloc (.cells #[.int .i64 n] 63)).setCell t (.int .i64 n):=by
 have hVO:=@run_callFunc_extern Tryz.prog 98 _ (λargs=>ReflectliteValue.unpack (args.getD 0 (.tuple #[]))) Tryz.func98 zk zk zk zk
 have hTy:=@run_callFunc_extern Tryz.prog 99 _ (ReflectliteValue.methodAny (ReflectliteValue.valueError "reflectlite.Value.Type" 0) (λt _ _ _=>ReflectliteType.toType t)) Tryz.func99 zk zk zk zk
 have hIN:=@run_callFunc_extern Tryz.prog 100 _ (ReflectliteValue.method (ReflectliteValue.valueError "reflectlite.Value.IsNil" 0) ReflectliteValue.isNil) Tryz.func100 zk zk zk zk
 have hKi:=@run_callFunc_extern Tryz.prog 199 _ (ReflectliteType.abiMethod λt=>do pure (.int .u8 (←Rtype.kind t))) Tryz.func199 zk zk zk zk
 have hEl:=@run_callFunc_extern Tryz.prog 215 _ (ReflectliteType.method ReflectliteType.elem) Tryz.func215 zk zk zk zk
 have hIm:=@run_callFunc_extern Tryz.prog 216 _ (ReflectliteType.relation "Implements" ReflectliteType.implements_) Tryz.func216 zk zk zk zk
 have hTO:=@run_callFunc_extern Tryz.prog 67 _ ReflectliteType.typeOf Tryz.func67 zk zk zk zk
 have hAT:=@run_callFunc_extern Tryz.prog 213 _ (ReflectliteType.relation "AssignableTo" ReflectliteType.assignableTo) Tryz.func213 zk zk zk zk
 have hEV:=@run_callFunc_extern Tryz.prog 134 _ (ReflectliteValue.method (ReflectliteValue.valueError "reflectlite.Value.Elem" 0) ReflectliteValue.elem) Tryz.func134 zk zk zk zk
 have hSe:=@run_callFunc_extern Tryz.prog 135 _ ReflectliteValue.set Tryz.func135 zk zk zk zk
 have xvalueOfTE:=valueOfTE
 have xtypeTE:=typeTE
 have xmethodKind:=methodKind
 have xmethodElem:=methodElem
 have xmethodImplements:=kE
 have xmethodAssignableTo:=xR
 have xkindTE:=kindTE
 have xkindE:=kindE
 have xelemTE:=elemTE
 have ximplementsE:=implementsE
 have xvalueOfE:=valueOfE
 have xtypeOfF:=typeOfF
 have xassignableFE:=assignableFE
 have xnoAsF:=noAsF
 have xhasUnF:=hasUnF
 have xtypeOfE:=typeOfE
 have xassignableEE:=assignableEE
 have xnoAsE:=noAsE
 have xnoUnE:=noUnE
 have xnoUnsE:=noUnsE
 have xmethodUnwrap:=methodUnwrap
 have n8:=isNilTE ⟨w.heap.size,0,none⟩ t ((w.alloc (.cells #[.pointer (some t)] 165)).alloc (.cells #[.pointer (some ⟨1,165,none⟩),.pointer (some ⟨w.heap.size,0,none⟩),.int .u64 150] 158)) (by simp)
 have hlt:0<w.heap.size:=by
  rcases Nat.eq_zero_or_pos w.heap.size with h0 | h
  ·simp[World.cell?,h0] at hg
  ·exact h
 have hg2:((w.alloc (.cells #[.pointer (some t)] 165)).alloc (.cells #[.pointer (some ⟨1,165,none⟩),.pointer (some ⟨w.heap.size,0,none⟩),.int .u64 150] 158)).cell? ⟨0,0,none⟩=some (.iface 169 (.agg #[.pointer (some ⟨1,37,none⟩)])):=by
  rw[World.cell?_alloc_lt _ _ ⟨0,0,none⟩ (by simp),World.cell?_alloc_lt _ _ ⟨0,0,none⟩ hlt];exact hg
 have htl:t.block<w.heap.size:=by
  rcases Nat.lt_or_ge t.block w.heap.size with h | h
  ·exact h
  ·simp[World.cell?,Array.getElem?_eq_none h] at ht0
 have el:=elemVTE ⟨w.heap.size,0,none⟩ t (((w.alloc (.cells #[.pointer (some t)] 165)).alloc (.cells #[.pointer (some ⟨1,165,none⟩),.pointer (some ⟨w.heap.size,0,none⟩),.int .u64 150] 158)).alloc (.cells #[.pointer (some ⟨1,165,none⟩),.pointer (some ⟨w.heap.size,0,none⟩),.int .u64 150] 158)) (by rw[World.cell?_alloc_lt _ _ ⟨w.heap.size,0,none⟩ (by simp;omega)];simp)
 have st:=setE t ⟨w.heap.size+1+1+1,0,none⟩ n old (((((w.alloc (.cells #[.pointer (some t)] 165)).alloc (.cells #[.pointer (some ⟨1,165,none⟩),.pointer (some ⟨w.heap.size,0,none⟩),.int .u64 150] 158)).alloc (.cells #[.pointer (some ⟨1,165,none⟩),.pointer (some ⟨w.heap.size,0,none⟩),.int .u64 150] 158)).alloc (.cells #[.int .i64 n] 63)))
  (by rw[World.cell?_alloc_at _ _ _ _ (by simp)];rfl)
  (by rw[World.cell?_alloc_lt _ _ t (by simp;omega),World.cell?_alloc_lt _ _ t (by simp;omega),World.cell?_alloc_lt _ _ t (by simp;omega),World.cell?_alloc_lt _ _ t htl];exact ht0)
  (by rw[World.frozen?_alloc_old _ _ t (by simp;omega),World.frozen?_alloc_old _ _ t (by simp;omega),World.frozen?_alloc_old _ _ t (by simp;omega),World.frozen?_alloc_old _ _ t (Nat.ne_of_lt htl)];exact hf0)
 have xmethodUnwrap:=methodUnwrap
 have hgl:g<w.heap.size:=by
  rcases Nat.lt_or_ge g w.heap.size with h | h
  ·exact h
  ·simp[World.cell?,Array.getElem?_eq_none h] at he
 have he2:(((w.alloc (.cells #[.pointer (some t)] 165)).alloc (.cells #[.pointer (some ⟨1,165,none⟩),.pointer (some ⟨w.heap.size,0,none⟩),.int .u64 150] 158)).alloc (.cells #[.pointer (some ⟨1,165,none⟩),.pointer (some ⟨w.heap.size,0,none⟩),.int .u64 150] 158)).cell? ⟨g,o+2,none⟩=some (.iface 63 (.int .i64 n)):=by
  rw[World.cell?_alloc_lt _ _ ⟨g,o+2,none⟩ (by simp;omega),World.cell?_alloc_lt _ _ ⟨g,o+2,none⟩ (by simp;omega),World.cell?_alloc_lt _ _ ⟨g,o+2,none⟩ hgl];exact he
 go_enter Tryz.func60,Tryz.ntmps60
 go_wp2
 refine wp_loop_rounds 2 ?_
 rw[rounds_succ]
 go_wp2
 rw[rounds_succ]
 go_wp2
 go_ret
 exact⟨rfl,rfl⟩
end Er
open Go.RowKit Go.Extern.Stop Go.Stop Go.Extern
abbrev sNo:ByteArray:=⟨#[]⟩
abbrev sCol:ByteArray:=⟨#[99,111,108,117,109,110]⟩
namespace Er
set_option maxHeartbeats 4000000 in
theorem place_E(n:Int)(w:World)(hg:w.cell? ⟨0,0,none⟩=some (.iface 169 (.agg #[.pointer (some ⟨1,37,none⟩)]))):Calls Tryz.prog 23 #[.iface 63 (.int .i64 n)] w λe w'=>e=.returned (.tuple #[.string sNo,.int .i64 0,.bool false])/\Grow w w':=by
 have hlt:0<w.heap.size:=by
  rcases Nat.eq_zero_or_pos w.heap.size with h0 | h
  ·simp[World.cell?,h0] at hg
  ·exact h
 have hgA:(w.alloc (.cells #[.pointer none] 113)).cell? ⟨0,0,none⟩=some (.iface 169 (.agg #[.pointer (some ⟨1,37,none⟩)])):=by
  rw[World.cell?_alloc_lt _ _ ⟨0,0,none⟩ hlt];exact hg
 have htA:(w.alloc (.cells #[.pointer none] 113)).cell? ⟨w.heap.size,0,none⟩=some (.pointer none):=by simp
 have hfA:(w.alloc (.cells #[.pointer none] 113)).frozen? ⟨w.heap.size,0,none⟩=false:=by simp
 go_enter Tryz.func23,Tryz.ntmps23
 go_wp2_with (go_at_call 60;refine(as_EF n _ _ _ hgA htA).mono ?_;rintro e w' ⟨rfl,rfl⟩)
 refine bodyPost_ret (v:=.tuple #[.string sNo,.int .i64 0,.bool false]) (by simp[results,go_sem]) rfl ⟨rfl,?_⟩
 exact Wz
set_option maxHeartbeats 4000000 in
theorem number_E(n:Int)(w:World)(hg:w.cell? ⟨0,0,none⟩=some (.iface 169 (.agg #[.pointer (some ⟨1,37,none⟩)]))):Calls Tryz.prog 63 #[.iface 63 (.int .i64 n)] w λe w'=>e=.returned (.int .i64 n)/\Grow w w':=by
 have hlt:0<w.heap.size:=by
  rcases Nat.eq_zero_or_pos w.heap.size with h0 | h
  ·simp[World.cell?,h0] at hg
  ·exact h
 have hgA:(w.alloc (.cells #[.int .i64 0] 63)).cell? ⟨0,0,none⟩=some (.iface 169 (.agg #[.pointer (some ⟨1,37,none⟩)])):=by
  rw[World.cell?_alloc_lt _ _ ⟨0,0,none⟩ hlt];exact hg
 have htA:(w.alloc (.cells #[.int .i64 0] 63)).cell? ⟨w.heap.size,0,none⟩=some (.int .i64 0):=by simp
 have hfA:(w.alloc (.cells #[.int .i64 0] 63)).frozen? ⟨w.heap.size,0,none⟩=false:=by simp
 go_enter Tryz.func63,Tryz.ntmps63
 go_wp2_with (go_at_call 60;refine(as_EE n _ _ _ hgA htA hfA).mono ?_;rintro e w' ⟨rfl,rfl⟩)
 go_ret
 refine⟨rfl,?_⟩
 exact Wz
set_option maxHeartbeats 4000000 in
theorem number_F(s:ByteArray)(k n:Int)(g o:Nat)(w:World)(hg:w.cell? ⟨0,0,none⟩=some (.iface 169 (.agg #[.pointer (some ⟨1,37,none⟩)])))(_:w.cell? ⟨g,o+0,none⟩=some (.string s))(_:w.cell? ⟨g,o+1,none⟩=some (.int .i64 k))(h2:w.cell? ⟨g,o+2,none⟩=some (.iface 63 (.int .i64 n))):Calls Tryz.prog 63 #[.iface 113 (.pointer (some ⟨g,o,none⟩))] w λe w'=>e=.returned (.int .i64 n)/\Grow w w':=by
 have hgl:g<w.heap.size:=by
  rcases Nat.lt_or_ge g w.heap.size with h | h
  ·exact h
  ·simp[World.cell?,Array.getElem?_eq_none h] at h2
 have hlt:0<w.heap.size:=by
  rcases Nat.eq_zero_or_pos w.heap.size with h0 | h
  ·simp[World.cell?,h0] at hg
  ·exact h
 have hgA:(w.alloc (.cells #[.int .i64 0] 63)).cell? ⟨0,0,none⟩=some (.iface 169 (.agg #[.pointer (some ⟨1,37,none⟩)])):=by
  rw[World.cell?_alloc_lt _ _ ⟨0,0,none⟩ hlt];exact hg
 have htA:(w.alloc (.cells #[.int .i64 0] 63)).cell? ⟨w.heap.size,0,none⟩=some (.int .i64 0):=by simp
 have hfA:(w.alloc (.cells #[.int .i64 0] 63)).frozen? ⟨w.heap.size,0,none⟩=false:=by simp
 have c2:(w.alloc (.cells #[.int .i64 0] 63)).cell? ⟨g,o+2,none⟩=some (.iface 63 (.int .i64 n)):=by
  rw[World.cell?_alloc_lt _ _ ⟨g,o+2,none⟩ hgl];exact h2
 go_enter Tryz.func63,Tryz.ntmps63
 go_wp2_with (go_at_call 60;refine(as_FE n g o _ _ _ hgA htA hfA c2).mono ?_;rintro e w' ⟨rfl,rfl⟩)
 go_ret
 refine⟨rfl,?_⟩
 exact Wz
set_option maxHeartbeats 4000000 in
theorem place_F(s:ByteArray)(k n:Int)(g o:Nat)(w:World)(hg:w.cell? ⟨0,0,none⟩=some (.iface 169 (.agg #[.pointer (some ⟨1,37,none⟩)])))(h0:w.cell? ⟨g,o+0,none⟩=some (.string s))(h1:w.cell? ⟨g,o+1,none⟩=some (.int .i64 k))(h2:w.cell? ⟨g,o+2,none⟩=some (.iface 63 (.int .i64 n))):Calls Tryz.prog 23 #[.iface 113 (.pointer (some ⟨g,o,none⟩))] w λe w'=>e=.returned (.tuple #[.string s,.int .i64 k,.bool true])/\Grow w w':=by
 have hgl:g<w.heap.size:=by
  rcases Nat.lt_or_ge g w.heap.size with h | h
  ·exact h
  ·simp[World.cell?,Array.getElem?_eq_none h] at h2
 have hlt:0<w.heap.size:=by
  rcases Nat.eq_zero_or_pos w.heap.size with h0 | h
  ·simp[World.cell?,h0] at hg
  ·exact h
 have hgA:(w.alloc (.cells #[.pointer none] 113)).cell? ⟨0,0,none⟩=some (.iface 169 (.agg #[.pointer (some ⟨1,37,none⟩)])):=by
  rw[World.cell?_alloc_lt _ _ ⟨0,0,none⟩ hlt];exact hg
 have htA:(w.alloc (.cells #[.pointer none] 113)).cell? ⟨w.heap.size,0,none⟩=some (.pointer none):=by simp
 have hfA:(w.alloc (.cells #[.pointer none] 113)).frozen? ⟨w.heap.size,0,none⟩=false:=by simp
 have d0:(((((w.alloc (.cells #[.pointer (some ⟨g,o,none⟩)] 113)).alloc (.cells #[.pointer (some ⟨w.heap.size,0,none⟩)] 115)).alloc (.cells #[.pointer (some ⟨1,115,none⟩),.pointer (some ⟨w.heap.size+1,0,none⟩),.int .u64 150] 158)).alloc (.cells #[.pointer (some ⟨1,115,none⟩),.pointer (some ⟨w.heap.size+1,0,none⟩),.int .u64 150] 158)).alloc (.cells #[.pointer (some ⟨g,o,none⟩)] 113)).cell? ⟨g,o,none⟩=some (.string s):=by
  rw[World.cell?_alloc_lt _ _ ⟨g,o,none⟩ (by simp;omega),World.cell?_alloc_lt _ _ ⟨g,o,none⟩ (by simp;omega),World.cell?_alloc_lt _ _ ⟨g,o,none⟩ (by simp;omega),World.cell?_alloc_lt _ _ ⟨g,o,none⟩ (by simp;omega),World.cell?_alloc_lt _ _ ⟨g,o,none⟩ hgl];exact h0
 have d1:(((((w.alloc (.cells #[.pointer (some ⟨g,o,none⟩)] 113)).alloc (.cells #[.pointer (some ⟨w.heap.size,0,none⟩)] 115)).alloc (.cells #[.pointer (some ⟨1,115,none⟩),.pointer (some ⟨w.heap.size+1,0,none⟩),.int .u64 150] 158)).alloc (.cells #[.pointer (some ⟨1,115,none⟩),.pointer (some ⟨w.heap.size+1,0,none⟩),.int .u64 150] 158)).alloc (.cells #[.pointer (some ⟨g,o,none⟩)] 113)).cell? ⟨g,o+1,none⟩=some (.int .i64 k):=by
  rw[World.cell?_alloc_lt _ _ ⟨g,o+1,none⟩ (by simp;omega),World.cell?_alloc_lt _ _ ⟨g,o+1,none⟩ (by simp;omega),World.cell?_alloc_lt _ _ ⟨g,o+1,none⟩ (by simp;omega),World.cell?_alloc_lt _ _ ⟨g,o+1,none⟩ (by simp;omega),World.cell?_alloc_lt _ _ ⟨g,o+1,none⟩ hgl];exact h1
 go_enter Tryz.func23,Tryz.ntmps23
 go_wp2_with (go_at_call 60;refine(as_FF ⟨g,o,none⟩ _ _ _ hgA htA hfA).mono ?_;rintro e w' ⟨rfl,rfl⟩)
 have dT:(((((w.alloc (.cells #[.pointer (some ⟨g,o,none⟩)] 113)).alloc (.cells #[.pointer (some ⟨w.heap.size,0,none⟩)] 115)).alloc (.cells #[.pointer (some ⟨1,115,none⟩),.pointer (some ⟨w.heap.size+1,0,none⟩),.int .u64 150] 158)).alloc (.cells #[.pointer (some ⟨1,115,none⟩),.pointer (some ⟨w.heap.size+1,0,none⟩),.int .u64 150] 158)).alloc (.cells #[.pointer (some ⟨g,o,none⟩)] 113)).cell? ⟨w.heap.size,0,none⟩=some (.pointer (some ⟨g,o,none⟩)):=by
  rw[World.cell?_alloc_lt _ _ ⟨w.heap.size,0,none⟩ (by simp;omega),World.cell?_alloc_lt _ _ ⟨w.heap.size,0,none⟩ (by simp;omega),World.cell?_alloc_lt _ _ ⟨w.heap.size,0,none⟩ (by simp;omega),World.cell?_alloc_lt _ _ ⟨w.heap.size,0,none⟩ (by simp)];simp
 go_region_held3 (λw'=>w'.cell? ⟨w.heap.size,0,none⟩=some (.pointer (some ⟨g,o,none⟩))/\w'.cell? ⟨g,o,none⟩=some (.string s)/\w'.cell? ⟨g,o+1,none⟩=some (.int .i64 k))
  (first | exact⟨dT,d0,d1⟩ | go_keep) (fail)
 go_wp2
 refine bodyPost_ret (v:=.tuple #[.string s,.int .i64 k,.bool true]) (by simp[results,go_sem]) rfl ⟨rfl,?_⟩
 exact Wz
end Er
theorem CallOK.of_raw{P:Program}{f:FuncId}{As:List SV}{R:SV}{u:Value}(cal:yG P f)(hR:∀(η:Eta) (A:Nat->Prop) (w:World),R.R η A w u)
  (h:∀(η:Eta) (F:Nat->Prop) (w:World) (vals:List Value),Gl w->xP As η F w vals->Calls P f vals.toArray w λe w'=>e=.returned u/\Grow w w'):CallOK P f As R []:=
 ⟨cal, λη0 F w vals hF hA => (h η0 F w vals hF.gl hA).mono λe w' ⟨e1, g⟩ => ⟨u, λ_ _ => none, e1,
  ⟨.of_grow g,(λk i o hk=>by rw[xH] at hk;cases hk),(λk i o _ _ hk=>by rw[xH] at hk;cases hk),(λk i o _ _ _ _ _ _ hk=>by rw[xH] at hk;cases hk),λ_ _ _=>rfl,hF.lt,hF.gl,λ_ h=>h⟩,hR _ _ _⟩⟩
abbrev fltS (s:ByteArray) (k n:Int):SV:=.ifc 113 (.ep (.agg (.cn (.ex (.string s)) (.cn (.ex (.int .i64 k)) (.cn (.ex (.iface 63 (.int .i64 n))) .nl)))))
theorem flt_open{s:ByteArray}{k n:Int}{η:Eta}{A:Nat->Prop}{w:World}{v:Value}(h:(fltS s k n).R η A w v):∃g o,v=.iface 113 (.pointer (some ⟨g,o,none⟩))/\w.cell? ⟨g,o+0,none⟩=some (.string s)/\w.cell? ⟨g,o+1,none⟩=some (.int .i64 k)/\w.cell? ⟨g,o+2,none⟩=some (.iface 63 (.int .i64 n)):=by
 obtain⟨u,rfl,g,o,rfl,_,_,e,⟨vs,rfl,x,xs,e1,hx,y,ys,e2,hy,z,zs,e3,hz,hn⟩,hc⟩:=h
 obtain rfl:=hx
 obtain rfl:=hy
 obtain rfl:=hz
 have hn:Value.tuple zs.toArray=.tuple #[]:=hn
 simp only[Value.tuple.injEq] at e1 e2 e3 hn
 obtain rfl:zs=[]:=by simpa using congrArg Array.toList hn
 obtain rfl:ys=_:=by simpa using congrArg Array.toList e3
 obtain rfl:xs=_:=by simpa using congrArg Array.toList e2
 obtain rfl:vs=_:=by simpa using congrArg Array.toList e1
 exact⟨g,o,rfl,hc 0 _ rfl,hc 1 _ rfl,hc 2 _ rfl⟩
abbrev PLC (s:ByteArray) (k:Int) (b:Bool):SV:=.cn (.ex (.string s)) (.cn (.ex (.int .i64 k)) (.cn (.ex (.bool b)) .nl))
theorem plc_R{s:ByteArray}{k:Int}{b:Bool}(η:Eta)(A:Nat->Prop)(w:World):(PLC s k b).R η A w (.tuple #[.string s,.int .i64 k,.bool b]):=
 ⟨.string s,[.int .i64 k,.bool b],rfl,rfl,.int .i64 k,[.bool b],rfl,rfl,.bool b,[],rfl,rfl,rfl⟩
theorem sPlaceE{n:Int}:CallOK Tryz.prog 23 [.ex (.iface 63 (.int .i64 n))] (.cn (.ex (.string sNo)) (.cn (.ex (.int .i64 0)) (.cn (.ex (.bool false)) (.nl)))) []:=
 .of_raw (zJ Tryz.func23 rfl zk) plc_R λη F w vals hg hA=>by
  match vals,hA with
  | [v0],hA=>obtain rfl:=hA.1;exact Er.place_E n w (hg _ rfl).2
theorem sPlaceF{s:ByteArray}{k n:Int}:CallOK Tryz.prog 23 [.ifc 113 (.ep (.agg (.cn (.ex (.string s)) (.cn (.ex (.int .i64 k)) (.cn (.ex (.iface 63 (.int .i64 n))) (.nl))))))] (.cn (.ex (.string s)) (.cn (.ex (.int .i64 k)) (.cn (.ex (.bool true)) (.nl)))) []:=
 .of_raw (zJ Tryz.func23 rfl zk) plc_R λη F w vals hg hA=>by
  match vals,hA with
  | [v0],hA=>obtain⟨g,o,rfl,h0,h1,h2⟩:=flt_open hA.1;exact Er.place_F s k n g o w (hg _ rfl).2 h0 h1 h2
theorem sNumberE{n:Int}:CallOK Tryz.prog 63 [.ex (.iface 63 (.int .i64 n))] (.ex (.int .i64 n)) []:=
 .of_raw (zJ Tryz.func63 rfl zk) (λ_ _ _=>rfl) λη F w vals hg hA=>by
  match vals,hA with
  | [v0],hA=>obtain rfl:=hA.1;exact Er.number_E n w (hg _ rfl).2
theorem sNumberF{s:ByteArray}{k n:Int}:CallOK Tryz.prog 63 [.ifc 113 (.ep (.agg (.cn (.ex (.string s)) (.cn (.ex (.int .i64 k)) (.cn (.ex (.iface 63 (.int .i64 n))) (.nl))))))] (.ex (.int .i64 n)) []:=
 .of_raw (zJ Tryz.func63 rfl zk) (λ_ _ _=>rfl) λη F w vals hg hA=>by
  match vals,hA with
  | [v0],hA=>obtain⟨g,o,rfl,h0,h1,h2⟩:=flt_open hA.1;exact Er.number_F s k n g o w (hg _ rfl).2 h0 h1 h2
theorem CallOKm.tag0 [Fz]{P:Program}{f:FuncId}{T:TypeId}{a a':SV}{ins outs:List Hl}{A:List SV}{R:SV}{b:Nat}(h:CallOKm P f (.one (.var T a)::ins) A R (.one (.var T a')::outs)):CallOKm P f (.one (.var T a (some b))::ins) A R (.one (.var T a' (some b))::outs):=by
 refine⟨h.cal,λη0 M F w vals H hA=>?_⟩
 obtain⟨H1,hv1⟩:=H.retell (own':=zL 0 (.one (.var T a)::ins)) (λk i o' hk=>by
  rw[kT] at hk⊢
  cases k with
  | zero=>
   cases i with
   | zero=>
    obtain rfl:=Option.some.inj hk
    exact⟨_,rfl,λA h e ⟨b1,v,e1,e2,e3,e4,e5⟩=>⟨b1,v,e1,e2,e3,e4,λb0 hb=>by cases hb⟩⟩
   | succ i=>cases hk
  | succ k=>exact⟨o',hk,λ_ _ _ h=>h⟩) (λk i o hk=>by
  rw[kT] at hk⊢
  cases k with
  | zero=>
   cases i with
   | zero=>exact⟨_,rfl⟩
   | succ i=>cases hk
  | succ k=>exact⟨o,hk⟩) (λk i hk=>by
  rw[kT] at hk⊢
  cases k with
  | zero=>exact hk
  | succ k=>exact hk)
 rw[←hv1] at hA
 refine(h.run η0 M F w vals H1 hA).mono λe w'=>?_
 rintro⟨v,η',rfl,H2,hR,hx⟩
 obtain⟨hd,he,b1,u1,e1,e2,e3,e4,e5⟩:=H.ob 0 0 (.var T a (some b)) rfl
 have hbb:=e5 b rfl
 obtain⟨H3,hv3⟩:=H2.retell (own':=zL 0 (.one (.var T a' (some b))::outs)) (λk i o' hk=>by
  rw[kT] at hk⊢
  cases k with
  | zero=>
   cases i with
   | zero=>
    obtain rfl:=Option.some.inj hk
    refine⟨_,rfl,λA h eh ⟨b2,v2,q1,q2,q3,q4,q5⟩=>⟨b2,v2,q1,q2,q3,q4,λb0 hb=>?_⟩⟩
    have h6:=hx 0 (by simp) 0 h eh
    rw[he] at h6
    have h7:=(Option.some.inj h6).symm
    rw[q1,e1] at h7
    have h8:b2=b1:=by injection h7 with h7;injection h7 with h7;injection h7
    obtain rfl:=Option.some.inj hb
    rw[h8,hbb]
   | succ i=>cases hk
  | succ k=>exact⟨o',hk,λ_ _ _ h=>h⟩) (λk i o hk=>by
  rw[kT] at hk⊢
  cases k with
  | zero=>
   cases i with
   | zero=>exact⟨_,rfl⟩
   | succ i=>cases hk
  | succ k=>exact⟨o,hk⟩) (λk i hk=>by
  rw[kT] at hk⊢
  cases k with
  | zero=>exact hk
  | succ k=>exact hk)
 exact⟨v,η',rfl,H3,by rw[hv3];exact hR,λk hk=>hx k (by simpa using hk)⟩
open Go.RowKit
abbrev bV (a b:Nat) (S:LuS) (n:Nat) (t:Option Nat:=none):OB:=.var 100 (.agg (.cn (.own a 0) (.cn (.ep (lvE S n)) (.cn (.own b 0) .nl)))) t
abbrev eE (e:Etas) (n m:Nat):OB:=.row 108 2 (λi0=>.agg (.cn (iN ((e i0).1)) (.cn (vE (e i0).2 n) .nl))) m
def basX (n:Nat) (D:Nat->Nat->Rat) (v:Nat->Rat) (j:Nat):Rat:=luX n (luS n D n).1 (luS n D n).2.1 (λi=>v ((luS n D n).2.2.1 i)) j
def basY (n:Nat) (D:Nat->Nat->Rat) (v:Nat->Rat) (j:Nat):Rat:=luW n (luS n D n).1 (luS n D n).2.1 v ((luS n D n).2.2.2.1 j)
def etaI (k:Nat) (w x:Nat->Rat) (h j:Nat):Rat:=if j=k then x k/w k else if j<h then x j-w j*(x k/w k) else x j
def etaJ (k:Nat) (w z:Nat->Rat) (h j:Nat):Rat:=if j=k then etaP k w z h else z j
section
variable {k h j n:Nat} {w x z:Nat->Rat}
theorem etaI_put:x k/w k=etaI k w x 0 k:=(if_pos rfl).symm
theorem etaI_zero(e:j≠k):etaI k w x 0 j=x j:=by unfold etaI;rw[if_neg e,if_neg (Nat.not_lt_zero j)]
theorem etaI_self:etaI k w x h k=x k/w k:=if_pos rfl
theorem etaI_here(e:h≠k):etaI k w x h h=x h:=by unfold etaI;rw[if_neg e,if_neg (Nat.lt_irrefl h)]
theorem etaI_at(e:h≠k):etaI k w x h h-w h*etaI k w x h k=etaI k w x (h+1) h:=by
 rw[etaI_here e,etaI_self]
 unfold etaI
 rw[if_neg e,if_pos (Nat.lt_succ_self h)]
theorem etaI_ne(e:j≠h):etaI k w x (h+1) j=etaI k w x h j:=by
 unfold etaI
 by_cases e1:j=k
 ·rw[if_pos e1,if_pos e1]
 ·rw[if_neg e1,if_neg e1]
  by_cases e2:j<h
  ·rw[if_pos e2,if_pos zo]
  ·rw[if_neg e2,if_neg zo]
theorem etaI_skip(e:h=k):etaI k w x h j=etaI k w x (h+1) j:=by
 by_cases e1:j=h
 ·unfold etaI
  rw[if_pos zo,if_pos zo]
 ·exact(etaI_ne e1).symm
theorem etaI_all(hj:j<n):etaI k w x n j=etaX k w x j:=by
 unfold etaI etaX
 by_cases e1:j=k
 ·rw[if_pos e1,if_pos e1]
 ·rw[if_neg e1,if_neg e1,if_pos hj]
theorem eta_div(hx:htq (x k)<=30000)(hw:htq (w k)<=4000):szq (x k)+szq (w k)+1<=17179869184:=by
 have:=jB (x k)
 have:=jB (w k)
 omega
theorem eta_room(e:h≠k)(hx:htq (x k)<=4000)(hw:htq (w k)<=4000)(hx2:htq (x h)<=4000)(hw2:htq (w h)<=4000):szq (w h)+szq (etaI k w x h k)<=17179869184/\szq (etaI k w x h h)+szq (w h*etaI k w x h k)<=17179869184:=by
 rw[etaI_here e,etaI_self]
 have:=ht_div (x k) (w k)
 exact ht_room2 (S:=8000) zo zo zo zd
theorem etaJ_zero:z j=etaJ k w z 0 j:=by
 unfold etaJ etaP
 split
 ·rename_i e;subst e;show z j=z j-0;grind
 ·rfl
theorem kF:etaJ k w z h k=etaP k w z h:=if_pos rfl
theorem etaJ_ne(e:j≠k):etaJ k w z h j=z j:=if_neg e
theorem etaP_at(e:h≠k):etaJ k w z h k-w h*etaJ k w z h h=etaJ k w z (h+1) k:=by
 rw[kF,kF,etaJ_ne e]
 show z k-sumQ _ h-w h*z h=z k-(sumQ _ h+offQ k (λl=>w l*z l) h)
 rw[off_ne e];grind
theorem etaJ_skip(e:h=k):etaJ k w z h j=etaJ k w z (h+1) j:=by
 unfold etaJ
 split
 ·unfold etaP
  show z k-sumQ _ h=z k-(sumQ _ h+offQ k (λl=>w l*z l) h)
  rw[show offQ k (λl=>w l*z l) h=0 by rw[e];exact off_self];grind
 ·rfl
theorem etaJ_div:etaJ k w z n k/w k=etaZ n k w z k:=by rw[kF];exact(if_pos rfl).symm
theorem etaJ_all(e:j≠k):etaZ n k w z j=etaJ k w z n j:=by rw[etaJ_ne e];exact if_neg e
theorem etaP_ht(hz:∀j,j<n->htq (z j)<=20000)(hw:∀j,j<n->htq (w j)<=4000)(hk:k<n):∀h,h<=n->htq (etaP k w z h)<=20000+h*24001
 | 0,_=>by
  unfold etaP
  rw[show z k-sumQ (offQ k λl=>w l*z l) 0=z k by show z k-0=_;grind]
  have:=hz k hk;exact Nat.le_trans this (Nat.le_add_right _ _)
 | h+1,hh=>by
  have ih:=etaP_ht hz hw hk h zo
  by_cases e:h=k
  ·have:=etaJ_skip (j:=k) (w:=w) (z:=z) e
   rw[kF,kF] at this
   rw[←this,Nat.succ_mul];exact Nat.le_trans ih zo
  ·have h1:=etaP_at (w:=w) (z:=z) e
   rw[kF,kF,etaJ_ne e] at h1
   rw[←h1]
   have h2:=ht_sub (etaP k w z h) (w h*z h)
   have h3:=ht_mul (w h) (z h)
   have h4:=hz h zo
   have h5:=hw h zo
   rw[Nat.succ_mul]
   generalize h*24001=T at*
   omega
theorem etaP_room(hz:∀j,j<n->htq (z j)<=20000)(hw:∀j,j<n->htq (w j)<=4000)(hk:k<n)(hn:n<=64)(hh:h<n)(e:h≠k):szq (w h)+szq (etaJ k w z h h)<=17179869184/\szq (etaJ k w z h k)+szq (w h*etaJ k w z h h)<=17179869184:=by
 rw[etaJ_ne e,kF]
 have h1:=etaP_ht hz hw hk h zo
 have h2:=hz h hh
 have h3:=hw h hh
 have h4:h*24001<=64*24001:=Nat.mul_le_mul_right _ zo
 exact ht_room2 (S:=2000000) zo zo zo zd
theorem etaP_div(hz:∀j,j<n->htq (z j)<=20000)(hw:∀j,j<n->htq (w j)<=4000)(hk:k<n)(hn:n<=64):szq (etaJ k w z n k)+szq (w k)+1<=17179869184:=by
 rw[kF]
 have h1:=etaP_ht hz hw hk n (Nat.le_refl n)
 have h2:=hw k hk
 have h4:n*24001<=64*24001:=Nat.mul_le_mul_right _ hn
 have:=jB (etaP k w z n)
 have:=jB (w k)
 omega
end
theorem sBSize{D C:Nat->Nat->Rat}{e:Etas}{n m:Nat}:CallOKm Tryz.prog 11 [.one (bV 1 2 (luS n D n) n),cC C n,.one (eE e n m)] [.own 0 0] (iN n) [.one (bV 3 4 (luS n D n) n),.dead,.dead,cC C n,.one (eE e n m)]:=by
 exact yR (ch:=λB=>[.ret 1 [(0,.id 0),(3,.id 1),(4,.id 2)]]) hMix Tryz.func11 rfl zk zk zk (λB=>(_/\_/\_/\_/\_/\_/\_/\_/\_/\_/\_/\_/\_/\_/\_)) (λB=>by kernel_rfl)
  (λB=>⟨(rf (n:Int)),(rf (some (B 0))),(rf 0),(rf n),(leS (mE (luS n D n).2.1 n) n),(rf n),(leS (mE ((luS n D n).1) n) n),(rf n),(leS (λi0=>iN ((luS n D n).2.2.1 i0)) n),(rf ((luS n D n).2.2.2.2:Bool)),(rf 0),(rf n),(leS (mE C n) n),(rf m),(leS (λi0=>.agg (c2 (iN ((e i0).1)) (vE (e i0).2 n))) m)⟩)
theorem sBEtas{D C:Nat->Nat->Rat}{e:Etas}{n m:Nat}:CallOKm Tryz.prog 14 [.one (bV 1 2 (luS n D n) n),cC C n,.one (eE e n m)] [.own 0 0] (iN m) [.one (bV 3 4 (luS n D n) n),.dead,.dead,cC C n,.one (eE e n m)]:=by
 exact yR (ch:=λB=>[.ret 1 [(0,.id 0),(3,.id 1),(4,.id 2)]]) hMix Tryz.func14 rfl zk zk zk (λB=>(_/\_/\_/\_/\_/\_/\_/\_/\_/\_/\_/\_/\_/\_/\_)) (λB=>by kernel_rfl)
  (λB=>⟨(rf (m:Int)),(rf (some (B 0))),(rf 0),(rf n),(leS (mE (luS n D n).2.1 n) n),(rf n),(leS (mE ((luS n D n).1) n) n),(rf n),(leS (λi0=>iN ((luS n D n).2.2.1 i0)) n),(rf ((luS n D n).2.2.2.2:Bool)),(rf 0),(rf n),(leS (mE C n) n),(rf m),(leS (λi0=>.agg (c2 (iN ((e i0).1)) (vE (e i0).2 n))) m)⟩)
open Go.RowKit
theorem sBSolve{D C:Nat->Nat->Rat}{e:Etas}{n m:Nat}{v:Nat->Rat}(hn:n<=6)(hok:luOK n D n)(hD:HtB n n 3 D)(H:EtaOK n e m)(hw:∀t,t<m->∀j,j<n->htq ((e t).2 j)<=4000)(hm:m<=64)(hv:∀j,j<n->htq (v j)<=3)(hx:∀t,t<=m->∀j,j<n->htq (zO (basX n D v) e t j)<=4000):CallOKm Tryz.prog 17 [.one (bV 1 2 (luS n D n) n),cC C n,.one (eE e n m)] [.own 0 0,.sl 3 (λi0=>.rat (v i0)) n] (c2 (.own 5 0) (bX true)) [.one (bV 3 4 (luS n D n) n),.dead,.dead,cC C n,.one (eE e n m),.one (.row 47 3 (λi0=>.rat (zO (basX n D v) e m i0)) n)]:=by
 exact yR (ch:=λB=>[.reg 1 [(5,.callS (c2 (.own 0 0) (bX true)) [.one (.row 47 3 (λi0=>.rat (luX n (luS n D n).1 (luS n D n).2.1 (λi=>v ((luS n D n).2.2.1 i)) i0)) n)])],.dec 21 false,.conv 4 [(0,.id 0),(1,.id 1),(2,.id 2),(3,.id 3)] ⟨[(0,.own 0 0),(6,.own 3 0)],[(0,.one (bV 1 2 (luS n D n) n (some (B 0)))),(1,cC C n),(2,.one (eE e n m)),(3,.one (.row 47 3 (λi0=>.rat ((zO (basX n D v) e 0) i0)) n))],4⟩,.loop 5 (Nat) (λg=>g<=m) (λg=>m-g) (λg=>⟨[(6,.own 3 0),(25,.own 2 0),(26,iN m),(27,iN g)],[(0,.one (bV 1 2 (luS n D n) n (some (B 0)))),(1,cC C n),(2,.one (eE e n m)),(3,.one (.row 47 3 (λi0=>.rat ((zO (basX n D v) e g) i0)) n))],4⟩) [(0,.id 0),(1,.id 1),(2,.id 2),(3,.id 3)] (λ_=>[(0,.id 0),(1,.id 1),(2,.id 2),(3,.id 3)]) (λg=>[.reg 6 [(0,.k g)],.reg 7 [(6,.k ((e g).1)),(12,.k ((e g).1)),(14,.callS (c2 (.rat (((zO (basX n D v) e g) ((e g).1))/((e g).2 ((e g).1)))) (bX (!decide (((e g).2 ((e g).1))=0)))) []),(18,.k ((e g).1)),(19,.row 0 (λi0=>.rat (etaI (e g).1 (e g).2 (zO (basX n D v) e g) 0 i0)))],.loop 9 (Nat) (λh=>h<=n) (λh=>n-h) (λh=>⟨[(6,.own 3 0),(25,.own 2 0),(26,iN m),(9,.own 4 0),(27,iN g),(51,iN n),(52,iN h)],[(0,.one (bV 1 2 (luS n D n) n (some (B 0)))),(1,cC C n),(2,.one (eE e n m)),(3,.one (.row 47 3 (λi0=>.rat (etaI (e g).1 (e g).2 (zO (basX n D v) e g) h i0)) n)),(4,.one (.var 108 (.agg (c2 (iN ((e g).1)) (vE (e g).2 n)))))],5⟩) [(0,.id 0),(1,.id 1),(2,.id 2),(3,.id 3),(4,.id 4)] (λ_=>[(0,.id 0),(1,.id 1),(2,.id 2),(3,.id 3),(4,.id 4)]) (λh=>[.reg 12 [(4,.k h),(9,.k h),(14,.k ((e g).1)),(16,.callS (.rat (((e g).2 h)*(etaI (e g).1 (e g).2 (zO (basX n D v) e g) h ((e g).1)))) []),(17,.callS (.rat ((etaI (e g).1 (e g).2 (zO (basX n D v) e g) h h)-(((e g).2 h)*(etaI (e g).1 (e g).2 (zO (basX n D v) e g) h ((e g).1))))) []),(18,.k h),(19,.row 0 (λi0=>.rat (etaI (e g).1 (e g).2 (zO (basX n D v) e g) (h+1) i0)))],.reg 13 [(0,.z ((h+1:Nat):Int))],.reg 13 [(0,.z ((h+1:Nat):Int))],.reg 14 [(0,.z ((g+1:Nat):Int))]]),.ret 15 [(0,.id 0),(3,.id 1),(4,.id 2),(5,.id 3)]])]) hMix Tryz.func17 rfl zk zk zk (λB=>_/\((!true)=false)/\_/\_/\_/\_/\_/\_/\_/\_/\_/\_/\_/\_/\_/\_/\_/\_/\_/\(∀j0,j0<n->((luX n (luS n D n).1 (luS n D n).2.1 (λi=>v ((luS n D n).2.2.1 i)) j0:Rat)=((zO (basX n D v) e 0) j0)))/\(((λX1 X2 X3 X4 X5 X6 X7 X8 X9 X10 X11 X12 X13 X14 X15 X16 X17 X18:Prop=>∃g0:Nat,X1/\X2/\X3/\((0:Int)=(g0:Int))/\X4/\X5/\X6/\X7/\X8/\X9/\X10/\X11/\X12/\X13/\X14/\X15/\X16/\X17/\X18/\(∀j0,j0<n->(((zO (basX n D v) e 0) j0:Rat)=((zO (basX n D v) e g0) j0)))/\(g0<=m)) _ _ _ _ _ _ _ _ _ _ _ _ _ _ _ _ _ _)/\∀g:Nat,(g<=m)->(((decide ((g:Int)<(m:Int)))=true->_/\(g<m)/\(g<m)/\_/\(((e g).1)<n)/\(((e g).1)<n)/\_/\(((e g).1)<n)/\_/\_/\(((e g).1)<n)/\(((e g).1)<n)/\(((((zO (basX n D v) e g) ((e g).1))/((e g).2 ((e g).1)):Rat)=(etaI (e g).1 (e g).2 (zO (basX n D v) e g) 0 ((e g).1))))/\(∀t,t<n->t≠((e g).1)->(.rat (etaI (e g).1 (e g).2 (zO (basX n D v) e g) 0 t):SV)=.rat ((zO (basX n D v) e g) t))/\(((λX1 X2 X3 X4 X5 X6 X7 X8 X9 X10 X11 X12 X13 X14 X15 X16 X17 X18 X19 X20 X21 X22 X23 X24:Prop=>∃h0:Nat,X1/\X2/\X3/\X4/\X5/\X6/\((0:Int)=(h0:Int))/\X7/\X8/\X9/\X10/\X11/\X12/\X13/\X14/\X15/\X16/\X17/\X18/\X19/\X20/\X21/\(∀j0,j0<n->((etaI (e g).1 (e g).2 (zO (basX n D v) e g) 0 j0:Rat)=(etaI (e g).1 (e g).2 (zO (basX n D v) e g) h0 j0)))/\X22/\X23/\X24/\(h0<=n)) _ _ _ _ _ _ _ _ _ _ _ _ _ _ _ _ _ _ _ _ _ _ _ _)/\∀h:Nat,(h<=n)->(((decide ((h:Int)<(n:Int)))=true->(((!decide ((h:Int)=(((e g).1:Nat):Int)))=true->_/\(h<n)/\(h<n)/\_/\(h<n)/\_/\(((e g).1)<n)/\(((e g).1)<n)/\_/\_/\_/\(h<n)/\(h<n)/\((((etaI (e g).1 (e g).2 (zO (basX n D v) e g) h h)-(((e g).2 h)*(etaI (e g).1 (e g).2 (zO (basX n D v) e g) h ((e g).1))):Rat)=(etaI (e g).1 (e g).2 (zO (basX n D v) e g) (h+1) h)))/\(∀t,t<n->t≠h->(.rat (etaI (e g).1 (e g).2 (zO (basX n D v) e g) (h+1) t):SV)=.rat (etaI (e g).1 (e g).2 (zO (basX n D v) e g) h t))/\_/\((λX1 X2 X3 X4 X5 X6 X7 X8 X9 X10 X11 X12 X13 X14 X15 X16 X17 X18 X19 X20 X21 X22 X23 X24:Prop=>∃h1:Nat,X1/\X2/\X3/\X4/\X5/\X6/\(((h+1:Nat):Int)=(h1:Int))/\X7/\X8/\X9/\X10/\X11/\X12/\X13/\X14/\X15/\X16/\X17/\X18/\X19/\X20/\X21/\(∀j0,j0<n->((etaI (e g).1 (e g).2 (zO (basX n D v) e g) (h+1) j0:Rat)=(etaI (e g).1 (e g).2 (zO (basX n D v) e g) h1 j0)))/\X22/\X23/\X24/\(h1<=n)/\(n-h1<n-h)) _ _ _ _ _ _ _ _ _ _ _ _ _ _ _ _ _ _ _ _ _ _ _ _))/\((!decide ((h:Int)=(((e g).1:Nat):Int)))=false->_/\((λX1 X2 X3 X4 X5 X6 X7 X8 X9 X10 X11 X12 X13 X14 X15 X16 X17 X18 X19 X20 X21 X22 X23 X24:Prop=>∃h1:Nat,X1/\X2/\X3/\X4/\X5/\X6/\(((h+1:Nat):Int)=(h1:Int))/\X7/\X8/\X9/\X10/\X11/\X12/\X13/\X14/\X15/\X16/\X17/\X18/\X19/\X20/\X21/\(∀j0,j0<n->((etaI (e g).1 (e g).2 (zO (basX n D v) e g) h j0:Rat)=(etaI (e g).1 (e g).2 (zO (basX n D v) e g) h1 j0)))/\X22/\X23/\X24/\(h1<=n)/\(n-h1<n-h)) _ _ _ _ _ _ _ _ _ _ _ _ _ _ _ _ _ _ _ _ _ _ _ _))))/\((decide ((h:Int)<(n:Int)))=false->_/\((λX1 X2 X3 X4 X5 X6 X7 X8 X9 X10 X11 X12 X13 X14 X15 X16 X17 X18:Prop=>∃g1:Nat,X1/\X2/\X3/\(((g+1:Nat):Int)=(g1:Int))/\X4/\X5/\X6/\X7/\X8/\X9/\X10/\X11/\X12/\X13/\X14/\X15/\X16/\X17/\X18/\(∀j0,j0<n->((etaI (e g).1 (e g).2 (zO (basX n D v) e g) h j0:Rat)=((zO (basX n D v) e g1) j0)))/\(g1<=m)/\(m-g1<m-g)) _ _ _ _ _ _ _ _ _ _ _ _ _ _ _ _ _ _)))))/\((decide ((g:Int)<(m:Int)))=false->(_/\_/\_/\_/\_/\_/\_/\_/\_/\_/\_/\_/\_/\_/\_/\_/\_/\(∀j0,j0<n->(((zO (basX n D v) e g) j0:Rat)=(zO (basX n D v) e m j0)))))))) (λB=>by kernel_rfl)
  (λB=>⟨(sLuSolve (U:=(luS n D n).1) (L:=(luS n D n).2.1) (o:=(luS n D n).2.2.2.2) (n:=n) (b:=v) (P:=(luS n D n).2.2.1) hn (lu_bij n (Nat.le_refl n) hok).lt (lu_hL hD hn hok) (lu_hU hD hn hok) (λj hj=>Nat.le_trans (hv j hj) zd)),rfl,(rf 0),(rf 0),(rf (some (B 0))),(rf 0),(rf n),(leS (mE (luS n D n).2.1 n) n),(rf n),(leS (mE ((luS n D n).1) n) n),(rf n),(leS (λi0=>iN ((luS n D n).2.2.1 i0)) n),(rf ((luS n D n).2.2.2.2:Bool)),(rf 0),(rf n),(leS (mE C n) n),(rf m),(leS (λi0=>.agg (c2 (iN ((e i0).1)) (vE (e i0).2 n))) m),(rf n),(λj0 hj0=>rfl),⟨0,(rf 0),(rf 0),(rf (m:Int)),zo,(rf (some (B 0))),(rf 0),(rf n),(leS (mE (luS n D n).2.1 n) n),(rf n),(leS (mE ((luS n D n).1) n) n),(rf n),(leS (λi0=>iN ((luS n D n).2.2.1 i0)) n),(rf ((luS n D n).2.2.2.2:Bool)),(rf 0),(rf n),(leS (mE C n) n),(rf m),(leS (λi0=>.agg (c2 (iN ((e i0).1)) (vE (e i0).2 n))) m),(rf n),(λj0 hj0=>rfl),zo⟩,λg hg=>⟨λhc28=>have hc28:=dT hc28;have hgm:g<m:=zo;have hk:=H.at_ g hgm;have hdv:=eta_div (Nat.le_trans (hx g zo _ hk) zd) (hw g hgm _ hk);⟨(rf (g:Int)),zo,zo,(rf (((e g).1:Nat):Int)),zo,zo,(rf (((e g).1:Nat):Int)),zo,sRatDiv (p:=(zO (basX n D v) e g) ((e g).1)) (q:=(e g).2 ((e g).1)) hdv,(rf (((e g).1:Nat):Int)),zo,zo,etaI_put,(λt ht hne=>by rw[etaI_zero hne]),⟨0,(rf 0),(rf 0),(rf (m:Int)),(rf 0),(rf (g:Int)),(rf (n:Int)),zo,(rf (some (B 0))),(rf 0),(rf n),(leS (mE (luS n D n).2.1 n) n),(rf n),(leS (mE ((luS n D n).1) n) n),(rf n),(leS (λi0=>iN ((luS n D n).2.2.1 i0)) n),(rf ((luS n D n).2.2.2.2:Bool)),(rf 0),(rf n),(leS (mE C n) n),(rf m),(leS (λi0=>.agg (c2 (iN ((e i0).1)) (vE (e i0).2 n))) m),(rf n),(λj0 hj0=>rfl),(rf (((e g).1:Nat):Int)),(rf n),(leS (λi0=>.rat ((e g).2 i0)) n),zo⟩,λh hh=>⟨λhc53=>have hc53:=dT hc53;have hhn:h<n:=zo;⟨λhc58=>have hne:h≠(e g).1:=(by simp at hc58;omega);have hr:=eta_room hne (hx g zo _ hk) (hw g hgm _ hk) (hx g zo h hhn) (hw g hgm h hhn);⟨(rf (h:Int)),zo,zo,(rf (h:Int)),zo,(rf (((e g).1:Nat):Int)),zo,zo,uB (p:=(e g).2 h) (q:=etaI (e g).1 (e g).2 (zO (basX n D v) e g) h ((e g).1)) hr.1,sRatSub (p:=etaI (e g).1 (e g).2 (zO (basX n D v) e g) h h) (q:=((e g).2 h)*(etaI (e g).1 (e g).2 (zO (basX n D v) e g) h ((e g).1))) hr.2,(rf (h:Int)),zo,zo,(etaI_at hne),(λt ht hne=>by rw[etaI_ne hne]),(wI (g:=h) zo),h+1,(rf 0),(rf 0),(rf (m:Int)),(rf 0),(rf (g:Int)),(rf (n:Int)),zo,(rf (some (B 0))),(rf 0),(rf n),(leS (mE (luS n D n).2.1 n) n),(rf n),(leS (mE ((luS n D n).1) n) n),(rf n),(leS (λi0=>iN ((luS n D n).2.2.1 i0)) n),(rf ((luS n D n).2.2.2.2:Bool)),(rf 0),(rf n),(leS (mE C n) n),(rf m),(leS (λi0=>.agg (c2 (iN ((e i0).1)) (vE (e i0).2 n))) m),(rf n),(λj0 hj0=>(by first | rfl | exact etaI_skip hne)),(rf (((e g).1:Nat):Int)),(rf n),(leS (λi0=>.rat ((e g).2 i0)) n),zo,zo⟩,λhc58=>have hne:h=(e g).1:=(by simp at hc58;omega);⟨(wI (g:=h) zo),h+1,(rf 0),(rf 0),(rf (m:Int)),(rf 0),(rf (g:Int)),(rf (n:Int)),zo,(rf (some (B 0))),(rf 0),(rf n),(leS (mE (luS n D n).2.1 n) n),(rf n),(leS (mE ((luS n D n).1) n) n),(rf n),(leS (λi0=>iN ((luS n D n).2.2.1 i0)) n),(rf ((luS n D n).2.2.2.2:Bool)),(rf 0),(rf n),(leS (mE C n) n),(rf m),(leS (λi0=>.agg (c2 (iN ((e i0).1)) (vE (e i0).2 n))) m),(rf n),(λj0 hj0=>(by first | rfl | exact etaI_skip hne)),(rf (((e g).1:Nat):Int)),(rf n),(leS (λi0=>.rat ((e g).2 i0)) n),zo,zo⟩⟩,λhc53=>have hc53:=dF hc53;have hi3:h=n:=zo;⟨(wI (g:=g) zo),g+1,(rf 0),(rf 0),(rf (m:Int)),zo,(rf (some (B 0))),(rf 0),(rf n),(leS (mE (luS n D n).2.1 n) n),(rf n),(leS (mE ((luS n D n).1) n) n),(rf n),(leS (λi0=>iN ((luS n D n).2.2.1 i0)) n),(rf ((luS n D n).2.2.2.2:Bool)),(rf 0),(rf n),(leS (mE C n) n),(rf m),(leS (λi0=>.agg (c2 (iN ((e i0).1)) (vE (e i0).2 n))) m),(rf n),(λj0 hj0=>(by rw[hi3];exact etaI_all (by assumption))),zo,zo⟩⟩⟩,λhc28=>have hc28:=dF hc28;have hi2:g=m:=zo;⟨(rf 0),(rf (true:Bool)),(rf (some (B 0))),(rf 0),(rf n),(leS (mE (luS n D n).2.1 n) n),(rf n),(leS (mE ((luS n D n).1) n) n),(rf n),(leS (λi0=>iN ((luS n D n).2.2.1 i0)) n),(rf ((luS n D n).2.2.2.2:Bool)),(rf 0),(rf n),(leS (mE C n) n),(rf m),(leS (λi0=>.agg (c2 (iN ((e i0).1)) (vE (e i0).2 n))) m),(rf n),(λj0 hj0=>(by rw[hi2]))⟩⟩⟩)
open Go.RowKit
theorem sMatOfF{C:Nat->Nat->Rat}{n:Nat}(hn:n<=64):CallOKm Tryz.prog 58 [.one (.var 100 (.agg (c3 (.own 1 0) (.ex (.pointer none)) (.ex sN)))),cC C n] [iN n,.own 1 0] (c2 (.agg (c2 (.sl 1 (mE C n) n) (iN n))) (bX true)) [.one (.var 100 (.agg (c3 (.own 2 0) (.ex (.pointer none)) (.ex sN)))),.dead,cC C n]:=by
 exact yR (ch:=λB=>[.reg 1 [(3,.callS (c2 (.agg (c2 (.own 0 0) (iN n))) (bX true)) [.one (.row 33 1 (λi0=>.own 1 i0) n),.fam n (λ_=>.row 47 3 (λ_=>.rat 0) n)])],.dec 18 false,.loop 5 (Nat) (λg=>g<=n) (λg=>n-g) (λg=>⟨[(0,iN n),(4,.own 2 0),(6,.own 5 0),(20,.own 1 0),(21,iN n),(22,iN g)],[(0,.one (.var 100 (.agg (c3 (.own 1 0) (.ex (.pointer none)) (.ex sN))) (some (B 0)))),(1,cC C n),(2,.one (.var 53 (.ex (.agg #[.slice none 0 0,.int .i64 0])))),(3,.one (.row 33 1 (λi0=>.own 4 i0) n)),(4,.fam n (λi0=>.row 47 3 (λi1=>.rat (yH g C i0 i1)) n)),(5,.one (.var 53 (.agg (c2 (.own 3 0) (iN n)))))],6⟩) [(0,.id 0),(1,.id 1),(2,.id 2),(3,.id 3),(4,.id 4),(5,.id 5)] (λ_=>[(0,.id 0),(1,.id 1),(2,.id 2),(3,.id 3),(4,.id 4),(5,.id 5)]) (λg=>[.reg 6 [(1,.k g)],.dec 30 false,.reg 9 [(3,.k g),(6,.rowF (λi0=>.rat (yH (g+1) C g i0)) (λi0=>.row 47 3 (λi1=>.rat (yH (g+1) C i0 i1)) n))],.reg 10 [(0,.z ((g+1:Nat):Int))],.ret 11 [(0,.id 0),(2,.id 1)]])]) hMix Tryz.func58 rfl zk zk zk (λB=>_/\((!true)=false)/\(((λX1 X2 X3 X4 X5 X6 X7 X8 X9 X10 X11 X12 X13:Prop=>∃g0:Nat,X1/\X2/\X3/\X4/\X5/\((0:Int)=(g0:Int))/\X6/\X7/\((.pointer none:Value)=.pointer none)/\X8/\X9/\((.agg #[.slice none 0 0,.int .i64 0]:Value)=.agg #[.slice none 0 0,.int .i64 0])/\X10/\(∀j0,j0<n->((j0:Nat)=j0))/\X11/\(∀j0,j0<n->((n:Nat)=n)/\(∀j1,j1<n->((0:Rat)=(yH g0 C j0 j1))))/\X12/\X13/\(g0<=n)) _ _ _ _ _ _ _ _ _ _ _ _ _)/\∀g:Nat,(g<=n)->(((decide ((g:Int)<(n:Int)))=true->_/\(g<n)/\(g<n)/\((!decide ((n:Int)=(n:Int)))=false)/\_/\(g<n)/\(g<n)/\(n<=n)/\(∀j0,j0<n->n<=j0->(.rat (yH (g+1) C g j0):SV)=.rat (yH g C g j0))/\(∀j0,j0<n->((C g j0:Rat)=(yH (g+1) C g j0)))/\(g<n)/\((.row 47 3 (λi0=>.rat (yH (g+1) C g i0)) n:OB)=.row 47 3 (λi0=>.rat (yH (g+1) C g i0)) n)/\(∀t,t<n->t≠g->(.row 47 3 (λi0=>.rat (yH (g+1) C t i0)) n:OB)=.row 47 3 (λi0=>.rat (yH g C t i0)) n)/\_/\((λX1 X2 X3 X4 X5 X6 X7 X8 X9 X10 X11 X12 X13:Prop=>∃g1:Nat,X1/\X2/\X3/\X4/\X5/\(((g+1:Nat):Int)=(g1:Int))/\X6/\X7/\((.pointer none:Value)=.pointer none)/\X8/\X9/\((.agg #[.slice none 0 0,.int .i64 0]:Value)=.agg #[.slice none 0 0,.int .i64 0])/\X10/\(∀j0,j0<n->((j0:Nat)=j0))/\X11/\(∀j0,j0<n->((n:Nat)=n)/\(∀j1,j1<n->((yH (g+1) C j0 j1:Rat)=(yH g1 C j0 j1))))/\X12/\X13/\(g1<=n)/\(n-g1<n-g)) _ _ _ _ _ _ _ _ _ _ _ _ _))/\((decide ((g:Int)<(n:Int)))=false->(_/\(∀j0,j0<n->((n:Nat)=n)/\(∀j1,j1<n->((yH g C j0 j1:Rat)=(C j0 j1)))/\(j0<n))/\_/\_/\_/\_/\((.pointer none:Value)=.pointer none)/\_/\_))))) (λB=>by kernel_rfl)
  (λB=>⟨sMatNew (m:=n) (n:=n) zo zo,rfl,⟨0,(rf (n:Int)),(rf 0),(rf 0),(rf 0),(rf (n:Int)),zo,(rf (some (B 0))),(rf 0),rfl,(rf n),(leS (mE C n) n),rfl,(rf n),(λj0 hj0=>rfl),(rf n),(λj0 hj0=>⟨rfl,(λj1 hj1=>(by rw[uptoR_zero]))⟩),(rf 0),(rf (n:Int)),zo⟩,λg hg=>⟨λhc23=>have hc23:=dT hc23;⟨(rf (g:Int)),zo,zo,zs,(rf (g:Int)),zo,zo,zo,(λj0 hj0 hm=>absurd hj0 (Nat.not_lt.2 hm)),(λj0 hj0=>(by rw[uptoR_at])),zo,rfl,(λt ht hne=>by simp only[uptoR_ne hne]),(wI (g:=g) zo),g+1,(rf (n:Int)),(rf 0),(rf 0),(rf 0),(rf (n:Int)),zo,(rf (some (B 0))),(rf 0),rfl,(rf n),(leS (mE C n) n),rfl,(rf n),(λj0 hj0=>rfl),(rf n),(λj0 hj0=>⟨rfl,(λj1 hj1=>rfl)⟩),(rf 0),(rf (n:Int)),zo,zo⟩,λhc23=>have hc23:=dF hc23;have hi2:g=n:=zo;⟨(rf n),(λj0 hj0=>⟨rfl,(λj1 hj1=>(by rw[hi2];exact uptoR_all zo)),zo⟩),(rf (n:Int)),(rf (true:Bool)),(rf (some (B 0))),(rf 0),rfl,(rf n),(leS (mE C n) n)⟩⟩⟩)
theorem sBMatrixF{C:Nat->Nat->Rat}{n:Nat}(hn:n<=64):CallOKm Tryz.prog 21 [.one (.var 100 (.agg (c3 (.own 1 0) (.ex (.pointer none)) (.ex sN)))),cC C n] [.own 0 0] (.agg (c2 (.sl 1 (mE (trM C) n) n) (iN n))) [.one (.var 100 (.agg (c3 (.own 2 0) (.ex (.pointer none)) (.ex sN)))),.dead,cC C n]:=by
 exact yR (ch:=λB=>[.reg 1 [(9,.callM [0,1] [.one (.var 100 (.agg (c3 (.own 1 0) (.ex (.pointer none)) (.ex sN))) (some (B 0))),cC C n] [iN n,.own 1 0] (c2 (.agg (c2 (.sl 1 (mE C n) n) (iN n))) (bX true)) [.one (.var 100 (.agg (c3 (.own 2 0) (.ex (.pointer none)) (.ex sN))) (some (B 0))),.dead,cC C n])],.reg 2 [(1,.callS (.agg (c2 (.sl 1 (λi0=>.sl 3 (λi1=>.rat (C i1 i0)) n) n) (iN n))) [])],.ret 2 [(0,.id 0),(2,.id 3)]]) hMix Tryz.func21 rfl zk zk zk (λB=>(CallOKm Tryz.prog 58 [.one (.var 100 (.agg (c3 (.own 1 0) (.ex (.pointer none)) (.ex sN))) (some (B 0))),cC C n] [iN n,.own 1 0] (c2 (.agg (c2 (.sl 1 (mE C n) n) (iN n))) (bX true)) [.one (.var 100 (.agg (c3 (.own 2 0) (.ex (.pointer none)) (.ex sN))) (some (B 0))),.dead,cC C n])/\_/\_/\_/\_/\_/\_/\(_/\(∀j0,j0<n->((n:Nat)=n)/\(∀j1,j1<n->((C j1 j0:Rat)=((trM C) j0 j1))))/\_/\_/\_/\((.pointer none:Value)=.pointer none)/\_/\_)) (λB=>by kernel_rfl)
  (λB=>⟨((sMatOfF (C:=C) zo)).tag0 (b:=B 0),(rf (.one (.var 100 (.agg (c3 (.own 1 0) (.ex (.pointer none)) (.ex sN))) (some (B 0))):Hl)),(rf (cC C n:Hl)),(rf (n:Int)),(rf 1),(rf 0),sMatTurned (m:=n) (n:=n) (q:=C) zo zo,(rf n),(λj0 hj0=>⟨rfl,(λj1 hj1=>rfl)⟩),(rf (n:Int)),(rf (some (B 0))),(rf 0),rfl,(rf n),(leS (mE C n) n)⟩)
theorem sBFactorF{C:Nat->Nat->Rat}{n:Nat}(hn:n<=6)(hD:HtB n n 3 (trM C))(hok:luOK n (trM C) n):CallOKm Tryz.prog 49 [.one (.var 100 (.agg (c3 (.own 1 0) (.ex (.pointer none)) (.ex sN)))),cC C n] [.own 0 0] (bX true) [.one (.var 100 (.agg (c3 (.own 2 0) (.ep (lvE (luS n (trM C) n) n)) (.ex sN)))),.dead,cC C n]:=by
 exact yR (ch:=λB=>[.reg 1 [(1,.callM [0,1] [.one (.var 100 (.agg (c3 (.own 1 0) (.ex (.pointer none)) (.ex sN))) (some (B 0))),cC C n] [.own 0 0] (.agg (c2 (.sl 1 (mE (trM C) n) n) (iN n))) [.one (.var 100 (.agg (c3 (.own 2 0) (.ex (.pointer none)) (.ex sN))) (some (B 0))),.dead,cC C n]),(2,.callS (c2 (.ep (lvE (luS n (trM C) n) n)) (bX true)) [])],.dec 11 true,.ret 4 [(0,.id 0),(2,.id 2)]]) hMix Tryz.func49 rfl zk zk zk (λB=>(CallOKm Tryz.prog 21 [.one (.var 100 (.agg (c3 (.own 1 0) (.ex (.pointer none)) (.ex sN))) (some (B 0))),cC C n] [.own 0 0] (.agg (c2 (.sl 1 (mE (trM C) n) n) (iN n))) [.one (.var 100 (.agg (c3 (.own 2 0) (.ex (.pointer none)) (.ex sN))) (some (B 0))),.dead,cC C n])/\_/\_/\_/\_/\_/\(true=true)/\(_/\_/\_/\_/\_/\_/\_/\_/\_/\_/\_/\_)) (λB=>by kernel_rfl)
  (λB=>⟨((sBMatrixF (C:=C) zo)).tag0 (b:=B 0),(rf (.one (.var 100 (.agg (c3 (.own 1 0) (.ex (.pointer none)) (.ex sN))) (some (B 0))):Hl)),(rf (cC C n:Hl)),(rf 0),(rf 0),(sLuFactor (n:=n) (q:=(trM C)) zo (lu_hH hD hn) hok),rfl,(rf (true:Bool)),(rf (some (B 0))),(rf 0),(rf n),(leS (mE (luS n (trM C) n).2.1 n) n),(rf n),(leS (mE ((luS n (trM C) n).1) n) n),(rf n),(leS (λi0=>iN ((luS n (trM C) n).2.2.1 i0)) n),(rf ((luS n (trM C) n).2.2.2.2:Bool)),(rf n),(leS (mE C n) n)⟩)
theorem sBFactorX{C:Nat->Nat->Rat}{n:Nat}(hn:n<=6)(hD:HtB n n 3 (trM C))(hok:¬luOK n (trM C) n):CallOKm Tryz.prog 49 [.one (.var 100 (.agg (c3 (.own 1 0) (.ex (.pointer none)) (.ex sN)))),cC C n] [.own 0 0] (bX false) [.one (.var 100 (.agg (c3 (.own 2 0) (.ex (.pointer none)) (.ex sN)))),.dead,cC C n]:=by
 exact yR (ch:=λB=>[.reg 1 [(1,.callM [0,1] [.one (.var 100 (.agg (c3 (.own 1 0) (.ex (.pointer none)) (.ex sN))) (some (B 0))),cC C n] [.own 0 0] (.agg (c2 (.sl 1 (mE (trM C) n) n) (iN n))) [.one (.var 100 (.agg (c3 (.own 2 0) (.ex (.pointer none)) (.ex sN))) (some (B 0))),.dead,cC C n]),(2,.callS (c2 (.ex (.pointer none)) (bX false)) [])],.dec 11 false,.ret 4 [(0,.id 0),(2,.id 2)]]) hMix Tryz.func49 rfl zk zk zk (λB=>(CallOKm Tryz.prog 21 [.one (.var 100 (.agg (c3 (.own 1 0) (.ex (.pointer none)) (.ex sN))) (some (B 0))),cC C n] [.own 0 0] (.agg (c2 (.sl 1 (mE (trM C) n) n) (iN n))) [.one (.var 100 (.agg (c3 (.own 2 0) (.ex (.pointer none)) (.ex sN))) (some (B 0))),.dead,cC C n])/\_/\_/\_/\_/\_/\(false=false)/\(_/\_/\_/\((.pointer none:Value)=.pointer none)/\_/\_)) (λB=>by kernel_rfl)
  (λB=>⟨((sBMatrixF (C:=C) zo)).tag0 (b:=B 0),(rf (.one (.var 100 (.agg (c3 (.own 1 0) (.ex (.pointer none)) (.ex sN))) (some (B 0))):Hl)),(rf (cC C n:Hl)),(rf 0),(rf 0),(sLuFactorSing (n:=n) (q:=(trM C)) zo (lu_hH hD hn) hok),rfl,(rf (false:Bool)),(rf (some (B 0))),(rf 0),rfl,(rf n),(leS (mE C n) n)⟩)
open Go.RowKit
@[simp] theorem sCol_sCol:(sCol.toList==sCol.toList)=true:=beq_self_eq_true _
@[simp] theorem sNo_sNo:(sNo.toList==sNo.toList)=true:=beq_self_eq_true _
@[simp] theorem sCol_sNo:(sCol.toList==sNo.toList)=false:=by
 have h1:sNo.toList=[]:=by simp[ByteArray.toList,ByteArray.toList.loop,ByteArray.size]
 have h2:sCol.toList.length≠0:=by simp[ByteArray.toList,ByteArray.toList.loop,ByteArray.size]
 rw[h1]
 cases h:sCol.toList with
 | nil=>rw[h] at h2;exact absurd rfl h2
 | cons a l=>rfl
theorem sWrap{s:ByteArray}{k n:Int}:CallOK Tryz.prog 48 [.ex (.iface 63 (.int .i64 n)),.ex (.string s),.ex (.int .i64 k)] (.ifc 113 (.ep (.agg (c3 (.ex (.string s)) (.ex (.int .i64 k)) (.ex (.iface 63 (.int .i64 n))))))) []:=by
 exact kP (ch:=[.dec 8 false]) Tryz.func48 ((false=false)/\(((.string s:Value)=.string s)/\_/\((.iface 63 (.int .i64 n):Value)=.iface 63 (.int .i64 n))))
  ⟨rfl,rfl,(rf (k:Int)),rfl⟩
theorem sToldE{n k:Int}:CallOK Tryz.prog 27 [.ex (.iface 63 (.int .i64 n)),.ex (.int .i64 n),.ex (.string sNo),.ex (.int .i64 k)] (bX true) []:=by
 exact kP (ch:=[.reg 1 [(1,.callS (c3 (.ex (.string sNo)) (.ex (.int .i64 0)) (bX false)) [])],.reg 2 [(1,.callS (.ex (.int .i64 n)) []),(9,.skip)],.dec 27 false]) Tryz.func27 ((CallOK Tryz.prog 23 [.ex (.iface 63 (.int .i64 n))] (c3 (.ex (.string sNo)) (.ex (.int .i64 0)) (bX false)) [])/\(CallOK Tryz.prog 63 [.ex (.iface 63 (.int .i64 n))] (.ex (.int .i64 n)) [])/\_/\_/\_/\((!decide ((n:Int)=n))=false)/\(((!decide ((n:Int)=n))==false)=true)/\((!(false==(!((sNo).toList==(sNo).toList))))=false)/\_/\_/\_/\_/\_/\_/\(((!false)==false)=true->((sNo).toList==(sNo).toList)=true->((((!false)==false)&&true)&&(((sNo).toList==(sNo).toList)==true))=true)/\((!(!false))=true->((!false)==false)=true)/\(((bif (!false) then true else(bif ((sNo).toList==(sNo).toList) then(decide ((0:Int)=k)) else false):Bool)=true)))
  ⟨sPlaceE,sNumberE,(idB ((!decide ((n:Int)=n))==false)),(idB ((!decide ((n:Int)=n))==false)),(idB ((!decide ((n:Int)=n))==false)),(by first | (simp;done) | (simp at hg)),(by first | (simp;done) | (simp at hg)),(by first | (simp;done) | (simp at hg)),(idB ((!false)==false)),(idB ((!false)==false)),(idB ((!false)==false)),(idB ((((!false)==false)&&true)&&(((sNo).toList==(sNo).toList)==true))),(idB ((((!false)==false)&&true)&&(((sNo).toList==(sNo).toList)==true))),(idB ((!false)==false)),(λhg=>(by first | (simp;done) | (simp at hg))),(by first | (simp;done) | (simp at hg)),(by first | (simp;done) | (simp at hg))⟩
theorem sToldF{n k:Int}:CallOK Tryz.prog 27 [.ifc 113 (.ep (.agg (c3 (.ex (.string sCol)) (.ex (.int .i64 k)) (.ex (.iface 63 (.int .i64 n)))))),.ex (.int .i64 n),.ex (.string sCol),.ex (.int .i64 k)] (bX true) []:=by
 exact kP (ch:=[.reg 1 [(1,.callS (c3 (.ex (.string sCol)) (.ex (.int .i64 k)) (bX true)) [])],.reg 2 [(1,.callS (.ex (.int .i64 n)) []),(9,.skip)],.dec 27 false,.reg 4 [(10,.sure .no),(11,.skip)]]) Tryz.func27 ((CallOK Tryz.prog 23 [.ifc 113 (.ep (.agg (c3 (.ex (.string sCol)) (.ex (.int .i64 k)) (.ex (.iface 63 (.int .i64 n))))))] (c3 (.ex (.string sCol)) (.ex (.int .i64 k)) (bX true)) [])/\(CallOK Tryz.prog 63 [.ifc 113 (.ep (.agg (c3 (.ex (.string sCol)) (.ex (.int .i64 k)) (.ex (.iface 63 (.int .i64 n))))))] (.ex (.int .i64 n)) [])/\_/\_/\_/\((!decide ((n:Int)=n))=false)/\(((!decide ((n:Int)=n))==false)=true)/\((!(true==(!((sCol).toList==(sNo).toList))))=false)/\_/\_/\_/\_/\_/\_/\(((!true)==false)=true->((sCol).toList==(sCol).toList)=true)/\(((!true)==false)=true->((((!true)==false)&&true)&&(((sCol).toList==(sCol).toList)==true))=true)/\((!true)=false)/\(((!true)==false)=true)/\(((decide ((k:Int)=k):Bool)=true)))
  ⟨sPlaceF,sNumberF,(idB ((!decide ((n:Int)=n))==false)),(idB ((!decide ((n:Int)=n))==false)),(idB ((!decide ((n:Int)=n))==false)),(by first | (simp;done) | (simp at hg)),(by first | (simp;done) | (simp at hg)),(by first | (simp;done) | (simp at hg)),(idB ((!true)==false)),(idB ((!true)==false)),(idB ((!true)==false)),(idB ((((!true)==false)&&true)&&(((sCol).toList==(sCol).toList)==true))),(idB ((((!true)==false)&&true)&&(((sCol).toList==(sCol).toList)==true))),(idB ((!true)==false)),(λhg=>(by first | (simp;done) | (simp at hg))),(λhg=>(by first | (simp;done) | (simp at hg))),(by first | (simp;done) | (simp at hg)),(by first | (simp;done) | (simp at hg)),(by first | (simp;done) | (simp at hg))⟩
open Go.RowKit
theorem sBNew{C:Nat->Nat->Rat}{e:Etas}{n:Nat}(hn:n<=6)(hD:HtB n n 3 (trM C))(hok:luOK n (trM C) n):CallOK Tryz.prog 13 [.sl 1 (mE C n) n] (c2 (.own 0 0) (.ex (.nilIface))) [.one (bV 1 2 (luS n (trM C) n) n),cC C n,.one (eE e n 0)]:=by
 exact kP (ch:=[.loop 3 (Nat) (λg=>g<=n) (λg=>n-g) (λg=>⟨[(0,.sl 1 (mE C n) n),(4,.own 0 0),(9,.sl 1 (mE C n) n),(10,iN n),(11,iN g)],[(0,.one (.var 100 (.agg (c3 (.own 1 0) (.ex (.pointer none)) (.ex sN))))),(1,.one (.row 33 1 (mE C n) g))],2⟩) [(0,.id 0),(1,.nil)] (λ_=>[(0,.id 0),(1,.id 2)]) (λg=>[.reg 4 [(1,.k g)],.dec 25 false,.reg 7 [(6,.callS (.sl 3 (λi0=>.rat (C g i0)) n) []),(8,.row 0 (mE C n))],.reg 8 [(0,.z ((g+1:Nat):Int))],.conv 9 [(0,.id 0),(1,.id 1)] ⟨[(4,.own 0 0)],[(0,.one (.var 100 (.agg (c3 (.own 1 0) (.ex (.pointer none)) (.ex sN))))),(1,cC C n)],2⟩,.reg 9 [(1,.callM [0,1] [.one (.var 100 (.agg (c3 (.own 1 0) (.ex (.pointer none)) (.ex sN)))),cC C n] [.own 0 0] (bX true) [.one (.var 100 (.agg (c3 (.own 2 0) (.ep (lvE (luS n (trM C) n) n)) (.ex sN)))),.dead,cC C n])],.dec 43 false,.ret 11 [(0,.id 0),(1,.id 2),(2,.nil)]])]) Tryz.func13 ((∀j0,j0<n->(∀j1,j1<n->True))/\(((λX1 X2 X3 X4 X5 X6 X7:Prop=>∃g0:Nat,X1/\X2/\X3/\X4/\X5/\X6/\((0:Int)=(g0:Int))/\X7/\((.pointer none:Value)=.pointer none)/\((g0:Nat)=0)/\(g0<=n)) _ _ _ _ _ _ _)/\∀g:Nat,(g<=n)->(((decide ((g:Int)<(n:Int)))=true->_/\(g<n)/\_/\_/\((!(!decide ((n:Int)=(n:Int))))=true->((!decide ((n:Int)=(n:Int)))==false)=true)/\((bif (!decide ((n:Int)=(n:Int))) then true else(decide ((64:Int)<(n:Int))))=false)/\_/\(g+1<=68719476736)/\_/\_/\_/\((λX1 X2 X3 X4 X5 X6 X7 X8:Prop=>∃g1:Nat,X1/\X2/\X3/\X4/\X5/\X6/\(((g+1:Nat):Int)=(g1:Int))/\X7/\((.pointer none:Value)=.pointer none)/\((g+1:Nat)=g1)/\X8/\(g1<=n)/\(n-g1<n-g)) _ _ _ _ _ _ _ _))/\((decide ((g:Int)<(n:Int)))=false->_/\_/\((.pointer none:Value)=.pointer none)/\((g:Nat)=n)/\_/\(CallOKm Tryz.prog 49 [.one (.var 100 (.agg (c3 (.own 1 0) (.ex (.pointer none)) (.ex sN)))),cC C n] [.own 0 0] (bX true) [.one (.var 100 (.agg (c3 (.own 2 0) (.ep (lvE (luS n (trM C) n) n)) (.ex sN)))),.dead,cC C n])/\_/\_/\_/\_/\((!true)=false)/\(_/\((.nilIface:Value)=.nilIface)/\_/\_/\_/\_/\_/\_/\_/\_/\_/\_/\_/\_)))))
  ⟨(λ_ _=>(λ_ _=>trivial)),⟨0,(rf n),(leS (mE C n) n),(rf 0),(rf n),(leS (mE C n) n),(rf (n:Int)),zo,(rf 0),rfl,zo,zo⟩,λg hg=>⟨λhc12=>have hc12:=dT hc12;⟨(rf (g:Int)),zo,(idB ((!decide ((n:Int)=(n:Int)))==false)),(idB ((!decide ((n:Int)=(n:Int)))==false)),zs,(by simp;omega),(kZ (n:=n) (q:=(λi=>C g i)) zo).frzV,zo,(oldS (mE C n) g),(newS (mE C n) g),(wI (g:=g) zo),g+1,(rf n),(leS (mE C n) n),(rf 0),(rf n),(leS (mE C n) n),(rf (n:Int)),zo,(rf 0),rfl,zo,(leS (mE C n) (g+1)),zo,zo⟩,λhc12=>have hc12:=dF hc12;have hi2:g=n:=zo;⟨(rf 0),(rf 0),rfl,hi2,(leS (mE C n) g),(sBFactorF hn hD hok),(rf (.one (.var 100 (.agg (c3 (.own 1 0) (.ex (.pointer none)) (.ex sN)))):Hl)),(rf (cC C n:Hl)),(rf 0),(rf 0),rfl,(rf 0),rfl,(rf 0),(rf n),(leS (mE (luS n (trM C) n).2.1 n) n),(rf n),(leS (mE ((luS n (trM C) n).1) n) n),(rf n),(leS (λi0=>iN ((luS n (trM C) n).2.2.1 i0)) n),(rf ((luS n (trM C) n).2.2.2.2:Bool)),(rf 0),(rf n),(leS (mE C n) n),(rf 0)⟩⟩⟩
theorem sBNew_sing{C:Nat->Nat->Rat}{n:Nat}(hn:n<=6)(hD:HtB n n 3 (trM C))(hok:¬luOK n (trM C) n):CallOK Tryz.prog 13 [.sl 1 (mE C n) n] (c2 (.ex (.pointer none)) (.ex (.iface 63 (.int .i64 140)))) []:=by
 exact kP (ch:=[.loop 3 (Nat) (λg=>g<=n) (λg=>n-g) (λg=>⟨[(0,.sl 1 (mE C n) n),(4,.own 0 0),(9,.sl 1 (mE C n) n),(10,iN n),(11,iN g)],[(0,.one (.var 100 (.agg (c3 (.own 1 0) (.ex (.pointer none)) (.ex sN))))),(1,.one (.row 33 1 (mE C n) g))],2⟩) [(0,.id 0),(1,.nil)] (λ_=>[(0,.id 0),(1,.id 2)]) (λg=>[.reg 4 [(1,.k g)],.dec 25 false,.reg 7 [(6,.callS (.sl 3 (λi0=>.rat (C g i0)) n) []),(8,.row 0 (mE C n))],.reg 8 [(0,.z ((g+1:Nat):Int))],.conv 9 [(0,.id 0),(1,.id 1)] ⟨[(4,.own 0 0)],[(0,.one (.var 100 (.agg (c3 (.own 1 0) (.ex (.pointer none)) (.ex sN))))),(1,cC C n)],2⟩,.reg 9 [(1,.callM [0,1] [.one (.var 100 (.agg (c3 (.own 1 0) (.ex (.pointer none)) (.ex sN)))),cC C n] [.own 0 0] (bX false) [.one (.var 100 (.agg (c3 (.own 2 0) (.ex (.pointer none)) (.ex sN)))),.dead,cC C n])],.dec 43 true])]) Tryz.func13 ((∀j0,j0<n->(∀j1,j1<n->True))/\(((λX1 X2 X3 X4 X5 X6 X7:Prop=>∃g0:Nat,X1/\X2/\X3/\X4/\X5/\X6/\((0:Int)=(g0:Int))/\X7/\((.pointer none:Value)=.pointer none)/\((g0:Nat)=0)/\(g0<=n)) _ _ _ _ _ _ _)/\∀g:Nat,(g<=n)->(((decide ((g:Int)<(n:Int)))=true->_/\(g<n)/\_/\_/\((!(!decide ((n:Int)=(n:Int))))=true->((!decide ((n:Int)=(n:Int)))==false)=true)/\((bif (!decide ((n:Int)=(n:Int))) then true else(decide ((64:Int)<(n:Int))))=false)/\_/\(g+1<=68719476736)/\_/\_/\_/\((λX1 X2 X3 X4 X5 X6 X7 X8:Prop=>∃g1:Nat,X1/\X2/\X3/\X4/\X5/\X6/\(((g+1:Nat):Int)=(g1:Int))/\X7/\((.pointer none:Value)=.pointer none)/\((g+1:Nat)=g1)/\X8/\(g1<=n)/\(n-g1<n-g)) _ _ _ _ _ _ _ _))/\((decide ((g:Int)<(n:Int)))=false->_/\_/\((.pointer none:Value)=.pointer none)/\((g:Nat)=n)/\_/\(CallOKm Tryz.prog 49 [.one (.var 100 (.agg (c3 (.own 1 0) (.ex (.pointer none)) (.ex sN)))),cC C n] [.own 0 0] (bX false) [.one (.var 100 (.agg (c3 (.own 2 0) (.ex (.pointer none)) (.ex sN)))),.dead,cC C n])/\_/\_/\_/\_/\((!false)=true)/\(((.pointer none:Value)=.pointer none)/\((.iface 63 (.int .i64 140):Value)=.iface 63 (.int .i64 140)))))))
  ⟨(λ_ _=>(λ_ _=>trivial)),⟨0,(rf n),(leS (mE C n) n),(rf 0),(rf n),(leS (mE C n) n),(rf (n:Int)),zo,(rf 0),rfl,zo,zo⟩,λg hg=>⟨λhc12=>have hc12:=dT hc12;⟨(rf (g:Int)),zo,(idB ((!decide ((n:Int)=(n:Int)))==false)),(idB ((!decide ((n:Int)=(n:Int)))==false)),zs,(by simp;omega),(kZ (n:=n) (q:=(λi=>C g i)) zo).frzV,zo,(oldS (mE C n) g),(newS (mE C n) g),(wI (g:=g) zo),g+1,(rf n),(leS (mE C n) n),(rf 0),(rf n),(leS (mE C n) n),(rf (n:Int)),zo,(rf 0),rfl,zo,(leS (mE C n) (g+1)),zo,zo⟩,λhc12=>have hc12:=dF hc12;have hi2:g=n:=zo;⟨(rf 0),(rf 0),rfl,hi2,(leS (mE C n) g),(sBFactorX hn hD hok),(rf (.one (.var 100 (.agg (c3 (.own 1 0) (.ex (.pointer none)) (.ex sN)))):Hl)),(rf (cC C n:Hl)),(rf 0),(rf 0),rfl,rfl,rfl⟩⟩⟩
theorem sBNew_len{C:Nat->Nat->Rat}{len:Nat->Nat}{n k:Nat}(hn:n<=6)(hk:k<n)(hlen:∀i,i<k->len i=n)(hne:len k≠n):CallOK Tryz.prog 13 [.sl 1 (λi0=>.sl 3 (λi1=>.rat (C i0 i1)) (len i0)) n] (c2 (.ex (.pointer none)) (.ifc 113 (.ep (.agg (c3 (.ex (.string sCol)) (iN k) (.ex (.iface 63 (.int .i64 2)))))))) []:=by
 exact kP (ch:=[.loop 3 (Nat) (λg=>g<=k) (λg=>n-g) (λg=>⟨[(0,.sl 1 (λi0=>.sl 3 (λi1=>.rat (C i0 i1)) (len i0)) n),(4,.own 0 0),(9,.sl 1 (λi0=>.sl 3 (λi1=>.rat (C i0 i1)) (len i0)) n),(10,iN n),(11,iN g)],[(0,.one (.var 100 (.agg (c3 (.own 1 0) (.ex (.pointer none)) (.ex sN))))),(1,.one (.row 33 1 (λi0=>.sl 3 (λi1=>.rat (C i0 i1)) (len i0)) g))],2⟩) [(0,.id 0),(1,.nil)] (λ_=>[(0,.id 0),(1,.id 2)]) (λg=>[.reg 4 [(1,.k g)],.reg 6 [(2,.callS (.ifc 113 (.ep (.agg (c3 (.ex (.string sCol)) (iN g) (.ex (.iface 63 (.int .i64 2))))))) [])],.reg 7 [(6,.callS (.sl 3 (λi0=>.rat (C g i0)) (len g)) []),(8,.row 0 (λi0=>.sl 3 (λi1=>.rat (C i0 i1)) (len i0)))],.reg 8 [(0,.z ((g+1:Nat):Int))],.conv 9 [(0,.id 0),(1,.id 1)] ⟨[(4,.own 0 0)],[(0,.one (.var 100 (.agg (c3 (.own 1 0) (.ex (.pointer none)) (.ex sN))))),(1,cC C n)],2⟩,.reg 9 [(1,.callM [0,1] [.one (.var 100 (.agg (c3 (.own 1 0) (.ex (.pointer none)) (.ex sN)))),cC C n] [.own 0 0] (bX false) [.one (.var 100 (.agg (c3 (.own 2 0) (.ex (.pointer none)) (.ex sN)))),.dead,cC C n])],.dec 43 false])]) Tryz.func13 ((∀j0,j0<n->(∀j1,j1<(len j0)->True))/\(((λX1 X2 X3 X4 X5 X6 X7:Prop=>∃g0:Nat,X1/\X2/\X3/\X4/\X5/\X6/\((0:Int)=(g0:Int))/\X7/\((.pointer none:Value)=.pointer none)/\((g0:Nat)=0)/\(g0<=k)) _ _ _ _ _ _ _)/\∀g:Nat,(g<=k)->(((decide ((g:Int)<(n:Int)))=true->_/\(g<n)/\_/\_/\((!(!decide (((len g:Nat):Int)=(n:Int))))=true->((!decide (((len g:Nat):Int)=(n:Int)))==false)=true)/\(((bif (!decide (((len g:Nat):Int)=(n:Int))) then true else(decide ((64:Int)<(n:Int))))=true->(CallOK Tryz.prog 48 [.ex (.iface 63 (.int .i64 2)),.ex (.string sCol),iN g] (.ifc 113 (.ep (.agg (c3 (.ex (.string sCol)) (iN g) (.ex (.iface 63 (.int .i64 2))))))) [])/\(((.pointer none:Value)=.pointer none)/\((.string sCol:Value)=.string sCol)/\((g:Int)=(k:Int))/\((.iface 63 (.int .i64 2):Value)=.iface 63 (.int .i64 2))))/\((bif (!decide (((len g:Nat):Int)=(n:Int))) then true else(decide ((64:Int)<(n:Int))))=false->_/\(g+1<=68719476736)/\_/\_/\_/\((λX1 X2 X3 X4 X5 X6 X7 X8:Prop=>∃g1:Nat,X1/\X2/\X3/\X4/\X5/\X6/\(((g+1:Nat):Int)=(g1:Int))/\X7/\((.pointer none:Value)=.pointer none)/\((g+1:Nat)=g1)/\X8/\(g1<=k)/\(n-g1<n-g)) _ _ _ _ _ _ _ _))))/\((decide ((g:Int)<(n:Int)))=false->_/\_/\((.pointer none:Value)=.pointer none)/\((g:Nat)=n)/\(∀j0,j0<g->((len j0:Nat)=n)/\(∀j1,j1<(len j0)->((C j0 j1:Rat)=(C j0 j1))))/\(CallOKm Tryz.prog 49 [.one (.var 100 (.agg (c3 (.own 1 0) (.ex (.pointer none)) (.ex sN)))),cC C n] [.own 0 0] (bX false) [.one (.var 100 (.agg (c3 (.own 2 0) (.ex (.pointer none)) (.ex sN)))),.dead,cC C n])/\_/\_/\_/\_/\((!false)=false)/\((False)/\(False))))))
  ⟨(λ_ _=>(λ_ _=>trivial)),⟨0,(rf n),(leS (λi0=>.sl 3 (λi1=>.rat (C i0 i1)) (len i0)) n),(rf 0),(rf n),(leS (λi0=>.sl 3 (λi1=>.rat (C i0 i1)) (len i0)) n),(rf (n:Int)),zo,(rf 0),rfl,zo,zo⟩,λg hg=>⟨λhc12=>have hc12:=dT hc12;have hgn:g<n:=zo;⟨(rf (g:Int)),zo,(idB ((!decide (((len g:Nat):Int)=(n:Int)))==false)),(idB ((!decide (((len g:Nat):Int)=(n:Int)))==false)),zs,λhc25=>have hgk:g=k:=(by rcases Nat.lt_or_eq_of_le hg with h | h;exact absurd hc25 (by rw[hlen g h];simp;omega);exact h);⟨sWrap,(by first | rfl | rw[hgk]),(by first | rfl | rw[hgk]),(by first | rfl | rw[hgk]),(by first | rfl | rw[hgk])⟩,λhc25=>have hgk:g<k:=(by rcases Nat.lt_or_eq_of_le hg with h | h;exact h;subst h;simp at hc25;omega);⟨(kZ (n:=len g) (q:=(λi=>C g i)) (by rw[hlen g hgk];omega)).frzV,zo,(oldS (λi0=>.sl 3 (λi1=>.rat (C i0 i1)) (len i0)) g),(newS (λi0=>.sl 3 (λi1=>.rat (C i0 i1)) (len i0)) g),(wI (g:=g) zo),g+1,(rf n),(leS (λi0=>.sl 3 (λi1=>.rat (C i0 i1)) (len i0)) n),(rf 0),(rf n),(leS (λi0=>.sl 3 (λi1=>.rat (C i0 i1)) (len i0)) n),(rf (n:Int)),zo,(rf 0),rfl,zo,(leS (λi0=>.sl 3 (λi1=>.rat (C i0 i1)) (len i0)) (g+1)),zo,zo⟩⟩,λhc12=>have hc12:=dF hc12;have hx:False:=zo;⟨(rf 0),(rf 0),rfl,hx.elim,(λj0 hj0=>⟨hx.elim,(λj1 hj1=>rfl)⟩),(sBFactorX hx.elim hx.elim hx.elim),(rf (.one (.var 100 (.agg (c3 (.own 1 0) (.ex (.pointer none)) (.ex sN)))):Hl)),(rf (cC C n:Hl)),(rf 0),(rf 0),hx.elim,hx.elim,hx.elim⟩⟩⟩
open Go.RowKit
def setE (e:Etas) (m k:Nat) (w:Nat->Rat) (t:Nat):Nat×(Nat->Rat):=if t=m then(k,w) else e t
theorem setE_self{e:Etas}{m k:Nat}{w:Nat->Rat}:setE e m k w m=(k,w):=if_pos rfl
theorem setE_ne{e:Etas}{m k t:Nat}{w:Nat->Rat}(h:t≠m):setE e m k w t=e t:=if_neg h
def setC (C:Nat->Nat->Rat) (k:Nat) (v:Nat->Rat) (j:Nat):Nat->Rat:=if j=k then v else C j
theorem setC_self{C:Nat->Nat->Rat}{k:Nat}{v:Nat->Rat}:setC C k v k=v:=if_pos rfl
theorem setC_ne{C:Nat->Nat->Rat}{k j:Nat}{v:Nat->Rat}(h:j≠k):setC C k v j=C j:=if_neg h
theorem sBReplace_sing{D C:Nat->Nat->Rat}{e:Etas}{n m:Nat}{v:Nat->Rat}{k:Nat}(hn:n<=6)(hok:luOK n D n)(hD:HtB n n 3 D)(H:EtaOK n e m)(hw:∀t,t<m->∀j,j<n->htq ((e t).2 j)<=4000)(hm:m<=8)(hv:∀j,j<n->htq (v j)<=3)(hx:∀t,t<=m->∀j,j<n->htq (zO (basX n D v) e t j)<=4000)(hk:k<n)(hz:(zO (basX n D v) e m) k=0):CallOKm Tryz.prog 22 [.one (bV 1 2 (luS n D n) n),cC C n,.one (eE e n m)] [.own 0 0,iN k,.sl 3 (λi0=>.rat (v i0)) n] (.ifc 113 (.ep (.agg (c3 (.ex (.string sCol)) (iN k) (.ex (.iface 63 (.int .i64 140))))))) [.one (bV 3 4 (luS n D n) n),.dead,.dead,cC C n,.one (eE e n m)]:=by
 exact yR (ch:=λB=>[.dec 19 false,.reg 3 [(2,.callM [0,1,2] [.one (bV 1 2 (luS n D n) n (some (B 0))),cC C n,.one (eE e n m)] [.own 0 0,.sl 3 (λi0=>.rat (v i0)) n] (c2 (.own 5 0) (bX true)) [.one (bV 3 4 (luS n D n) n (some (B 0))),.dead,.dead,cC C n,.one (eE e n m),.one (.row 47 3 (λi0=>.rat ((zO (basX n D v) e m) i0)) n)])],.dec 30 false,.reg 6 [(2,.k k),(4,.callS (bX (decide ((zO (basX n D v) e m) k=0))) [])],.dec 38 true,.reg 7 [(2,.callS (.ifc 113 (.ep (.agg (c3 (.ex (.string sCol)) (iN k) (.ex (.iface 63 (.int .i64 140))))))) [])],.ret 7 [(0,.id 0),(3,.id 3),(4,.id 4)]]) hMix Tryz.func22 rfl zk zk zk (λB=>_/\_/\_/\_/\_/\_/\((!(decide ((k:Int)<0)))=true->((decide ((k:Int)<0))==false)=true)/\((bif (decide ((k:Int)<0)) then true else(decide ((n:Int)<=(k:Int))))=false)/\_/\_/\_/\_/\_/\_/\_/\_/\((!true)=false)/\_/\(k<n)/\(k<n)/\_/\((decide ((zO (basX n D v) e m) k=0))=true)/\(CallOK Tryz.prog 48 [.ex (.iface 63 (.int .i64 140)),.ex (.string sCol),iN k] (.ifc 113 (.ep (.agg (c3 (.ex (.string sCol)) (iN k) (.ex (.iface 63 (.int .i64 140))))))) [])/\(((.string sCol:Value)=.string sCol)/\_/\((.iface 63 (.int .i64 140):Value)=.iface 63 (.int .i64 140))/\_/\_/\_/\_/\_/\_/\_/\_/\_/\_/\_/\_/\_/\_)) (λB=>by kernel_rfl)
  (λB=>⟨(idB ((decide ((k:Int)<0))==false)),(idB ((decide ((k:Int)<0))==false)),(idB ((decide ((k:Int)<0))==false)),(idB ((decide ((k:Int)<0))==false)),(idB ((decide ((k:Int)<0))==false)),(idB ((decide ((k:Int)<0))==false)),zs,(by simp;omega),((sBSolve (D:=D) (C:=C) (e:=e) (m:=m) (n:=n) (v:=v) hn hok hD H hw zo hv hx)).tag0 (b:=B 0),(rf (.one (bV 1 2 (luS n D n) n (some (B 0))):Hl)),(rf (cC C n:Hl)),(rf (.one (eE e n m):Hl)),(rf 0),(rf 0),(rf n),(leS (λi0=>.rat (v i0)) n),rfl,(rf (k:Int)),zo,zo,sRatZero (q:=(zO (basX n D v) e m) k),(decide_eq_true hz),sWrap,rfl,(rf (k:Int)),rfl,(rf (some (B 0))),(rf 0),(rf n),(leS (mE (luS n D n).2.1 n) n),(rf n),(leS (mE ((luS n D n).1) n) n),(rf n),(leS (λi0=>iN ((luS n D n).2.2.1 i0)) n),(rf ((luS n D n).2.2.2.2:Bool)),(rf 0),(rf n),(leS (mE C n) n),(rf m),(leS (λi0=>.agg (c2 (iN ((e i0).1)) (vE (e i0).2 n))) m)⟩)
theorem sBReplace{D C:Nat->Nat->Rat}{e:Etas}{n m:Nat}{v:Nat->Rat}{k:Nat}(hn:n<=6)(hok:luOK n D n)(hD:HtB n n 3 D)(H:EtaOK n e m)(hw:∀t,t<m->∀j,j<n->htq ((e t).2 j)<=4000)(hm:m<=8)(hv:∀j,j<n->htq (v j)<=3)(hx:∀t,t<=m->∀j,j<n->htq (zO (basX n D v) e t j)<=4000)(hk:k<n)(hz:(zO (basX n D v) e m) k≠0)(hm2:m<8):CallOKm Tryz.prog 22 [.one (bV 1 2 (luS n D n) n),cC C n,.one (eE e n m)] [.own 0 0,iN k,.sl 3 (λi0=>.rat (v i0)) n] (.ex (.nilIface)) [.one (bV 3 4 (luS n D n) n),.dead,.dead,cC (setC C k v) n,.one (eE (setE e m k (zO (basX n D v) e m)) n (m+1))]:=by
 exact yR (ch:=λB=>[.dec 19 false,.reg 3 [(2,.callM [0,1,2] [.one (bV 1 2 (luS n D n) n (some (B 0))),cC C n,.one (eE e n m)] [.own 0 0,.sl 3 (λi0=>.rat (v i0)) n] (c2 (.own 5 0) (bX true)) [.one (bV 3 4 (luS n D n) n (some (B 0))),.dead,.dead,cC C n,.one (eE e n m),.one (.row 47 3 (λi0=>.rat ((zO (basX n D v) e m) i0)) n)])],.dec 30 false,.reg 6 [(2,.k k),(4,.callS (bX (decide ((zO (basX n D v) e m) k=0))) [])],.dec 38 false,.conv 8 [(0,.id 0),(1,.id 3),(2,.id 4)] ⟨[(0,.own 0 0),(1,iN k),(2,.sl 3 (λi0=>.rat (v i0)) n),(7,.sl 3 (λi0=>.rat ((zO (basX n D v) e m) i0)) n)],[(0,.one (bV 1 2 (luS n D n) n (some (B 0)))),(1,cC C n),(2,.one (eE e n m))],3⟩,.reg 8 [(6,.callS (vE v n) []),(7,.k k),(8,.row 0 (mE (setC C k v) n))],.reg 9 [(9,.row 0 (λi0=>.agg (c2 (iN (((setE e m k (zO (basX n D v) e m)) i0).1)) (vE ((setE e m k (zO (basX n D v) e m)) i0).2 n))))],.dec 67 false,.ret 12 [(0,.id 0),(3,.id 1),(4,.id 3)]]) hMix Tryz.func22 rfl zk zk zk (λB=>_/\_/\_/\_/\_/\_/\((!(decide ((k:Int)<0)))=true->((decide ((k:Int)<0))==false)=true)/\((bif (decide ((k:Int)<0)) then true else(decide ((n:Int)<=(k:Int))))=false)/\_/\_/\_/\_/\_/\_/\_/\_/\((!true)=false)/\_/\(k<n)/\(k<n)/\_/\((decide ((zO (basX n D v) e m) k=0))=false)/\_/\_/\_/\_/\_/\_/\_/\_/\_/\_/\_/\_/\_/\_/\_/\_/\_/\_/\_/\_/\_/\_/\(k<n)/\(k<n)/\(((n:Nat)=n)/\(∀j0,j0<n->((v j0:Rat)=((setC C k v) k j0))))/\(∀t,t<n->t≠k->(.sl 3 (λi0=>.rat ((setC C k v) t i0)) n:SV)=.sl 3 (λi0=>.rat (C t i0)) n)/\(m+1<=68719476736)/\(∀j0,j0<m->(.agg (c2 (iN (((setE e m k (zO (basX n D v) e m)) j0).1)) (vE ((setE e m k (zO (basX n D v) e m)) j0).2 n)):SV)=.agg (c2 (iN ((e j0).1)) (vE (e j0).2 n)))/\(∀j0,j0<1->((k:Int)=((((setE e m k (zO (basX n D v) e m)) (m+j0)).1:Nat):Int))/\((n:Nat)=n)/\(∀j1,j1<n->(((zO (basX n D v) e m) j1:Rat)=(((setE e m k (zO (basX n D v) e m)) (m+j0)).2 j1))))/\((decide ((8:Int)<((m+1:Nat):Int)))=false)/\(((.nilIface:Value)=.nilIface)/\_/\_/\_/\_/\_/\_/\_/\_/\_/\_/\_/\_/\_/\_)) (λB=>by kernel_rfl)
  (λB=>⟨(idB ((decide ((k:Int)<0))==false)),(idB ((decide ((k:Int)<0))==false)),(idB ((decide ((k:Int)<0))==false)),(idB ((decide ((k:Int)<0))==false)),(idB ((decide ((k:Int)<0))==false)),(idB ((decide ((k:Int)<0))==false)),zs,(by simp;omega),((sBSolve (D:=D) (C:=C) (e:=e) (m:=m) (n:=n) (v:=v) hn hok hD H hw zo hv hx)).tag0 (b:=B 0),(rf (.one (bV 1 2 (luS n D n) n (some (B 0))):Hl)),(rf (cC C n:Hl)),(rf (.one (eE e n m):Hl)),(rf 0),(rf 0),(rf n),(leS (λi0=>.rat (v i0)) n),rfl,(rf (k:Int)),zo,zo,sRatZero (q:=(zO (basX n D v) e m) k),(decide_eq_false hz),(rf 0),(rf (k:Int)),(rf n),(leS (λi0=>.rat (v i0)) n),(rf n),(leS (λi0=>.rat ((zO (basX n D v) e m) i0)) n),(rf (some (B 0))),(rf 0),(rf n),(leS (mE (luS n D n).2.1 n) n),(rf n),(leS (mE ((luS n D n).1) n) n),(rf n),(leS (λi0=>iN ((luS n D n).2.2.1 i0)) n),(rf ((luS n D n).2.2.2.2:Bool)),(rf 0),(rf n),(leS (mE C n) n),(rf m),(leS (λi0=>.agg (c2 (iN ((e i0).1)) (vE (e i0).2 n))) m),(kZ (n:=n) (q:=v) zo).frzV,(rf (k:Int)),zo,zo,⟨rfl,(λj0 hj0=>(by rw[setC_self]))⟩,(λt ht hne=>by simp only[setC_ne hne]),zo,(λj0 hj0=>by simp only[setE_ne (Nat.ne_of_lt hj0)]),(λj0 hj0=>by obtain rfl:j0=0:=zo;simp[setE_self]),(by simp;omega),rfl,(rf (some (B 0))),(rf 0),(rf n),(leS (mE (luS n D n).2.1 n) n),(rf n),(leS (mE ((luS n D n).1) n) n),(rf n),(leS (λi0=>iN ((luS n D n).2.2.1 i0)) n),(rf ((luS n D n).2.2.2.2:Bool)),(rf 0),(rf n),(leS (mE (setC C k v) n) n),(rf (m+1:Nat)),(leS (λi0=>.agg (c2 (iN (((setE e m k (zO (basX n D v) e m)) i0).1)) (vE ((setE e m k (zO (basX n D v) e m)) i0).2 n))) (m+1))⟩)
open Go.RowKit
theorem dB3:∀n,n<=5->dB 3 n<=1951
 | 0,_=>by decide
 | 1,_ | 2,_ | 3,_ | 4,_ | 5,_=>by decide
 | n+6,h=>by omega
theorem sol_ht{n:Nat}{A:Nat->Nat->Rat}{b x:Nat->Rat}(hn:n<=5)(hA:HtB n n 3 A)(hb:∀i,i<n->htq (b i)<=3)(hd:cdet n A≠0)(h:∀r,r<n->sumQ (λj=>A r j*x j) n=b r):∀j,j<n->htq (x j)<=3910:=λj hj=>by
 have hd':det n A≠0:=by rw[xZ];exact hd
 rw[←cram_div hd' h hj]
 have h1:=(det_ht n (E:=3) (q:=A) λi hi k hk=>by have:=hA i hi k hk;omega).1
 have h2:=(det_ht n (E:=3) (q:=putC A j b) λi hi k hk=>by
  unfold putC
  split
  ·exact hb i hi
  ·have:=hA i hi k hk;omega).1
 have h3:=ht_div (det n (putC A j b)) (det n A)
 have h4:=dB3 n hn
 omega
theorem dot_sumB(a b:Nat->Rat):∀n,dotQ a b n=sumQ (λi=>a i*b i) n
 | 0=>rfl
 | n+1=>by show dotQ a b n+a n*b n=sumQ _ n+a n*b n;rw[dot_sumB a b n]
theorem sum_ht{a b:Nat->Rat}{S T:Nat}(n:Nat)(ha:∀i,i<n->htq (a i)<=S)(hb:∀i,i<n->htq (b i)<=T):htq (sumQ (λi=>a i*b i) n)<=n*(S+T+1)+1:=by
 rw[←dot_sumB];exact ht_dot n ha hb
theorem sz3{n:Nat}{A:Nat->Nat->Rat}(h:HtB n n 3 A):∀i,i<n->∀j,j<n->szq (A i j)<=4:=λi hi j hj=>by
 have:=h i hi j hj
 have:=jB (A i j)
 omega
theorem HtB.tr{n B:Nat}{A:Nat->Nat->Rat}(h:HtB n n B A):HtB n n B (trM A):=λi hi j hj=>h j hj i hi
structure BOK (n:Nat) (D C:Nat->Nat->Rat) (e:Etas) (m:Nat):Prop where
 ok:luOK n D n
 H:EtaOK n e m
 hm:m<=8
 ht:∀t,t<=m->HtB n n 3 (etaM n D e t)
 is:∀c,c<n->∀r,r<n->C c r=etaM n D e m r c
 w:∀t,t<m->∀j,j<n->htq ((e t).2 j)<=4000
section
variable {n m:Nat} {D C:Nat->Nat->Rat} {e:Etas} {v:Nat->Rat}
theorem BOK.hD(h:BOK n D C e m):HtB n n 3 D:=h.ht 0 (Nat.zero_le _)
theorem BOK.det(h:BOK n D C e m){t:Nat}(ht:t<=m):cdet n (etaM n D e t)≠0:=etaM_det h.H (by rw[←xZ];exact lu_det_ne (sz3 h.hD) h.ok) t ht
theorem BOK.step(h:BOK n D C e m)(v:Nat->Rat){t:Nat}(ht:t<=m){r:Nat}(hr:r<n):sumQ (λj=>etaM n D e t r j*zO (basX n D v) e t j) n=v r:=
 (etaXs_ok h.H (basX n D v) r t ht).trans (lu_solves h.ok hr)
theorem BOK.x(h:BOK n D C e m)(hn:n<=5)(hv:∀j,j<n->htq (v j)<=3):∀t,t<=m->∀j,j<n->htq (zO (basX n D v) e t j)<=4000:=λt ht j hj=>
 Nat.le_trans (sol_ht hn (h.ht t ht) hv (h.det ht) (λr hr=>h.step v ht hr) j hj) zd
theorem BOK.back(h:BOK n D C e m)(v:Nat->Rat){t:Nat}(ht:t<=m){j:Nat}(hj:j<n):rowM n (etaM n D e t) (basY n D (yA n m v e m)) j=yA n m v e (m-t) j:=
 etaZs_back h.H (λ_ hj=>lu_solvesT h.ok hj) t ht j hj
theorem BOK.rowS(h:BOK n D C e m)(v:Nat->Rat){j:Nat}(hj:j<n):sumQ (λi=>basY n D (yA n m v e m) i*C j i) n=v j:=by
 have h1:=h.back v (Nat.le_refl m) hj
 rw[Nat.sub_self] at h1
 refine Eq.trans (zH n λi hi=>by rw[h.is j hj i hi]) h1
theorem BOK.y(h:BOK n D C e m)(hn:n<=5)(hv:∀j,j<n->htq (v j)<=3):∀j,j<n->htq (basY n D (yA n m v e m) j)<=3910:=
 sol_ht hn (HtB.tr (h.ht m (Nat.le_refl m))) hv (by rw[cdet_trM];exact h.det (Nat.le_refl m)) λr hr=>by
  have h1:=h.back v (Nat.le_refl m) hr
  rw[Nat.sub_self] at h1
  refine Eq.trans (zH n λi hi=>?_) h1
  show etaM n D e m i r*_=_*etaM n D e m i r
  grind
theorem BOK.z(h:BOK n D C e m)(hn:n<=5)(hv:∀j,j<n->htq (v j)<=3):∀t,t<=m->∀j,j<n->htq (yA n m v e t j)<=20000:=λt ht j hj=>by
 have h1:=h.back v (t:=m-t) zo hj
 rw[show m-(m-t)=t by omega] at h1
 rw[←h1]
 have h2:=sum_ht n (h.y hn hv) (b:=λi=>etaM n D e (m-t) i j) (T:=3) λi hi=>by
  have:=h.ht (m-t) zo i hi j hj
  omega
 exact Nat.le_trans h2 (Nat.le_trans (Nat.succ_le_succ (Nat.mul_le_mul_right _ hn)) zd)
theorem BOK.fresh{e:Etas}(hn:luOK n (trM C) n)(hC:HtB n n 3 (trM C)):BOK n (trM C) C e 0:=
 ⟨hn,⟨λt ht=>absurd ht (Nat.not_lt_zero t),λt ht=>absurd ht (Nat.not_lt_zero t)⟩,by omega,λt ht=>by rw[Nat.le_zero.1 ht];exact hC,λc _ r _=>rfl,λt ht=>absurd ht (Nat.not_lt_zero t)⟩
theorem luOK_of{A:Nat->Nat->Rat}(hA:HtB n n 3 A)(hd:cdet n A≠0):luOK n A n:=(lu_or (sz3 hA) n (Nat.le_refl n)).resolve_right hd
theorem luOK_iff{A:Nat->Nat->Rat}(hA:HtB n n 3 A):luOK n A n↔cdet n A≠0:=⟨λh=>by rw[←xZ];exact lu_det_ne (sz3 hA) h,luOK_of hA⟩
variable {k:Nat}
theorem BOK.mul(h:BOK n D C e m)(v:Nat->Rat){r:Nat}(hr:r<n):mulV n (etaM n D e m) (zO (basX n D v) e m) r=v r:=h.step v (Nat.le_refl m) hr
theorem BOK.htC(h:BOK n D C e m)(hv:∀j,j<n->htq (v j)<=2):HtB n n 3 (trM (setC C k v)):=λi hi j hj=>by
 show htq (setC C k v j i)+1<=3
 by_cases e1:j=k
 ·rw[e1,setC_self];have:=hv i hi;omega
 ·rw[setC_ne e1,h.is j hj i hi];exact h.ht m (Nat.le_refl m) i hi j hj
theorem BOK.setI(h:BOK n D C e m){i j:Nat}(hi:i<n)(hj:j<n):setC C k v j i=putC (etaM n D e m) k (mulV n (etaM n D e m) (zO (basX n D v) e m)) i j:=by
 by_cases e1:j=k
 ·rw[e1,setC_self,putC_self,h.mul v hi]
 ·rw[setC_ne e1,putC_ne e1,h.is j hj i hi]
theorem BOK.put(h:BOK n D C e m)(hn:n<=5)(hk:k<n)(hv:∀j,j<n->htq (v j)<=2)(hz:zO (basX n D v) e m k≠0)(hm:m<8):BOK n D (setC C k v) (setE e m k (zO (basX n D v) e m)) (m+1):=by
 have hc:∀t,t<=m->etaM n D (setE e m k (zO (basX n D v) e m)) t=etaM n D e t:=λt ht=>etaM_cong t λi hi=>setE_ne zo
 have hl:etaM n D (setE e m k (zO (basX n D v) e m)) (m+1)=putC (etaM n D e m) k (mulV n (etaM n D e m) (zO (basX n D v) e m)):=by
  show putC (etaM n D _ m) (setE e m k _ m).1 (mulV n (etaM n D _ m) (setE e m k _ m).2)=_
  rw[hc m (Nat.le_refl m),setE_self]
 refine⟨h.ok,⟨λt ht=>?_,λt ht=>?_⟩,by omega,λt ht=>?_,λc hc2 r hr=>?_,λt ht j hj=>?_⟩
 ·by_cases e1:t=m
  ·rw[e1,setE_self];exact hk
  ·rw[setE_ne e1];exact h.H.at_ t zo
 ·by_cases e1:t=m
  ·rw[e1,setE_self];exact hz
  ·rw[setE_ne e1];exact h.H.ne t zo
 ·by_cases e1:t=m+1
  ·rw[e1,hl]
   intro i hi j hj
   rw[←h.setI hi hj]
   exact h.htC hv i hi j hj
  ·rw[hc t zo];exact h.ht t zo
 ·rw[hl];exact h.setI hr hc2
 ·by_cases e1:t=m
  ·rw[e1,setE_self];exact h.x hn (λj hj=>Nat.le_trans (hv j hj) zd) m (Nat.le_refl m) j hj
  ·rw[setE_ne e1];exact h.w t zo j hj
end
open Go.RowKit
structure BS where
 D:Nat->Nat->Rat
 C:Nat->Nat->Rat
 e:Etas
 m:Nat
section
variable {n l:Nat} {s:BS} {k:Int} {v:Nat->Rat}
theorem CallOKm.res{P:Program}{f:FuncId}{ins outs:List Hl}{A:List SV}{R R':SV}(h:CallOKm P f ins A R outs)(hR:∀η A w v,R.R η A w v->R'.R η A w v):CallOKm P f ins A R' outs:=
 ⟨h.cal,λη0 M F w vals H hA=>(h.run η0 M F w vals H hA).mono λ_ _ ⟨v,η,e1,hp,hr,hx⟩=>⟨v,η,e1,hp,hR _ _ _ _ hr,hx⟩⟩
end
open Go.RowKit
theorem sBSolveT{D C:Nat->Nat->Rat}{e:Etas}{n m:Nat}{v:Nat->Rat}(hn:n<=6)(hok:luOK n D n)(hD:HtB n n 3 D)(H:EtaOK n e m)(hw:∀t,t<m->∀j,j<n->htq ((e t).2 j)<=4000)(hm:m<=64)(hz:∀t,t<=m->∀j,j<n->htq (yA n m v e t j)<=20000):CallOKm Tryz.prog 18 [.one (bV 1 2 (luS n D n) n),cC C n,.one (eE e n m)] [.own 0 0,.sl 3 (λi0=>.rat (v i0)) n] (c2 (.sl 3 (λi0=>.rat (basY n D (yA n m v e m) i0)) n) (bX true)) [.one (bV 3 4 (luS n D n) n),.dead,.dead,cC C n,.one (eE e n m)]:=by
 exact yR (ch:=λB=>[.dec 17 false,.reg 3 [(1,.callS (.own 0 0) [.one (.row 47 3 (λi0=>.rat (v i0)) n)])],.conv 4 [(0,.id 0),(1,.id 1),(2,.id 2),(3,.id 3)] ⟨[(0,.own 0 0),(6,.own 3 0)],[(0,.one (bV 1 2 (luS n D n) n (some (B 0)))),(1,cC C n),(2,.one (eE e n m)),(3,.one (.row 47 3 (λi0=>.rat ((yA n m v e 0) i0)) n))],4⟩,.reg 4 [(5,.z ((m:Int)-1-((0:Nat):Int)))],.loop 5 (Nat) (λg=>g<=m) (λg=>m-g) (λg=>⟨[(0,.own 0 0),(6,.own 3 0),(7,iZ ((m:Int)-1-(g:Int)))],[(0,.one (bV 1 2 (luS n D n) n (some (B 0)))),(1,cC C n),(2,.one (eE e n m)),(3,.one (.row 47 3 (λi0=>.rat ((yA n m v e g) i0)) n))],4⟩) [(0,.id 0),(1,.id 1),(2,.id 2),(3,.id 3)] (λ_=>[(0,.id 0),(1,.id 1),(2,.id 2),(3,.id 3)]) (λg=>[.reg 7 [(5,.k (m-1-g))],.loop 9 (Nat) (λh=>h<=n) (λh=>n-h) (λh=>⟨[(0,.own 0 0),(6,.own 3 0),(7,iZ ((m:Int)-1-(g:Int))),(8,.own 4 0),(38,iN n),(39,iN h)],[(0,.one (bV 1 2 (luS n D n) n (some (B 0)))),(1,cC C n),(2,.one (eE e n m)),(3,.one (.row 47 3 (λi0=>.rat (etaJ (e (m-1-g)).1 (e (m-1-g)).2 (yA n m v e g) h i0)) n)),(4,.one (.var 108 (.agg (c2 (iN ((e (m-1-g)).1)) (vE (e (m-1-g)).2 n)))))],5⟩) [(0,.id 0),(1,.id 1),(2,.id 2),(3,.id 3),(4,.id 4)] (λ_=>[(0,.id 0),(1,.id 1),(2,.id 2),(3,.id 3),(4,.id 4)]) (λh=>[.reg 12 [(6,.k ((e (m-1-g)).1)),(11,.k h),(15,.k h),(17,.callS (.rat (((e (m-1-g)).2 h)*(etaJ (e (m-1-g)).1 (e (m-1-g)).2 (yA n m v e g) h h))) []),(18,.callS (.rat ((etaJ (e (m-1-g)).1 (e (m-1-g)).2 (yA n m v e g) h ((e (m-1-g)).1))-(((e (m-1-g)).2 h)*(etaJ (e (m-1-g)).1 (e (m-1-g)).2 (yA n m v e g) h h)))) []),(19,.k ((e (m-1-g)).1)),(20,.row 0 (λi0=>.rat (etaJ (e (m-1-g)).1 (e (m-1-g)).2 (yA n m v e g) (h+1) i0)))],.reg 13 [(0,.z ((h+1:Nat):Int))],.reg 13 [(0,.z ((h+1:Nat):Int))],.reg 14 [(6,.k ((e (m-1-g)).1)),(12,.k ((e (m-1-g)).1)),(14,.callS (c2 (.rat ((etaJ (e (m-1-g)).1 (e (m-1-g)).2 (yA n m v e g) h ((e (m-1-g)).1))/((e (m-1-g)).2 ((e (m-1-g)).1)))) (bX (!decide (((e (m-1-g)).2 ((e (m-1-g)).1))=0)))) []),(18,.k ((e (m-1-g)).1)),(19,.row 0 (λi0=>.rat (etaZ n (e (m-1-g)).1 (e (m-1-g)).2 (yA n m v e g) i0)))],.reg 6 [(1,.z ((m:Int)-1-((g+1:Nat):Int)))]]),.conv 15 [(0,.id 0),(1,.id 1),(2,.id 2)] ⟨[(0,.own 0 0),(6,.sl 3 (λi0=>.rat ((yA n m v e m) i0)) n)],[(0,.one (bV 1 2 (luS n D n) n (some (B 0)))),(1,cC C n),(2,.one (eE e n m))],3⟩,.reg 15 [(5,.callS (c2 (.sl 3 (λi0=>.rat (luW n (luS n D n).1 (luS n D n).2.1 (yA n m v e m) ((luS n D n).2.2.2.1 i0))) n) (bX true)) [])],.ret 15 [(0,.id 0),(3,.id 1),(4,.id 2)]])]) hMix Tryz.func18 rfl zk zk zk (λB=>((!decide ((n:Int)=(n:Int)))=false)/\_/\_/\_/\_/\_/\_/\_/\_/\_/\_/\_/\_/\_/\_/\_/\_/\_/\_/\(∀j0,j0<n->((v j0:Rat)=((yA n m v e 0) j0)))/\(IntKind.wrap .i64 ((m:Int)-1)=((m:Int)-1-((0:Nat):Int)))/\(((λX1 X2 X3 X4 X5 X6 X7 X8 X9 X10 X11 X12 X13 X14 X15 X16 X17:Prop=>∃g0:Nat,X1/\X2/\(((m:Int)-1-((0:Nat):Int):Int)=((m:Int)-1-(g0:Int)))/\X3/\X4/\X5/\X6/\X7/\X8/\X9/\X10/\X11/\X12/\X13/\X14/\X15/\X16/\X17/\(∀j0,j0<n->(((yA n m v e 0) j0:Rat)=((yA n m v e g0) j0)))/\(g0<=m)) _ _ _ _ _ _ _ _ _ _ _ _ _ _ _ _ _)/\∀g:Nat,(g<=m)->(((decide ((0:Int)<=((m:Int)-1-(g:Int))))=true->(((m:Int)-1-(g:Int):Int)=((m-1-g:Nat):Int))/\((m-1-g)<m)/\((m-1-g)<m)/\(((λX1 X2 X3 X4 X5 X6 X7 X8 X9 X10 X11 X12 X13 X14 X15 X16 X17 X18 X19 X20 X21 X22 X23:Prop=>∃h0:Nat,X1/\X2/\X3/\X4/\X5/\((0:Int)=(h0:Int))/\X6/\X7/\X8/\X9/\X10/\X11/\X12/\X13/\X14/\X15/\X16/\X17/\X18/\X19/\X20/\(∀j0,j0<n->(((yA n m v e g) j0:Rat)=(etaJ (e (m-1-g)).1 (e (m-1-g)).2 (yA n m v e g) h0 j0)))/\X21/\X22/\X23/\(h0<=n)) _ _ _ _ _ _ _ _ _ _ _ _ _ _ _ _ _ _ _ _ _ _ _)/\∀h:Nat,(h<=n)->(((decide ((h:Int)<(n:Int)))=true->(((!decide ((h:Int)=(((e (m-1-g)).1:Nat):Int)))=true->_/\(((e (m-1-g)).1)<n)/\(((e (m-1-g)).1)<n)/\_/\(h<n)/\_/\(h<n)/\(h<n)/\_/\_/\_/\(((e (m-1-g)).1)<n)/\(((e (m-1-g)).1)<n)/\((((etaJ (e (m-1-g)).1 (e (m-1-g)).2 (yA n m v e g) h ((e (m-1-g)).1))-(((e (m-1-g)).2 h)*(etaJ (e (m-1-g)).1 (e (m-1-g)).2 (yA n m v e g) h h)):Rat)=(etaJ (e (m-1-g)).1 (e (m-1-g)).2 (yA n m v e g) (h+1) ((e (m-1-g)).1))))/\(∀t,t<n->t≠((e (m-1-g)).1)->(.rat (etaJ (e (m-1-g)).1 (e (m-1-g)).2 (yA n m v e g) (h+1) t):SV)=.rat (etaJ (e (m-1-g)).1 (e (m-1-g)).2 (yA n m v e g) h t))/\_/\((λX1 X2 X3 X4 X5 X6 X7 X8 X9 X10 X11 X12 X13 X14 X15 X16 X17 X18 X19 X20 X21 X22 X23:Prop=>∃h1:Nat,X1/\X2/\X3/\X4/\X5/\(((h+1:Nat):Int)=(h1:Int))/\X6/\X7/\X8/\X9/\X10/\X11/\X12/\X13/\X14/\X15/\X16/\X17/\X18/\X19/\X20/\(∀j0,j0<n->((etaJ (e (m-1-g)).1 (e (m-1-g)).2 (yA n m v e g) (h+1) j0:Rat)=(etaJ (e (m-1-g)).1 (e (m-1-g)).2 (yA n m v e g) h1 j0)))/\X21/\X22/\X23/\(h1<=n)/\(n-h1<n-h)) _ _ _ _ _ _ _ _ _ _ _ _ _ _ _ _ _ _ _ _ _ _ _))/\((!decide ((h:Int)=(((e (m-1-g)).1:Nat):Int)))=false->_/\((λX1 X2 X3 X4 X5 X6 X7 X8 X9 X10 X11 X12 X13 X14 X15 X16 X17 X18 X19 X20 X21 X22 X23:Prop=>∃h1:Nat,X1/\X2/\X3/\X4/\X5/\(((h+1:Nat):Int)=(h1:Int))/\X6/\X7/\X8/\X9/\X10/\X11/\X12/\X13/\X14/\X15/\X16/\X17/\X18/\X19/\X20/\(∀j0,j0<n->((etaJ (e (m-1-g)).1 (e (m-1-g)).2 (yA n m v e g) h j0:Rat)=(etaJ (e (m-1-g)).1 (e (m-1-g)).2 (yA n m v e g) h1 j0)))/\X21/\X22/\X23/\(h1<=n)/\(n-h1<n-h)) _ _ _ _ _ _ _ _ _ _ _ _ _ _ _ _ _ _ _ _ _ _ _))))/\((decide ((h:Int)<(n:Int)))=false->_/\(((e (m-1-g)).1)<n)/\(((e (m-1-g)).1)<n)/\_/\(((e (m-1-g)).1)<n)/\_/\_/\(((e (m-1-g)).1)<n)/\(((e (m-1-g)).1)<n)/\((((etaJ (e (m-1-g)).1 (e (m-1-g)).2 (yA n m v e g) h ((e (m-1-g)).1))/((e (m-1-g)).2 ((e (m-1-g)).1)):Rat)=(etaZ n (e (m-1-g)).1 (e (m-1-g)).2 (yA n m v e g) ((e (m-1-g)).1))))/\(∀t,t<n->t≠((e (m-1-g)).1)->(.rat (etaZ n (e (m-1-g)).1 (e (m-1-g)).2 (yA n m v e g) t):SV)=.rat (etaJ (e (m-1-g)).1 (e (m-1-g)).2 (yA n m v e g) h t))/\(IntKind.wrap .i64 (((m:Int)-1-(g:Int):Int)-1)=((m:Int)-1-((g+1:Nat):Int)))/\((λX1 X2 X3 X4 X5 X6 X7 X8 X9 X10 X11 X12 X13 X14 X15 X16 X17:Prop=>∃g1:Nat,X1/\X2/\(((m:Int)-1-((g+1:Nat):Int):Int)=((m:Int)-1-(g1:Int)))/\X3/\X4/\X5/\X6/\X7/\X8/\X9/\X10/\X11/\X12/\X13/\X14/\X15/\X16/\X17/\(∀j0,j0<n->((etaZ n (e (m-1-g)).1 (e (m-1-g)).2 (yA n m v e g) j0:Rat)=((yA n m v e g1) j0)))/\(g1<=m)/\(m-g1<m-g)) _ _ _ _ _ _ _ _ _ _ _ _ _ _ _ _ _)))))/\((decide ((0:Int)<=((m:Int)-1-(g:Int))))=false->_/\_/\(∀j0,j0<n->(((yA n m v e g) j0:Rat)=((yA n m v e m) j0)))/\_/\_/\_/\_/\_/\_/\_/\_/\_/\_/\_/\_/\_/\_/\_/\(_/\(∀j0,j0<n->((luW n (luS n D n).1 (luS n D n).2.1 (yA n m v e m) ((luS n D n).2.2.2.1 j0):Rat)=(basY n D (yA n m v e m) j0)))/\_/\_/\_/\_/\_/\_/\_/\_/\_/\_/\_/\_/\_/\_/\_))))) (λB=>by kernel_rfl)
  (λB=>⟨zs,kZ (n:=n) (q:=v) zo,(rf 0),(rf 0),(rf (some (B 0))),(rf 0),(rf n),(leS (mE (luS n D n).2.1 n) n),(rf n),(leS (mE ((luS n D n).1) n) n),(rf n),(leS (λi0=>iN ((luS n D n).2.2.1 i0)) n),(rf ((luS n D n).2.2.2.2:Bool)),(rf 0),(rf n),(leS (mE C n) n),(rf m),(leS (λi0=>.agg (c2 (iN ((e i0).1)) (vE (e i0).2 n))) m),(rf n),(λj0 hj0=>rfl),(by rw[IntKind.wrap_i64];omega),⟨0,(rf 0),(rf 0),zo,(rf (some (B 0))),(rf 0),(rf n),(leS (mE (luS n D n).2.1 n) n),(rf n),(leS (mE ((luS n D n).1) n) n),(rf n),(leS (λi0=>iN ((luS n D n).2.2.1 i0)) n),(rf ((luS n D n).2.2.2.2:Bool)),(rf 0),(rf n),(leS (mE C n) n),(rf m),(leS (λi0=>.agg (c2 (iN ((e i0).1)) (vE (e i0).2 n))) m),(rf n),(λj0 hj0=>rfl),zo⟩,λg hg=>⟨λhc27=>have hc27:=dT hc27;have hgm:g<m:=zo;have hk:=H.at_ (m-1-g) zo;have hw1:=hw (m-1-g) zo;have hz1:=hz g zo;have hdv:=etaP_div hz1 hw1 hk zo;⟨zo,zo,zo,⟨0,(rf 0),(rf 0),(rf ((m:Int)-1-(g:Int):Int)),(rf 0),(rf (n:Int)),zo,(rf (some (B 0))),(rf 0),(rf n),(leS (mE (luS n D n).2.1 n) n),(rf n),(leS (mE ((luS n D n).1) n) n),(rf n),(leS (λi0=>iN ((luS n D n).2.2.1 i0)) n),(rf ((luS n D n).2.2.2.2:Bool)),(rf 0),(rf n),(leS (mE C n) n),(rf m),(leS (λi0=>.agg (c2 (iN ((e i0).1)) (vE (e i0).2 n))) m),(rf n),(λj0 hj0=>etaJ_zero),(rf (((e (m-1-g)).1:Nat):Int)),(rf n),(leS (λi0=>.rat ((e (m-1-g)).2 i0)) n),zo⟩,λh hh=>⟨λhc40=>have hc40:=dT hc40;have hhn:h<n:=zo;⟨λhc45=>have hne:h≠(e (m-1-g)).1:=(by simp at hc45;omega);have hr:=etaP_room hz1 hw1 hk zo hhn hne;⟨(rf (((e (m-1-g)).1:Nat):Int)),zo,zo,(rf (h:Int)),zo,(rf (h:Int)),zo,zo,uB (p:=(e (m-1-g)).2 h) (q:=etaJ (e (m-1-g)).1 (e (m-1-g)).2 (yA n m v e g) h h) hr.1,sRatSub (p:=etaJ (e (m-1-g)).1 (e (m-1-g)).2 (yA n m v e g) h ((e (m-1-g)).1)) (q:=((e (m-1-g)).2 h)*(etaJ (e (m-1-g)).1 (e (m-1-g)).2 (yA n m v e g) h h)) hr.2,(rf (((e (m-1-g)).1:Nat):Int)),zo,zo,(etaP_at hne),(λt ht hne2=>by rw[etaJ_ne hne2,etaJ_ne hne2]),(wI (g:=h) zo),h+1,(rf 0),(rf 0),(rf ((m:Int)-1-(g:Int):Int)),(rf 0),(rf (n:Int)),zo,(rf (some (B 0))),(rf 0),(rf n),(leS (mE (luS n D n).2.1 n) n),(rf n),(leS (mE ((luS n D n).1) n) n),(rf n),(leS (λi0=>iN ((luS n D n).2.2.1 i0)) n),(rf ((luS n D n).2.2.2.2:Bool)),(rf 0),(rf n),(leS (mE C n) n),(rf m),(leS (λi0=>.agg (c2 (iN ((e i0).1)) (vE (e i0).2 n))) m),(rf n),(λj0 hj0=>(by first | rfl | exact etaJ_skip hne)),(rf (((e (m-1-g)).1:Nat):Int)),(rf n),(leS (λi0=>.rat ((e (m-1-g)).2 i0)) n),zo,zo⟩,λhc45=>have hne:h=(e (m-1-g)).1:=(by simp at hc45;omega);⟨(wI (g:=h) zo),h+1,(rf 0),(rf 0),(rf ((m:Int)-1-(g:Int):Int)),(rf 0),(rf (n:Int)),zo,(rf (some (B 0))),(rf 0),(rf n),(leS (mE (luS n D n).2.1 n) n),(rf n),(leS (mE ((luS n D n).1) n) n),(rf n),(leS (λi0=>iN ((luS n D n).2.2.1 i0)) n),(rf ((luS n D n).2.2.2.2:Bool)),(rf 0),(rf n),(leS (mE C n) n),(rf m),(leS (λi0=>.agg (c2 (iN ((e i0).1)) (vE (e i0).2 n))) m),(rf n),(λj0 hj0=>(by first | rfl | exact etaJ_skip hne)),(rf (((e (m-1-g)).1:Nat):Int)),(rf n),(leS (λi0=>.rat ((e (m-1-g)).2 i0)) n),zo,zo⟩⟩,λhc40=>have hc40:=dF hc40;have hi3:h=n:=zo;⟨(rf (((e (m-1-g)).1:Nat):Int)),zo,zo,(rf (((e (m-1-g)).1:Nat):Int)),zo,sRatDiv (p:=etaJ (e (m-1-g)).1 (e (m-1-g)).2 (yA n m v e g) h ((e (m-1-g)).1)) (q:=(e (m-1-g)).2 ((e (m-1-g)).1)) (by rw[hi3];exact hdv),(rf (((e (m-1-g)).1:Nat):Int)),zo,zo,(by rw[hi3];exact etaJ_div),(λt ht hne2=>by rw[hi3,etaJ_all hne2]),(by rw[IntKind.wrap_i64];omega),g+1,(rf 0),(rf 0),zo,(rf (some (B 0))),(rf 0),(rf n),(leS (mE (luS n D n).2.1 n) n),(rf n),(leS (mE ((luS n D n).1) n) n),(rf n),(leS (λi0=>iN ((luS n D n).2.2.1 i0)) n),(rf ((luS n D n).2.2.2.2:Bool)),(rf 0),(rf n),(leS (mE C n) n),(rf m),(leS (λi0=>.agg (c2 (iN ((e i0).1)) (vE (e i0).2 n))) m),(rf n),(λj0 hj0=>rfl),zo,zo⟩⟩⟩,λhc27=>have hc27:=dF hc27;have hi2:g=m:=zo;⟨(rf 0),(rf n),(λj0 hj0=>(by rw[hi2])),(rf (some (B 0))),(rf 0),(rf n),(leS (mE (luS n D n).2.1 n) n),(rf n),(leS (mE ((luS n D n).1) n) n),(rf n),(leS (λi0=>iN ((luS n D n).2.2.1 i0)) n),(rf ((luS n D n).2.2.2.2:Bool)),(rf 0),(rf n),(leS (mE C n) n),(rf m),(leS (λi0=>.agg (c2 (iN ((e i0).1)) (vE (e i0).2 n))) m),(sLuSolveT (U:=(luS n D n).1) (L:=(luS n D n).2.1) (P:=(luS n D n).2.2.1) (o:=(luS n D n).2.2.2.2) (n:=n) (b:=(yA n m v e m)) (ρ:=(luS n D n).2.2.2.1) hn (lu_bij n (Nat.le_refl n) hok) (lu_hL hD hn hok) (lu_hU hD hn hok) (λj hj=>Nat.le_trans (hz m (Nat.le_refl m) j hj) zd)).frzV2,(rf n),(λj0 hj0=>rfl),(rf (true:Bool)),(rf (some (B 0))),(rf 0),(rf n),(leS (mE (luS n D n).2.1 n) n),(rf n),(leS (mE ((luS n D n).1) n) n),(rf n),(leS (λi0=>iN ((luS n D n).2.2.1 i0)) n),(rf ((luS n D n).2.2.2.2:Bool)),(rf 0),(rf n),(leS (mE C n) n),(rf m),(leS (λi0=>.agg (c2 (iN ((e i0).1)) (vE (e i0).2 n))) m)⟩⟩⟩)
open Go.RowKit
def yE (n:Nat) (C:Nat->Nat->Rat) (w v:Nat->Rat) (k r:Nat):Rat:=if k<n then if r<n then C k r else w k else v r
section
variable {n k r:Nat} {C:Nat->Nat->Rat} {w v:Nat->Rat}
theorem growC_in(hk:k<n)(hr:r<n):yE n C w v k r=C k r:=by unfold yE;rw[if_pos hk,if_pos hr]
theorem growC_row(hk:k<n)(hr:n<=r):yE n C w v k r=w k:=by unfold yE;rw[if_pos hk,if_neg zo]
theorem growC_col(hk:n<=k):yE n C w v k r=v r:=by unfold yE;rw[if_neg zo]
end
theorem sBNewM{C:Nat->Nat->Rat}{e:Etas}{n:Nat}(hn:n<=6)(hD:HtB n n 3 (trM C))(hok:luOK n (trM C) n):CallOKm Tryz.prog 13 [cC C n] [.own 0 0] (c2 (.own 1 0) (.ex (.nilIface))) [.dead,.one (bV 2 3 (luS n (trM C) n) n),cC C n,.one (eE e n 0)]:=by
 exact yR (ch:=λB=>[.loop 3 (Nat) (λg=>g<=n) (λg=>n-g) (λg=>⟨[(0,.own 0 0),(4,.own 1 0),(9,.own 0 0),(10,iN n),(11,iN g)],[(0,cC C n),(1,.one (.var 100 (.agg (c3 (.own 2 0) (.ex (.pointer none)) (.ex sN))))),(2,.one (.row 33 1 (mE C n) g))],3⟩) [(0,.id 0),(1,.id 1),(2,.nil)] (λ_=>[(0,.id 0),(1,.id 1),(2,.id 3)]) (λg=>[.reg 4 [(1,.k g)],.dec 25 false,.reg 7 [(6,.callS (.sl 3 (λi0=>.rat (C g i0)) n) []),(8,.row 0 (mE C n))],.reg 8 [(0,.z ((g+1:Nat):Int))],.conv 9 [(0,.id 1),(1,.id 2)] ⟨[(4,.own 0 0)],[(0,.one (.var 100 (.agg (c3 (.own 1 0) (.ex (.pointer none)) (.ex sN))))),(1,cC C n)],2⟩,.reg 9 [(1,.callM [0,1] [.one (.var 100 (.agg (c3 (.own 1 0) (.ex (.pointer none)) (.ex sN)))),cC C n] [.own 0 0] (bX true) [.one (.var 100 (.agg (c3 (.own 2 0) (.ep (lvE (luS n (trM C) n) n)) (.ex sN)))),.dead,cC C n])],.dec 43 false,.ret 11 [(1,.id 0),(2,.id 2),(3,.nil)]])]) hMix Tryz.func13 rfl zk zk zk (λB=>(((λX1 X2 X3 X4 X5 X6 X7:Prop=>∃g0:Nat,X1/\X2/\X3/\X4/\((0:Int)=(g0:Int))/\X5/\X6/\X7/\((.pointer none:Value)=.pointer none)/\((g0:Nat)=0)/\(g0<=n)) _ _ _ _ _ _ _)/\∀g:Nat,(g<=n)->(((decide ((g:Int)<(n:Int)))=true->_/\(g<n)/\(g<n)/\_/\_/\((!(!decide ((n:Int)=(n:Int))))=true->((!decide ((n:Int)=(n:Int)))==false)=true)/\((bif (!decide ((n:Int)=(n:Int))) then true else(decide ((64:Int)<(n:Int))))=false)/\_/\(g+1<=68719476736)/\_/\_/\_/\((λX1 X2 X3 X4 X5 X6 X7 X8:Prop=>∃g1:Nat,X1/\X2/\X3/\X4/\(((g+1:Nat):Int)=(g1:Int))/\X5/\X6/\X7/\((.pointer none:Value)=.pointer none)/\((g+1:Nat)=g1)/\X8/\(g1<=n)/\(n-g1<n-g)) _ _ _ _ _ _ _ _))/\((decide ((g:Int)<(n:Int)))=false->_/\_/\((.pointer none:Value)=.pointer none)/\((g:Nat)=n)/\_/\(CallOKm Tryz.prog 49 [.one (.var 100 (.agg (c3 (.own 1 0) (.ex (.pointer none)) (.ex sN)))),cC C n] [.own 0 0] (bX true) [.one (.var 100 (.agg (c3 (.own 2 0) (.ep (lvE (luS n (trM C) n) n)) (.ex sN)))),.dead,cC C n])/\_/\_/\_/\_/\((!true)=false)/\(_/\((.nilIface:Value)=.nilIface)/\_/\_/\_/\_/\_/\_/\_/\_/\_/\_/\_/\_))))) (λB=>by kernel_rfl)
  (λB=>⟨⟨0,(rf 0),(rf 0),(rf 0),(rf (n:Int)),zo,(rf n),(leS (mE C n) n),(rf 0),rfl,zo,zo⟩,λg hg=>⟨λhc12=>have hc12:=dT hc12;⟨(rf (g:Int)),zo,zo,(idB ((!decide ((n:Int)=(n:Int)))==false)),(idB ((!decide ((n:Int)=(n:Int)))==false)),zs,(by simp;omega),(kZ (n:=n) (q:=(λi=>C g i)) zo).frzV,zo,(oldS (mE C n) g),(newS (mE C n) g),(wI (g:=g) zo),g+1,(rf 0),(rf 0),(rf 0),(rf (n:Int)),zo,(rf n),(leS (mE C n) n),(rf 0),rfl,zo,(leS (mE C n) (g+1)),zo,zo⟩,λhc12=>have hc12:=dF hc12;have hi2:g=n:=zo;⟨(rf 0),(rf 0),rfl,hi2,(leS (mE C n) g),(sBFactorF hn hD hok),(rf (.one (.var 100 (.agg (c3 (.own 1 0) (.ex (.pointer none)) (.ex sN)))):Hl)),(rf (cC C n:Hl)),(rf 0),(rf 0),rfl,(rf 0),rfl,(rf 0),(rf n),(leS (mE (luS n (trM C) n).2.1 n) n),(rf n),(leS (mE ((luS n (trM C) n).1) n) n),(rf n),(leS (λi0=>iN ((luS n (trM C) n).2.2.1 i0)) n),(rf ((luS n (trM C) n).2.2.2.2:Bool)),(rf 0),(rf n),(leS (mE C n) n),(rf 0)⟩⟩⟩)
theorem sBGrow{D C:Nat->Nat->Rat}{e:Etas}{n m:Nat}{a v:Nat->Rat}{e2:Etas}(hn:n+1<=6)(hD:HtB (n+1) (n+1) 3 (trM (yE n C a v)))(hok:luOK (n+1) (trM (yE n C a v)) (n+1)):CallOKm Tryz.prog 40 [.one (bV 1 2 (luS n D n) n),cC C n,.one (eE e n m)] [.own 0 0,.sl 3 (λi0=>.rat (a i0)) n,.sl 3 (λi0=>.rat (v i0)) (n+1)] (c2 (.own 5 0) (.ex (.nilIface))) [.one (bV 3 4 (luS n D n) n),.dead,.dead,cC C n,.one (eE e n m),.one (bV 6 7 (luS (n+1) (trM (yE n C a v)) (n+1)) (n+1)),cC (yE n C a v) (n+1),.one (eE e2 (n+1) 0)]:=by
 exact yR (ch:=λB=>[.reg 2 [(8,.z ((n+1:Nat):Int))],.dec 31 false,.loop 6 (Nat) (λg=>g<=n) (λg=>n-g) (λg=>⟨[(0,.own 0 0),(1,.sl 3 (λi0=>.rat (a i0)) n),(2,.sl 3 (λi0=>.rat (v i0)) (n+1)),(9,.own 3 0),(36,.own 1 0),(37,iN n),(38,iN g)],[(0,.one (bV 1 2 (luS n D n) n (some (B 0)))),(1,cC C n),(2,.one (eE e n m)),(3,.one (.row 33 1 (λi0=>.own 4 i0) g)),(4,.fam g (λi0=>.row 47 3 (λi1=>.rat (yE n C a v i0 i1)) (n+1)))],5⟩) [(0,.id 0),(1,.id 1),(2,.id 2),(3,.nil),(4,.emp)] (λg=>[(0,.id 0),(1,.id 1),(2,.id 2),(3,.id 7),(4,.put 4 g 6)]) (λg=>[.reg 7 [(1,.k g)],.reg 8 [(2,.callS (.own 0 0) [.one (.row 47 3 (λi0=>.rat (C g i0)) n)]),(5,.k g),(8,.row 0 (λi0=>.rat (yE n C a v g i0))),(10,.row 0 (λi0=>.own (if i0<g then 4 else 6) (if i0<g then i0 else 0)))],.reg 9 [(0,.z ((g+1:Nat):Int))],.conv 10 [(0,.id 0),(1,.id 1),(2,.id 2),(3,.id 3)] ⟨[(0,.own 0 0),(2,.sl 3 (λi0=>.rat (v i0)) (n+1)),(9,.own 3 0)],[(0,.one (bV 1 2 (luS n D n) n (some (B 0)))),(1,cC C n),(2,.one (eE e n m)),(3,.one (.row 33 1 (λi0=>.sl 3 (λi1=>.rat (yE n C a v i0 i1)) (n+1)) n))],4⟩,.reg 10 [(3,.row 0 (λi0=>.sl 3 (λi1=>.rat (yE n C a v i0 i1)) (n+1))),(4,.callM [4] [.one (.row 33 1 (λi0=>.sl 3 (λi1=>.rat (yE n C a v i0 i1)) (n+1)) (n+1))] [.own 0 0] (c2 (.own 1 0) (.ex (.nilIface))) [.dead,.one (bV 2 3 (luS (n+1) (trM (yE n C a v)) (n+1)) (n+1)),cC (yE n C a v) (n+1),.one (eE e2 (n+1) 0)])],.ret 10 [(0,.id 0),(3,.id 1),(4,.id 2),(5,.id 5),(6,.id 6),(7,.id 7)]])]) hMix Tryz.func40 rfl zk zk zk (λB=>let y0:=((!decide ((n:Int)=(n:Int)))==false);let y1:=(bif (!decide ((n:Int)=(n:Int))) then true else(!decide (((n+1:Nat):Int)=((n+1:Nat):Int))));(y0=true->y0=true)/\(y0=true->y0=true)/\(y0=true->IntKind.wrap .i64 ((n:Int)+1)=(((n+1:Nat):Int)))/\(y0=true->y0=true)/\(y0=true->y0=true)/\((!(!decide ((n:Int)=(n:Int))))=true->y0=true)/\((y1==false)=true->(y1==false)=true)/\((!y1)=true->(y1==false)=true)/\((bif y1 then true else(decide ((64:Int)<=(n:Int))))=false)/\(((λX1 X2 X3 X4 X5 X6 X7 X8 X9 X10 X11 X12 X13 X14 X15 X16 X17 X18 X19 X20 X21 X22:Prop=>∃g0:Nat,X1/\X2/\X3/\X4/\X5/\X6/\X7/\X8/\((0:Int)=(g0:Int))/\X9/\X10/\X11/\X12/\X13/\X14/\X15/\X16/\X17/\X18/\X19/\X20/\X21/\X22/\((g0:Nat)=0)/\((g0:Nat)=0)/\(g0<=n)) _ _ _ _ _ _ _ _ _ _ _ _ _ _ _ _ _ _ _ _ _ _)/\∀g:Nat,(g<=n)->(((decide ((g:Int)<(n:Int)))=true->_/\(g<n)/\(g<n)/\_/\_/\(g<n)/\(n+1<=68719476736)/\(∀j0,j0<n->(.rat (yE n C a v g j0):SV)=.rat (C g j0))/\(∀j0,j0<1->((a g:Rat)=(yE n C a v g (n+j0))))/\(g+1<=68719476736)/\(∀j0,j0<g->(.own (if j0<g then 4 else 6) (if j0<g then j0 else 0):SV)=.own 4 j0)/\(∀j0,j0<1->((6:Nat)=(if g+j0<g then 4 else 6))/\((0:Nat)=(if g+j0<g then g+j0 else 0)))/\_/\((λX1 X2 X3 X4 X5 X6 X7 X8 X9 X10 X11 X12 X13 X14 X15 X16 X17 X18 X19 X20 X21 X22 X23:Prop=>∃g1:Nat,X1/\X2/\X3/\X4/\X5/\X6/\X7/\X8/\(((g+1:Nat):Int)=(g1:Int))/\X9/\X10/\X11/\X12/\X13/\X14/\X15/\X16/\X17/\X18/\X19/\X20/\X21/\X22/\((g+1:Nat)=g1)/\(∀j0,j0<(g+1)->(((if j0<g then 4 else 6:Nat)=6/\(if j0<g then j0 else 0:Nat)=0/\(j0:Nat)=g)∨((if j0<g then 4 else 6:Nat)=4/\(if j0<g then j0 else 0:Nat)=j0/\(j0:Nat)≠g)))/\((g1:Nat)=g+1)/\X23/\(((n+1:Nat)=(n+1))/\(∀j1,j1<(n+1)->((yE n C a v g j1:Rat)=(yE n C a v g j1))))/\(∀j0,j0<g->((n+1:Nat)=(n+1))/\(∀j1,j1<(n+1)->((yE n C a v j0 j1:Rat)=(yE n C a v j0 j1))))/\(g1<=n)/\(n-g1<n-g)) _ _ _ _ _ _ _ _ _ _ _ _ _ _ _ _ _ _ _ _ _ _ _))/\((decide ((g:Int)<(n:Int)))=false->_/\_/\_/\_/\_/\_/\_/\_/\_/\_/\_/\_/\_/\_/\_/\_/\_/\_/\((g:Nat)=n)/\(∀j0,j0<g->((n+1:Nat)=(n+1))/\(∀j1,j1<(n+1)->((yE n C a v j0 j1:Rat)=(yE n C a v j0 j1)))/\(j0<g))/\(n+1<=68719476736)/\_/\(∀j0,j0<1->((n+1:Nat)=(n+1))/\(∀j1,j1<(n+1)->((v j1:Rat)=(yE n C a v (n+j0) j1))))/\(CallOKm Tryz.prog 13 [.one (.row 33 1 (λi0=>.sl 3 (λi1=>.rat (yE n C a v i0 i1)) (n+1)) (n+1))] [.own 0 0] (c2 (.own 1 0) (.ex (.nilIface))) [.dead,.one (bV 2 3 (luS (n+1) (trM (yE n C a v)) (n+1)) (n+1)),cC (yE n C a v) (n+1),.one (eE e2 (n+1) 0)])/\_/\_/\_/\(_/\((.nilIface:Value)=.nilIface)/\_/\_/\_/\_/\_/\_/\_/\_/\_/\_/\_/\_/\_/\_/\_/\_/\_/\_/\_/\_/\_/\_/\_/\_/\_/\_/\_))))) (λB=>by kernel_rfl)
  (λB=>⟨id,id,(λhg=>(by rw[IntKind.wrap_i64];omega)),id,id,zs,id,zs,(by simp;omega),⟨0,(rf 0),(rf n),(leS (λi0=>.rat (a i0)) n),(rf (n+1:Nat)),(leS (λi0=>.rat (v i0)) (n+1)),(rf 0),(rf 0),(rf (n:Int)),zo,(rf (some (B 0))),(rf 0),(rf n),(leS (mE (luS n D n).2.1 n) n),(rf n),(leS (mE ((luS n D n).1) n) n),(rf n),(leS (λi0=>iN ((luS n D n).2.2.1 i0)) n),(rf ((luS n D n).2.2.2.2:Bool)),(rf 0),(rf n),(leS (mE C n) n),(rf m),(leS (λi0=>.agg (c2 (iN ((e i0).1)) (vE (e i0).2 n))) m),zo,zo,zo⟩,λg hg=>⟨λhc39=>have hc39:=dT hc39;have hgn:g<n:=zo;⟨(rf (g:Int)),zo,zo,kZ (n:=n) (q:=(λi=>C g i)) zo,(rf (g:Int)),zo,zo,(λj0 hj0=>by rw[growC_in hgn hj0]),(λj0 hj0=>(growC_row hgn (Nat.le_add_right n j0)).symm),zo,(λj0 hj0=>by rw[if_pos hj0,if_pos hj0]),(λj0 hj0=>⟨(by rw[if_neg zo]),(by rw[if_neg zo])⟩),(wI (g:=g) zo),g+1,(rf 0),(rf n),(leS (λi0=>.rat (a i0)) n),(rf (n+1:Nat)),(leS (λi0=>.rat (v i0)) (n+1)),(rf 0),(rf 0),(rf (n:Int)),zo,(rf (some (B 0))),(rf 0),(rf n),(leS (mE (luS n D n).2.1 n) n),(rf n),(leS (mE ((luS n D n).1) n) n),(rf n),(leS (λi0=>iN ((luS n D n).2.2.1 i0)) n),(rf ((luS n D n).2.2.2.2:Bool)),(rf 0),(rf n),(leS (mE C n) n),(rf m),(leS (λi0=>.agg (c2 (iN ((e i0).1)) (vE (e i0).2 n))) m),zo,(λj0 hj0=>(by first | omega | (split<;>omega))),zo,(rf g),⟨rfl,(λj1 hj1=>rfl)⟩,(λj0 hj0=>⟨rfl,(λj1 hj1=>rfl)⟩),zo,zo⟩,λhc39=>have hc39:=dF hc39;have hi2:g=n:=zo;⟨(rf 0),(rf (n+1:Nat)),(leS (λi0=>.rat (v i0)) (n+1)),(rf 0),(rf (some (B 0))),(rf 0),(rf n),(leS (mE (luS n D n).2.1 n) n),(rf n),(leS (mE ((luS n D n).1) n) n),(rf n),(leS (λi0=>iN ((luS n D n).2.2.1 i0)) n),(rf ((luS n D n).2.2.2.2:Bool)),(rf 0),(rf n),(leS (mE C n) n),(rf m),(leS (λi0=>.agg (c2 (iN ((e i0).1)) (vE (e i0).2 n))) m),hi2,(λj0 hj0=>⟨rfl,(λj1 hj1=>rfl),zo⟩),zo,(oldS (λi0=>.sl 3 (λi1=>.rat (yE n C a v i0 i1)) (n+1)) n),(λj0 hj0=>by obtain rfl:j0=0:=zo;exact⟨rfl,λj1 _=>(growC_col (Nat.le_refl n)).symm⟩),(sBNewM (C:=(yE n C a v)) (e:=e2) hn hD hok),(rf (.one (.row 33 1 (λi0=>.sl 3 (λi1=>.rat (yE n C a v i0 i1)) (n+1)) (n+1)):Hl)),(rf 4),(rf 0),(rf 0),rfl,(rf (some (B 0))),(rf 0),(rf n),(leS (mE (luS n D n).2.1 n) n),(rf n),(leS (mE ((luS n D n).1) n) n),(rf n),(leS (λi0=>iN ((luS n D n).2.2.1 i0)) n),(rf ((luS n D n).2.2.2.2:Bool)),(rf 0),(rf n),(leS (mE C n) n),(rf m),(leS (λi0=>.agg (c2 (iN ((e i0).1)) (vE (e i0).2 n))) m),(rf 0),(rf (n+1:Nat)),(leS (mE (luS (n+1) (trM (yE n C a v)) (n+1)).2.1 (n+1)) (n+1)),(rf (n+1:Nat)),(leS (mE ((luS (n+1) (trM (yE n C a v)) (n+1)).1) (n+1)) (n+1)),(rf (n+1:Nat)),(leS (λi0=>iN ((luS (n+1) (trM (yE n C a v)) (n+1)).2.2.1 i0)) (n+1)),(rf ((luS (n+1) (trM (yE n C a v)) (n+1)).2.2.2.2:Bool)),(rf 0),(rf (n+1:Nat)),(leS (mE (yE n C a v) (n+1)) (n+1)),(rf 0),(leS (λi0=>.agg (c2 (iN ((e2 i0).1)) (vE (e2 i0).2 (n+1)))) 0)⟩⟩⟩)
open Go.RowKit
def acQ (p d:Nat->Nat->Int) (i c:Nat):Rat:=oneQ (p i c) (d i c)
def noE:Etas:=λ_=>(0,λ_=>0)
theorem ac_ht{N:Nat}{L:Nat->Nat}{p d:Nat->Nat->Int}(w:∀i,i<N->∀c,c<L i->Wd64 (p i c)/\Wd64 (d i c)){i m:Nat}(hi:i<N):L i=m->∀j,j<m->htq (acQ p d i j)<=2:=λe j hj=>
 Nat.le_trans (ht_sz _) (szq_one (w i hi j zo).1 (w i hi j zo).2)
open Go.RowKit
def aC (k r:Nat):Rat:=((litLL [[1,0],[1,1]] k r:Int):Rat)
def aW (i:Nat):Rat:=((litI [0,5] i:Int):Rat)
def a22 (i:Nat):Rat:=((litI [2,2] i:Int):Rat)
def a16 (i:Nat):Rat:=((litI [1,6] i:Int):Rat)
def a00 (i:Nat):Rat:=((litI [0,0] i:Int):Rat)
def a772 (i:Nat):Rat:=((litI [7,7,2] i:Int):Rat)
def a32 (i:Nat):Rat:=((litI [3,2] i:Int):Rat)
abbrev aC1:Nat->Nat->Rat:=setC aC 0 aW
abbrev aE1:Etas:=setE noE 0 0 (zO (basX 2 (trM aC) aW) noE 0)
theorem aK0:BOK 2 (trM aC) aC noE 0:=.fresh (by unfold luOK;decide+kernel) (by unfold HtB;decide+kernel)
theorem aK1:BOK 2 (trM aC) aC1 aE1 (0+1):=aK0.put zd zd (by decide+kernel) (by decide+kernel) zd
theorem sAwake14:CallOK Tryz.prog 9 [] (bX true) []:=by
 exact kP (ch:=[.reg 1 [(0,.row 0 (λi0=>iZ (litI [1,0] i0))),(1,.callS (.sl 3 (λi0=>.rat (((litI [1,0]) i0:Int):Rat)) 2) []),(2,.row 0 (λi0=>iZ (litI [1,1] i0))),(3,.callS (.sl 3 (λi0=>.rat (((litI [1,1]) i0:Int):Rat)) 2) []),(4,.row 0 (mE aC 2)),(5,.callS (c2 (.own 0 0) (.ex (.nilIface))) [.one (bV 1 2 (luS 2 (trM aC) 2) 2),cC aC 2,.one (eE noE 2 0)])],.reg 2 [(5,.skip)],.dec 27 false,.reg 4 [(1,.row 0 (λi0=>iZ (litI [3,2] i0))),(2,.callS (.sl 3 (λi0=>.rat (((litI [3,2]) i0:Int):Rat)) 2) []),(3,.callM [0,1,2] [.one (bV 1 2 (luS 2 (trM aC) 2) 2),cC aC 2,.one (eE noE 2 0)] [.own 0 0,.sl 3 (λi0=>.rat (a32 i0)) 2] (c2 (.own 5 0) (bX true)) [.one (bV 3 4 (luS 2 (trM aC) 2) 2),.dead,.dead,cC aC 2,.one (eE noE 2 0),.one (.row 47 3 (λi0=>.rat ((zO (basX 2 (trM aC) a32) noE 0) i0)) 2)])],.reg 5 [(1,.row 0 (λi0=>iZ (litI [3,2] i0))),(2,.callS (.sl 3 (λi0=>.rat (((litI [3,2]) i0:Int):Rat)) 2) []),(3,.callM [0,3,4] [.one (bV 1 2 (luS 2 (trM aC) 2) 2),cC aC 2,.one (eE noE 2 0)] [.own 0 0,.sl 3 (λi0=>.rat (a32 i0)) 2] (c2 (.sl 3 (λi0=>.rat (basY 2 (trM aC) (yA 2 0 a32 noE 0) i0)) 2) (bX true)) [.one (bV 3 4 (luS 2 (trM aC) 2) 2),.dead,.dead,cC aC 2,.one (eE noE 2 0)])],.reg 6 [(1,.row 0 (λi0=>iZ (litI [2,2] i0))),(2,.callS (.sl 3 (λi0=>.rat (((litI [2,2]) i0:Int):Rat)) 2) []),(3,.callM [0,7,8] [.one (bV 1 2 (luS 2 (trM aC) 2) 2),cC aC 2,.one (eE noE 2 0)] [.own 0 0,iN 0,.sl 3 (λi0=>.rat (a22 i0)) 2] (.ifc 113 (.ep (.agg (c3 (.ex (.string sCol)) (iN 0) (.ex (.iface 63 (.int .i64 140))))))) [.one (bV 3 4 (luS 2 (trM aC) 2) 2),.dead,.dead,cC aC 2,.one (eE noE 2 0)])],.reg 7 [(1,.row 0 (λi0=>iZ (litI [0,5] i0))),(2,.callS (.sl 3 (λi0=>.rat (((litI [0,5]) i0:Int):Rat)) 2) []),(3,.callM [0,10,11] [.one (bV 1 2 (luS 2 (trM aC) 2) 2),cC aC 2,.one (eE noE 2 0)] [.own 0 0,iN 0,.sl 3 (λi0=>.rat (aW i0)) 2] (.ex (.nilIface)) [.one (bV 3 4 (luS 2 (trM aC) 2) 2),.dead,.dead,cC (setC aC 0 aW) 2,.one (eE (setE noE 0 0 (zO (basX 2 (trM aC) aW) noE 0)) 2 (0+1))])],.reg 8 [(1,.row 0 (λi0=>iZ (litI [1,6] i0))),(2,.callS (.sl 3 (λi0=>.rat (((litI [1,6]) i0:Int):Rat)) 2) []),(3,.callM [0,13,14] [.one (bV 1 2 (luS 2 (trM aC) 2) 2),cC aC1 2,.one (eE aE1 2 (0+1))] [.own 0 0,.sl 3 (λi0=>.rat (a16 i0)) 2] (c2 (.own 5 0) (bX true)) [.one (bV 3 4 (luS 2 (trM aC) 2) 2),.dead,.dead,cC aC1 2,.one (eE aE1 2 (0+1)),.one (.row 47 3 (λi0=>.rat ((zO (basX 2 (trM aC) a16) aE1 (0+1)) i0)) 2)])],.reg 9 [(1,.row 0 (λi0=>iZ (litI [0,0] i0))),(2,.callS (.sl 3 (λi0=>.rat (((litI [0,0]) i0:Int):Rat)) 2) []),(3,.row 0 (λi0=>iZ (litI [7,7,2] i0))),(4,.callS (.sl 3 (λi0=>.rat (((litI [7,7,2]) i0:Int):Rat)) 3) []),(5,.callM [0,16,17] [.one (bV 1 2 (luS 2 (trM aC) 2) 2),cC aC1 2,.one (eE aE1 2 (0+1))] [.own 0 0,.sl 3 (λi0=>.rat (a00 i0)) 2,.sl 3 (λi0=>.rat (a772 i0)) (2+1)] (c2 (.own 5 0) (.ex (.nilIface))) [.one (bV 3 4 (luS 2 (trM aC) 2) 2),.dead,.dead,cC aC1 2,.one (eE aE1 2 (0+1)),.one (bV 6 7 (luS (2+1) (trM (yE 2 aC1 a00 a772)) (2+1)) (2+1)),cC (yE 2 aC1 a00 a772) (2+1),.one (eE noE (2+1) 0)])],.reg 10 [(3,.row 0 (λi0=>iZ (litI [1,2] i0))),(4,.callS (.sl 3 (λi0=>.rat (((litI [1,2]) i0:Int):Rat)) 2) []),(5,.callS (bX (decide (2=2/\∀j:Nat,j<2->((zO (basX 2 (trM aC) a32) noE 0) j:Rat)=(((litI [1,2]) j:Int):Rat)))) []),(6,.sure .no),(9,.sure .no),(12,.row 0 (λi0=>iZ (litI [3,-1] i0))),(13,.callS (.sl 3 (λi0=>.rat (((litI [3,-1]) i0:Int):Rat)) 2) []),(14,.callS (bX (decide (2=2/\∀j:Nat,j<2->(basY 2 (trM aC) (yA 2 0 a32 noE 0) j:Rat)=(((litI [3,-1]) j:Int):Rat)))) []),(15,.sure .no),(18,.callS (bX true) []),(19,.sure .no),(23,.sure .no),(26,.callM [0,20,21] [.one (bV 1 2 (luS 2 (trM aC) 2) 2),cC aC1 2,.one (eE aE1 2 (0+1))] [.own 0 0] (iN (0+1)) [.one (bV 3 4 (luS 2 (trM aC) 2) 2),.dead,.dead,cC aC1 2,.one (eE aE1 2 (0+1))]),(28,.sure .no),(31,.sure .no),(34,.row 0 (λi0=>iZ (litI [1,1] i0))),(35,.callS (.sl 3 (λi0=>.rat (((litI [1,1]) i0:Int):Rat)) 2) []),(36,.callS (bX (decide (2=2/\∀j:Nat,j<2->((zO (basX 2 (trM aC) a16) aE1 (0+1)) j:Rat)=(((litI [1,1]) j:Int):Rat)))) []),(37,.sure .no),(41,.sure .no),(45,.sure .no),(48,.callM [22,23,24] [.one (bV 1 2 (luS (2+1) (trM (yE 2 aC1 a00 a772)) (2+1)) (2+1)),cC (yE 2 aC1 a00 a772) (2+1),.one (eE noE (2+1) 0)] [.own 0 0] (iN (2+1)) [.one (bV 3 4 (luS (2+1) (trM (yE 2 aC1 a00 a772)) (2+1)) (2+1)),.dead,.dead,cC (yE 2 aC1 a00 a772) (2+1),.one (eE noE (2+1) 0)]),(50,.sure .no)]]) Tryz.func9 (let y0:=(true==true);let y1:=(decide (2=2/\∀j:Nat,j<2->(basY 2 (trM aC) (yA 2 0 a32 noE 0) j:Rat)=(((litI [3,-1]) j:Int):Rat)));let y2:=(decide (2=2/\∀j:Nat,j<2->((zO (basX 2 (trM aC) a16) aE1 (0+1)) j:Rat)=(((litI [1,1]) j:Int):Rat)));let y5:=(false&&true);let y3:=((!y5)==true);let y4:=(decide (2=2/\∀j:Nat,j<2->((zO (basX 2 (trM aC) a32) noE 0) j:Rat)=(((litI [1,2]) j:Int):Rat)));((1:Int)=(litI [1,0] 0))/\((0:Int)=(litI [1,0] 1))/\_/\((1:Int)=(litI [1,1] 0))/\((1:Int)=(litI [1,1] 1))/\_/\_/\(∀j0,j0<2->(((((litI [1,0]) j0:Int):Rat):Rat)=(aC 0 j0)))/\_/\(∀j0,j0<2->(((((litI [1,1]) j0:Int):Rat):Rat)=(aC 1 j0)))/\(CallOK Tryz.prog 13 [.sl 1 (mE aC 2) 2] (c2 (.own 0 0) (.ex (.nilIface))) [.one (bV 1 2 (luS 2 (trM aC) 2) 2),cC aC 2,.one (eE noE 2 0)])/\((y5==false)=true->(y5==false)=true)/\(y5=false)/\((y5==false)=true)/\((!true)=false)/\((3:Int)=(litI [3,2] 0))/\((2:Int)=(litI [3,2] 1))/\_/\_/\_/\_/\_/\_/\_/\_/\(∀j0,j0<2->(((((litI [3,2]) j0:Int):Rat):Rat)=(a32 j0)))/\((3:Int)=(litI [3,2] 0))/\((2:Int)=(litI [3,2] 1))/\_/\_/\_/\_/\_/\_/\_/\_/\(∀j0,j0<2->(((((litI [3,2]) j0:Int):Rat):Rat)=(a32 j0)))/\((2:Int)=(litI [2,2] 0))/\((2:Int)=(litI [2,2] 1))/\_/\_/\_/\_/\_/\_/\_/\((0:Int)=((0:Nat):Int))/\_/\(∀j0,j0<2->(((((litI [2,2]) j0:Int):Rat):Rat)=(a22 j0)))/\((0:Int)=(litI [0,5] 0))/\((5:Int)=(litI [0,5] 1))/\_/\_/\_/\_/\_/\_/\_/\((0:Int)=((0:Nat):Int))/\_/\(∀j0,j0<2->(((((litI [0,5]) j0:Int):Rat):Rat)=(aW j0)))/\((1:Int)=(litI [1,6] 0))/\((6:Int)=(litI [1,6] 1))/\_/\_/\_/\_/\_/\_/\_/\_/\(∀j0,j0<2->(((((litI [1,6]) j0:Int):Rat):Rat)=(a16 j0)))/\((0:Int)=(litI [0,0] 0))/\((0:Int)=(litI [0,0] 1))/\_/\((7:Int)=(litI [7,7,2] 0))/\((7:Int)=(litI [7,7,2] 1))/\((2:Int)=(litI [7,7,2] 2))/\_/\_/\_/\_/\_/\_/\_/\_/\(∀j0,j0<2->(((((litI [0,0]) j0:Int):Rat):Rat)=(a00 j0)))/\((3:Nat)=(2+1))/\(∀j0,j0<3->(((((litI [7,7,2]) j0:Int):Rat):Rat)=(a772 j0)))/\(y0=true->(1:Int)=(litI [1,2] 0))/\(y0=true->(2:Int)=(litI [1,2] 1))/\(y0=true->y0=true)/\(y0=true->_)/\(y0=true->y0=true)/\(y0=true->y0=true)/\(y0=true->_)/\(true=true)/\(y0=true)/\(y4=true)/\((y4==true)=true)/\(y0=true->(3:Int)=(litI [3,-1] 0))/\(y0=true->(-1:Int)=(litI [3,-1] 1))/\(y0=true->y0=true)/\(y0=true->_)/\(y0=true->y0=true)/\(y0=true->y0=true)/\(y0=true->_)/\(true=true)/\(y0=true)/\((y1==true)=true->(y1==true)=true)/\((y1==true)=true->CallOK Tryz.prog 27 [.ifc 113 (.ep (.agg (c3 (.ex (.string sCol)) (iN 0) (.ex (.iface 63 (.int .i64 140)))))),.ex (.int .i64 140),.ex (.string sCol),.ex (.int .i64 0)] (bX true) [])/\(y1=true)/\((y1==true)=true)/\(y0=true->y0=true)/\(true=true)/\(y0=true)/\(y0=true)/\(y0=true->y0=true)/\_/\_/\_/\_/\_/\_/\(y0=true->y0=true)/\(true=true)/\(y0=true)/\((decide (((0+1:Nat):Int)=1))=true)/\(((decide (((0+1:Nat):Int)=1))==true)=true)/\(y0=true->(1:Int)=(litI [1,1] 0))/\(y0=true->(1:Int)=(litI [1,1] 1))/\(y0=true->y0=true)/\(y0=true->_)/\(y0=true->y0=true)/\(y0=true->y0=true)/\(y0=true->_)/\(true=true)/\(y0=true)/\((y2==true)=true->(y2==true)=true)/\(y2=true)/\((y2==true)=true)/\(y0=true->y0=true)/\(true=true)/\(y0=true)/\(y3=true)/\(y3=true->y3=true)/\_/\_/\_/\_/\_/\_/\(y3=true->y3=true)/\((!y5)=true)/\(y3=true)/\(((decide (((2+1:Nat):Int)=3):Bool)=true)))
  ⟨rfl,rfl,(jU (n:=2) (a:=(litI [1,0])) zd (by decide+kernel)).frzV,rfl,rfl,(jU (n:=2) (a:=(litI [1,1])) zd (by decide+kernel)).frzV,(rf 2),(λj0 hj0=>rfl),(rf 2),(λj0 hj0=>rfl),(sBNew (C:=aC) (e:=noE) zd aK0.hD aK0.ok),id,(by decide+kernel),(by decide+kernel),rfl,rfl,rfl,(jU (n:=2) (a:=(litI [3,2])) zd (by decide+kernel)).frzV,(sBSolve (D:=(trM aC)) (C:=aC) (e:=noE) (m:=0) (n:=2) (v:=a32) zd aK0.ok aK0.hD aK0.H aK0.w zd (by decide+kernel) (aK0.x zd (by decide+kernel))),(rf (.one (bV 1 2 (luS 2 (trM aC) 2) 2):Hl)),(rf (cC aC 2:Hl)),(rf (.one (eE noE 2 0):Hl)),(rf 0),(rf 0),(rf 2),(λj0 hj0=>rfl),rfl,rfl,(jU (n:=2) (a:=(litI [3,2])) zd (by decide+kernel)).frzV,(sBSolveT (D:=(trM aC)) (C:=aC) (e:=noE) (m:=0) (n:=2) (v:=a32) zd aK0.ok aK0.hD aK0.H aK0.w zd (aK0.z zd (by decide+kernel))),(rf (.one (bV 3 4 (luS 2 (trM aC) 2) 2):Hl)),(rf (cC aC 2:Hl)),(rf (.one (eE noE 2 0):Hl)),(rf 0),(rf 0),(rf 2),(λj0 hj0=>rfl),rfl,rfl,(jU (n:=2) (a:=(litI [2,2])) zd (by decide+kernel)).frzV,(sBReplace_sing (D:=(trM aC)) (C:=aC) (e:=noE) (m:=0) (n:=2) (v:=a22) (k:=0) zd aK0.ok aK0.hD aK0.H aK0.w zd (by decide+kernel) (aK0.x zd (by decide+kernel)) zd (by decide+kernel)),(rf (.one (bV 7 8 (luS 2 (trM aC) 2) 2):Hl)),(rf (cC aC 2:Hl)),(rf (.one (eE noE 2 0):Hl)),(rf 0),(rf 0),rfl,(rf 2),(λj0 hj0=>rfl),rfl,rfl,(jU (n:=2) (a:=(litI [0,5])) zd (by decide+kernel)).frzV,(sBReplace (D:=(trM aC)) (C:=aC) (e:=noE) (m:=0) (n:=2) (v:=aW) (k:=0) zd aK0.ok aK0.hD aK0.H aK0.w zd (by decide+kernel) (aK0.x zd (by decide+kernel)) zd (by decide+kernel) zd),(rf (.one (bV 10 11 (luS 2 (trM aC) 2) 2):Hl)),(rf (cC aC 2:Hl)),(rf (.one (eE noE 2 0):Hl)),(rf 0),(rf 0),rfl,(rf 2),(λj0 hj0=>rfl),rfl,rfl,(jU (n:=2) (a:=(litI [1,6])) zd (by decide+kernel)).frzV,(sBSolve (D:=(trM aC)) (C:=aC1) (e:=aE1) (m:=0+1) (n:=2) (v:=a16) zd aK1.ok aK1.hD aK1.H aK1.w zd (by decide+kernel) (aK1.x zd (by decide+kernel))),(rf (.one (bV 13 14 (luS 2 (trM aC) 2) 2):Hl)),(rf (cC (setC aC 0 aW) 2:Hl)),(rf (.one (eE (setE noE 0 0 (zO (basX 2 (trM aC) aW) noE 0)) 2 (0+1)):Hl)),(rf 0),(rf 0),(rf 2),(λj0 hj0=>rfl),rfl,rfl,(jU (n:=2) (a:=(litI [0,0])) zd (by decide+kernel)).frzV,rfl,rfl,rfl,(jU (n:=3) (a:=(litI [7,7,2])) zd (by decide+kernel)).frzV,(sBGrow (D:=(trM aC)) (C:=aC1) (e:=aE1) (m:=0+1) (n:=2) (a:=a00) (v:=a772) (e2:=noE) zd (by unfold HtB;decide+kernel) (by unfold luOK;decide+kernel)),(rf (.one (bV 16 17 (luS 2 (trM aC) 2) 2):Hl)),(rf (cC aC1 2:Hl)),(rf (.one (eE aE1 2 (0+1)):Hl)),(rf 0),(rf 0),(rf 2),(λj0 hj0=>rfl),rfl,(λj0 hj0=>rfl),(λhg=>rfl),(λhg=>rfl),id,(λhg=>(jU (n:=2) (a:=(litI [1,2])) zd (by decide+kernel)).frzV),id,id,(λhg=>(sVecSame (n:=2) (m:=2) (a:=(zO (basX 2 (trM aC) a32) noE 0)) (b:=(λi=>(((litI [1,2]) i:Int):Rat))) zd (by decide+kernel))),(by decide+kernel),(by decide+kernel),(by decide+kernel),(by decide+kernel),(λhg=>rfl),(λhg=>rfl),id,(λhg=>(jU (n:=2) (a:=(litI [3,-1])) zd (by decide+kernel)).frzV),id,id,(λhg=>(sVecSame (n:=2) (m:=2) (a:=(λi=>basY 2 (trM aC) (yA 2 0 a32 noE 0) i)) (b:=(λi=>(((litI [3,-1]) i:Int):Rat))) zd (by decide+kernel))),(by decide+kernel),(by decide+kernel),id,(λhg=>sToldF),(by decide+kernel),(by decide+kernel),id,(by decide+kernel),(by decide+kernel),(by decide+kernel),id,(sBEtas (D:=(trM aC)) (C:=aC1) (e:=aE1) (m:=0+1) (n:=2)),(rf (.one (bV 20 21 (luS 2 (trM aC) 2) 2):Hl)),(rf (cC aC1 2:Hl)),(rf (.one (eE aE1 2 (0+1)):Hl)),(rf 0),(rf 0),id,(by decide+kernel),(by decide+kernel),(by decide+kernel),(by decide+kernel),(λhg=>rfl),(λhg=>rfl),id,(λhg=>(jU (n:=2) (a:=(litI [1,1])) zd (by decide+kernel)).frzV),id,id,(λhg=>(sVecSame (n:=2) (m:=2) (a:=(zO (basX 2 (trM aC) a16) aE1 (0+1))) (b:=(λi=>(((litI [1,1]) i:Int):Rat))) zd (by decide+kernel))),(by decide+kernel),(by decide+kernel),id,(by decide+kernel),(by decide+kernel),id,(by decide+kernel),(by decide+kernel),(by decide+kernel),id,(sBSize (D:=(trM (yE 2 aC1 a00 a772))) (C:=(yE 2 aC1 a00 a772)) (e:=noE) (m:=0) (n:=2+1)),(rf (.one (bV 23 24 (luS (2+1) (trM (yE 2 aC1 a00 a772)) (2+1)) (2+1)):Hl)),(rf (cC (yE 2 aC1 a00 a772) (2+1):Hl)),(rf (.one (eE noE (2+1) 0):Hl)),(rf 22),(rf 0),id,(by decide+kernel),(by decide+kernel),(by decide+kernel)⟩
open Go.RowKit
theorem wr_T{g k n L:Nat}(h:(bif decide ((if g<=k then(-1:Int) else(k:Int))<0) then(!decide ((L:Int)=(n:Int))) else false)=true):g<=k/\L≠n:=by
 by_cases e:g<=k
 ·rw[if_pos e] at h;simp at h;exact⟨e,by omega⟩
 ·rw[if_neg e] at h
  have e1:¬((k:Int)<0):=by omega
  simp[e1] at h
theorem wr_F{g k n L:Nat}(h:(bif decide ((if g<=k then(-1:Int) else(k:Int))<0) then(!decide ((L:Int)=(n:Int))) else false)=false)(hL:L≠n):¬g<=k:=λe=>by
 rw[if_pos e] at h
 have e1:¬((L:Int)=(n:Int)):=by omega
 simp[e1] at h
theorem wr_hit{g k:Nat}(h:g=k):(g:Int)=if g+1<=k then(-1:Int) else(k:Int):=by rw[if_neg zo];omega
theorem wr_stay{g k:Nat}(h:g≠k):(if g<=k then(-1:Int) else(k:Int))=if g+1<=k then(-1:Int) else(k:Int):=by
 by_cases e:g<=k
 ·rw[if_pos e,if_pos zo]
 ·rw[if_neg e,if_neg zo]
theorem news_ht{N n:Nat}{L:Nat->Nat}{p d:Nat->Nat->Int}(w:∀i,i<N->∀c,c<L i->Wd64 (p i c)/\Wd64 (d i c))(hL:∀i,i<N->L i=n){i j:Nat}(hi:i<N)(hj:j<n):htq (acQ p d i j)<=2:=ac_ht w hi (hL i hi) j hj
theorem news_htT{N:Nat}{L:Nat->Nat}{p d:Nat->Nat->Int}(w:∀i,i<N->∀c,c<L i->Wd64 (p i c)/\Wd64 (d i c))(hL:∀i,i<N->L i=N):HtB N N 3 (trM (acQ p d)):=λi hi j hj=>by
 have:=news_ht w hL hj hi
 show htq (acQ p d j i)+1<=3
 omega
theorem news_red{N:Nat}{L:Nat->Nat}{p d:Nat->Nat->Int}(hN:N<=6)(w:∀i,i<N->∀c,c<L i->Wd64 (p i c)/\Wd64 (d i c))(hL:∀i,i<N->L i=N):∀c,c<=N->HtB N N 100000000 (red N (acQ p d) c).1:=
 red_htT (s:=2) (λi hi j hj=>by have:=news_ht w hL hi hj;omega) (d:=6) (.inl hN) _ zd
theorem news_iff{n:Nat}{C:Nat->Nat->Rat}(h:HtB n n 3 (trM C)):luOK n (trM C) n↔(red n C n).2.1=n:=by
 rw[luOK_iff h,cdet_trM]
 have:=red_le n C
 constructor
 ·intro e
  by_cases h1:(red n C n).2.1<n
  ·exact absurd (det_lead.2 h1) e
  ·omega
 ·intro e h1
  have:=det_lead.1 h1
  omega
theorem least_ex{P:Nat->Prop}(h:∃k,P k):∃k,P k/\∀i,i<k->¬P i:=by
 obtain⟨k,hk⟩:=h
 induction k using Nat.strongRecOn with
 | _ k ih=>
  by_cases e:∃i,i<k/\P i
  ·obtain⟨i,hi,hp⟩:=e;exact ih i hi hp
  ·exact⟨k,hk,λi hi hp=>e ⟨i,hi,hp⟩⟩
theorem sBasisNews_big{N1:Nat}{L1:Nat->Nat}{p1 d1:Nat->Nat->Int}(hN:¬N1<=6):CallOK Tryz.prog 6 [.sl 1 (λi0=>.sl 2 (λi1=>.agg (c2 (iZ (p1 i0 i1)) (iZ (d1 i0 i1)))) (L1 i0)) N1] (bX true) []:=by
 exact kP (ch:=[.reg 1 [(0,.callS (bX true) [])],.dec 9 false,.dec 12 true]) Tryz.func6 ((∀j0,j0<N1->(∀j1,j1<(L1 j0)->True))/\(CallOK Tryz.prog 9 [] (bX true) [])/\((!true)=false)/\((decide ((6:Int)<(N1:Int)))=true)/\(_))
  ⟨(λ_ _=>(λ_ _=>trivial)),sAwake14,rfl,(decide_eq_true zo),(rf (true:Bool))⟩
theorem sBasisNews_len{N1:Nat}{L1:Nat->Nat}{p1 d1:Nat->Nat->Int}(hN:N1<=6)(hL1:∀i,i<N1->L1 i<=68719476736)(w1:∀i,i<N1->∀c,c<L1 i->Wd64 (p1 i c)/\Wd64 (d1 i c)){k:Nat}(hk:k<N1)(hlen:∀i,i<k->L1 i=N1)(hne:L1 k≠N1):CallOK Tryz.prog 6 [.sl 1 (λi0=>.sl 2 (λi1=>.agg (c2 (iZ (p1 i0 i1)) (iZ (d1 i0 i1)))) (L1 i0)) N1] (bX true) []:=by
 exact kP (ch:=[.reg 1 [(0,.callS (bX true) [])],.dec 9 false,.dec 12 false,.loop 8 (Nat) (λg=>g<=N1) (λg=>N1-g) (λg=>⟨[(0,.sl 1 (λi0=>.sl 2 (λi1=>.agg (c2 (iZ (p1 i0 i1)) (iZ (d1 i0 i1)))) (L1 i0)) N1),(3,.own 0 0),(4,iZ (if g<=k then(-1:Int) else(k:Int))),(5,iN g)],[(0,.one (.row 33 1 (λi0=>.sl 3 (λi1=>.rat (acQ p1 d1 i0 i1)) (L1 i0)) g))],1⟩) [(0,.nil)] (λ_=>[(0,.id 1)]) (λg=>[.reg 10 [(3,.k g),(5,.callS (.sl 3 (λi0=>.rat (oneQ (p1 g i0) (d1 g i0))) (L1 g)) []),(7,.row 0 (λi0=>.sl 3 (λi1=>.rat (acQ p1 d1 i0 i1)) (L1 i0)))],.reg 11 [(5,.k g)],.reg 9 [(1,.z ((g+1:Nat):Int))],.reg 9 [(1,.z ((g+1:Nat):Int))],.conv 13 [] ⟨[(0,.sl 1 (λi0=>.sl 2 (λi1=>.agg (c2 (iZ (p1 i0 i1)) (iZ (d1 i0 i1)))) (L1 i0)) N1),(3,.sl 1 (λi0=>.sl 3 (λi1=>.rat (acQ p1 d1 i0 i1)) (L1 i0)) N1),(4,iN k)],[],0⟩,.reg 13 [(1,.call [.sl 1 (λi0=>.sl 3 (λi1=>.rat ((acQ p1 d1) i0 i1)) (L1 i0)) N1] (c2 (.ex (.pointer none)) (.ifc 113 (.ep (.agg (c3 (.ex (.string sCol)) (iN k) (.ex (.iface 63 (.int .i64 2)))))))) [])],.dec 46 true,.reg 15 [(5,.callS (bX true) []),(6,.sure .no)]])]) Tryz.func6 (let y0:=((true&&true)==true);(∀j0,j0<N1->(∀j1,j1<(L1 j0)->True))/\(CallOK Tryz.prog 9 [] (bX true) [])/\((!true)=false)/\((decide ((6:Int)<(N1:Int)))=false)/\(((λX1 X2 X3:Prop=>∃g0:Nat,X1/\X2/\X3/\((-1:Int)=(if g0<=k then(-1:Int) else(k:Int)))/\((0:Int)=(g0:Int))/\((g0:Nat)=0)/\(g0<=N1)) _ _ _)/\∀g:Nat,(g<=N1)->(((decide ((g:Int)<(N1:Int)))=true->_/\(g<N1)/\_/\(g+1<=68719476736)/\_/\_/\_/\_/\(((decide ((if g<=k then(-1:Int) else(k:Int):Int)<0))==true)=true->_)/\(((decide ((if g<=k then(-1:Int) else(k:Int):Int)<0))==true)=true->g<N1)/\_/\_/\_/\_/\_/\((decide ((if g<=k then(-1:Int) else(k:Int):Int)<0))=true->((decide ((if g<=k then(-1:Int) else(k:Int):Int)<0))==true)=true)/\(((bif (decide ((if g<=k then(-1:Int) else(k:Int):Int)<0)) then(!decide (((L1 g:Nat):Int)=(N1:Int))) else false)=true->_/\((λX1 X2 X3 X4:Prop=>∃g1:Nat,X1/\X2/\X3/\((g:Int)=(if g1<=k then(-1:Int) else(k:Int)))/\(((g+1:Nat):Int)=(g1:Int))/\((g+1:Nat)=g1)/\X4/\(g1<=N1)/\(N1-g1<N1-g)) _ _ _ _))/\((bif (decide ((if g<=k then(-1:Int) else(k:Int):Int)<0)) then(!decide (((L1 g:Nat):Int)=(N1:Int))) else false)=false->_/\((λX1 X2 X3 X4:Prop=>∃g1:Nat,X1/\X2/\X3/\((if g<=k then(-1:Int) else(k:Int):Int)=(if g1<=k then(-1:Int) else(k:Int)))/\(((g+1:Nat):Int)=(g1:Int))/\((g+1:Nat)=g1)/\X4/\(g1<=N1)/\(N1-g1<N1-g)) _ _ _ _))))/\((decide ((g:Int)<(N1:Int)))=false->_/\_/\((g:Nat)=N1)/\_/\((if g<=k then(-1:Int) else(k:Int):Int)=(k:Int))/\(CallOK Tryz.prog 13 [.sl 1 (λi0=>.sl 3 (λi1=>.rat ((acQ p1 d1) i0 i1)) (L1 i0)) N1] (c2 (.ex (.pointer none)) (.ifc 113 (.ep (.agg (c3 (.ex (.string sCol)) (iN k) (.ex (.iface 63 (.int .i64 2)))))))) [])/\_/\(∀j0,j0<N1->((L1 j0:Nat)=(L1 j0))/\(∀j1,j1<(L1 j0)->((acQ p1 d1 j0 j1:Rat)=((acQ p1 d1) j0 j1))))/\((decide ((0:Int)<=(k:Int)))=true)/\(y0=true->y0=true)/\(y0=true->y0=true)/\(y0=true->CallOK Tryz.prog 27 [.ifc 113 (.ep (.agg (c3 (.ex (.string sCol)) (iN k) (.ex (.iface 63 (.int .i64 2)))))),.ex (.int .i64 2),.ex (.string sCol),iN k] (bX true) [])/\((true&&true)=true)/\(y0=true)/\(_)))))
  ⟨(λ_ _=>(λ_ _=>trivial)),sAwake14,rfl,(decide_eq_false zo),⟨0,(rf N1),(leS (λi0=>.sl 2 (λi1=>.agg (c2 (iZ (p1 i0 i1)) (iZ (d1 i0 i1)))) (L1 i0)) N1),(rf 0),(if_pos (Nat.zero_le k)).symm,zo,zo,zo⟩,λg hg=>⟨λhc16=>have hc16:=dT hc16;have hgn:g<N1:=zo;⟨(rf (g:Int)),zo,(sMake (n:=L1 g) (p:=λi=>p1 g i) (d:=λi=>d1 g i) (hL1 g hgn) (λc hc=>w1 g hgn c hc)).frzV,zo,(oldS (λi0=>.sl 3 (λi1=>.rat (acQ p1 d1 i0 i1)) (L1 i0)) g),(newS (λi0=>.sl 3 (λi1=>.rat (acQ p1 d1 i0 i1)) (L1 i0)) g),(idB ((decide ((if g<=k then(-1:Int) else(k:Int):Int)<0))==true)),(idB ((decide ((if g<=k then(-1:Int) else(k:Int):Int)<0))==true)),(λhg=>(rf (g:Int))),(λhg=>zo),(idB ((decide ((if g<=k then(-1:Int) else(k:Int):Int)<0))==true)),(idB ((decide ((if g<=k then(-1:Int) else(k:Int):Int)<0))==true)),(idB ((decide ((if g<=k then(-1:Int) else(k:Int):Int)<0))==true)),(idB ((decide ((if g<=k then(-1:Int) else(k:Int):Int)<0))==true)),(idB ((decide ((if g<=k then(-1:Int) else(k:Int):Int)<0))==true)),(by first | exact id | (simp;done)),λhc38=>have hw:=wr_T hc38;have hgk:g=k:=(by rcases Nat.lt_or_eq_of_le hw.1 with e | e;exact absurd (hlen g e) hw.2;exact e);⟨(wI (g:=g) zo),g+1,(rf N1),(leS (λi0=>.sl 2 (λi1=>.agg (c2 (iZ (p1 i0 i1)) (iZ (d1 i0 i1)))) (L1 i0)) N1),(rf 0),(by first | exact wr_hit hgk | exact wr_stay hgk),zo,zo,(leS (λi0=>.sl 3 (λi1=>.rat (acQ p1 d1 i0 i1)) (L1 i0)) (g+1)),zo,zo⟩,λhc38=>have hgk:g≠k:=(λe=>wr_F hc38 (e▸hne) (Nat.le_of_eq e));⟨(wI (g:=g) zo),g+1,(rf N1),(leS (λi0=>.sl 2 (λi1=>.agg (c2 (iZ (p1 i0 i1)) (iZ (d1 i0 i1)))) (L1 i0)) N1),(rf 0),(by first | exact wr_hit hgk | exact wr_stay hgk),zo,zo,(leS (λi0=>.sl 3 (λi1=>.rat (acQ p1 d1 i0 i1)) (L1 i0)) (g+1)),zo,zo⟩⟩,λhc16=>have hc16:=dF hc16;have hi2:g=N1:=zo;⟨(rf N1),(leS (λi0=>.sl 2 (λi1=>.agg (c2 (iZ (p1 i0 i1)) (iZ (d1 i0 i1)))) (L1 i0)) N1),hi2,(leS (λi0=>.sl 3 (λi1=>.rat (acQ p1 d1 i0 i1)) (L1 i0)) g),(if_neg zo),(sBNew_len (C:=(acQ p1 d1)) (len:=L1) (k:=k) hN hk hlen hne),(rf N1),(λj0 hj0=>⟨rfl,(λj1 hj1=>rfl)⟩),(decide_eq_true zo),id,id,(λhg=>sToldF),(by first | rfl | (simp;done)),(by first | rfl | (simp;done)),(rf (true:Bool))⟩⟩⟩
theorem sBasisNews_sing{N1:Nat}{L1:Nat->Nat}{p1 d1:Nat->Nat->Int}(hN:N1<=6)(hL1:∀i,i<N1->L1 i<=68719476736)(w1:∀i,i<N1->∀c,c<L1 i->Wd64 (p1 i c)/\Wd64 (d1 i c))(hlen:∀i,i<N1->L1 i=N1)(hok:¬luOK N1 (trM (acQ p1 d1)) N1):CallOK Tryz.prog 6 [.sl 1 (λi0=>.sl 2 (λi1=>.agg (c2 (iZ (p1 i0 i1)) (iZ (d1 i0 i1)))) (L1 i0)) N1] (bX true) []:=by
 have hH:HtB N1 N1 3 (trM (acQ p1 d1)):=news_htT w1 hlen
 have hR:=news_iff hH
 exact kP (ch:=[.reg 1 [(0,.callS (bX true) [])],.dec 9 false,.dec 12 false,.loop 8 (Nat) (λg=>g<=N1) (λg=>N1-g) (λg=>⟨[(0,.sl 1 (λi0=>.sl 2 (λi1=>.agg (c2 (iZ (p1 i0 i1)) (iZ (d1 i0 i1)))) (L1 i0)) N1),(3,.own 0 0),(4,iZ (-1)),(5,iN g)],[(0,.one (.row 33 1 (λi0=>.sl 3 (λi1=>.rat (acQ p1 d1 i0 i1)) (L1 i0)) g))],1⟩) [(0,.nil)] (λ_=>[(0,.id 1)]) (λg=>[.reg 10 [(3,.k g),(5,.callS (.sl 3 (λi0=>.rat (oneQ (p1 g i0) (d1 g i0))) (L1 g)) []),(7,.row 0 (λi0=>.sl 3 (λi1=>.rat (acQ p1 d1 i0 i1)) (L1 i0)))],.reg 11 [(5,.k g)],.dec 38 false,.reg 9 [(1,.z ((g+1:Nat):Int))],.conv 13 [] ⟨[(0,.sl 1 (λi0=>.sl 2 (λi1=>.agg (c2 (iZ (p1 i0 i1)) (iZ (d1 i0 i1)))) (L1 i0)) N1),(3,.sl 1 (λi0=>.sl 3 (λi1=>.rat (acQ p1 d1 i0 i1)) N1) N1),(4,iZ (-1))],[],0⟩,.reg 13 [(1,.call [.sl 1 (mE (acQ p1 d1) N1) N1] (c2 (.ex (.pointer none)) (.ex (.iface 63 (.int .i64 140)))) [])],.dec 46 false,.reg 16 [(3,.callS (bX (decide ((red N1 (acQ p1 d1) N1).2.1=N1))) [])],.dec 58 true,.reg 17 [(4,.callS (bX true) []),(5,.sure .no)]])]) Tryz.func6 (let y2:=(decide ((-1:Int)<0));let y0:=(y2==true);let y1:=((true&&true)==true);(∀j0,j0<N1->(∀j1,j1<(L1 j0)->True))/\(CallOK Tryz.prog 9 [] (bX true) [])/\((!true)=false)/\((decide ((6:Int)<(N1:Int)))=false)/\(((λX1 X2 X3 X4:Prop=>∃g0:Nat,X1/\X2/\X3/\X4/\((0:Int)=(g0:Int))/\((g0:Nat)=0)/\(g0<=N1)) _ _ _ _)/\∀g:Nat,(g<=N1)->(((decide ((g:Int)<(N1:Int)))=true->_/\(g<N1)/\_/\(g+1<=68719476736)/\_/\_/\(y0=true->y0=true)/\(y0=true->y0=true)/\(y0=true->_)/\(y0=true->g<N1)/\(y0=true->y0=true)/\(y0=true->y0=true)/\(y0=true->y0=true)/\(y0=true->y0=true)/\(y0=true->y0=true)/\(y2=true->y0=true)/\((bif y2 then(!decide (((L1 g:Nat):Int)=(N1:Int))) else false)=false)/\_/\((λX1 X2 X3 X4 X5:Prop=>∃g1:Nat,X1/\X2/\X3/\X4/\(((g+1:Nat):Int)=(g1:Int))/\((g+1:Nat)=g1)/\X5/\(g1<=N1)/\(N1-g1<N1-g)) _ _ _ _ _))/\((decide ((g:Int)<(N1:Int)))=false->_/\_/\((g:Nat)=N1)/\(∀j0,j0<g->((L1 j0:Nat)=N1)/\(∀j1,j1<(L1 j0)->((acQ p1 d1 j0 j1:Rat)=(acQ p1 d1 j0 j1))))/\_/\(CallOK Tryz.prog 13 [.sl 1 (mE (acQ p1 d1) N1) N1] (c2 (.ex (.pointer none)) (.ex (.iface 63 (.int .i64 140)))) [])/\_/\(∀j0,j0<N1->((N1:Nat)=N1)/\(∀j1,j1<N1->((acQ p1 d1 j0 j1:Rat)=((acQ p1 d1) j0 j1))))/\((decide ((0:Int)<=(-1)))=false)/\_/\((!(decide ((red N1 (acQ p1 d1) N1).2.1=N1)))=true)/\(y1=true->y1=true)/\(y1=true->CallOK Tryz.prog 27 [.ex (.iface 63 (.int .i64 140)),.ex (.int .i64 140),.ex (.string sNo),.ex (.int .i64 0)] (bX true) [])/\((true&&true)=true)/\(y1=true)/\(_)))))
  ⟨(λ_ _=>(λ_ _=>trivial)),sAwake14,rfl,(decide_eq_false zo),⟨0,(rf N1),(leS (λi0=>.sl 2 (λi1=>.agg (c2 (iZ (p1 i0 i1)) (iZ (d1 i0 i1)))) (L1 i0)) N1),(rf 0),(rf (-1:Int)),zo,zo,zo⟩,λg hg=>⟨λhc16=>have hc16:=dT hc16;have hgn:g<N1:=zo;⟨(rf (g:Int)),zo,(sMake (n:=L1 g) (p:=λi=>p1 g i) (d:=λi=>d1 g i) (hL1 g hgn) (λc hc=>w1 g hgn c hc)).frzV,zo,(oldS (λi0=>.sl 3 (λi1=>.rat (acQ p1 d1 i0 i1)) (L1 i0)) g),(newS (λi0=>.sl 3 (λi1=>.rat (acQ p1 d1 i0 i1)) (L1 i0)) g),id,id,(λhg=>(rf (g:Int))),(λhg=>zo),id,id,id,id,id,(by first | exact id | (simp;done)),(by simp[hlen g hgn]),(wI (g:=g) zo),g+1,(rf N1),(leS (λi0=>.sl 2 (λi1=>.agg (c2 (iZ (p1 i0 i1)) (iZ (d1 i0 i1)))) (L1 i0)) N1),(rf 0),(rf (-1:Int)),zo,zo,(leS (λi0=>.sl 3 (λi1=>.rat (acQ p1 d1 i0 i1)) (L1 i0)) (g+1)),zo,zo⟩,λhc16=>have hc16:=dF hc16;have hi2:g=N1:=zo;⟨(rf N1),(leS (λi0=>.sl 2 (λi1=>.agg (c2 (iZ (p1 i0 i1)) (iZ (d1 i0 i1)))) (L1 i0)) N1),hi2,(λj0 hj0=>⟨(hlen j0 zo),(λj1 hj1=>rfl)⟩),(rf (-1:Int)),(sBNew_sing (C:=(acQ p1 d1)) hN hH hok),(rf N1),(λj0 hj0=>⟨rfl,(λj1 hj1=>rfl)⟩),rfl,sIndep (m:=N1) (n:=N1) (q:=(acQ p1 d1)) zo zo (news_red hN w1 hlen),(by rw[decide_eq_false (λe=>hok (hR.2 e))];rfl),id,(λhg=>sToldE),(by first | rfl | (simp;done)),(by first | rfl | (simp;done)),(rf (true:Bool))⟩⟩⟩
theorem sBasisNews_yes{N1:Nat}{L1:Nat->Nat}{p1 d1:Nat->Nat->Int}(hN:N1<=6)(hL1:∀i,i<N1->L1 i<=68719476736)(w1:∀i,i<N1->∀c,c<L1 i->Wd64 (p1 i c)/\Wd64 (d1 i c))(hlen:∀i,i<N1->L1 i=N1)(hok:luOK N1 (trM (acQ p1 d1)) N1):CallOK Tryz.prog 6 [.sl 1 (λi0=>.sl 2 (λi1=>.agg (c2 (iZ (p1 i0 i1)) (iZ (d1 i0 i1)))) (L1 i0)) N1] (bX true) []:=by
 have hH:HtB N1 N1 3 (trM (acQ p1 d1)):=news_htT w1 hlen
 have hR:=news_iff hH
 exact kP (ch:=[.reg 1 [(0,.callS (bX true) [])],.dec 9 false,.dec 12 false,.loop 8 (Nat) (λg=>g<=N1) (λg=>N1-g) (λg=>⟨[(0,.sl 1 (λi0=>.sl 2 (λi1=>.agg (c2 (iZ (p1 i0 i1)) (iZ (d1 i0 i1)))) (L1 i0)) N1),(3,.own 0 0),(4,iZ (-1)),(5,iN g)],[(0,.one (.row 33 1 (λi0=>.sl 3 (λi1=>.rat (acQ p1 d1 i0 i1)) (L1 i0)) g))],1⟩) [(0,.nil)] (λ_=>[(0,.id 1)]) (λg=>[.reg 10 [(3,.k g),(5,.callS (.sl 3 (λi0=>.rat (oneQ (p1 g i0) (d1 g i0))) (L1 g)) []),(7,.row 0 (λi0=>.sl 3 (λi1=>.rat (acQ p1 d1 i0 i1)) (L1 i0)))],.reg 11 [(5,.k g)],.dec 38 false,.reg 9 [(1,.z ((g+1:Nat):Int))],.conv 13 [] ⟨[(0,.sl 1 (λi0=>.sl 2 (λi1=>.agg (c2 (iZ (p1 i0 i1)) (iZ (d1 i0 i1)))) (L1 i0)) N1),(3,.sl 1 (λi0=>.sl 3 (λi1=>.rat (acQ p1 d1 i0 i1)) N1) N1),(4,iZ (-1))],[],0⟩,.reg 13 [(1,.call [.sl 1 (mE (acQ p1 d1) N1) N1] (c2 (.own 0 0) (.ex (.nilIface))) [.one (bV 1 2 (luS N1 (trM (acQ p1 d1)) N1) N1),cC (acQ p1 d1) N1,.one (eE noE N1 0)])],.dec 46 false,.reg 16 [(3,.callS (bX (decide ((red N1 (acQ p1 d1) N1).2.1=N1))) [])],.dec 58 false,.reg 18 [(5,.sure .no),(8,.callM [0,1,2] [.one (bV 1 2 (luS N1 (trM (acQ p1 d1)) N1) N1),cC (acQ p1 d1) N1,.one (eE noE N1 0)] [.own 0 0] (iN N1) [.one (bV 3 4 (luS N1 (trM (acQ p1 d1)) N1) N1),.dead,.dead,cC (acQ p1 d1) N1,.one (eE noE N1 0)]),(12,.sure .no),(15,.callM [0,3,4] [.one (bV 1 2 (luS N1 (trM (acQ p1 d1)) N1) N1),cC (acQ p1 d1) N1,.one (eE noE N1 0)] [.own 0 0] (iN 0) [.one (bV 3 4 (luS N1 (trM (acQ p1 d1)) N1) N1),.dead,.dead,cC (acQ p1 d1) N1,.one (eE noE N1 0)]),(17,.sure .no)]])]) Tryz.func6 (let y5:=(decide ((-1:Int)<0));let y0:=(y5==true);let y4:=(decide ((N1:Int)=(N1:Int)));let y1:=(y4==true);let y2:=(true==true);let y3:=((!(false&&true))==true);(∀j0,j0<N1->(∀j1,j1<(L1 j0)->True))/\(CallOK Tryz.prog 9 [] (bX true) [])/\((!true)=false)/\((decide ((6:Int)<(N1:Int)))=false)/\(((λX1 X2 X3 X4:Prop=>∃g0:Nat,X1/\X2/\X3/\X4/\((0:Int)=(g0:Int))/\((g0:Nat)=0)/\(g0<=N1)) _ _ _ _)/\∀g:Nat,(g<=N1)->(((decide ((g:Int)<(N1:Int)))=true->_/\(g<N1)/\_/\(g+1<=68719476736)/\_/\_/\(y0=true->y0=true)/\(y0=true->y0=true)/\(y0=true->_)/\(y0=true->g<N1)/\(y0=true->y0=true)/\(y0=true->y0=true)/\(y0=true->y0=true)/\(y0=true->y0=true)/\(y0=true->y0=true)/\(y5=true->y0=true)/\((bif y5 then(!decide (((L1 g:Nat):Int)=(N1:Int))) else false)=false)/\_/\((λX1 X2 X3 X4 X5:Prop=>∃g1:Nat,X1/\X2/\X3/\X4/\(((g+1:Nat):Int)=(g1:Int))/\((g+1:Nat)=g1)/\X5/\(g1<=N1)/\(N1-g1<N1-g)) _ _ _ _ _))/\((decide ((g:Int)<(N1:Int)))=false->_/\_/\((g:Nat)=N1)/\(∀j0,j0<g->((L1 j0:Nat)=N1)/\(∀j1,j1<(L1 j0)->((acQ p1 d1 j0 j1:Rat)=(acQ p1 d1 j0 j1))))/\_/\(CallOK Tryz.prog 13 [.sl 1 (mE (acQ p1 d1) N1) N1] (c2 (.own 0 0) (.ex (.nilIface))) [.one (bV 1 2 (luS N1 (trM (acQ p1 d1)) N1) N1),cC (acQ p1 d1) N1,.one (eE noE N1 0)])/\_/\(∀j0,j0<N1->((N1:Nat)=N1)/\(∀j1,j1<N1->((acQ p1 d1 j0 j1:Rat)=((acQ p1 d1) j0 j1))))/\((decide ((0:Int)<=(-1)))=false)/\_/\((!(decide ((red N1 (acQ p1 d1) N1).2.1=N1)))=false)/\(y3=true->y3=true)/\((!(false&&true))=true)/\(y3=true)/\(y2=true)/\(y2=true->y2=true)/\_/\_/\_/\_/\_/\_/\(y2=true->y2=true)/\(y2=true->y2=true)/\(y2=true->y2=true)/\(true=true)/\(y2=true)/\(y1=true)/\(y1=true->y1=true)/\_/\_/\_/\_/\_/\_/\(y1=true->y1=true)/\(y4=true)/\(y1=true)/\(((decide (((0:Nat):Int)=0):Bool)=true))))))
  ⟨(λ_ _=>(λ_ _=>trivial)),sAwake14,rfl,(decide_eq_false zo),⟨0,(rf N1),(leS (λi0=>.sl 2 (λi1=>.agg (c2 (iZ (p1 i0 i1)) (iZ (d1 i0 i1)))) (L1 i0)) N1),(rf 0),(rf (-1:Int)),zo,zo,zo⟩,λg hg=>⟨λhc16=>have hc16:=dT hc16;have hgn:g<N1:=zo;⟨(rf (g:Int)),zo,(sMake (n:=L1 g) (p:=λi=>p1 g i) (d:=λi=>d1 g i) (hL1 g hgn) (λc hc=>w1 g hgn c hc)).frzV,zo,(oldS (λi0=>.sl 3 (λi1=>.rat (acQ p1 d1 i0 i1)) (L1 i0)) g),(newS (λi0=>.sl 3 (λi1=>.rat (acQ p1 d1 i0 i1)) (L1 i0)) g),id,id,(λhg=>(rf (g:Int))),(λhg=>zo),id,id,id,id,id,(by first | exact id | (simp;done)),(by simp[hlen g hgn]),(wI (g:=g) zo),g+1,(rf N1),(leS (λi0=>.sl 2 (λi1=>.agg (c2 (iZ (p1 i0 i1)) (iZ (d1 i0 i1)))) (L1 i0)) N1),(rf 0),(rf (-1:Int)),zo,zo,(leS (λi0=>.sl 3 (λi1=>.rat (acQ p1 d1 i0 i1)) (L1 i0)) (g+1)),zo,zo⟩,λhc16=>have hc16:=dF hc16;have hi2:g=N1:=zo;⟨(rf N1),(leS (λi0=>.sl 2 (λi1=>.agg (c2 (iZ (p1 i0 i1)) (iZ (d1 i0 i1)))) (L1 i0)) N1),hi2,(λj0 hj0=>⟨(hlen j0 zo),(λj1 hj1=>rfl)⟩),(rf (-1:Int)),(sBNew (C:=(acQ p1 d1)) (e:=noE) hN hH hok),(rf N1),(λj0 hj0=>⟨rfl,(λj1 hj1=>rfl)⟩),rfl,sIndep (m:=N1) (n:=N1) (q:=(acQ p1 d1)) zo zo (news_red hN w1 hlen),(by rw[decide_eq_true (hR.1 hok)];rfl),id,(by first | rfl | (simp;done)),(by first | rfl | (simp;done)),(by first | rfl | (simp;done)),id,(sBSize (D:=(trM (acQ p1 d1))) (C:=(acQ p1 d1)) (e:=noE) (m:=0) (n:=N1)),(rf (.one (bV 1 2 (luS N1 (trM (acQ p1 d1)) N1) N1):Hl)),(rf (cC (acQ p1 d1) N1:Hl)),(rf (.one (eE noE N1 0):Hl)),(rf 0),(rf 0),id,id,id,(by first | rfl | (simp;done)),(by first | rfl | (simp;done)),(by first | rfl | (simp;done)),id,(sBEtas (D:=(trM (acQ p1 d1))) (C:=(acQ p1 d1)) (e:=noE) (m:=0) (n:=N1)),(rf (.one (bV 3 4 (luS N1 (trM (acQ p1 d1)) N1) N1):Hl)),(rf (cC (acQ p1 d1) N1:Hl)),(rf (.one (eE noE N1 0):Hl)),(rf 0),(rf 0),id,(by first | rfl | (simp;done)),(by first | rfl | (simp;done)),(decide_eq_true rfl)⟩⟩⟩
theorem sBasisNews{N1:Nat}{L1:Nat->Nat}{p1 d1:Nat->Nat->Int}(hL1:∀i,i<N1->L1 i<=68719476736)(w1:∀i,i<N1->∀c,c<L1 i->Wd64 (p1 i c)/\Wd64 (d1 i c)):CallOK Tryz.prog 6 [.sl 1 (λi0=>.sl 2 (λi1=>.agg (c2 (iZ (p1 i0 i1)) (iZ (d1 i0 i1)))) (L1 i0)) N1] (bX true) []:=by
 by_cases hN:N1<=6
 ·by_cases hl:∃k,k<N1/\L1 k≠N1
  ·obtain⟨k,⟨hk,hne⟩,hlen⟩:=least_ex hl
   exact sBasisNews_len hN hL1 w1 hk (λi hi=>Classical.byContradiction λh=>hlen i hi ⟨by omega,h⟩) hne
  ·have hlen:∀i,i<N1->L1 i=N1:=λi hi=>Classical.byContradiction λh=>hl ⟨i,hi,h⟩
   by_cases hok:luOK N1 (trM (acQ p1 d1)) N1
   ·exact sBasisNews_yes hN hL1 w1 hlen hok
   ·exact sBasisNews_sing hN hL1 w1 hlen hok
 ·exact sBasisNews_big hN
open Go.ChangeShapes Go.WideShapes Go.ChangeAt Go.RowKit
section
variable {H:Type} {enc:TypeId×Value->H} {P:Program}
theorem trodAll_below(hl:laidOutB P=true){W W':World}(hb:Below W.heap.size W W'):∀{ts:List TypeId} {vs:List Value} {ds:List (DataW H)} {ps:List MemPlace},
  (∀t∈ts,P.readableRec t=true/\t<P.types.size)->DataW.TrodAll enc P W 0 (λ_=>true) true ts vs ds ps->(∀x∈ps,x.block<W.heap.size)->
  DataW.TrodAll enc P W' 0 (λb=>decide (b<W.heap.size)) true ts vs ds ps
 | [],_,_,_,_,h,_=>by
  obtain⟨rfl,rfl,rfl⟩:=trodAll_nil h
  exact trodAll_mk0
 | t::ts,_,_,_,ht,h,hlt=>by
  obtain⟨v,vs1,d,ds1,a,b,rfl,rfl,rfl,h1,h2⟩:=trodAll_cons h
  have ht0:=ht t (List.mem_cons_self ..)
  exact trodAll_cons_mk (Below.trod hl ht0.1 ht0.2 h1 hb (λx hx=>hlt x (List.mem_append.2 (.inl hx))))
   (trodAll_below hl hb (λt' h'=>ht t' (List.mem_cons_of_mem _ h')) h2 (λx hx=>hlt x (List.mem_append.2 (.inr hx))))
theorem law_post{f:Func}{s:ChangeSpec}{W W':World}{args:Array Value}{ds gs:List (DataW H)}{before:List MemPlace}{tb:TypeId}(hl:laidOutB P=true)
  (hts:∀t∈f.params.toList,P.readableRec t=true/\t<P.types.size)(hvars:s.vars=[])(hrt:f.resultTypes=#[tb])(htb:P.underlying tb=some .bool)
  (hW:DataW.Whole enc P f.params.toList s.vars false W args.toList ds gs before)(hfr:(s.fn H (ds++gs)).results=[.lit (.bool true)])(hfa:(s.fn H (ds++gs)).args=ds)(hfv:(s.fn H (ds++gs)).vars=[])
  (hb:Below W.heap.size W W'):s.post enc P f false true false false W args (.bool true) W':=by
 have hW0:=hW
 obtain⟨p,q,hA,hV,rfl,hz,hn⟩:=hW
 rw[hvars] at hV
 obtain⟨rfl,rfl⟩:=trodVars_none hV
 have hlt:∀x∈p++[],x.block<W.heap.size:=λx hx=>hW0.lt x hx
 refine⟨ds,[],p++[],[],p,[],hW0,?_,?_,?_,hb.frame _,λh=>by cases h⟩
 ·rw[hfr,hrt]
  exact trodAll_mk1 (shut_bool htb true)
 ·rw[hfa]
  exact trodAll_below hl hb hts hA (λx hx=>hlt x (by simpa using hx))
 ·rw[hvars,hfv]
  rfl
end
theorem TryzlaidOut:laidOutB Tryz.prog=true:=by kernel_rfl
theorem Tryzown:ownKnob Tryz.prog.godebug=none:=by kernel_rfl
open Go.ChangeShapes Go.WideShapes Go.ChangeAt Go.RowKit Go.Deep
def R0 (a:SV) (W:World) (v:Value):Prop:=a.R (λ_ _=>none) (λ_=>False) W v
section
variable {H:Type} {enc:TypeId×Value->H} {W:World} {fuel base:Nat} {cs:List Value} {x:DataW H×List MemPlace}
def LongC (n:Nat) (d:DataW H) (C:Nat->DataW H->Prop):Prop:=(n=0/\d=.nil)∨∃(D:Nat->DataW H) (sp:List (DataW H)),d=.slice ((List.range n).map D) sp/\∀i,i<n->C i (D i)
def Opens (enc:TypeId×Value->H) (W:World) (T:TypeId) (s:Nat) {α:Type} (E:α->SV) (C:α->DataW H->Prop):Prop:=∀fuel cs x,DataW.trod enc Tryz.prog W 0 (λ_=>true) true fuel T cs=some x->∃(t:α) (ev:Value),cs=ev.cells.toList/\ev.cells.size=s/\One ev/\R0 (E t) W ev/\C t x.1
theorem choose_nat{α:Type}(d:α){p:Nat->α->Prop}{n:Nat}(h:∀i,i<n->∃t,p i t):∃t:Nat->α,∀i,i<n->p i (t i):=by
 classical
 exact⟨λi=>if hi:i<n then(h i hi).choose else d,λi hi=>by simpa [hi] using(h i hi).choose_spec⟩
theorem cellLt{a:Addr}{v:Value}(h:W.cell? a=some v):a.block<W.heap.size:=by
 unfold World.cell? at h
 split at h
 ·rename_i hh
  exact(Array.getElem?_eq_some_iff.1 hh).1
 all_goals cases h
theorem opens_sl{T e:TypeId}{s:Nat}{α:Type}{E:α->SV}{C:α->DataW H->Prop}(d:α)(hT:Tryz.prog.underlying T=some (.slice e))(hs:Tryz.prog.cellsOf e=s)(h0:0<s)(h:Opens enc W e s E C):
  Opens enc W T 1 (λt:Nat×(Nat->α)=>.sl s (λi=>E (t.2 i)) t.1) (λt d=>LongC t.1 d λi d'=>C (t.2 i) d'):=by
 intro fuel cs x hr
 rcases open_slice hT hr with⟨rfl,rfl⟩ | ⟨a,len,cap,m,k,D,Pl,rfl,_,hl,hm,hmm,rfl,hx⟩
 ·exact⟨(0,λ_=>d),.slice none 0 0,rfl,rfl,by simp[One,Value.cells,Value.oneCell'],⟨none,0,rfl,λ_=>⟨rfl,rfl⟩,Nat.le_refl _,Nat.zero_le _,λi hi=>by omega⟩,.inl ⟨rfl,rfl⟩⟩
 ·have hm':m=cap:=by rw[hmm];rfl
  subst hs
  rcases Nat.eq_zero_or_pos len with rfl | hpos
  ·exact⟨(0,λ_=>d),.slice (some a) 0 cap,rfl,rfl,by simp[One,Value.cells,Value.oneCell'],⟨some a,cap,rfl,(λe=>by cases e),Nat.zero_le _,hm,λi hi=>by omega⟩,.inr ⟨D,_,rfl,λi hi=>by omega⟩⟩
  have hspot:a.spot=none:=by
   obtain⟨cs',hc,_⟩:=hx 0 zo
   obtain⟨_,hlen,hcell⟩:=World.cells?_some hc
   have h1:=hcell 0 h0
   rw[List.getElem?_eq_getElem (by rw[hlen];exact h0)] at h1
   have:=World.cell?_spot h1
   simpa [Addr.add] using this
  obtain⟨g,o,sp⟩:=a
  simp only at hspot
  subst hspot
  have hone:∀i,i<len->∃t:α,(∃g' o',some (⟨g,o,none⟩:Addr)=some ⟨g',o',none⟩/\g'<W.heap.size/\∃ev:Value,(ev.cells.size=Tryz.prog.cellsOf e/\One ev)/\R0 (E t) W ev/\∀j u,ev.cells[j]?=some u->W.cell? ⟨g',(o'+Tryz.prog.cellsOf e*i)+j,none⟩=some u)/\C t (D i):=λi hi=>by
   obtain⟨cs',hc,ht⟩:=hx i zo
   obtain⟨t,ev,rfl,k1,k2,k3,k4⟩:=h _ _ _ ht
   obtain⟨_,hlen,hcell⟩:=World.cells?_some hc
   have hcell:∀j,j<Tryz.prog.cellsOf e->W.cell? ⟨g,o+Tryz.prog.cellsOf e*i+j,none⟩=ev.cells.toList[j]?:=λj hj=>by
    have:=hcell j hj
    rw[add_plain,add_plain] at this
    rw[←this,Nat.mul_comm i]
   have hg:g<W.heap.size:=by
    have h1:=hcell 0 h0
    rw[List.getElem?_eq_getElem (by rw[hlen];exact h0)] at h1
    exact cellLt h1
   refine⟨t,⟨g,o,rfl,hg,ev,⟨k1,k2⟩,k3,λj u hj=>?_⟩,k4⟩
   have hj3:j<ev.cells.size:=(Array.getElem?_eq_some_iff.1 hj).1
   rw[hcell j zo]
   simpa using hj
  obtain⟨t,ht⟩:=choose_nat d hone
  refine⟨(len,t),.slice (some ⟨g,o,none⟩) len cap,rfl,rfl,by simp[One,Value.cells,Value.oneCell'],⟨some ⟨g,o,none⟩,cap,rfl,(λe=>by cases e),hl,hm,λi hi=>?_⟩,.inr ⟨_,_,rfl,λi hi=>(ht i hi).2⟩⟩
  obtain⟨g,o,e1,e2,ev,e3,e4,e5⟩:=(ht i hi).1
  exact⟨g,o,e1,id,e2,ev,e3,e4,e5⟩
theorem opens_int{T:TypeId}(hT:Tryz.prog.underlying T=some (.int .i64)):Opens enc W T 1 (λz:Int=>.ex (.int .i64 z)) (λz _=>Wd64 z):=by
 intro fuel cs x hx
 obtain⟨p,hp,_,wp⟩:=DataW.trod_int hT hx
 have:-9223372036854775808<=p/\p<=9223372036854775807:=by simpa [Lit.wf,IntKind.min,IntKind.max,IntKind.signed,IntKind.bits] using wp
 exact⟨p,.int .i64 p,hp,rfl,by simp[One,Value.cells,Value.oneCell'],rfl,this.1,by omega⟩
theorem flat_agg{vs:List Value}(h:∀v∈vs,One v):One (.agg (flat vs).toArray):=by
 intro u hu
 rw[agg_cells] at hu
 obtain⟨v,hv,hu⟩:=List.mem_flatMap.1 hu
 exact h v hv u hu
theorem opens_pair{T:TypeId}{f0 f1:Field}{s0 s1:Nat}{α β:Type}{E0:α->SV}{E1:β->SV}{C0:α->DataW H->Prop}{C1:β->DataW H->Prop}(hT:Tryz.prog.underlying T=some (.struct #[f0,f1]))(h0:f0.offset=0)(h1:f1.offset=s0)(c0:Tryz.prog.cellsOf f0.type=s0)(c1:Tryz.prog.cellsOf f1.type=s1)(c:Tryz.prog.cellsOf T=s0+s1)
  (k0:Opens enc W f0.type s0 E0 C0)(k1:Opens enc W f1.type s1 E1 C1):Opens enc W T (s0+s1) (λt:α×β=>.agg (.cn (E0 t.1) (.cn (E1 t.2) .nl))) (λt d=>∃d0 d1,d=.agg [d0,d1]/\C0 t.1 d0/\C1 t.2 d1):=by
 intro fuel cs x hr
 obtain⟨y0,y1,n,rfl,hl,r0,r1⟩:=trod_struct2 hT hr
 obtain⟨t0,e0,z0,a0,o0,b0,g0⟩:=k0 _ _ _ r0
 obtain⟨t1,e1,z1,a1,o1,b1,g1⟩:=k1 _ _ _ r1
 rw[h0,c0,List.drop_zero] at z0
 rw[h1,c1] at z1
 have hcs:cs=flat [e0,e1]:=by
  show cs=e0.cells.toList++(e1.cells.toList++[])
  rw[←z0,←z1,List.append_nil,List.take_of_length_le (l:=List.drop s0 cs) (by rw[List.length_drop];omega),List.take_append_drop]
 refine⟨(t0,t1),.agg (flat [e0,e1]).toArray,by rw[agg_cells,hcs],?_,flat_agg λv hv=>?_,⟨[e0,e1],rfl,e0,[e1],rfl,b0,e1,[],rfl,b1,rfl⟩,_,_,rfl,g0,g1⟩
 ·show(flat [e0,e1]).toArray.size=_
  rw[←hcs]
  simp only[List.size_toArray]
  omega
 ·simp only[List.mem_cons,List.not_mem_nil,or_false] at hv
  rcases hv with rfl | rfl
  ·exact o0
  ·exact o1
theorem opens_slV{T e:TypeId}{s:Nat}{α:Type}{E:α->SV}{C:α->DataW H->Prop}{v:Value}{d:DataW H}{ps:List MemPlace}(hT:Tryz.prog.underlying T=some (.slice e))(hv:Value.okWide Tryz.prog W .any base T v)(h:DataW.Trod enc Tryz.prog W 0 (λ_=>true) true T v d ps)
  (k:Opens enc W T 1 (λt:Nat×(Nat->α)=>.sl s (λi=>E (t.2 i)) t.1) (λt d=>LongC t.1 d λi d'=>C (t.2 i) d')):∃(n:Nat) (t:Nat->α),R0 (.sl s (λi=>E (t i)) n) W v/\LongC n d λi d'=>C (t i) d':=by
 obtain⟨a,len,cap,rfl⟩:=okWide_slice hT hv
 obtain⟨fuel,hf⟩:=h
 obtain⟨t,ev,e,_,_,hR,hC⟩:=k _ _ _ hf
 have hev:ev=.slice a len cap:=by
  obtain⟨A0,c,rfl,_⟩:=hR
  have e:[Value.slice a len cap]=[Value.slice A0 t.1 c]:=e
  exact(List.cons.inj e).1.symm
 subst hev
 exact⟨t.1,t.2,hR,hC⟩
end
def fracS (t:Int×Int):SV:=.agg (.cn (.ex (.int .i64 t.1)) (.cn (.ex (.int .i64 t.2)) .nl))
theorem opens_frac{H:Type}{enc:TypeId×Value->H}{W:World}:Opens enc W 105 2 fracS (λt d=>∃d0 d1,d=.agg [d0,d1]/\Wd64 t.1/\Wd64 t.2):=
 opens_pair (s0:=1) (s1:=1) Tryz.underlying105 rfl rfl zk zk zk (opens_int Tryz.underlying3) (opens_int Tryz.underlying3)
def rowS (t:Nat×(Nat->Int×Int)):SV:=.sl 2 (λi=>fracS (t.2 i)) t.1
def RowC {H:Type} (t:Nat×(Nat->Int×Int)) (d:DataW H):Prop:=LongC t.1 d λi d'=>∃d0 d1,d'=.agg [d0,d1]/\Wd64 (t.2 i).1/\Wd64 (t.2 i).2
theorem opens_fracs{H:Type}{enc:TypeId×Value->H}{W:World}:Opens enc W 26 1 rowS RowC:=
 opens_sl (E:=fracS) (C:=λt d=>∃d0 d1,d=.agg [d0,d1]/\Wd64 t.1/\Wd64 t.2) (0,0) Tryz.underlying26 zk zd opens_frac
theorem opens_rows{H:Type}{enc:TypeId×Value->H}{W:World}:Opens enc W 22 1 (λt:Nat×(Nat->Nat×(Nat->Int×Int))=>.sl 1 (λi=>rowS (t.2 i)) t.1) (λt d=>LongC t.1 d λi d'=>RowC (t.2 i) d'):=
 opens_sl (E:=rowS) (C:=RowC) (0,λ_=>(0,0)) Tryz.underlying22 zk zd opens_fracs
section
variable {H:Type} {enc:TypeId×Value->H} {W:World} {base:Nat} {v:Value} {d:DataW H} {ps:List MemPlace}
theorem top_rows(hv:Value.okWide Tryz.prog W .any base 22 v)(h:DataW.Trod enc Tryz.prog W 0 (λ_=>true) true 22 v d ps):∃(n:Nat) (t:Nat->Nat×(Nat->Int×Int)),R0 (.sl 1 (λi=>rowS (t i)) n) W v/\LongC n d λi d'=>RowC (t i) d':=
 opens_slV (E:=rowS) (C:=RowC) Tryz.underlying22 hv h opens_rows
end
theorem CallOK.law{f:FuncId}{As:List SV}(h:CallOK Tryz.prog f As (bX true) []){W:World}{vals:List Value}(hA:xP As (λ_ _=>none) (λ_=>False) W vals)(hg:Gl W:=by intro _ e;cases e):Calls Tryz.prog f vals.toArray W λe W'=>∃v,e=.returned v/\Below W.heap.size W W'/\v=.bool true:=
 (h.run (λ_ _=>none) (λ_=>False) W vals ⟨λ_ h=>h.elim,hg⟩ hA).mono λ_ _ ⟨v,_,e1,hp,hR⟩=>⟨v,e1,hp.mod.grow,hR⟩
open Go.ChangeShapes Go.WideShapes Go.ChangeAt Go.RowKit Go.Deep
section
variable {H:Type} {enc:TypeId×Value->H} {W:World} {base:Nat} {v:Value} {d:DataW H} {ps:List MemPlace}
theorem LongC.at{n:Nat}{d:DataW H}{C:Nat->DataW H->Prop}(h:LongC n d C):∀i,i<n->∃d',C i d':=λi hi=>by
 rcases h with⟨rfl,_⟩ | ⟨D,_,_,k⟩
 ·omega
 ·exact⟨D i,k i hi⟩
end
section
variable {H:Type} {enc:TypeId×Value->H} {W:World} {base:Nat} {v:Value} {d:DataW H} {ps:List MemPlace}
theorem LongC.wf{n:Nat}{d:DataW H}{f:Nat->Nat}(h:LongC n d λi _=>f i<18446744073709551616):Wf f n:=λi hi=>by
 obtain⟨_,k⟩:=h.at i hi
 exact k
end
end Go.Proofs.YtgighdoacajmfaaGreatDoor
