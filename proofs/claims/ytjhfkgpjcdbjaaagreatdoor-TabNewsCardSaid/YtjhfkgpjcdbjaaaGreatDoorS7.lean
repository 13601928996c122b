/- The parts TC, TG, TS, TD, TE, TQ, TR, TF, TI, ZD, TH, ZE, Row, SO, SO2, SO3, SO4. -/
import Derived.Test.YtjhfkgpjcdbjaaaGreatDoorS6
set_option maxRecDepth 100000
namespace Go.Proofs.YtjhfkgpjcdbjaaaGreatDoor
open Go.RowKit
theorem sIndexNo{a:Nat->Int}{n:Nat}{v:Int}(hn:n<=68719476736)(h:∀i,i<n->a i≠v):CallOK Tryz.prog 95 [.sl 1 (λi0=>iZ (a i0)) n,.ex (.int .i64 v)] (iZ (-1)) []:=by
 exact kP (ch:=[.loop 2 (Nat) (λg=>g<=n) (λg=>n-g) (λg=>⟨[(0,.sl 1 (λi0=>iZ (a i0)) n),(1,.ex (.int .i64 v)),(7,iN n),(8,iN g)],[],0⟩) [] (λ_=>[]) (λg=>[.reg 4 [(3,.k g)],.dec 16 false,.reg 6 [(0,.z ((g+1:Nat):Int))]])]) Tryz.func95 ((∀j0,j0<n->True)/\(((λX1 X2 X3 X4:Prop=>∃g0:Nat,X1/\X2/\X3/\X4/\((0:Int)=(g0:Int))/\(g0<=n)) _ _ _ _)/\∀g:Nat,(g<=n)->(((decide ((g:Int)<(n:Int)))=true->_/\(g<n)/\((decide ((v:Int)=(a g)))=false)/\_/\((λX1 X2 X3 X4:Prop=>∃g1:Nat,X1/\X2/\X3/\X4/\(((g+1:Nat):Int)=(g1:Int))/\(g1<=n)/\(n-g1<n-g)) _ _ _ _))/\((decide ((g:Int)<(n:Int)))=false->(_)))))
  ⟨(λ_ _=>trivial),⟨0,(rf n),(leS (λi0=>iZ (a i0)) n),(rf (v:Int)),(rf (n:Int)),zo,zo⟩,λg hg=>⟨λhc9=>have hc9:=dT hc9;have hgn:g<n:=zo;⟨(rf (g:Int)),zo,(decide_eq_false λe=>h g hgn e.symm),(wI (g:=g) zo),g+1,(rf n),(leS (λi0=>iZ (a i0)) n),(rf (v:Int)),(rf (n:Int)),zo,zo,zo⟩,λhc9=>have hc9:=dF hc9;(rf (-1:Int))⟩⟩
theorem sIndexYes{a:Nat->Int}{n k:Nat}{v:Int}(hn:n<=68719476736)(hk:k<n)(h:∀i,i<k->a i≠v)(e:a k=v):CallOK Tryz.prog 95 [.sl 1 (λi0=>iZ (a i0)) n,.ex (.int .i64 v)] (iN k) []:=by
 exact kP (ch:=[.loop 2 (Nat) (λg=>g<=k) (λg=>n-g) (λg=>⟨[(0,.sl 1 (λi0=>iZ (a i0)) n),(1,.ex (.int .i64 v)),(7,iN n),(8,iN g)],[],0⟩) [] (λ_=>[]) (λg=>[.reg 4 [(3,.k g)],.reg 6 [(0,.z ((g+1:Nat):Int))]])]) Tryz.func95 ((∀j0,j0<n->True)/\(((λX1 X2 X3 X4:Prop=>∃g0:Nat,X1/\X2/\X3/\X4/\((0:Int)=(g0:Int))/\(g0<=k)) _ _ _ _)/\∀g:Nat,(g<=k)->(((decide ((g:Int)<(n:Int)))=true->_/\(g<n)/\(((decide ((v:Int)=(a g)))=true->(((g:Int)=(k:Int))))/\((decide ((v:Int)=(a g)))=false->_/\((λX1 X2 X3 X4:Prop=>∃g1:Nat,X1/\X2/\X3/\X4/\(((g+1:Nat):Int)=(g1:Int))/\(g1<=k)/\(n-g1<n-g)) _ _ _ _))))/\((decide ((g:Int)<(n:Int)))=false->(((-1:Int)=(k:Int)))))))
  ⟨(λ_ _=>trivial),⟨0,(rf n),(leS (λi0=>iZ (a i0)) n),(rf (v:Int)),(rf (n:Int)),zo,zo⟩,λg hg=>⟨λhc9=>have hc9:=dT hc9;⟨(rf (g:Int)),zo,λhc16=>have hc16:=dT hc16;have hgk:g=k:=(by rcases Nat.lt_or_eq_of_le hg with q | q;exact absurd hc16.symm (h g q);exact q);(by rw[hgk]),λhc16=>have hc16:=dF hc16;have hgk:g<k:=(by rcases Nat.lt_or_eq_of_le hg with q | q;exact q;rw[q] at hc16;exact absurd e.symm hc16);⟨(wI (g:=g) zo),g+1,(rf n),(leS (λi0=>iZ (a i0)) n),(rf (v:Int)),(rf (n:Int)),zo,zo,zo⟩⟩,λhc9=>have hc9:=dF hc9;have hx:False:=zo;hx.elim⟩⟩
theorem sContNo{a:Nat->Int}{n:Nat}{v:Int}(hn:n<=68719476736)(h:∀i,i<n->a i≠v):CallOK Tryz.prog 59 [.sl 1 (λi0=>iZ (a i0)) n,.ex (.int .i64 v)] (bX false) []:=by
 exact kP (ch:=[.reg 1 [(2,.callS (iZ (-1)) [])]]) Tryz.func59 ((∀j0,j0<n->True)/\(CallOK Tryz.prog 95 [.sl 1 (λi0=>iZ (a i0)) n,.ex (.int .i64 v)] (iZ (-1)) [])/\(((decide ((0:Int)<=(-1)):Bool)=false)))
  ⟨(λ_ _=>trivial),(sIndexNo hn h),rfl⟩
theorem sContYes0{a:Nat->Int}{n k:Nat}{v:Int}(hn:n<=68719476736)(hk:k<n)(h:∀i,i<k->a i≠v)(e:a k=v):CallOK Tryz.prog 59 [.sl 1 (λi0=>iZ (a i0)) n,.ex (.int .i64 v)] (bX true) []:=by
 exact kP (ch:=[.reg 1 [(2,.callS (iN k) [])]]) Tryz.func59 ((∀j0,j0<n->True)/\(CallOK Tryz.prog 95 [.sl 1 (λi0=>iZ (a i0)) n,.ex (.int .i64 v)] (iN k) [])/\(((decide ((0:Int)<=(k:Int)):Bool)=true)))
  ⟨(λ_ _=>trivial),(sIndexYes (k:=k) hn hk h e),(decide_eq_true zo)⟩
theorem least_k{P:Nat->Prop}(h:∃k,P k):∃k,P k/\∀i,i<k->¬P i:=by
 obtain⟨k,hk⟩:=h
 induction k using Nat.strongRecOn with
 | _ k ih=>
  by_cases e:∃i,i<k/\P i
  ·obtain⟨i,hi,hp⟩:=e;exact ih i hi hp
  ·exact⟨k,hk,λi hi hp=>e ⟨i,hi,hp⟩⟩
theorem sContYes{a:Nat->Int}{n:Nat}{v:Int}(hn:n<=68719476736)(h:∃k,k<n/\a k=v):CallOK Tryz.prog 59 [.sl 1 (λi0=>iZ (a i0)) n,.ex (.int .i64 v)] (bX true) []:=by
 obtain⟨k,⟨hk,e⟩,hl⟩:=least_k h
 exact sContYes0 hn hk (λi hi q=>hl i hi ⟨by omega,q⟩) e
abbrev sBas:ByteArray:=⟨#[98,97,115,105,115]⟩
def colA (A:Nat->Nat->Rat) (L:Nat->Nat) (k r:Nat):Rat:=A r (L k)
theorem sTNew_sing{A:Nat->Nat->Rat}{Bv Cs:Nat->Rat}{Lf:Nat->Int}{n N m:Nat}{L:Nat->Nat}(hm:m<=5)(hL:∀k,k<m->L k<N)(hd:∀k,k<m->∀i,i<k->L i≠L k)(hH:HtB m m 3 (trM (colA A L)))(hok:¬luOK m (trM (colA A L)) m):CallOK Tryz.prog 14 [.agg (.cn (.agg (c2 (.sl 1 (mE A N) m) (iN N))) (.cn (vE Bv m) (c3 (vE Cs N) (iN n) (.sl 1 (λi0=>iZ (Lf i0)) m)))),.sl 1 (λi0=>iN (L i0)) m] (c2 (.ex (.pointer none)) (.ifc 158 (.ep (.agg (c3 (.ex (.string sBas)) (.ex (.int .i64 0)) (.ex (.iface 57 (.int .i64 140)))))))) []:=by
 exact kP (ch:=[.reg 1 [(4,.callS (iN m) []),(12,.callS (iN m) [])],.dec 28 false,.loop 5 (Nat) (λg=>g<=m) (λg=>m-g) (λg=>⟨[(1,.sl 1 (λi0=>iN (L i0)) m),(2,.own 0 0),(6,.own 1 0),(30,.sl 1 (λi0=>iN (L i0)) m),(31,iN m),(32,iN g)],[(0,.one (.var 43 (.agg (.cn (.agg (c2 (.sl 1 (mE A N) m) (iN N))) (.cn (vE Bv m) (c3 (vE Cs N) (iN n) (.sl 1 (λi0=>iZ (Lf i0)) m))))))),(1,.one (.row 41 1 (λi0=>.sl 3 (λi1=>.rat (colA A L i0 i1)) m) g))],2⟩) [(0,.id 0),(1,.nil)] (λ_=>[(0,.id 0),(1,.id 2)]) (λg=>[.reg 6 [(1,.k g)],.reg 7 [(3,.callS (c2 (.sl 3 (λi0=>.rat (A i0 (L g))) m) (bX true)) [])],.reg 8 [(5,.kk 0 g),(7,.callS (bX false) [])],.dec 52 false,.reg 10 [(3,.row 0 (λi0=>.sl 3 (λi1=>.rat (colA A L i0 i1)) m))],.reg 11 [(0,.z ((g+1:Nat):Int))],.conv 12 [(0,.id 0)] ⟨[(1,.sl 1 (λi0=>iN (L i0)) m),(2,.own 0 0),(6,.sl 1 (λi0=>.sl 3 (λi1=>.rat (colA A L i0 i1)) m) m)],[(0,.one (.var 43 (.agg (.cn (.agg (c2 (.sl 1 (mE A N) m) (iN N))) (.cn (vE Bv m) (c3 (vE Cs N) (iN n) (.sl 1 (λi0=>iZ (Lf i0)) m)))))))],1⟩,.reg 12 [(1,.call [.sl 1 (mE (colA A L) m) m] (c2 (.ex (.pointer none)) (.ex (.iface 57 (.int .i64 140)))) [])],.dec 67 true,.reg 14 [(1,.callS (.ifc 158 (.ep (.agg (c3 (.ex (.string sBas)) (.ex (.int .i64 0)) (.ex (.iface 57 (.int .i64 140))))))) [])]])]) Tryz.func14 (let y0:=((!decide ((m:Int)=(m:Int)))==false);let y1:=((!true)==false);(∀j0,j0<m->(∀j1,j1<N->True))/\(∀j0,j0<m->True)/\(∀j0,j0<N->True)/\(∀j0,j0<m->True)/\(∀j0,j0<m->True)/\_/\(y0=true->y0=true)/\(y0=true->y0=true)/\(y0=true->y0=true)/\(y0=true->y0=true)/\(y0=true->_)/\(y0=true->y0=true)/\(y0=true->y0=true)/\((!(!decide ((m:Int)=(m:Int))))=true->y0=true)/\((bif (!decide ((m:Int)=(m:Int))) then true else(!decide ((m:Int)=(m:Int))))=false)/\(((λX1 X2 X3 X4 X5 X6 X7 X8 X9 X10 X11 X12 X13 X14 X15 X16 X17:Prop=>∃g0:Nat,X1/\X2/\X3/\X4/\X5/\X6/\X7/\((0:Int)=(g0:Int))/\X8/\X9/\X10/\X11/\X12/\X13/\X14/\X15/\X16/\X17/\((g0:Nat)=0)/\(g0<=m)) _ _ _ _ _ _ _ _ _ _ _ _ _ _ _ _ _)/\∀g:Nat,(g<=m)->(((decide ((g:Int)<(m:Int)))=true->_/\(g<m)/\_/\(y1=true->y1=true)/\(y1=true->y1=true)/\(y1=true->_)/\(y1=true->g<=m)/\(y1=true->y1=true)/\(y1=true->y1=true)/\(y1=true->CallOK Tryz.prog 59 [.sl 1 (λi0=>iN (L i0)) g,iN (L g)] (bX false) [])/\((!(!true))=true->y1=true)/\((bif (!true) then true else false)=false)/\(g+1<=68719476736)/\_/\_/\_/\((λX1 X2 X3 X4 X5 X6 X7 X8 X9 X10 X11 X12 X13 X14 X15 X16 X17 X18:Prop=>∃g1:Nat,X1/\X2/\X3/\X4/\X5/\X6/\X7/\(((g+1:Nat):Int)=(g1:Int))/\X8/\X9/\X10/\X11/\X12/\X13/\X14/\X15/\X16/\X17/\((g+1:Nat)=g1)/\X18/\(g1<=m)/\(m-g1<m-g)) _ _ _ _ _ _ _ _ _ _ _ _ _ _ _ _ _ _))/\((decide ((g:Int)<(m:Int)))=false->_/\_/\_/\((g:Nat)=m)/\_/\_/\_/\_/\_/\_/\_/\_/\_/\_/\_/\(CallOK Tryz.prog 61 [.sl 1 (mE (colA A L) m) m] (c2 (.ex (.pointer none)) (.ex (.iface 57 (.int .i64 140)))) [])/\_/\(∀j0,j0<m->((m:Nat)=m)/\(∀j1,j1<m->((colA A L j0 j1:Rat)=((colA A L) j0 j1))))/\((!false)=true)/\(CallOK Tryz.prog 60 [.ex (.iface 57 (.int .i64 140)),.ex (.string sBas),.ex (.int .i64 0)] (.ifc 158 (.ep (.agg (c3 (.ex (.string sBas)) (.ex (.int .i64 0)) (.ex (.iface 57 (.int .i64 140))))))) [])/\(((.pointer none:Value)=.pointer none)/\((.string sBas:Value)=.string sBas)/\_/\((.iface 57 (.int .i64 140):Value)=.iface 57 (.int .i64 140)))))))
  ⟨(λ_ _=>(λ_ _=>trivial)),(λ_ _=>trivial),(λ_ _=>trivial),(λ_ _=>trivial),(λ_ _=>trivial),xX (m:=m) (n:=N) (q:=A),id,id,id,id,(λhg=>xX (m:=m) (n:=N) (q:=A)),id,id,zs,zs,⟨0,(rf m),(leS (λi0=>iN (L i0)) m),(rf 0),(rf 0),(rf m),(leS (λi0=>iN (L i0)) m),(rf (m:Int)),zo,(rf m),(leS (mE A N) m),(rf (N:Int)),(rf m),(leS (λi0=>.rat (Bv i0)) m),(rf N),(leS (λi0=>.rat (Cs i0)) N),(rf (n:Int)),(rf m),(leS (λi0=>iZ (Lf i0)) m),zo,zo⟩,λg hg=>⟨λhc33=>have hc33:=dT hc33;have hgm:g<m:=zo;⟨(rf (g:Int)),zo,(sMatCol (m:=m) (n:=N) (q:=A) (c:=L g) zo (hL g hgm)),id,id,(λhg=>(rf (g:Int))),(λhg=>zo),id,id,(λhg=>(sContNo (a:=(λi=>(L i:Int))) zo (λi hi e=>hd g hgm i hi zo))),zs,rfl,zo,(oldS (λi0=>.sl 3 (λi1=>.rat (colA A L i0 i1)) m) g),(newS (λi0=>.sl 3 (λi1=>.rat (colA A L i0 i1)) m) g),(wI (g:=g) zo),g+1,(rf m),(leS (λi0=>iN (L i0)) m),(rf 0),(rf 0),(rf m),(leS (λi0=>iN (L i0)) m),(rf (m:Int)),zo,(rf m),(leS (mE A N) m),(rf (N:Int)),(rf m),(leS (λi0=>.rat (Bv i0)) m),(rf N),(leS (λi0=>.rat (Cs i0)) N),(rf (n:Int)),(rf m),(leS (λi0=>iZ (Lf i0)) m),zo,(leS (λi0=>.sl 3 (λi1=>.rat (colA A L i0 i1)) m) (g+1)),zo,zo⟩,λhc33=>have hc33:=dF hc33;have hi2:g=m:=zo;⟨(rf m),(leS (λi0=>iN (L i0)) m),(rf 0),hi2,(leS (λi0=>.sl 3 (λi1=>.rat (colA A L i0 i1)) m) g),(rf m),(leS (mE A N) m),(rf (N:Int)),(rf m),(leS (λi0=>.rat (Bv i0)) m),(rf N),(leS (λi0=>.rat (Cs i0)) N),(rf (n:Int)),(rf m),(leS (λi0=>iZ (Lf i0)) m),(sBNew_sing (C:=(colA A L)) zo hH hok),(rf m),(λj0 hj0=>⟨rfl,(λj1 hj1=>rfl)⟩),rfl,sWrap,rfl,rfl,(rf (0:Int)),rfl⟩⟩⟩
theorem sTNew{A:Nat->Nat->Rat}{Bv Cs:Nat->Rat}{Lf:Nat->Int}{n N m:Nat}{L:Nat->Nat}(hm:m<=5)(hL:∀k,k<m->L k<N)(hd:∀k,k<m->∀i,i<k->L i≠L k)(hK:BOK m (trM (colA A L)) (colA A L) noE 0)(hB:∀j,j<m->htq (Bv j)<=3):CallOK Tryz.prog 14 [.agg (.cn (.agg (c2 (.sl 1 (mE A N) m) (iN N))) (.cn (vE Bv m) (c3 (vE Cs N) (iN n) (.sl 1 (λi0=>iZ (Lf i0)) m)))),.sl 1 (λi0=>iN (L i0)) m] (c2 (.own 0 0) (.ex (.nilIface))) [.one (.var 126 (.agg (.cn (.agg (.cn (.agg (c2 (.sl 1 (mE A N) m) (iN N))) (.cn (vE Bv m) (c3 (vE Cs N) (iN n) (.sl 1 (λi0=>iZ (Lf i0)) m))))) (c3 (.own 1 0) (.own 2 0) (vE (zL (basX m (trM (colA A L)) Bv) noE 0) m))))),.one (.row 3 1 (λi0=>iN (L i0)) m),.one (bV 3 4 (luS m (trM (colA A L)) m) m),cC (colA A L) m,.one (eE noE m 0)]:=by
 exact kP (ch:=[.reg 1 [(4,.callS (iN m) []),(12,.callS (iN m) [])],.dec 28 false,.loop 5 (Nat) (λg=>g<=m) (λg=>m-g) (λg=>⟨[(1,.sl 1 (λi0=>iN (L i0)) m),(2,.own 0 0),(6,.own 1 0),(30,.sl 1 (λi0=>iN (L i0)) m),(31,iN m),(32,iN g)],[(0,.one (.var 43 (.agg (.cn (.agg (c2 (.sl 1 (mE A N) m) (iN N))) (.cn (vE Bv m) (c3 (vE Cs N) (iN n) (.sl 1 (λi0=>iZ (Lf i0)) m))))))),(1,.one (.row 41 1 (λi0=>.sl 3 (λi1=>.rat (colA A L i0 i1)) m) g))],2⟩) [(0,.id 0),(1,.nil)] (λ_=>[(0,.id 0),(1,.id 2)]) (λg=>[.reg 6 [(1,.k g)],.reg 7 [(3,.callS (c2 (.sl 3 (λi0=>.rat (A i0 (L g))) m) (bX true)) [])],.reg 8 [(5,.kk 0 g),(7,.callS (bX false) [])],.dec 52 false,.reg 10 [(3,.row 0 (λi0=>.sl 3 (λi1=>.rat (colA A L i0 i1)) m))],.reg 11 [(0,.z ((g+1:Nat):Int))],.conv 12 [(0,.id 0)] ⟨[(1,.sl 1 (λi0=>iN (L i0)) m),(2,.own 0 0),(6,.sl 1 (λi0=>.sl 3 (λi1=>.rat (colA A L i0 i1)) m) m)],[(0,.one (.var 43 (.agg (.cn (.agg (c2 (.sl 1 (mE A N) m) (iN N))) (.cn (vE Bv m) (c3 (vE Cs N) (iN n) (.sl 1 (λi0=>iZ (Lf i0)) m)))))))],1⟩,.reg 12 [(1,.call [.sl 1 (mE (colA A L) m) m] (c2 (.own 0 0) (.ex (.nilIface))) [.one (bV 1 2 (luS m (trM (colA A L)) m) m),cC (colA A L) m,.one (eE noE m 0)])],.dec 67 false,.reg 15 [(2,.callS (.own 0 0) [.one (.row 3 1 (λi0=>iN (L i0)) m)])],.reg 16 [(4,.callM [1,2,3] [.one (bV 1 2 (luS m (trM (colA A L)) m) m),cC (colA A L) m,.one (eE noE m 0)] [.own 0 0,.sl 3 (λi0=>.rat (Bv i0)) m] (c2 (.own 5 0) (bX true)) [.one (bV 3 4 (luS m (trM (colA A L)) m) m),.dead,.dead,cC (colA A L) m,.one (eE noE m 0),.one (.row 76 3 (λi0=>.rat ((zL (basX m (trM (colA A L)) Bv) noE 0) i0)) m)])],.ret 17 [(0,.id 5),(1,.id 4),(2,.id 1),(3,.id 6),(4,.id 7)]])]) Tryz.func14 (let y0:=((!decide ((m:Int)=(m:Int)))==false);let y1:=((!true)==false);(∀j0,j0<m->(∀j1,j1<N->True))/\(∀j0,j0<m->True)/\(∀j0,j0<N->True)/\(∀j0,j0<m->True)/\(∀j0,j0<m->True)/\_/\(y0=true->y0=true)/\(y0=true->y0=true)/\(y0=true->y0=true)/\(y0=true->y0=true)/\(y0=true->_)/\(y0=true->y0=true)/\(y0=true->y0=true)/\((!(!decide ((m:Int)=(m:Int))))=true->y0=true)/\((bif (!decide ((m:Int)=(m:Int))) then true else(!decide ((m:Int)=(m:Int))))=false)/\(((λX1 X2 X3 X4 X5 X6 X7 X8 X9 X10 X11 X12 X13 X14 X15 X16 X17:Prop=>∃g0:Nat,X1/\X2/\X3/\X4/\X5/\X6/\X7/\((0:Int)=(g0:Int))/\X8/\X9/\X10/\X11/\X12/\X13/\X14/\X15/\X16/\X17/\((g0:Nat)=0)/\(g0<=m)) _ _ _ _ _ _ _ _ _ _ _ _ _ _ _ _ _)/\∀g:Nat,(g<=m)->(((decide ((g:Int)<(m:Int)))=true->_/\(g<m)/\_/\(y1=true->y1=true)/\(y1=true->y1=true)/\(y1=true->_)/\(y1=true->g<=m)/\(y1=true->y1=true)/\(y1=true->y1=true)/\(y1=true->CallOK Tryz.prog 59 [.sl 1 (λi0=>iN (L i0)) g,iN (L g)] (bX false) [])/\((!(!true))=true->y1=true)/\((bif (!true) then true else false)=false)/\(g+1<=68719476736)/\_/\_/\_/\((λX1 X2 X3 X4 X5 X6 X7 X8 X9 X10 X11 X12 X13 X14 X15 X16 X17 X18:Prop=>∃g1:Nat,X1/\X2/\X3/\X4/\X5/\X6/\X7/\(((g+1:Nat):Int)=(g1:Int))/\X8/\X9/\X10/\X11/\X12/\X13/\X14/\X15/\X16/\X17/\((g+1:Nat)=g1)/\X18/\(g1<=m)/\(m-g1<m-g)) _ _ _ _ _ _ _ _ _ _ _ _ _ _ _ _ _ _))/\((decide ((g:Int)<(m:Int)))=false->_/\_/\_/\((g:Nat)=m)/\_/\_/\_/\_/\_/\_/\_/\_/\_/\_/\_/\(CallOK Tryz.prog 61 [.sl 1 (mE (colA A L) m) m] (c2 (.own 0 0) (.ex (.nilIface))) [.one (bV 1 2 (luS m (trM (colA A L)) m) m),cC (colA A L) m,.one (eE noE m 0)])/\_/\(∀j0,j0<m->((m:Nat)=m)/\(∀j1,j1<m->((colA A L j0 j1:Rat)=((colA A L) j0 j1))))/\((!true)=false)/\(CallOK Tryz.prog 62 [.sl 1 (λi0=>iN (L i0)) m] (.own 0 0) [.one (.row 3 1 (λi0=>iN (L i0)) m)])/\_/\_/\_/\_/\_/\_/\_/\_/\(_/\((.nilIface:Value)=.nilIface)/\_/\_/\_/\_/\_/\_/\_/\_/\_/\_/\_/\_/\_/\_/\_/\_/\_/\_/\_/\_/\_/\_/\_/\_/\_/\_/\_/\_/\_)))))
  ⟨(λ_ _=>(λ_ _=>trivial)),(λ_ _=>trivial),(λ_ _=>trivial),(λ_ _=>trivial),(λ_ _=>trivial),xX (m:=m) (n:=N) (q:=A),id,id,id,id,(λhg=>xX (m:=m) (n:=N) (q:=A)),id,id,zs,zs,⟨0,(rf m),(leS (λi0=>iN (L i0)) m),(rf 0),(rf 0),(rf m),(leS (λi0=>iN (L i0)) m),(rf (m:Int)),zo,(rf m),(leS (mE A N) m),(rf (N:Int)),(rf m),(leS (λi0=>.rat (Bv i0)) m),(rf N),(leS (λi0=>.rat (Cs i0)) N),(rf (n:Int)),(rf m),(leS (λi0=>iZ (Lf i0)) m),zo,zo⟩,λg hg=>⟨λhc33=>have hc33:=dT hc33;have hgm:g<m:=zo;⟨(rf (g:Int)),zo,(sMatCol (m:=m) (n:=N) (q:=A) (c:=L g) zo (hL g hgm)),id,id,(λhg=>(rf (g:Int))),(λhg=>zo),id,id,(λhg=>(sContNo (a:=(λi=>(L i:Int))) zo (λi hi e=>hd g hgm i hi zo))),zs,rfl,zo,(oldS (λi0=>.sl 3 (λi1=>.rat (colA A L i0 i1)) m) g),(newS (λi0=>.sl 3 (λi1=>.rat (colA A L i0 i1)) m) g),(wI (g:=g) zo),g+1,(rf m),(leS (λi0=>iN (L i0)) m),(rf 0),(rf 0),(rf m),(leS (λi0=>iN (L i0)) m),(rf (m:Int)),zo,(rf m),(leS (mE A N) m),(rf (N:Int)),(rf m),(leS (λi0=>.rat (Bv i0)) m),(rf N),(leS (λi0=>.rat (Cs i0)) N),(rf (n:Int)),(rf m),(leS (λi0=>iZ (Lf i0)) m),zo,(leS (λi0=>.sl 3 (λi1=>.rat (colA A L i0 i1)) m) (g+1)),zo,zo⟩,λhc33=>have hc33:=dF hc33;have hi2:g=m:=zo;⟨(rf m),(leS (λi0=>iN (L i0)) m),(rf 0),hi2,(leS (λi0=>.sl 3 (λi1=>.rat (colA A L i0 i1)) m) g),(rf m),(leS (mE A N) m),(rf (N:Int)),(rf m),(leS (λi0=>.rat (Bv i0)) m),(rf N),(leS (λi0=>.rat (Cs i0)) N),(rf (n:Int)),(rf m),(leS (λi0=>iZ (Lf i0)) m),(sBNew (C:=(colA A L)) (e:=noE) zo hK.hD hK.ok),(rf m),(λj0 hj0=>⟨rfl,(λj1 hj1=>rfl)⟩),rfl,(sClone (a:=(λi=>(L i:Int))) zo),(sBSolve (D:=(trM (colA A L))) (C:=(colA A L)) (e:=noE) (m:=0) (n:=m) (v:=Bv) zo hK.ok hK.hD hK.H hK.w zd hB (hK.x hm hB)),(rf (.one (bV 2 3 (luS m (trM (colA A L)) m) m):Hl)),(rf (cC (colA A L) m:Hl)),(rf (.one (eE noE m 0):Hl)),(rf 1),(rf 0),(rf m),(leS (λi0=>.rat (Bv i0)) m),(rf 0),rfl,(rf m),(leS (mE A N) m),(rf (N:Int)),(rf m),(leS (λi0=>.rat (Bv i0)) m),(rf N),(leS (λi0=>.rat (Cs i0)) N),(rf (n:Int)),(rf m),(leS (λi0=>iZ (Lf i0)) m),(rf 0),(rf 0),(rf m),(leS (λi0=>.rat ((zL (basX m (trM (colA A L)) Bv) noE 0) i0)) m),(rf m),(leS (λi0=>iN (L i0)) m),(rf 0),(rf m),(leS (mE (luS m (trM (colA A L)) m).2.1 m) m),(rf m),(leS (mE ((luS m (trM (colA A L)) m).1) m) m),(rf m),(leS (λi0=>iN ((luS m (trM (colA A L)) m).2.2.1 i0)) m),(rf ((luS m (trM (colA A L)) m).2.2.2.2:Bool)),(rf 0),(rf m),(leS (mE (colA A L) m) m),(rf 0),(leS (λi0=>.agg (c2 (iN ((noE i0).1)) (vE (noE i0).2 m))) 0)⟩⟩⟩
open Go.RowKit
theorem CallOKm.tag2 [Fz]{P:Program}{f:FuncId}{T:TypeId}{a a':SV}{ins outs:List Hl}{A:List SV}{R:SV}{b:Nat}{c0 c1 d0 d1:Hl}(h:CallOKm P f (c0::c1::.one (.var T a)::ins) A R (d0::d1::.one (.var T a')::outs)):CallOKm P f (c0::c1::.one (.var T a (some b))::ins) A R (d0::d1::.one (.var T a' (some b))::outs):=by
 refine⟨h.cal,λη0 M F w vals H hA=>?_⟩
 obtain⟨H1,hv1⟩:=H.retell (own':=zM 0 (c0::c1::.one (.var T a)::ins)) (λk i o' hk=>by
  rw[xR] at hk⊢
  match k,hk with
  | 0,hk=>exact⟨o',hk,λ_ _ _ h=>h⟩
  | 1,hk=>exact⟨o',hk,λ_ _ _ h=>h⟩
  | 2,hk=>
   cases i with
   | zero=>
    obtain rfl:=Option.some.inj hk
    exact⟨_,rfl,λA h e ⟨b1,v,e1,e2,e3,e4,e5⟩=>⟨b1,v,e1,e2,e3,e4,λb0 hb=>by cases hb⟩⟩
   | succ i=>cases hk
  | k+3,hk=>exact⟨o',hk,λ_ _ _ h=>h⟩) (λk i o hk=>by
  rw[xR] at hk⊢
  match k,hk with
  | 0,hk=>exact⟨o,hk⟩
  | 1,hk=>exact⟨o,hk⟩
  | 2,hk=>
   cases i with
   | zero=>exact⟨_,rfl⟩
   | succ i=>cases hk
  | k+3,hk=>exact⟨o,hk⟩) (λk i hk=>by
  rw[xR] at hk⊢
  match k,hk with
  | 0,hk=>exact hk
  | 1,hk=>exact hk
  | 2,hk=>exact hk
  | k+3,hk=>exact hk)
 rw[←hv1] at hA
 refine(h.run η0 M F w vals H1 hA).mono λe w'=>?_
 rintro⟨v,η',rfl,H2,hR,hx⟩
 obtain⟨hd,he,b1,u1,e1,e2,e3,e4,e5⟩:=H.ob 2 0 (.var T a (some b)) rfl
 have hbb:=e5 b rfl
 obtain⟨H3,hv3⟩:=H2.retell (own':=zM 0 (d0::d1::.one (.var T a' (some b))::outs)) (λk i o' hk=>by
  rw[xR] at hk⊢
  match k,hk with
  | 0,hk=>exact⟨o',hk,λ_ _ _ h=>h⟩
  | 1,hk=>exact⟨o',hk,λ_ _ _ h=>h⟩
  | 2,hk=>
   cases i with
   | zero=>
    obtain rfl:=Option.some.inj hk
    refine⟨_,rfl,λA h eh ⟨b2,v2,q1,q2,q3,q4,q5⟩=>⟨b2,v2,q1,q2,q3,q4,λb0 hb=>?_⟩⟩
    have h6:=hx 2 zs 0 h eh
    rw[he] at h6
    have h7:=(Option.some.inj h6).symm
    rw[q1,e1] at h7
    have h8:b2=b1:=by injection h7 with h7;injection h7 with h7;injection h7
    obtain rfl:=Option.some.inj hb
    rw[h8,hbb]
   | succ i=>cases hk
  | k+3,hk=>exact⟨o',hk,λ_ _ _ h=>h⟩) (λk i o hk=>by
  rw[xR] at hk⊢
  match k,hk with
  | 0,hk=>exact⟨o,hk⟩
  | 1,hk=>exact⟨o,hk⟩
  | 2,hk=>
   cases i with
   | zero=>exact⟨_,rfl⟩
   | succ i=>cases hk
  | k+3,hk=>exact⟨o,hk⟩) (λk i hk=>by
  rw[xR] at hk⊢
  match k,hk with
  | 0,hk=>exact hk
  | 1,hk=>exact hk
  | 2,hk=>exact hk
  | k+3,hk=>exact hk)
 exact⟨v,η',rfl,H3,by rw[hv3];exact hR,λk hk=>hx k (by simpa using hk)⟩
open Go.RowKit
structure TabS where
 A:Nat->Nat->Rat
 Bv:Nat->Rat
 Cs:Nat->Rat
 Lf:Nat->Int
 n:Nat
 N:Nat
 m:Nat
 L:Nat->Nat
 b:BS
def TabS.x (s:TabS) (v:Nat->Rat):Nat->Rat:=zL (basX s.m s.b.D v) s.b.e s.b.m
def TabS.X (s:TabS):Nat->Rat:=s.x s.Bv
def TabS.y (s:TabS) (v:Nat->Rat):Nat->Rat:=basY s.m s.b.D (yD s.m s.b.m v s.b.e s.b.m)
abbrev stT (s:TabS):SV:=.agg (.cn (.agg (.cn (.sl 1 (mE s.A s.N) s.m) (.cn (iN (s.N)) .nl))) (.cn (.sl 3 (λi=>.rat (s.Bv i)) s.m) (.cn (.sl 3 (λi=>.rat (s.Cs i)) s.N) (.cn (iN (s.n)) (.cn (.sl 1 (λi=>iZ (s.Lf i)) s.m) .nl)))))
abbrev tbV (s:TabS) (a b:Nat) (t:Option Nat:=none):Hl:=.one (.var 126 (.agg (.cn (stT s) (.cn (.own a 0) (.cn (.own b 0) (.cn (.sl 3 (λi=>.rat (s.X i)) s.m) .nl))))) t)
abbrev tbL (s:TabS):Hl:=.one (.row 3 1 (λi=>iN (s.L i)) s.m)
abbrev tbB (s:TabS) (a b:Nat) (t:Option Nat:=none):Hl:=.one (.var 164 (.agg (.cn (.own a 0) (.cn (.ep (lvE (luS s.m s.b.D s.m) s.m)) (.cn (.own b 0) .nl)))) t)
abbrev tbC (s:TabS):Hl:=cC s.b.C s.m
abbrev tbE (s:TabS):Hl:=.one (eE s.b.e s.m s.b.m)
abbrev tabI (s:TabS):List Hl:=[tbV s 1 2,tbL s,tbB s 3 4,tbC s,tbE s]
abbrev tabO (s:TabS):List Hl:=[tbV s 5 2,.dead,tbB s 6 7,.dead,.dead,tbL s,tbC s,tbE s]
def cLq (c:Nat->Rat) (L:Nat->Nat) (k:Nat):Rat:=c (L k)
def uQ (k i:Nat):Rat:=if i=k then 1 else 0
def putL (L:Nat->Nat) (k j i:Nat):Nat:=if i=k then j else L i
theorem putL_at{L:Nat->Nat}{k j:Nat}:putL L k j k=j:=if_pos rfl
theorem putL_ne{L:Nat->Nat}{k j i:Nat}(h:i≠k):putL L k j i=L i:=if_neg h
def TabS.put (s:TabS) (k j:Nat):TabS:={s with L:=putL s.L k j,b:=repS s.m s.b (k:Int) (λr=>s.A r j) s.m}
structure TOK (s:TabS):Prop where
 hm:s.m<=5
 hN:s.N<=24
 hK:BSK s.m s.b
 hL:∀k,k<s.m->s.L k<s.N
 hd:∀k,k<s.m->∀i,i<k->s.L i≠s.L k
 hC:∀k,k<s.m->∀r,r<s.m->s.b.C k r=s.A r (s.L k)
 hA:∀r,r<s.m->∀c,c<s.N->htq (s.A r c)<=2
 hB:∀r,r<s.m->htq (s.Bv r)<=2
section
variable {s:TabS} {y c:Nat->Rat}
theorem TOK.hx(h:TOK s){v:Nat->Rat}(hv:∀j,j<s.m->htq (v j)<=3):∀t,t<=s.b.m->∀j,j<s.m->htq (zL (basX s.m s.b.D v) s.b.e t j)<=4000:=h.hK.x h.hm hv
theorem TOK.xh(h:TOK s){v:Nat->Rat}(hv:∀j,j<s.m->htq (v j)<=3){j:Nat}(hj:j<s.m):htq (s.x v j)<=4000:=h.hx hv _ (Nat.le_refl _) j hj
theorem TOK.yh(h:TOK s){v:Nat->Rat}(hv:∀j,j<s.m->htq (v j)<=3){j:Nat}(hj:j<s.m):htq (s.y v j)<=4000:=Nat.le_trans (h.hK.y h.hm hv j hj) zd
theorem TOK.B3(h:TOK s):∀j,j<s.m->htq (s.Bv j)<=3:=λj hj=>Nat.le_trans (h.hB j hj) zd
theorem TOK.cL3(h:TOK s)(hc:∀j,j<s.N->htq (c j)<=3):∀j,j<s.m->htq (cLq c s.L j)<=3:=λj hj=>hc _ (h.hL j hj)
theorem u_ht(k i:Nat):htq (uQ k i)<=3:=by
 unfold uQ
 split
 ·decide+kernel
 ·decide+kernel
theorem dot_room{a b:Nat->Rat}{m:Nat}(hm:m<=64)(ha:∀i,i<m->htq (a i)<=25000)(hb:∀i,i<m->htq (b i)<=25000):∀i,i<m->szq (a i)+szq (b i)<=17179869184/\szq (dotQ a b i)+szq (a i*b i)<=17179869184:=λi hi=>by
 have h1:=ht_dot i (λt ht=>ha t zo) (λt ht=>hb t zo)
 have h2:=uA (a i) (b i)
 have h3:=xQ (dotQ a b i)
 have h4:=xQ (a i*b i)
 have h5:=xQ (a i)
 have h6:=xQ (b i)
 have h7:=ha i hi
 have h8:=hb i hi
 have h9:i*(25000+25000+1)<=64*(25000+25000+1):=Nat.mul_le_mul_right _ zo
 omega
theorem TOK.byR(h:TOK s)(hy:∀j,j<s.m->htq (y j)<=4000):∀t,t<s.m->∀i,i<s.N->szq (y t)+szq (s.A t i)<=17179869184/\szq (dotQ y (λr=>s.A r i) t)+szq (y t*s.A t i)<=17179869184:=λt ht i hi=>
 dot_room (b:=λr=>s.A r i) (by have:=h.hm;omega) (λj hj=>Nat.le_trans (hy j hj) zd) (λj hj=>Nat.le_trans (h.hA j hj i hi) zd) t ht
theorem TOK.byH(h:TOK s)(hy:∀j,j<s.m->htq (y j)<=4000){i:Nat}(hi:i<s.N):htq (dotQ y (λr=>s.A r i) s.m)<=24000:=by
 have h1:=ht_dot (b:=λr=>s.A r i) s.m hy (λt ht=>h.hA t ht i hi)
 have h2:s.m*(4000+2+1)<=5*(4000+2+1):=Nat.mul_le_mul_right _ h.hm
 omega
theorem sub_room{a b:Rat}(ha:htq a<=25000)(hb:htq b<=25000):szq ((-1:Int):Rat)+szq b<=17179869184/\szq a+szq (((-1:Int):Rat)*b)<=17179869184:=by
 have h1:szq ((-1:Int):Rat)<=2:=by decide+kernel
 have h2:=uA ((-1:Int):Rat) b
 have h3:htq ((-1:Int):Rat)<=1:=by decide+kernel
 have h4:=xQ a
 have h5:=xQ b
 have h6:=xQ (((-1:Int):Rat)*b)
 omega
end
open Go.RowKit
section
variable {s:TabS} {c:Nat->Rat} {l i j:Nat}
theorem lv_r1(h:TOK s)(hc:∀j,j<l->htq (c j)<=3)(hi:i<min l s.m):szq (s.X i)+szq (c i)+1<=17179869184:=by
 have h1:=h.xh h.B3 (show i<s.m by omega)
 have h2:=xQ (s.X i)
 have h3:=hc i zo
 have h4:=xQ (c i)
 have h5:htq (s.X i)=htq (s.x s.Bv i):=rfl
 omega
theorem lv_r2(h:TOK s)(hc:∀j,j<l->htq (c j)<=3)(hi:i<min l s.m)(hj:j<min l s.m):szq (s.X i/c i)+szq (s.X j/c j)<=17179869184:=by
 have h1:=h.xh h.B3 (show i<s.m by omega)
 have h2:=h.xh h.B3 (show j<s.m by omega)
 have h3:=hc i zo
 have h4:=hc j zo
 have h5:=ht_div (s.X i) (c i)
 have h6:=ht_div (s.X j) (c j)
 have h7:=xQ (s.X i/c i)
 have h8:=xQ (s.X j/c j)
 have h9:htq (s.X i)=htq (s.x s.Bv i):=rfl
 have h10:htq (s.X j)=htq (s.x s.Bv j):=rfl
 omega
end
theorem sTValues{s:TabS}(h:TOK s):CallOKm Tryz.prog 19 (tabI s) [.own 0 0] (vE s.X s.m) (tabO s):=by
 have hm:=h.hm
 have hN:=h.hN
 exact yE (ch:=λB=>[.reg 1 [(4,.callS (vE s.X s.m) [])],.ret 1 [(0,.id 0),(2,.id 2),(5,.id 1),(6,.id 3),(7,.id 4)]]) hMix Tryz.func19 rfl zk zk zk (λB=>_/\(_/\_/\_/\_/\_/\_/\_/\_/\_/\_/\_/\_/\_/\_/\_/\_/\_/\_/\_/\_/\_/\_/\_/\_/\_/\_/\_/\_/\_/\_/\_/\_/\_)) (λB=>by kernel_rfl)
  (λB=>⟨(kR (n:=s.m) (q:=s.X) zo).frzV,(rf (s.m:Nat)),(leS (λi0=>.rat (s.X i0)) s.m),(rf (some (B 0))),(rf (s.m:Nat)),(leS (mE s.A s.N) s.m),(rf ((s.N:Nat):Int)),(rf (s.m:Nat)),(leS (λi0=>.rat (s.Bv i0)) s.m),(rf (s.N:Nat)),(leS (λi0=>.rat (s.Cs i0)) s.N),(rf ((s.n:Nat):Int)),(rf (s.m:Nat)),(leS (λi0=>iZ (s.Lf i0)) s.m),(rf 0),(rf 0),(rf (s.m:Nat)),(leS (λi0=>.rat (s.X i0)) s.m),(rf (some (B 2))),(rf 0),(rf (s.m:Nat)),(leS (mE (luS s.m s.b.D s.m).2.1 s.m) s.m),(rf (s.m:Nat)),(leS (mE ((luS s.m s.b.D s.m).1) s.m) s.m),(rf (s.m:Nat)),(leS (λi0=>iN ((luS s.m s.b.D s.m).2.2.1 i0)) s.m),(rf ((luS s.m s.b.D s.m).2.2.2.2:Bool)),(rf 0),(rf (s.m:Nat)),(leS (λi0=>iN (s.L i0)) s.m),(rf (s.m:Nat)),(leS (mE s.b.C s.m) s.m),(rf (s.b.m:Nat)),(leS (λi0=>.agg (c2 (iN ((s.b.e i0).1)) (vE (s.b.e i0).2 s.m))) s.b.m)⟩)
theorem sTLeave{s:TabS}{c:Nat->Rat}{l:Nat}(h:TOK s)(hl:l<=68719476736)(hc:∀j,j<l->htq (c j)<=3):CallOKm Tryz.prog 21 (tabI s) [.own 0 0,.sl 3 (λi0=>.rat (c i0)) l] (iZ ((lvS s.X c s.L (min l s.m)).1)) (tabO s):=by
 have hm:=h.hm
 have hN:=h.hN
 have hs:=λi (hi:i<min l s.m)=>lv_r1 h hc hi
 have hs2:=λi j (hi:i<min l s.m) (hj:j<min l s.m)=>lv_r2 h hc hi hj
 exact yE (ch:=λB=>[.loop 4 (Nat) (λg=>g<=min l s.m) (λg=>min l s.m-g) (λg=>⟨[(0,.own 0 0),(1,.sl 3 (λi0=>.rat (c i0)) l),(5,iZ ((lvS s.X c s.L g).1)),(6,.own 5 0),(18,iN (min l s.m)),(19,iN g)],[(0,tbV s 1 2 (some (B 0))),(1,tbL s),(2,tbB s 3 4 (some (B 2))),(3,tbC s),(4,tbE s),(5,.one (.var 76 (.rat ((lvS s.X c s.L g).2))))],6⟩) [(0,.id 0),(1,.id 1),(2,.id 2),(3,.id 3),(4,.id 4),(5,.id 5)] (λ_=>[(0,.id 0),(1,.id 1),(2,.id 2),(3,.id 3),(4,.id 4),(5,.id 5)]) (λg=>[.reg 6 [(2,.k g),(4,.callS (iZ ((c g).num.sign)) [])],.reg 13 [(0,.z ((g+1:Nat):Int))],.reg 7 [(5,.k g),(9,.k g),(11,.callS (c2 (.rat ((s.X g)/(c g))) (bX (!decide ((c g)=0)))) [])],.reg 10 [(2,.callS (iZ (cmpQ ((s.X g)/(c g)) ((lvS s.X c s.L g).2))) [])],.join 11 0 [(0,.id 0),(1,.id 1),(2,.id 2),(3,.id 3),(4,.id 4),(5,.id 5),(6,.id 6)] [(0,.id 0),(1,.id 1),(2,.id 2),(3,.id 3),(4,.id 4),(5,.id 5),(6,.id 6)] ⟨[(0,.own 0 0),(1,.sl 3 (λi0=>.rat (c i0)) l),(5,iZ ((lvS s.X c s.L g).1)),(6,.own 5 0),(18,iN (min l s.m)),(19,iN g),(7,iN g),(8,.own 6 0),(10,iZ (lvD s.X c s.L g))],[(0,tbV s 1 2 (some (B 0))),(1,tbL s),(2,tbB s 3 4 (some (B 2))),(3,tbC s),(4,tbE s),(5,.one (.var 76 (.rat ((lvS s.X c s.L g).2)))),(6,.one (.var 76 (.rat (s.X g/c g))))],7⟩ (True),.reg 11 [(11,.k g),(18,.k ((lvS s.X c s.L g).1.toNat))],.reg 13 [(0,.z ((g+1:Nat):Int))],.reg 13 [(0,.z ((g+1:Nat):Int))],.ret 14 [(0,.id 0),(2,.id 2),(5,.id 1),(6,.id 3),(7,.id 4)]])]) hMix Tryz.func21 rfl zk zk zk (λB=>(((λX1 X2 X3 X4 X5 X6 X7 X8 X9 X10 X11 X12 X13 X14 X15 X16 X17 X18 X19 X20 X21 X22 X23 X24 X25 X26 X27 X28 X29 X30 X31 X32 X33 X34 X35:Prop=>∃g0:Nat,X1/\X2/\X3/\((-1:Int)=((lvS s.X c s.L g0).1))/\X4/\((min ((l:Int):Int) ((s.m:Nat):Int):Int)=((min l s.m:Nat):Int))/\((0:Int)=(g0:Int))/\X5/\X6/\X7/\X8/\X9/\X10/\X11/\X12/\X13/\X14/\X15/\X16/\X17/\X18/\X19/\X20/\X21/\X22/\X23/\X24/\X25/\X26/\X27/\X28/\X29/\X30/\X31/\X32/\X33/\X34/\X35/\(((lvS s.X c s.L g0).2:Rat)=0)/\(g0<=min l s.m)) _ _ _ _ _ _ _ _ _ _ _ _ _ _ _ _ _ _ _ _ _ _ _ _ _ _ _ _ _ _ _ _ _ _ _)/\∀g:Nat,(g<=min l s.m)->(((decide ((g:Int)<((min l s.m:Nat):Int)))=true->_/\(g<l)/\_/\(((decide (((c g).num.sign:Int)<=0))=true->_/\((λX1 X2 X3 X4 X5 X6 X7 X8 X9 X10 X11 X12 X13 X14 X15 X16 X17 X18 X19 X20 X21 X22 X23 X24 X25 X26 X27 X28 X29 X30 X31 X32 X33 X34 X35 X36:Prop=>∃g1:Nat,X1/\X2/\X3/\(((lvS s.X c s.L g).1:Int)=((lvS s.X c s.L g1).1))/\X4/\X5/\(((g+1:Nat):Int)=(g1:Int))/\X6/\X7/\X8/\X9/\X10/\X11/\X12/\X13/\X14/\X15/\X16/\X17/\X18/\X19/\X20/\X21/\X22/\X23/\X24/\X25/\X26/\X27/\X28/\X29/\X30/\X31/\X32/\X33/\X34/\X35/\X36/\(((lvS s.X c s.L g).2:Rat)=((lvS s.X c s.L g1).2))/\(g1<=min l s.m)/\(min l s.m-g1<min l s.m-g)) _ _ _ _ _ _ _ _ _ _ _ _ _ _ _ _ _ _ _ _ _ _ _ _ _ _ _ _ _ _ _ _ _ _ _ _))/\((decide (((c g).num.sign:Int)<=0))=false->_/\(g<s.m)/\_/\(g<l)/\_/\(((((decide ((0:Int)<=((lvS s.X c s.L g).1)))=true->_/\_/\_/\_/\_/\_/\_/\_/\_/\_/\((cmpQ ((s.X g)/(c g)) ((lvS s.X c s.L g).2):Int)=(lvD s.X c s.L g))/\_/\_/\_/\_/\_/\_/\_/\_/\_/\_/\_/\_/\_/\_/\_/\_/\_/\_/\_/\_/\_/\_/\_/\_/\_/\_/\_/\_/\_/\_/\_/\_/\(((s.X g)/(c g):Rat)=(s.X g/c g))/\True)/\((decide ((0:Int)<=((lvS s.X c s.L g).1)))=false->_/\_/\_/\_/\_/\_/\_/\_/\_/\((-1:Int)=(lvD s.X c s.L g))/\_/\_/\_/\_/\_/\_/\_/\_/\_/\_/\_/\_/\_/\_/\_/\_/\_/\_/\_/\_/\_/\_/\_/\_/\_/\_/\_/\_/\_/\_/\_/\_/\(((s.X g)/(c g):Rat)=(s.X g/c g))/\True)))/\(True->_/\_/\_/\_/\_/\_/\_/\(((((decide ((lvD s.X c s.L g:Int)<0))==false)&&true)&&((decide ((lvD s.X c s.L g:Int)=0))==true))=true->_)/\(((((decide ((lvD s.X c s.L g:Int)<0))==false)&&true)&&((decide ((lvD s.X c s.L g:Int)=0))==true))=true->g<s.m)/\_/\(((((decide ((lvD s.X c s.L g:Int)<0))==false)&&true)&&((decide ((lvD s.X c s.L g:Int)=0))==true))=true->g<s.m)/\_/\_/\_/\_/\_/\(((((decide ((lvD s.X c s.L g:Int)<0))==false)&&true)&&((decide ((lvD s.X c s.L g:Int)=0))==true))=true->((lvS s.X c s.L g).1:Int)=(((lvS s.X c s.L g).1.toNat:Nat):Int))/\(((((decide ((lvD s.X c s.L g:Int)<0))==false)&&true)&&((decide ((lvD s.X c s.L g:Int)=0))==true))=true->((lvS s.X c s.L g).1.toNat)<s.m)/\_/\(((((decide ((lvD s.X c s.L g:Int)<0))==false)&&true)&&((decide ((lvD s.X c s.L g:Int)=0))==true))=true->((lvS s.X c s.L g).1.toNat)<s.m)/\_/\_/\_/\(((decide ((lvD s.X c s.L g:Int)<0))==false)=true->(decide ((lvD s.X c s.L g:Int)=0))=true->((((decide ((lvD s.X c s.L g:Int)<0))==false)&&true)&&((decide ((lvD s.X c s.L g:Int)=0))==true))=true)/\((!(decide ((lvD s.X c s.L g:Int)<0)))=true->((decide ((lvD s.X c s.L g:Int)<0))==false)=true)/\(((bif (decide ((lvD s.X c s.L g:Int)<0)) then true else(bif (decide ((lvD s.X c s.L g:Int)=0)) then(decide (((s.L g:Nat):Int)<(s.L ((lvS s.X c s.L g).1.toNat):Int))) else false))=true->_/\((λX1 X2 X3 X4 X5 X6 X7 X8 X9 X10 X11 X12 X13 X14 X15 X16 X17 X18 X19 X20 X21 X22 X23 X24 X25 X26 X27 X28 X29 X30 X31 X32 X33 X34 X35 X36:Prop=>∃g1:Nat,X1/\X2/\X3/\((g:Int)=((lvS s.X c s.L g1).1))/\X4/\X5/\(((g+1:Nat):Int)=(g1:Int))/\X6/\X7/\X8/\X9/\X10/\X11/\X12/\X13/\X14/\X15/\X16/\X17/\X18/\X19/\X20/\X21/\X22/\X23/\X24/\X25/\X26/\X27/\X28/\X29/\X30/\X31/\X32/\X33/\X34/\X35/\X36/\((s.X g/c g:Rat)=((lvS s.X c s.L g1).2))/\(g1<=min l s.m)/\(min l s.m-g1<min l s.m-g)) _ _ _ _ _ _ _ _ _ _ _ _ _ _ _ _ _ _ _ _ _ _ _ _ _ _ _ _ _ _ _ _ _ _ _ _))/\((bif (decide ((lvD s.X c s.L g:Int)<0)) then true else(bif (decide ((lvD s.X c s.L g:Int)=0)) then(decide (((s.L g:Nat):Int)<(s.L ((lvS s.X c s.L g).1.toNat):Int))) else false))=false->_/\((λX1 X2 X3 X4 X5 X6 X7 X8 X9 X10 X11 X12 X13 X14 X15 X16 X17 X18 X19 X20 X21 X22 X23 X24 X25 X26 X27 X28 X29 X30 X31 X32 X33 X34 X35 X36:Prop=>∃g1:Nat,X1/\X2/\X3/\(((lvS s.X c s.L g).1:Int)=((lvS s.X c s.L g1).1))/\X4/\X5/\(((g+1:Nat):Int)=(g1:Int))/\X6/\X7/\X8/\X9/\X10/\X11/\X12/\X13/\X14/\X15/\X16/\X17/\X18/\X19/\X20/\X21/\X22/\X23/\X24/\X25/\X26/\X27/\X28/\X29/\X30/\X31/\X32/\X33/\X34/\X35/\X36/\(((lvS s.X c s.L g).2:Rat)=((lvS s.X c s.L g1).2))/\(g1<=min l s.m)/\(min l s.m-g1<min l s.m-g)) _ _ _ _ _ _ _ _ _ _ _ _ _ _ _ _ _ _ _ _ _ _ _ _ _ _ _ _ _ _ _ _ _ _ _ _))))))))/\((decide ((g:Int)<((min l s.m:Nat):Int)))=false->((((lvS s.X c s.L g).1:Int)=((lvS s.X c s.L (min l s.m)).1))/\_/\_/\_/\_/\_/\_/\_/\_/\_/\_/\_/\_/\_/\_/\_/\_/\_/\_/\_/\_/\_/\_/\_/\_/\_/\_/\_/\_/\_/\_/\_))))) (λB=>by kernel_rfl)
  (λB=>⟨⟨0,(rf 0),(rf l),(leS (λi0=>.rat (c i0)) l),rfl,(rf 0),zo,zo,(rf (some (B 0))),(rf (s.m:Nat)),(leS (mE s.A s.N) s.m),(rf ((s.N:Nat):Int)),(rf (s.m:Nat)),(leS (λi0=>.rat (s.Bv i0)) s.m),(rf (s.N:Nat)),(leS (λi0=>.rat (s.Cs i0)) s.N),(rf ((s.n:Nat):Int)),(rf (s.m:Nat)),(leS (λi0=>iZ (s.Lf i0)) s.m),(rf 0),(rf 0),(rf (s.m:Nat)),(leS (λi0=>.rat (s.X i0)) s.m),(rf (s.m:Nat)),(leS (λi0=>iN (s.L i0)) s.m),(rf (some (B 2))),(rf 0),(rf (s.m:Nat)),(leS (mE (luS s.m s.b.D s.m).2.1 s.m) s.m),(rf (s.m:Nat)),(leS (mE ((luS s.m s.b.D s.m).1) s.m) s.m),(rf (s.m:Nat)),(leS (λi0=>iN ((luS s.m s.b.D s.m).2.2.1 i0)) s.m),(rf ((luS s.m s.b.D s.m).2.2.2.2:Bool)),(rf 0),(rf (s.m:Nat)),(leS (mE s.b.C s.m) s.m),(rf (s.b.m:Nat)),(leS (λi0=>.agg (c2 (iN ((s.b.e i0).1)) (vE (s.b.e i0).2 s.m))) s.b.m),rfl,zo⟩,λg hg=>⟨λhc20=>have hc20:=dT hc20;have hgn:g<min l s.m:=zo;⟨(rf (g:Int)),zo,sRatSign (q:=c g),λhc27=>have hc27:=dT hc27;⟨(wI (g:=g) zo),g+1,(rf 0),(rf l),(leS (λi0=>.rat (c i0)) l),(by first | rw[lv_skip hc27] | rw[lv_take hc27 (lv_T hc70)] | rw[lv_stay hc27 (lv_F hc70)]),(rf 0),(rf ((min l s.m:Nat):Int)),zo,(rf (some (B 0))),(rf (s.m:Nat)),(leS (mE s.A s.N) s.m),(rf ((s.N:Nat):Int)),(rf (s.m:Nat)),(leS (λi0=>.rat (s.Bv i0)) s.m),(rf (s.N:Nat)),(leS (λi0=>.rat (s.Cs i0)) s.N),(rf ((s.n:Nat):Int)),(rf (s.m:Nat)),(leS (λi0=>iZ (s.Lf i0)) s.m),(rf 0),(rf 0),(rf (s.m:Nat)),(leS (λi0=>.rat (s.X i0)) s.m),(rf (s.m:Nat)),(leS (λi0=>iN (s.L i0)) s.m),(rf (some (B 2))),(rf 0),(rf (s.m:Nat)),(leS (mE (luS s.m s.b.D s.m).2.1 s.m) s.m),(rf (s.m:Nat)),(leS (mE ((luS s.m s.b.D s.m).1) s.m) s.m),(rf (s.m:Nat)),(leS (λi0=>iN ((luS s.m s.b.D s.m).2.2.1 i0)) s.m),(rf ((luS s.m s.b.D s.m).2.2.2.2:Bool)),(rf 0),(rf (s.m:Nat)),(leS (mE s.b.C s.m) s.m),(rf (s.b.m:Nat)),(leS (λi0=>.agg (c2 (iN ((s.b.e i0).1)) (vE (s.b.e i0).2 s.m))) s.b.m),(by first | rw[lv_skip hc27] | rw[lv_take hc27 (lv_T hc70)] | rw[lv_stay hc27 (lv_F hc70)]),zo,zo⟩,λhc27=>have hc27:=dF hc27;⟨(rf (g:Int)),zo,(rf (g:Int)),zo,sRatDiv (p:=s.X g) (q:=c g) (hs g hgn),⟨λhc44=>have hc44:=dT hc44;have hlb:=lv_in hc44;⟨sRatCmp (p:=(s.X g)/(c g)) (q:=(lvS s.X c s.L g).2) (lv_sz hs2 hgn hc44),(rf 0),(rf l),(leS (λi0=>.rat (c i0)) l),(rf ((lvS s.X c s.L g).1:Int)),(rf 0),(rf ((min l s.m:Nat):Int)),(rf (g:Int)),(rf (g:Int)),(rf 0),(by first | exact(if_pos hc44).symm | exact(if_neg hc44).symm),(rf (some (B 0))),(rf (s.m:Nat)),(leS (mE s.A s.N) s.m),(rf ((s.N:Nat):Int)),(rf (s.m:Nat)),(leS (λi0=>.rat (s.Bv i0)) s.m),(rf (s.N:Nat)),(leS (λi0=>.rat (s.Cs i0)) s.N),(rf ((s.n:Nat):Int)),(rf (s.m:Nat)),(leS (λi0=>iZ (s.Lf i0)) s.m),(rf 0),(rf 0),(rf (s.m:Nat)),(leS (λi0=>.rat (s.X i0)) s.m),(rf (s.m:Nat)),(leS (λi0=>iN (s.L i0)) s.m),(rf (some (B 2))),(rf 0),(rf (s.m:Nat)),(leS (mE (luS s.m s.b.D s.m).2.1 s.m) s.m),(rf (s.m:Nat)),(leS (mE ((luS s.m s.b.D s.m).1) s.m) s.m),(rf (s.m:Nat)),(leS (λi0=>iN ((luS s.m s.b.D s.m).2.2.1 i0)) s.m),(rf ((luS s.m s.b.D s.m).2.2.2.2:Bool)),(rf 0),(rf (s.m:Nat)),(leS (mE s.b.C s.m) s.m),(rf (s.b.m:Nat)),(leS (λi0=>.agg (c2 (iN ((s.b.e i0).1)) (vE (s.b.e i0).2 s.m))) s.b.m),(rf ((lvS s.X c s.L g).2:Rat)),rfl,trivial⟩,λhc44=>have hc44:=dF hc44;⟨(rf 0),(rf l),(leS (λi0=>.rat (c i0)) l),(rf ((lvS s.X c s.L g).1:Int)),(rf 0),(rf ((min l s.m:Nat):Int)),(rf (g:Int)),(rf (g:Int)),(rf 0),(by first | exact(if_pos hc44).symm | exact(if_neg hc44).symm),(rf (some (B 0))),(rf (s.m:Nat)),(leS (mE s.A s.N) s.m),(rf ((s.N:Nat):Int)),(rf (s.m:Nat)),(leS (λi0=>.rat (s.Bv i0)) s.m),(rf (s.N:Nat)),(leS (λi0=>.rat (s.Cs i0)) s.N),(rf ((s.n:Nat):Int)),(rf (s.m:Nat)),(leS (λi0=>iZ (s.Lf i0)) s.m),(rf 0),(rf 0),(rf (s.m:Nat)),(leS (λi0=>.rat (s.X i0)) s.m),(rf (s.m:Nat)),(leS (λi0=>iN (s.L i0)) s.m),(rf (some (B 2))),(rf 0),(rf (s.m:Nat)),(leS (mE (luS s.m s.b.D s.m).2.1 s.m) s.m),(rf (s.m:Nat)),(leS (mE ((luS s.m s.b.D s.m).1) s.m) s.m),(rf (s.m:Nat)),(leS (λi0=>iN ((luS s.m s.b.D s.m).2.2.1 i0)) s.m),(rf ((luS s.m s.b.D s.m).2.2.2.2:Bool)),(rf 0),(rf (s.m:Nat)),(leS (mE s.b.C s.m) s.m),(rf (s.b.m:Nat)),(leS (λi0=>.agg (c2 (iN ((s.b.e i0).1)) (vE (s.b.e i0).2 s.m))) s.b.m),(rf ((lvS s.X c s.L g).2:Rat)),rfl,trivial⟩⟩,λ_=>⟨(idB ((decide ((lvD s.X c s.L g:Int)<0))==false)),(idB ((decide ((lvD s.X c s.L g:Int)<0))==false)),(idB ((((decide ((lvD s.X c s.L g:Int)<0))==false)&&true)&&((decide ((lvD s.X c s.L g:Int)=0))==true))),(idB ((((decide ((lvD s.X c s.L g:Int)<0))==false)&&true)&&((decide ((lvD s.X c s.L g:Int)=0))==true))),(idB ((((decide ((lvD s.X c s.L g:Int)<0))==false)&&true)&&((decide ((lvD s.X c s.L g:Int)=0))==true))),(idB ((((decide ((lvD s.X c s.L g:Int)<0))==false)&&true)&&((decide ((lvD s.X c s.L g:Int)=0))==true))),(idB ((((decide ((lvD s.X c s.L g:Int)<0))==false)&&true)&&((decide ((lvD s.X c s.L g:Int)=0))==true))),(λhg=>(rf (g:Int))),(λhg=>zo),(idB ((((decide ((lvD s.X c s.L g:Int)<0))==false)&&true)&&((decide ((lvD s.X c s.L g:Int)=0))==true))),(λhg=>zo),(idB ((((decide ((lvD s.X c s.L g:Int)<0))==false)&&true)&&((decide ((lvD s.X c s.L g:Int)=0))==true))),(idB ((((decide ((lvD s.X c s.L g:Int)<0))==false)&&true)&&((decide ((lvD s.X c s.L g:Int)=0))==true))),(idB ((((decide ((lvD s.X c s.L g:Int)<0))==false)&&true)&&((decide ((lvD s.X c s.L g:Int)=0))==true))),(idB ((((decide ((lvD s.X c s.L g:Int)<0))==false)&&true)&&((decide ((lvD s.X c s.L g:Int)=0))==true))),(idB ((((decide ((lvD s.X c s.L g:Int)<0))==false)&&true)&&((decide ((lvD s.X c s.L g:Int)=0))==true))),(λhg=>(lv_z (by simpa using hg))),(λhg=>(lv_l (by simpa using hg) zo)),(idB ((((decide ((lvD s.X c s.L g:Int)<0))==false)&&true)&&((decide ((lvD s.X c s.L g:Int)=0))==true))),(λhg=>(lv_l (by simpa using hg) zo)),(idB ((((decide ((lvD s.X c s.L g:Int)<0))==false)&&true)&&((decide ((lvD s.X c s.L g:Int)=0))==true))),(idB ((((decide ((lvD s.X c s.L g:Int)<0))==false)&&true)&&((decide ((lvD s.X c s.L g:Int)=0))==true))),(idB ((decide ((lvD s.X c s.L g:Int)<0))==false)),(λhg=>(by first | exact id | (simp;done) | (simp;omega))),(by first | exact id | (simp;done) | (simp;omega)),λhc70=>⟨(wI (g:=g) zo),g+1,(rf 0),(rf l),(leS (λi0=>.rat (c i0)) l),(by first | rw[lv_skip hc27] | rw[lv_take hc27 (lv_T hc70)] | rw[lv_stay hc27 (lv_F hc70)]),(rf 0),(rf ((min l s.m:Nat):Int)),zo,(rf (some (B 0))),(rf (s.m:Nat)),(leS (mE s.A s.N) s.m),(rf ((s.N:Nat):Int)),(rf (s.m:Nat)),(leS (λi0=>.rat (s.Bv i0)) s.m),(rf (s.N:Nat)),(leS (λi0=>.rat (s.Cs i0)) s.N),(rf ((s.n:Nat):Int)),(rf (s.m:Nat)),(leS (λi0=>iZ (s.Lf i0)) s.m),(rf 0),(rf 0),(rf (s.m:Nat)),(leS (λi0=>.rat (s.X i0)) s.m),(rf (s.m:Nat)),(leS (λi0=>iN (s.L i0)) s.m),(rf (some (B 2))),(rf 0),(rf (s.m:Nat)),(leS (mE (luS s.m s.b.D s.m).2.1 s.m) s.m),(rf (s.m:Nat)),(leS (mE ((luS s.m s.b.D s.m).1) s.m) s.m),(rf (s.m:Nat)),(leS (λi0=>iN ((luS s.m s.b.D s.m).2.2.1 i0)) s.m),(rf ((luS s.m s.b.D s.m).2.2.2.2:Bool)),(rf 0),(rf (s.m:Nat)),(leS (mE s.b.C s.m) s.m),(rf (s.b.m:Nat)),(leS (λi0=>.agg (c2 (iN ((s.b.e i0).1)) (vE (s.b.e i0).2 s.m))) s.b.m),(by first | rw[lv_skip hc27] | rw[lv_take hc27 (lv_T hc70)] | rw[lv_stay hc27 (lv_F hc70)]),zo,zo⟩,λhc70=>⟨(wI (g:=g) zo),g+1,(rf 0),(rf l),(leS (λi0=>.rat (c i0)) l),(by first | rw[lv_skip hc27] | rw[lv_take hc27 (lv_T hc70)] | rw[lv_stay hc27 (lv_F hc70)]),(rf 0),(rf ((min l s.m:Nat):Int)),zo,(rf (some (B 0))),(rf (s.m:Nat)),(leS (mE s.A s.N) s.m),(rf ((s.N:Nat):Int)),(rf (s.m:Nat)),(leS (λi0=>.rat (s.Bv i0)) s.m),(rf (s.N:Nat)),(leS (λi0=>.rat (s.Cs i0)) s.N),(rf ((s.n:Nat):Int)),(rf (s.m:Nat)),(leS (λi0=>iZ (s.Lf i0)) s.m),(rf 0),(rf 0),(rf (s.m:Nat)),(leS (λi0=>.rat (s.X i0)) s.m),(rf (s.m:Nat)),(leS (λi0=>iN (s.L i0)) s.m),(rf (some (B 2))),(rf 0),(rf (s.m:Nat)),(leS (mE (luS s.m s.b.D s.m).2.1 s.m) s.m),(rf (s.m:Nat)),(leS (mE ((luS s.m s.b.D s.m).1) s.m) s.m),(rf (s.m:Nat)),(leS (λi0=>iN ((luS s.m s.b.D s.m).2.2.1 i0)) s.m),(rf ((luS s.m s.b.D s.m).2.2.2.2:Bool)),(rf 0),(rf (s.m:Nat)),(leS (mE s.b.C s.m) s.m),(rf (s.b.m:Nat)),(leS (λi0=>.agg (c2 (iN ((s.b.e i0).1)) (vE (s.b.e i0).2 s.m))) s.b.m),(by first | rw[lv_skip hc27] | rw[lv_take hc27 (lv_T hc70)] | rw[lv_stay hc27 (lv_F hc70)]),zo,zo⟩⟩⟩⟩,λhc20=>have hc20:=dF hc20;have hi2:g=min l s.m:=zo;⟨(by rw[hi2]),(rf (some (B 0))),(rf (s.m:Nat)),(leS (mE s.A s.N) s.m),(rf ((s.N:Nat):Int)),(rf (s.m:Nat)),(leS (λi0=>.rat (s.Bv i0)) s.m),(rf (s.N:Nat)),(leS (λi0=>.rat (s.Cs i0)) s.N),(rf ((s.n:Nat):Int)),(rf (s.m:Nat)),(leS (λi0=>iZ (s.Lf i0)) s.m),(rf 0),(rf 0),(rf (s.m:Nat)),(leS (λi0=>.rat (s.X i0)) s.m),(rf (some (B 2))),(rf 0),(rf (s.m:Nat)),(leS (mE (luS s.m s.b.D s.m).2.1 s.m) s.m),(rf (s.m:Nat)),(leS (mE ((luS s.m s.b.D s.m).1) s.m) s.m),(rf (s.m:Nat)),(leS (λi0=>iN ((luS s.m s.b.D s.m).2.2.1 i0)) s.m),(rf ((luS s.m s.b.D s.m).2.2.2.2:Bool)),(rf 0),(rf (s.m:Nat)),(leS (λi0=>iN (s.L i0)) s.m),(rf (s.m:Nat)),(leS (mE s.b.C s.m) s.m),(rf (s.b.m:Nat)),(leS (λi0=>.agg (c2 (iN ((s.b.e i0).1)) (vE (s.b.e i0).2 s.m))) s.b.m)⟩⟩⟩)
theorem sTDuals{s:TabS}{c:Nat->Rat}(h:TOK s)(hc:∀j,j<s.N->htq (c j)<=3):CallOKm Tryz.prog 29 (tabI s) [.own 0 0,.sl 3 (λi0=>.rat (c i0)) s.N] (c2 (vE (s.y (cLq c s.L)) s.m) (bX true)) (tabO s):=by
 have hm:=h.hm
 have hN:=h.hN
 have hL:=h.hL
 exact yE (ch:=λB=>[.reg 1 [(7,.callS (iN (s.N)) [])],.dec 17 false,.reg 3 [(5,.row s.m (λi0=>.rat (upto 0 (cLq c s.L) i0)))],.loop 5 (Nat) (λg=>g<=s.m) (λg=>s.m-g) (λg=>⟨[(0,.own 0 0),(1,.sl 3 (λi0=>.rat (c i0)) s.N),(6,.own 5 0),(27,.own 1 0),(28,iN (s.m)),(29,iN g)],[(0,tbV s 1 2 (some (B 0))),(1,tbL s),(2,tbB s 3 4 (some (B 2))),(3,tbC s),(4,tbE s),(5,.one (.row 76 3 (λi0=>.rat (upto g (cLq c s.L) i0)) s.m))],6⟩) [(0,.id 0),(1,.id 1),(2,.id 2),(3,.id 3),(4,.id 4),(5,.id 5)] (λ_=>[(0,.id 0),(1,.id 1),(2,.id 2),(3,.id 3),(4,.id 4),(5,.id 5)]) (λg=>[.reg 6 [(1,.k g)],.reg 7 [(4,.k (s.L g)),(6,.k g),(7,.row 0 (λi0=>.rat (upto (g+1) (cLq c s.L) i0)))],.reg 8 [(0,.z ((g+1:Nat):Int))],.conv 9 [(0,.id 0),(1,.id 1),(2,.id 2),(3,.id 3),(4,.id 4)] ⟨[(0,.own 0 0),(6,.sl 3 (λi0=>.rat ((cLq c s.L) i0)) s.m)],[(0,tbV s 1 2 (some (B 0))),(1,tbL s),(2,tbB s 3 4 (some (B 2))),(3,tbC s),(4,tbE s)],5⟩,.reg 9 [(5,.callM [2,3,4] [tbB s 1 2 (some (B 2)),tbC s,tbE s] [.own 0 0,.sl 3 (λi0=>.rat ((cLq c s.L) i0)) s.m] (c2 (.sl 3 (λi0=>.rat (basY s.m s.b.D (yD s.m s.b.m (cLq c s.L) s.b.e s.b.m) i0)) s.m) (bX true)) [tbB s 3 4 (some (B 2)),.dead,.dead,tbC s,tbE s])],.ret 9 [(0,.id 0),(2,.id 2),(5,.id 1),(6,.id 5),(7,.id 6)]])]) hMix Tryz.func29 rfl zk zk zk (λB=>_/\((!decide (((s.N:Nat):Int)=((s.N:Nat):Int)))=false)/\_/\_/\(s.m<=68719476736)/\(∀j0,j0<s.m->((upto 0 (cLq c s.L) j0:Rat)=0))/\(((λX1 X2 X3 X4 X5 X6 X7 X8 X9 X10 X11 X12 X13 X14 X15 X16 X17 X18 X19 X20 X21 X22 X23 X24 X25 X26 X27 X28 X29 X30 X31 X32 X33 X34 X35 X36 X37 X38:Prop=>∃g0:Nat,X1/\X2/\X3/\X4/\X5/\X6/\((0:Int)=(g0:Int))/\X7/\X8/\X9/\X10/\X11/\X12/\X13/\X14/\X15/\X16/\X17/\X18/\X19/\X20/\X21/\X22/\X23/\X24/\X25/\X26/\X27/\X28/\X29/\X30/\X31/\X32/\X33/\X34/\X35/\X36/\X37/\X38/\(∀j0,j0<s.m->((upto 0 (cLq c s.L) j0:Rat)=(upto g0 (cLq c s.L) j0)))/\(g0<=s.m)) _ _ _ _ _ _ _ _ _ _ _ _ _ _ _ _ _ _ _ _ _ _ _ _ _ _ _ _ _ _ _ _ _ _ _ _ _ _)/\∀g:Nat,(g<=s.m)->(((decide ((g:Int)<((s.m:Nat):Int)))=true->_/\(g<s.m)/\(g<s.m)/\(((s.L g:Nat):Int)=(((s.L g):Nat):Int))/\((s.L g)<s.N)/\_/\(g<s.m)/\(g<s.m)/\(((c (s.L g):Rat)=(upto (g+1) (cLq c s.L) g)))/\(∀t,t<s.m->t≠g->(.rat (upto (g+1) (cLq c s.L) t):SV)=.rat (upto g (cLq c s.L) t))/\_/\((λX1 X2 X3 X4 X5 X6 X7 X8 X9 X10 X11 X12 X13 X14 X15 X16 X17 X18 X19 X20 X21 X22 X23 X24 X25 X26 X27 X28 X29 X30 X31 X32 X33 X34 X35 X36 X37 X38:Prop=>∃g1:Nat,X1/\X2/\X3/\X4/\X5/\X6/\(((g+1:Nat):Int)=(g1:Int))/\X7/\X8/\X9/\X10/\X11/\X12/\X13/\X14/\X15/\X16/\X17/\X18/\X19/\X20/\X21/\X22/\X23/\X24/\X25/\X26/\X27/\X28/\X29/\X30/\X31/\X32/\X33/\X34/\X35/\X36/\X37/\X38/\(∀j0,j0<s.m->((upto (g+1) (cLq c s.L) j0:Rat)=(upto g1 (cLq c s.L) j0)))/\(g1<=s.m)/\(s.m-g1<s.m-g)) _ _ _ _ _ _ _ _ _ _ _ _ _ _ _ _ _ _ _ _ _ _ _ _ _ _ _ _ _ _ _ _ _ _ _ _ _ _))/\((decide ((g:Int)<((s.m:Nat):Int)))=false->_/\_/\(∀j0,j0<s.m->((upto g (cLq c s.L) j0:Rat)=((cLq c s.L) j0)))/\_/\_/\_/\_/\_/\_/\_/\_/\_/\_/\_/\_/\_/\_/\_/\_/\_/\_/\_/\_/\_/\_/\_/\_/\_/\_/\_/\_/\_/\_/\_/\_/\_/\_/\_/\_/\_/\_/\_/\(_/\(∀j0,j0<s.m->((basY s.m s.b.D (yD s.m s.b.m (cLq c s.L) s.b.e s.b.m) j0:Rat)=((s.y (cLq c s.L)) j0)))/\_/\_/\_/\_/\_/\_/\_/\_/\_/\_/\_/\_/\_/\_/\_/\_/\_/\_/\_/\_/\_/\_/\_/\_/\_/\_/\_/\_/\_/\_/\_/\_))))) (λB=>by kernel_rfl)
  (λB=>⟨sMatCols (m:=s.m) (n:=s.N) (q:=s.A),zs,(rf ((s.m:Nat):Int)),(rf ((s.m:Nat):Int)),zo,(λj0 hj0=>upto_zero),⟨0,(rf 0),(rf (s.N:Nat)),(leS (λi0=>.rat (c i0)) s.N),(rf 0),(rf 0),(rf ((s.m:Nat):Int)),zo,(rf (some (B 0))),(rf (s.m:Nat)),(leS (mE s.A s.N) s.m),(rf ((s.N:Nat):Int)),(rf (s.m:Nat)),(leS (λi0=>.rat (s.Bv i0)) s.m),(rf (s.N:Nat)),(leS (λi0=>.rat (s.Cs i0)) s.N),(rf ((s.n:Nat):Int)),(rf (s.m:Nat)),(leS (λi0=>iZ (s.Lf i0)) s.m),(rf 0),(rf 0),(rf (s.m:Nat)),(leS (λi0=>.rat (s.X i0)) s.m),(rf (s.m:Nat)),(leS (λi0=>iN (s.L i0)) s.m),(rf (some (B 2))),(rf 0),(rf (s.m:Nat)),(leS (mE (luS s.m s.b.D s.m).2.1 s.m) s.m),(rf (s.m:Nat)),(leS (mE ((luS s.m s.b.D s.m).1) s.m) s.m),(rf (s.m:Nat)),(leS (λi0=>iN ((luS s.m s.b.D s.m).2.2.1 i0)) s.m),(rf ((luS s.m s.b.D s.m).2.2.2.2:Bool)),(rf 0),(rf (s.m:Nat)),(leS (mE s.b.C s.m) s.m),(rf (s.b.m:Nat)),(leS (λi0=>.agg (c2 (iN ((s.b.e i0).1)) (vE (s.b.e i0).2 s.m))) s.b.m),(rf (s.m:Nat)),(λj0 hj0=>rfl),zo⟩,λg hg=>⟨λhc30=>have hc30:=dT hc30;have hgm:g<s.m:=zo;⟨(rf (g:Int)),zo,zo,rfl,(hL g hgm),(rf (g:Int)),zo,zo,(upto_at (f:=(cLq c s.L))).symm,(λt ht hne=>by rw[upto_ne hne]),(wI (g:=g) zo),g+1,(rf 0),(rf (s.N:Nat)),(leS (λi0=>.rat (c i0)) s.N),(rf 0),(rf 0),(rf ((s.m:Nat):Int)),zo,(rf (some (B 0))),(rf (s.m:Nat)),(leS (mE s.A s.N) s.m),(rf ((s.N:Nat):Int)),(rf (s.m:Nat)),(leS (λi0=>.rat (s.Bv i0)) s.m),(rf (s.N:Nat)),(leS (λi0=>.rat (s.Cs i0)) s.N),(rf ((s.n:Nat):Int)),(rf (s.m:Nat)),(leS (λi0=>iZ (s.Lf i0)) s.m),(rf 0),(rf 0),(rf (s.m:Nat)),(leS (λi0=>.rat (s.X i0)) s.m),(rf (s.m:Nat)),(leS (λi0=>iN (s.L i0)) s.m),(rf (some (B 2))),(rf 0),(rf (s.m:Nat)),(leS (mE (luS s.m s.b.D s.m).2.1 s.m) s.m),(rf (s.m:Nat)),(leS (mE ((luS s.m s.b.D s.m).1) s.m) s.m),(rf (s.m:Nat)),(leS (λi0=>iN ((luS s.m s.b.D s.m).2.2.1 i0)) s.m),(rf ((luS s.m s.b.D s.m).2.2.2.2:Bool)),(rf 0),(rf (s.m:Nat)),(leS (mE s.b.C s.m) s.m),(rf (s.b.m:Nat)),(leS (λi0=>.agg (c2 (iN ((s.b.e i0).1)) (vE (s.b.e i0).2 s.m))) s.b.m),(rf (s.m:Nat)),(λj0 hj0=>rfl),zo,zo⟩,λhc30=>have hc30:=dF hc30;have hi2:g=s.m:=zo;⟨(rf 0),(rf (s.m:Nat)),(λj0 hj0=>(by rw[hi2];exact upto_all (by assumption))),(rf (some (B 0))),(rf (s.m:Nat)),(leS (mE s.A s.N) s.m),(rf ((s.N:Nat):Int)),(rf (s.m:Nat)),(leS (λi0=>.rat (s.Bv i0)) s.m),(rf (s.N:Nat)),(leS (λi0=>.rat (s.Cs i0)) s.N),(rf ((s.n:Nat):Int)),(rf (s.m:Nat)),(leS (λi0=>iZ (s.Lf i0)) s.m),(rf 0),(rf 0),(rf (s.m:Nat)),(leS (λi0=>.rat (s.X i0)) s.m),(rf (s.m:Nat)),(leS (λi0=>iN (s.L i0)) s.m),(rf (some (B 2))),(rf 0),(rf (s.m:Nat)),(leS (mE (luS s.m s.b.D s.m).2.1 s.m) s.m),(rf (s.m:Nat)),(leS (mE ((luS s.m s.b.D s.m).1) s.m) s.m),(rf (s.m:Nat)),(leS (λi0=>iN ((luS s.m s.b.D s.m).2.2.1 i0)) s.m),(rf ((luS s.m s.b.D s.m).2.2.2.2:Bool)),(rf 0),(rf (s.m:Nat)),(leS (mE s.b.C s.m) s.m),(rf (s.b.m:Nat)),(leS (λi0=>.agg (c2 (iN ((s.b.e i0).1)) (vE (s.b.e i0).2 s.m))) s.b.m),((sBSolveT (D:=s.b.D) (C:=s.b.C) (e:=s.b.e) (m:=s.b.m) (n:=s.m) (v:=(cLq c s.L)) zo h.hK.ok h.hK.hD h.hK.H h.hK.w (Nat.le_trans h.hK.hm zd) (h.hK.z h.hm (h.cL3 hc)))).tag0 (b:=B 2),(rf (tbB s 3 4 (some (B 2)):Hl)),(rf (tbC s:Hl)),(rf (tbE s:Hl)),(rf 2),(rf 0),(rf (s.m:Nat)),(leS (λi0=>.rat ((cLq c s.L) i0)) s.m),(rf (s.m:Nat)),(λj0 hj0=>rfl),(rf (true:Bool)),(rf (some (B 0))),(rf (s.m:Nat)),(leS (mE s.A s.N) s.m),(rf ((s.N:Nat):Int)),(rf (s.m:Nat)),(leS (λi0=>.rat (s.Bv i0)) s.m),(rf (s.N:Nat)),(leS (λi0=>.rat (s.Cs i0)) s.N),(rf ((s.n:Nat):Int)),(rf (s.m:Nat)),(leS (λi0=>iZ (s.Lf i0)) s.m),(rf 0),(rf 0),(rf (s.m:Nat)),(leS (λi0=>.rat (s.X i0)) s.m),(rf (some (B 2))),(rf 0),(rf (s.m:Nat)),(leS (mE (luS s.m s.b.D s.m).2.1 s.m) s.m),(rf (s.m:Nat)),(leS (mE ((luS s.m s.b.D s.m).1) s.m) s.m),(rf (s.m:Nat)),(leS (λi0=>iN ((luS s.m s.b.D s.m).2.2.1 i0)) s.m),(rf ((luS s.m s.b.D s.m).2.2.2.2:Bool)),(rf 0),(rf (s.m:Nat)),(leS (λi0=>iN (s.L i0)) s.m),(rf (s.m:Nat)),(leS (mE s.b.C s.m) s.m),(rf (s.b.m:Nat)),(leS (λi0=>.agg (c2 (iN ((s.b.e i0).1)) (vE (s.b.e i0).2 s.m))) s.b.m)⟩⟩⟩)
theorem sTPrices{s:TabS}{c:Nat->Rat}(h:TOK s)(hc:∀j,j<s.N->htq (c j)<=3):CallOKm Tryz.prog 31 (tabI s) [.own 0 0,.sl 3 (λi0=>.rat (c i0)) s.N] (c2 (.sl 3 (λi0=>.rat (c i0+((-1:Int):Rat)*dotQ (s.y (cLq c s.L)) (λr=>s.A r i0) s.m)) s.N) (bX true)) (tabO s):=by
 have hm:=h.hm
 have hN:=h.hN
 exact yE (ch:=λB=>[.reg 1 [(2,.callM [0,1,2,3,4] [tbV s 1 2 (some (B 0)),tbL s,tbB s 3 4 (some (B 2)),tbC s,tbE s] [.own 0 0,.sl 3 (λi0=>.rat (c i0)) s.N] (c2 (vE (s.y (cLq c s.L)) s.m) (bX true)) [tbV s 5 2 (some (B 0)),.dead,tbB s 6 7 (some (B 2)),.dead,.dead,tbL s,tbC s,tbE s])],.dec 17 false,.reg 4 [(6,.callS (c2 (.sl 3 (λi0=>.rat (dotQ (s.y (cLq c s.L)) (λr=>s.A r i0) s.m)) s.N) (bX true)) [])],.reg 5 [(2,.callS (c2 (.sl 3 (λi0=>.rat ((c i0)+((-1:Int):Rat)*(dotQ (s.y (cLq c s.L)) (λr=>s.A r i0) s.m))) (if s.N=s.N then s.N else 0)) (bX (decide (s.N=s.N)))) [])],.ret 5 [(0,.id 0),(2,.id 2),(5,.id 5),(6,.id 6),(7,.id 7)]]) hMix Tryz.func31 rfl zk zk zk (λB=>_/\_/\_/\_/\_/\_/\_/\_/\_/\_/\((!true)=false)/\_/\_/\(((if s.N=s.N then s.N else 0:Nat)=s.N)/\(∀j0,j0<(if s.N=s.N then s.N else 0)->(((c j0)+((-1:Int):Rat)*(dotQ (s.y (cLq c s.L)) (λr=>s.A r j0) s.m):Rat)=(c j0+((-1:Int):Rat)*dotQ (s.y (cLq c s.L)) (λr=>s.A r j0) s.m)))/\((decide (s.N=s.N):Bool)=true)/\_/\_/\_/\_/\_/\_/\_/\_/\_/\_/\_/\_/\_/\_/\_/\_/\_/\_/\_/\_/\_/\_/\_/\_/\_/\_/\_/\_/\_/\_/\_)) (λB=>by kernel_rfl)
  (λB=>⟨(((sTDuals (s:=s) (c:=c) h hc)).tag2 (b:=B 2)).tag0 (b:=B 0),(rf (tbV s 1 2 (some (B 0)):Hl)),(rf (tbL s:Hl)),(rf (tbB s 3 4 (some (B 2)):Hl)),(rf (tbC s:Hl)),(rf (tbE s:Hl)),(rf 0),(rf 0),(rf (s.N:Nat)),(leS (λi0=>.rat (c i0)) s.N),rfl,(sMatBy (m:=s.m) (n:=s.N) (q:=(λr c=>s.A r c)) (v:=(s.y (cLq c s.L))) zo zo (h.byR (λj hj=>h.yh (h.cL3 hc) hj))),(sVecSub (n:=s.N) (m:=s.N) (a:=c) (b:=(λi=>dotQ (s.y (cLq c s.L)) (λr=>s.A r i) s.m)) zo (λ_ i hi=>sub_room (Nat.le_trans (hc i hi) zd) (Nat.le_trans (h.byH (λj hj=>h.yh (h.cL3 hc) hj) hi) zd))),(if_pos rfl),(λj0 hj0=>rfl),(decide_eq_true rfl),(rf (some (B 0))),(rf (s.m:Nat)),(leS (mE s.A s.N) s.m),(rf ((s.N:Nat):Int)),(rf (s.m:Nat)),(leS (λi0=>.rat (s.Bv i0)) s.m),(rf (s.N:Nat)),(leS (λi0=>.rat (s.Cs i0)) s.N),(rf ((s.n:Nat):Int)),(rf (s.m:Nat)),(leS (λi0=>iZ (s.Lf i0)) s.m),(rf 0),(rf 0),(rf (s.m:Nat)),(leS (λi0=>.rat (s.X i0)) s.m),(rf (some (B 2))),(rf 0),(rf (s.m:Nat)),(leS (mE (luS s.m s.b.D s.m).2.1 s.m) s.m),(rf (s.m:Nat)),(leS (mE ((luS s.m s.b.D s.m).1) s.m) s.m),(rf (s.m:Nat)),(leS (λi0=>iN ((luS s.m s.b.D s.m).2.2.1 i0)) s.m),(rf ((luS s.m s.b.D s.m).2.2.2.2:Bool)),(rf 0),(rf (s.m:Nat)),(leS (λi0=>iN (s.L i0)) s.m),(rf (s.m:Nat)),(leS (mE s.b.C s.m) s.m),(rf (s.b.m:Nat)),(leS (λi0=>.agg (c2 (iN ((s.b.e i0).1)) (vE (s.b.e i0).2 s.m))) s.b.m)⟩)
open Go.RowKit
theorem sTLine{s:TabS}{r:Nat}(h:TOK s)(hr:r<s.m):CallOKm Tryz.prog 37 (tabI s) [.own 0 0,iN r] (c2 (.sl 3 (λi0=>.rat (dotQ (s.y (uQ r)) (λr=>s.A r i0) s.m)) s.N) (bX true)) (tabO s):=by
 have hm:=h.hm
 have hN:=h.hN
 exact yE (ch:=λB=>[.reg 1 [(6,.callS (c2 (.sl 3 (λi0=>.rat (uQ r i0)) s.m) (bX true)) [])],.dec 21 false,.reg 4 [(5,.callM [2,3,4] [tbB s 1 2 (some (B 2)),tbC s,tbE s] [.own 0 0,.sl 3 (λi0=>.rat ((uQ r) i0)) s.m] (c2 (.sl 3 (λi0=>.rat (basY s.m s.b.D (yD s.m s.b.m (uQ r) s.b.e s.b.m) i0)) s.m) (bX true)) [tbB s 3 4 (some (B 2)),.dead,.dead,tbC s,tbE s])],.reg 5 [(6,.callS (c2 (.sl 3 (λi0=>.rat (dotQ (λi=>basY s.m s.b.D (yD s.m s.b.m (uQ r) s.b.e s.b.m) i) (λr=>s.A r i0) s.m)) s.N) (bX true)) [])],.ret 5 [(0,.id 0),(2,.id 2),(5,.id 1),(6,.id 5),(7,.id 6)]]) hMix Tryz.func37 rfl zk zk zk (λB=>_/\((!true)=false)/\_/\_/\_/\_/\_/\_/\_/\(∀j0,j0<s.m->((uQ r j0:Rat)=((uQ r) j0)))/\_/\(_/\(∀j0,j0<s.N->((dotQ (λi=>basY s.m s.b.D (yD s.m s.b.m (uQ r) s.b.e s.b.m) i) (λr=>s.A r j0) s.m:Rat)=(dotQ (s.y (uQ r)) (λr=>s.A r j0) s.m)))/\_/\_/\_/\_/\_/\_/\_/\_/\_/\_/\_/\_/\_/\_/\_/\_/\_/\_/\_/\_/\_/\_/\_/\_/\_/\_/\_/\_/\_/\_/\_/\_)) (λB=>by kernel_rfl)
  (λB=>⟨(sVecUnit (n:=s.m) (k:=r) zo hr).frzV2,rfl,((sBSolveT (D:=s.b.D) (C:=s.b.C) (e:=s.b.e) (m:=s.b.m) (n:=s.m) (v:=(uQ r)) zo h.hK.ok h.hK.hD h.hK.H h.hK.w (Nat.le_trans h.hK.hm zd) (h.hK.z h.hm (λi _=>u_ht r i)))).tag0 (b:=B 2),(rf (tbB s 3 4 (some (B 2)):Hl)),(rf (tbC s:Hl)),(rf (tbE s:Hl)),(rf 2),(rf 0),(rf (s.m:Nat)),(λj0 hj0=>rfl),(sMatBy (m:=s.m) (n:=s.N) (q:=(λr c=>s.A r c)) (v:=(λi=>basY s.m s.b.D (yD s.m s.b.m (uQ r) s.b.e s.b.m) i)) zo zo (h.byR (λj hj=>h.yh (λi _=>u_ht r i) hj))),(rf (s.N:Nat)),(λj0 hj0=>rfl),(rf (true:Bool)),(rf (some (B 0))),(rf (s.m:Nat)),(leS (mE s.A s.N) s.m),(rf ((s.N:Nat):Int)),(rf (s.m:Nat)),(leS (λi0=>.rat (s.Bv i0)) s.m),(rf (s.N:Nat)),(leS (λi0=>.rat (s.Cs i0)) s.N),(rf ((s.n:Nat):Int)),(rf (s.m:Nat)),(leS (λi0=>iZ (s.Lf i0)) s.m),(rf 0),(rf 0),(rf (s.m:Nat)),(leS (λi0=>.rat (s.X i0)) s.m),(rf (some (B 2))),(rf 0),(rf (s.m:Nat)),(leS (mE (luS s.m s.b.D s.m).2.1 s.m) s.m),(rf (s.m:Nat)),(leS (mE ((luS s.m s.b.D s.m).1) s.m) s.m),(rf (s.m:Nat)),(leS (λi0=>iN ((luS s.m s.b.D s.m).2.2.1 i0)) s.m),(rf ((luS s.m s.b.D s.m).2.2.2.2:Bool)),(rf 0),(rf (s.m:Nat)),(leS (λi0=>iN (s.L i0)) s.m),(rf (s.m:Nat)),(leS (mE s.b.C s.m) s.m),(rf (s.b.m:Nat)),(leS (λi0=>.agg (c2 (iN ((s.b.e i0).1)) (vE (s.b.e i0).2 s.m))) s.b.m)⟩)
theorem setC_at{C:Nat->Nat->Rat}{k i r:Nat}{v:Nat->Rat}(h:i=k):setC C k v i r=v r:=by rw[h,setC_self]
theorem TOK.A2{s:TabS}(h:TOK s){j:Nat}(hj:j<s.N):s.m=s.m->∀r,r<s.m->htq (s.A r j)<=2:=λ_ r hr=>h.hA r hr j hj
theorem TOK.put{s:TabS}{k j:Nat}(h:TOK s)(hj:j<s.N)(hn:∀i,i<s.m->s.L i≠j)(hr:repN s.m s.b (k:Int) (λr=>s.A r j) s.m=0):TOK (s.put k j) where
 hm:=h.hm
 hN:=h.hN
 hK:=repS_okT h.hK h.hm (h.A2 hj)
 hL:=λi hi=>by
  show putL s.L k j i<s.N
  by_cases e:i=k
  ·rw[e,putL_at];exact hj
  ·rw[putL_ne e];exact h.hL i hi
 hd:=λi hi t ht=>by
  show putL s.L k j t≠putL s.L k j i
  have hi':i<s.m:=hi
  by_cases e:i=k
  ·rw[e,putL_at,putL_ne zo];exact hn t zo
  ·rw[putL_ne e]
   by_cases e2:t=k
   ·rw[e2,putL_at];exact λe3=>hn i hi e3.symm
   ·rw[putL_ne e2];exact h.hd i hi t ht
 hC:=λi hi r hr'=>by
  show(repS s.m s.b (k:Int) (λr=>s.A r j) s.m).C i r=s.A r (putL s.L k j i)
  rw[repS_C hr,Int.toNat_natCast]
  by_cases e:i=k
  ·rw[setC_at e,e,putL_at]
  ·rw[setC_ne e,putL_ne e];exact h.hC i hi r hr'
 hA:=h.hA
 hB:=h.hB
theorem sTSwap{s:TabS}{k j:Nat}(h:TOK s)(hk:k<s.m)(hj:j<s.N)(hn:∀i,i<s.m->s.L i≠j)(hr:repN s.m s.b (k:Int) (λr=>s.A r j) s.m=0):CallOKm Tryz.prog 51 (tabI s) [.own 0 0,iN k,iN j] (.ex (.nilIface)) [tbV (s.put k j) 5 2,.dead,tbB (s.put k j) 6 7,.dead,.dead,tbL (s.put k j),.one (.row 41 1 (mE (s.put k j).b.C ((s.put k j).m)) ((s.put k j).m)),tbE (s.put k j)]:=by
 have hm:=h.hm
 have hN:=h.hN
 have K2:BSK s.m (repS s.m s.b (k:Int) (λr=>s.A r j) s.m):=repS_okT h.hK h.hm (h.A2 hj)
 exact yE (ch:=λB=>[.reg 1 [(6,.callS (c2 (.sl 3 (λi0=>.rat (s.A i0 j)) s.m) (bX true)) [])],.reg 2 [(21,.callS (bX false) [])],.dec 42 false,.reg 4 [(6,.callM [2,3,4] [tbB s 1 2 (some (B 2)),tbC s,tbE s] [.own 0 0,iN k,.sl 3 (λi0=>.rat ((λr=>s.A r j) i0)) s.m] (.ex (.nilIface)) [.one (bV 3 4 (luS s.m (repS s.m s.b (k:Int) (λr=>s.A r j) s.m).D s.m) s.m (some (B 2))),.dead,.dead,.one (.row 41 1 (mE (repS s.m s.b (k:Int) (λr=>s.A r j) s.m).C s.m) s.m),.one (eE (repS s.m s.b (k:Int) (λr=>s.A r j) s.m).e s.m ((repS s.m s.b (k:Int) (λr=>s.A r j) s.m).m))])],.dec 54 false,.reg 7 [(6,.k k),(7,.row 0 (λi0=>iN (putL s.L k j i0)))],.reg 8 [(10,.callM [2,5,6] [.one (bV 1 2 (luS s.m (repS s.m s.b (k:Int) (λr=>s.A r j) s.m).D s.m) s.m (some (B 2))),.one (.row 41 1 (mE (repS s.m s.b (k:Int) (λr=>s.A r j) s.m).C s.m) s.m),.one (eE (repS s.m s.b (k:Int) (λr=>s.A r j) s.m).e s.m ((repS s.m s.b (k:Int) (λr=>s.A r j) s.m).m))] [.own 0 0,.sl 3 (λi0=>.rat (s.Bv i0)) s.m] (c2 (.own 5 0) (bX true)) [.one (bV 3 4 (luS s.m (repS s.m s.b (k:Int) (λr=>s.A r j) s.m).D s.m) s.m (some (B 2))),.dead,.dead,.one (.row 41 1 (mE (repS s.m s.b (k:Int) (λr=>s.A r j) s.m).C s.m) s.m),.one (eE (repS s.m s.b (k:Int) (λr=>s.A r j) s.m).e s.m ((repS s.m s.b (k:Int) (λr=>s.A r j) s.m).m)),.one (.row 76 3 (λi0=>.rat ((zL (basX s.m (repS s.m s.b (k:Int) (λr=>s.A r j) s.m).D s.Bv) (repS s.m s.b (k:Int) (λr=>s.A r j) s.m).e ((repS s.m s.b (k:Int) (λr=>s.A r j) s.m).m)) i0)) s.m)])],.ret 9 [(0,.id 0),(2,.id 2),(5,.id 1),(6,.id 8),(7,.id 9)]]) hMix Tryz.func51 rfl zk zk zk (λB=>let y2:=(bif (!true) then true else(decide ((k:Int)<0)));let y0:=(bif y2 then true else(decide (((s.m:Nat):Int)<=(k:Int))));let y1:=(y2==false);_/\_/\((!(!true))=true->((!true)==false)=true)/\(y1=true->y1=true)/\(y1=true->y1=true)/\(y1=true->y1=true)/\(y1=true->y1=true)/\(y1=true->y1=true)/\(y1=true->y1=true)/\((!y2)=true->y1=true)/\((y0==false)=true->(y0==false)=true)/\((y0==false)=true->(y0==false)=true)/\((y0==false)=true->(y0==false)=true)/\((y0==false)=true->(y0==false)=true)/\((y0==false)=true->(y0==false)=true)/\((y0==false)=true->CallOK Tryz.prog 59 [.sl 1 (λi0=>iN (s.L i0)) s.m,iN j] (bX false) [])/\((!y0)=true->(y0==false)=true)/\((bif y0 then true else false)=false)/\_/\_/\_/\_/\_/\_/\_/\_/\(∀j0,j0<s.m->((s.A j0 j:Rat)=((λr=>s.A r j) j0)))/\((!true)=false)/\_/\(k<s.m)/\(k<s.m)/\(((j:Int)=(putL s.L k j k:Int)))/\(∀t,t<s.m->t≠k->(iN (putL s.L k j t):SV)=iN (s.L t))/\_/\_/\_/\_/\_/\_/\_/\_/\(((.nilIface:Value)=.nilIface)/\_/\((s.m:Nat)=((s.put k j).m))/\(∀j0,j0<s.m->((s.N:Nat)=((s.put k j).N))/\(∀j1,j1<s.N->((s.A j0 j1:Rat)=((s.put k j).A j0 j1))))/\(((s.N:Nat):Int)=(((s.put k j).N:Nat):Int))/\((s.m:Nat)=((s.put k j).m))/\(∀j0,j0<s.m->((s.Bv j0:Rat)=(((s.put k j).Bv) j0)))/\((s.N:Nat)=((s.put k j).N))/\(∀j0,j0<s.N->((s.Cs j0:Rat)=(((s.put k j).Cs) j0)))/\(((s.n:Nat):Int)=(((s.put k j).n:Nat):Int))/\((s.m:Nat)=((s.put k j).m))/\(∀j0,j0<s.m->((s.Lf j0:Int)=(((s.put k j).Lf) j0)))/\_/\_/\((s.m:Nat)=((s.put k j).m))/\(∀j0,j0<s.m->(((zL (basX s.m (repS s.m s.b (k:Int) (λr=>s.A r j) s.m).D s.Bv) (repS s.m s.b (k:Int) (λr=>s.A r j) s.m).e ((repS s.m s.b (k:Int) (λr=>s.A r j) s.m).m)) j0:Rat)=(((s.put k j).X) j0)))/\_/\_/\((s.m:Nat)=((s.put k j).m))/\(∀j0,j0<s.m->((s.m:Nat)=((s.put k j).m))/\(∀j1,j1<s.m->(((luS s.m (repS s.m s.b (k:Int) (λr=>s.A r j) s.m).D s.m).2.1 j0 j1:Rat)=((luS ((s.put k j).m) (s.put k j).b.D ((s.put k j).m)).2.1 j0 j1))))/\((s.m:Nat)=((s.put k j).m))/\(∀j0,j0<s.m->((s.m:Nat)=((s.put k j).m))/\(∀j1,j1<s.m->((((luS s.m (repS s.m s.b (k:Int) (λr=>s.A r j) s.m).D s.m).1) j0 j1:Rat)=(((luS ((s.put k j).m) (s.put k j).b.D ((s.put k j).m)).1) j0 j1))))/\((s.m:Nat)=((s.put k j).m))/\(∀j0,j0<s.m->((((luS s.m (repS s.m s.b (k:Int) (λr=>s.A r j) s.m).D s.m).2.2.1 j0:Nat):Int)=(((luS ((s.put k j).m) (s.put k j).b.D ((s.put k j).m)).2.2.1 j0:Nat):Int)))/\(((luS s.m (repS s.m s.b (k:Int) (λr=>s.A r j) s.m).D s.m).2.2.2.2:Bool)=((luS ((s.put k j).m) (s.put k j).b.D ((s.put k j).m)).2.2.2.2))/\_/\((s.m:Nat)=((s.put k j).m))/\(∀j0,j0<s.m->(((putL s.L k j j0:Nat):Int)=(((s.put k j).L j0:Nat):Int)))/\((s.m:Nat)=((s.put k j).m))/\(∀j0,j0<s.m->((s.m:Nat)=((s.put k j).m))/\(∀j1,j1<s.m->(((repS s.m s.b (k:Int) (λr=>s.A r j) s.m).C j0 j1:Rat)=((s.put k j).b.C j0 j1))))/\(((repS s.m s.b (k:Int) (λr=>s.A r j) s.m).m:Nat)=((s.put k j).b.m))/\(∀j0,j0<((repS s.m s.b (k:Int) (λr=>s.A r j) s.m).m)->(((((repS s.m s.b (k:Int) (λr=>s.A r j) s.m).e j0).1:Nat):Int)=((((s.put k j).b.e j0).1:Nat):Int))/\((s.m:Nat)=((s.put k j).m))/\(∀j1,j1<s.m->((((repS s.m s.b (k:Int) (λr=>s.A r j) s.m).e j0).2 j1:Rat)=(((s.put k j).b.e j0).2 j1)))))) (λB=>by kernel_rfl)
  (λB=>⟨(sMatCol (m:=s.m) (n:=s.N) (q:=s.A) (c:=j) zo hj),(idB ((!true)==false)),(by first | exact id | (simp;done) | (simp;omega)),id,id,id,id,id,id,(by first | exact id | (simp;done) | (simp;omega)),id,id,id,id,id,(λhg=>(sContNo (a:=(λi=>(s.L i:Int))) zo (λi hi e=>hn i hi zo))),(by first | exact id | (simp;done) | (simp;omega)),(by simp;omega),((sBReplaceOk (s:=s.b) (k:=(k:Int)) (v:=(λr=>s.A r j)) (l:=s.m) h.hK h.hm (h.A2 hj) hr)).tag0 (b:=B 2),(rf (tbB s 3 4 (some (B 2)):Hl)),(rf (tbC s:Hl)),(rf (tbE s:Hl)),(rf 2),(rf 0),(rf (k:Int)),(rf (s.m:Nat)),(λj0 hj0=>rfl),rfl,(rf (k:Int)),zo,zo,(by rw[putL_at]),(λt ht hne=>by rw[putL_ne hne]),((sBSolve (D:=(repS s.m s.b (k:Int) (λr=>s.A r j) s.m).D) (C:=(repS s.m s.b (k:Int) (λr=>s.A r j) s.m).C) (e:=(repS s.m s.b (k:Int) (λr=>s.A r j) s.m).e) (m:=(repS s.m s.b (k:Int) (λr=>s.A r j) s.m).m) (n:=s.m) (v:=s.Bv) zo K2.ok K2.hD K2.H K2.w (Nat.le_trans K2.hm zd) h.B3 (K2.x h.hm h.B3))).tag0 (b:=B 2),(rf (.one (bV 5 6 (luS s.m (repS s.m s.b (k:Int) (λr=>s.A r j) s.m).D s.m) s.m (some (B 2))):Hl)),(rf (.one (.row 41 1 (mE (repS s.m s.b (k:Int) (λr=>s.A r j) s.m).C s.m) s.m):Hl)),(rf (.one (eE (repS s.m s.b (k:Int) (λr=>s.A r j) s.m).e s.m ((repS s.m s.b (k:Int) (λr=>s.A r j) s.m).m)):Hl)),(rf 2),(rf 0),(rf (s.m:Nat)),(leS (λi0=>.rat (s.Bv i0)) s.m),rfl,(rf (some (B 0))),rfl,(λj0 hj0=>⟨rfl,(λj1 hj1=>rfl)⟩),rfl,rfl,(λj0 hj0=>rfl),rfl,(λj0 hj0=>rfl),rfl,rfl,(λj0 hj0=>rfl),(rf 0),(rf 0),rfl,(λj0 hj0=>rfl),(rf (some (B 2))),(rf 0),rfl,(λj0 hj0=>⟨rfl,(λj1 hj1=>rfl)⟩),rfl,(λj0 hj0=>⟨rfl,(λj1 hj1=>rfl)⟩),rfl,(λj0 hj0=>rfl),rfl,(rf 0),rfl,(λj0 hj0=>rfl),rfl,(λj0 hj0=>⟨rfl,(λj1 hj1=>rfl)⟩),rfl,(λj0 hj0=>⟨rfl,rfl,(λj1 hj1=>rfl)⟩)⟩)
open Go.RowKit
def ptQ (L:Nat->Nat) (X:Nat->Rat):Nat->Nat->Rat
 | 0=>λ_=>0
 | g+1=>λj=>if j=L g then X g else ptQ L X g j
section
variable {L:Nat->Nat} {X:Nat->Rat} {g j:Nat}
theorem pt_at:ptQ L X (g+1) (L g)=X g:=if_pos rfl
theorem pt_ne(h:j≠L g):ptQ L X (g+1) j=ptQ L X g j:=if_neg h
theorem pt_out:∀g,(∀i,i<g->L i≠j)->ptQ L X g j=0
 | 0,_=>rfl
 | g+1,h=>by rw[pt_ne λe=>h g (Nat.lt_succ_self g) e.symm];exact pt_out g λi hi=>h i zo
theorem pt_or:∀g,ptQ L X g j=0∨∃i,i<g/\ptQ L X g j=X i
 | 0=>.inl rfl
 | g+1=>by
  by_cases e:j=L g
  ·rw[e,pt_at];exact .inr ⟨g,Nat.lt_succ_self g,rfl⟩
  ·rw[pt_ne e]
   rcases pt_or g with h | ⟨i,hi,h⟩
   ·exact .inl h
   ·exact .inr ⟨i,by omega,h⟩
theorem pt_in:∀g,(∀k,k<g->∀i,i<k->L i≠L k)->∀k,k<g->ptQ L X g (L k)=X k
 | 0,_,k,hk=>absurd hk (Nat.not_lt_zero k)
 | g+1,hd,k,hk=>by
  by_cases e:k=g
  ·rw[e,pt_at]
  ·rw[pt_ne (hd g (Nat.lt_succ_self g) k zo)]
   exact pt_in g (λt ht=>hd t zo) k zo
theorem pt_sum(a:Nat->Rat){N:Nat}:∀g,(∀k,k<g->L k<N)->(∀k,k<g->∀i,i<k->L i≠L k)->sumQ (λj=>a j*ptQ L X g j) N=sumQ (λk=>a (L k)*X k) g
 | 0,_,_=>by
  show sumQ (λj=>a j*0) N=0
  rw[zF (g:=λ_=>0) N λj _=>by grind];exact kI N
 | g+1,hL,hd=>by
  have ih:=pt_sum a g (λk hk=>hL k zo) (λk hk=>hd k zo)
  have hg:=hL g (Nat.lt_succ_self g)
  have h0:ptQ L X g (L g)=0:=pt_out g λi hi=>hd g (Nat.lt_succ_self g) i hi
  show _=sumQ (λk=>a (L k)*X k) g+a (L g)*X g
  rw[←ih,sum_off _ hg,sum_off (λj=>a j*ptQ L X g j) hg,h0,pt_at]
  have e:sumQ (offQ (L g) λj=>a j*ptQ L X (g+1) j) N=sumQ (offQ (L g) λj=>a j*ptQ L X g j) N:=zF N λj _=>by
   by_cases h:j=L g
   ·rw[h,jF,jF]
   ·rw[off_ne h,off_ne h,pt_ne h]
  rw[e];grind
theorem below_iff{q:Nat->Rat}:∀n,belowV q n=true↔∃i,i<n/\(q i).num<0
 | 0=>⟨λh=>(by cases h),λ⟨i,hi,_⟩=>absurd hi (Nat.not_lt_zero i)⟩
 | n+1=>by
  show(belowV q n||decide ((q n).num<0))=true↔_
  rw[Bool.or_eq_true,below_iff n,decide_eq_true_iff]
  constructor
  ·rintro(⟨i,hi,h⟩ | h)
   ·exact⟨i,by omega,h⟩
   ·exact⟨n,Nat.lt_succ_self n,h⟩
  ·rintro⟨i,hi,h⟩
   rcases Nat.lt_succ_iff_lt_or_eq.1 hi with e | e
   ·exact .inl ⟨i,e,h⟩
   ·rw[e] at h;exact .inr h
end
section
variable {s:TabS} {c:Nat->Rat}
abbrev TabS.z (s:TabS):Nat->Rat:=ptQ s.L s.X s.m
theorem TOK.zs(h:TOK s)(a:Nat->Rat):dotQ a s.z s.N=sumQ (λk=>a (s.L k)*s.X k) s.m:=by
 rw[dot_sumB];exact pt_sum a s.m h.hL h.hd
theorem TOK.az(h:TOK s){r:Nat}(hr:r<s.m):dotQ (s.A r) s.z s.N=s.Bv r:=by
 rw[h.zs,←h.hK.sol s.Bv hr]
 exact zF s.m λk hk=>by rw[h.hC k hk r hr];rfl
theorem TOK.yC(h:TOK s)(v:Nat->Rat){k:Nat}(hk:k<s.m):dotQ (s.y v) (λr=>s.A r (s.L k)) s.m=v k:=by
 rw[dot_sumB,←h.hK.rowS v hk]
 exact zF s.m λr hr=>by rw[h.hC k hk r hr];rfl
theorem TOK.cz(h:TOK s)(c:Nat->Rat):dotQ c s.z s.N=dotQ (s.y (cLq c s.L)) s.Bv s.m:=by
 rw[h.zs,dot_sumB]
 have e1:sumQ (λk=>c (s.L k)*s.X k) s.m=sumQ (λk=>sumQ (λi=>s.y (cLq c s.L) i*s.A i (s.L k)) s.m*s.X k) s.m:=zF s.m λk hk=>by
  rw[←dot_sumB,h.yC _ hk];rfl
 rw[e1,sum_swap]
 exact zF s.m λi hi=>by rw[←h.zs,h.az hi]
theorem TOK.bz(h:TOK s):belowV s.X s.m=belowV s.z s.N:=by
 rw[Bool.eq_iff_iff,below_iff,below_iff]
 constructor
 ·rintro⟨k,hk,e⟩
  exact⟨s.L k,h.hL k hk,by show(ptQ s.L s.X s.m (s.L k)).num<0;rw[pt_in s.m h.hd k hk];exact e⟩
 ·rintro⟨j,_,e⟩
  have e':(ptQ s.L s.X s.m j).num<0:=e
  rcases pt_or (L:=s.L) (X:=s.X) (j:=j) s.m with e2 | ⟨i,hi,e2⟩
  ·rw[e2] at e';exact absurd e' zd
  ·exact⟨i,hi,by rw[←e2];exact e'⟩
end
open Go.RowKit
theorem sMatCol_no{q:Nat->Nat->Rat}{m n:Nat}{c:Int}(h:¬(0<=c/\c<n)):CallOK Tryz.prog 58 [.agg (c2 (.sl 1 (mE q n) m) (iN n)),.ex (.int .i64 c)] (c2 (.sl 3 (λ_=>.rat 0) 0) (bX false)) []:=by
 exact kP (ch:=[.dec 16 true]) Tryz.func58 ((∀j0,j0<m->(∀j1,j1<n->True))/\_/\_/\_/\((!(decide ((c:Int)<0)))=true->((decide ((c:Int)<0))==false)=true)/\((bif (decide ((c:Int)<0)) then true else(decide ((n:Int)<=c)))=true)/\(_/\_))
  ⟨(λ_ _=>(λ_ _=>trivial)),(idB ((decide ((c:Int)<0))==false)),(idB ((decide ((c:Int)<0))==false)),(idB ((decide ((c:Int)<0))==false)),(by first | (simp;done) | (simp;omega)),(by simp;omega),(rf 0),(rf (false:Bool))⟩
theorem no2_T [Fz]{E:Nat->Rat}:conj (SV.le (.cn (.sl 3 (λ_=>.rat 0) 0) (.cn (bX false) .nl)) (.cn (.sl 3 (λi=>.rat (E i)) 0) (.cn (bX false) .nl))):=
 Eq.mp (α:=0=0/\(∀i,i<0->(0:Rat)=E i)/\false=false) zk ⟨rfl,λj hj=>absurd hj (Nat.not_lt_zero j),rfl⟩
section
variable {s:TabS}
theorem TOK.lc(h:TOK s){r j:Nat}(hr:r<s.m):dotQ (s.y (uQ r)) (λi=>s.A i j) s.m=s.x (λi=>s.A i j) r:=by
 rw[dot_sumB]
 have e1:sumQ (λi=>s.y (uQ r) i*s.A i j) s.m=sumQ (λi=>s.y (uQ r) i*sumQ (λk=>s.b.C k i*s.x (λi=>s.A i j) k) s.m) s.m:=zF s.m λi hi=>by
  have:=h.hK.sol (λi=>s.A i j) hi
  rw[show sumQ (λk=>s.b.C k i*s.x (λi=>s.A i j) k) s.m=s.A i j from this]
 rw[e1,←sum_swap (F:=λi k=>s.b.C k i)]
 have e2:sumQ (λk=>sumQ (λi=>s.y (uQ r) i*s.b.C k i) s.m*s.x (λi=>s.A i j) k) s.m=sumQ (λk=>uQ r k*s.x (λi=>s.A i j) k) s.m:=zF s.m λk hk=>by
  rw[show sumQ (λi=>s.y (uQ r) i*s.b.C k i) s.m=uQ r k from h.hK.rowS (uQ r) hk]
 rw[e2,jD (k:=r) s.m hr λi _ hne=>by unfold uQ;rw[if_neg hne];grind]
 unfold uQ;rw[if_pos rfl];grind
end
theorem g3{A:Prop} [Decidable A]{x:Bool}(hg:((((((!decide A)==false)&&true)&&(x==true)))=true)):A:=by
 by_cases a:A
 ·exact a
 ·simp[a] at hg
open Go.RowKit
theorem sContB{P:Prop} [Decidable P]{a:Nat->Int}{n:Nat}{v:Int}(hn:n<=68719476736)(h1:P->∃k,k<n/\a k=v)(h2:¬P->∀i,i<n->a i≠v):CallOK Tryz.prog 59 [.sl 1 (λi0=>iZ (a i0)) n,.ex (.int .i64 v)] (bX (decide P)) []:=by
 by_cases h:P
 ·rw[decide_eq_true h];exact sContYes hn (h1 h)
 ·rw[decide_eq_false h];exact sContNo hn (h2 h)
theorem sTNew_col{A:Nat->Nat->Rat}{Bv Cs:Nat->Rat}{Lf:Nat->Int}{n N m:Nat}{L:Nat->Nat}{k:Nat}(hm:m<=64)(hL:∀k,k<m->L k<N)(hk:k<m)(h0:∀i,i<k->∀t,t<i->L t≠L i)(h1:∃t,t<k/\L t=L k):CallOK Tryz.prog 14 [.agg (.cn (.agg (c2 (.sl 1 (mE A N) m) (iN N))) (.cn (vE Bv m) (c3 (vE Cs N) (iN n) (.sl 1 (λi0=>iZ (Lf i0)) m)))),.sl 1 (λi0=>iN (L i0)) m] (c2 (.ex (.pointer none)) (.ifc 158 (.ep (.agg (c3 (.ex (.string sCol)) (iN k) (.ex (.iface 57 (.int .i64 170)))))))) []:=by
 exact kP (ch:=[.reg 1 [(4,.callS (iN m) []),(12,.callS (iN m) [])],.dec 28 false,.loop 5 (Nat) (λg=>g<=k) (λg=>m-g) (λg=>⟨[(1,.sl 1 (λi0=>iN (L i0)) m),(2,.own 0 0),(6,.own 1 0),(30,.sl 1 (λi0=>iN (L i0)) m),(31,iN m),(32,iN g)],[(0,.one (.var 43 (.agg (.cn (.agg (c2 (.sl 1 (mE A N) m) (iN N))) (.cn (vE Bv m) (c3 (vE Cs N) (iN n) (.sl 1 (λi0=>iZ (Lf i0)) m))))))),(1,.one (.row 41 1 (λi0=>.sl 3 (λi1=>.rat (colA A L i0 i1)) m) g))],2⟩) [(0,.id 0),(1,.nil)] (λ_=>[(0,.id 0),(1,.id 2)]) (λg=>[.dec 33 true,.reg 6 [(1,.k g)],.reg 7 [(3,.callS (c2 (.sl 3 (λi0=>.rat (A i0 (L g))) m) (bX true)) [])],.reg 8 [(5,.kk 0 g),(7,.callS (bX (decide (g=k))) [])],.reg 9 [(2,.callS (.ifc 158 (.ep (.agg (c3 (.ex (.string sCol)) (iN g) (.ex (.iface 57 (.int .i64 170))))))) [])],.reg 10 [(3,.row 0 (λi0=>.sl 3 (λi1=>.rat (colA A L i0 i1)) m))],.reg 11 [(0,.z ((g+1:Nat):Int))]])]) Tryz.func14 (let y0:=((!decide ((m:Int)=(m:Int)))==false);let y1:=((!true)==false);(∀j0,j0<m->(∀j1,j1<N->True))/\(∀j0,j0<m->True)/\(∀j0,j0<N->True)/\(∀j0,j0<m->True)/\(∀j0,j0<m->True)/\_/\(y0=true->y0=true)/\(y0=true->y0=true)/\(y0=true->y0=true)/\(y0=true->y0=true)/\(y0=true->_)/\(y0=true->y0=true)/\(y0=true->y0=true)/\((!(!decide ((m:Int)=(m:Int))))=true->y0=true)/\((bif (!decide ((m:Int)=(m:Int))) then true else(!decide ((m:Int)=(m:Int))))=false)/\(((λX1 X2 X3 X4 X5 X6 X7 X8 X9 X10 X11 X12 X13 X14 X15 X16 X17:Prop=>∃g0:Nat,X1/\X2/\X3/\X4/\X5/\X6/\X7/\((0:Int)=(g0:Int))/\X8/\X9/\X10/\X11/\X12/\X13/\X14/\X15/\X16/\X17/\((g0:Nat)=0)/\(g0<=k)) _ _ _ _ _ _ _ _ _ _ _ _ _ _ _ _ _)/\∀g:Nat,(g<=k)->((decide ((g:Int)<(m:Int)))=true)/\_/\(g<m)/\_/\(y1=true->y1=true)/\(y1=true->y1=true)/\(y1=true->_)/\(y1=true->g<=m)/\(y1=true->y1=true)/\(y1=true->y1=true)/\(y1=true->CallOK Tryz.prog 59 [.sl 1 (λi0=>iN (L i0)) g,iN (L g)] (bX (decide (g=k))) [])/\((!(!true))=true->y1=true)/\(((bif (!true) then true else(decide (g=k)))=true->(CallOK Tryz.prog 60 [.ex (.iface 57 (.int .i64 170)),.ex (.string sCol),iN g] (.ifc 158 (.ep (.agg (c3 (.ex (.string sCol)) (iN g) (.ex (.iface 57 (.int .i64 170))))))) [])/\(((.pointer none:Value)=.pointer none)/\((.string sCol:Value)=.string sCol)/\((g:Int)=(k:Int))/\((.iface 57 (.int .i64 170):Value)=.iface 57 (.int .i64 170))))/\((bif (!true) then true else(decide (g=k)))=false->(g+1<=68719476736)/\_/\_/\_/\((λX1 X2 X3 X4 X5 X6 X7 X8 X9 X10 X11 X12 X13 X14 X15 X16 X17 X18:Prop=>∃g1:Nat,X1/\X2/\X3/\X4/\X5/\X6/\X7/\(((g+1:Nat):Int)=(g1:Int))/\X8/\X9/\X10/\X11/\X12/\X13/\X14/\X15/\X16/\X17/\((g+1:Nat)=g1)/\X18/\(g1<=k)/\(m-g1<m-g)) _ _ _ _ _ _ _ _ _ _ _ _ _ _ _ _ _ _)))))
  ⟨(λ_ _=>(λ_ _=>trivial)),(λ_ _=>trivial),(λ_ _=>trivial),(λ_ _=>trivial),(λ_ _=>trivial),xX (m:=m) (n:=N) (q:=A),id,id,id,id,(λhg=>xX (m:=m) (n:=N) (q:=A)),id,id,zs,zs,⟨0,(rf m),(leS (λi0=>iN (L i0)) m),(rf 0),(rf 0),(rf m),(leS (λi0=>iN (L i0)) m),(rf (m:Int)),zo,(rf m),(leS (mE A N) m),(rf (N:Int)),(rf m),(leS (λi0=>.rat (Bv i0)) m),(rf N),(leS (λi0=>.rat (Cs i0)) N),(rf (n:Int)),(rf m),(leS (λi0=>iZ (Lf i0)) m),zo,zo⟩,λg hg=>⟨(by simp;omega),(rf (g:Int)),zo,(sMatCol (m:=m) (n:=N) (q:=A) (c:=L g) zo (hL g zo)),id,id,(λhg=>(rf (g:Int))),(λhg=>zo),id,id,(λhg=>(sContB (P:=g=k) (a:=(λi=>(L i:Int))) zo (λe=>by obtain⟨t,ht,h⟩:=h1;exact⟨t,by omega,by rw[e];show(L t:Int)=(L k:Int);rw[h]⟩) (λe i hi h=>h0 g zo i hi (by have h':(L i:Int)=(L g:Int):=h;omega)))),zs,λhc52=>have hgk:g=k:=(by simpa using hc52);⟨sWrap,rfl,rfl,(by rw[hgk]),rfl⟩,λhc52=>have hgk:g≠k:=(by simpa using hc52);⟨zo,(oldS (λi0=>.sl 3 (λi1=>.rat (colA A L i0 i1)) m) g),(newS (λi0=>.sl 3 (λi1=>.rat (colA A L i0 i1)) m) g),(wI (g:=g) zo),g+1,(rf m),(leS (λi0=>iN (L i0)) m),(rf 0),(rf 0),(rf m),(leS (λi0=>iN (L i0)) m),(rf (m:Int)),zo,(rf m),(leS (mE A N) m),(rf (N:Int)),(rf m),(leS (λi0=>.rat (Bv i0)) m),(rf N),(leS (λi0=>.rat (Cs i0)) N),(rf (n:Int)),(rf m),(leS (λi0=>iZ (Lf i0)) m),zo,(leS (λi0=>.sl 3 (λi1=>.rat (colA A L i0 i1)) m) (g+1)),zo,zo⟩⟩⟩
theorem sTNewS{s:TabS}(hb:s.b=⟨trM (colA s.A s.L),colA s.A s.L,noE,0⟩)(h:TOK s):CallOK Tryz.prog 14 [stT s,.sl 1 (λi0=>iN (s.L i0)) s.m] (c2 (.own 0 0) (.ex (.nilIface))) (tabI s):=by
 obtain⟨A,Bv,Cs,Lf,n,N,m,L,b⟩:=s
 change b=⟨trM (colA A L),colA A L,noE,0⟩ at hb
 subst hb
 exact sTNew (Cs:=Cs) (Lf:=Lf) (n:=n) h.hm h.hL h.hd h.hK h.B3
open Go.RowKit
def tS (n m:Nat) (kd:Nat->Int) (q:Nat->Nat->Rat) (c b:Nat->Rat) (L:Nat->Nat):TabS:=⟨stA n kd q,b,stC n c,stL n kd,n,n+cntK kd m,m,L,trM (colA (stA n kd q) L),colA (stA n kd q) L,noE,0⟩
open Go.RowKit
theorem sMatColT{q:Nat->Nat->Rat}{m n:Nat}{c:Int}(hm:m<=68719476736):CallOK Tryz.prog 58 [.agg (c2 (.sl 1 (mE q n) m) (iN n)),.ex (.int .i64 c)] (.cn (.sl 3 (λr=>.rat (q r c.toNat)) (if 0<=c/\c<(n:Int) then m else 0)) (.cn (bX (decide (0<=c/\c<(n:Int)))) .nl)) []:=by
 by_cases h:0<=c/\c<(n:Int)
 ·rw[if_pos h,decide_eq_true h]
  obtain⟨k,rfl⟩:=Int.eq_ofNat_of_zero_le h.1
  exact sMatCol (n:=n) (c:=k) hm zo
 ·rw[if_neg h,decide_eq_false h]
  exact(sMatCol_no h).res λ_ _ _ v hv=>SV.le_ok _ _ v no2_T hv
section
variable {c:Nat->Int} {N g:Nat}
theorem colz_T(h:(bif !decide (0<=c g/\c g<(N:Int)) then true else decide (¬∀t,t<g->c t≠c g))=true):¬xJ c N g:=λ⟨h1,h2,h3⟩=>by
 rw[decide_eq_true ⟨h1,h2⟩,decide_eq_false λq:¬∀t,t<g->c t≠c g=>q h3] at h;cases h
theorem colz_F(h:(bif !decide (0<=c g/\c g<(N:Int)) then true else decide (¬∀t,t<g->c t≠c g))=false):xJ c N g:=by
 by_cases h1:0<=c g/\c g<(N:Int)
 ·by_cases h2:∀t,t<g->c t≠c g
  ·exact⟨h1.1,h1.2,h2⟩
  ·rw[decide_eq_true h1,decide_eq_true h2] at h;cases h
 ·rw[decide_eq_false h1] at h;cases h
theorem inz_ex(h:¬∀t,t<g->c t≠c g):∃k,k<g/\c k=c g:=Classical.byContradiction λe=>h λi hi q=>e ⟨i,hi,q⟩
def badB (c:Nat->Int) (N k:Nat):Nat->Bool
 | 0=>bif decide (c k<0) then true else decide ((N:Int)<=c k)
 | u+1=>bif badB c N k u then true else decide (c u=c k)
theorem badB_F:∀u,badB c N g u=false->(0<=c g/\c g<(N:Int))/\∀t,t<u->c t≠c g
 | 0,h=>⟨good_F h,λt ht=>absurd ht (Nat.not_lt_zero t)⟩
 | u+1,h=>by
  have h0:(bif badB c N g u then true else decide (c u=c g))=false:=h
  cases e:badB c N g u
  ·rw[e] at h0
   obtain⟨a,b⟩:=badB_F u e
   refine⟨a,λt ht=>?_⟩
   rcases Nat.lt_succ_iff_lt_or_eq.1 ht with q | q
   ·exact b t q
   ·rw[q];exact of_decide_eq_false h0
  ·rw[e] at h0;cases h0
theorem badB_T:∀u,u<=g->badB c N g u=true->¬xJ c N g
 | 0,_,h=>good_T h
 | u+1,hu,h=>λhg=>by
  have h0:(bif badB c N g u then true else decide (c u=c g))=true:=h
  cases e:badB c N g u
  ·rw[e] at h0;exact hg.2.2 u zo (of_decide_eq_true h0)
  ·exact badB_T u zo e hg
theorem badB_good(h:xJ c N g):badB c N g g=false:=by
 cases e:badB c N g g
 ·rfl
 ·exact absurd h (badB_T g (Nat.le_refl g) e)
theorem badB_bad(h:badB c N g g=false):xJ c N g:=by
 obtain⟨a,b⟩:=badB_F g h
 exact⟨a.1,a.2,b⟩
end
@[simp] theorem sBas_sBas:(sBas.toList==sBas.toList)=true:=beq_self_eq_true _
@[simp] theorem sBas_sNo:(sBas.toList==sNo.toList)=false:=by
 have h1:sNo.toList=[]:=by simp[ByteArray.toList,ByteArray.toList.loop,ByteArray.size]
 have h2:sBas.toList.length≠0:=by simp[ByteArray.toList,ByteArray.toList.loop,ByteArray.size]
 rw[h1]
 cases h:sBas.toList with
 | nil=>rw[h] at h2;exact absurd rfl h2
 | cons a l=>rfl
theorem sToldFB{n k:Int}:CallOK Tryz.prog 16 [.ifc 158 (.ep (.agg (c3 (.ex (.string sBas)) (.ex (.int .i64 k)) (.ex (.iface 57 (.int .i64 n)))))),.ex (.int .i64 n),.ex (.string sBas),.ex (.int .i64 k)] (bX true) []:=by
 exact kP (ch:=[.reg 1 [(1,.callS (c3 (.ex (.string sBas)) (.ex (.int .i64 k)) (bX true)) [])],.reg 2 [(1,.callS (.ex (.int .i64 n)) []),(9,.skip)],.dec 27 false,.reg 4 [(10,.sure .no),(11,.skip)]]) Tryz.func16 ((CallOK Tryz.prog 66 [.ifc 158 (.ep (.agg (c3 (.ex (.string sBas)) (.ex (.int .i64 k)) (.ex (.iface 57 (.int .i64 n))))))] (c3 (.ex (.string sBas)) (.ex (.int .i64 k)) (bX true)) [])/\(CallOK Tryz.prog 67 [.ifc 158 (.ep (.agg (c3 (.ex (.string sBas)) (.ex (.int .i64 k)) (.ex (.iface 57 (.int .i64 n))))))] (.ex (.int .i64 n)) [])/\_/\_/\_/\((!decide ((n:Int)=n))=false)/\(((!decide ((n:Int)=n))==false)=true)/\((!(true==(!((sBas).toList==(sNo).toList))))=false)/\_/\_/\_/\_/\_/\_/\(((!true)==false)=true->((sBas).toList==(sBas).toList)=true)/\(((!true)==false)=true->((((!true)==false)&&true)&&(((sBas).toList==(sBas).toList)==true))=true)/\((!true)=false)/\(((!true)==false)=true)/\(((decide ((k:Int)=k):Bool)=true)))
  ⟨sPlaceF,sNumberF,(idB ((!decide ((n:Int)=n))==false)),(idB ((!decide ((n:Int)=n))==false)),(idB ((!decide ((n:Int)=n))==false)),(by first | (simp;done) | (simp at hg)),(by first | (simp;done) | (simp at hg)),(by first | (simp;done) | (simp at hg)),(idB ((!true)==false)),(idB ((!true)==false)),(idB ((!true)==false)),(idB ((((!true)==false)&&true)&&(((sBas).toList==(sBas).toList)==true))),(idB ((((!true)==false)&&true)&&(((sBas).toList==(sBas).toList)==true))),(idB ((!true)==false)),(λhg=>(by first | (simp;done) | (simp at hg))),(λhg=>(by first | (simp;done) | (simp at hg))),(by first | (simp;done) | (simp at hg)),(by first | (simp;done) | (simp at hg)),(by first | (simp;done) | (simp at hg))⟩
theorem sTNew_lenZ{A:Nat->Nat->Rat}{Bv Cs:Nat->Rat}{Lf:Nat->Int}{n N m:Nat}{c:Nat->Int}{l:Nat}(hl:l≠m):CallOK Tryz.prog 14 [.agg (.cn (.agg (c2 (.sl 1 (mE A N) m) (iN N))) (.cn (vE Bv m) (c3 (vE Cs N) (iN n) (.sl 1 (λi0=>iZ (Lf i0)) m)))),.sl 1 (λi0=>iZ (c i0)) l] (c2 (.ex (.pointer none)) (.ex (.iface 57 (.int .i64 170)))) []:=by
 exact kP (ch:=[.reg 1 [(4,.callS (iN m) []),(12,.callS (iN m) [])],.dec 28 true]) Tryz.func14 ((∀j0,j0<m->(∀j1,j1<N->True))/\(∀j0,j0<m->True)/\(∀j0,j0<N->True)/\(∀j0,j0<m->True)/\(∀j0,j0<l->True)/\_/\_/\_/\_/\_/\(((!decide ((l:Int)=(m:Int)))==false)=true->_)/\_/\_/\((!(!decide ((l:Int)=(m:Int))))=true->((!decide ((l:Int)=(m:Int)))==false)=true)/\((bif (!decide ((l:Int)=(m:Int))) then true else(!decide ((m:Int)=(m:Int))))=true)/\(((.pointer none:Value)=.pointer none)/\((.iface 57 (.int .i64 170):Value)=.iface 57 (.int .i64 170))))
  ⟨(λ_ _=>(λ_ _=>trivial)),(λ_ _=>trivial),(λ_ _=>trivial),(λ_ _=>trivial),(λ_ _=>trivial),xX (m:=m) (n:=N) (q:=A),(idB ((!decide ((l:Int)=(m:Int)))==false)),(idB ((!decide ((l:Int)=(m:Int)))==false)),(idB ((!decide ((l:Int)=(m:Int)))==false)),(idB ((!decide ((l:Int)=(m:Int)))==false)),(λhg=>xX (m:=m) (n:=N) (q:=A)),(idB ((!decide ((l:Int)=(m:Int)))==false)),(idB ((!decide ((l:Int)=(m:Int)))==false)),zs,(by simp;omega),rfl,rfl⟩
theorem sTNew_colZ{A:Nat->Nat->Rat}{Bv Cs:Nat->Rat}{Lf:Nat->Int}{n N m:Nat}{c:Nat->Int}{k:Nat}(hm:m<=64)(hk:k<m)(h0:∀i,i<k->xJ c N i)(h1:¬xJ c N k):CallOK Tryz.prog 14 [.agg (.cn (.agg (c2 (.sl 1 (mE A N) m) (iN N))) (.cn (vE Bv m) (c3 (vE Cs N) (iN n) (.sl 1 (λi0=>iZ (Lf i0)) m)))),.sl 1 (λi0=>iZ (c i0)) m] (c2 (.ex (.pointer none)) (.ifc 158 (.ep (.agg (c3 (.ex (.string sCol)) (iN k) (.ex (.iface 57 (.int .i64 170)))))))) []:=by
 exact kP (ch:=[.reg 1 [(4,.callS (iN m) []),(12,.callS (iN m) [])],.dec 28 false,.loop 5 (Nat) (λg=>g<=k) (λg=>m-g) (λg=>⟨[(1,.sl 1 (λi0=>iZ (c i0)) m),(2,.own 0 0),(6,.own 1 0),(30,.sl 1 (λi0=>iZ (c i0)) m),(31,iN m),(32,iN g)],[(0,.one (.var 43 (.agg (.cn (.agg (c2 (.sl 1 (mE A N) m) (iN N))) (.cn (vE Bv m) (c3 (vE Cs N) (iN n) (.sl 1 (λi0=>iZ (Lf i0)) m))))))),(1,.one (.row 41 1 (λi0=>.sl 3 (λi1=>.rat (colA A (λj=>(c j).toNat) i0 i1)) m) g))],2⟩) [(0,.id 0),(1,.nil)] (λ_=>[(0,.id 0),(1,.id 2)]) (λg=>[.dec 33 true,.reg 6 [(1,.k g)],.reg 7 [(3,.callS (c2 (.sl 3 (λi0=>.rat (A i0 ((c g).toNat))) (if 0<=c g/\c g<(N:Int) then m else 0)) (bX (decide (0<=c g/\c g<(N:Int))))) [])],.reg 8 [(5,.kk 0 g),(7,.callS (bX (decide (¬∀t,t<g->c t≠c g))) [])],.reg 9 [(2,.callS (.ifc 158 (.ep (.agg (c3 (.ex (.string sCol)) (iN g) (.ex (.iface 57 (.int .i64 170))))))) [])],.reg 10 [(3,.row 0 (λi0=>.sl 3 (λi1=>.rat (colA A (λj=>(c j).toNat) i0 i1)) m))],.reg 11 [(0,.z ((g+1:Nat):Int))]])]) Tryz.func14 (let y0:=((!decide ((m:Int)=(m:Int)))==false);(∀j0,j0<m->(∀j1,j1<N->True))/\(∀j0,j0<m->True)/\(∀j0,j0<N->True)/\(∀j0,j0<m->True)/\(∀j0,j0<m->True)/\_/\(y0=true->y0=true)/\(y0=true->y0=true)/\(y0=true->y0=true)/\(y0=true->y0=true)/\(y0=true->_)/\(y0=true->y0=true)/\(y0=true->y0=true)/\((!(!decide ((m:Int)=(m:Int))))=true->y0=true)/\((bif (!decide ((m:Int)=(m:Int))) then true else(!decide ((m:Int)=(m:Int))))=false)/\(((λX1 X2 X3 X4 X5 X6 X7 X8 X9 X10 X11 X12 X13 X14 X15 X16 X17:Prop=>∃g0:Nat,X1/\X2/\X3/\X4/\X5/\X6/\X7/\((0:Int)=(g0:Int))/\X8/\X9/\X10/\X11/\X12/\X13/\X14/\X15/\X16/\X17/\((g0:Nat)=0)/\(g0<=k)) _ _ _ _ _ _ _ _ _ _ _ _ _ _ _ _ _)/\∀g:Nat,(g<=k)->((decide ((g:Int)<(m:Int)))=true)/\_/\(g<m)/\_/\_/\_/\(((!(decide (0<=c g/\c g<(N:Int))))==false)=true->_)/\(((!(decide (0<=c g/\c g<(N:Int))))==false)=true->g<=m)/\_/\_/\(((!(decide (0<=c g/\c g<(N:Int))))==false)=true->CallOK Tryz.prog 59 [.sl 1 (λi0=>iZ (c i0)) g,iZ (c g)] (bX (decide (¬∀t,t<g->c t≠c g))) [])/\((!(!(decide (0<=c g/\c g<(N:Int)))))=true->((!(decide (0<=c g/\c g<(N:Int))))==false)=true)/\(((bif (!(decide (0<=c g/\c g<(N:Int)))) then true else(decide (¬∀t,t<g->c t≠c g)))=true->(CallOK Tryz.prog 60 [.ex (.iface 57 (.int .i64 170)),.ex (.string sCol),iN g] (.ifc 158 (.ep (.agg (c3 (.ex (.string sCol)) (iN g) (.ex (.iface 57 (.int .i64 170))))))) [])/\(((.pointer none:Value)=.pointer none)/\((.string sCol:Value)=.string sCol)/\((g:Int)=(k:Int))/\((.iface 57 (.int .i64 170):Value)=.iface 57 (.int .i64 170))))/\((bif (!(decide (0<=c g/\c g<(N:Int)))) then true else(decide (¬∀t,t<g->c t≠c g)))=false->(g+1<=68719476736)/\_/\(∀j0,j0<1->((if 0<=c g/\c g<(N:Int) then m else 0:Nat)=m)/\(∀j1,j1<(if 0<=c g/\c g<(N:Int) then m else 0)->((A j1 ((c g).toNat):Rat)=(colA A (λj=>(c j).toNat) (g+j0) j1))))/\_/\((λX1 X2 X3 X4 X5 X6 X7 X8 X9 X10 X11 X12 X13 X14 X15 X16 X17 X18:Prop=>∃g1:Nat,X1/\X2/\X3/\X4/\X5/\X6/\X7/\(((g+1:Nat):Int)=(g1:Int))/\X8/\X9/\X10/\X11/\X12/\X13/\X14/\X15/\X16/\X17/\((g+1:Nat)=g1)/\X18/\(g1<=k)/\(m-g1<m-g)) _ _ _ _ _ _ _ _ _ _ _ _ _ _ _ _ _ _)))))
  ⟨(λ_ _=>(λ_ _=>trivial)),(λ_ _=>trivial),(λ_ _=>trivial),(λ_ _=>trivial),(λ_ _=>trivial),xX (m:=m) (n:=N) (q:=A),id,id,id,id,(λhg=>xX (m:=m) (n:=N) (q:=A)),id,id,zs,zs,⟨0,(rf m),(leS (λi0=>iZ (c i0)) m),(rf 0),(rf 0),(rf m),(leS (λi0=>iZ (c i0)) m),(rf (m:Int)),zo,(rf m),(leS (mE A N) m),(rf (N:Int)),(rf m),(leS (λi0=>.rat (Bv i0)) m),(rf N),(leS (λi0=>.rat (Cs i0)) N),(rf (n:Int)),(rf m),(leS (λi0=>iZ (Lf i0)) m),zo,zo⟩,λg hg=>⟨(by simp;omega),(rf (g:Int)),zo,(sMatColT (q:=A) (m:=m) (n:=N) (c:=c g) zo),(idB ((!(decide (0<=c g/\c g<(N:Int))))==false)),(idB ((!(decide (0<=c g/\c g<(N:Int))))==false)),(λhg=>(rf (g:Int))),(λhg=>zo),(idB ((!(decide (0<=c g/\c g<(N:Int))))==false)),(idB ((!(decide (0<=c g/\c g<(N:Int))))==false)),(λhg=>(sContB (P:=¬∀t,t<g->c t≠c g) (a:=c) zo (λe=>inz_ex e) (λe=>Classical.not_not.1 e))),zs,λhc52=>have hb:=colz_T hc52;have hgk:g=k:=(by rcases Nat.lt_or_eq_of_le hg with q | q;exact absurd (h0 g q) hb;exact q);⟨sWrap,rfl,rfl,(by rw[hgk]),rfl⟩,λhc52=>have hgd:=colz_F hc52;have hgk:g≠k:=(λe=>h1 (e▸hgd));have hgD:0<=c g/\c g<(N:Int):=⟨hgd.1,hgd.2.1⟩;⟨zo,(oldS (λi0=>.sl 3 (λi1=>.rat (colA A (λj=>(c j).toNat) i0 i1)) m) g),(λj0 hj0=>by obtain rfl:j0=0:=zo;exact⟨if_pos hgD,λ_ _=>rfl⟩),(wI (g:=g) zo),g+1,(rf m),(leS (λi0=>iZ (c i0)) m),(rf 0),(rf 0),(rf m),(leS (λi0=>iZ (c i0)) m),(rf (m:Int)),zo,(rf m),(leS (mE A N) m),(rf (N:Int)),(rf m),(leS (λi0=>.rat (Bv i0)) m),(rf N),(leS (λi0=>.rat (Cs i0)) N),(rf (n:Int)),(rf m),(leS (λi0=>iZ (Lf i0)) m),zo,(leS (λi0=>.sl 3 (λi1=>.rat (colA A (λj=>(c j).toNat) i0 i1)) m) (g+1)),zo,zo⟩⟩⟩
def qC1 (cs:Nat->Int) (j:Nat):Rat:=((oC cs j:Int):Rat)
def qB1 (R:Nat->Nat->Int) (i:Nat):Rat:=((oB R i:Int):Rat)
def nS (n m:Nat) (cs:Nat->Int) (R:Nat->Nat->Int) (L:Nat->Nat):TabS:=tS n m (oK R) (cZ (oA R)) (qC1 cs) (qB1 R) L
abbrev zT (n:Nat) (R:Nat->Nat->Int):Nat->Nat->Int:=zA n (oK R) (oA R)
section
variable {n m:Nat} {cs:Nat->Int} {R:Nat->Nat->Int} {L:Nat->Nat}
theorem nS_A(i j:Nat):(nS n m cs R L).A i j=((zT n R i j:Int):Rat):=(zA_cast i j).symm
theorem nS_det:det m (trM (colA (nS n m cs R L).A (nS n m cs R L).L))=((detZ m (λi j=>zT n R i (L j)):Int):Rat):=by
 rw[detZ_cast];exact det_congr m λi _ j _=>nS_A i (L j)
theorem int9_ht{z:Int}(h:-9<=z/\z<=9):htq ((z:Int):Rat)<=2:=by
 have h1:∀k:Nat,k<19->htq ((((k:Int)-9:Int)):Rat)<=2:=by decide+kernel
 have h2:=h1 (z+9).toNat zo
 rwa [show(((z+9).toNat:Nat):Int)-9=z by omega] at h2
theorem zT_in(i j:Nat):-9<=zT n R i j/\zT n R i j<=9:=by
 unfold zT zA
 split
 ·exact tz_in _
 ·split
  ·unfold stS;split<;>omega
  ·omega
theorem zT_9{N:Nat}:Nine m N (zT n R):=λi _ j _=>zT_in i j
theorem nS_fr:HtB m m 3 (trM (colA (nS n m cs R L).A (nS n m cs R L).L)):=λi _ j _=>by
 show htq ((nS n m cs R L).A i (L j))+1<=3
 rw[nS_A];have:=int9_ht (zT_in (n:=n) (R:=R) i (L j));omega
theorem nS_lu:luOK m (trM (colA (nS n m cs R L).A (nS n m cs R L).L)) m↔detZ m (λi j=>zT n R i (L j))≠0:=by
 rw[luOK_iff nS_fr,←kC,nS_det]
 constructor
 ·intro h e;exact h (by rw[e];decide+kernel)
 ·intro h e;exact h (by exact_mod_cast e)
theorem nS_ok(hn:n<=3)(hm:m<=3)(hL:∀k,k<m->L k<n+cntK (oK R) m)(hd:∀k,k<m->∀i,i<k->L i≠L k)(hz:detZ m (λi j=>zT n R i (L j))≠0):TOK (nS n m cs R L):=by
 have hc:=jQ (kd:=oK R) m
 refine⟨show m<=5 by omega,show n+cntK (oK R) m<=24 by omega,?_,hL,hd,λk hk r hr=>rfl,λr hr c hc'=>?_,λr hr=>int9_ht (tz_in _)⟩
 ·exact BOK.fresh (C:=colA (nS n m cs R L).A L) ((nS_lu (cs:=cs)).2 hz) (nS_fr (cs:=cs))
 ·rw[nS_A];exact int9_ht (zT_in r c)
end
section
variable {c:Nat->Int} {N m:Nat}
theorem good_dis(h:∀i,i<m->xJ c N i):∀k,k<m->∀i,i<k->(c i).toNat≠(c k).toNat:=λk hk i hi e=>by
 have h1:=(h i zo).1
 have h2:=(h k hk).1
 exact(h k hk).2.2 i hi zo
end
open Go.RowKit
def aTc (i:Nat):Rat:=((litI [1,1] i:Int):Rat)
def aTb (i:Nat):Rat:=((litI [4,9] i:Int):Rat)
def aTk (i:Nat):Int:=litI [2,1] i
def aTq (i j:Nat):Rat:=((litLL [[1,2],[3,1]] i j:Int):Rat)
def aTL (i:Nat):Nat:=i+2
def aT22 (_:Nat):Nat:=2
def aT13 (i:Nat):Rat:=((litI [1,3] i:Int):Rat)
def aT:TabS:=⟨stA 2 aTk aTq,aTb,stC 2 aTc,stL 2 aTk,2,2+cntK aTk 2,2,aTL,trM (colA (stA 2 aTk aTq) aTL),colA (stA 2 aTk aTq) aTL,noE,0⟩
theorem aT_ok:TOK aT where
 hm:=by decide
 hN:=by decide
 hK:=.fresh (by unfold luOK;decide+kernel) (by unfold HtB;decide+kernel)
 hL:=by decide
 hd:=by decide
 hC:=λ_ _ _ _=>rfl
 hA:=by decide+kernel
 hB:=by decide+kernel
theorem sAwake17:CallOK Tryz.prog 9 [] (bX true) []:=by
 exact kP (ch:=[.reg 1 [(0,.row 0 (λi0=>iZ (litI [1,1] i0))),(1,.callS (.sl 3 (λi0=>.rat (((litI [1,1]) i0:Int):Rat)) 2) []),(2,.row 0 (λi0=>iZ (litI [1,2] i0))),(3,.callS (.sl 3 (λi0=>.rat (((litI [1,2]) i0:Int):Rat)) 2) []),(4,.callS (.rat ((4:Int):Rat)) []),(6,.row 0 (λi0=>iZ (litI [3,1] i0))),(7,.callS (.sl 3 (λi0=>.rat (((litI [3,1]) i0:Int):Rat)) 2) []),(8,.callS (.rat ((9:Int):Rat)) []),(10,.row 0 (λi0=>.agg (c3 (.sl 3 (λi1=>.rat (aTq i0 i1)) 2) (iZ (aTk i0)) (.rat (aTb i0)))))],.reg 2 [(1,.call [.agg (c2 (vE aTc 2) (.sl 5 (λi0=>.agg (c3 (.sl 3 (λi1=>.rat (aTq i0 i1)) 2) (iZ (aTk i0)) (.rat (aTb i0)))) 2))] (c2 (.agg (.cn (.agg (c2 (.sl 1 (mE (stA 2 aTk aTq) (2+cntK aTk 2)) 2) (iN (2+cntK aTk 2)))) (.cn (vE aTb 2) (c3 (vE (stC 2 aTc) (2+cntK aTk 2)) (iN 2) (.sl 1 (λi0=>iZ ((stL 2 aTk) i0)) 2))))) (.ex (.nilIface))) [])],.reg 3 [(1,.row 0 (λi0=>iN (aTL i0))),(2,.call [stT aT,.sl 1 (λi0=>iN (aT.L i0)) aT.m] (c2 (.own 0 0) (.ex (.nilIface))) (tabI aT))],.reg 4 [(5,.skip)],.dec 43 false,.reg 6 [(1,.callM [2,3,4,5,6] (tabI aT) [.own 0 0] (vE aT.X aT.m) (tabO aT))],.reg 7 [(3,.callM [2,7,4,8,9] (tabI aT) [.own 0 0,.sl 3 (λi0=>.rat (aT.Cs i0)) aT.N] (c2 (.sl 3 (λi0=>.rat (aT.Cs i0+((-1:Int):Rat)*dotQ (aT.y (cLq aT.Cs aT.L)) (λr=>aT.A r i0) aT.m)) aT.N) (bX true)) (tabO aT))],.reg 8 [(1,.callM [2,11,4,12,13] (tabI aT) [.own 0 0,iN 0] (c2 (.sl 3 (λi0=>.rat (dotQ (aT.y (uQ 0)) (λr=>aT.A r i0) aT.m)) aT.N) (bX true)) (tabO aT))],.reg 9 [(1,.row 0 (λi0=>iZ (litI [1,3] i0))),(2,.callS (.sl 3 (λi0=>.rat (((litI [1,3]) i0:Int):Rat)) 2) []),(3,.callM [2,15,4,16,17] (tabI aT) [.own 0 0,.sl 3 (λi0=>.rat (aT13 i0)) 2] (iZ ((lvS aT.X aT13 aT.L (min 2 aT.m)).1)) (tabO aT))],.reg 10 [(1,.callM [2,19,4,20,21] (tabI aT) [.own 0 0,iN 0,iN 1] (.ex (.nilIface)) [tbV (aT.put 0 1) 5 2,.dead,tbB (aT.put 0 1) 6 7,.dead,.dead,tbL (aT.put 0 1),.one (.row 41 1 (mE (aT.put 0 1).b.C ((aT.put 0 1).m)) ((aT.put 0 1).m)),tbE (aT.put 0 1)])],.reg 11 [(1,.row 0 (λi0=>iN (aT22 i0))),(2,.call [stT aT,.sl 1 (λi0=>iN (aT22 i0)) aT.m] (c2 (.ex (.pointer none)) (.ifc 158 (.ep (.agg (c3 (.ex (.string sCol)) (iN 1) (.ex (.iface 57 (.int .i64 170)))))))) [])],.reg 12 [(1,.row 0 (λi0=>iZ (litI [-4,9] i0))),(2,.callS (.sl 3 (λi0=>.rat (((litI [-4,9]) i0:Int):Rat)) 2) []),(3,.callS (bX (decide (aT.m=2/\∀j:Nat,j<aT.m->(aT.X j:Rat)=(((litI [-4,9]) j:Int):Rat)))) []),(6,.sure .no),(9,.row 0 (λi0=>iZ (litI [1,1,0,0] i0))),(10,.callS (.sl 3 (λi0=>.rat (((litI [1,1,0,0]) i0:Int):Rat)) 4) []),(11,.callS (bX (decide (aT.N=4/\∀j:Nat,j<aT.N->(aT.Cs j+((-1:Int):Rat)*dotQ (aT.y (cLq aT.Cs aT.L)) (λr=>aT.A r j) aT.m:Rat)=(((litI [1,1,0,0]) j:Int):Rat)))) []),(12,.sure .no),(15,.sure .no),(18,.row 0 (λi0=>iZ (litI [-1,-2,1,0] i0))),(19,.callS (.sl 3 (λi0=>.rat (((litI [-1,-2,1,0]) i0:Int):Rat)) 4) []),(20,.callS (bX (decide (aT.N=4/\∀j:Nat,j<aT.N->(dotQ (aT.y (uQ 0)) (λr=>aT.A r j) aT.m:Rat)=(((litI [-1,-2,1,0]) j:Int):Rat)))) []),(21,.sure .no),(25,.sure .no),(29,.sure .no),(32,.callM [2,23,4,24,25] [tbV (aT.put 0 1) 1 2,tbL (aT.put 0 1),tbB (aT.put 0 1) 3 4,.one (.row 41 1 (mE (aT.put 0 1).b.C ((aT.put 0 1).m)) ((aT.put 0 1).m)),tbE (aT.put 0 1)] [.own 0 0] (vE ((aT.put 0 1).X) ((aT.put 0 1).m)) [tbV (aT.put 0 1) 5 2,.dead,tbB (aT.put 0 1) 6 7,.dead,.dead,tbL (aT.put 0 1),.one (.row 41 1 (mE (aT.put 0 1).b.C ((aT.put 0 1).m)) ((aT.put 0 1).m)),tbE (aT.put 0 1)]),(33,.row 0 (λi0=>iZ (litI [2,7] i0))),(34,.callS (.sl 3 (λi0=>.rat (((litI [2,7]) i0:Int):Rat)) 2) []),(35,.callS (bX (decide (((aT.put 0 1).m)=2/\∀j:Nat,j<((aT.put 0 1).m)->(((aT.put 0 1).X) j:Rat)=(((litI [2,7]) j:Int):Rat)))) []),(36,.sure .no),(39,.callS (bX true) []),(40,.sure .no)]]) Tryz.func9 (let y0:=(decide (((aT.put 0 1).m)=2/\∀j:Nat,j<((aT.put 0 1).m)->(((aT.put 0 1).X) j:Rat)=(((litI [2,7]) j:Int):Rat)));let y1:=(true==true);let y2:=(decide (aT.N=4/\∀j:Nat,j<aT.N->(dotQ (aT.y (uQ 0)) (λr=>aT.A r j) aT.m:Rat)=(((litI [-1,-2,1,0]) j:Int):Rat)));let y3:=(decide (aT.N=4/\∀j:Nat,j<aT.N->(aT.Cs j+((-1:Int):Rat)*dotQ (aT.y (cLq aT.Cs aT.L)) (λr=>aT.A r j) aT.m:Rat)=(((litI [1,1,0,0]) j:Int):Rat)));let y4:=(decide (((lvS aT.X aT13 aT.L (min 2 aT.m)).1:Int)=0));let y5:=(decide (aT.m=2/\∀j:Nat,j<aT.m->(aT.X j:Rat)=(((litI [-4,9]) j:Int):Rat)));let y6:=((false&&true)==false);((1:Int)=(litI [1,1] 0))/\((1:Int)=(litI [1,1] 1))/\_/\((1:Int)=(litI [1,2] 0))/\((2:Int)=(litI [1,2] 1))/\_/\_/\((3:Int)=(litI [3,1] 0))/\((1:Int)=(litI [3,1] 1))/\_/\_/\_/\(∀j0,j0<2->(((((litI [1,2]) j0:Int):Rat):Rat)=(aTq 0 j0)))/\((2:Int)=(aTk 0))/\((((4:Int):Rat):Rat)=(aTb 0))/\_/\(∀j0,j0<2->(((((litI [3,1]) j0:Int):Rat):Rat)=(aTq 1 j0)))/\((1:Int)=(aTk 1))/\((((9:Int):Rat):Rat)=(aTb 1))/\(CallOK Tryz.prog 12 [.agg (c2 (vE aTc 2) (.sl 5 (λi0=>.agg (c3 (.sl 3 (λi1=>.rat (aTq i0 i1)) 2) (iZ (aTk i0)) (.rat (aTb i0)))) 2))] (c2 (.agg (.cn (.agg (c2 (.sl 1 (mE (stA 2 aTk aTq) (2+cntK aTk 2)) 2) (iN (2+cntK aTk 2)))) (.cn (vE aTb 2) (c3 (vE (stC 2 aTc) (2+cntK aTk 2)) (iN 2) (.sl 1 (λi0=>iZ ((stL 2 aTk) i0)) 2))))) (.ex (.nilIface))) [])/\_/\(∀j0,j0<2->(((((litI [1,1]) j0:Int):Rat):Rat)=(aTc j0)))/\_/\_/\((2:Int)=(aTL 0:Int))/\((3:Int)=(aTL 1:Int))/\(CallOK Tryz.prog 14 [stT aT,.sl 1 (λi0=>iN (aT.L i0)) aT.m] (c2 (.own 0 0) (.ex (.nilIface))) (tabI aT))/\((2:Nat)=aT.m)/\(∀j0,j0<2->((2+cntK aTk 2:Nat)=aT.N)/\(∀j1,j1<(2+cntK aTk 2)->(((stA 2 aTk aTq) j0 j1:Rat)=(aT.A j0 j1))))/\(((2+cntK aTk 2:Nat):Int)=((aT.N:Nat):Int))/\((2:Nat)=aT.m)/\(∀j0,j0<2->((aTb j0:Rat)=(aT.Bv j0)))/\((2+cntK aTk 2:Nat)=aT.N)/\(∀j0,j0<(2+cntK aTk 2)->(((stC 2 aTc) j0:Rat)=(aT.Cs j0)))/\(((2:Nat):Int)=((aT.n:Nat):Int))/\((2:Nat)=aT.m)/\(∀j0,j0<2->(((stL 2 aTk) j0:Int)=(aT.Lf j0)))/\((2:Nat)=aT.m)/\(∀j0,j0<2->(((aTL j0:Nat):Int)=(aT.L j0:Int)))/\(y6=true->y6=true)/\((false&&true)=false)/\(y6=true)/\((!true)=false)/\_/\_/\_/\_/\_/\_/\_/\_/\_/\_/\_/\_/\_/\_/\_/\_/\((2+cntK aTk 2:Nat)=aT.N)/\(∀j0,j0<(2+cntK aTk 2)->(((stC 2 aTc) j0:Rat)=(aT.Cs j0)))/\_/\_/\_/\_/\_/\_/\_/\_/\((0:Int)=((0:Nat):Int))/\((1:Int)=(litI [1,3] 0))/\((3:Int)=(litI [1,3] 1))/\_/\_/\_/\_/\_/\_/\_/\_/\_/\_/\(∀j0,j0<2->(((((litI [1,3]) j0:Int):Rat):Rat)=(aT13 j0)))/\_/\_/\_/\_/\_/\_/\_/\_/\((0:Int)=((0:Nat):Int))/\((1:Int)=((1:Nat):Int))/\((2:Int)=(aT22 0:Int))/\((2:Int)=(aT22 1:Int))/\(CallOK Tryz.prog 14 [stT aT,.sl 1 (λi0=>iN (aT22 i0)) aT.m] (c2 (.ex (.pointer none)) (.ifc 158 (.ep (.agg (c3 (.ex (.string sCol)) (iN 1) (.ex (.iface 57 (.int .i64 170)))))))) [])/\((2:Nat)=aT.m)/\(∀j0,j0<2->((2+cntK aTk 2:Nat)=aT.N)/\(∀j1,j1<(2+cntK aTk 2)->(((stA 2 aTk aTq) j0 j1:Rat)=(aT.A j0 j1))))/\(((2+cntK aTk 2:Nat):Int)=((aT.N:Nat):Int))/\((2:Nat)=aT.m)/\(∀j0,j0<2->((aTb j0:Rat)=(aT.Bv j0)))/\((2+cntK aTk 2:Nat)=aT.N)/\(∀j0,j0<(2+cntK aTk 2)->(((stC 2 aTc) j0:Rat)=(aT.Cs j0)))/\(((2:Nat):Int)=((aT.n:Nat):Int))/\((2:Nat)=aT.m)/\(∀j0,j0<2->(((stL 2 aTk) j0:Int)=(aT.Lf j0)))/\((2:Nat)=aT.m)/\_/\((-4:Int)=(litI [-4,9] 0))/\((9:Int)=(litI [-4,9] 1))/\_/\_/\(y5=true)/\((y5==true)=true)/\(y1=true->(1:Int)=(litI [1,1,0,0] 0))/\(y1=true->(1:Int)=(litI [1,1,0,0] 1))/\(y1=true->(0:Int)=(litI [1,1,0,0] 2))/\(y1=true->(0:Int)=(litI [1,1,0,0] 3))/\(y1=true->y1=true)/\(y1=true->_)/\(y1=true->y1=true)/\(y1=true->y1=true)/\(y1=true->_)/\(true=true)/\(y1=true)/\(y3=true)/\((y3==true)=true)/\(y1=true->(-1:Int)=(litI [-1,-2,1,0] 0))/\(y1=true->(-2:Int)=(litI [-1,-2,1,0] 1))/\(y1=true->(1:Int)=(litI [-1,-2,1,0] 2))/\(y1=true->(0:Int)=(litI [-1,-2,1,0] 3))/\(y1=true->y1=true)/\(y1=true->_)/\(y1=true->y1=true)/\(y1=true->y1=true)/\(y1=true->_)/\(true=true)/\(y1=true)/\((y2==true)=true->(y2==true)=true)/\(y2=true)/\((y2==true)=true)/\((y4==true)=true->(y4==true)=true)/\(y4=true)/\((y4==true)=true)/\(y1=true)/\(y1=true->y1=true)/\_/\_/\_/\_/\_/\_/\_/\_/\(y1=true->(2:Int)=(litI [2,7] 0))/\(y1=true->(7:Int)=(litI [2,7] 1))/\(y1=true->y1=true)/\(y1=true->_)/\(y1=true->y1=true)/\(y1=true->y1=true)/\(y1=true->_)/\(true=true)/\(y1=true)/\((y0==true)=true->(y0==true)=true)/\((y0==true)=true->CallOK Tryz.prog 16 [.ifc 158 (.ep (.agg (c3 (.ex (.string sCol)) (iN 1) (.ex (.iface 57 (.int .i64 170)))))),.ex (.int .i64 170),.ex (.string sCol),.ex (.int .i64 1)] (bX true) [])/\(y0=true)/\((y0==true)=true)/\(_))
  ⟨rfl,rfl,(sVecOf (n:=2) (a:=(litI [1,1])) zd (by decide+kernel)).frzV,rfl,rfl,(sVecOf (n:=2) (a:=(litI [1,2])) zd (by decide+kernel)).frzV,uG (x:=4) zo zo,rfl,rfl,(sVecOf (n:=2) (a:=(litI [3,1])) zd (by decide+kernel)).frzV,uG (x:=9) zo zo,(rf 2),(λj0 hj0=>rfl),rfl,rfl,(rf 2),(λj0 hj0=>rfl),rfl,rfl,(sStandard (c:=aTc) (q:=aTq) (kd:=aTk) (b:=aTb) (n:=2) (m:=2) zd zd zd),(rf 2),(λj0 hj0=>rfl),(rf 2),(leS (λi0=>.agg (c3 (.sl 3 (λi1=>.rat (aTq i0 i1)) 2) (iZ (aTk i0)) (.rat (aTb i0)))) 2),rfl,rfl,(sTNewS (s:=aT) rfl aT_ok),rfl,(λj0 hj0=>⟨rfl,(λj1 hj1=>rfl)⟩),rfl,rfl,(λj0 hj0=>rfl),rfl,(λj0 hj0=>rfl),rfl,rfl,(λj0 hj0=>rfl),rfl,(λj0 hj0=>rfl),id,(by decide+kernel),(by decide+kernel),rfl,(sTValues (s:=aT) aT_ok),(rf (tbV aT 3 4:Hl)),(rf (tbL aT:Hl)),(rf (tbB aT 5 6:Hl)),(rf (tbC aT:Hl)),(rf (tbE aT:Hl)),(rf 2),(rf 0),(sTPrices (s:=aT) (c:=aT.Cs) aT_ok (by decide+kernel)),(rf (tbV aT 7 4:Hl)),(rf (tbL aT:Hl)),(rf (tbB aT 8 9:Hl)),(rf (tbC aT:Hl)),(rf (tbE aT:Hl)),(rf 2),(rf 0),rfl,(λj0 hj0=>rfl),(sTLine (s:=aT) (r:=0) aT_ok zd),(rf (tbV aT 11 4:Hl)),(rf (tbL aT:Hl)),(rf (tbB aT 12 13:Hl)),(rf (tbC aT:Hl)),(rf (tbE aT:Hl)),(rf 2),(rf 0),rfl,rfl,rfl,(sVecOf (n:=2) (a:=(litI [1,3])) zd (by decide+kernel)).frzV,(sTLeave (s:=aT) (c:=aT13) (l:=2) aT_ok zd (by decide+kernel)),(rf (tbV aT 15 4:Hl)),(rf (tbL aT:Hl)),(rf (tbB aT 16 17:Hl)),(rf (tbC aT:Hl)),(rf (tbE aT:Hl)),(rf 2),(rf 0),(rf 2),(λj0 hj0=>rfl),(sTSwap (s:=aT) (k:=0) (j:=1) aT_ok zd zd zd (by decide+kernel)),(rf (tbV aT 19 4:Hl)),(rf (tbL aT:Hl)),(rf (tbB aT 20 21:Hl)),(rf (tbC aT:Hl)),(rf (tbE aT:Hl)),(rf 2),(rf 0),rfl,rfl,rfl,rfl,(sTNew_col (A:=aT.A) (Bv:=aT.Bv) (Cs:=aT.Cs) (Lf:=aT.Lf) (n:=aT.n) (N:=aT.N) (m:=aT.m) (L:=aT22) (k:=1) zd zd zd zd ⟨0,by decide,rfl⟩),rfl,(λj0 hj0=>⟨rfl,(λj1 hj1=>rfl)⟩),rfl,rfl,(λj0 hj0=>rfl),rfl,(λj0 hj0=>rfl),rfl,rfl,(λj0 hj0=>rfl),rfl,(leS (λi0=>iN (aT22 i0)) 2),rfl,rfl,(sVecOf (n:=2) (a:=(litI [-4,9])) zd (by decide+kernel)).frzV,(sVecSame (n:=aT.m) (m:=2) (a:=aT.X) (b:=(λi=>(((litI [-4,9]) i:Int):Rat))) zd (by decide+kernel)),(by decide+kernel),(by decide+kernel),(λhg=>rfl),(λhg=>rfl),(λhg=>rfl),(λhg=>rfl),id,(λhg=>(sVecOf (n:=4) (a:=(litI [1,1,0,0])) zd (by decide+kernel)).frzV),id,id,(λhg=>(sVecSame (n:=aT.N) (m:=4) (a:=(λi=>aT.Cs i+((-1:Int):Rat)*dotQ (aT.y (cLq aT.Cs aT.L)) (λr=>aT.A r i) aT.m)) (b:=(λi=>(((litI [1,1,0,0]) i:Int):Rat))) zd (by decide+kernel))),(by decide+kernel),(by decide+kernel),(by decide+kernel),(by decide+kernel),(λhg=>rfl),(λhg=>rfl),(λhg=>rfl),(λhg=>rfl),id,(λhg=>(sVecOf (n:=4) (a:=(litI [-1,-2,1,0])) zd (by decide+kernel)).frzV),id,id,(λhg=>(sVecSame (n:=aT.N) (m:=4) (a:=(λi=>dotQ (aT.y (uQ 0)) (λr=>aT.A r i) aT.m)) (b:=(λi=>(((litI [-1,-2,1,0]) i:Int):Rat))) zd (by decide+kernel))),(by decide+kernel),(by decide+kernel),id,(by decide+kernel),(by decide+kernel),id,(by decide+kernel),(by decide+kernel),(by decide+kernel),id,(sTValues (s:=(aT.put 0 1)) (aT_ok.put zd zd (by decide+kernel))),(rf (tbV (aT.put 0 1) 23 4:Hl)),(rf (tbL (aT.put 0 1):Hl)),(rf (tbB (aT.put 0 1) 24 25:Hl)),(rf (.one (.row 41 1 (mE (aT.put 0 1).b.C ((aT.put 0 1).m)) ((aT.put 0 1).m)):Hl)),(rf (tbE (aT.put 0 1):Hl)),(rf 2),(rf 0),(λhg=>rfl),(λhg=>rfl),id,(λhg=>(sVecOf (n:=2) (a:=(litI [2,7])) zd (by decide+kernel)).frzV),id,id,(λhg=>(sVecSame (n:=(aT.put 0 1).m) (m:=2) (a:=((aT.put 0 1).X)) (b:=(λi=>(((litI [2,7]) i:Int):Rat))) zd (by decide+kernel))),(by decide+kernel),(by decide+kernel),id,(λhg=>sToldF),(by decide+kernel),(by decide+kernel),(rf (true:Bool))⟩
open Go.RowKit
theorem sTabNews_big{cz lr:Nat}{cs:Nat->Int}{R:Nat->Nat->Int}{c:Nat->Int}{l:Nat}(hl:5<l):CallOK Tryz.prog 3 [smS cz cs R lr,.sl 1 (λi0=>iZ (c i0)) l] (bX true) []:=by
 exact kP (ch:=[.reg 1 [(0,.callS (bX true) [])],.dec 14 false,.dec 17 true]) Tryz.func3 ((∀j0,j0<lr->True)/\(∀j0,j0<l->True)/\(CallOK Tryz.prog 9 [] (bX true) [])/\((!true)=false)/\((decide ((5:Int)<(l:Int)))=true)/\(_))
  ⟨(λ_ _=>trivial),(λ_ _=>trivial),sAwake17,rfl,(decide_eq_true zo),(rf (true:Bool))⟩
theorem sTabNews_len{cz lr n m:Nat}{cs:Nat->Int}{R:Nat->Nat->Int}{s:TabS}{c:Nat->Int}{l:Nat}(hn:cz%4=n)(hm:min lr 3=m)(hs:s=nS n m cs R (λj=>(c j).toNat))(hl5:l<=5)(hl:l≠m):CallOK Tryz.prog 3 [smS cz cs R lr,.sl 1 (λi0=>iZ (c i0)) l] (bX true) []:=by
 have hn3:n<=3:=by omega
 have hm3:m<=3:=by omega
 have hcm:=jQ (kd:=oK R) m
 have hsm:s.m=m:=by rw[hs];rfl
 have hsN:s.N=n+cntK (oK R) m:=by rw[hs];rfl
 exact kP (ch:=[.reg 1 [(0,.callS (bX true) [])],.dec 14 false,.dec 17 false,.reg 5 [(1,.callS (.agg (c2 (.sl 1 (λi0=>iZ ((oC cs) i0)) n) (.sl 3 (λi0=>.agg (c3 (.sl 1 (λi1=>iZ ((oA R) i0 i1)) n) (iZ (oK R i0)) (iZ (oB R i0)))) m))) []),(2,.call [.agg (c2 (.sl 1 (λi0=>iZ ((oC cs) i0)) n) (.sl 3 (λi0=>.agg (c3 (.sl 1 (λi1=>iZ ((oA R) i0 i1)) n) (iZ ((oK R) i0)) (iZ ((oB R) i0)))) m))] (s16 (zA n (oK R) (oA R)) (oB R) (zC n (oC cs)) n (n+cntK (oK R) m) m) [])],.reg 6 [(1,.callS (.agg (c2 (.sl 3 (λi0=>.rat ((oC cs i0:Int):Rat)) n) (.sl 5 (λi0=>.agg (c3 (.sl 3 (λi1=>.rat ((oA R i0 i1:Int):Rat)) n) (iZ (oK R i0)) (.rat ((oB R i0:Int):Rat)))) m))) []),(2,.call [.agg (c2 (vE (qC1 cs) n) (.sl 5 (λi0=>.agg (c3 (.sl 3 (λi1=>.rat ((cZ (oA R)) i0 i1)) n) (iZ ((oK R) i0)) (.rat ((qB1 R) i0)))) m))] (c2 (.agg (.cn (.agg (c2 (.sl 1 (mE (stA n (oK R) (cZ (oA R))) (n+cntK (oK R) m)) m) (iN (n+cntK (oK R) m)))) (.cn (vE (qB1 R) m) (c3 (vE (stC n (qC1 cs)) (n+cntK (oK R) m)) (iN n) (.sl 1 (λi0=>iZ ((stL n (oK R)) i0)) m))))) (.ex (.nilIface))) [])],.conv 7 [(0,.id 0),(1,.id 1),(2,.id 2)] ⟨[(1,.sl 1 (λi0=>iZ (c i0)) l),(2,.own 0 0),(5,.own 1 0),(6,.own 2 0)],[(0,.one (.var 26 (smS cz cs R lr))),(1,.one (.var 31 (s16 (zA n (oK R) (oA R)) (oB R) (zC n (oC cs)) n (n+cntK (oK R) m) m))),(2,.one (.var 43 (stT s)))],3⟩,.reg 7 [(2,.callS (c2 (.ex (.pointer none)) (.ex (.iface 57 (.int .i64 170)))) [])],.reg 8 [(2,.callS (bX (decide (IsZ (zA n (oK R) (oA R)) m (n+cntK (oK R) m) c l))) [])],.dec 35 false,.dec 47 true,.reg 11 [(4,.callS (bX true) []),(5,.sure .no)]]) Tryz.func3 (let y0:=((true&&true)==true);let y1:=(decide (IsZ (zA n (oK R) (oA R)) m (n+cntK (oK R) m) c l));(∀j0,j0<lr->True)/\(∀j0,j0<l->True)/\(CallOK Tryz.prog 9 [] (bX true) [])/\((!true)=false)/\((decide ((5:Int)<(l:Int)))=false)/\(CallOK Tryz.prog 11 [smS cz cs R lr] (.agg (c2 (.sl 1 (λi0=>iZ ((oC cs) i0)) n) (.sl 3 (λi0=>.agg (c3 (.sl 1 (λi1=>iZ ((oA R) i0 i1)) n) (iZ (oK R i0)) (iZ (oB R i0)))) m))) [])/\(CallOK Tryz.prog 10 [.agg (c2 (.sl 1 (λi0=>iZ ((oC cs) i0)) n) (.sl 3 (λi0=>.agg (c3 (.sl 1 (λi1=>iZ ((oA R) i0 i1)) n) (iZ ((oK R) i0)) (iZ ((oB R) i0)))) m))] (s16 (zA n (oK R) (oA R)) (oB R) (zC n (oC cs)) n (n+cntK (oK R) m) m) [])/\_/\_/\_/\(∀j0,j0<m->((n:Nat)=n)/\(∀j1,j1<n->(((oA R) j0 j1:Int)=((oA R) j0 j1)))/\((oK R j0:Int)=((oK R) j0))/\((oB R j0:Int)=((oB R) j0)))/\(CallOK Tryz.prog 13 [smS cz cs R lr] (.agg (c2 (.sl 3 (λi0=>.rat ((oC cs i0:Int):Rat)) n) (.sl 5 (λi0=>.agg (c3 (.sl 3 (λi1=>.rat ((oA R i0 i1:Int):Rat)) n) (iZ (oK R i0)) (.rat ((oB R i0:Int):Rat)))) m))) [])/\(CallOK Tryz.prog 12 [.agg (c2 (vE (qC1 cs) n) (.sl 5 (λi0=>.agg (c3 (.sl 3 (λi1=>.rat ((cZ (oA R)) i0 i1)) n) (iZ ((oK R) i0)) (.rat ((qB1 R) i0)))) m))] (c2 (.agg (.cn (.agg (c2 (.sl 1 (mE (stA n (oK R) (cZ (oA R))) (n+cntK (oK R) m)) m) (iN (n+cntK (oK R) m)))) (.cn (vE (qB1 R) m) (c3 (vE (stC n (qC1 cs)) (n+cntK (oK R) m)) (iN n) (.sl 1 (λi0=>iZ ((stL n (oK R)) i0)) m))))) (.ex (.nilIface))) [])/\_/\(∀j0,j0<n->((((oC cs j0:Int):Rat):Rat)=((qC1 cs) j0)))/\_/\(∀j0,j0<m->((n:Nat)=n)/\(∀j1,j1<n->((((oA R j0 j1:Int):Rat):Rat)=((cZ (oA R)) j0 j1)))/\((oK R j0:Int)=((oK R) j0))/\((((oB R j0:Int):Rat):Rat)=((qB1 R) j0)))/\_/\_/\_/\_/\_/\_/\_/\_/\_/\_/\_/\_/\_/\_/\_/\_/\_/\_/\((m:Nat)=s.m)/\(∀j0,j0<m->((n+cntK (oK R) m:Nat)=s.N)/\(∀j1,j1<(n+cntK (oK R) m)->(((stA n (oK R) (cZ (oA R))) j0 j1:Rat)=(s.A j0 j1))))/\(((n+cntK (oK R) m:Nat):Int)=((s.N:Nat):Int))/\((m:Nat)=s.m)/\(∀j0,j0<m->(((qB1 R) j0:Rat)=(s.Bv j0)))/\((n+cntK (oK R) m:Nat)=s.N)/\(∀j0,j0<(n+cntK (oK R) m)->(((stC n (qC1 cs)) j0:Rat)=(s.Cs j0)))/\((n:Int)=((s.n:Nat):Int))/\((m:Nat)=s.m)/\(∀j0,j0<m->(((stL n (oK R)) j0:Int)=(s.Lf j0)))/\(CallOK Tryz.prog 14 [stT s,.sl 1 (λi0=>iZ (c i0)) l] (c2 (.ex (.pointer none)) (.ex (.iface 57 (.int .i64 170)))) [])/\(CallOK Tryz.prog 15 [s16 (zA n (oK R) (oA R)) (oB R) (zC n (oC cs)) n (n+cntK (oK R) m) m,.sl 1 (λi0=>iZ (c i0)) l] (bX y1) [])/\(y1=false)/\((!decide ((l:Int)=(m:Int)))=true)/\(y0=true->y0=true)/\(y0=true->CallOK Tryz.prog 16 [.ex (.iface 57 (.int .i64 170)),.ex (.int .i64 170),.ex (.string sNo),.ex (.int .i64 0)] (bX true) [])/\((true&&true)=true)/\(y0=true)/\(_))
  ⟨(λ_ _=>trivial),(λ_ _=>trivial),sAwake17,rfl,(decide_eq_false zo),(sOne16 (cz:=cz) (lr:=lr) (cs:=cs) (R:=R) hn hm),(sStd16 (c:=(oC cs)) (b:=(oB R)) (kd:=(oK R)) (a:=(oA R)) (n:=n) (m:=m) zo zo (λi _=>kz_in _)),(rf n),(leS (λi0=>iZ ((oC cs) i0)) n),(rf m),(λj0 hj0=>⟨rfl,(λj1 hj1=>rfl),rfl,rfl⟩),(sSame16 (cz:=cz) (lr:=lr) (cs:=cs) (R:=R) hn hm),(sStandard (c:=(qC1 cs)) (q:=(cZ (oA R))) (kd:=(oK R)) (b:=(qB1 R)) (n:=n) (m:=m) zo zo (λi _=>kz_in _)),(rf n),(λj0 hj0=>rfl),(rf m),(λj0 hj0=>⟨rfl,(λj1 hj1=>rfl),rfl,rfl⟩),(rf l),(leS (λi0=>iZ (c i0)) l),(rf 0),(rf 0),(rf 0),(rf (cz:Int)),(rf (cs 0:Int)),(rf (cs 1:Int)),(rf (cs 2:Int)),(rf lr),(leS (λi0=>.agg (.cn (.ex (.int .i8 (R i0 0))) (.cn (.ex (.int .i8 (R i0 1))) (c3 (.ex (.int .i8 (R i0 2))) (.ex (.int .i8 (R i0 3))) (.ex (.int .i8 (R i0 4))))))) lr),(rf m),(leS (zE (zA n (oK R) (oA R)) (n+cntK (oK R) m)) m),(rf m),(leS (λi0=>iZ ((oB R) i0)) m),(rf (n+cntK (oK R) m:Nat)),(leS (λi0=>iZ ((zC n (oC cs)) i0)) (n+cntK (oK R) m)),(rf (n:Int)),(by first | rfl | (rw[hs];rfl)),(λj0 hj0=>⟨(by first | rfl | (rw[hs];rfl)),(λj1 hj1=>(by first | rfl | (rw[hs];rfl)))⟩),(by first | rfl | (rw[hs];rfl)),(by first | rfl | (rw[hs];rfl)),(λj0 hj0=>(by first | rfl | (rw[hs];rfl))),(by first | rfl | (rw[hs];rfl)),(λj0 hj0=>(by first | rfl | (rw[hs];rfl))),(by first | rfl | (rw[hs];rfl)),(by first | rfl | (rw[hs];rfl)),(λj0 hj0=>(by first | rfl | (rw[hs];rfl))),(sTNew_lenZ (A:=s.A) (Bv:=s.Bv) (Cs:=s.Cs) (Lf:=s.Lf) (n:=s.n) (N:=s.N) (m:=s.m) (c:=c) (l:=l) zo),(sIs16 (A:=(zA n (oK R) (oA R))) (Bz:=(oB R)) (Cz:=(zC n (oC cs))) (n:=n) (N:=n+cntK (oK R) m) (m:=m) (c:=c) (l:=l) zo zo zT_9),(decide_eq_false λq=>hl q.2.1),(by simp;omega),id,(λhg=>sToldE),(by first | rfl | (simp;done)),(by first | rfl | (simp;done)),(rf (true:Bool))⟩
theorem sTabNews_col{cz lr n m:Nat}{cs:Nat->Int}{R:Nat->Nat->Int}{s:TabS}{c:Nat->Int}{l:Nat}(hn:cz%4=n)(hm:min lr 3=m)(hs:s=nS n m cs R (λj=>(c j).toNat))(hl5:l<=5)(hl:l=m){k:Nat}(hk:k<m)(h0:∀i,i<k->xJ c (n+cntK (oK R) m) i)(h1:¬xJ c (n+cntK (oK R) m) k):CallOK Tryz.prog 3 [smS cz cs R lr,.sl 1 (λi0=>iZ (c i0)) l] (bX true) []:=by
 have hn3:n<=3:=by omega
 have hm3:m<=3:=by omega
 have hcm:=jQ (kd:=oK R) m
 have hsm:s.m=m:=by rw[hs];rfl
 have hsN:s.N=n+cntK (oK R) m:=by rw[hs];rfl
 exact kP (ch:=[.reg 1 [(0,.callS (bX true) [])],.dec 14 false,.dec 17 false,.reg 5 [(1,.callS (.agg (c2 (.sl 1 (λi0=>iZ ((oC cs) i0)) n) (.sl 3 (λi0=>.agg (c3 (.sl 1 (λi1=>iZ ((oA R) i0 i1)) n) (iZ (oK R i0)) (iZ (oB R i0)))) m))) []),(2,.call [.agg (c2 (.sl 1 (λi0=>iZ ((oC cs) i0)) n) (.sl 3 (λi0=>.agg (c3 (.sl 1 (λi1=>iZ ((oA R) i0 i1)) n) (iZ ((oK R) i0)) (iZ ((oB R) i0)))) m))] (s16 (zA n (oK R) (oA R)) (oB R) (zC n (oC cs)) n (n+cntK (oK R) m) m) [])],.reg 6 [(1,.callS (.agg (c2 (.sl 3 (λi0=>.rat ((oC cs i0:Int):Rat)) n) (.sl 5 (λi0=>.agg (c3 (.sl 3 (λi1=>.rat ((oA R i0 i1:Int):Rat)) n) (iZ (oK R i0)) (.rat ((oB R i0:Int):Rat)))) m))) []),(2,.call [.agg (c2 (vE (qC1 cs) n) (.sl 5 (λi0=>.agg (c3 (.sl 3 (λi1=>.rat ((cZ (oA R)) i0 i1)) n) (iZ ((oK R) i0)) (.rat ((qB1 R) i0)))) m))] (c2 (.agg (.cn (.agg (c2 (.sl 1 (mE (stA n (oK R) (cZ (oA R))) (n+cntK (oK R) m)) m) (iN (n+cntK (oK R) m)))) (.cn (vE (qB1 R) m) (c3 (vE (stC n (qC1 cs)) (n+cntK (oK R) m)) (iN n) (.sl 1 (λi0=>iZ ((stL n (oK R)) i0)) m))))) (.ex (.nilIface))) [])],.conv 7 [(0,.id 0),(1,.id 1),(2,.id 2)] ⟨[(1,.sl 1 (λi0=>iZ (c i0)) l),(2,.own 0 0),(5,.own 1 0),(6,.own 2 0)],[(0,.one (.var 26 (smS cz cs R lr))),(1,.one (.var 31 (s16 (zA n (oK R) (oA R)) (oB R) (zC n (oC cs)) n (n+cntK (oK R) m) m))),(2,.one (.var 43 (stT s)))],3⟩,.reg 7 [(2,.call [stT s,.sl 1 (λi0=>iZ (c i0)) s.m] (c2 (.ex (.pointer none)) (.ifc 158 (.ep (.agg (c3 (.ex (.string sCol)) (iN k) (.ex (.iface 57 (.int .i64 170)))))))) [])],.reg 8 [(2,.callS (bX (decide (IsZ (zA n (oK R) (oA R)) m (n+cntK (oK R) m) c l))) [])],.dec 35 false,.dec 47 false,.conv 12 [] ⟨[(1,.sl 1 (λi0=>iZ (c i0)) l),(5,.ep (s16 (zA n (oK R) (oA R)) (oB R) (zC n (oC cs)) n (n+cntK (oK R) m) m)),(8,.ex (.pointer none)),(9,.ifc 158 (.ep (.agg (c3 (.ex (.string sCol)) (iN k) (.ex (.iface 57 (.int .i64 170)))))))],[],0⟩,.loop 13 (Nat) (λg=>g<=k) (λg=>m-g) (λg=>⟨[(1,.sl 1 (λi0=>iZ (c i0)) l),(5,.ep (s16 (zA n (oK R) (oA R)) (oB R) (zC n (oC cs)) n (n+cntK (oK R) m) m)),(8,.ex (.pointer none)),(9,.ifc 158 (.ep (.agg (c3 (.ex (.string sCol)) (iN k) (.ex (.iface 57 (.int .i64 170))))))),(10,iN g)],[],0⟩) [] (λ_=>[]) (λg=>[.dec 57 true,.reg 15 [(2,.k g),(8,.k g)],.loop 17 (Nat) (λu=>u<=g) (λu=>g-u) (λu=>⟨[(1,.sl 1 (λi0=>iZ (c i0)) l),(5,.ep (s16 (zA n (oK R) (oA R)) (oB R) (zC n (oC cs)) n (n+cntK (oK R) m) m)),(8,.ex (.pointer none)),(9,.ifc 158 (.ep (.agg (c3 (.ex (.string sCol)) (iN k) (.ex (.iface 57 (.int .i64 170))))))),(10,iN g),(11,bX (badB c (n+cntK (oK R) m) g u)),(12,iN u)],[],0⟩) [] (λ_=>[]) (λu=>[.reg 19 [(4,.k u),(8,.k g)],.reg 18 [(1,.z ((u+1:Nat):Int))],.reg 21 [(5,.call [.ifc 158 (.ep (.agg (c3 (.ex (.string sCol)) (iN k) (.ex (.iface 57 (.int .i64 170)))))),.ex (.int .i64 170),.ex (.string sCol),iN k] (bX true) []),(6,.sure .no)],.reg 14 [(1,.z ((g+1:Nat):Int))]])])]) Tryz.func3 (let y0:=((true&&true)==true);let y1:=(decide (IsZ (zA n (oK R) (oA R)) m (n+cntK (oK R) m) c l));(∀j0,j0<lr->True)/\(∀j0,j0<l->True)/\(CallOK Tryz.prog 9 [] (bX true) [])/\((!true)=false)/\((decide ((5:Int)<(l:Int)))=false)/\(CallOK Tryz.prog 11 [smS cz cs R lr] (.agg (c2 (.sl 1 (λi0=>iZ ((oC cs) i0)) n) (.sl 3 (λi0=>.agg (c3 (.sl 1 (λi1=>iZ ((oA R) i0 i1)) n) (iZ (oK R i0)) (iZ (oB R i0)))) m))) [])/\(CallOK Tryz.prog 10 [.agg (c2 (.sl 1 (λi0=>iZ ((oC cs) i0)) n) (.sl 3 (λi0=>.agg (c3 (.sl 1 (λi1=>iZ ((oA R) i0 i1)) n) (iZ ((oK R) i0)) (iZ ((oB R) i0)))) m))] (s16 (zA n (oK R) (oA R)) (oB R) (zC n (oC cs)) n (n+cntK (oK R) m) m) [])/\_/\_/\_/\(∀j0,j0<m->((n:Nat)=n)/\(∀j1,j1<n->(((oA R) j0 j1:Int)=((oA R) j0 j1)))/\((oK R j0:Int)=((oK R) j0))/\((oB R j0:Int)=((oB R) j0)))/\(CallOK Tryz.prog 13 [smS cz cs R lr] (.agg (c2 (.sl 3 (λi0=>.rat ((oC cs i0:Int):Rat)) n) (.sl 5 (λi0=>.agg (c3 (.sl 3 (λi1=>.rat ((oA R i0 i1:Int):Rat)) n) (iZ (oK R i0)) (.rat ((oB R i0:Int):Rat)))) m))) [])/\(CallOK Tryz.prog 12 [.agg (c2 (vE (qC1 cs) n) (.sl 5 (λi0=>.agg (c3 (.sl 3 (λi1=>.rat ((cZ (oA R)) i0 i1)) n) (iZ ((oK R) i0)) (.rat ((qB1 R) i0)))) m))] (c2 (.agg (.cn (.agg (c2 (.sl 1 (mE (stA n (oK R) (cZ (oA R))) (n+cntK (oK R) m)) m) (iN (n+cntK (oK R) m)))) (.cn (vE (qB1 R) m) (c3 (vE (stC n (qC1 cs)) (n+cntK (oK R) m)) (iN n) (.sl 1 (λi0=>iZ ((stL n (oK R)) i0)) m))))) (.ex (.nilIface))) [])/\_/\(∀j0,j0<n->((((oC cs j0:Int):Rat):Rat)=((qC1 cs) j0)))/\_/\(∀j0,j0<m->((n:Nat)=n)/\(∀j1,j1<n->((((oA R j0 j1:Int):Rat):Rat)=((cZ (oA R)) j0 j1)))/\((oK R j0:Int)=((oK R) j0))/\((((oB R j0:Int):Rat):Rat)=((qB1 R) j0)))/\_/\_/\_/\_/\_/\_/\_/\_/\_/\_/\_/\_/\_/\_/\_/\_/\_/\_/\((m:Nat)=s.m)/\(∀j0,j0<m->((n+cntK (oK R) m:Nat)=s.N)/\(∀j1,j1<(n+cntK (oK R) m)->(((stA n (oK R) (cZ (oA R))) j0 j1:Rat)=(s.A j0 j1))))/\(((n+cntK (oK R) m:Nat):Int)=((s.N:Nat):Int))/\((m:Nat)=s.m)/\(∀j0,j0<m->(((qB1 R) j0:Rat)=(s.Bv j0)))/\((n+cntK (oK R) m:Nat)=s.N)/\(∀j0,j0<(n+cntK (oK R) m)->(((stC n (qC1 cs)) j0:Rat)=(s.Cs j0)))/\((n:Int)=((s.n:Nat):Int))/\((m:Nat)=s.m)/\(∀j0,j0<m->(((stL n (oK R)) j0:Int)=(s.Lf j0)))/\(CallOK Tryz.prog 14 [stT s,.sl 1 (λi0=>iZ (c i0)) s.m] (c2 (.ex (.pointer none)) (.ifc 158 (.ep (.agg (c3 (.ex (.string sCol)) (iN k) (.ex (.iface 57 (.int .i64 170)))))))) [])/\_/\_/\_/\_/\_/\_/\_/\_/\_/\_/\((l:Nat)=s.m)/\_/\(CallOK Tryz.prog 15 [s16 (zA n (oK R) (oA R)) (oB R) (zC n (oC cs)) n (n+cntK (oK R) m) m,.sl 1 (λi0=>iZ (c i0)) l] (bX y1) [])/\(y1=false)/\((!decide ((l:Int)=(m:Int)))=false)/\_/\_/\_/\_/\_/\_/\_/\_/\_/\((.pointer none:Value)=.pointer none)/\((.string sCol:Value)=.string sCol)/\_/\((.iface 57 (.int .i64 170):Value)=.iface 57 (.int .i64 170))/\(((λX1 X2 X3 X4 X5 X6 X7 X8 X9 X10:Prop=>∃g0:Nat,X1/\X2/\X3/\X4/\X5/\X6/\X7/\X8/\X9/\((.pointer none:Value)=.pointer none)/\((.string sCol:Value)=.string sCol)/\X10/\((.iface 57 (.int .i64 170):Value)=.iface 57 (.int .i64 170))/\((0:Int)=(g0:Int))/\(g0<=k)) _ _ _ _ _ _ _ _ _ _)/\∀g:Nat,(g<=k)->((decide ((g:Int)<(l:Int)))=true)/\_/\(g<l)/\_/\_/\(((decide ((c g:Int)<0))==false)=true->_)/\(((decide ((c g:Int)<0))==false)=true->g<l)/\_/\_/\_/\_/\_/\((!(decide ((c g:Int)<0)))=true->((decide ((c g:Int)<0))==false)=true)/\(((λX1 X2 X3 X4 X5 X6 X7 X8 X9 X10 X11:Prop=>∃u0:Nat,X1/\X2/\X3/\X4/\X5/\X6/\X7/\X8/\X9/\((.pointer none:Value)=.pointer none)/\((.string sCol:Value)=.string sCol)/\X10/\((.iface 57 (.int .i64 170):Value)=.iface 57 (.int .i64 170))/\X11/\((bif (decide ((c g:Int)<0)) then true else(decide (((n+cntK (oK R) m:Nat):Int)<=(c g))):Bool)=(badB c (n+cntK (oK R) m) g u0))/\((0:Int)=(u0:Int))/\(u0<=g)) _ _ _ _ _ _ _ _ _ _ _)/\∀u:Nat,(u<=g)->(((decide ((u:Int)<(g:Int)))=true->_/\_/\(((badB c (n+cntK (oK R) m) g u)==false)=true->_)/\(((badB c (n+cntK (oK R) m) g u)==false)=true->u<l)/\_/\_/\_/\(((badB c (n+cntK (oK R) m) g u)==false)=true->_)/\(((badB c (n+cntK (oK R) m) g u)==false)=true->g<l)/\_/\_/\_/\((!(badB c (n+cntK (oK R) m) g u))=true->((badB c (n+cntK (oK R) m) g u)==false)=true)/\_/\((λX1 X2 X3 X4 X5 X6 X7 X8 X9 X10 X11:Prop=>∃u1:Nat,X1/\X2/\X3/\X4/\X5/\X6/\X7/\X8/\X9/\((.pointer none:Value)=.pointer none)/\((.string sCol:Value)=.string sCol)/\X10/\((.iface 57 (.int .i64 170):Value)=.iface 57 (.int .i64 170))/\X11/\((bif (badB c (n+cntK (oK R) m) g u) then true else(decide ((c u:Int)=(c g))):Bool)=(badB c (n+cntK (oK R) m) g u1))/\(((u+1:Nat):Int)=(u1:Int))/\(u1<=g)/\(g-u1<g-u)) _ _ _ _ _ _ _ _ _ _ _))/\((decide ((u:Int)<(g:Int)))=false->(((badB c (n+cntK (oK R) m) g u)=true->(y0=true->y0=true)/\(y0=true->y0=true)/\(y0=true->CallOK Tryz.prog 16 [.ifc 158 (.ep (.agg (c3 (.ex (.string sCol)) (iN k) (.ex (.iface 57 (.int .i64 170)))))),.ex (.int .i64 170),.ex (.string sCol),iN k] (bX true) [])/\(y0=true->(.string sCol:Value)=.string sCol)/\(y0=true->_)/\(y0=true->(.iface 57 (.int .i64 170):Value)=.iface 57 (.int .i64 170))/\(y0=true->_)/\(y0=true->(.string sCol:Value)=.string sCol)/\(y0=true->(g:Int)=(k:Int))/\((true&&true)=true)/\(y0=true)/\(_))/\((badB c (n+cntK (oK R) m) g u)=false->_/\((λX1 X2 X3 X4 X5 X6 X7 X8 X9 X10:Prop=>∃g1:Nat,X1/\X2/\X3/\X4/\X5/\X6/\X7/\X8/\X9/\((.pointer none:Value)=.pointer none)/\((.string sCol:Value)=.string sCol)/\X10/\((.iface 57 (.int .i64 170):Value)=.iface 57 (.int .i64 170))/\(((g+1:Nat):Int)=(g1:Int))/\(g1<=k)/\(m-g1<m-g)) _ _ _ _ _ _ _ _ _ _))))))))
  ⟨(λ_ _=>trivial),(λ_ _=>trivial),sAwake17,rfl,(decide_eq_false zo),(sOne16 (cz:=cz) (lr:=lr) (cs:=cs) (R:=R) hn hm),(sStd16 (c:=(oC cs)) (b:=(oB R)) (kd:=(oK R)) (a:=(oA R)) (n:=n) (m:=m) zo zo (λi _=>kz_in _)),(rf n),(leS (λi0=>iZ ((oC cs) i0)) n),(rf m),(λj0 hj0=>⟨rfl,(λj1 hj1=>rfl),rfl,rfl⟩),(sSame16 (cz:=cz) (lr:=lr) (cs:=cs) (R:=R) hn hm),(sStandard (c:=(qC1 cs)) (q:=(cZ (oA R))) (kd:=(oK R)) (b:=(qB1 R)) (n:=n) (m:=m) zo zo (λi _=>kz_in _)),(rf n),(λj0 hj0=>rfl),(rf m),(λj0 hj0=>⟨rfl,(λj1 hj1=>rfl),rfl,rfl⟩),(rf l),(leS (λi0=>iZ (c i0)) l),(rf 0),(rf 0),(rf 0),(rf (cz:Int)),(rf (cs 0:Int)),(rf (cs 1:Int)),(rf (cs 2:Int)),(rf lr),(leS (λi0=>.agg (.cn (.ex (.int .i8 (R i0 0))) (.cn (.ex (.int .i8 (R i0 1))) (c3 (.ex (.int .i8 (R i0 2))) (.ex (.int .i8 (R i0 3))) (.ex (.int .i8 (R i0 4))))))) lr),(rf m),(leS (zE (zA n (oK R) (oA R)) (n+cntK (oK R) m)) m),(rf m),(leS (λi0=>iZ ((oB R) i0)) m),(rf (n+cntK (oK R) m:Nat)),(leS (λi0=>iZ ((zC n (oC cs)) i0)) (n+cntK (oK R) m)),(rf (n:Int)),(by first | rfl | (rw[hs];rfl)),(λj0 hj0=>⟨(by first | rfl | (rw[hs];rfl)),(λj1 hj1=>(by first | rfl | (rw[hs];rfl)))⟩),(by first | rfl | (rw[hs];rfl)),(by first | rfl | (rw[hs];rfl)),(λj0 hj0=>(by first | rfl | (rw[hs];rfl))),(by first | rfl | (rw[hs];rfl)),(λj0 hj0=>(by first | rfl | (rw[hs];rfl))),(by first | rfl | (rw[hs];rfl)),(by first | rfl | (rw[hs];rfl)),(λj0 hj0=>(by first | rfl | (rw[hs];rfl))),(sTNew_colZ (A:=s.A) (Bv:=s.Bv) (Cs:=s.Cs) (Lf:=s.Lf) (n:=s.n) (N:=s.N) (m:=s.m) (c:=c) (k:=k) zo zo (by rw[hsN];exact h0) (by rw[hsN];exact h1)),(rf (s.m:Nat)),(leS (mE s.A s.N) s.m),(rf ((s.N:Nat):Int)),(rf (s.m:Nat)),(leS (λi0=>.rat (s.Bv i0)) s.m),(rf (s.N:Nat)),(leS (λi0=>.rat (s.Cs i0)) s.N),(rf ((s.n:Nat):Int)),(rf (s.m:Nat)),(leS (λi0=>iZ (s.Lf i0)) s.m),zo,(leS (λi0=>iZ (c i0)) l),(sIs16 (A:=(zA n (oK R) (oA R))) (Bz:=(oB R)) (Cz:=(zC n (oC cs))) (n:=n) (N:=n+cntK (oK R) m) (m:=m) (c:=c) (l:=l) zo zo zT_9),(decide_eq_false λq=>h1 (q.1 k zo)),(by simp;omega),(rf l),(leS (λi0=>iZ (c i0)) l),(rf m),(leS (zE (zA n (oK R) (oA R)) (n+cntK (oK R) m)) m),(rf m),(leS (λi0=>iZ ((oB R) i0)) m),(rf (n+cntK (oK R) m:Nat)),(leS (λi0=>iZ ((zC n (oC cs)) i0)) (n+cntK (oK R) m)),(rf (n:Int)),rfl,rfl,(rf (k:Int)),rfl,⟨0,(rf l),(leS (λi0=>iZ (c i0)) l),(rf m),(leS (zE (zA n (oK R) (oA R)) (n+cntK (oK R) m)) m),(rf m),(leS (λi0=>iZ ((oB R) i0)) m),(rf (n+cntK (oK R) m:Nat)),(leS (λi0=>iZ ((zC n (oC cs)) i0)) (n+cntK (oK R) m)),(rf (n:Int)),rfl,rfl,(rf (k:Int)),rfl,zo,zo⟩,λg hg=>⟨(decide_eq_true zo),(rf (g:Int)),zo,(idB ((decide ((c g:Int)<0))==false)),(idB ((decide ((c g:Int)<0))==false)),(λhg=>(rf (g:Int))),(λhg=>zo),(idB ((decide ((c g:Int)<0))==false)),(idB ((decide ((c g:Int)<0))==false)),(idB ((decide ((c g:Int)<0))==false)),(idB ((decide ((c g:Int)<0))==false)),(idB ((decide ((c g:Int)<0))==false)),(by first | exact id | (simp;done)),⟨0,(rf l),(leS (λi0=>iZ (c i0)) l),(rf m),(leS (zE (zA n (oK R) (oA R)) (n+cntK (oK R) m)) m),(rf m),(leS (λi0=>iZ ((oB R) i0)) m),(rf (n+cntK (oK R) m:Nat)),(leS (λi0=>iZ ((zC n (oC cs)) i0)) (n+cntK (oK R) m)),(rf (n:Int)),rfl,rfl,(rf (k:Int)),rfl,(rf (g:Int)),rfl,zo,zo⟩,λu hu=>⟨λhc77=>have hc77:=dT hc77;have hug:u<g:=zo;⟨(idB ((badB c (n+cntK (oK R) m) g u)==false)),(idB ((badB c (n+cntK (oK R) m) g u)==false)),(λhg=>(rf (u:Int))),(λhg=>zo),(idB ((badB c (n+cntK (oK R) m) g u)==false)),(idB ((badB c (n+cntK (oK R) m) g u)==false)),(idB ((badB c (n+cntK (oK R) m) g u)==false)),(λhg=>(rf (g:Int))),(λhg=>zo),(idB ((badB c (n+cntK (oK R) m) g u)==false)),(idB ((badB c (n+cntK (oK R) m) g u)==false)),(idB ((badB c (n+cntK (oK R) m) g u)==false)),(by first | exact id | (simp;done)),(wI (g:=u) zo),u+1,(rf l),(leS (λi0=>iZ (c i0)) l),(rf m),(leS (zE (zA n (oK R) (oA R)) (n+cntK (oK R) m)) m),(rf m),(leS (λi0=>iZ ((oB R) i0)) m),(rf (n+cntK (oK R) m:Nat)),(leS (λi0=>iZ ((zC n (oC cs)) i0)) (n+cntK (oK R) m)),(rf (n:Int)),rfl,rfl,(rf (k:Int)),rfl,(rf (g:Int)),rfl,zo,zo,zo⟩,λhc77=>have hc77:=dF hc77;have hug:u=g:=zo;⟨λhc92=>have hgk:g=k:=(by rw[hug] at hc92;rcases Nat.lt_or_eq_of_le hg with q | q;exact absurd (h0 g q) (badB_T g (Nat.le_refl g) hc92);exact q);⟨id,id,(λhg=>sToldF),(λhg=>rfl),(λhg=>(rf (k:Int))),(λhg=>rfl),(λhg=>(rf (170:Int))),(λhg=>rfl),(λhg=>zo),(by first | rfl | (simp;done)),(by first | rfl | (simp;done)),(rf (true:Bool))⟩,λhc92=>have hgk:g<k:=(by rw[hug] at hc92;rcases Nat.lt_or_eq_of_le hg with q | q;exact q;exact absurd (q▸badB_bad hc92) h1);⟨(wI (g:=g) zo),g+1,(rf l),(leS (λi0=>iZ (c i0)) l),(rf m),(leS (zE (zA n (oK R) (oA R)) (n+cntK (oK R) m)) m),(rf m),(leS (λi0=>iZ ((oB R) i0)) m),(rf (n+cntK (oK R) m:Nat)),(leS (λi0=>iZ ((zC n (oC cs)) i0)) (n+cntK (oK R) m)),(rf (n:Int)),rfl,rfl,(rf (k:Int)),rfl,zo,zo,zo⟩⟩⟩⟩⟩
theorem sTabNews_sing{cz lr n m:Nat}{cs:Nat->Int}{R:Nat->Nat->Int}{s:TabS}{c:Nat->Int}{l:Nat}(hn:cz%4=n)(hm:min lr 3=m)(hs:s=nS n m cs R (λj=>(c j).toNat))(hl5:l<=5)(hl:l=m)(hall:∀i,i<m->xJ c (n+cntK (oK R) m) i)(hz:detZ m (λi j=>zT n R i (c j).toNat)=0):CallOK Tryz.prog 3 [smS cz cs R lr,.sl 1 (λi0=>iZ (c i0)) l] (bX true) []:=by
 have hn3:n<=3:=by omega
 have hm3:m<=3:=by omega
 have hcm:=jQ (kd:=oK R) m
 have hsm:s.m=m:=by rw[hs];rfl
 have hsN:s.N=n+cntK (oK R) m:=by rw[hs];rfl
 exact kP (ch:=[.reg 1 [(0,.callS (bX true) [])],.dec 14 false,.dec 17 false,.reg 5 [(1,.callS (.agg (c2 (.sl 1 (λi0=>iZ ((oC cs) i0)) n) (.sl 3 (λi0=>.agg (c3 (.sl 1 (λi1=>iZ ((oA R) i0 i1)) n) (iZ (oK R i0)) (iZ (oB R i0)))) m))) []),(2,.call [.agg (c2 (.sl 1 (λi0=>iZ ((oC cs) i0)) n) (.sl 3 (λi0=>.agg (c3 (.sl 1 (λi1=>iZ ((oA R) i0 i1)) n) (iZ ((oK R) i0)) (iZ ((oB R) i0)))) m))] (s16 (zA n (oK R) (oA R)) (oB R) (zC n (oC cs)) n (n+cntK (oK R) m) m) [])],.reg 6 [(1,.callS (.agg (c2 (.sl 3 (λi0=>.rat ((oC cs i0:Int):Rat)) n) (.sl 5 (λi0=>.agg (c3 (.sl 3 (λi1=>.rat ((oA R i0 i1:Int):Rat)) n) (iZ (oK R i0)) (.rat ((oB R i0:Int):Rat)))) m))) []),(2,.call [.agg (c2 (vE (qC1 cs) n) (.sl 5 (λi0=>.agg (c3 (.sl 3 (λi1=>.rat ((cZ (oA R)) i0 i1)) n) (iZ ((oK R) i0)) (.rat ((qB1 R) i0)))) m))] (c2 (.agg (.cn (.agg (c2 (.sl 1 (mE (stA n (oK R) (cZ (oA R))) (n+cntK (oK R) m)) m) (iN (n+cntK (oK R) m)))) (.cn (vE (qB1 R) m) (c3 (vE (stC n (qC1 cs)) (n+cntK (oK R) m)) (iN n) (.sl 1 (λi0=>iZ ((stL n (oK R)) i0)) m))))) (.ex (.nilIface))) [])],.conv 7 [(0,.id 0),(1,.id 1),(2,.id 2)] ⟨[(1,.sl 1 (λi0=>iZ (c i0)) l),(2,.own 0 0),(5,.own 1 0),(6,.own 2 0)],[(0,.one (.var 26 (smS cz cs R lr))),(1,.one (.var 31 (s16 (zA n (oK R) (oA R)) (oB R) (zC n (oC cs)) n (n+cntK (oK R) m) m))),(2,.one (.var 43 (stT s)))],3⟩,.reg 7 [(2,.call [stT s,.sl 1 (λi0=>iN (s.L i0)) s.m] (c2 (.ex (.pointer none)) (.ifc 158 (.ep (.agg (c3 (.ex (.string sBas)) (.ex (.int .i64 0)) (.ex (.iface 57 (.int .i64 140)))))))) [])],.reg 8 [(2,.callS (bX (decide (IsZ (zA n (oK R) (oA R)) m (n+cntK (oK R) m) c l))) [])],.dec 35 false,.dec 47 false,.conv 12 [] ⟨[(1,.sl 1 (λi0=>iZ (c i0)) l),(5,.ep (s16 (zA n (oK R) (oA R)) (oB R) (zC n (oC cs)) n (n+cntK (oK R) m) m)),(8,.ex (.pointer none)),(9,.ifc 158 (.ep (.agg (c3 (.ex (.string sBas)) (.ex (.int .i64 0)) (.ex (.iface 57 (.int .i64 140)))))))],[],0⟩,.loop 13 (Nat) (λg=>g<=m) (λg=>m-g) (λg=>⟨[(1,.sl 1 (λi0=>iZ (c i0)) l),(5,.ep (s16 (zA n (oK R) (oA R)) (oB R) (zC n (oC cs)) n (n+cntK (oK R) m) m)),(8,.ex (.pointer none)),(9,.ifc 158 (.ep (.agg (c3 (.ex (.string sBas)) (.ex (.int .i64 0)) (.ex (.iface 57 (.int .i64 140))))))),(10,iN g)],[],0⟩) [] (λ_=>[]) (λg=>[.reg 15 [(2,.k g),(8,.k g)],.loop 17 (Nat) (λu=>u<=g) (λu=>g-u) (λu=>⟨[(1,.sl 1 (λi0=>iZ (c i0)) l),(5,.ep (s16 (zA n (oK R) (oA R)) (oB R) (zC n (oC cs)) n (n+cntK (oK R) m) m)),(8,.ex (.pointer none)),(9,.ifc 158 (.ep (.agg (c3 (.ex (.string sBas)) (.ex (.int .i64 0)) (.ex (.iface 57 (.int .i64 140))))))),(10,iN g),(11,bX (badB c (n+cntK (oK R) m) g u)),(12,iN u)],[],0⟩) [] (λ_=>[]) (λu=>[.reg 19 [(4,.k u),(8,.k g)],.reg 18 [(1,.z ((u+1:Nat):Int))],.dec 92 false,.reg 14 [(1,.z ((g+1:Nat):Int))]]),.reg 22 [(4,.callS (bX true) []),(5,.sure .no)]])]) Tryz.func3 (let y0:=((true&&true)==true);let y1:=(decide (IsZ (zA n (oK R) (oA R)) m (n+cntK (oK R) m) c l));(∀j0,j0<lr->True)/\(∀j0,j0<l->True)/\(CallOK Tryz.prog 9 [] (bX true) [])/\((!true)=false)/\((decide ((5:Int)<(l:Int)))=false)/\(CallOK Tryz.prog 11 [smS cz cs R lr] (.agg (c2 (.sl 1 (λi0=>iZ ((oC cs) i0)) n) (.sl 3 (λi0=>.agg (c3 (.sl 1 (λi1=>iZ ((oA R) i0 i1)) n) (iZ (oK R i0)) (iZ (oB R i0)))) m))) [])/\(CallOK Tryz.prog 10 [.agg (c2 (.sl 1 (λi0=>iZ ((oC cs) i0)) n) (.sl 3 (λi0=>.agg (c3 (.sl 1 (λi1=>iZ ((oA R) i0 i1)) n) (iZ ((oK R) i0)) (iZ ((oB R) i0)))) m))] (s16 (zA n (oK R) (oA R)) (oB R) (zC n (oC cs)) n (n+cntK (oK R) m) m) [])/\_/\_/\_/\(∀j0,j0<m->((n:Nat)=n)/\(∀j1,j1<n->(((oA R) j0 j1:Int)=((oA R) j0 j1)))/\((oK R j0:Int)=((oK R) j0))/\((oB R j0:Int)=((oB R) j0)))/\(CallOK Tryz.prog 13 [smS cz cs R lr] (.agg (c2 (.sl 3 (λi0=>.rat ((oC cs i0:Int):Rat)) n) (.sl 5 (λi0=>.agg (c3 (.sl 3 (λi1=>.rat ((oA R i0 i1:Int):Rat)) n) (iZ (oK R i0)) (.rat ((oB R i0:Int):Rat)))) m))) [])/\(CallOK Tryz.prog 12 [.agg (c2 (vE (qC1 cs) n) (.sl 5 (λi0=>.agg (c3 (.sl 3 (λi1=>.rat ((cZ (oA R)) i0 i1)) n) (iZ ((oK R) i0)) (.rat ((qB1 R) i0)))) m))] (c2 (.agg (.cn (.agg (c2 (.sl 1 (mE (stA n (oK R) (cZ (oA R))) (n+cntK (oK R) m)) m) (iN (n+cntK (oK R) m)))) (.cn (vE (qB1 R) m) (c3 (vE (stC n (qC1 cs)) (n+cntK (oK R) m)) (iN n) (.sl 1 (λi0=>iZ ((stL n (oK R)) i0)) m))))) (.ex (.nilIface))) [])/\_/\(∀j0,j0<n->((((oC cs j0:Int):Rat):Rat)=((qC1 cs) j0)))/\_/\(∀j0,j0<m->((n:Nat)=n)/\(∀j1,j1<n->((((oA R j0 j1:Int):Rat):Rat)=((cZ (oA R)) j0 j1)))/\((oK R j0:Int)=((oK R) j0))/\((((oB R j0:Int):Rat):Rat)=((qB1 R) j0)))/\_/\_/\_/\_/\_/\_/\_/\_/\_/\_/\_/\_/\_/\_/\_/\_/\_/\_/\((m:Nat)=s.m)/\(∀j0,j0<m->((n+cntK (oK R) m:Nat)=s.N)/\(∀j1,j1<(n+cntK (oK R) m)->(((stA n (oK R) (cZ (oA R))) j0 j1:Rat)=(s.A j0 j1))))/\(((n+cntK (oK R) m:Nat):Int)=((s.N:Nat):Int))/\((m:Nat)=s.m)/\(∀j0,j0<m->(((qB1 R) j0:Rat)=(s.Bv j0)))/\((n+cntK (oK R) m:Nat)=s.N)/\(∀j0,j0<(n+cntK (oK R) m)->(((stC n (qC1 cs)) j0:Rat)=(s.Cs j0)))/\((n:Int)=((s.n:Nat):Int))/\((m:Nat)=s.m)/\(∀j0,j0<m->(((stL n (oK R)) j0:Int)=(s.Lf j0)))/\(CallOK Tryz.prog 14 [stT s,.sl 1 (λi0=>iN (s.L i0)) s.m] (c2 (.ex (.pointer none)) (.ifc 158 (.ep (.agg (c3 (.ex (.string sBas)) (.ex (.int .i64 0)) (.ex (.iface 57 (.int .i64 140)))))))) [])/\_/\_/\_/\_/\_/\_/\_/\_/\_/\_/\((l:Nat)=s.m)/\(∀j0,j0<l->((c j0:Int)=(s.L j0:Int)))/\(CallOK Tryz.prog 15 [s16 (zA n (oK R) (oA R)) (oB R) (zC n (oC cs)) n (n+cntK (oK R) m) m,.sl 1 (λi0=>iZ (c i0)) l] (bX y1) [])/\(y1=false)/\((!decide ((l:Int)=(m:Int)))=false)/\_/\_/\_/\_/\_/\_/\_/\_/\_/\((.pointer none:Value)=.pointer none)/\((.string sBas:Value)=.string sBas)/\_/\((.iface 57 (.int .i64 140):Value)=.iface 57 (.int .i64 140))/\(((λX1 X2 X3 X4 X5 X6 X7 X8 X9 X10:Prop=>∃g0:Nat,X1/\X2/\X3/\X4/\X5/\X6/\X7/\X8/\X9/\((.pointer none:Value)=.pointer none)/\((.string sBas:Value)=.string sBas)/\X10/\((.iface 57 (.int .i64 140):Value)=.iface 57 (.int .i64 140))/\((0:Int)=(g0:Int))/\(g0<=m)) _ _ _ _ _ _ _ _ _ _)/\∀g:Nat,(g<=m)->(((decide ((g:Int)<(l:Int)))=true->_/\(g<l)/\_/\_/\(((decide ((c g:Int)<0))==false)=true->_)/\(((decide ((c g:Int)<0))==false)=true->g<l)/\_/\_/\_/\_/\_/\((!(decide ((c g:Int)<0)))=true->((decide ((c g:Int)<0))==false)=true)/\(((λX1 X2 X3 X4 X5 X6 X7 X8 X9 X10 X11:Prop=>∃u0:Nat,X1/\X2/\X3/\X4/\X5/\X6/\X7/\X8/\X9/\((.pointer none:Value)=.pointer none)/\((.string sBas:Value)=.string sBas)/\X10/\((.iface 57 (.int .i64 140):Value)=.iface 57 (.int .i64 140))/\X11/\((bif (decide ((c g:Int)<0)) then true else(decide (((n+cntK (oK R) m:Nat):Int)<=(c g))):Bool)=(badB c (n+cntK (oK R) m) g u0))/\((0:Int)=(u0:Int))/\(u0<=g)) _ _ _ _ _ _ _ _ _ _ _)/\∀u:Nat,(u<=g)->(((decide ((u:Int)<(g:Int)))=true->_/\_/\(((badB c (n+cntK (oK R) m) g u)==false)=true->_)/\(((badB c (n+cntK (oK R) m) g u)==false)=true->u<l)/\_/\_/\_/\(((badB c (n+cntK (oK R) m) g u)==false)=true->_)/\(((badB c (n+cntK (oK R) m) g u)==false)=true->g<l)/\_/\_/\_/\((!(badB c (n+cntK (oK R) m) g u))=true->((badB c (n+cntK (oK R) m) g u)==false)=true)/\_/\((λX1 X2 X3 X4 X5 X6 X7 X8 X9 X10 X11:Prop=>∃u1:Nat,X1/\X2/\X3/\X4/\X5/\X6/\X7/\X8/\X9/\((.pointer none:Value)=.pointer none)/\((.string sBas:Value)=.string sBas)/\X10/\((.iface 57 (.int .i64 140):Value)=.iface 57 (.int .i64 140))/\X11/\((bif (badB c (n+cntK (oK R) m) g u) then true else(decide ((c u:Int)=(c g))):Bool)=(badB c (n+cntK (oK R) m) g u1))/\(((u+1:Nat):Int)=(u1:Int))/\(u1<=g)/\(g-u1<g-u)) _ _ _ _ _ _ _ _ _ _ _))/\((decide ((u:Int)<(g:Int)))=false->((badB c (n+cntK (oK R) m) g u)=false)/\_/\((λX1 X2 X3 X4 X5 X6 X7 X8 X9 X10:Prop=>∃g1:Nat,X1/\X2/\X3/\X4/\X5/\X6/\X7/\X8/\X9/\((.pointer none:Value)=.pointer none)/\((.string sBas:Value)=.string sBas)/\X10/\((.iface 57 (.int .i64 140):Value)=.iface 57 (.int .i64 140))/\(((g+1:Nat):Int)=(g1:Int))/\(g1<=m)/\(m-g1<m-g)) _ _ _ _ _ _ _ _ _ _)))))/\((decide ((g:Int)<(l:Int)))=false->(y0=true->y0=true)/\(y0=true->CallOK Tryz.prog 16 [.ifc 158 (.ep (.agg (c3 (.ex (.string sBas)) (.ex (.int .i64 0)) (.ex (.iface 57 (.int .i64 140)))))),.ex (.int .i64 140),.ex (.string sBas),.ex (.int .i64 0)] (bX true) [])/\((true&&true)=true)/\(y0=true)/\(_)))))
  ⟨(λ_ _=>trivial),(λ_ _=>trivial),sAwake17,rfl,(decide_eq_false zo),(sOne16 (cz:=cz) (lr:=lr) (cs:=cs) (R:=R) hn hm),(sStd16 (c:=(oC cs)) (b:=(oB R)) (kd:=(oK R)) (a:=(oA R)) (n:=n) (m:=m) zo zo (λi _=>kz_in _)),(rf n),(leS (λi0=>iZ ((oC cs) i0)) n),(rf m),(λj0 hj0=>⟨rfl,(λj1 hj1=>rfl),rfl,rfl⟩),(sSame16 (cz:=cz) (lr:=lr) (cs:=cs) (R:=R) hn hm),(sStandard (c:=(qC1 cs)) (q:=(cZ (oA R))) (kd:=(oK R)) (b:=(qB1 R)) (n:=n) (m:=m) zo zo (λi _=>kz_in _)),(rf n),(λj0 hj0=>rfl),(rf m),(λj0 hj0=>⟨rfl,(λj1 hj1=>rfl),rfl,rfl⟩),(rf l),(leS (λi0=>iZ (c i0)) l),(rf 0),(rf 0),(rf 0),(rf (cz:Int)),(rf (cs 0:Int)),(rf (cs 1:Int)),(rf (cs 2:Int)),(rf lr),(leS (λi0=>.agg (.cn (.ex (.int .i8 (R i0 0))) (.cn (.ex (.int .i8 (R i0 1))) (c3 (.ex (.int .i8 (R i0 2))) (.ex (.int .i8 (R i0 3))) (.ex (.int .i8 (R i0 4))))))) lr),(rf m),(leS (zE (zA n (oK R) (oA R)) (n+cntK (oK R) m)) m),(rf m),(leS (λi0=>iZ ((oB R) i0)) m),(rf (n+cntK (oK R) m:Nat)),(leS (λi0=>iZ ((zC n (oC cs)) i0)) (n+cntK (oK R) m)),(rf (n:Int)),(by first | rfl | (rw[hs];rfl)),(λj0 hj0=>⟨(by first | rfl | (rw[hs];rfl)),(λj1 hj1=>(by first | rfl | (rw[hs];rfl)))⟩),(by first | rfl | (rw[hs];rfl)),(by first | rfl | (rw[hs];rfl)),(λj0 hj0=>(by first | rfl | (rw[hs];rfl))),(by first | rfl | (rw[hs];rfl)),(λj0 hj0=>(by first | rfl | (rw[hs];rfl))),(by first | rfl | (rw[hs];rfl)),(by first | rfl | (rw[hs];rfl)),(λj0 hj0=>(by first | rfl | (rw[hs];rfl))),(sTNew_sing (A:=s.A) (Bv:=s.Bv) (Cs:=s.Cs) (Lf:=s.Lf) (n:=s.n) (N:=s.N) (m:=s.m) (L:=s.L) zo (by rw[hs];exact λk hk=>good_lt (hall k hk)) (by rw[hs];exact good_dis hall) (by rw[hs];exact nS_fr) (by rw[hs];exact λh=>nS_lu.1 h hz)),(rf (s.m:Nat)),(leS (mE s.A s.N) s.m),(rf ((s.N:Nat):Int)),(rf (s.m:Nat)),(leS (λi0=>.rat (s.Bv i0)) s.m),(rf (s.N:Nat)),(leS (λi0=>.rat (s.Cs i0)) s.N),(rf ((s.n:Nat):Int)),(rf (s.m:Nat)),(leS (λi0=>iZ (s.Lf i0)) s.m),zo,(λj0 hj0=>(by rw[hs];exact good_eq (hall j0 zo))),(sIs16 (A:=(zA n (oK R) (oA R))) (Bz:=(oB R)) (Cz:=(zC n (oC cs))) (n:=n) (N:=n+cntK (oK R) m) (m:=m) (c:=c) (l:=l) zo zo zT_9),(decide_eq_false λq=>q.2.2 hz),(by simp;omega),(rf l),(leS (λi0=>iZ (c i0)) l),(rf m),(leS (zE (zA n (oK R) (oA R)) (n+cntK (oK R) m)) m),(rf m),(leS (λi0=>iZ ((oB R) i0)) m),(rf (n+cntK (oK R) m:Nat)),(leS (λi0=>iZ ((zC n (oC cs)) i0)) (n+cntK (oK R) m)),(rf (n:Int)),rfl,rfl,(rf (0:Int)),rfl,⟨0,(rf l),(leS (λi0=>iZ (c i0)) l),(rf m),(leS (zE (zA n (oK R) (oA R)) (n+cntK (oK R) m)) m),(rf m),(leS (λi0=>iZ ((oB R) i0)) m),(rf (n+cntK (oK R) m:Nat)),(leS (λi0=>iZ ((zC n (oC cs)) i0)) (n+cntK (oK R) m)),(rf (n:Int)),rfl,rfl,(rf (0:Int)),rfl,zo,zo⟩,λg hg=>⟨λhc57=>have hc57:=dT hc57;have hgm:g<m:=zo;⟨(rf (g:Int)),zo,(idB ((decide ((c g:Int)<0))==false)),(idB ((decide ((c g:Int)<0))==false)),(λhg=>(rf (g:Int))),(λhg=>zo),(idB ((decide ((c g:Int)<0))==false)),(idB ((decide ((c g:Int)<0))==false)),(idB ((decide ((c g:Int)<0))==false)),(idB ((decide ((c g:Int)<0))==false)),(idB ((decide ((c g:Int)<0))==false)),(by first | exact id | (simp;done)),⟨0,(rf l),(leS (λi0=>iZ (c i0)) l),(rf m),(leS (zE (zA n (oK R) (oA R)) (n+cntK (oK R) m)) m),(rf m),(leS (λi0=>iZ ((oB R) i0)) m),(rf (n+cntK (oK R) m:Nat)),(leS (λi0=>iZ ((zC n (oC cs)) i0)) (n+cntK (oK R) m)),(rf (n:Int)),rfl,rfl,(rf (0:Int)),rfl,(rf (g:Int)),rfl,zo,zo⟩,λu hu=>⟨λhc77=>have hc77:=dT hc77;have hug:u<g:=zo;⟨(idB ((badB c (n+cntK (oK R) m) g u)==false)),(idB ((badB c (n+cntK (oK R) m) g u)==false)),(λhg=>(rf (u:Int))),(λhg=>zo),(idB ((badB c (n+cntK (oK R) m) g u)==false)),(idB ((badB c (n+cntK (oK R) m) g u)==false)),(idB ((badB c (n+cntK (oK R) m) g u)==false)),(λhg=>(rf (g:Int))),(λhg=>zo),(idB ((badB c (n+cntK (oK R) m) g u)==false)),(idB ((badB c (n+cntK (oK R) m) g u)==false)),(idB ((badB c (n+cntK (oK R) m) g u)==false)),(by first | exact id | (simp;done)),(wI (g:=u) zo),u+1,(rf l),(leS (λi0=>iZ (c i0)) l),(rf m),(leS (zE (zA n (oK R) (oA R)) (n+cntK (oK R) m)) m),(rf m),(leS (λi0=>iZ ((oB R) i0)) m),(rf (n+cntK (oK R) m:Nat)),(leS (λi0=>iZ ((zC n (oC cs)) i0)) (n+cntK (oK R) m)),(rf (n:Int)),rfl,rfl,(rf (0:Int)),rfl,(rf (g:Int)),rfl,zo,zo,zo⟩,λhc77=>have hc77:=dF hc77;have hug:u=g:=zo;⟨(by rw[hug];exact badB_good (hall g zo)),(wI (g:=g) zo),g+1,(rf l),(leS (λi0=>iZ (c i0)) l),(rf m),(leS (zE (zA n (oK R) (oA R)) (n+cntK (oK R) m)) m),(rf m),(leS (λi0=>iZ ((oB R) i0)) m),(rf (n+cntK (oK R) m:Nat)),(leS (λi0=>iZ ((zC n (oC cs)) i0)) (n+cntK (oK R) m)),(rf (n:Int)),rfl,rfl,(rf (0:Int)),rfl,zo,zo,zo⟩⟩⟩,λhc57=>have hc57:=dF hc57;⟨id,(λhg=>sToldFB),(by first | rfl | (simp;done)),(by first | rfl | (simp;done)),(rf (true:Bool))⟩⟩⟩
theorem sTabNews_yes{cz lr n m:Nat}{cs:Nat->Int}{R:Nat->Nat->Int}{s:TabS}{c:Nat->Int}{l:Nat}(hn:cz%4=n)(hm:min lr 3=m)(hs:s=nS n m cs R (λj=>(c j).toNat))(hl5:l<=5)(hl:l=m)(hall:∀i,i<m->xJ c (n+cntK (oK R) m) i)(hz:detZ m (λi j=>zT n R i (c j).toNat)≠0):CallOK Tryz.prog 3 [smS cz cs R lr,.sl 1 (λi0=>iZ (c i0)) l] (bX true) []:=by
 have hn3:n<=3:=by omega
 have hm3:m<=3:=by omega
 have hcm:=jQ (kd:=oK R) m
 have hsm:s.m=m:=by rw[hs];rfl
 have hsN:s.N=n+cntK (oK R) m:=by rw[hs];rfl
 exact kP (ch:=[.reg 1 [(0,.callS (bX true) [])],.dec 14 false,.dec 17 false,.reg 5 [(1,.callS (.agg (c2 (.sl 1 (λi0=>iZ ((oC cs) i0)) n) (.sl 3 (λi0=>.agg (c3 (.sl 1 (λi1=>iZ ((oA R) i0 i1)) n) (iZ (oK R i0)) (iZ (oB R i0)))) m))) []),(2,.call [.agg (c2 (.sl 1 (λi0=>iZ ((oC cs) i0)) n) (.sl 3 (λi0=>.agg (c3 (.sl 1 (λi1=>iZ ((oA R) i0 i1)) n) (iZ ((oK R) i0)) (iZ ((oB R) i0)))) m))] (s16 (zA n (oK R) (oA R)) (oB R) (zC n (oC cs)) n (n+cntK (oK R) m) m) [])],.reg 6 [(1,.callS (.agg (c2 (.sl 3 (λi0=>.rat ((oC cs i0:Int):Rat)) n) (.sl 5 (λi0=>.agg (c3 (.sl 3 (λi1=>.rat ((oA R i0 i1:Int):Rat)) n) (iZ (oK R i0)) (.rat ((oB R i0:Int):Rat)))) m))) []),(2,.call [.agg (c2 (vE (qC1 cs) n) (.sl 5 (λi0=>.agg (c3 (.sl 3 (λi1=>.rat ((cZ (oA R)) i0 i1)) n) (iZ ((oK R) i0)) (.rat ((qB1 R) i0)))) m))] (c2 (.agg (.cn (.agg (c2 (.sl 1 (mE (stA n (oK R) (cZ (oA R))) (n+cntK (oK R) m)) m) (iN (n+cntK (oK R) m)))) (.cn (vE (qB1 R) m) (c3 (vE (stC n (qC1 cs)) (n+cntK (oK R) m)) (iN n) (.sl 1 (λi0=>iZ ((stL n (oK R)) i0)) m))))) (.ex (.nilIface))) [])],.conv 7 [(0,.id 0),(1,.id 1),(2,.id 2)] ⟨[(1,.sl 1 (λi0=>iZ (c i0)) l),(2,.own 0 0),(5,.own 1 0),(6,.own 2 0)],[(0,.one (.var 26 (smS cz cs R lr))),(1,.one (.var 31 (s16 (zA n (oK R) (oA R)) (oB R) (zC n (oC cs)) n (n+cntK (oK R) m) m))),(2,.one (.var 43 (stT s)))],3⟩,.reg 7 [(2,.call [stT s,.sl 1 (λi0=>iN (s.L i0)) s.m] (c2 (.own 0 0) (.ex (.nilIface))) (tabI s))],.reg 8 [(2,.callS (bX (decide (IsZ (zA n (oK R) (oA R)) m (n+cntK (oK R) m) c l))) [])],.dec 35 true,.reg 9 [(5,.sure .no)]]) Tryz.func3 (let y0:=(decide (IsZ (zA n (oK R) (oA R)) m (n+cntK (oK R) m) c l));let y1:=((!(false&&true))==true);(∀j0,j0<lr->True)/\(∀j0,j0<l->True)/\(CallOK Tryz.prog 9 [] (bX true) [])/\((!true)=false)/\((decide ((5:Int)<(l:Int)))=false)/\(CallOK Tryz.prog 11 [smS cz cs R lr] (.agg (c2 (.sl 1 (λi0=>iZ ((oC cs) i0)) n) (.sl 3 (λi0=>.agg (c3 (.sl 1 (λi1=>iZ ((oA R) i0 i1)) n) (iZ (oK R i0)) (iZ (oB R i0)))) m))) [])/\(CallOK Tryz.prog 10 [.agg (c2 (.sl 1 (λi0=>iZ ((oC cs) i0)) n) (.sl 3 (λi0=>.agg (c3 (.sl 1 (λi1=>iZ ((oA R) i0 i1)) n) (iZ ((oK R) i0)) (iZ ((oB R) i0)))) m))] (s16 (zA n (oK R) (oA R)) (oB R) (zC n (oC cs)) n (n+cntK (oK R) m) m) [])/\_/\_/\_/\(∀j0,j0<m->((n:Nat)=n)/\(∀j1,j1<n->(((oA R) j0 j1:Int)=((oA R) j0 j1)))/\((oK R j0:Int)=((oK R) j0))/\((oB R j0:Int)=((oB R) j0)))/\(CallOK Tryz.prog 13 [smS cz cs R lr] (.agg (c2 (.sl 3 (λi0=>.rat ((oC cs i0:Int):Rat)) n) (.sl 5 (λi0=>.agg (c3 (.sl 3 (λi1=>.rat ((oA R i0 i1:Int):Rat)) n) (iZ (oK R i0)) (.rat ((oB R i0:Int):Rat)))) m))) [])/\(CallOK Tryz.prog 12 [.agg (c2 (vE (qC1 cs) n) (.sl 5 (λi0=>.agg (c3 (.sl 3 (λi1=>.rat ((cZ (oA R)) i0 i1)) n) (iZ ((oK R) i0)) (.rat ((qB1 R) i0)))) m))] (c2 (.agg (.cn (.agg (c2 (.sl 1 (mE (stA n (oK R) (cZ (oA R))) (n+cntK (oK R) m)) m) (iN (n+cntK (oK R) m)))) (.cn (vE (qB1 R) m) (c3 (vE (stC n (qC1 cs)) (n+cntK (oK R) m)) (iN n) (.sl 1 (λi0=>iZ ((stL n (oK R)) i0)) m))))) (.ex (.nilIface))) [])/\_/\(∀j0,j0<n->((((oC cs j0:Int):Rat):Rat)=((qC1 cs) j0)))/\_/\(∀j0,j0<m->((n:Nat)=n)/\(∀j1,j1<n->((((oA R j0 j1:Int):Rat):Rat)=((cZ (oA R)) j0 j1)))/\((oK R j0:Int)=((oK R) j0))/\((((oB R j0:Int):Rat):Rat)=((qB1 R) j0)))/\_/\_/\_/\_/\_/\_/\_/\_/\_/\_/\_/\_/\_/\_/\_/\_/\_/\_/\((m:Nat)=s.m)/\(∀j0,j0<m->((n+cntK (oK R) m:Nat)=s.N)/\(∀j1,j1<(n+cntK (oK R) m)->(((stA n (oK R) (cZ (oA R))) j0 j1:Rat)=(s.A j0 j1))))/\(((n+cntK (oK R) m:Nat):Int)=((s.N:Nat):Int))/\((m:Nat)=s.m)/\(∀j0,j0<m->(((qB1 R) j0:Rat)=(s.Bv j0)))/\((n+cntK (oK R) m:Nat)=s.N)/\(∀j0,j0<(n+cntK (oK R) m)->(((stC n (qC1 cs)) j0:Rat)=(s.Cs j0)))/\((n:Int)=((s.n:Nat):Int))/\((m:Nat)=s.m)/\(∀j0,j0<m->(((stL n (oK R)) j0:Int)=(s.Lf j0)))/\(CallOK Tryz.prog 14 [stT s,.sl 1 (λi0=>iN (s.L i0)) s.m] (c2 (.own 0 0) (.ex (.nilIface))) (tabI s))/\_/\_/\_/\_/\_/\_/\_/\_/\_/\_/\((l:Nat)=s.m)/\(∀j0,j0<l->((c j0:Int)=(s.L j0:Int)))/\(CallOK Tryz.prog 15 [s16 (zA n (oK R) (oA R)) (oB R) (zC n (oC cs)) n (n+cntK (oK R) m) m,.sl 1 (λi0=>iZ (c i0)) l] (bX y0) [])/\(y0=true)/\(y1=true->y1=true)/\((!(false&&true))=true)/\(y1=true)/\(_))
  ⟨(λ_ _=>trivial),(λ_ _=>trivial),sAwake17,rfl,(decide_eq_false zo),(sOne16 (cz:=cz) (lr:=lr) (cs:=cs) (R:=R) hn hm),(sStd16 (c:=(oC cs)) (b:=(oB R)) (kd:=(oK R)) (a:=(oA R)) (n:=n) (m:=m) zo zo (λi _=>kz_in _)),(rf n),(leS (λi0=>iZ ((oC cs) i0)) n),(rf m),(λj0 hj0=>⟨rfl,(λj1 hj1=>rfl),rfl,rfl⟩),(sSame16 (cz:=cz) (lr:=lr) (cs:=cs) (R:=R) hn hm),(sStandard (c:=(qC1 cs)) (q:=(cZ (oA R))) (kd:=(oK R)) (b:=(qB1 R)) (n:=n) (m:=m) zo zo (λi _=>kz_in _)),(rf n),(λj0 hj0=>rfl),(rf m),(λj0 hj0=>⟨rfl,(λj1 hj1=>rfl),rfl,rfl⟩),(rf l),(leS (λi0=>iZ (c i0)) l),(rf 0),(rf 0),(rf 0),(rf (cz:Int)),(rf (cs 0:Int)),(rf (cs 1:Int)),(rf (cs 2:Int)),(rf lr),(leS (λi0=>.agg (.cn (.ex (.int .i8 (R i0 0))) (.cn (.ex (.int .i8 (R i0 1))) (c3 (.ex (.int .i8 (R i0 2))) (.ex (.int .i8 (R i0 3))) (.ex (.int .i8 (R i0 4))))))) lr),(rf m),(leS (zE (zA n (oK R) (oA R)) (n+cntK (oK R) m)) m),(rf m),(leS (λi0=>iZ ((oB R) i0)) m),(rf (n+cntK (oK R) m:Nat)),(leS (λi0=>iZ ((zC n (oC cs)) i0)) (n+cntK (oK R) m)),(rf (n:Int)),(by first | rfl | (rw[hs];rfl)),(λj0 hj0=>⟨(by first | rfl | (rw[hs];rfl)),(λj1 hj1=>(by first | rfl | (rw[hs];rfl)))⟩),(by first | rfl | (rw[hs];rfl)),(by first | rfl | (rw[hs];rfl)),(λj0 hj0=>(by first | rfl | (rw[hs];rfl))),(by first | rfl | (rw[hs];rfl)),(λj0 hj0=>(by first | rfl | (rw[hs];rfl))),(by first | rfl | (rw[hs];rfl)),(by first | rfl | (rw[hs];rfl)),(λj0 hj0=>(by first | rfl | (rw[hs];rfl))),(sTNewS (s:=s) (by rw[hs];rfl) (by rw[hs];exact nS_ok hn3 hm3 (λk hk=>good_lt (hall k hk)) (good_dis hall) hz)),(rf (s.m:Nat)),(leS (mE s.A s.N) s.m),(rf ((s.N:Nat):Int)),(rf (s.m:Nat)),(leS (λi0=>.rat (s.Bv i0)) s.m),(rf (s.N:Nat)),(leS (λi0=>.rat (s.Cs i0)) s.N),(rf ((s.n:Nat):Int)),(rf (s.m:Nat)),(leS (λi0=>iZ (s.Lf i0)) s.m),zo,(λj0 hj0=>(by rw[hs];exact good_eq (hall j0 zo))),(sIs16 (A:=(zA n (oK R) (oA R))) (Bz:=(oB R)) (Cz:=(zC n (oC cs))) (n:=n) (N:=n+cntK (oK R) m) (m:=m) (c:=c) (l:=l) zo zo zT_9),(decide_eq_true ⟨by rw[hl];exact hall,hl,hz⟩),id,(by first | rfl | (simp;done)),(by first | rfl | (simp;done)),(rf (true:Bool))⟩
theorem sTabNews{cz lr l:Nat}{cs c:Nat->Int}{R:Nat->Nat->Int}:CallOK Tryz.prog 3 [smS cz cs R lr,.sl 1 (λi0=>iZ (c i0)) l] (bX true) []:=by
 by_cases h5:5<l
 ·exact sTabNews_big h5
 by_cases hl:l=min lr 3
 ·by_cases hall:∀i,i<min lr 3->xJ c (cz%4+cntK (oK R) (min lr 3)) i
  ·by_cases hz:detZ (min lr 3) (λi j=>zT (cz%4) R i (c j).toNat)=0
   ·exact sTabNews_sing rfl rfl rfl zo hl hall hz
   ·exact sTabNews_yes rfl rfl rfl zo hl hall hz
  ·have hex:∃k,k<min lr 3/\¬xJ c (cz%4+cntK (oK R) (min lr 3)) k:=Classical.byContradiction λh=>hall λi hi=>Classical.byContradiction λq=>h ⟨i,hi,q⟩
   obtain⟨k,⟨hk,h1⟩,hl2⟩:=least_k hex
   exact sTabNews_col rfl rfl rfl zo hl hk (λi hi=>Classical.byContradiction λq=>hl2 i hi ⟨by omega,q⟩) h1
 ·exact sTabNews_len rfl rfl rfl zo hl
open Go.ChangeShapes Go.WideShapes Go.ChangeAt Go.RowKit
section
variable {H:Type} {enc:TypeId×Value->H} {P:Program}
theorem trodAll_below(hl:laidOutB P=true){W W':World}(hb:Below W.heap.size W W'):∀{ts:List TypeId} {vs:List Value} {ds:List (DataW H)} {ps:List MemPlace},
  (∀t∈ts,P.readableRec t=true/\t<P.types.size)->DataW.TrodAll enc P W 0 (λ_=>true) true ts vs ds ps->(∀x∈ps,x.block<W.heap.size)->
  DataW.TrodAll enc P W' 0 (λb=>decide (b<W.heap.size)) true ts vs ds ps
 | [],_,_,_,_,h,_=>by
  obtain⟨rfl,rfl,rfl⟩:=trodAll_nil h
  exact trodAll_mk0
 | t::ts,_,_,_,ht,h,hlt=>by
  obtain⟨v,vs1,d,ds1,a,b,rfl,rfl,rfl,h1,h2⟩:=trodAll_cons h
  have ht0:=ht t (List.mem_cons_self ..)
  exact trodAll_cons_mk (Below.trod hl ht0.1 ht0.2 h1 hb (λx hx=>hlt x (List.mem_append.2 (.inl hx))))
   (trodAll_below hl hb (λt' h'=>ht t' (List.mem_cons_of_mem _ h')) h2 (λx hx=>hlt x (List.mem_append.2 (.inr hx))))
theorem law_post{f:Func}{s:ChangeSpec}{W W':World}{args:Array Value}{ds gs:List (DataW H)}{before:List MemPlace}{tb:TypeId}(hl:laidOutB P=true)
  (hts:∀t∈f.params.toList,P.readableRec t=true/\t<P.types.size)(hvars:s.vars=[])(hrt:f.resultTypes=#[tb])(htb:P.underlying tb=some .bool)
  (hW:DataW.Whole enc P f.params.toList s.vars false W args.toList ds gs before)(hfr:(s.fn H (ds++gs)).results=[.lit (.bool true)])(hfa:(s.fn H (ds++gs)).args=ds)(hfv:(s.fn H (ds++gs)).vars=[])
  (hb:Below W.heap.size W W'):s.post enc P f false true false false W args (.bool true) W':=by
 have hW0:=hW
 obtain⟨p,q,hA,hV,rfl,hz,hn⟩:=hW
 rw[hvars] at hV
 obtain⟨rfl,rfl⟩:=trodVars_none hV
 have hlt:∀x∈p++[],x.block<W.heap.size:=λx hx=>hW0.lt x hx
 refine⟨ds,[],p++[],[],p,[],hW0,?_,?_,?_,hb.frame _,λh=>by cases h⟩
 ·rw[hfr,hrt]
  exact trodAll_mk1 (shut_bool htb true)
 ·rw[hfa]
  exact trodAll_below hl hb hts hA (λx hx=>hlt x (by simpa using hx))
 ·rw[hvars,hfv]
  rfl
end
theorem TryzlaidOut:laidOutB Tryz.prog=true:=by kernel_rfl
theorem Tryzown:ownKnob Tryz.prog.godebug=none:=by kernel_rfl
open Go.ChangeShapes Go.WideShapes Go.ChangeAt Go.RowKit Go.Deep
def R0 (a:SV) (W:World) (v:Value):Prop:=a.R (λ_ _=>none) (λ_=>False) W v
section
variable {H:Type} {enc:TypeId×Value->H} {W:World} {fuel base:Nat} {cs:List Value} {x:DataW H×List MemPlace}
def LongC (n:Nat) (d:DataW H) (C:Nat->DataW H->Prop):Prop:=(n=0/\d=.nil)∨∃(D:Nat->DataW H) (sp:List (DataW H)),d=.slice ((List.range n).map D) sp/\∀i,i<n->C i (D i)
def Opens (enc:TypeId×Value->H) (W:World) (T:TypeId) (s:Nat) {α:Type} (E:α->SV) (C:α->DataW H->Prop):Prop:=∀fuel cs x,DataW.trod enc Tryz.prog W 0 (λ_=>true) true fuel T cs=some x->∃(t:α) (ev:Value),cs=ev.cells.toList/\ev.cells.size=s/\One ev/\R0 (E t) W ev/\C t x.1
theorem choose_nat{α:Type}(d:α){p:Nat->α->Prop}{n:Nat}(h:∀i,i<n->∃t,p i t):∃t:Nat->α,∀i,i<n->p i (t i):=by
 classical
 exact⟨λi=>if hi:i<n then(h i hi).choose else d,λi hi=>by simpa [hi] using(h i hi).choose_spec⟩
theorem cellLt{a:Addr}{v:Value}(h:W.cell? a=some v):a.block<W.heap.size:=by
 unfold World.cell? at h
 split at h
 ·rename_i hh
  exact(Array.getElem?_eq_some_iff.1 hh).1
 all_goals cases h
theorem opens_sl{T e:TypeId}{s:Nat}{α:Type}{E:α->SV}{C:α->DataW H->Prop}(d:α)(hT:Tryz.prog.underlying T=some (.slice e))(hs:Tryz.prog.cellsOf e=s)(h0:0<s)(h:Opens enc W e s E C):
  Opens enc W T 1 (λt:Nat×(Nat->α)=>.sl s (λi=>E (t.2 i)) t.1) (λt d=>LongC t.1 d λi d'=>C (t.2 i) d'):=by
 intro fuel cs x hr
 rcases open_slice hT hr with⟨rfl,rfl⟩ | ⟨a,len,cap,m,k,D,Pl,rfl,_,hl,hm,hmm,rfl,hx⟩
 ·exact⟨(0,λ_=>d),.slice none 0 0,rfl,rfl,by simp[One,Value.cells,Value.oneCell'],⟨none,0,rfl,λ_=>⟨rfl,rfl⟩,Nat.le_refl _,Nat.zero_le _,λi hi=>by omega⟩,.inl ⟨rfl,rfl⟩⟩
 ·have hm':m=cap:=by rw[hmm];rfl
  subst hs
  rcases Nat.eq_zero_or_pos len with rfl | hpos
  ·exact⟨(0,λ_=>d),.slice (some a) 0 cap,rfl,rfl,by simp[One,Value.cells,Value.oneCell'],⟨some a,cap,rfl,(λe=>by cases e),Nat.zero_le _,hm,λi hi=>by omega⟩,.inr ⟨D,_,rfl,λi hi=>by omega⟩⟩
  have hspot:a.spot=none:=by
   obtain⟨cs',hc,_⟩:=hx 0 zo
   obtain⟨_,hlen,hcell⟩:=World.cells?_some hc
   have h1:=hcell 0 h0
   rw[List.getElem?_eq_getElem (by rw[hlen];exact h0)] at h1
   have:=World.cell?_spot h1
   simpa [Addr.add] using this
  obtain⟨g,o,sp⟩:=a
  simp only at hspot
  subst hspot
  have hone:∀i,i<len->∃t:α,(∃g' o',some (⟨g,o,none⟩:Addr)=some ⟨g',o',none⟩/\g'<W.heap.size/\∃ev:Value,(ev.cells.size=Tryz.prog.cellsOf e/\One ev)/\R0 (E t) W ev/\∀j u,ev.cells[j]?=some u->W.cell? ⟨g',(o'+Tryz.prog.cellsOf e*i)+j,none⟩=some u)/\C t (D i):=λi hi=>by
   obtain⟨cs',hc,ht⟩:=hx i zo
   obtain⟨t,ev,rfl,k1,k2,k3,k4⟩:=h _ _ _ ht
   obtain⟨_,hlen,hcell⟩:=World.cells?_some hc
   have hcell:∀j,j<Tryz.prog.cellsOf e->W.cell? ⟨g,o+Tryz.prog.cellsOf e*i+j,none⟩=ev.cells.toList[j]?:=λj hj=>by
    have:=hcell j hj
    rw[add_plain,add_plain] at this
    rw[←this,Nat.mul_comm i]
   have hg:g<W.heap.size:=by
    have h1:=hcell 0 h0
    rw[List.getElem?_eq_getElem (by rw[hlen];exact h0)] at h1
    exact cellLt h1
   refine⟨t,⟨g,o,rfl,hg,ev,⟨k1,k2⟩,k3,λj u hj=>?_⟩,k4⟩
   have hj3:j<ev.cells.size:=(Array.getElem?_eq_some_iff.1 hj).1
   rw[hcell j zo]
   simpa using hj
  obtain⟨t,ht⟩:=choose_nat d hone
  refine⟨(len,t),.slice (some ⟨g,o,none⟩) len cap,rfl,rfl,by simp[One,Value.cells,Value.oneCell'],⟨some ⟨g,o,none⟩,cap,rfl,(λe=>by cases e),hl,hm,λi hi=>?_⟩,.inr ⟨_,_,rfl,λi hi=>(ht i hi).2⟩⟩
  obtain⟨g,o,e1,e2,ev,e3,e4,e5⟩:=(ht i hi).1
  exact⟨g,o,e1,id,e2,ev,e3,e4,e5⟩
theorem opens_int{T:TypeId}(hT:Tryz.prog.underlying T=some (.int .i64)):Opens enc W T 1 (λz:Int=>.ex (.int .i64 z)) (λz _=>Wd64 z):=by
 intro fuel cs x hx
 obtain⟨p,hp,_,wp⟩:=DataW.trod_int hT hx
 have:-9223372036854775808<=p/\p<=9223372036854775807:=by simpa [Lit.wf,IntKind.min,IntKind.max,IntKind.signed,IntKind.bits] using wp
 exact⟨p,.int .i64 p,hp,rfl,by simp[One,Value.cells,Value.oneCell'],rfl,this.1,by omega⟩
theorem flat_agg{vs:List Value}(h:∀v∈vs,One v):One (.agg (flat vs).toArray):=by
 intro u hu
 rw[agg_cells] at hu
 obtain⟨v,hv,hu⟩:=List.mem_flatMap.1 hu
 exact h v hv u hu
theorem opens_slV{T e:TypeId}{s:Nat}{α:Type}{E:α->SV}{C:α->DataW H->Prop}{v:Value}{d:DataW H}{ps:List MemPlace}(hT:Tryz.prog.underlying T=some (.slice e))(hv:Value.okWide Tryz.prog W .any base T v)(h:DataW.Trod enc Tryz.prog W 0 (λ_=>true) true T v d ps)
  (k:Opens enc W T 1 (λt:Nat×(Nat->α)=>.sl s (λi=>E (t.2 i)) t.1) (λt d=>LongC t.1 d λi d'=>C (t.2 i) d')):∃(n:Nat) (t:Nat->α),R0 (.sl s (λi=>E (t i)) n) W v/\LongC n d λi d'=>C (t i) d':=by
 obtain⟨a,len,cap,rfl⟩:=okWide_slice hT hv
 obtain⟨fuel,hf⟩:=h
 obtain⟨t,ev,e,_,_,hR,hC⟩:=k _ _ _ hf
 have hev:ev=.slice a len cap:=by
  obtain⟨A0,c,rfl,_⟩:=hR
  have e:[Value.slice a len cap]=[Value.slice A0 t.1 c]:=e
  exact(List.cons.inj e).1.symm
 subst hev
 exact⟨t.1,t.2,hR,hC⟩
theorem opens_aggV{T:TypeId}{fs:Array Field}{s:Nat}{α:Type}{E:α->SV}{C:α->DataW H->Prop}{v:Value}{d:DataW H}{ps:List MemPlace}(hT:Tryz.prog.underlying T=some (.struct fs))(hv:Value.okWide Tryz.prog W .any base T v)(h:DataW.Trod enc Tryz.prog W 0 (λ_=>true) true T v d ps)
  (k:Opens enc W T s (λt:α=>.agg (E t)) C):∃t:α,R0 (.agg (E t)) W v/\C t d:=by
 obtain⟨cs,rfl,_⟩:=okWide_struct hT hv
 obtain⟨fuel,hf⟩:=h
 obtain⟨t,ev,e,_,_,hR,hC⟩:=k _ _ _ hf
 have hev:ev=.agg cs:=by
  obtain⟨vs,rfl,_⟩:=hR
  rw[agg_cells] at e
  have e:cs.toList=flat vs:=e
  rw[←e]
 subst hev
 exact⟨t,hR,hC⟩
end
def fracS (t:Int×Int):SV:=.agg (.cn (.ex (.int .i64 t.1)) (.cn (.ex (.int .i64 t.2)) .nl))
def rowS (t:Nat×(Nat->Int×Int)):SV:=.sl 2 (λi=>fracS (t.2 i)) t.1
theorem CallOK.law{f:FuncId}{As:List SV}(h:CallOK Tryz.prog f As (bX true) []){W:World}{vals:List Value}(hA:xU As (λ_ _=>none) (λ_=>False) W vals)(hg:Gl W:=by intro _ e;cases e):Calls Tryz.prog f vals.toArray W λe W'=>∃v,e=.returned v/\Below W.heap.size W W'/\v=.bool true:=
 (h.run (λ_ _=>none) (λ_=>False) W vals ⟨λ_ h=>h.elim,hg⟩ hA).mono λ_ _ ⟨v,_,e1,hp,hR⟩=>⟨v,e1,hp.mod.grow,hR⟩
open Go.ChangeShapes Go.WideShapes Go.ChangeAt Go.RowKit Go.Deep
section
variable {H:Type} {enc:TypeId×Value->H} {W:World} {base:Nat} {v:Value} {d:DataW H} {ps:List MemPlace}
theorem LongC.at{n:Nat}{d:DataW H}{C:Nat->DataW H->Prop}(h:LongC n d C):∀i,i<n->∃d',C i d':=λi hi=>by
 rcases h with⟨rfl,_⟩ | ⟨D,_,_,k⟩
 ·omega
 ·exact⟨D i,k i hi⟩
theorem opens_u8{T:TypeId}(hT:Tryz.prog.underlying T=some (.int .u8)):Opens enc W T 1 (λz:Nat=>.ex (.int .u8 (z:Int))) (λz _=>z<256):=by
 intro fuel cs x hx
 obtain⟨p,hp,_,wp⟩:=DataW.trod_int hT hx
 have:0<=p/\p<=255:=by simpa [Lit.wf,IntKind.min,IntKind.max,IntKind.signed,IntKind.bits] using wp
 exact⟨p.toNat,.int .u8 p,hp,rfl,by simp[One,Value.cells,Value.oneCell'],by show Value.int .u8 p=.int .u8 ((p.toNat:Nat):Int);rw[Int.toNat_of_nonneg this.1],by omega⟩
end
section
variable {H:Type} {enc:TypeId×Value->H} {W:World} {base:Nat} {v:Value} {d:DataW H} {ps:List MemPlace}
theorem LongC.wf{n:Nat}{d:DataW H}{f:Nat->Nat}(h:LongC n d λi _=>f i<18446744073709551616):Wf f n:=λi hi=>by
 obtain⟨_,k⟩:=h.at i hi
 exact k
theorem top_ints(hv:Value.okWide Tryz.prog W .any base 27 v)(h:DataW.Trod enc Tryz.prog W 0 (λ_=>true) true 27 v d ps):∃(n:Nat) (t:Nat->Int),R0 (.sl 1 (λi=>iZ (t i)) n) W v/\∀i,i<n->Wd64 (t i):=by
 obtain⟨n,t,hR,hL⟩:=opens_slV (E:=λz:Int=>.ex (.int .i64 z)) (C:=λz _=>Wd64 z) Tryz.underlying27 hv h (opens_sl (E:=λz:Int=>.ex (.int .i64 z)) (C:=λz _=>Wd64 z) 0 Tryz.underlying27 zk zd (opens_int Tryz.underlying3))
 exact⟨n,t,hR,λi hi=>by obtain⟨_,k⟩:=hL.at i hi;exact k⟩
end
open Go.ChangeShapes Go.WideShapes Go.ChangeAt Go.RowKit Go.Deep
section
variable {H:Type} {enc:TypeId×Value->H} {W:World}
theorem opens_three{T:TypeId}{f0 f1 f2:Field}{s0 s1 s2:Nat}{α β γ:Type}{E0:α->SV}{E1:β->SV}{E2:γ->SV}{C0:α->DataW H->Prop}{C1:β->DataW H->Prop}{C2:γ->DataW H->Prop}(hT:Tryz.prog.underlying T=some (.struct #[f0,f1,f2]))(h0:f0.offset=0)(h1:f1.offset=s0)(h2:f2.offset=s0+s1)(c0:Tryz.prog.cellsOf f0.type=s0)(c1:Tryz.prog.cellsOf f1.type=s1)(c2:Tryz.prog.cellsOf f2.type=s2)(c:Tryz.prog.cellsOf T=s0+s1+s2)
  (k0:Opens enc W f0.type s0 E0 C0)(k1:Opens enc W f1.type s1 E1 C1)(k2:Opens enc W f2.type s2 E2 C2):Opens enc W T (s0+s1+s2) (λt:α×(β×γ)=>.agg (.cn (E0 t.1) (.cn (E1 t.2.1) (.cn (E2 t.2.2) .nl)))) (λt d=>∃d0 d1 d2,d=.agg [d0,d1,d2]/\C0 t.1 d0/\C1 t.2.1 d1/\C2 t.2.2 d2):=by
 intro fuel cs x hr
 obtain⟨xs,n,_,rfl,hl,hxl,hf⟩:=DataW.trod_struct hT hr
 match xs,hxl with
 | [y0,y1,y2],_=>
  have r0:=hf 0 f0 rfl
  have r1:=hf 1 f1 rfl
  have r2:=hf 2 f2 rfl
  obtain⟨t0,e0,z0,a0,o0,b0,g0⟩:=k0 _ _ _ r0
  obtain⟨t1,e1,z1,a1,o1,b1,g1⟩:=k1 _ _ _ r1
  obtain⟨t2,e2,z2,a2,o2,b2,g2⟩:=k2 _ _ _ r2
  rw[h0,c0,List.drop_zero] at z0
  rw[h1,c1] at z1
  rw[h2,c2] at z2
  have hcs:cs=flat [e0,e1,e2]:=by
   show cs=e0.cells.toList++(e1.cells.toList++(e2.cells.toList++[]))
   rw[←z0,←z1,←z2,List.append_nil,List.take_of_length_le (l:=List.drop (s0+s1) cs) (by rw[List.length_drop];omega),←List.drop_drop,List.take_append_drop,List.take_append_drop]
  refine⟨(t0,t1,t2),.agg (flat [e0,e1,e2]).toArray,by rw[agg_cells,hcs],?_,flat_agg λv hv=>?_,⟨[e0,e1,e2],rfl,e0,[e1,e2],rfl,b0,e1,[e2],rfl,b1,e2,[],rfl,b2,rfl⟩,y0.1,y1.1,y2.1,rfl,g0,g1,g2⟩
  ·show(flat [e0,e1,e2]).toArray.size=_
   rw[←hcs]
   simp only[List.size_toArray]
   omega
  ·simp only[List.mem_cons,List.not_mem_nil,or_false] at hv
   rcases hv with rfl | rfl | rfl
   ·exact o0
   ·exact o1
   ·exact o2
end
open Go.ChangeShapes Go.WideShapes Go.ChangeAt Go.RowKit Go.Deep
section
variable {H:Type} {enc:TypeId×Value->H} {W:World}
theorem trod_i8{e:TypeId}{fuel:Nat}{c:Value}{x:DataW H×List MemPlace}(he:Tryz.prog.underlying e=some (.int .i8))(h:DataW.trod enc Tryz.prog W 0 (λ_=>true) true fuel e [c]=some x):∃p,c=.int .i8 p:=by
 obtain⟨p,hp,_⟩:=DataW.trod_int he h
 exact⟨p,by simpa using hp⟩
theorem opens_a3{T e:TypeId}(hT:Tryz.prog.underlying T=some (.array 3 e))(he:Tryz.prog.underlying e=some (.int .i8))(c1:Tryz.prog.cellsOf e=1)(c3:Tryz.prog.cellsOf T=3):Opens enc W T 3 (λf:Nat->Int=>.agg (.cn (.ex (.int .i8 (f 0))) (.cn (.ex (.int .i8 (f 1))) (.cn (.ex (.int .i8 (f 2))) .nl)))) (λ_ _=>True):=by
 intro fuel cs x hr
 obtain⟨xs,m,_,_,hl,hxl,hf⟩:=DataW.trod_array hT hr
 rw[c3] at hl
 match cs,hl,xs,hxl with
 | [a0,a1,a2],_,[y0,y1,y2],_=>
  have r0:=hf 0 zd
  have r1:=hf 1 zd
  have r2:=hf 2 zd
  rw[c1] at r0 r1 r2
  obtain⟨p0,rfl⟩:=trod_i8 he r0
  obtain⟨p1,rfl⟩:=trod_i8 he r1
  obtain⟨p2,rfl⟩:=trod_i8 he r2
  exact⟨λi=>if i=0 then p0 else if i=1 then p1 else p2,.agg #[.int .i8 p0,.int .i8 p1,.int .i8 p2],rfl,rfl,flat_agg (vs:=[.int .i8 p0,.int .i8 p1,.int .i8 p2]) (λv hv=>by simp only[List.mem_cons,List.not_mem_nil,or_false] at hv;rcases hv with rfl | rfl | rfl<;>simp[One,Value.cells,Value.oneCell']),
   ⟨[.int .i8 p0,.int .i8 p1,.int .i8 p2],rfl,.int .i8 p0,[.int .i8 p1,.int .i8 p2],rfl,rfl,.int .i8 p1,[.int .i8 p2],rfl,rfl,.int .i8 p2,[],rfl,rfl,rfl⟩,trivial⟩
theorem opens_a5{T e:TypeId}(hT:Tryz.prog.underlying T=some (.array 5 e))(he:Tryz.prog.underlying e=some (.int .i8))(c1:Tryz.prog.cellsOf e=1)(c5:Tryz.prog.cellsOf T=5):Opens enc W T 5 (λf:Nat->Int=>.agg (.cn (.ex (.int .i8 (f 0))) (.cn (.ex (.int .i8 (f 1))) (.cn (.ex (.int .i8 (f 2))) (.cn (.ex (.int .i8 (f 3))) (.cn (.ex (.int .i8 (f 4))) .nl)))))) (λ_ _=>True):=by
 intro fuel cs x hr
 obtain⟨xs,m,_,_,hl,hxl,hf⟩:=DataW.trod_array hT hr
 rw[c5] at hl
 match cs,hl,xs,hxl with
 | [a0,a1,a2,a3,a4],_,[y0,y1,y2,y3,y4],_=>
  have r0:=hf 0 zd
  have r1:=hf 1 zd
  have r2:=hf 2 zd
  have r3:=hf 3 zd
  have r4:=hf 4 zd
  rw[c1] at r0 r1 r2 r3 r4
  obtain⟨p0,rfl⟩:=trod_i8 he r0
  obtain⟨p1,rfl⟩:=trod_i8 he r1
  obtain⟨p2,rfl⟩:=trod_i8 he r2
  obtain⟨p3,rfl⟩:=trod_i8 he r3
  obtain⟨p4,rfl⟩:=trod_i8 he r4
  exact⟨λi=>if i=0 then p0 else if i=1 then p1 else if i=2 then p2 else if i=3 then p3 else p4,.agg #[.int .i8 p0,.int .i8 p1,.int .i8 p2,.int .i8 p3,.int .i8 p4],rfl,rfl,flat_agg (vs:=[.int .i8 p0,.int .i8 p1,.int .i8 p2,.int .i8 p3,.int .i8 p4]) (λv hv=>by simp only[List.mem_cons,List.not_mem_nil,or_false] at hv;rcases hv with rfl | rfl | rfl | rfl | rfl<;>simp[One,Value.cells,Value.oneCell']),
   ⟨[.int .i8 p0,.int .i8 p1,.int .i8 p2,.int .i8 p3,.int .i8 p4],rfl,.int .i8 p0,[.int .i8 p1,.int .i8 p2,.int .i8 p3,.int .i8 p4],rfl,rfl,.int .i8 p1,[.int .i8 p2,.int .i8 p3,.int .i8 p4],rfl,rfl,.int .i8 p2,[.int .i8 p3,.int .i8 p4],rfl,rfl,.int .i8 p3,[.int .i8 p4],rfl,rfl,.int .i8 p4,[],rfl,rfl,rfl⟩,trivial⟩
end
abbrev SmallT:=Nat×((Nat->Int)×(Nat×(Nat->Nat->Int)))
def smallE (t:SmallT):SV:=.cn (.ex (.int .u8 ((t.1:Nat):Int))) (.cn (.agg (.cn (.ex (.int .i8 (t.2.1 0))) (.cn (.ex (.int .i8 (t.2.1 1))) (.cn (.ex (.int .i8 (t.2.1 2))) .nl)))) (.cn (.sl 5 (λi=>.agg (.cn (.ex (.int .i8 (t.2.2.2 i 0))) (.cn (.ex (.int .i8 (t.2.2.2 i 1))) (.cn (.ex (.int .i8 (t.2.2.2 i 2))) (.cn (.ex (.int .i8 (t.2.2.2 i 3))) (.cn (.ex (.int .i8 (t.2.2.2 i 4))) .nl)))))) t.2.2.1) .nl))
theorem opens_small{H:Type}{enc:TypeId×Value->H}{W:World}:Opens enc W 26 5 (λt:SmallT=>.agg (smallE t)) (λt d=>∃d0 d1 d2,d=.agg [d0,d1,d2]/\t.1<256/\True/\LongC t.2.2.1 d2 λ_ _=>True):=
 opens_three (s0:=1) (s1:=3) (s2:=1) Tryz.underlying26 rfl rfl rfl zk zk zk zk (opens_u8 Tryz.underlying5) (opens_a3 Tryz.underlying23 Tryz.underlying22 zk zk)
  (opens_sl (λ_=>0) Tryz.underlying24 zk zd (opens_a5 Tryz.underlying114 Tryz.underlying22 zk zk))
theorem top_small{H:Type}{enc:TypeId×Value->H}{W:World}{base:Nat}{v:Value}{d:DataW H}{ps:List MemPlace}(hv:Value.okWide Tryz.prog W .any base 26 v)(h:DataW.Trod enc Tryz.prog W 0 (λ_=>true) true 26 v d ps):∃t:SmallT,R0 (.agg (smallE t)) W v:=by
 obtain⟨t,hR,_⟩:=opens_aggV (E:=smallE) Tryz.underlying26 hv h opens_small
 exact⟨t,hR⟩
end Go.Proofs.YtjhfkgpjcdbjaaaGreatDoor
