/- The parts BW, BX, BY, Row, SO, SO2. -/
import Derived.Test.YtgighdoacajmfaaGreatDoorQ6
set_option maxRecDepth 100000
namespace Go.Proofs.YtgighdoacajmfaaGreatDoor
open Go.RowKit
def aC (k r:Nat):Rat:=((litLL [[1,0],[1,1]] k r:Int):Rat)
def aW (i:Nat):Rat:=((litI [0,5] i:Int):Rat)
def a22 (i:Nat):Rat:=((litI [2,2] i:Int):Rat)
def a16 (i:Nat):Rat:=((litI [1,6] i:Int):Rat)
def a00 (i:Nat):Rat:=((litI [0,0] i:Int):Rat)
def a772 (i:Nat):Rat:=((litI [7,7,2] i:Int):Rat)
def a32 (i:Nat):Rat:=((litI [3,2] i:Int):Rat)
abbrev aC1:Nat->Nat->Rat:=setC aC 0 aW
abbrev aE1:Etas:=setE noE 0 0 (zH (basX 2 (trM aC) aW) noE 0)
theorem aK0:BOK 2 (trM aC) aC noE 0:=.fresh (by unfold luOK;decide+kernel) (by unfold HtB;decide+kernel)
theorem aK1:BOK 2 (trM aC) aC1 aE1 (0+1):=aK0.put zd zd (by decide+kernel) (by decide+kernel) zd
theorem sAwake14:CallOK Tryz.prog 9 [] (bX true) []:=by
 exact kP (ch:=[.reg 1 [(0,.row 0 (λi0=>iZ (litI [1,0] i0))),(1,.callS (.sl 3 (λi0=>.rat (((litI [1,0]) i0:Int):Rat)) 2) []),(2,.row 0 (λi0=>iZ (litI [1,1] i0))),(3,.callS (.sl 3 (λi0=>.rat (((litI [1,1]) i0:Int):Rat)) 2) []),(4,.row 0 (mE aC 2)),(5,.callS (c2 (.own 0 0) (.ex (.nilIface))) [.one (bV 1 2 (luS 2 (trM aC) 2) 2),cC aC 2,.one (eE noE 2 0)])],.reg 2 [(5,.skip)],.dec 27 false,.reg 4 [(1,.row 0 (λi0=>iZ (litI [3,2] i0))),(2,.callS (.sl 3 (λi0=>.rat (((litI [3,2]) i0:Int):Rat)) 2) []),(3,.callM [0,1,2] [.one (bV 1 2 (luS 2 (trM aC) 2) 2),cC aC 2,.one (eE noE 2 0)] [.own 0 0,.sl 3 (λi0=>.rat (a32 i0)) 2] (c2 (.own 5 0) (bX true)) [.one (bV 3 4 (luS 2 (trM aC) 2) 2),.dead,.dead,cC aC 2,.one (eE noE 2 0),.one (.row 47 3 (λi0=>.rat ((zH (basX 2 (trM aC) a32) noE 0) i0)) 2)])],.reg 5 [(1,.row 0 (λi0=>iZ (litI [3,2] i0))),(2,.callS (.sl 3 (λi0=>.rat (((litI [3,2]) i0:Int):Rat)) 2) []),(3,.callM [0,3,4] [.one (bV 1 2 (luS 2 (trM aC) 2) 2),cC aC 2,.one (eE noE 2 0)] [.own 0 0,.sl 3 (λi0=>.rat (a32 i0)) 2] (c2 (.sl 3 (λi0=>.rat (basY 2 (trM aC) (zU 2 0 a32 noE 0) i0)) 2) (bX true)) [.one (bV 3 4 (luS 2 (trM aC) 2) 2),.dead,.dead,cC aC 2,.one (eE noE 2 0)])],.reg 6 [(1,.row 0 (λi0=>iZ (litI [2,2] i0))),(2,.callS (.sl 3 (λi0=>.rat (((litI [2,2]) i0:Int):Rat)) 2) []),(3,.callM [0,7,8] [.one (bV 1 2 (luS 2 (trM aC) 2) 2),cC aC 2,.one (eE noE 2 0)] [.own 0 0,iN 0,.sl 3 (λi0=>.rat (a22 i0)) 2] (.ifc 113 (.ep (.agg (c3 (.ex (.string sCol)) (iN 0) (.ex (.iface 63 (.int .i64 140))))))) [.one (bV 3 4 (luS 2 (trM aC) 2) 2),.dead,.dead,cC aC 2,.one (eE noE 2 0)])],.reg 7 [(1,.row 0 (λi0=>iZ (litI [0,5] i0))),(2,.callS (.sl 3 (λi0=>.rat (((litI [0,5]) i0:Int):Rat)) 2) []),(3,.callM [0,10,11] [.one (bV 1 2 (luS 2 (trM aC) 2) 2),cC aC 2,.one (eE noE 2 0)] [.own 0 0,iN 0,.sl 3 (λi0=>.rat (aW i0)) 2] (.ex (.nilIface)) [.one (bV 3 4 (luS 2 (trM aC) 2) 2),.dead,.dead,cC (setC aC 0 aW) 2,.one (eE (setE noE 0 0 (zH (basX 2 (trM aC) aW) noE 0)) 2 (0+1))])],.reg 8 [(1,.row 0 (λi0=>iZ (litI [1,6] i0))),(2,.callS (.sl 3 (λi0=>.rat (((litI [1,6]) i0:Int):Rat)) 2) []),(3,.callM [0,13,14] [.one (bV 1 2 (luS 2 (trM aC) 2) 2),cC aC1 2,.one (eE aE1 2 (0+1))] [.own 0 0,.sl 3 (λi0=>.rat (a16 i0)) 2] (c2 (.own 5 0) (bX true)) [.one (bV 3 4 (luS 2 (trM aC) 2) 2),.dead,.dead,cC aC1 2,.one (eE aE1 2 (0+1)),.one (.row 47 3 (λi0=>.rat ((zH (basX 2 (trM aC) a16) aE1 (0+1)) i0)) 2)])],.reg 9 [(1,.row 0 (λi0=>iZ (litI [0,0] i0))),(2,.callS (.sl 3 (λi0=>.rat (((litI [0,0]) i0:Int):Rat)) 2) []),(3,.row 0 (λi0=>iZ (litI [7,7,2] i0))),(4,.callS (.sl 3 (λi0=>.rat (((litI [7,7,2]) i0:Int):Rat)) 3) []),(5,.callM [0,16,17] [.one (bV 1 2 (luS 2 (trM aC) 2) 2),cC aC1 2,.one (eE aE1 2 (0+1))] [.own 0 0,.sl 3 (λi0=>.rat (a00 i0)) 2,.sl 3 (λi0=>.rat (a772 i0)) (2+1)] (c2 (.own 5 0) (.ex (.nilIface))) [.one (bV 3 4 (luS 2 (trM aC) 2) 2),.dead,.dead,cC aC1 2,.one (eE aE1 2 (0+1)),.one (bV 6 7 (luS (2+1) (trM (yD 2 aC1 a00 a772)) (2+1)) (2+1)),cC (yD 2 aC1 a00 a772) (2+1),.one (eE noE (2+1) 0)])],.reg 10 [(3,.row 0 (λi0=>iZ (litI [1,2] i0))),(4,.callS (.sl 3 (λi0=>.rat (((litI [1,2]) i0:Int):Rat)) 2) []),(5,.callS (bX (decide (2=2/\∀j:Nat,j<2->((zH (basX 2 (trM aC) a32) noE 0) j:Rat)=(((litI [1,2]) j:Int):Rat)))) []),(6,.sure .no),(9,.sure .no),(12,.row 0 (λi0=>iZ (litI [3,-1] i0))),(13,.callS (.sl 3 (λi0=>.rat (((litI [3,-1]) i0:Int):Rat)) 2) []),(14,.callS (bX (decide (2=2/\∀j:Nat,j<2->(basY 2 (trM aC) (zU 2 0 a32 noE 0) j:Rat)=(((litI [3,-1]) j:Int):Rat)))) []),(15,.sure .no),(18,.callS (bX true) []),(19,.sure .no),(23,.sure .no),(26,.callM [0,20,21] [.one (bV 1 2 (luS 2 (trM aC) 2) 2),cC aC1 2,.one (eE aE1 2 (0+1))] [.own 0 0] (iN (0+1)) [.one (bV 3 4 (luS 2 (trM aC) 2) 2),.dead,.dead,cC aC1 2,.one (eE aE1 2 (0+1))]),(28,.sure .no),(31,.sure .no),(34,.row 0 (λi0=>iZ (litI [1,1] i0))),(35,.callS (.sl 3 (λi0=>.rat (((litI [1,1]) i0:Int):Rat)) 2) []),(36,.callS (bX (decide (2=2/\∀j:Nat,j<2->((zH (basX 2 (trM aC) a16) aE1 (0+1)) j:Rat)=(((litI [1,1]) j:Int):Rat)))) []),(37,.sure .no),(41,.sure .no),(45,.sure .no),(48,.callM [22,23,24] [.one (bV 1 2 (luS (2+1) (trM (yD 2 aC1 a00 a772)) (2+1)) (2+1)),cC (yD 2 aC1 a00 a772) (2+1),.one (eE noE (2+1) 0)] [.own 0 0] (iN (2+1)) [.one (bV 3 4 (luS (2+1) (trM (yD 2 aC1 a00 a772)) (2+1)) (2+1)),.dead,.dead,cC (yD 2 aC1 a00 a772) (2+1),.one (eE noE (2+1) 0)]),(50,.sure .no)]]) Tryz.func9 (let y0:=(true==true);let y1:=(decide (2=2/\∀j:Nat,j<2->(basY 2 (trM aC) (zU 2 0 a32 noE 0) j:Rat)=(((litI [3,-1]) j:Int):Rat)));let y2:=(decide (2=2/\∀j:Nat,j<2->((zH (basX 2 (trM aC) a16) aE1 (0+1)) j:Rat)=(((litI [1,1]) j:Int):Rat)));let y5:=(false&&true);let y3:=((!y5)==true);let y4:=(decide (2=2/\∀j:Nat,j<2->((zH (basX 2 (trM aC) a32) noE 0) j:Rat)=(((litI [1,2]) j:Int):Rat)));((1:Int)=(litI [1,0] 0))/\((0:Int)=(litI [1,0] 1))/\_/\((1:Int)=(litI [1,1] 0))/\((1:Int)=(litI [1,1] 1))/\_/\_/\(∀j0,j0<2->(((((litI [1,0]) j0:Int):Rat):Rat)=(aC 0 j0)))/\_/\(∀j0,j0<2->(((((litI [1,1]) j0:Int):Rat):Rat)=(aC 1 j0)))/\(CallOK Tryz.prog 13 [.sl 1 (mE aC 2) 2] (c2 (.own 0 0) (.ex (.nilIface))) [.one (bV 1 2 (luS 2 (trM aC) 2) 2),cC aC 2,.one (eE noE 2 0)])/\((y5==false)=true->(y5==false)=true)/\(y5=false)/\((y5==false)=true)/\((!true)=false)/\((3:Int)=(litI [3,2] 0))/\((2:Int)=(litI [3,2] 1))/\_/\_/\_/\_/\_/\_/\_/\_/\(∀j0,j0<2->(((((litI [3,2]) j0:Int):Rat):Rat)=(a32 j0)))/\((3:Int)=(litI [3,2] 0))/\((2:Int)=(litI [3,2] 1))/\_/\_/\_/\_/\_/\_/\_/\_/\(∀j0,j0<2->(((((litI [3,2]) j0:Int):Rat):Rat)=(a32 j0)))/\((2:Int)=(litI [2,2] 0))/\((2:Int)=(litI [2,2] 1))/\_/\_/\_/\_/\_/\_/\_/\((0:Int)=((0:Nat):Int))/\_/\(∀j0,j0<2->(((((litI [2,2]) j0:Int):Rat):Rat)=(a22 j0)))/\((0:Int)=(litI [0,5] 0))/\((5:Int)=(litI [0,5] 1))/\_/\_/\_/\_/\_/\_/\_/\((0:Int)=((0:Nat):Int))/\_/\(∀j0,j0<2->(((((litI [0,5]) j0:Int):Rat):Rat)=(aW j0)))/\((1:Int)=(litI [1,6] 0))/\((6:Int)=(litI [1,6] 1))/\_/\_/\_/\_/\_/\_/\_/\_/\(∀j0,j0<2->(((((litI [1,6]) j0:Int):Rat):Rat)=(a16 j0)))/\((0:Int)=(litI [0,0] 0))/\((0:Int)=(litI [0,0] 1))/\_/\((7:Int)=(litI [7,7,2] 0))/\((7:Int)=(litI [7,7,2] 1))/\((2:Int)=(litI [7,7,2] 2))/\_/\_/\_/\_/\_/\_/\_/\_/\(∀j0,j0<2->(((((litI [0,0]) j0:Int):Rat):Rat)=(a00 j0)))/\((3:Nat)=(2+1))/\(∀j0,j0<3->(((((litI [7,7,2]) j0:Int):Rat):Rat)=(a772 j0)))/\(y0=true->(1:Int)=(litI [1,2] 0))/\(y0=true->(2:Int)=(litI [1,2] 1))/\(y0=true->y0=true)/\(y0=true->_)/\(y0=true->y0=true)/\(y0=true->y0=true)/\(y0=true->_)/\(true=true)/\(y0=true)/\(y4=true)/\((y4==true)=true)/\(y0=true->(3:Int)=(litI [3,-1] 0))/\(y0=true->(-1:Int)=(litI [3,-1] 1))/\(y0=true->y0=true)/\(y0=true->_)/\(y0=true->y0=true)/\(y0=true->y0=true)/\(y0=true->_)/\(true=true)/\(y0=true)/\((y1==true)=true->(y1==true)=true)/\((y1==true)=true->CallOK Tryz.prog 27 [.ifc 113 (.ep (.agg (c3 (.ex (.string sCol)) (iN 0) (.ex (.iface 63 (.int .i64 140)))))),.ex (.int .i64 140),.ex (.string sCol),.ex (.int .i64 0)] (bX true) [])/\(y1=true)/\((y1==true)=true)/\(y0=true->y0=true)/\(true=true)/\(y0=true)/\(y0=true)/\(y0=true->y0=true)/\_/\_/\_/\_/\_/\_/\(y0=true->y0=true)/\(true=true)/\(y0=true)/\((decide (((0+1:Nat):Int)=1))=true)/\(((decide (((0+1:Nat):Int)=1))==true)=true)/\(y0=true->(1:Int)=(litI [1,1] 0))/\(y0=true->(1:Int)=(litI [1,1] 1))/\(y0=true->y0=true)/\(y0=true->_)/\(y0=true->y0=true)/\(y0=true->y0=true)/\(y0=true->_)/\(true=true)/\(y0=true)/\((y2==true)=true->(y2==true)=true)/\(y2=true)/\((y2==true)=true)/\(y0=true->y0=true)/\(true=true)/\(y0=true)/\(y3=true)/\(y3=true->y3=true)/\_/\_/\_/\_/\_/\_/\(y3=true->y3=true)/\((!y5)=true)/\(y3=true)/\(((decide (((2+1:Nat):Int)=3):Bool)=true)))
  ⟨rfl,rfl,(jU (n:=2) (a:=(litI [1,0])) zd (by decide+kernel)).frzV,rfl,rfl,(jU (n:=2) (a:=(litI [1,1])) zd (by decide+kernel)).frzV,(rf 2),(λj0 hj0=>rfl),(rf 2),(λj0 hj0=>rfl),(sBNew (C:=aC) (e:=noE) zd aK0.hD aK0.ok),id,(by decide+kernel),(by decide+kernel),rfl,rfl,rfl,(jU (n:=2) (a:=(litI [3,2])) zd (by decide+kernel)).frzV,(sBSolve (D:=(trM aC)) (C:=aC) (e:=noE) (m:=0) (n:=2) (v:=a32) zd aK0.ok aK0.hD aK0.H aK0.w zd (by decide+kernel) (aK0.x zd (by decide+kernel))),(rf (.one (bV 1 2 (luS 2 (trM aC) 2) 2):Hl)),(rf (cC aC 2:Hl)),(rf (.one (eE noE 2 0):Hl)),(rf 0),(rf 0),(rf 2),(λj0 hj0=>rfl),rfl,rfl,(jU (n:=2) (a:=(litI [3,2])) zd (by decide+kernel)).frzV,(sBSolveT (D:=(trM aC)) (C:=aC) (e:=noE) (m:=0) (n:=2) (v:=a32) zd aK0.ok aK0.hD aK0.H aK0.w zd (aK0.z zd (by decide+kernel))),(rf (.one (bV 3 4 (luS 2 (trM aC) 2) 2):Hl)),(rf (cC aC 2:Hl)),(rf (.one (eE noE 2 0):Hl)),(rf 0),(rf 0),(rf 2),(λj0 hj0=>rfl),rfl,rfl,(jU (n:=2) (a:=(litI [2,2])) zd (by decide+kernel)).frzV,(sBReplace_sing (D:=(trM aC)) (C:=aC) (e:=noE) (m:=0) (n:=2) (v:=a22) (k:=0) zd aK0.ok aK0.hD aK0.H aK0.w zd (by decide+kernel) (aK0.x zd (by decide+kernel)) zd (by decide+kernel)),(rf (.one (bV 7 8 (luS 2 (trM aC) 2) 2):Hl)),(rf (cC aC 2:Hl)),(rf (.one (eE noE 2 0):Hl)),(rf 0),(rf 0),rfl,(rf 2),(λj0 hj0=>rfl),rfl,rfl,(jU (n:=2) (a:=(litI [0,5])) zd (by decide+kernel)).frzV,(sBReplace (D:=(trM aC)) (C:=aC) (e:=noE) (m:=0) (n:=2) (v:=aW) (k:=0) zd aK0.ok aK0.hD aK0.H aK0.w zd (by decide+kernel) (aK0.x zd (by decide+kernel)) zd (by decide+kernel) zd),(rf (.one (bV 10 11 (luS 2 (trM aC) 2) 2):Hl)),(rf (cC aC 2:Hl)),(rf (.one (eE noE 2 0):Hl)),(rf 0),(rf 0),rfl,(rf 2),(λj0 hj0=>rfl),rfl,rfl,(jU (n:=2) (a:=(litI [1,6])) zd (by decide+kernel)).frzV,(sBSolve (D:=(trM aC)) (C:=aC1) (e:=aE1) (m:=0+1) (n:=2) (v:=a16) zd aK1.ok aK1.hD aK1.H aK1.w zd (by decide+kernel) (aK1.x zd (by decide+kernel))),(rf (.one (bV 13 14 (luS 2 (trM aC) 2) 2):Hl)),(rf (cC (setC aC 0 aW) 2:Hl)),(rf (.one (eE (setE noE 0 0 (zH (basX 2 (trM aC) aW) noE 0)) 2 (0+1)):Hl)),(rf 0),(rf 0),(rf 2),(λj0 hj0=>rfl),rfl,rfl,(jU (n:=2) (a:=(litI [0,0])) zd (by decide+kernel)).frzV,rfl,rfl,rfl,(jU (n:=3) (a:=(litI [7,7,2])) zd (by decide+kernel)).frzV,(sBGrow (D:=(trM aC)) (C:=aC1) (e:=aE1) (m:=0+1) (n:=2) (a:=a00) (v:=a772) (e2:=noE) zd (by unfold HtB;decide+kernel) (by unfold luOK;decide+kernel)),(rf (.one (bV 16 17 (luS 2 (trM aC) 2) 2):Hl)),(rf (cC aC1 2:Hl)),(rf (.one (eE aE1 2 (0+1)):Hl)),(rf 0),(rf 0),(rf 2),(λj0 hj0=>rfl),rfl,(λj0 hj0=>rfl),(λhg=>rfl),(λhg=>rfl),id,(λhg=>(jU (n:=2) (a:=(litI [1,2])) zd (by decide+kernel)).frzV),id,id,(λhg=>(sVecSame (n:=2) (m:=2) (a:=(zH (basX 2 (trM aC) a32) noE 0)) (b:=(λi=>(((litI [1,2]) i:Int):Rat))) zd (by decide+kernel))),(by decide+kernel),(by decide+kernel),(by decide+kernel),(by decide+kernel),(λhg=>rfl),(λhg=>rfl),id,(λhg=>(jU (n:=2) (a:=(litI [3,-1])) zd (by decide+kernel)).frzV),id,id,(λhg=>(sVecSame (n:=2) (m:=2) (a:=(λi=>basY 2 (trM aC) (zU 2 0 a32 noE 0) i)) (b:=(λi=>(((litI [3,-1]) i:Int):Rat))) zd (by decide+kernel))),(by decide+kernel),(by decide+kernel),id,(λhg=>sToldF),(by decide+kernel),(by decide+kernel),id,(by decide+kernel),(by decide+kernel),(by decide+kernel),id,(sBEtas (D:=(trM aC)) (C:=aC1) (e:=aE1) (m:=0+1) (n:=2)),(rf (.one (bV 20 21 (luS 2 (trM aC) 2) 2):Hl)),(rf (cC aC1 2:Hl)),(rf (.one (eE aE1 2 (0+1)):Hl)),(rf 0),(rf 0),id,(by decide+kernel),(by decide+kernel),(by decide+kernel),(by decide+kernel),(λhg=>rfl),(λhg=>rfl),id,(λhg=>(jU (n:=2) (a:=(litI [1,1])) zd (by decide+kernel)).frzV),id,id,(λhg=>(sVecSame (n:=2) (m:=2) (a:=(zH (basX 2 (trM aC) a16) aE1 (0+1))) (b:=(λi=>(((litI [1,1]) i:Int):Rat))) zd (by decide+kernel))),(by decide+kernel),(by decide+kernel),id,(by decide+kernel),(by decide+kernel),id,(by decide+kernel),(by decide+kernel),(by decide+kernel),id,(sBSize (D:=(trM (yD 2 aC1 a00 a772))) (C:=(yD 2 aC1 a00 a772)) (e:=noE) (m:=0) (n:=2+1)),(rf (.one (bV 23 24 (luS (2+1) (trM (yD 2 aC1 a00 a772)) (2+1)) (2+1)):Hl)),(rf (cC (yD 2 aC1 a00 a772) (2+1):Hl)),(rf (.one (eE noE (2+1) 0):Hl)),(rf 22),(rf 0),id,(by decide+kernel),(by decide+kernel),(by decide+kernel)⟩
open Go.RowKit
theorem BOK.hC{n m:Nat}{D C:Nat->Nat->Rat}{e:Etas}(h:BOK n D C e m){c r:Nat}(hc:c<n)(hr:r<n):htq (C c r)<=2:=by
 have:=h.ht m (Nat.le_refl m) r hr c hc
 rw[h.is c hc r hr];omega
theorem BOK.szC{n m:Nat}{D C:Nat->Nat->Rat}{e:Etas}(h:BOK n D C e m){c r:Nat}(hc:c<n)(hr:r<n):szq (C c r)<=4:=by
 have:=h.hC hc hr
 have:=jC (C c r)
 omega
open Go.RowKit
section
variable {n m m':Nat} {D C D':Nat->Nat->Rat} {e e':Etas}
theorem BOK.htT(h:BOK n D C e m):HtB n n 3 (trM C):=λi hi j hj=>by
 show htq (C j i)+1<=3
 have:=h.hC hj hi
 omega
theorem BOK.again(h:BOK n D C e m):BOK n (trM C) C noE 0:=.fresh (luOK_of h.htT h.detC) h.htT
theorem basUX(h:BOK n D C e m)(h':BOK n D' C e' m')(v:Nat->Rat){j:Nat}(hj:j<n):zH (basX n D v) e m j=zH (basX n D' v) e' m' j:=
 have hd:det n (trM C)≠0:=by rw[xS];exact h.detC
 (cram_div hd (q:=trM C) (λr hr=>h.sol v hr) hj).symm.trans (cram_div hd (q:=trM C) (λr hr=>h'.sol v hr) hj)
theorem BOK.rowS2(h:BOK n D C e m)(v:Nat->Rat){j:Nat}(hj:j<n):sumQ (λi=>C j i*basY n D (zU n m v e m) i) n=v j:=by
 rw[←h.rowS v hj];exact zG n λi _=>by grind
theorem basUY(h:BOK n D C e m)(h':BOK n D' C e' m')(v:Nat->Rat){j:Nat}(hj:j<n):basY n D (zU n m v e m) j=basY n D' (zU n m' v e' m') j:=
 have hd:det n C≠0:=by rw[xS,←cdet_trM];exact h.detC
 (cram_div hd (q:=C) (λr hr=>h.rowS2 v hr) hj).symm.trans (cram_div hd (q:=C) (λr hr=>h'.rowS2 v hr) hj)
end
theorem sz_small{a b:Rat}(ha:htq a<=4000)(hb:htq b<=4000):szq a+szq b<=17179869184:=by
 have:=jC a
 have:=jC b
 omega
theorem sBasisFresh_no{z0 l0:Nat}{k0:Nat->Nat}{p0 d0:Nat->Nat->Int}{n m:Nat}{N1:Nat}{K1:Nat->Int}{L1:Nat->Nat}{p1 d1:Nat->Nat->Int}{n2:Nat}{p2 d2:Nat->Int}(h0:∀r,r<l0->∀c,c<k0 r->Wd64 (p0 r c)/\Wd64 (d0 r c))(hn:z0%5=n)(hm:min l0 n=m)(hno:¬basOK m n (gQ k0 p0 d0)):CallOK Tryz.prog 3 [.agg (c2 (.ex (.int .u8 (z0:Int))) (.sl 1 (gE k0 p0 d0) l0)),.sl 2 (λi0=>.agg (c2 (iZ (K1 i0)) (.sl 2 (λi1=>.agg (c2 (iZ (p1 i0 i1)) (iZ (d1 i0 i1)))) (L1 i0)))) N1,fE p2 d2 n2] (bX true) []:=by
 exact kP (ch:=[.reg 1 [(0,.callS (bX true) [])],.dec 24 false,.reg 3 [(2,.callS (.ex (.pointer none)) [])],.dec 29 true]) Tryz.func3 ((∀j0,j0<l0->(∀j1,j1<(k0 j0)->True))/\(∀j0,j0<N1->(∀j1,j1<(L1 j0)->True))/\(∀j0,j0<n2->True)/\(CallOK Tryz.prog 9 [] (bX true) [])/\((!true)=false)/\(CallOK Tryz.prog 10 [.agg (c2 (.ex (.int .u8 (z0:Int))) (.sl 1 (gE k0 p0 d0) l0)),.sl 2 (λi0=>.agg (c2 (iZ (K1 i0)) (.sl 2 (λi1=>.agg (c2 (iZ (p1 i0 i1)) (iZ (d1 i0 i1)))) (L1 i0)))) N1] (.ex (.pointer none)) [])/\((true&&true)=true)/\(_))
  ⟨(λ_ _=>(λ_ _=>trivial)),(λ_ _=>(λ_ _=>trivial)),(λ_ _=>trivial),sAwake14,rfl,(sPlayedNo h0 hn hm hno),rfl,(rf (true:Bool))⟩
theorem sBasisFresh_yes{z0 l0:Nat}{k0:Nat->Nat}{p0 d0:Nat->Nat->Int}{n m:Nat}{N1:Nat}{K1:Nat->Int}{L1:Nat->Nat}{p1 d1:Nat->Nat->Int}{n2:Nat}{p2 d2:Nat->Int}{s:BS}(h0:∀r,r<l0->∀c,c<k0 r->Wd64 (p0 r c)/\Wd64 (d0 r c))(hn:z0%5=n)(hm:min l0 n=m)(hN:N1<=68719476736)(hL1:∀i,i<N1->L1 i<=68719476736)(w1:∀i,i<N1->∀c,c<L1 i->Wd64 (p1 i c)/\Wd64 (d1 i c))(hn2:n2<=68719476736)(w2:∀i,i<n2->Wd64 (p2 i)/\Wd64 (d2 i))(hB:basOK m n (gQ k0 p0 d0))(hs:s=(plS m k0 p0 d0 K1 L1 p1 d1 N1)):CallOK Tryz.prog 3 [.agg (c2 (.ex (.int .u8 (z0:Int))) (.sl 1 (gE k0 p0 d0) l0)),.sl 2 (λi0=>.agg (c2 (iZ (K1 i0)) (.sl 2 (λi1=>.agg (c2 (iZ (p1 i0 i1)) (iZ (d1 i0 i1)))) (L1 i0)))) N1,fE p2 d2 n2] (bX true) []:=by
 have hn5:n<=5:=by omega
 have hm5:m<=5:=by omega
 have hK:BSK m s:=by rw[hs];exact pl_ok hm5 (show m<=l0 by omega) h0 hB.2 w1 N1 (Nat.le_refl _)
 have hF:BOK m (trM s.C) s.C noE 0:=hK.again
 have hw:∀i,i<m->szq (yB n2 p2 d2 i)<=2:=λi hi=>fillQ_sz w2 zo
 have hv:∀i,i<m->htq (yB n2 p2 d2 i)<=3:=λi hi=>Nat.le_trans (ht_sz _) (Nat.le_trans (hw i hi) zd)
 have hX:=hK.x hm5 hv
 have hX2:=hF.x hm5 hv
 have hY:=hK.y hm5 hv
 have hY2:=hF.y hm5 hv
 have hD1:decide (m=m/\∀j:Nat,j<m->((zH (basX m s.D (yB n2 p2 d2)) s.e s.m) j:Rat)=(zH (basX m (trM s.C) (yB n2 p2 d2)) noE 0) j)=true:=decide_eq_true ⟨rfl,λj hj=>basUX hK hF _ hj⟩
 have hD2:decide (m=m/\∀j:Nat,j<m->((basY m s.D (zU m s.m (yB n2 p2 d2) s.e s.m)) j:Rat)=(basY m (trM s.C) (zU m 0 (yB n2 p2 d2) noE 0)) j)=true:=decide_eq_true ⟨rfl,λj hj=>basUY hK hF _ hj⟩
 have hD3:decide (m=m/\m=m/\∀r:Nat,r<m->∀c:Nat,c<m->trM s.C r c=trM s.C r c)=true:=decide_eq_true ⟨rfl,rfl,λ_ _ _ _=>rfl⟩
 exact kP (ch:=[.reg 1 [(0,.callS (bX true) [])],.dec 24 false,.reg 3 [(2,.callS (.own 0 0) [.one (bV 1 2 (luS m s.D m) m),cC s.C m,.one (eE s.e m s.m)])],.dec 29 false,.loop 8 (Nat) (λg=>g<=m) (λg=>m-g) (λg=>⟨[(2,fE p2 d2 n2),(7,.own 0 0),(8,.own 3 0),(9,iN g)],[(0,.one (bV 1 2 (luS m s.D m) m)),(1,cC s.C m),(2,.one (eE s.e m s.m)),(3,.one (.row 33 1 (mE s.C m) g))],4⟩) [(0,.id 1),(1,.id 2),(2,.id 3),(3,.nil)] (λ_=>[(0,.id 0),(1,.id 7),(2,.id 8),(3,.id 10)]) (λg=>[.reg 8 [(2,.callM [0,1,2] [.one (bV 1 2 (luS m s.D m) m),cC s.C m,.one (eE s.e m s.m)] [.own 0 0] (iN m) [.one (bV 3 4 (luS m s.D m) m),.dead,.dead,cC s.C m,.one (eE s.e m s.m)])],.reg 10 [(2,.callM [0,4,5] [.one (bV 1 2 (luS m s.D m) m),cC s.C m,.one (eE s.e m s.m)] [.own 0 0,iN g] (c2 (.sl 3 (λi0=>.rat (s.C g i0)) m) (bX true)) [.one (bV 3 4 (luS m s.D m) m),.dead,.dead,cC s.C m,.one (eE s.e m s.m)])],.reg 11 [(3,.row 0 (mE s.C m))],.reg 9 [(1,.z ((g+1:Nat):Int))],.conv 12 [(0,.id 0),(1,.id 4),(2,.id 5)] ⟨[(2,fE p2 d2 n2),(7,.own 0 0),(8,.sl 1 (mE s.C m) m)],[(0,.one (bV 1 2 (luS m s.D m) m)),(1,cC s.C m),(2,.one (eE s.e m s.m))],3⟩,.reg 12 [(1,.callS (c2 (.own 0 0) (.ex (.nilIface))) [.one (bV 1 2 (luS m (trM s.C) m) m),cC s.C m,.one (eE noE m 0)])],.reg 13 [(5,.skip),(8,.callM [3,4,5] [.one (bV 1 2 (luS m (trM s.C) m) m),cC s.C m,.one (eE noE m 0)] [.own 0 0] (iN 0) [.one (bV 3 4 (luS m (trM s.C) m) m),.dead,.dead,cC s.C m,.one (eE noE m 0)]),(10,.skip)],.dec 61 false,.reg 15 [(1,.callS (.own 0 0) [.one (.row 47 3 (λi0=>.rat (oneQ (p2 i0) (d2 i0))) n2)])],.loop 16 (Nat) (λg=>n2<=g/\(g<=m∨g=n2)) (λg=>m-g) (λg=>⟨[(7,.own 0 0),(12,.own 3 0),(14,.own 6 0)],[(0,.one (bV 1 2 (luS m s.D m) m)),(1,cC s.C m),(2,.one (eE s.e m s.m)),(3,.one (bV 4 5 (luS m (trM s.C) m) m)),(4,cC s.C m),(5,.one (eE noE m 0)),(6,.one (.row 47 3 (λi0=>.rat (yB n2 p2 d2 i0)) g))],7⟩) [(0,.id 0),(1,.id 1),(2,.id 2),(3,.id 3),(4,.id 6),(5,.id 7),(6,.id 9)] (λ_=>[(0,.id 0),(1,.id 7),(2,.id 8),(3,.id 3),(4,.id 4),(5,.id 5),(6,.id 10)]) (λg=>[.reg 16 [(3,.callM [0,1,2] [.one (bV 1 2 (luS m s.D m) m),cC s.C m,.one (eE s.e m s.m)] [.own 0 0] (iN m) [.one (bV 3 4 (luS m s.D m) m),.dead,.dead,cC s.C m,.one (eE s.e m s.m)])],.reg 17 [(3,.callS (.rat (((g:Int):Int):Rat)) []),(5,.row 0 (λi0=>.rat (yB n2 p2 d2 i0)))],.conv 18 [(0,.id 0),(1,.id 7),(2,.id 8),(3,.id 3),(4,.id 4),(5,.id 5)] ⟨[(7,.own 0 0),(12,.own 3 0),(14,.sl 3 (λi0=>.rat (yB n2 p2 d2 i0)) g)],[(0,.one (bV 1 2 (luS m s.D m) m)),(1,cC s.C m),(2,.one (eE s.e m s.m)),(3,.one (bV 4 5 (luS m (trM s.C) m) m)),(4,cC s.C m),(5,.one (eE noE m 0))],6⟩,.reg 18 [(2,.callM [0,1,2] [.one (bV 1 2 (luS m s.D m) m),cC s.C m,.one (eE s.e m s.m)] [.own 0 0] (iN m) [.one (bV 3 4 (luS m s.D m) m),.dead,.dead,cC s.C m,.one (eE s.e m s.m)]),(3,.kk 0 m)],.reg 19 [(2,.callM [0,6,7] [.one (bV 1 2 (luS m s.D m) m),cC s.C m,.one (eE s.e m s.m)] [.own 0 0,.sl 3 (λi0=>.rat ((yB n2 p2 d2) i0)) m] (c2 (.own 5 0) (bX true)) [.one (bV 3 4 (luS m s.D m) m),.dead,.dead,cC s.C m,.one (eE s.e m s.m),.one (.row 47 3 (λi0=>.rat ((zH (basX m s.D (yB n2 p2 d2)) s.e s.m) i0)) m)])],.reg 20 [(2,.callM [3,4,5] [.one (bV 1 2 (luS m (trM s.C) m) m),cC s.C m,.one (eE noE m 0)] [.own 0 0,.sl 3 (λi0=>.rat ((yB n2 p2 d2) i0)) m] (c2 (.own 5 0) (bX true)) [.one (bV 3 4 (luS m (trM s.C) m) m),.dead,.dead,cC s.C m,.one (eE noE m 0),.one (.row 47 3 (λi0=>.rat ((zH (basX m (trM s.C) (yB n2 p2 d2)) noE 0) i0)) m)])],.reg 21 [(2,.callM [0,9,10] [.one (bV 1 2 (luS m s.D m) m),cC s.C m,.one (eE s.e m s.m)] [.own 0 0,.sl 3 (λi0=>.rat ((yB n2 p2 d2) i0)) m] (c2 (.sl 3 (λi0=>.rat (basY m s.D (zU m s.m (yB n2 p2 d2) s.e s.m) i0)) m) (bX true)) [.one (bV 3 4 (luS m s.D m) m),.dead,.dead,cC s.C m,.one (eE s.e m s.m)])],.reg 22 [(2,.callM [3,13,14] [.one (bV 1 2 (luS m (trM s.C) m) m),cC s.C m,.one (eE noE m 0)] [.own 0 0,.sl 3 (λi0=>.rat ((yB n2 p2 d2) i0)) m] (c2 (.sl 3 (λi0=>.rat (basY m (trM s.C) (zU m 0 (yB n2 p2 d2) noE 0) i0)) m) (bX true)) [.one (bV 3 4 (luS m (trM s.C) m) m),.dead,.dead,cC s.C m,.one (eE noE m 0)])],.reg 23 [(3,.sure .no),(6,.sure .no),(9,.sure .no),(13,.callS (bX (decide (m=m/\∀j:Nat,j<m->((zH (basX m s.D (yB n2 p2 d2)) s.e s.m) j:Rat)=((zH (basX m (trM s.C) (yB n2 p2 d2)) noE 0) j)))) []),(14,.sure .no),(18,.callS (bX (decide (m=m/\∀j:Nat,j<m->(basY m s.D (zU m s.m (yB n2 p2 d2) s.e s.m) j:Rat)=(basY m (trM s.C) (zU m 0 (yB n2 p2 d2) noE 0) j)))) []),(19,.sure .no),(22,.callM [0,17,18] [.one (bV 1 2 (luS m s.D m) m),cC s.C m,.one (eE s.e m s.m)] [.own 0 0] (.agg (c2 (.sl 1 (λi0=>.sl 3 (λi1=>.rat (trM s.C i0 i1)) m) m) (iN m))) [.one (bV 3 4 (luS m s.D m) m),.dead,.dead,cC s.C m,.one (eE s.e m s.m)]),(24,.callM [3,20,21] [.one (bV 1 2 (luS m (trM s.C) m) m),cC s.C m,.one (eE noE m 0)] [.own 0 0] (.agg (c2 (.sl 1 (λi0=>.sl 3 (λi1=>.rat (trM s.C i0 i1)) m) m) (iN m))) [.one (bV 3 4 (luS m (trM s.C) m) m),.dead,.dead,cC s.C m,.one (eE noE m 0)]),(25,.callS (bX (decide (m=m/\m=m/\∀r:Nat,r<m->∀c:Nat,c<m->trM s.C r c=trM s.C r c))) []),(26,.sure .no),(29,.callM [0,23,24] [.one (bV 1 2 (luS m s.D m) m),cC s.C m,.one (eE s.e m s.m)] [.own 0 0] (iN (s.m)) [.one (bV 3 4 (luS m s.D m) m),.dead,.dead,cC s.C m,.one (eE s.e m s.m)]),(31,.sure .no)]])])]) Tryz.func3 (let y0:=(decide (m=m/\∀j:Nat,j<m->(basY m s.D (zU m s.m (yB n2 p2 d2) s.e s.m) j:Rat)=(basY m (trM s.C) (zU m 0 (yB n2 p2 d2) noE 0) j)));let y1:=(decide (m=m/\∀j:Nat,j<m->((zH (basX m s.D (yB n2 p2 d2)) s.e s.m) j:Rat)=((zH (basX m (trM s.C) (yB n2 p2 d2)) noE 0) j)));let y2:=(decide (m=m/\m=m/\∀r:Nat,r<m->∀c:Nat,c<m->trM s.C r c=trM s.C r c));let y3:=((false&&true)==false);let y4:=(true==true);(∀j0,j0<l0->(∀j1,j1<(k0 j0)->True))/\(∀j0,j0<N1->(∀j1,j1<(L1 j0)->True))/\(∀j0,j0<n2->True)/\(CallOK Tryz.prog 9 [] (bX true) [])/\((!true)=false)/\(CallOK Tryz.prog 10 [.agg (c2 (.ex (.int .u8 (z0:Int))) (.sl 1 (gE k0 p0 d0) l0)),.sl 2 (λi0=>.agg (c2 (iZ (K1 i0)) (.sl 2 (λi1=>.agg (c2 (iZ (p1 i0 i1)) (iZ (d1 i0 i1)))) (L1 i0)))) N1] (.own 0 0) [.one (bV 1 2 (luS m s.D m) m),cC s.C m,.one (eE s.e m s.m)])/\((false&&true)=false)/\(((λX1 X2 X3 X4 X5 X6 X7 X8 X9 X10 X11 X12 X13 X14 X15 X16 X17:Prop=>∃g0:Nat,X1/\X2/\X3/\X4/\((0:Int)=(g0:Int))/\X5/\X6/\X7/\X8/\X9/\X10/\X11/\X12/\X13/\X14/\X15/\X16/\X17/\((g0:Nat)=0)/\(g0<=m)) _ _ _ _ _ _ _ _ _ _ _ _ _ _ _ _ _)/\∀g:Nat,(g<=m)->_/\_/\_/\_/\_/\_/\(((decide ((g:Int)<(m:Int)))=true->_/\_/\_/\_/\_/\_/\_/\(g+1<=68719476736)/\_/\_/\_/\((λX1 X2 X3 X4 X5 X6 X7 X8 X9 X10 X11 X12 X13 X14 X15 X16 X17 X18:Prop=>∃g1:Nat,X1/\X2/\X3/\X4/\(((g+1:Nat):Int)=(g1:Int))/\X5/\X6/\X7/\X8/\X9/\X10/\X11/\X12/\X13/\X14/\X15/\X16/\X17/\((g+1:Nat)=g1)/\X18/\(g1<=m)/\(m-g1<m-g)) _ _ _ _ _ _ _ _ _ _ _ _ _ _ _ _ _ _))/\((decide ((g:Int)<(m:Int)))=false->_/\_/\_/\((g:Nat)=m)/\_/\_/\_/\_/\_/\_/\_/\_/\_/\_/\_/\_/\_/\_/\(CallOK Tryz.prog 13 [.sl 1 (mE s.C m) m] (c2 (.own 0 0) (.ex (.nilIface))) [.one (bV 1 2 (luS m (trM s.C) m) m),cC s.C m,.one (eE noE m 0)])/\_/\((!true)=false)/\(((!true)==false)=true)/\(y3=true)/\(y3=true->y3=true)/\_/\_/\_/\_/\_/\_/\(y3=true->y3=true)/\((false&&true)=false)/\(y3=true)/\((!decide (((0:Nat):Int)=0))=false)/\_/\(((λX1 X2 X3 X4 X5 X6 X7 X8 X9 X10 X11 X12 X13 X14 X15 X16 X17 X18 X19 X20 X21 X22 X23 X24 X25 X26 X27 X28 X29:Prop=>∃g0:Nat,X1/\X2/\X3/\X4/\X5/\X6/\X7/\X8/\X9/\X10/\X11/\X12/\X13/\X14/\X15/\X16/\X17/\X18/\X19/\X20/\X21/\X22/\X23/\X24/\X25/\X26/\X27/\X28/\X29/\((n2:Nat)=g0)/\(∀j0,j0<n2->((oneQ (p2 j0) (d2 j0):Rat)=(yB n2 p2 d2 j0)))/\(n2<=g0/\(g0<=m∨g0=n2))) _ _ _ _ _ _ _ _ _ _ _ _ _ _ _ _ _ _ _ _ _ _ _ _ _ _ _ _ _)/\∀g:Nat,(n2<=g/\(g<=m∨g=n2))->_/\_/\_/\_/\_/\_/\(((decide ((g:Int)<(m:Int)))=true->_/\(g+1<=68719476736)/\_/\(∀j0,j0<1->(((((g:Int):Int):Rat):Rat)=(yB n2 p2 d2 (g+j0))))/\((λX1 X2 X3 X4 X5 X6 X7 X8 X9 X10 X11 X12 X13 X14 X15 X16 X17 X18 X19 X20 X21 X22 X23 X24 X25 X26 X27 X28 X29 X30:Prop=>∃g1:Nat,X1/\X2/\X3/\X4/\X5/\X6/\X7/\X8/\X9/\X10/\X11/\X12/\X13/\X14/\X15/\X16/\X17/\X18/\X19/\X20/\X21/\X22/\X23/\X24/\X25/\X26/\X27/\X28/\X29/\((g+1:Nat)=g1)/\X30/\(n2<=g1/\(g1<=m∨g1=n2))/\(m-g1<m-g)) _ _ _ _ _ _ _ _ _ _ _ _ _ _ _ _ _ _ _ _ _ _ _ _ _ _ _ _ _ _))/\((decide ((g:Int)<(m:Int)))=false->_/\_/\_/\_/\_/\_/\_/\_/\_/\_/\_/\_/\_/\_/\_/\_/\_/\_/\_/\_/\_/\_/\_/\_/\_/\_/\_/\_/\_/\_/\_/\_/\_/\_/\_/\_/\_/\(m<=g)/\_/\_/\_/\_/\_/\_/\_/\(∀j0,j0<m->((yB n2 p2 d2 j0:Rat)=((yB n2 p2 d2) j0)))/\_/\_/\_/\_/\_/\_/\_/\(∀j0,j0<m->((yB n2 p2 d2 j0:Rat)=((yB n2 p2 d2) j0)))/\_/\_/\_/\_/\_/\_/\_/\(∀j0,j0<m->((yB n2 p2 d2 j0:Rat)=((yB n2 p2 d2) j0)))/\_/\_/\_/\_/\_/\_/\_/\(∀j0,j0<m->((yB n2 p2 d2 j0:Rat)=((yB n2 p2 d2) j0)))/\(true=true)/\(y4=true)/\(true=true)/\(y4=true)/\(true=true)/\(y4=true)/\(y4=true->y4=true)/\(y4=true->y4=true)/\(y4=true->_)/\(true=true)/\(y4=true)/\((y1==true)=true->(y1==true)=true)/\((y1==true)=true->(y1==true)=true)/\((y1==true)=true->_)/\(y1=true)/\((y1==true)=true)/\((y0==true)=true)/\((y0==true)=true->(y0==true)=true)/\_/\_/\_/\_/\_/\_/\((y0==true)=true)/\((y0==true)=true->(y0==true)=true)/\_/\_/\_/\_/\_/\_/\((y0==true)=true->(y0==true)=true)/\((y0==true)=true->(y0==true)=true)/\((y0==true)=true->_)/\(y0=true)/\((y0==true)=true)/\((y2==true)=true)/\((y2==true)=true->(y2==true)=true)/\_/\_/\_/\_/\_/\_/\((y2==true)=true->(y2==true)=true)/\(y2=true)/\((y2==true)=true)/\(((decide (((s.m:Nat):Int)<=8):Bool)=true)))))))))
  ⟨(λ_ _=>(λ_ _=>trivial)),(λ_ _=>(λ_ _=>trivial)),(λ_ _=>trivial),sAwake14,rfl,(by rw[hs];exact sPlayed h0 hn hm hB.1 hB.2 hN hL1 w1),rfl,⟨0,(rf n2),(leS (λi0=>.agg (c2 (iZ (p2 i0)) (iZ (d2 i0)))) n2),(rf 0),(rf 0),zo,(rf 0),(rf m),(leS (mE (luS m s.D m).2.1 m) m),(rf m),(leS (mE ((luS m s.D m).1) m) m),(rf m),(leS (λi0=>iN ((luS m s.D m).2.2.1 i0)) m),(rf ((luS m s.D m).2.2.2.2:Bool)),(rf 0),(rf m),(leS (mE s.C m) m),(rf (s.m:Nat)),(leS (λi0=>.agg (c2 (iN ((s.e i0).1)) (vE (s.e i0).2 m))) s.m),rfl,zo⟩,λg hg=>⟨(sBSize (D:=s.D) (C:=s.C) (e:=s.e) (m:=s.m) (n:=m)),(rf (.one (bV 1 2 (luS m s.D m) m):Hl)),(rf (cC s.C m:Hl)),(rf (.one (eE s.e m s.m):Hl)),(rf 0),(rf 0),λhc33=>have hc33:=dT hc33;have hgm:g<m:=zo;⟨(sBColumn (D:=s.D) (C:=s.C) (e:=s.e) (m:=s.m) (n:=m) (k:=g) zo hgm),(rf (.one (bV 4 5 (luS m s.D m) m):Hl)),(rf (cC s.C m:Hl)),(rf (.one (eE s.e m s.m):Hl)),(rf 0),(rf 0),(rf (g:Int)),zo,(oldS (mE s.C m) g),(newS (mE s.C m) g),(wI (g:=g) zo),g+1,(rf n2),(leS (λi0=>.agg (c2 (iZ (p2 i0)) (iZ (d2 i0)))) n2),(rf 0),(rf 0),zo,(rf 0),(rf m),(leS (mE (luS m s.D m).2.1 m) m),(rf m),(leS (mE ((luS m s.D m).1) m) m),(rf m),(leS (λi0=>iN ((luS m s.D m).2.2.1 i0)) m),(rf ((luS m s.D m).2.2.2.2:Bool)),(rf 0),(rf m),(leS (mE s.C m) m),(rf (s.m:Nat)),(leS (λi0=>.agg (c2 (iN ((s.e i0).1)) (vE (s.e i0).2 m))) s.m),zo,(leS (mE s.C m) (g+1)),zo,zo⟩,λhc33=>have hc33:=dF hc33;have hi2:g=m:=zo;⟨(rf n2),(leS (λi0=>.agg (c2 (iZ (p2 i0)) (iZ (d2 i0)))) n2),(rf 0),hi2,(leS (mE s.C m) g),(rf 0),(rf m),(leS (mE (luS m s.D m).2.1 m) m),(rf m),(leS (mE ((luS m s.D m).1) m) m),(rf m),(leS (λi0=>iN ((luS m s.D m).2.2.1 i0)) m),(rf ((luS m s.D m).2.2.2.2:Bool)),(rf 0),(rf m),(leS (mE s.C m) m),(rf (s.m:Nat)),(leS (λi0=>.agg (c2 (iN ((s.e i0).1)) (vE (s.e i0).2 m))) s.m),(sBNew (C:=s.C) (e:=noE) zo hF.hD hF.ok),(idB ((!true)==false)),(by first | rfl | assumption | exact beq_iff_eq.2 hD1 | exact beq_iff_eq.2 hD2 | exact beq_iff_eq.2 hD3),(by first | rfl | assumption | exact beq_iff_eq.2 hD1 | exact beq_iff_eq.2 hD2 | exact beq_iff_eq.2 hD3),(by first | rfl | exact beq_iff_eq.2 hD1 | exact beq_iff_eq.2 hD2 | exact beq_iff_eq.2 hD3),id,(sBEtas (D:=(trM s.C)) (C:=s.C) (e:=noE) (m:=0) (n:=m)),(rf (.one (bV 4 5 (luS m (trM s.C) m) m):Hl)),(rf (cC s.C m:Hl)),(rf (.one (eE noE m 0):Hl)),(rf 3),(rf 0),id,(by first | rfl | assumption | exact beq_iff_eq.2 hD1 | exact beq_iff_eq.2 hD2 | exact beq_iff_eq.2 hD3),(by first | rfl | assumption | exact beq_iff_eq.2 hD1 | exact beq_iff_eq.2 hD2 | exact beq_iff_eq.2 hD3),rfl,sMake (n:=n2) (p:=λi=>p2 i) (d:=λi=>d2 i) zo w2,⟨n2,(rf 0),(rf 0),(rf 0),(rf 0),(rf m),(leS (mE (luS m s.D m).2.1 m) m),(rf m),(leS (mE ((luS m s.D m).1) m) m),(rf m),(leS (λi0=>iN ((luS m s.D m).2.2.1 i0)) m),(rf ((luS m s.D m).2.2.2.2:Bool)),(rf 0),(rf m),(leS (mE s.C m) m),(rf (s.m:Nat)),(leS (λi0=>.agg (c2 (iN ((s.e i0).1)) (vE (s.e i0).2 m))) s.m),(rf 0),(rf m),(leS (mE (luS m (trM s.C) m).2.1 m) m),(rf m),(leS (mE ((luS m (trM s.C) m).1) m) m),(rf m),(leS (λi0=>iN ((luS m (trM s.C) m).2.2.1 i0)) m),(rf ((luS m (trM s.C) m).2.2.2.2:Bool)),(rf 0),(rf m),(leS (mE s.C m) m),(rf 0),(leS (λi0=>.agg (c2 (iN ((noE i0).1)) (vE (noE i0).2 m))) 0),zo,(λj0 hj0=>(fillQ_lt (by assumption))),Nat.le_refl _,.inr rfl⟩,λg hg=>have hg1:=hg.1;have hg2:=hg.2;⟨(sBSize (D:=s.D) (C:=s.C) (e:=s.e) (m:=s.m) (n:=m)),(rf (.one (bV 1 2 (luS m s.D m) m):Hl)),(rf (cC s.C m:Hl)),(rf (.one (eE s.e m s.m):Hl)),(rf 0),(rf 0),λhc68=>have hc68:=dT hc68;⟨sRatInt (x:=(g:Int)) zo zo,zo,(oldS (λi0=>.rat (yB n2 p2 d2 i0)) g),(λj0 hj0=>(by rw[show j0=0 by omega];exact fillQ_ge hg1)),g+1,(rf 0),(rf 0),(rf 0),(rf 0),(rf m),(leS (mE (luS m s.D m).2.1 m) m),(rf m),(leS (mE ((luS m s.D m).1) m) m),(rf m),(leS (λi0=>iN ((luS m s.D m).2.2.1 i0)) m),(rf ((luS m s.D m).2.2.2.2:Bool)),(rf 0),(rf m),(leS (mE s.C m) m),(rf (s.m:Nat)),(leS (λi0=>.agg (c2 (iN ((s.e i0).1)) (vE (s.e i0).2 m))) s.m),(rf 0),(rf m),(leS (mE (luS m (trM s.C) m).2.1 m) m),(rf m),(leS (mE ((luS m (trM s.C) m).1) m) m),(rf m),(leS (λi0=>iN ((luS m (trM s.C) m).2.2.1 i0)) m),(rf ((luS m (trM s.C) m).2.2.2.2:Bool)),(rf 0),(rf m),(leS (mE s.C m) m),(rf 0),(leS (λi0=>.agg (c2 (iN ((noE i0).1)) (vE (noE i0).2 m))) 0),zo,(leS (λi0=>.rat (yB n2 p2 d2 i0)) (g+1)),⟨by omega,.inl zo⟩,zo⟩,λhc68=>have hc68:=dF hc68;have hng:m<=g:=zo;⟨(rf 0),(rf 0),(rf g),(leS (λi0=>.rat (yB n2 p2 d2 i0)) g),(rf 0),(rf m),(leS (mE (luS m s.D m).2.1 m) m),(rf m),(leS (mE ((luS m s.D m).1) m) m),(rf m),(leS (λi0=>iN ((luS m s.D m).2.2.1 i0)) m),(rf ((luS m s.D m).2.2.2.2:Bool)),(rf 0),(rf m),(leS (mE s.C m) m),(rf (s.m:Nat)),(leS (λi0=>.agg (c2 (iN ((s.e i0).1)) (vE (s.e i0).2 m))) s.m),(rf 0),(rf m),(leS (mE (luS m (trM s.C) m).2.1 m) m),(rf m),(leS (mE ((luS m (trM s.C) m).1) m) m),(rf m),(leS (λi0=>iN ((luS m (trM s.C) m).2.2.1 i0)) m),(rf ((luS m (trM s.C) m).2.2.2.2:Bool)),(rf 0),(rf m),(leS (mE s.C m) m),(rf 0),(leS (λi0=>.agg (c2 (iN ((noE i0).1)) (vE (noE i0).2 m))) 0),(sBSize (D:=s.D) (C:=s.C) (e:=s.e) (m:=s.m) (n:=m)),(rf (.one (bV 1 2 (luS m s.D m) m):Hl)),(rf (cC s.C m:Hl)),(rf (.one (eE s.e m s.m):Hl)),(rf 0),(rf 0),(rf (m:Int)),hng,(sBSolve (D:=s.D) (C:=s.C) (e:=s.e) (m:=s.m) (n:=m) (v:=(yB n2 p2 d2)) zo hK.ok hK.hD hK.H hK.w (Nat.le_trans hK.hm zd) hv hX),(rf (.one (bV 6 7 (luS m s.D m) m):Hl)),(rf (cC s.C m:Hl)),(rf (.one (eE s.e m s.m):Hl)),(rf 0),(rf 0),(rf m),(λj0 hj0=>rfl),(sBSolve (D:=(trM s.C)) (C:=s.C) (e:=noE) (m:=0) (n:=m) (v:=(yB n2 p2 d2)) zo hF.ok hF.hD hF.H hF.w zd hv hX2),(rf (.one (bV 4 5 (luS m (trM s.C) m) m):Hl)),(rf (cC s.C m:Hl)),(rf (.one (eE noE m 0):Hl)),(rf 3),(rf 0),(rf m),(λj0 hj0=>rfl),(sBSolveT (D:=s.D) (C:=s.C) (e:=s.e) (m:=s.m) (n:=m) (v:=(yB n2 p2 d2)) zo hK.ok hK.hD hK.H hK.w (Nat.le_trans hK.hm zd) (hK.z hm5 hv)),(rf (.one (bV 9 10 (luS m s.D m) m):Hl)),(rf (cC s.C m:Hl)),(rf (.one (eE s.e m s.m):Hl)),(rf 0),(rf 0),(rf m),(λj0 hj0=>rfl),(sBSolveT (D:=(trM s.C)) (C:=s.C) (e:=noE) (m:=0) (n:=m) (v:=(yB n2 p2 d2)) zo hF.ok hF.hD hF.H hF.w zd (hF.z hm5 hv)),(rf (.one (bV 13 14 (luS m (trM s.C) m) m):Hl)),(rf (cC s.C m:Hl)),(rf (.one (eE noE m 0):Hl)),(rf 3),(rf 0),(rf m),(λj0 hj0=>rfl),(by first | rfl | assumption | exact beq_iff_eq.2 hD1 | exact beq_iff_eq.2 hD2 | exact beq_iff_eq.2 hD3),(by first | rfl | assumption | exact beq_iff_eq.2 hD1 | exact beq_iff_eq.2 hD2 | exact beq_iff_eq.2 hD3),(by first | rfl | assumption | exact beq_iff_eq.2 hD1 | exact beq_iff_eq.2 hD2 | exact beq_iff_eq.2 hD3),(by first | rfl | assumption | exact beq_iff_eq.2 hD1 | exact beq_iff_eq.2 hD2 | exact beq_iff_eq.2 hD3),(by first | rfl | assumption | exact beq_iff_eq.2 hD1 | exact beq_iff_eq.2 hD2 | exact beq_iff_eq.2 hD3),(by first | rfl | assumption | exact beq_iff_eq.2 hD1 | exact beq_iff_eq.2 hD2 | exact beq_iff_eq.2 hD3),id,id,(λhg=>(sVecSame (n:=m) (m:=m) (a:=(zH (basX m s.D (yB n2 p2 d2)) s.e s.m)) (b:=(zH (basX m (trM s.C) (yB n2 p2 d2)) noE 0)) zo (λi hi _=>sz_small (hX _ (Nat.le_refl _) i hi) (hX2 _ (Nat.le_refl _) i hi)))),(by first | rfl | assumption | exact beq_iff_eq.2 hD1 | exact beq_iff_eq.2 hD2 | exact beq_iff_eq.2 hD3),(by first | rfl | assumption | exact beq_iff_eq.2 hD1 | exact beq_iff_eq.2 hD2 | exact beq_iff_eq.2 hD3),id,id,(λhg=>(sVecSame (n:=m) (m:=m) (a:=(λi=>basY m s.D (zU m s.m (yB n2 p2 d2) s.e s.m) i)) (b:=(λi=>basY m (trM s.C) (zU m 0 (yB n2 p2 d2) noE 0) i)) zo (λi hi _=>sz_small (Nat.le_trans (hY i hi) zd) (Nat.le_trans (hY2 i hi) zd)))),(by first | rfl | assumption | exact beq_iff_eq.2 hD1 | exact beq_iff_eq.2 hD2 | exact beq_iff_eq.2 hD3),(by first | rfl | assumption | exact beq_iff_eq.2 hD1 | exact beq_iff_eq.2 hD2 | exact beq_iff_eq.2 hD3),(by first | rfl | exact beq_iff_eq.2 hD1 | exact beq_iff_eq.2 hD2 | exact beq_iff_eq.2 hD3),id,(sBMatrix (D:=s.D) (C:=s.C) (e:=s.e) (m:=s.m) (n:=m) zo),(rf (.one (bV 17 18 (luS m s.D m) m):Hl)),(rf (cC s.C m:Hl)),(rf (.one (eE s.e m s.m):Hl)),(rf 0),(rf 0),(by first | rfl | exact beq_iff_eq.2 hD1 | exact beq_iff_eq.2 hD2 | exact beq_iff_eq.2 hD3),id,(sBMatrix (D:=(trM s.C)) (C:=s.C) (e:=noE) (m:=0) (n:=m) zo),(rf (.one (bV 20 21 (luS m (trM s.C) m) m):Hl)),(rf (cC s.C m:Hl)),(rf (.one (eE noE m 0):Hl)),(rf 3),(rf 0),id,id,(λhg=>(sMatSame (m:=m) (n:=m) (k:=m) (l:=m) (p:=(trM s.C)) (q:=(trM s.C)) zo zo (λ_ _ r hr c hc _=>by have:=hK.szC hc hr;show szq (s.C c r)+szq (s.C c r)<=17179869184;omega))),(by first | rfl | assumption | exact beq_iff_eq.2 hD1 | exact beq_iff_eq.2 hD2 | exact beq_iff_eq.2 hD3),(by first | rfl | assumption | exact beq_iff_eq.2 hD1 | exact beq_iff_eq.2 hD2 | exact beq_iff_eq.2 hD3),(by first | rfl | exact beq_iff_eq.2 hD1 | exact beq_iff_eq.2 hD2 | exact beq_iff_eq.2 hD3),id,(sBEtas (D:=s.D) (C:=s.C) (e:=s.e) (m:=s.m) (n:=m)),(rf (.one (bV 23 24 (luS m s.D m) m):Hl)),(rf (cC s.C m:Hl)),(rf (.one (eE s.e m s.m):Hl)),(rf 0),(rf 0),id,(by first | rfl | assumption | exact beq_iff_eq.2 hD1 | exact beq_iff_eq.2 hD2 | exact beq_iff_eq.2 hD3),(by first | rfl | assumption | exact beq_iff_eq.2 hD1 | exact beq_iff_eq.2 hD2 | exact beq_iff_eq.2 hD3),(decide_eq_true (show((s.m:Nat):Int)<=8 by have:=hK.hm;omega))⟩⟩⟩⟩⟩
theorem sBasisFresh{z0 l0:Nat}{k0:Nat->Nat}{p0 d0:Nat->Nat->Int}{N1:Nat}{K1:Nat->Int}{L1:Nat->Nat}{p1 d1:Nat->Nat->Int}{n2:Nat}{p2 d2:Nat->Int}(h0:∀r,r<l0->∀c,c<k0 r->Wd64 (p0 r c)/\Wd64 (d0 r c))(hN:N1<=68719476736)(hL1:∀i,i<N1->L1 i<=68719476736)(w1:∀i,i<N1->∀c,c<L1 i->Wd64 (p1 i c)/\Wd64 (d1 i c))(hn2:n2<=68719476736)(w2:∀i,i<n2->Wd64 (p2 i)/\Wd64 (d2 i)):CallOK Tryz.prog 3 [.agg (c2 (.ex (.int .u8 (z0:Int))) (.sl 1 (gE k0 p0 d0) l0)),.sl 2 (λi0=>.agg (c2 (iZ (K1 i0)) (.sl 2 (λi1=>.agg (c2 (iZ (p1 i0 i1)) (iZ (d1 i0 i1)))) (L1 i0)))) N1,fE p2 d2 n2] (bX true) []:=by
 by_cases hB:basOK (min l0 (z0%5)) (z0%5) (gQ k0 p0 d0)
 ·exact sBasisFresh_yes h0 rfl rfl hN hL1 w1 hn2 w2 hB rfl
 ·exact sBasisFresh_no h0 rfl rfl hB
open Go.ChangeShapes Go.WideShapes Go.ChangeAt Go.RowKit
section
variable {H:Type} {enc:TypeId×Value->H} {P:Program}
theorem trodAll_below(hl:laidOutB P=true){W W':World}(hb:Below W.heap.size W W'):∀{ts:List TypeId} {vs:List Value} {ds:List (DataW H)} {ps:List MemPlace},
  (∀t∈ts,P.readableRec t=true/\t<P.types.size)->DataW.TrodAll enc P W 0 (λ_=>true) true ts vs ds ps->(∀x∈ps,x.block<W.heap.size)->
  DataW.TrodAll enc P W' 0 (λb=>decide (b<W.heap.size)) true ts vs ds ps
 | [],_,_,_,_,h,_=>by
  obtain⟨rfl,rfl,rfl⟩:=trodAll_nil h
  exact trodAll_mk0
 | t::ts,_,_,_,ht,h,hlt=>by
  obtain⟨v,vs1,d,ds1,a,b,rfl,rfl,rfl,h1,h2⟩:=trodAll_cons h
  have ht0:=ht t (List.mem_cons_self ..)
  exact trodAll_cons_mk (Below.trod hl ht0.1 ht0.2 h1 hb (λx hx=>hlt x (List.mem_append.2 (.inl hx))))
   (trodAll_below hl hb (λt' h'=>ht t' (List.mem_cons_of_mem _ h')) h2 (λx hx=>hlt x (List.mem_append.2 (.inr hx))))
theorem law_post{f:Func}{s:ChangeSpec}{W W':World}{args:Array Value}{ds gs:List (DataW H)}{before:List MemPlace}{tb:TypeId}(hl:laidOutB P=true)
  (hts:∀t∈f.params.toList,P.readableRec t=true/\t<P.types.size)(hvars:s.vars=[])(hrt:f.resultTypes=#[tb])(htb:P.underlying tb=some .bool)
  (hW:DataW.Whole enc P f.params.toList s.vars false W args.toList ds gs before)(hfr:(s.fn H (ds++gs)).results=[.lit (.bool true)])(hfa:(s.fn H (ds++gs)).args=ds)(hfv:(s.fn H (ds++gs)).vars=[])
  (hb:Below W.heap.size W W'):s.post enc P f false true false false W args (.bool true) W':=by
 have hW0:=hW
 obtain⟨p,q,hA,hV,rfl,hz,hn⟩:=hW
 rw[hvars] at hV
 obtain⟨rfl,rfl⟩:=trodVars_none hV
 have hlt:∀x∈p++[],x.block<W.heap.size:=λx hx=>hW0.lt x hx
 refine⟨ds,[],p++[],[],p,[],hW0,?_,?_,?_,hb.frame _,λh=>by cases h⟩
 ·rw[hfr,hrt]
  exact trodAll_mk1 (shut_bool htb true)
 ·rw[hfa]
  exact trodAll_below hl hb hts hA (λx hx=>hlt x (by simpa using hx))
 ·rw[hvars,hfv]
  rfl
end
theorem TryzlaidOut:laidOutB Tryz.prog=true:=by kernel_rfl
theorem Tryzown:ownKnob Tryz.prog.godebug=none:=by kernel_rfl
open Go.ChangeShapes Go.WideShapes Go.ChangeAt Go.RowKit Go.Deep
def R0 (a:SV) (W:World) (v:Value):Prop:=a.R (λ_ _=>none) (λ_=>False) W v
section
variable {H:Type} {enc:TypeId×Value->H} {W:World} {fuel base:Nat} {cs:List Value} {x:DataW H×List MemPlace}
def LongC (n:Nat) (d:DataW H) (C:Nat->DataW H->Prop):Prop:=(n=0/\d=.nil)∨∃(D:Nat->DataW H) (sp:List (DataW H)),d=.slice ((List.range n).map D) sp/\∀i,i<n->C i (D i)
def Opens (enc:TypeId×Value->H) (W:World) (T:TypeId) (s:Nat) {α:Type} (E:α->SV) (C:α->DataW H->Prop):Prop:=∀fuel cs x,DataW.trod enc Tryz.prog W 0 (λ_=>true) true fuel T cs=some x->∃(t:α) (ev:Value),cs=ev.cells.toList/\ev.cells.size=s/\One ev/\R0 (E t) W ev/\C t x.1
theorem choose_nat{α:Type}(d:α){p:Nat->α->Prop}{n:Nat}(h:∀i,i<n->∃t,p i t):∃t:Nat->α,∀i,i<n->p i (t i):=by
 classical
 exact⟨λi=>if hi:i<n then(h i hi).choose else d,λi hi=>by simpa [hi] using(h i hi).choose_spec⟩
theorem cellLt{a:Addr}{v:Value}(h:W.cell? a=some v):a.block<W.heap.size:=by
 unfold World.cell? at h
 split at h
 ·rename_i hh
  exact(Array.getElem?_eq_some_iff.1 hh).1
 all_goals cases h
theorem opens_sl{T e:TypeId}{s:Nat}{α:Type}{E:α->SV}{C:α->DataW H->Prop}(d:α)(hT:Tryz.prog.underlying T=some (.slice e))(hs:Tryz.prog.cellsOf e=s)(h0:0<s)(h:Opens enc W e s E C):
  Opens enc W T 1 (λt:Nat×(Nat->α)=>.sl s (λi=>E (t.2 i)) t.1) (λt d=>LongC t.1 d λi d'=>C (t.2 i) d'):=by
 intro fuel cs x hr
 rcases open_slice hT hr with⟨rfl,rfl⟩ | ⟨a,len,cap,m,k,D,Pl,rfl,_,hl,hm,hmm,rfl,hx⟩
 ·exact⟨(0,λ_=>d),.slice none 0 0,rfl,rfl,by simp[One,Value.cells,Value.oneCell'],⟨none,0,rfl,λ_=>⟨rfl,rfl⟩,Nat.le_refl _,Nat.zero_le _,λi hi=>by omega⟩,.inl ⟨rfl,rfl⟩⟩
 ·have hm':m=cap:=by rw[hmm];rfl
  subst hs
  rcases Nat.eq_zero_or_pos len with rfl | hpos
  ·exact⟨(0,λ_=>d),.slice (some a) 0 cap,rfl,rfl,by simp[One,Value.cells,Value.oneCell'],⟨some a,cap,rfl,(λe=>by cases e),Nat.zero_le _,hm,λi hi=>by omega⟩,.inr ⟨D,_,rfl,λi hi=>by omega⟩⟩
  have hspot:a.spot=none:=by
   obtain⟨cs',hc,_⟩:=hx 0 zo
   obtain⟨_,hlen,hcell⟩:=World.cells?_some hc
   have h1:=hcell 0 h0
   rw[List.getElem?_eq_getElem (by rw[hlen];exact h0)] at h1
   have:=World.cell?_spot h1
   simpa [Addr.add] using this
  obtain⟨g,o,sp⟩:=a
  simp only at hspot
  subst hspot
  have hone:∀i,i<len->∃t:α,(∃g' o',some (⟨g,o,none⟩:Addr)=some ⟨g',o',none⟩/\g'<W.heap.size/\∃ev:Value,(ev.cells.size=Tryz.prog.cellsOf e/\One ev)/\R0 (E t) W ev/\∀j u,ev.cells[j]?=some u->W.cell? ⟨g',(o'+Tryz.prog.cellsOf e*i)+j,none⟩=some u)/\C t (D i):=λi hi=>by
   obtain⟨cs',hc,ht⟩:=hx i zo
   obtain⟨t,ev,rfl,k1,k2,k3,k4⟩:=h _ _ _ ht
   obtain⟨_,hlen,hcell⟩:=World.cells?_some hc
   have hcell:∀j,j<Tryz.prog.cellsOf e->W.cell? ⟨g,o+Tryz.prog.cellsOf e*i+j,none⟩=ev.cells.toList[j]?:=λj hj=>by
    have:=hcell j hj
    rw[add_plain,add_plain] at this
    rw[←this,Nat.mul_comm i]
   have hg:g<W.heap.size:=by
    have h1:=hcell 0 h0
    rw[List.getElem?_eq_getElem (by rw[hlen];exact h0)] at h1
    exact cellLt h1
   refine⟨t,⟨g,o,rfl,hg,ev,⟨k1,k2⟩,k3,λj u hj=>?_⟩,k4⟩
   have hj3:j<ev.cells.size:=(Array.getElem?_eq_some_iff.1 hj).1
   rw[hcell j zo]
   simpa using hj
  obtain⟨t,ht⟩:=choose_nat d hone
  refine⟨(len,t),.slice (some ⟨g,o,none⟩) len cap,rfl,rfl,by simp[One,Value.cells,Value.oneCell'],⟨some ⟨g,o,none⟩,cap,rfl,(λe=>by cases e),hl,hm,λi hi=>?_⟩,.inr ⟨_,_,rfl,λi hi=>(ht i hi).2⟩⟩
  obtain⟨g,o,e1,e2,ev,e3,e4,e5⟩:=(ht i hi).1
  exact⟨g,o,e1,id,e2,ev,e3,e4,e5⟩
theorem opens_int{T:TypeId}(hT:Tryz.prog.underlying T=some (.int .i64)):Opens enc W T 1 (λz:Int=>.ex (.int .i64 z)) (λz _=>Wd64 z):=by
 intro fuel cs x hx
 obtain⟨p,hp,_,wp⟩:=DataW.trod_int hT hx
 have:-9223372036854775808<=p/\p<=9223372036854775807:=by simpa [Lit.wf,IntKind.min,IntKind.max,IntKind.signed,IntKind.bits] using wp
 exact⟨p,.int .i64 p,hp,rfl,by simp[One,Value.cells,Value.oneCell'],rfl,this.1,by omega⟩
theorem flat_agg{vs:List Value}(h:∀v∈vs,One v):One (.agg (flat vs).toArray):=by
 intro u hu
 rw[agg_cells] at hu
 obtain⟨v,hv,hu⟩:=List.mem_flatMap.1 hu
 exact h v hv u hu
theorem opens_pair{T:TypeId}{f0 f1:Field}{s0 s1:Nat}{α β:Type}{E0:α->SV}{E1:β->SV}{C0:α->DataW H->Prop}{C1:β->DataW H->Prop}(hT:Tryz.prog.underlying T=some (.struct #[f0,f1]))(h0:f0.offset=0)(h1:f1.offset=s0)(c0:Tryz.prog.cellsOf f0.type=s0)(c1:Tryz.prog.cellsOf f1.type=s1)(c:Tryz.prog.cellsOf T=s0+s1)
  (k0:Opens enc W f0.type s0 E0 C0)(k1:Opens enc W f1.type s1 E1 C1):Opens enc W T (s0+s1) (λt:α×β=>.agg (.cn (E0 t.1) (.cn (E1 t.2) .nl))) (λt d=>∃d0 d1,d=.agg [d0,d1]/\C0 t.1 d0/\C1 t.2 d1):=by
 intro fuel cs x hr
 obtain⟨y0,y1,n,rfl,hl,r0,r1⟩:=trod_struct2 hT hr
 obtain⟨t0,e0,z0,a0,o0,b0,g0⟩:=k0 _ _ _ r0
 obtain⟨t1,e1,z1,a1,o1,b1,g1⟩:=k1 _ _ _ r1
 rw[h0,c0,List.drop_zero] at z0
 rw[h1,c1] at z1
 have hcs:cs=flat [e0,e1]:=by
  show cs=e0.cells.toList++(e1.cells.toList++[])
  rw[←z0,←z1,List.append_nil,List.take_of_length_le (l:=List.drop s0 cs) (by rw[List.length_drop];omega),List.take_append_drop]
 refine⟨(t0,t1),.agg (flat [e0,e1]).toArray,by rw[agg_cells,hcs],?_,flat_agg λv hv=>?_,⟨[e0,e1],rfl,e0,[e1],rfl,b0,e1,[],rfl,b1,rfl⟩,_,_,rfl,g0,g1⟩
 ·show(flat [e0,e1]).toArray.size=_
  rw[←hcs]
  simp only[List.size_toArray]
  omega
 ·simp only[List.mem_cons,List.not_mem_nil,or_false] at hv
  rcases hv with rfl | rfl
  ·exact o0
  ·exact o1
theorem opens_slV{T e:TypeId}{s:Nat}{α:Type}{E:α->SV}{C:α->DataW H->Prop}{v:Value}{d:DataW H}{ps:List MemPlace}(hT:Tryz.prog.underlying T=some (.slice e))(hv:Value.okWide Tryz.prog W .any base T v)(h:DataW.Trod enc Tryz.prog W 0 (λ_=>true) true T v d ps)
  (k:Opens enc W T 1 (λt:Nat×(Nat->α)=>.sl s (λi=>E (t.2 i)) t.1) (λt d=>LongC t.1 d λi d'=>C (t.2 i) d')):∃(n:Nat) (t:Nat->α),R0 (.sl s (λi=>E (t i)) n) W v/\LongC n d λi d'=>C (t i) d':=by
 obtain⟨a,len,cap,rfl⟩:=okWide_slice hT hv
 obtain⟨fuel,hf⟩:=h
 obtain⟨t,ev,e,_,_,hR,hC⟩:=k _ _ _ hf
 have hev:ev=.slice a len cap:=by
  obtain⟨A0,c,rfl,_⟩:=hR
  have e:[Value.slice a len cap]=[Value.slice A0 t.1 c]:=e
  exact(List.cons.inj e).1.symm
 subst hev
 exact⟨t.1,t.2,hR,hC⟩
theorem opens_aggV{T:TypeId}{fs:Array Field}{s:Nat}{α:Type}{E:α->SV}{C:α->DataW H->Prop}{v:Value}{d:DataW H}{ps:List MemPlace}(hT:Tryz.prog.underlying T=some (.struct fs))(hv:Value.okWide Tryz.prog W .any base T v)(h:DataW.Trod enc Tryz.prog W 0 (λ_=>true) true T v d ps)
  (k:Opens enc W T s (λt:α=>.agg (E t)) C):∃t:α,R0 (.agg (E t)) W v/\C t d:=by
 obtain⟨cs,rfl,_⟩:=okWide_struct hT hv
 obtain⟨fuel,hf⟩:=h
 obtain⟨t,ev,e,_,_,hR,hC⟩:=k _ _ _ hf
 have hev:ev=.agg cs:=by
  obtain⟨vs,rfl,_⟩:=hR
  rw[agg_cells] at e
  have e:cs.toList=flat vs:=e
  rw[←e]
 subst hev
 exact⟨t,hR,hC⟩
end
def fracS (t:Int×Int):SV:=.agg (.cn (.ex (.int .i64 t.1)) (.cn (.ex (.int .i64 t.2)) .nl))
theorem opens_frac{H:Type}{enc:TypeId×Value->H}{W:World}:Opens enc W 105 2 fracS (λt d=>∃d0 d1,d=.agg [d0,d1]/\Wd64 t.1/\Wd64 t.2):=
 opens_pair (s0:=1) (s1:=1) Tryz.underlying105 rfl rfl zk zk zk (opens_int Tryz.underlying3) (opens_int Tryz.underlying3)
def rowS (t:Nat×(Nat->Int×Int)):SV:=.sl 2 (λi=>fracS (t.2 i)) t.1
def RowC {H:Type} (t:Nat×(Nat->Int×Int)) (d:DataW H):Prop:=LongC t.1 d λi d'=>∃d0 d1,d'=.agg [d0,d1]/\Wd64 (t.2 i).1/\Wd64 (t.2 i).2
theorem opens_fracs{H:Type}{enc:TypeId×Value->H}{W:World}:Opens enc W 26 1 rowS RowC:=
 opens_sl (E:=fracS) (C:=λt d=>∃d0 d1,d=.agg [d0,d1]/\Wd64 t.1/\Wd64 t.2) (0,0) Tryz.underlying26 zk zd opens_frac
theorem opens_rows{H:Type}{enc:TypeId×Value->H}{W:World}:Opens enc W 22 1 (λt:Nat×(Nat->Nat×(Nat->Int×Int))=>.sl 1 (λi=>rowS (t.2 i)) t.1) (λt d=>LongC t.1 d λi d'=>RowC (t.2 i) d'):=
 opens_sl (E:=rowS) (C:=RowC) (0,λ_=>(0,0)) Tryz.underlying22 zk zd opens_fracs
section
variable {H:Type} {enc:TypeId×Value->H} {W:World} {base:Nat} {v:Value} {d:DataW H} {ps:List MemPlace}
theorem top_fracs(hv:Value.okWide Tryz.prog W .any base 26 v)(h:DataW.Trod enc Tryz.prog W 0 (λ_=>true) true 26 v d ps):∃(n:Nat) (t:Nat->Int×Int),R0 (.sl 2 (λi=>fracS (t i)) n) W v/\LongC n d λi d'=>∃d0 d1,d'=.agg [d0,d1]/\Wd64 (t i).1/\Wd64 (t i).2:=
 opens_slV (E:=fracS) (C:=λt d=>∃d0 d1,d=.agg [d0,d1]/\Wd64 t.1/\Wd64 t.2) Tryz.underlying26 hv h opens_fracs
end
theorem CallOK.law{f:FuncId}{As:List SV}(h:CallOK Tryz.prog f As (bX true) []){W:World}{vals:List Value}(hA:xO As (λ_ _=>none) (λ_=>False) W vals)(hg:Gl W:=by intro _ e;cases e):Calls Tryz.prog f vals.toArray W λe W'=>∃v,e=.returned v/\Below W.heap.size W W'/\v=.bool true:=
 (h.run (λ_ _=>none) (λ_=>False) W vals ⟨λ_ h=>h.elim,hg⟩ hA).mono λ_ _ ⟨v,_,e1,hp,hR⟩=>⟨v,e1,hp.mod.grow,hR⟩
open Go.ChangeShapes Go.WideShapes Go.ChangeAt Go.RowKit Go.Deep
section
variable {H:Type} {enc:TypeId×Value->H} {W:World} {base:Nat} {v:Value} {d:DataW H} {ps:List MemPlace}
theorem LongC.at{n:Nat}{d:DataW H}{C:Nat->DataW H->Prop}(h:LongC n d C):∀i,i<n->∃d',C i d':=λi hi=>by
 rcases h with⟨rfl,_⟩ | ⟨D,_,_,k⟩
 ·omega
 ·exact⟨D i,k i hi⟩
theorem opens_u8{T:TypeId}(hT:Tryz.prog.underlying T=some (.int .u8)):Opens enc W T 1 (λz:Nat=>.ex (.int .u8 (z:Int))) (λz _=>z<256):=by
 intro fuel cs x hx
 obtain⟨p,hp,_,wp⟩:=DataW.trod_int hT hx
 have:0<=p/\p<=255:=by simpa [Lit.wf,IntKind.min,IntKind.max,IntKind.signed,IntKind.bits] using wp
 exact⟨p.toNat,.int .u8 p,hp,rfl,by simp[One,Value.cells,Value.oneCell'],by show Value.int .u8 p=.int .u8 ((p.toNat:Nat):Int);rw[Int.toNat_of_nonneg this.1],by omega⟩
end
theorem opens_grid{H:Type}{enc:TypeId×Value->H}{W:World}:Opens enc W 24 2 (λt:Nat×(Nat×(Nat->Nat×(Nat->Int×Int)))=>.agg (.cn (.ex (.int .u8 ((t.1:Nat):Int))) (.cn (.sl 1 (λi=>rowS (t.2.2 i)) t.2.1) .nl))) (λt d=>∃d0 d1,d=.agg [d0,d1]/\t.1<256/\LongC t.2.1 d1 λi d'=>RowC (t.2.2 i) d'):=
 opens_pair (s0:=1) (s1:=1) Tryz.underlying24 rfl rfl zk zk zk (opens_u8 Tryz.underlying5) opens_rows
section
variable {H:Type} {enc:TypeId×Value->H} {W:World} {base:Nat} {v:Value} {d:DataW H} {ps:List MemPlace}
theorem LongC.wf{n:Nat}{d:DataW H}{f:Nat->Nat}(h:LongC n d λi _=>f i<18446744073709551616):Wf f n:=λi hi=>by
 obtain⟨_,k⟩:=h.at i hi
 exact k
theorem top_grid(hv:Value.okWide Tryz.prog W .any base 24 v)(h:DataW.Trod enc Tryz.prog W 0 (λ_=>true) true 24 v d ps):∃(t:Nat×(Nat×(Nat->Nat×(Nat->Int×Int)))),R0 (.agg (.cn (.ex (.int .u8 ((t.1:Nat):Int))) (.cn (.sl 1 (λi=>rowS (t.2.2 i)) t.2.1) .nl))) W v/\t.1<256/\∀r,r<t.2.1->∀c,c<(t.2.2 r).1->Wd64 ((t.2.2 r).2 c).1/\Wd64 ((t.2.2 r).2 c).2:=by
 obtain⟨t,hR,_,_,_,h8,hL⟩:=opens_aggV (E:=λt:Nat×(Nat×(Nat->Nat×(Nat->Int×Int)))=>.cn (.ex (.int .u8 ((t.1:Nat):Int))) (.cn (.sl 1 (λi=>rowS (t.2.2 i)) t.2.1) .nl)) Tryz.underlying24 hv h opens_grid
 refine⟨t,hR,h8,λr hr c hc=>?_⟩
 obtain⟨_,k⟩:=hL.at r hr
 obtain⟨_,_,_,_,k2⟩:=k.at c hc
 exact k2
end
end Go.Proofs.YtgighdoacajmfaaGreatDoor
