/- The parts SB, VecM, SV, SL, SA, SG, Det, Red, Lin, Del, Ht, DetI, SE, Lu, SU, LuS, SCl, SU2, SI, SRM, SR2, SR5, SX, SIR, Eta. -/
import Derived.Test.YtjhfkgpjcdbjaaaGreatDoorQ4
set_option maxRecDepth 100000
namespace Go.Proofs.YtjhfkgpjcdbjaaaGreatDoor
open Go.RowKit
theorem LIM_eq:LIM=68719476736:=by unfold LIM;rfl
theorem sQuotDivMod{x y:Nat}(hs:nw x<1099511627776):CallOK Tryz.prog 148 [.nat x,.nat y] (.cn (.nat (x/y)) (.cn (.nat (if y=0 then 0 else x%y)) (.cn (bX (!decide (y=0))) .nl))) []:=by
 refine .of_ret (m:=.tup3 (.nat (x/y)) (.nat (if y=0 then 0 else x%y)) (.eq (.bool (!decide (y=0))))) (zL Tryz.func148 rfl zk) (λ_ _ _ v h=>by obtain⟨a,b,c,rfl,h1,h2,h3⟩:=h;exact⟨a,[b,c],rfl,⟨h1,rfl⟩,b,[c],rfl,⟨h2,rfl⟩,c,[],rfl,h3,rfl⟩) λη F w vals h=>?_
 match vals,h with
 | [v0,v1],h=>exact cQuotDivMod h.1.1 h.2.1.1 hs
theorem sQuotDivModP{x y:Nat}(hy:y≠0)(hs:nw x<1099511627776):CallOK Tryz.prog 148 [.nat x,.nat y] (.cn (.nat (x/y)) (.cn (.nat (x%y)) (.cn (bX true) .nl))) []:=by
 have h:=sQuotDivMod (x:=x) (y:=y) hs
 rw[if_neg hy,decide_eq_false hy] at h
 exact h
theorem gcd_turn{x y:Nat}{g:Nat×Nat}(h:Nat.gcd g.1 g.2=Nat.gcd x y/\nw g.1<1099511627776/\nw g.2<1099511627776)(hz:g.2≠0):Nat.gcd g.2 (g.1%g.2)=Nat.gcd x y/\nw g.2<1099511627776/\nw (g.1%g.2)<1099511627776:=by
 have:=kU (Nat.le_of_lt (Nat.mod_lt g.1 (Nat.pos_of_ne_zero hz)))
 exact⟨by rw[←h.1,Nat.gcd_comm g.1,Nat.gcd_comm g.2,←Nat.gcd_rec],h.2.2,by omega⟩
theorem natAbs_sg(b:Bool)(x:Nat):(signed b x).natAbs=x:=by unfold signed;split<;>omega
theorem signed_false(x:Nat):signed false x=(x:Int):=rfl
theorem signed_neg(z:Int):signed (!(decide (z<0))) z.natAbs=-z:=by
 unfold signed
 by_cases h:z<0<;>simp[h]<;>omega
theorem signed_mul2(y z:Int):signed (!((decide (y<0))==(decide (z<0)))) (y.natAbs*z.natAbs)=y*z:=by
 have e:((y.natAbs*z.natAbs:Nat):Int)=(y.natAbs:Int)*(z.natAbs:Int):=rfl
 unfold signed
 by_cases h:y<0<;>by_cases k:z<0<;>simp only[h,k,decide_true,decide_false,BEq.rfl,Bool.not_true,Bool.false_eq_true,if_false,e]
 ·rw[Int.ofNat_natAbs_of_nonpos zo,Int.ofNat_natAbs_of_nonpos zo,Int.neg_mul_neg]
 ·rw[Int.ofNat_natAbs_of_nonpos zo,Int.natAbs_of_nonneg zo,Int.neg_mul,Int.neg_neg];simp
 ·rw[Int.natAbs_of_nonneg zo,Int.ofNat_natAbs_of_nonpos zo,Int.mul_neg,Int.neg_neg];simp
 ·rw[Int.natAbs_of_nonneg zo,Int.natAbs_of_nonneg zo]
theorem signed_add1{y z:Int}(h:((decide (y<0))==(decide (z<0)))=true):signed (decide (y<0)) (y.natAbs+z.natAbs)=y+z:=by
 unfold signed
 by_cases hy:y<0<;>by_cases hz:z<0<;>simp[hy,hz] at h⊢<;>omega
theorem signed_add2{y z:Int}(h:((decide (y<0))==(decide (z<0)))=false)(k:z.natAbs<=y.natAbs):signed (decide (y<0)) (y.natAbs-z.natAbs)=y+z:=by
 unfold signed
 by_cases hy:y<0<;>by_cases hz:z<0<;>simp[hy,hz] at h⊢<;>omega
theorem signed_add3{y z:Int}(h:((decide (y<0))==(decide (z<0)))=false)(k:y.natAbs<=z.natAbs):signed (decide (z<0)) (z.natAbs-y.natAbs)=y+z:=by
 unfold signed
 by_cases hy:y<0<;>by_cases hz:z<0<;>simp[hy,hz] at h⊢<;>omega
theorem new_num2(a b:Int)(hb:b≠0):signed (!((decide (a<0))==(decide (b<0)))) (a.natAbs/Nat.gcd a.natAbs b.natAbs)=(Rat.divInt a b).num:=(new_num a b hb).symm
theorem new_den2(a b:Int)(hb:b≠0):b.natAbs/Nat.gcd a.natAbs b.natAbs=(Rat.divInt a b).den:=(new_den a b hb).symm
theorem cmpS1{y z:Int}(h:(bif !((decide (y<0))==(decide (z<0))) then decide (y<0) else false)=true):-1=cmpV y z:=by
 by_cases hy:y<0<;>by_cases hz:z<0<;>simp[hy,hz] at h
 unfold cmpV;rw[if_pos zo]
theorem cmpS2{y z:Int}(h:(bif !((decide (y<0))==(decide (z<0))) then decide (y<0) else false)=false)(k:(!((decide (y<0))==(decide (z<0))))=true):1=cmpV y z:=by
 by_cases hy:y<0<;>by_cases hz:z<0<;>simp[hy,hz] at h k
 unfold cmpV;rw[if_neg zo,if_neg zo]
theorem cmpS3{y z:Int}(k:(!((decide (y<0))==(decide (z<0))))=false)(hy:y<0):cmpV ((z.natAbs:Nat):Int) ((y.natAbs:Nat):Int)=cmpV y z:=by
 have hz:z<0:=by simpa [hy] using k
 unfold cmpV
 by_cases h:y<z
 ·rw[if_pos h,if_pos zo]
 ·by_cases e:y=z
  ·rw[if_neg h,if_neg zo,if_pos e,if_pos zo]
  ·rw[if_neg h,if_neg zo,if_neg e,if_neg zo]
theorem cmpS4{y z:Int}(k:(!((decide (y<0))==(decide (z<0))))=false)(hy:¬y<0):cmpV ((y.natAbs:Nat):Int) ((z.natAbs:Nat):Int)=cmpV y z:=by
 have hz:¬z<0:=by simpa [hy] using k
 rw[Int.natAbs_of_nonneg zo,Int.natAbs_of_nonneg zo]
theorem uint_one'(d:Nat):(bif xI d then decide (((uintV d:Nat):Int)=1) else false)=decide (d=1):=by
 rw[←uint_one];cases xI d<;>rfl
theorem sQuotDiv{x y:Nat}(hs:nw x<1099511627776):CallOK Tryz.prog 140 [.nat x,.nat y] (c2 (.nat (x/y)) (bX (!decide (y=0)))) []:=by
 exact kP (ch:=[.reg 1 [(2,.callS (c3 (.nat (x/y)) (.nat (if y=0 then 0 else x%y)) (bX (!decide (y=0)))) [])]]) Tryz.func140 (_/\(_/\_))
  ⟨sQuotDivMod (x:=x) (y:=y) zo,(rf (x/y:Nat)),(rf (!decide (y=0):Bool))⟩
theorem sQuotModP{x y:Nat}(hy:y≠0)(hs:nw x<1099511627776):CallOK Tryz.prog 147 [.nat x,.nat y] (c2 (.nat (x%y)) (bX true)) []:=by
 exact kP (ch:=[.reg 1 [(2,.callS (c3 (.nat (x/y)) (.nat (x%y)) (bX true)) [])]]) Tryz.func147 (_/\(_/\_))
  ⟨sQuotDivModP (x:=x) (y:=y) (by assumption) zo,(rf (x%y:Nat)),(rf (true:Bool))⟩
theorem sGcdOf{x y:Nat}(hx:nw x<1099511627776)(hy:nw y<1099511627776):CallOK Tryz.prog 139 [.nat x,.nat y] (.nat (Nat.gcd x y)) []:=by
 exact kP (ch:=[.loop 1 (Nat×Nat) (λg=>(Nat.gcd g.1 g.2=Nat.gcd x y/\nw g.1<1099511627776/\nw g.2<1099511627776)) (λg=>g.2) (λg=>⟨[(2,.own 0 0),(3,.own 1 0),(4,.own 2 0)],[(0,.one (.var 72 (.nat g.1))),(1,.one (.var 72 (.nat g.2))),(2,.one (.var 72 (.ex (.agg #[.slice none 0 0]))))],3⟩) [(0,.id 0),(1,.id 1),(2,.id 2)] (λ_=>[(0,.id 0),(1,.id 1),(2,.id 2)]) (λg=>[.reg 1 [(1,.callS (bX (decide (g.2=0))) [])],.reg 2 [(2,.callS (c2 (.nat (g.1%g.2)) (bX true)) [])]])]) Tryz.func139 ((((λX1 X2 X3:Prop=>∃g0:Nat×Nat,X1/\X2/\X3/\((x:Nat)=g0.1)/\((y:Nat)=g0.2)/\((.agg #[.slice none 0 0]:Value)=.agg #[.slice none 0 0])/\((Nat.gcd g0.1 g0.2=Nat.gcd x y/\nw g0.1<1099511627776/\nw g0.2<1099511627776))) _ _ _)/\∀g:Nat×Nat,(Nat.gcd g.1 g.2=Nat.gcd x y/\nw g.1<1099511627776/\nw g.2<1099511627776)->_/\(((!(decide (g.2=0)))=true->_/\((λX1 X2 X3:Prop=>∃g1:Nat×Nat,X1/\X2/\X3/\((g.2:Nat)=g1.1)/\((g.1%g.2:Nat)=g1.2)/\((.agg #[.slice none 0 0]:Value)=.agg #[.slice none 0 0])/\((Nat.gcd g1.1 g1.2=Nat.gcd x y/\nw g1.1<1099511627776/\nw g1.2<1099511627776))/\(g1.2<g.2)) _ _ _))/\((!(decide (g.2=0)))=false->(((g.1:Nat)=(Nat.gcd x y)))))))
  ⟨⟨(x,y),(rf 0),(rf 0),(rf 0),rfl,rfl,rfl,rfl,hx,hy⟩,λg hg=>have hg2:=hg.2;⟨sNatZero (x:=g.2),λhc9=>have hz:g.2≠0:=(by simpa using hc9);⟨sQuotModP (x:=g.1) (y:=g.2) hz hg2.1,(g.2,g.1%g.2),(rf 0),(rf 0),(rf 0),rfl,rfl,rfl,gcd_turn hg hz,(Nat.mod_lt _ (Nat.pos_of_ne_zero hz))⟩,λhc9=>have hz:g.2=0:=(by simpa using hc9);(by rw[←hg.1,hz,Nat.gcd_zero_right])⟩⟩
theorem sGcdReduce{x y:Nat}(hx:nw x<1099511627776)(hy:nw y<1099511627776):CallOK Tryz.prog 119 [.nat x,.nat y] (c2 (.nat (x/Nat.gcd x y)) (.nat (y/Nat.gcd x y))) []:=by
 exact kP (ch:=[.reg 1 [(2,.callS (.nat (Nat.gcd x y)) [])],.reg 2 [(1,.callS (bX (decide (Nat.gcd x y=0))) [])],.reg 4 [(2,.callS (c2 (.nat (x/(Nat.gcd x y))) (bX (!decide ((Nat.gcd x y)=0)))) [])],.reg 5 [(2,.callS (c2 (.nat (y/(Nat.gcd x y))) (bX (!decide ((Nat.gcd x y)=0)))) [])]]) Tryz.func119 (_/\_/\(((decide (Nat.gcd x y=0))=true->(((x:Nat)=(x/Nat.gcd x y))/\((y:Nat)=(y/Nat.gcd x y))))/\((decide (Nat.gcd x y=0))=false->_/\_/\(((x/(Nat.gcd x y):Nat)=(x/Nat.gcd x y))/\((y/(Nat.gcd x y):Nat)=(y/Nat.gcd x y))))))
  ⟨sGcdOf (x:=x) (y:=y) zo zo,sNatZero (x:=Nat.gcd x y),λhc15=>have hc15:=dT hc15;have h0:=Nat.gcd_eq_zero_iff.1 hc15;⟨(by rw[h0.1,Nat.zero_div]),(by rw[h0.2,Nat.zero_div])⟩,λhc15=>have hc15:=dF hc15;⟨sQuotDiv (x:=x) (y:=Nat.gcd x y) zo,sQuotDiv (x:=y) (y:=Nat.gcd x y) zo,rfl,rfl⟩⟩
theorem sIntBelowG{z:Int}:CallOK Tryz.prog 122 [.agg (c2 (bX (decide (z<0))) (.nat z.natAbs))] (bX (decide (z<0))) []:=by
 exact kP (ch:=[]) Tryz.func122 ((_))
  (rf (decide (z<0):Bool))
theorem sIntBelow{z:Int}:CallOK Tryz.prog 122 [.int z] (bX (decide (z<0))) []:=(sIntBelowG).args λ_ _ _=>argI1
theorem sIntAbsG{z:Int}:CallOK Tryz.prog 120 [.agg (c2 (bX (decide (z<0))) (.nat z.natAbs))] (.nat z.natAbs) []:=by
 exact kP (ch:=[]) Tryz.func120 ((_))
  (rf (z.natAbs:Nat))
theorem sIntAbs{z:Int}:CallOK Tryz.prog 120 [.int z] (.nat z.natAbs) []:=(sIntAbsG).args λ_ _ _=>argI1
theorem sIntSignG{z:Int}:CallOK Tryz.prog 70 [.agg (c2 (bX (decide (z<0))) (.nat z.natAbs))] (.ex (.int .i64 z.sign)) []:=by
 exact kP (ch:=[.reg 3 [(2,.callS (bX (decide (z.natAbs=0))) [])]]) Tryz.func70 ((((decide (z<0))=true->(((-1:Int)=z.sign)))/\((decide (z<0))=false->_/\(((decide (z.natAbs=0))=true->(((0:Int)=z.sign)))/\((decide (z.natAbs=0))=false->(((1:Int)=z.sign)))))))
  ⟨λhc3=>have hc3:=dT hc3;(Int.sign_eq_neg_one_of_neg hc3).symm,λhc3=>have hc3:=dF hc3;⟨sNatZero (x:=z.natAbs),λhc6=>have hc6:=dT hc6;(by rw[Int.natAbs_eq_zero.1 hc6];rfl),λhc6=>have hc6:=dF hc6;(Int.sign_eq_one_of_pos zo).symm⟩⟩
theorem sIntSign{z:Int}:CallOK Tryz.prog 70 [.int z] (.ex (.int .i64 z.sign)) []:=(sIntSignG).args λ_ _ _=>argI1
theorem sIntNegG{z:Int}:CallOK Tryz.prog 136 [.agg (c2 (bX (decide (z<0))) (.nat z.natAbs))] (.int (-z)) []:=by
 exact kP (ch:=[.reg 1 [(5,.callS (.int (signed (!(decide (z<0))) z.natAbs)) [])]]) Tryz.func136 (_/\(((signed (!(decide (z<0))) z.natAbs:Int)=(-z))))
  ⟨jG (b:=! (decide (z<0))) (x:=z.natAbs),(signed_neg z)⟩
theorem sIntNeg{z:Int}:CallOK Tryz.prog 136 [.int z] (.int (-z)) []:=(sIntNegG).args λ_ _ _=>argI1
theorem sIntCmpG{y z:Int}:CallOK Tryz.prog 73 [.agg (c2 (bX (decide (y<0))) (.nat y.natAbs)),.agg (c2 (bX (decide (z<0))) (.nat z.natAbs))] (iZ (cmpV y z)) []:=by
 exact kP (ch:=[.reg 6 [(4,.callS (iZ (cmpV ((z.natAbs:Nat):Int) ((y.natAbs:Nat):Int))) [])],.reg 7 [(4,.callS (iZ (cmpV ((y.natAbs:Nat):Int) ((z.natAbs:Nat):Int))) [])]]) Tryz.func73 (_/\((!((decide (y<0))==(decide (z<0))))=true->((!((decide (y<0))==(decide (z<0))))==true)=true)/\(((bif (!((decide (y<0))==(decide (z<0)))) then(decide (y<0)) else false)=true->(((-1:Int)=(cmpV y z))))/\((bif (!((decide (y<0))==(decide (z<0)))) then(decide (y<0)) else false)=false->(((!((decide (y<0))==(decide (z<0))))=true->(((1:Int)=(cmpV y z))))/\((!((decide (y<0))==(decide (z<0))))=false->(((decide (y<0))=true->_/\(((cmpV ((z.natAbs:Nat):Int) ((y.natAbs:Nat):Int):Int)=(cmpV y z))))/\((decide (y<0))=false->_/\(((cmpV ((y.natAbs:Nat):Int) ((z.natAbs:Nat):Int):Int)=(cmpV y z))))))))))
  ⟨(idB ((!((decide (y<0))==(decide (z<0))))==true)),zs,λhc5=>(cmpS1 hc5),λhc5=>⟨λhc15=>(cmpS2 hc5 hc15),λhc15=>⟨λhc21=>have hc21:=dT hc21;⟨sNatCmp (x:=z.natAbs) (y:=y.natAbs),(cmpS3 hc15 hc21)⟩,λhc21=>have hc21:=dF hc21;⟨sNatCmp (x:=y.natAbs) (y:=z.natAbs),(cmpS4 hc15 hc21)⟩⟩⟩⟩
theorem sIntCmp{y z:Int}:CallOK Tryz.prog 73 [.int y,.int z] (iZ (cmpV y z)) []:=(sIntCmpG).args λ_ _ _=>argI2
theorem sIntAddG{y z:Int}(hs:Small (y.natAbs+z.natAbs)):CallOK Tryz.prog 111 [.agg (c2 (bX (decide (y<0))) (.nat y.natAbs)),.agg (c2 (bX (decide (z<0))) (.nat z.natAbs))] (.int (y+z)) []:=by
 exact kP (ch:=[.reg 2 [(6,.callS (.nat (y.natAbs+z.natAbs)) []),(7,.callS (.int (signed (decide (y<0)) (y.natAbs+z.natAbs))) [])],.reg 3 [(4,.callS (c2 (.nat (y.natAbs-z.natAbs)) (bX (decide (z.natAbs<=y.natAbs)))) [])],.reg 5 [(3,.callS (.int (signed (decide (y<0)) (y.natAbs-z.natAbs))) [])],.reg 6 [(4,.callS (c2 (.nat (z.natAbs-y.natAbs)) (bX (decide (y.natAbs<=z.natAbs)))) [])],.reg 7 [(3,.callS (.int (signed (decide (z<0)) (z.natAbs-y.natAbs))) [])]]) Tryz.func111 (((((decide (y<0))==(decide (z<0)))=true->_/\_/\(((signed (decide (y<0)) (y.natAbs+z.natAbs):Int)=(y+z))))/\(((decide (y<0))==(decide (z<0)))=false->_/\(((decide (z.natAbs<=y.natAbs))=true->_/\(((signed (decide (y<0)) (y.natAbs-z.natAbs):Int)=(y+z))))/\((decide (z.natAbs<=y.natAbs))=false->_/\_/\(((signed (decide (z<0)) (z.natAbs-y.natAbs):Int)=(y+z))))))))
  ⟨λhc13=>⟨sNatAdd (x:=y.natAbs) (y:=z.natAbs) (by assumption),jG (b:=decide (y<0)) (x:=y.natAbs+z.natAbs),(signed_add1 hc13)⟩,λhc13=>⟨sNatSub (x:=y.natAbs) (y:=z.natAbs),λhc30=>have hc30:=dT hc30;⟨jG (b:=decide (y<0)) (x:=y.natAbs-z.natAbs),(signed_add2 hc13 hc30)⟩,λhc30=>have hc30:=dF hc30;⟨sNatSub (x:=z.natAbs) (y:=y.natAbs),jG (b:=decide (z<0)) (x:=z.natAbs-y.natAbs),(signed_add3 hc13 (Nat.le_of_not_le hc30))⟩⟩⟩
theorem sIntAdd{y z:Int}(hs:Small (y.natAbs+z.natAbs)):CallOK Tryz.prog 111 [.int y,.int z] (.int (y+z)) []:=(sIntAddG hs).args λ_ _ _=>argI2
theorem sIntMulG{y z:Int}(hs:nw y.natAbs+nw z.natAbs<=LIM):CallOK Tryz.prog 74 [.agg (c2 (bX (decide (y<0))) (.nat y.natAbs)),.agg (c2 (bX (decide (z<0))) (.nat z.natAbs))] (.int (y*z)) []:=by
 exact kP (ch:=[.reg 1 [(9,.callS (.nat (y.natAbs*z.natAbs)) []),(10,.callS (.int (signed (!((decide (y<0))==(decide (z<0)))) (y.natAbs*z.natAbs))) [])]]) Tryz.func74 (_/\_/\(((signed (!((decide (y<0))==(decide (z<0)))) (y.natAbs*z.natAbs):Int)=(y*z))))
  ⟨sMul (x:=y.natAbs) (y:=z.natAbs) hs,jG (b:=! ((decide (y<0))==(decide (z<0)))) (x:=y.natAbs*z.natAbs),(signed_mul2 y z)⟩
theorem sIntMul{y z:Int}(hs:nw y.natAbs+nw z.natAbs<=LIM):CallOK Tryz.prog 74 [.int y,.int z] (.int (y*z)) []:=(sIntMulG hs).args λ_ _ _=>argI2
theorem sIntOf{x:Int}(hl:-9223372036854775808<=x)(hu:x<9223372036854775808):CallOK Tryz.prog 93 [.ex (.int .i64 x)] (.int x) []:=by
 exact kP (ch:=[.reg 2 [(1,.z (x+18446744073709551616)),(2,.z ((x.natAbs:Nat):Int)),(4,.callS (.nat x.natAbs) []),(5,.callS (.int (signed true x.natAbs)) [])],.reg 3 [(1,.z ((x.natAbs:Nat):Int)),(3,.callS (.nat x.natAbs) []),(4,.callS (.int (signed false x.natAbs)) [])]]) Tryz.func93 ((((decide ((x:Int)<0))=true->(IntKind.wrap .u64 (x:Int)=(x+18446744073709551616))/\(IntKind.wrap .u64 (0-(x+18446744073709551616))=(((x.natAbs:Nat):Int)))/\_/\_/\(((signed true x.natAbs:Int)=x)))/\((decide ((x:Int)<0))=false->(IntKind.wrap .u64 (x:Int)=(((x.natAbs:Nat):Int)))/\_/\_/\(((signed false x.natAbs:Int)=x)))))
  ⟨λhc4=>have hc4:=dT hc4;⟨(by rw[IntKind.wrap_u64];omega),(by rw[IntKind.wrap_u64];omega),sNatOf1 (k:=x.natAbs) zo,jG (b:=true) (x:=x.natAbs),(by unfold signed;rw[if_pos rfl];omega)⟩,λhc4=>have hc4:=dF hc4;⟨(by rw[IntKind.wrap_u64];omega),sNatOf1 (k:=x.natAbs) zo,jG (b:=false) (x:=x.natAbs),(by unfold signed;rw[if_neg zd];omega)⟩⟩
theorem sRatDenG{q:Rat}:CallOK Tryz.prog 85 [.agg (c2 (.int q.num) (.nat (denW q)))] (.nat q.den) []:=by
 exact kP (ch:=[.reg 1 [(2,.callS (bX (decide (denW q=0))) [])],.reg 2 [(1,.callS (.nat 1) [])]]) Tryz.func85 (_/\(((decide (denW q=0))=true->(CallOK Tryz.prog 110 [.sl 1 (λ_=>.ex (.int .u64 1)) 1] (.nat 1) [])/\(((1:Nat)=q.den)))/\((decide (denW q=0))=false->(((denW q:Nat)=q.den)))))
  ⟨sNatZero (x:=denW q),λhc5=>have hc5:=dT hc5;⟨sNatOf1 (k:=1) zd,((denW_zero q).1 hc5).symm⟩,λhc5=>have hc5:=dF hc5;(denW_ne λe=>hc5 ((denW_zero q).2 e))⟩
theorem sRatDen{q:Rat}:CallOK Tryz.prog 85 [.rat q] (.nat q.den) []:=(sRatDenG).args λ_ _ _=>argQ1
theorem sRatBelowG{q:Rat}:CallOK Tryz.prog 75 [.agg (c2 (.int q.num) (.nat (denW q)))] (.int ((q.den:Nat):Int)) []:=by
 exact kP (ch:=[.reg 1 [(1,.callS (.nat q.den) []),(2,.callS (.int (signed false q.den)) [])]]) Tryz.func75 (_/\_/\(((signed false q.den:Int)=((q.den:Nat):Int))))
  ⟨sRatDenG (q:=q),jG (b:=false) (x:=q.den),rfl⟩
theorem sRatNumG{q:Rat}:CallOK Tryz.prog 83 [.agg (c2 (.int q.num) (.nat (denW q)))] (.int q.num) []:=by
 exact kP (ch:=[]) Tryz.func83 ((_))
  (rf (q.num:Int))
theorem sRatNum{q:Rat}:CallOK Tryz.prog 83 [.rat q] (.int q.num) []:=(sRatNumG).args λ_ _ _=>argQ1
theorem sRatSignG{q:Rat}:CallOK Tryz.prog 22 [.agg (c2 (.int q.num) (.nat (denW q)))] (.ex (.int .i64 q.num.sign)) []:=by
 exact kP (ch:=[.reg 1 [(2,.callS (.ex (.int .i64 q.num.sign)) [])]]) Tryz.func22 (_/\(_))
  ⟨sIntSign (z:=q.num),(rf (q.num.sign:Int))⟩
theorem sRatSign{q:Rat}:CallOK Tryz.prog 22 [.rat q] (.ex (.int .i64 q.num.sign)) []:=(sRatSignG).args λ_ _ _=>argQ1
theorem sRatZeroG{q:Rat}:CallOK Tryz.prog 48 [.agg (c2 (.int q.num) (.nat (denW q)))] (bX (decide (q=0))) []:=by
 exact kP (ch:=[.reg 1 [(2,.callS (.ex (.int .i64 q.num.sign)) [])]]) Tryz.func48 (_/\(((decide ((q.num.sign:Int)=0):Bool)=(decide (q=0)))))
  ⟨sIntSign (z:=q.num),(sign_zero q)⟩
theorem sRatZero{q:Rat}:CallOK Tryz.prog 48 [.rat q] (bX (decide (q=0))) []:=(sRatZeroG).args λ_ _ _=>argQ1
theorem sRatNegG{q:Rat}:CallOK Tryz.prog 114 [.agg (c2 (.int q.num) (.nat (denW q)))] (.agg (c2 (.int ((-q).num)) (.nat (denW (-q))))) []:=by
 exact kP (ch:=[.reg 1 [(2,.callS (.int (-q.num)) [])]]) Tryz.func114 (_/\(((-q.num:Int)=((-q).num))/\((denW q:Nat)=(denW (-q)))))
  ⟨sIntNeg (z:=q.num),(by rw[Rat.neg_num]),(neg_denW q).symm⟩
theorem sRatNeg{q:Rat}:CallOK Tryz.prog 114 [.rat q] (.rat (-q)) []:=((sRatNegG).args λ_ _ _=>argQ1).res λ_ _ _ _=>rat_close
theorem sRatBare1{q:Rat}(hd:q.den=1):CallOK Tryz.prog 121 [.int q.num,.nat q.den] (.agg (c2 (.int q.num) (.ex sN))) []:=by
 exact kP (ch:=[.reg 1 [(1,.callS (c2 (uZ (uintV q.den:Int)) (bX (xI q.den))) [])],.dec 16 true]) Tryz.func121 (_/\_/\((xI q.den)=true->((xI q.den)==true)=true)/\((bif (xI q.den) then(decide (((uintV q.den:Nat):Int)=1)) else false)=true)/\(_))
  ⟨sNatUint (x:=q.den),(idB ((xI q.den)==true)),(λh=>by simpa using h),(by rw[uint_one',decide_eq_true hd]),(rf (q.num:Int))⟩
theorem sRatBare2{q:Rat}(hd:q.den≠1):CallOK Tryz.prog 121 [.int q.num,.nat q.den] (.agg (c2 (.int q.num) (.nat (denW q)))) []:=by
 exact kP (ch:=[.reg 1 [(1,.callS (c2 (uZ (uintV q.den:Int)) (bX (xI q.den))) [])],.dec 16 false]) Tryz.func121 (_/\_/\((xI q.den)=true->((xI q.den)==true)=true)/\((bif (xI q.den) then(decide (((uintV q.den:Nat):Int)=1)) else false)=false)/\(_/\((q.den:Nat)=(denW q))))
  ⟨sNatUint (x:=q.den),(idB ((xI q.den)==true)),(λh=>by simpa using h),(by rw[uint_one',decide_eq_false hd]),(rf (q.num:Int)),(denW_ne hd).symm⟩
theorem sRatBare{q:Rat}:CallOK Tryz.prog 121 [.int q.num,.nat q.den] (.rat q) []:=by
 by_cases hd:q.den=1
 ·exact(sRatBare1 hd).res λ_ _ _ _=>rat_close1 hd
 ·exact(sRatBare2 hd).res λ_ _ _ _=>rat_close
theorem sRatNew{y z:Int}(hy:nw y.natAbs<1099511627776)(hz:nw z.natAbs<1099511627776):CallOK Tryz.prog 102 [.int y,.int z] (c2 (.rat (Rat.divInt y z)) (bX (!decide (z=0)))) []:=by
 exact kP (ch:=[.reg 1 [(1,.callS (.ex (.int .i64 z.sign)) [])],.reg 3 [(1,.callS (.nat y.natAbs) []),(3,.callS (.nat z.natAbs) []),(4,.callS (c2 (.nat (y.natAbs/Nat.gcd y.natAbs z.natAbs)) (.nat (z.natAbs/Nat.gcd y.natAbs z.natAbs))) [])],.reg 4 [(1,.callS (bX (decide (y<0))) []),(3,.callS (bX (decide (z<0))) []),(6,.callS (.int (signed (!((decide (y<0))==(decide (z<0)))) (y.natAbs/Nat.gcd y.natAbs z.natAbs))) []),(8,.call [.int ((Rat.divInt y z).num),.nat ((Rat.divInt y z).den)] (.rat (Rat.divInt y z)) [])]]) Tryz.func102 (_/\(((decide ((z.sign:Int)=0))=true->(((Rat.divInt y z:Rat)=0)/\((false:Bool)=(!decide (z=0)))))/\((decide ((z.sign:Int)=0))=false->_/\_/\_/\_/\_/\_/\(CallOK Tryz.prog 121 [.int ((Rat.divInt y z).num),.nat ((Rat.divInt y z).den)] (.rat (Rat.divInt y z)) [])/\((signed (!((decide (y<0))==(decide (z<0)))) (y.natAbs/Nat.gcd y.natAbs z.natAbs):Int)=((Rat.divInt y z).num))/\((z.natAbs/Nat.gcd y.natAbs z.natAbs:Nat)=((Rat.divInt y z).den))/\(_/\((true:Bool)=(!decide (z=0)))))))
  ⟨sIntSign (z:=z),λhc10=>have hc10:=dT hc10;have h0:z=0:=Int.sign_eq_zero_iff_zero.1 hc10;⟨(by rw[h0,divInt_zero]),(by rw[h0];rfl)⟩,λhc10=>have hc10:=dF hc10;have h0:z≠0:=λe=>hc10 (by rw[e];rfl);⟨sIntAbs (z:=y),sIntAbs (z:=z),sGcdReduce (x:=y.natAbs) (y:=z.natAbs) zo zo,sIntBelow (z:=y),sIntBelow (z:=z),jG (b:=! ((decide (y<0))==(decide (z<0)))) (x:=y.natAbs/Nat.gcd y.natAbs z.natAbs),sRatBare,(by rw[new_num2 y z h0]),(by rw[new_den2 y z h0]),(rf (Rat.divInt y z:Rat)),(by simp[h0])⟩⟩
theorem sRatInvG{q:Rat}(hs:szq q<=17179869184):CallOK Tryz.prog 71 [.agg (c2 (.int q.num) (.nat (denW q)))] (c2 (.rat (q⁻¹)) (bX (!decide (q=0)))) []:=by
 have n2:=szq_num q;have d2:=szq_den q
 have e2:nw ((q.den:Nat):Int).natAbs<=szq q:=d2
 exact kP (ch:=[.reg 1 [(1,.callS (.int ((q.den:Nat):Int)) []),(4,.callS (c2 (.rat (Rat.divInt ((q.den:Nat):Int) q.num)) (bX (!decide (q.num=0)))) [])]]) Tryz.func71 (_/\_/\(((Rat.divInt ((q.den:Nat):Int) q.num:Rat)=(q⁻¹))/\((!decide (q.num=0):Bool)=(!decide (q=0)))))
  ⟨sRatBelowG (q:=q),sRatNew (y:=((q.den:Nat):Int)) (z:=q.num) zo zo,(Rat.inv_def q).symm,(num_zero q)⟩
theorem sRatInv{q:Rat}(hs:szq q<=17179869184):CallOK Tryz.prog 71 [.rat q] (c2 (.rat (q⁻¹)) (bX (!decide (q=0)))) []:=(sRatInvG hs).args λ_ _ _=>argQ1
theorem sRatAddG{p q:Rat}(hs:szq p+szq q<=17179869184):CallOK Tryz.prog 87 [.agg (c2 (.int p.num) (.nat (denW p))),.agg (c2 (.int q.num) (.nat (denW q)))] (.rat (p+q)) []:=by
 have hL:=LIM_eq
 have n1:=szq_num p;have d1:=szq_den p;have n2:=szq_num q;have d2:=szq_den q
 have e1:nw ((p.den:Nat):Int).natAbs<=szq p:=d1
 have e2:nw ((q.den:Nat):Int).natAbs<=szq q:=d2
 have m:=new_add p q hs
 have m2:nw (signed false (p.den*q.den)).natAbs<1099511627776:=by rw[natAbs_sg];exact m.2
 exact kP (ch:=[.reg 1 [(3,.callS (.int ((q.den:Nat):Int)) []),(4,.callS (.int (p.num*((q.den:Nat):Int))) []),(8,.callS (.int ((p.den:Nat):Int)) []),(9,.callS (.int (q.num*((p.den:Nat):Int))) []),(10,.callS (.int ((p.num*((q.den:Nat):Int))+(q.num*((p.den:Nat):Int)))) [])],.reg 2 [(2,.callS (.nat p.den) []),(4,.callS (.nat q.den) []),(5,.callS (.nat (p.den*q.den)) []),(6,.callS (.int (signed false (p.den*q.den))) []),(7,.callS (c2 (.rat (Rat.divInt ((p.num*((q.den:Nat):Int))+(q.num*((p.den:Nat):Int))) (signed false (p.den*q.den)))) (bX (!decide ((signed false (p.den*q.den))=0)))) [])]]) Tryz.func87 (_/\_/\(CallOK Tryz.prog 75 [.agg (c2 (.int p.num) (.nat (denW p)))] (.int ((p.den:Nat):Int)) [])/\_/\_/\(CallOK Tryz.prog 85 [.agg (c2 (.int p.num) (.nat (denW p)))] (.nat p.den) [])/\_/\_/\_/\_/\(((Rat.divInt ((p.num*((q.den:Nat):Int))+(q.num*((p.den:Nat):Int))) (signed false (p.den*q.den)):Rat)=(p+q))))
  ⟨sRatBelowG (q:=q),sIntMul (y:=p.num) (z:=((q.den:Nat):Int)) zo,sRatBelowG,sIntMul (y:=q.num) (z:=((p.den:Nat):Int)) zo,sIntAdd (y:=(p.num*((q.den:Nat):Int))) (z:=(q.num*((p.den:Nat):Int))) (small_add p q hs),sRatDenG,sRatDenG (q:=q),sMul (x:=p.den) (y:=q.den) zo,jG (b:=false) (x:=p.den*q.den),sRatNew (y:=((p.num*((q.den:Nat):Int))+(q.num*((p.den:Nat):Int)))) (z:=signed false (p.den*q.den)) m.1 m2,(by rw[signed_false];exact(add_as p q).symm)⟩
theorem sRatAdd{p q:Rat}(hs:szq p+szq q<=17179869184):CallOK Tryz.prog 87 [.rat p,.rat q] (.rat (p+q)) []:=(sRatAddG hs).args λ_ _ _=>argQ2
theorem sRatMulG{p q:Rat}(hs:szq p+szq q<=17179869184):CallOK Tryz.prog 72 [.agg (c2 (.int p.num) (.nat (denW p))),.agg (c2 (.int q.num) (.nat (denW q)))] (.rat (p*q)) []:=by
 have hL:=LIM_eq
 have n1:=szq_num p;have d1:=szq_den p;have n2:=szq_num q;have d2:=szq_den q
 have e1:nw ((p.den:Nat):Int).natAbs<=szq p:=d1
 have e2:nw ((q.den:Nat):Int).natAbs<=szq q:=d2
 have m:=new_mul p q hs
 have m2:nw (signed false (p.den*q.den)).natAbs<1099511627776:=by rw[natAbs_sg];exact m.2
 exact kP (ch:=[.reg 1 [(4,.callS (.int (p.num*q.num)) []),(6,.callS (.nat p.den) []),(8,.callS (.nat q.den) []),(9,.callS (.nat (p.den*q.den)) []),(10,.callS (.int (signed false (p.den*q.den))) []),(11,.callS (c2 (.rat (Rat.divInt (p.num*q.num) (signed false (p.den*q.den)))) (bX (!decide ((signed false (p.den*q.den))=0)))) [])]]) Tryz.func72 (_/\(CallOK Tryz.prog 85 [.agg (c2 (.int p.num) (.nat (denW p)))] (.nat p.den) [])/\_/\_/\_/\_/\(((Rat.divInt (p.num*q.num) (signed false (p.den*q.den)):Rat)=(p*q))))
  ⟨sIntMul (y:=p.num) (z:=q.num) zo,sRatDenG,sRatDenG (q:=q),sMul (x:=p.den) (y:=q.den) zo,jG (b:=false) (x:=p.den*q.den),sRatNew (y:=p.num*q.num) (z:=signed false (p.den*q.den)) m.1 m2,(by rw[signed_false];exact(mul_as p q).symm)⟩
theorem sRatMul{p q:Rat}(hs:szq p+szq q<=17179869184):CallOK Tryz.prog 72 [.rat p,.rat q] (.rat (p*q)) []:=(sRatMulG hs).args λ_ _ _=>argQ2
theorem sRatCmpG{p q:Rat}(hs:szq p+szq q<=17179869184):CallOK Tryz.prog 24 [.agg (c2 (.int p.num) (.nat (denW p))),.agg (c2 (.int q.num) (.nat (denW q)))] (iZ (cmpQ p q)) []:=by
 have hL:=LIM_eq
 have n1:=szq_num p;have d1:=szq_den p;have n2:=szq_num q;have d2:=szq_den q
 have e1:nw ((p.den:Nat):Int).natAbs<=szq p:=d1
 have e2:nw ((q.den:Nat):Int).natAbs<=szq q:=d2
 exact kP (ch:=[.reg 1 [(3,.callS (.int ((q.den:Nat):Int)) []),(4,.callS (.int (p.num*((q.den:Nat):Int))) []),(8,.callS (.int ((p.den:Nat):Int)) []),(9,.callS (.int (q.num*((p.den:Nat):Int))) []),(10,.callS (iZ (cmpV (p.num*((q.den:Nat):Int)) (q.num*((p.den:Nat):Int)))) [])]]) Tryz.func24 (_/\_/\(CallOK Tryz.prog 75 [.agg (c2 (.int p.num) (.nat (denW p)))] (.int ((p.den:Nat):Int)) [])/\_/\_/\(((cmpV (p.num*((q.den:Nat):Int)) (q.num*((p.den:Nat):Int)):Int)=(cmpQ p q))))
  ⟨sRatBelowG (q:=q),sIntMul (y:=p.num) (z:=((q.den:Nat):Int)) zo,sRatBelowG,sIntMul (y:=q.num) (z:=((p.den:Nat):Int)) zo,sIntCmp (y:=(p.num*((q.den:Nat):Int))) (z:=(q.num*((p.den:Nat):Int))),(cmpQ_eq p q)⟩
theorem sRatCmp{p q:Rat}(hs:szq p+szq q<=17179869184):CallOK Tryz.prog 24 [.rat p,.rat q] (iZ (cmpQ p q)) []:=(sRatCmpG hs).args λ_ _ _=>argQ2
theorem sRatSub{p q:Rat}(hs:szq p+szq q<=17179869184):CallOK Tryz.prog 98 [.rat p,.rat q] (.rat (p-q)) []:=by
 exact kP (ch:=[.reg 1 [(2,.callS (.rat (-q)) []),(3,.callS (.rat (p+(-q))) [])]]) Tryz.func98 (_/\_/\(((p+(-q):Rat)=(p-q))))
  ⟨sRatNeg (q:=q),sRatAdd (p:=p) (q:=-q) (by rw[szq_neg];exact hs),(Rat.sub_eq_add_neg p q).symm⟩
theorem sRatDiv{p q:Rat}(hs:szq p+szq q+1<=17179869184):CallOK Tryz.prog 23 [.rat p,.rat q] (c2 (.rat (p/q)) (bX (!decide (q=0)))) []:=by
 have hi:=szq_inv q
 exact kP (ch:=[.reg 1 [(1,.callS (c2 (.rat (q⁻¹)) (bX (!decide (q=0)))) [])],.reg 4 [(2,.callS (.rat (p*(q⁻¹))) [])]]) Tryz.func23 (_/\(((!(!decide (q=0)))=true->(((p/q:Rat)=0)/\((false:Bool)=(!decide (q=0)))))/\((!(!decide (q=0)))=false->_/\(((p*(q⁻¹):Rat)=(p/q))/\((true:Bool)=(!decide (q=0)))))))
  ⟨sRatInv (q:=q) zo,λhc14=>have hz:q=0:=(by simpa using hc14);⟨(by rw[hz,Rat.div_def,Rat.inv_zero,Rat.mul_zero]),(by rw[hz];rfl)⟩,λhc14=>have hz:¬q=0:=(by simpa using hc14);⟨sRatMul (p:=p) (q:=q⁻¹) (by first | assumption | omega),(Rat.div_def p q).symm,(by simp[hz])⟩⟩
theorem sRatSame{p q:Rat}(hs:szq p+szq q<=17179869184):CallOK Tryz.prog 42 [.rat p,.rat q] (bX (decide (p=q))) []:=by
 exact kP (ch:=[.reg 1 [(2,.callS (iZ (cmpQ p q)) [])]]) Tryz.func42 (_/\(((decide ((cmpQ p q:Int)=0):Bool)=(decide (p=q)))))
  ⟨sRatCmp (p:=p) (q:=q) (by first | assumption | omega),(cmp_same p q)⟩
theorem sRatInt0{x:Int}(hl:-9223372036854775808<=x)(hu:x<9223372036854775808):CallOK Tryz.prog 53 [.ex (.int .i64 x)] (.agg (c2 (.int x) (.ex sN))) []:=by
 exact kP (ch:=[.reg 1 [(1,.callS (.int x) [])]]) Tryz.func53 (_/\(_))
  ⟨sIntOf (x:=x) zo zo,(rf (x:Int))⟩
theorem uM{x:Int}(hl:-9223372036854775808<=x)(hu:x<9223372036854775808):CallOK Tryz.prog 53 [.ex (.int .i64 x)] (.rat ((x:Int):Rat)) []:=(sRatInt0 hl hu).res λ_ _ _ _ h=>rat_close1 (q:=((x:Int):Rat)) (Rat.den_intCast x) (by rw[Rat.num_intCast];exact h)
theorem sRatOf{x y:Int}(hl:-9223372036854775808<=x)(hu:x<9223372036854775808)(hl2:-9223372036854775808<=y)(hu2:y<9223372036854775808):CallOK Tryz.prog 82 [.ex (.int .i64 x),.ex (.int .i64 y)] (c2 (.rat (Rat.divInt x y)) (bX (!decide (y=0)))) []:=by
 exact kP (ch:=[.reg 1 [(1,.callS (.int x) []),(3,.callS (.int y) []),(4,.callS (c2 (.rat (Rat.divInt x y)) (bX (!decide (y=0)))) [])]]) Tryz.func82 (_/\_/\_/\(_/\_))
  ⟨sIntOf (x:=x) zo zo,sIntOf (x:=y) zo zo,sRatNew (y:=x) (z:=y) (new_of hl hu) (new_of hl2 hu2),(rf (Rat.divInt x y:Rat)),(rf (!decide (y=0):Bool))⟩
open Go.RowKit
def uN (a b:Nat->Rat):Nat->Nat->Int
 | 0,_=>0
 | k+1,i=>if a i=b i then uN a b k (i+1) else cmpQ (a i) (b i)
def jQ (a:Nat->Rat) (n:Nat) (b:Nat->Rat) (m:Nat):Int:=
 if uN a b (min n m) 0=0 then(if n<m then-1 else if n>m then 1 else 0) else uN a b (min n m) 0
theorem cmpQ_zero(p q:Rat):cmpQ p q=0↔p=q:=by unfold cmpQ;grind
theorem cmp_zero{p q:Rat}(h:((cmpQ p q:Int)!=(0:Int))=false):p=q:=(cmpQ_zero p q).1 (by simpa using h)
theorem cmp_nz{p q:Rat}(h:((cmpQ p q:Int)!=(0:Int))=true):p≠q:=λe=>by
 rw[(cmpQ_zero p q).2 e] at h
 exact absurd h (by decide)
theorem eq_step{a b:Nat->Rat}{i:Nat}(h:∀j,j<i->a j=b j)(e:a i=b i):∀j,j<i+1->a j=b j:=λj hj=>by
 by_cases hji:j=i
 ·subst hji;exact e
 ·exact h j zo
theorem cmpFrom_skip{a b:Nat->Rat}:∀(i:Nat) {N:Nat},i<=N->(∀j,j<i->a j=b j)->uN a b N 0=uN a b (N-i) i
 | 0,_,_,_=>rfl
 | i+1,N,h,he=>by
  rw[cmpFrom_skip i zo λj hj=>he j zo]
  have e:N-i=(N-(i+1))+1:=by omega
  rw[e]
  show(if a i=b i then _ else _)=_
  rw[if_pos (he i zo)]
theorem cmpVec_at{a b:Nat->Rat}{n m i:Nat}(h1:i<n)(h2:i<m)(he:∀j,j<i->a j=b j)(hd:a i≠b i):jQ a n b m=cmpQ (a i) (b i):=by
 have e:uN a b (min n m) 0=cmpQ (a i) (b i):=by
  rw[cmpFrom_skip i zo he]
  have e:min n m-i=(min n m-(i+1))+1:=by omega
  rw[e]
  show(if a i=b i then _ else _)=_
  rw[if_neg hd]
 unfold jQ
 rw[e,if_neg λh=>hd ((cmpQ_zero _ _).1 h)]
theorem cmpVec_end{a b:Nat->Rat}{n m i:Nat}{z:Int}(h1:i<=n)(h2:i<=m)(h3:min n m<=i)(he:∀j,j<i->a j=b j)
  (hz:(z=-1/\decide ((((n:Nat):Int):Int)<(((m:Nat):Int):Int))=true)∨(z=1/\decide ((((n:Nat):Int):Int)<(((m:Nat):Int):Int))=false/\decide ((((n:Nat):Int):Int)>(((m:Nat):Int):Int))=true)∨(z=0/\decide ((((n:Nat):Int):Int)<(((m:Nat):Int):Int))=false/\decide ((((n:Nat):Int):Int)>(((m:Nat):Int):Int))=false)):jQ a n b m=z:=by
 have e:uN a b (min n m) 0=0:=by
  rw[cmpFrom_skip i zo he,show min n m-i=0 by omega]
  rfl
 unfold jQ
 rw[if_pos e]
 rcases hz with⟨rfl,h⟩ | ⟨rfl,h,h'⟩ | ⟨rfl,h,h'⟩
 ·have:=of_decide_eq_true h
  rw[if_pos zo]
 ·have:=of_decide_eq_true h'
  rw[if_neg zo,if_pos zo]
 ·have:=of_decide_eq_false h
  have:=of_decide_eq_false h'
  rw[if_neg zo,if_neg zo]
theorem cmpVec_zero{a b:Nat->Rat}{n m:Nat}:jQ a n b m=0↔n=m/\∀j,j<n->a j=b j:=by
 have key:∀k i,uN a b k i=0↔∀j,i<=j->j<i+k->a j=b j:=by
  intro k
  induction k with
  | zero=>intro i;exact⟨λ_ j h1 h2=>by omega,λ_=>rfl⟩
  | succ k ih=>
   intro i
   show(if a i=b i then _ else _)=0↔_
   by_cases h:a i=b i
   ·rw[if_pos h,ih]
    exact⟨λhh j h1 h2=>by
     by_cases e:j=i
     ·subst e;exact h
     ·exact hh j zo zo,λhh j h1 h2=>hh j zo zo⟩
   ·rw[if_neg h,cmpQ_zero]
    exact⟨λe=>absurd e h,λhh=>absurd (hh i zo zo) h⟩
 unfold jQ
 by_cases h:uN a b (min n m) 0=0
 ·rw[if_pos h]
  rw[key] at h
  constructor
  ·intro hz
   have hnm:n=m:=by
    by_cases h1:n<m
    ·rw[if_pos h1] at hz;omega
    ·rw[if_neg h1] at hz
     by_cases h2:n>m
     ·rw[if_pos h2] at hz;omega
     ·omega
   exact⟨hnm,λj hj=>h j zo zo⟩
  ·rintro⟨rfl,_⟩
   rw[if_neg zo,if_neg zo]
 ·rw[if_neg h]
  constructor
  ·intro hz;exact absurd hz h
  ·rintro⟨rfl,he⟩
   exact absurd ((key _ _).2 λj _ hj=>he j zo) h
def dotQ (a b:Nat->Rat):Nat->Rat
 | 0=>0
 | n+1=>dotQ a b n+a n*b n
open Go.RowKit
def upto (g:Nat) (f:Nat->Rat) (t:Nat):Rat:=if t<g then f t else 0
theorem upto_at{g:Nat}{f:Nat->Rat}:upto (g+1) f g=f g:=if_pos (Nat.lt_succ_self g)
theorem upto_ne{g t:Nat}{f:Nat->Rat}(h:t≠g):upto (g+1) f t=upto g f t:=by
 unfold upto
 by_cases h1:t<g
 ·rw[if_pos h1,if_pos zo]
 ·rw[if_neg h1,if_neg zo]
theorem upto_zero{t:Nat}{f:Nat->Rat}:upto 0 f t=0:=if_neg (Nat.not_lt_zero t)
theorem upto_all{g t:Nat}{f:Nat->Rat}(h:t<g):upto g f t=f t:=if_pos h
theorem kS{q:Nat->Rat}{n:Nat}(hn:n<=68719476736):CallOK Tryz.prog 55 [.sl 3 (λi0=>.rat (q i0)) n] (.own 0 0) [.one (.row 76 3 (λi0=>.rat (q i0)) n)]:=by
 exact kP (ch:=[.reg 1 [(1,.row 0 (λi0=>.rat (q i0)))],.ret 1 [(0,.id 0)]]) Tryz.func55 ((∀j0,j0<n->True)/\(n<=68719476736)/\_/\(_/\_/\_))
  ⟨(λ_ _=>trivial),zo,(leS (λi0=>.rat (q i0)) n),(rf 0),(rf n),(leS (λi0=>.rat (q i0)) n)⟩
theorem uE{a:Nat->Int}{n:Nat}(hn:n<=68719476736)(ha:∀i,i<n->-9223372036854775808<=a i/\a i<9223372036854775808):CallOK Tryz.prog 30 [.sl 1 (λi0=>iZ (a i0)) n] (.own 0 0) [.one (.row 76 3 (λi0=>.rat ((a i0:Int):Rat)) n)]:=by
 exact kP (ch:=[.loop 3 (Nat) (λg=>g<=n) (λg=>n-g) (λg=>⟨[(3,.own 0 0),(6,.sl 1 (λi0=>iZ (a i0)) n),(7,iN n),(8,iN g)],[(0,.one (.row 76 3 (λi0=>.rat ((a i0:Int):Rat)) g))],1⟩) [(0,.nil)] (λ_=>[(0,.id 1)]) (λg=>[.reg 4 [(0,.k g)],.reg 5 [(2,.callS (.rat ((a g:Int):Rat)) []),(4,.row 0 (λi0=>.rat ((a i0:Int):Rat)))],.reg 6 [(0,.z ((g+1:Nat):Int))],.ret 7 [(0,.id 0)]])]) Tryz.func30 ((∀j0,j0<n->True)/\(((λX1 X2 X3 X4:Prop=>∃g0:Nat,X1/\X2/\X3/\X4/\((0:Int)=(g0:Int))/\((g0:Nat)=0)/\(g0<=n)) _ _ _ _)/\∀g:Nat,(g<=n)->(((decide ((g:Int)<(n:Int)))=true->_/\(g<n)/\_/\(g+1<=68719476736)/\_/\_/\_/\((λX1 X2 X3 X4 X5:Prop=>∃g1:Nat,X1/\X2/\X3/\X4/\(((g+1:Nat):Int)=(g1:Int))/\((g+1:Nat)=g1)/\X5/\(g1<=n)/\(n-g1<n-g)) _ _ _ _ _))/\((decide ((g:Int)<(n:Int)))=false->(_/\((g:Nat)=n)/\_)))))
  ⟨(λ_ _=>trivial),⟨0,(rf 0),(rf n),(leS (λi0=>iZ (a i0)) n),(rf (n:Int)),zo,zo,zo⟩,λg hg=>⟨λhc9=>have hc9:=dT hc9;have hg:=ha g zo;⟨(rf (g:Int)),zo,uM (x:=a g) zo zo,zo,(oldS (λi0=>.rat ((a i0:Int):Rat)) g),(newS (λi0=>.rat ((a i0:Int):Rat)) g),(wI (g:=g) zo),g+1,(rf 0),(rf n),(leS (λi0=>iZ (a i0)) n),(rf (n:Int)),zo,zo,(leS (λi0=>.rat ((a i0:Int):Rat)) (g+1)),zo,zo⟩,λhc9=>have hc9:=dF hc9;have hi2:g=n:=zo;⟨(rf 0),zo,(leS (λi0=>.rat ((a i0:Int):Rat)) g)⟩⟩⟩
theorem uL{a b:Nat->Rat}{n:Nat}{r:Rat}(hn:n<=68719476736)(hs:∀i,i<n->szq r+szq (b i)<=17179869184/\szq (a i)+szq (r*b i)<=17179869184):CallOK Tryz.prog 86 [.sl 3 (λi0=>.rat (a i0)) n,.rat r,.sl 3 (λi0=>.rat (b i0)) n] (c2 (.own 0 0) (bX true)) [.one (.row 76 3 (λi0=>.rat (a i0+r*b i0)) n)]:=by
 exact kP (ch:=[.dec 14 false,.reg 3 [(2,.row n (λ_=>.rat 0))],.loop 5 (Nat) (λg=>g<=n) (λg=>n-g) (λg=>⟨[(0,.sl 3 (λi0=>.rat (a i0)) n),(2,.sl 3 (λi0=>.rat (b i0)) n),(4,.own 0 0),(8,.own 1 0),(19,iN n),(20,iN g)],[(0,.one (.var 76 (.rat r))),(1,.one (.row 76 3 (λi0=>.rat (upto g (λk=>a k+r*b k) i0)) n))],2⟩) [(0,.id 0),(1,.id 1)] (λ_=>[(0,.id 0),(1,.id 1)]) (λg=>[.reg 7 [(4,.k g),(9,.k g),(11,.callS (.rat (r*(b g))) []),(12,.callS (.rat ((a g)+(r*(b g)))) []),(13,.k g),(14,.row 0 (λi0=>.rat (upto (g+1) (λk=>a k+r*b k) i0)))],.reg 8 [(0,.z ((g+1:Nat):Int))],.ret 9 [(0,.id 1)]])]) Tryz.func86 ((∀j0,j0<n->True)/\(∀j0,j0<n->True)/\((!decide ((n:Int)=(n:Int)))=false)/\_/\_/\(n<=68719476736)/\(∀j0,j0<n->((0:Rat)=0))/\(((λX1 X2 X3 X4 X5 X6 X7 X8 X9:Prop=>∃g0:Nat,X1/\X2/\X3/\X4/\X5/\X6/\X7/\((0:Int)=(g0:Int))/\X8/\X9/\(∀j0,j0<n->((0:Rat)=(upto g0 (λk=>a k+r*b k) j0)))/\(g0<=n)) _ _ _ _ _ _ _ _ _)/\∀g:Nat,(g<=n)->(((decide ((g:Int)<(n:Int)))=true->_/\(g<n)/\_/\(g<n)/\_/\_/\_/\(g<n)/\(g<n)/\((((a g)+(r*(b g)):Rat)=(upto (g+1) (λk=>a k+r*b k) g)))/\(∀t,t<n->t≠g->(.rat (upto (g+1) (λk=>a k+r*b k) t):SV)=.rat (upto g (λk=>a k+r*b k) t))/\_/\((λX1 X2 X3 X4 X5 X6 X7 X8 X9:Prop=>∃g1:Nat,X1/\X2/\X3/\X4/\X5/\X6/\X7/\(((g+1:Nat):Int)=(g1:Int))/\X8/\X9/\(∀j0,j0<n->((upto (g+1) (λk=>a k+r*b k) j0:Rat)=(upto g1 (λk=>a k+r*b k) j0)))/\(g1<=n)/\(n-g1<n-g)) _ _ _ _ _ _ _ _ _))/\((decide ((g:Int)<(n:Int)))=false->(_/\_/\_/\(∀j0,j0<n->((upto g (λk=>a k+r*b k) j0:Rat)=(a j0+r*b j0))))))))
  ⟨(λ_ _=>trivial),(λ_ _=>trivial),zs,(rf (n:Int)),(rf (n:Int)),zo,(λj0 hj0=>rfl),⟨0,(rf n),(leS (λi0=>.rat (a i0)) n),(rf n),(leS (λi0=>.rat (b i0)) n),(rf 0),(rf 0),(rf (n:Int)),zo,(rf (r:Rat)),(rf n),(λj0 hj0=>(by rw[upto_zero])),zo⟩,λg hg=>⟨λhc21=>have hc21:=dT hc21;have hg1:=(hs g zo).1;have hg2:=(hs g zo).2;⟨(rf (g:Int)),zo,(rf (g:Int)),zo,sRatMul (p:=r) (q:=b g) (by first | assumption | omega),sRatAdd (p:=a g) (q:=r*(b g)) (by first | assumption | omega),(rf (g:Int)),zo,zo,(by rw[upto_at]),(λt ht hne=>by rw[upto_ne hne]),(wI (g:=g) zo),g+1,(rf n),(leS (λi0=>.rat (a i0)) n),(rf n),(leS (λi0=>.rat (b i0)) n),(rf 0),(rf 0),(rf (n:Int)),zo,(rf (r:Rat)),(rf n),(λj0 hj0=>rfl),zo,zo⟩,λhc21=>have hc21:=dF hc21;have hi2:g=n:=zo;⟨(rf 0),(rf (true:Bool)),(rf n),(λj0 hj0=>(by rw[hi2];exact upto_all (by assumption)))⟩⟩⟩
set_option maxHeartbeats 400000 in
theorem sVecAddTimes_no{a b:Nat->Rat}{n m:Nat}{r:Rat}(hnm:n≠m):CallOK Tryz.prog 86 [.sl 3 (λi0=>.rat (a i0)) n,.rat r,.sl 3 (λi0=>.rat (b i0)) m] (c2 (.sl 3 (λ_=>.rat 0) 0) (bX false)) []:=by
 exact kP (ch:=[.dec 14 true]) Tryz.func86 ((∀j0,j0<n->True)/\(∀j0,j0<m->True)/\((!decide ((n:Int)=(m:Int)))=true)/\(_/\_))
  ⟨(λ_ _=>trivial),(λ_ _=>trivial),(by simp;omega),(rf 0),(rf (false:Bool))⟩
theorem sVecCmp{a b:Nat->Rat}{n m:Nat}(hn:n<=68719476736)(hs:∀i,i<n->i<m->szq (a i)+szq (b i)<=17179869184):CallOK Tryz.prog 88 [.sl 3 (λi0=>.rat (a i0)) n,.sl 3 (λi0=>.rat (b i0)) m] (iZ (jQ a n b m)) []:=by
 exact kP (ch:=[.loop 2 (Nat) (λg=>g<=min n m/\∀j,j<g->a j=b j) (λg=>min n m-g) (λg=>⟨[(0,.sl 3 (λi0=>.rat (a i0)) n),(1,.sl 3 (λi0=>.rat (b i0)) m),(11,iZ (min (n:Int) (m:Int))),(12,iN g)],[],0⟩) [] (λ_=>[]) (λg=>[.reg 4 [(2,.k g),(6,.k g),(8,.callS (iZ (cmpQ (a g) (b g))) [])],.reg 7 [(0,.z ((g+1:Nat):Int))]])]) Tryz.func88 ((∀j0,j0<n->True)/\(∀j0,j0<m->True)/\(((λX1 X2 X3 X4:Prop=>∃g0:Nat,X1/\X2/\X3/\X4/\((min ((n:Int):Int) (m:Int):Int)=(min (n:Int) (m:Int)))/\((0:Int)=(g0:Int))/\(g0<=min n m/\∀j,j<g0->a j=b j)) _ _ _ _)/\∀g:Nat,(g<=min n m/\∀j,j<g->a j=b j)->(((decide ((g:Int)<(min (n:Int) (m:Int))))=true->_/\(g<n)/\_/\(g<m)/\_/\(((!decide ((cmpQ (a g) (b g):Int)=0))=true->(((cmpQ (a g) (b g):Int)=(jQ a n b m))))/\((!decide ((cmpQ (a g) (b g):Int)=0))=false->_/\((λX1 X2 X3 X4 X5:Prop=>∃g1:Nat,X1/\X2/\X3/\X4/\X5/\(((g+1:Nat):Int)=(g1:Int))/\(g1<=min n m/\∀j,j<g1->a j=b j)/\(min n m-g1<min n m-g)) _ _ _ _ _))))/\((decide ((g:Int)<(min (n:Int) (m:Int))))=false->(((decide ((n:Int)<(m:Int)))=true->(((-1:Int)=(jQ a n b m))))/\((decide ((n:Int)<(m:Int)))=false->(((decide ((m:Int)<(n:Int)))=true->(((1:Int)=(jQ a n b m))))/\((decide ((m:Int)<(n:Int)))=false->(((0:Int)=(jQ a n b m)))))))))))
  ⟨(λ_ _=>trivial),(λ_ _=>trivial),⟨0,(rf n),(leS (λi0=>.rat (a i0)) n),(rf m),(leS (λi0=>.rat (b i0)) m),zo,zo,by omega,λj hj=>by omega⟩,λg hg=>have hg1:=hg.1;⟨λhc13=>have hc13:=dT hc13;have hg2:=hs g zo zo;⟨(rf (g:Int)),zo,(rf (g:Int)),zo,sRatCmp (p:=a g) (q:=b g) (by first | assumption | omega),λhc25=>(cmpVec_at zo zo hg.2 (cmp_nz hc25)).symm,λhc25=>⟨(wI (g:=g) zo),g+1,(rf n),(leS (λi0=>.rat (a i0)) n),(rf m),(leS (λi0=>.rat (b i0)) m),(rf (min (n:Int) (m:Int):Int)),zo,⟨by omega,eq_step hg.2 (cmp_zero hc25)⟩,zo⟩⟩,λhc13=>have hc13:=dF hc13;⟨λhc28=>have hc28:=dT hc28;(cmpVec_end (i:=g) zo zo zo hg.2 (.inl ⟨rfl,decide_eq_true hc28⟩)).symm,λhc28=>have hc28:=dF hc28;⟨λhc34=>have hc34:=dT hc34;(cmpVec_end (i:=g) zo zo zo hg.2 (.inr (.inl ⟨rfl,decide_eq_false hc28,decide_eq_true hc34⟩))).symm,λhc34=>have hc34:=dF hc34;(cmpVec_end (i:=g) zo zo zo hg.2 (.inr (.inr ⟨rfl,decide_eq_false hc28,decide_eq_false hc34⟩))).symm⟩⟩⟩⟩
theorem sVecSame{a b:Nat->Rat}{n m:Nat}(hn:n<=68719476736)(hs:∀i,i<n->i<m->szq (a i)+szq (b i)<=17179869184):CallOK Tryz.prog 46 [.sl 3 (λi0=>.rat (a i0)) n,.sl 3 (λi0=>.rat (b i0)) m] (bX (decide (n=m/\∀j,j<n->a j=b j))) []:=by
 exact kP (ch:=[.reg 1 [(2,.callS (iZ (jQ a n b m)) [])]]) Tryz.func46 ((∀j0,j0<n->True)/\(∀j0,j0<m->True)/\_/\(((decide ((jQ a n b m:Int)=0):Bool)=(decide (n=m/\∀j,j<n->a j=b j)))))
  ⟨(λ_ _=>trivial),(λ_ _=>trivial),sVecCmp (a:=a) (b:=b) (n:=n) (m:=m) zo (by assumption),(decide_eq_decide.2 cmpVec_zero)⟩
def Wd64 (p:Int):Prop:=-9223372036854775808<=p/\p<9223372036854775808
theorem sVecNought{n:Nat}(hn:n<=64):CallOK Tryz.prog 107 [iN n] (c2 (.own 0 0) (bX true)) [.one (.row 76 3 (λ_=>.rat 0) n)]:=by
 exact kP (ch:=[.dec 9 false,.reg 3 [(1,.row n (λ_=>.rat 0))],.ret 3 [(0,.id 0)]]) Tryz.func107 (_/\((!(decide ((n:Int)<0)))=true->((decide ((n:Int)<0))==false)=true)/\((bif (decide ((n:Int)<0)) then true else(decide ((64:Int)<(n:Int))))=false)/\_/\_/\(n<=68719476736)/\(∀j0,j0<n->((0:Rat)=0))/\(_/\_/\_/\_))
  ⟨(idB ((decide ((n:Int)<0))==false)),zs,(by simp;omega),(rf (n:Int)),(rf (n:Int)),zo,(λj0 hj0=>rfl),(rf 0),(rf (true:Bool)),(rf n),(leS (λ_=>.rat 0) n)⟩
theorem sVecUnit{n k:Nat}(hn:n<=64)(hk:k<n):CallOK Tryz.prog 81 [iN n,iN k] (c2 (.own 0 0) (bX true)) [.one (.row 76 3 (λi0=>.rat (if i0=k then 1 else 0)) n)]:=by
 exact kP (ch:=[.reg 1 [(1,.callS (c2 (.own 0 0) (bX true)) [.one (.row 76 3 (λ_=>.rat 0) n)])],.dec 23 false,.reg 4 [(2,.callS (.rat ((1:Int):Rat)) []),(3,.k k),(4,.row 0 (λi0=>.rat (if i0=k then 1 else 0)))],.ret 5 [(0,.id 0)]]) Tryz.func81 (_/\_/\((!(!true))=true->((!true)==false)=true)/\_/\_/\((!(bif (!true) then true else(decide ((k:Int)<0))))=true->((bif (!true) then true else(decide ((k:Int)<0)))==false)=true)/\((bif (bif (!true) then true else(decide ((k:Int)<0))) then true else(decide ((n:Int)<=(k:Int))))=false)/\_/\_/\(k<n)/\(k<n)/\(((((1:Int):Rat):Rat)=(if k=k then 1 else 0)))/\(∀t,t<n->t≠k->(.rat (if t=k then 1 else 0):SV)=.rat 0)/\(_/\_/\_/\_))
  ⟨sVecNought (n:=n) zo,(idB ((!true)==false)),zs,(idB ((bif (!true) then true else(decide ((k:Int)<0)))==false)),(idB ((bif (!true) then true else(decide ((k:Int)<0)))==false)),zs,(by simp;omega),uM (x:=1) zo zo,(rf (k:Int)),zo,zo,(if_pos rfl).symm,(λt ht hne=>by rw[if_neg hne]),(rf 0),(rf (true:Bool)),(rf n),(leS (λi0=>.rat (if i0=k then 1 else 0)) n)⟩
theorem sVecAddT{a b:Nat->Rat}{n m:Nat}{r:Rat}(hn:n<=68719476736)(hs:n=m->∀i,i<n->szq r+szq (b i)<=17179869184/\szq (a i)+szq (r*b i)<=17179869184):CallOK Tryz.prog 86 [.sl 3 (λi=>.rat (a i)) n,.rat r,.sl 3 (λi=>.rat (b i)) m] (.cn (.sl 3 (λi=>.rat (a i+r*b i)) (if n=m then n else 0)) (.cn (bX (decide (n=m))) .nl)) []:=by
 by_cases h:n=m
 ·subst h
  rw[if_pos rfl,decide_eq_true rfl]
  exact(uL hn (hs rfl)).frzV2
 ·rw[if_neg h,decide_eq_false h]
  exact(sVecAddTimes_no h).told [] (Eq.mp (α:=0=0/\(∀j,j<0->(0:Rat)=a j+r*b j)/\false=false) zk ⟨rfl,λj hj=>absurd hj (Nat.not_lt_zero j),rfl⟩)
theorem sVecSub{a b:Nat->Rat}{n m:Nat}(hn:n<=68719476736)(hs:n=m->∀i,i<n->szq ((-1:Int):Rat)+szq (b i)<=17179869184/\szq (a i)+szq (((-1:Int):Rat)*b i)<=17179869184):CallOK Tryz.prog 78 [.sl 3 (λi0=>.rat (a i0)) n,.sl 3 (λi0=>.rat (b i0)) m] (c2 (.sl 3 (λi0=>.rat (a i0+((-1:Int):Rat)*b i0)) (if n=m then n else 0)) (bX (decide (n=m)))) []:=by
 exact kP (ch:=[.reg 1 [(1,.callS (.rat ((-1:Int):Rat)) []),(3,.callS (c2 (.sl 3 (λi0=>.rat ((a i0)+((-1:Int):Rat)*(b i0))) (if n=m then n else 0)) (bX (decide (n=m)))) [])]]) Tryz.func78 ((∀j0,j0<n->True)/\(∀j0,j0<m->True)/\_/\(CallOK Tryz.prog 86 [.sl 3 (λi0=>.rat (a i0)) n,.rat ((-1:Int):Rat),.sl 3 (λi0=>.rat (b i0)) m] (c2 (.sl 3 (λi0=>.rat ((a i0)+((-1:Int):Rat)*(b i0))) (if n=m then n else 0)) (bX (decide (n=m)))) [])/\(_/\(∀j0,j0<(if n=m then n else 0)->(((a j0)+((-1:Int):Rat)*(b j0):Rat)=(a j0+((-1:Int):Rat)*b j0)))/\_))
  ⟨(λ_ _=>trivial),(λ_ _=>trivial),uM (x:=-1) zo zo,sVecAddT zo (by assumption),(rf (if n=m then n else 0:Nat)),(λj0 hj0=>rfl),(rf (decide (n=m):Bool))⟩
open Go.RowKit
theorem nw_small{x:Nat}(h:x<18446744073709551616):nw x<=1:=nw_le_of h
theorem szq_small(p:Int){d:Int}(hd:d≠0)(h1:-9223372036854775808<=p)(h2:p<9223372036854775808)(h3:-9223372036854775808<=d)(h4:d<9223372036854775808):szq (Rat.divInt p d)<=2:=by
 have h:=szq_divInt p d hd
 have n1:=nw_small (x:=p.natAbs) zo
 have n2:=nw_small (x:=d.natAbs) zo
 omega
theorem cmpV_zero(a b:Int):decide (cmpV a b=0)=decide (a=b):=by
 unfold cmpV
 by_cases h:a<b
 ·have:a≠b:=by omega
  simp[h,this]
 ·by_cases e:a=b<;>simp[h,e]
theorem is_eq2{q:Rat}{p d:Int}(hd:d≠0):(bif bif bif !decide (d=0) then decide (q=Rat.divInt p d) else false then decide (cmpV q.num (Rat.divInt p d).num=0) else false then decide (cmpV ((q.den:Nat):Int) (((Rat.divInt p d).den:Nat):Int)=0) else false)=decide (q=Rat.divInt p d):=by
 rw[cmpV_zero,cmpV_zero,decide_eq_false hd]
 by_cases e:q=Rat.divInt p d
 ·rw[decide_eq_true e];subst e;simp
 ·simp[e]
def litI (l:List Int) (i:Nat):Int:=l.getD i 0
def litLL (l:List (List Int)) (i j:Nat):Int:=(l.getD i []).getD j 0
instance (p:Int):Decidable (Wd64 p):=inferInstanceAs (Decidable (_/\_))
theorem sIs{q:Rat}{p d:Int}(hd:d≠0)(hp:Wd64 p)(hd2:Wd64 d)(hs:szq q<=8589934592):CallOK Tryz.prog 43 [.rat q,.ex (.int .i64 p),.ex (.int .i64 d)] (bX (decide (q=Rat.divInt p d))) []:=by
 have hp1:=hp.1;have hp2:=hp.2;have hd3:=hd2.1;have hd4:=hd2.2;have hs2:=szq_small p hd hp1 hp2 hd3 hd4
 exact kP (ch:=[.reg 1 [(2,.callS (c2 (.rat (Rat.divInt p d)) (bX (!decide (d=0)))) [])],.reg 2 [(4,.callS (bX (decide (q=(Rat.divInt p d)))) []),(8,.callS (.int q.num) []),(10,.callS (.int ((Rat.divInt p d).num)) []),(11,.callS (iZ (cmpV q.num ((Rat.divInt p d).num))) []),(16,.callS (.nat q.den) []),(18,.callS (.nat ((Rat.divInt p d).den)) []),(19,.callS (iZ (cmpV ((q.den:Nat):Int) (((Rat.divInt p d).den:Nat):Int))) [])]]) Tryz.func43 (let y1:=(bif (!decide (d=0)) then(decide (q=(Rat.divInt p d))) else false);let y0:=(bif y1 then(decide ((cmpV q.num ((Rat.divInt p d).num):Int)=0)) else false);let y2:=((!decide (d=0))==true);_/\(y2=true->y2=true)/\(y2=true->y2=true)/\(y2=true->_)/\((!decide (d=0))=true->y2=true)/\((y1==true)=true->(y1==true)=true)/\((y1==true)=true->_)/\((y1==true)=true->(y1==true)=true)/\((y1==true)=true->_)/\((y1==true)=true->(y1==true)=true)/\((y1==true)=true->(y1==true)=true)/\((y1==true)=true->_)/\((y1==true)=true->(y1==true)=true)/\(y1=true->(y1==true)=true)/\((y0==true)=true->(y0==true)=true)/\((y0==true)=true->_)/\((y0==true)=true->(y0==true)=true)/\((y0==true)=true->_)/\((y0==true)=true->(y0==true)=true)/\((y0==true)=true->(y0==true)=true)/\((y0==true)=true->_)/\((y0==true)=true->(y0==true)=true)/\(y0=true->(y0==true)=true)/\(((bif y0 then(decide ((cmpV ((q.den:Nat):Int) (((Rat.divInt p d).den:Nat):Int):Int)=0)) else false:Bool)=(decide (q=Rat.divInt p d)))))
  ⟨sRatOf (x:=p) (y:=d) zo zo zo zo,id,id,(λhg=>sRatSame (p:=q) (q:=Rat.divInt p d) (by first | assumption | omega)),(by first | (simp;done) | (simp;omega)),id,(λhg=>sRatNum (q:=q)),id,(λhg=>sRatNum (q:=Rat.divInt p d)),id,id,(λhg=>sIntCmp (y:=q.num) (z:=(Rat.divInt p d).num)),id,(by first | (simp;done) | (simp;omega)),id,(λhg=>sRatDen (q:=q)),id,(λhg=>sRatDen (q:=Rat.divInt p d)),id,id,(λhg=>sNatCmp (x:=q.den) (y:=(Rat.divInt p d).den)),id,(by first | (simp;done) | (simp;omega)),(is_eq2 hd)⟩
open Go.RowKit
def yD (g:Nat) (q:Nat->Nat->Rat) (r c:Nat):Rat:=if r<g then q r c else 0
theorem uptoR_at{g c:Nat}{q:Nat->Nat->Rat}:yD (g+1) q g c=q g c:=if_pos (Nat.lt_succ_self g)
theorem uptoR_ne{g t c:Nat}{q:Nat->Nat->Rat}(h:t≠g):yD (g+1) q t c=yD g q t c:=by
 unfold yD
 by_cases h1:t<g
 ·rw[if_pos h1,if_pos zo]
 ·rw[if_neg h1,if_neg zo]
theorem uptoR_zero{t c:Nat}{q:Nat->Nat->Rat}:yD 0 q t c=0:=if_neg (Nat.not_lt_zero t)
def xV (g h:Nat) (q:Nat->Nat->Rat) (r c:Nat):Rat:=if c<g∨(c=g/\r<h) then q c r else 0
theorem turnQ_zero{g r c:Nat}{q:Nat->Nat->Rat}:xV g 0 q r c=yD g q c r:=by
 unfold xV yD
 by_cases h:c<g
 ·rw[if_pos (.inl h),if_pos h]
 ·rw[if_neg zo,if_neg h]
theorem turnQ_at{g h:Nat}{q:Nat->Nat->Rat}:xV g (h+1) q h g=q g h:=if_pos (.inr ⟨rfl,Nat.lt_succ_self h⟩)
theorem turnQ_cong{g h h' r c:Nat}{q:Nat->Nat->Rat}(e:c=g->(r<h↔r<h')):xV g h q r c=xV g h' q r c:=by
 unfold xV
 by_cases k:c<g∨(c=g/\r<h)
 ·rw[if_pos k,if_pos (k.imp id λk=>⟨k.1,(e k.1).1 k.2⟩)]
 ·rw[if_neg k,if_neg λk'=>k (k'.imp id λk'=>⟨k'.1,(e k'.1).2 k'.2⟩)]
theorem turnQ_other{g h r c:Nat}{q:Nat->Nat->Rat}(hc:c≠g):xV g (h+1) q r c=xV g h q r c:=turnQ_cong λe=>absurd e hc
theorem turnQ_ne{g h r c:Nat}{q:Nat->Nat->Rat}(hr:r≠h):xV g (h+1) q r c=xV g h q r c:=turnQ_cong λ_=>by omega
theorem turnQ_all{g h r c:Nat}{q:Nat->Nat->Rat}(hr:r<h):xV g h q r c=yD (g+1) q c r:=by
 unfold xV yD
 by_cases k:c<g+1
 ·rw[if_pos zo,if_pos k]
 ·rw[if_neg zo,if_neg k]
theorem uptoR_all{g t c:Nat}{q:Nat->Nat->Rat}(h:t<g):yD g q t c=q t c:=if_pos h
theorem sMatNew{m n:Nat}(hm:m<=64)(hn:n<=64):CallOK Tryz.prog 94 [iN m,iN n] (c2 (.agg (c2 (.own 0 0) (iN n))) (bX true)) [.one (.row 41 1 (λi0=>.own 1 i0) m),.fam m (λ_=>.row 76 3 (λ_=>.rat 0) n)]:=by
 exact kP (ch:=[.dec 20 false,.loop 5 (Nat) (λg=>g<=m) (λg=>m-g) (λg=>⟨[(1,iN n),(4,.own 0 0),(6,.own 1 0),(24,iN m),(25,iN g)],[(0,.one (.var 39 (.ex (.agg #[.slice none 0 0,.int .i64 0])))),(1,.one (.var 39 (.agg (c2 (.own 2 0) (iN n))))),(2,.one (.row 41 1 (λi0=>.own 3 i0) g)),(3,.fam g (λ_=>.row 76 3 (λ_=>.rat 0) n))],4⟩) [(0,.id 0),(1,.id 1),(2,.nil),(3,.emp)] (λg=>[(0,.id 0),(1,.id 1),(2,.id 5),(3,.put 3 g 4)]) (λg=>[.reg 6 [(3,.row n (λ_=>.rat 0)),(5,.row 0 (λi0=>.own (if i0<g then 3 else 4) (if i0<g then i0 else 0)))],.reg 7 [(0,.z ((g+1:Nat):Int))],.ret 8 [(0,.id 2),(1,.id 3)]])]) Tryz.func94 (let y2:=(decide ((m:Int)<0));let y0:=(bif y2 then true else(decide ((64:Int)<(m:Int))));let y1:=(bif y0 then true else(decide ((n:Int)<0)));((y2==false)=true->(y2==false)=true)/\((!y2)=true->(y2==false)=true)/\((y0==false)=true->(y0==false)=true)/\((!y0)=true->(y0==false)=true)/\((y1==false)=true->(y1==false)=true)/\((!y1)=true->(y1==false)=true)/\((bif y1 then true else(decide ((64:Int)<(n:Int))))=false)/\(((λX1 X2 X3 X4 X5 X6:Prop=>∃g0:Nat,X1/\X2/\X3/\X4/\((0:Int)=(g0:Int))/\((.agg #[.slice none 0 0,.int .i64 0]:Value)=.agg #[.slice none 0 0,.int .i64 0])/\X5/\X6/\((g0:Nat)=0)/\((g0:Nat)=0)/\(g0<=m)) _ _ _ _ _ _)/\∀g:Nat,(g<=m)->(((decide ((g:Int)<(m:Int)))=true->_/\_/\(n<=68719476736)/\(∀j0,j0<n->((0:Rat)=0))/\(g+1<=68719476736)/\(∀j0,j0<g->(.own (if j0<g then 3 else 4) (if j0<g then j0 else 0):SV)=.own 3 j0)/\(∀j0,j0<1->((4:Nat)=(if g+j0<g then 3 else 4))/\((0:Nat)=(if g+j0<g then g+j0 else 0)))/\_/\((λX1 X2 X3 X4 X5 X6 X7:Prop=>∃g1:Nat,X1/\X2/\X3/\X4/\(((g+1:Nat):Int)=(g1:Int))/\((.agg #[.slice none 0 0,.int .i64 0]:Value)=.agg #[.slice none 0 0,.int .i64 0])/\X5/\X6/\((g+1:Nat)=g1)/\(∀j0,j0<(g+1)->(((if j0<g then 3 else 4:Nat)=4/\(if j0<g then j0 else 0:Nat)=0/\(j0:Nat)=g)∨((if j0<g then 3 else 4:Nat)=3/\(if j0<g then j0 else 0:Nat)=j0/\(j0:Nat)≠g)))/\((g1:Nat)=g+1)/\X7/\(((n:Nat)=n)/\(∀j1,j1<n->((0:Rat)=0)))/\(∀j0,j0<g->((n:Nat)=n)/\(∀j1,j1<n->((0:Rat)=0)))/\(g1<=m)/\(m-g1<m-g)) _ _ _ _ _ _ _))/\((decide ((g:Int)<(m:Int)))=false->(_/\_/\_/\((g:Nat)=m)/\(∀j0,j0<g->((j0:Nat)=j0))/\((g:Nat)=m)/\(∀j0,j0<g->((n:Nat)=n)/\(∀j1,j1<n->((0:Rat)=0))))))))
  ⟨id,(by first | (simp;done) | (simp;omega)),id,(by first | (simp;done) | (simp;omega)),id,(by first | (simp;done) | (simp;omega)),(by simp;omega),⟨0,(rf (n:Int)),(rf 0),(rf 0),(rf (m:Int)),zo,rfl,(rf 0),(rf (n:Int)),zo,zo,zo⟩,λg hg=>⟨λhc26=>have hc26:=dT hc26;⟨(rf (n:Int)),(rf (n:Int)),zo,(λj0 hj0=>rfl),zo,(λj0 hj0=>by rw[if_pos hj0,if_pos hj0]),(λj0 hj0=>⟨(by rw[if_neg zo]),(by rw[if_neg zo])⟩),(wI (g:=g) zo),g+1,(rf (n:Int)),(rf 0),(rf 0),(rf (m:Int)),zo,rfl,(rf 0),(rf (n:Int)),zo,(λj0 hj0=>(by first | omega | (split<;>omega))),zo,(rf g),⟨rfl,(λj1 hj1=>rfl)⟩,(λj0 hj0=>⟨rfl,(λj1 hj1=>rfl)⟩),zo,zo⟩,λhc26=>have hc26:=dF hc26;have hi2:g=m:=zo;⟨(rf 0),(rf (n:Int)),(rf (true:Bool)),zo,(λj0 hj0=>rfl),zo,(λj0 hj0=>⟨rfl,(λj1 hj1=>rfl)⟩)⟩⟩⟩
theorem sMatOf{q:Nat->Nat->Rat}{m n:Nat}(hm:m<=64)(hn:n<=64):CallOK Tryz.prog 57 [iN n,.sl 1 (mE q n) m] (c2 (.agg (c2 (.sl 1 (mE q n) m) (iN n))) (bX true)) []:=by
 exact kP (ch:=[.reg 1 [(3,.callS (c2 (.agg (c2 (.own 0 0) (iN n))) (bX true)) [.one (.row 41 1 (λi0=>.own 1 i0) m),.fam m (λ_=>.row 76 3 (λ_=>.rat 0) n)])],.dec 18 false,.loop 5 (Nat) (λg=>g<=m) (λg=>m-g) (λg=>⟨[(0,iN n),(4,.own 0 0),(6,.own 3 0),(20,.sl 1 (mE q n) m),(21,iN m),(22,iN g)],[(0,.one (.var 39 (.ex (.agg #[.slice none 0 0,.int .i64 0])))),(1,.one (.row 41 1 (λi0=>.own 2 i0) m)),(2,.fam m (λi0=>.row 76 3 (λi1=>.rat (yD g q i0 i1)) n)),(3,.one (.var 39 (.agg (c2 (.own 1 0) (iN n)))))],4⟩) [(0,.id 0),(1,.id 1),(2,.id 2),(3,.id 3)] (λ_=>[(0,.id 0),(1,.id 1),(2,.id 2),(3,.id 3)]) (λg=>[.reg 6 [(1,.k g)],.dec 30 false,.reg 9 [(3,.k g),(6,.rowF (λi0=>.rat (yD (g+1) q g i0)) (λi0=>.row 76 3 (λi1=>.rat (yD (g+1) q i0 i1)) n))],.reg 10 [(0,.z ((g+1:Nat):Int))]])]) Tryz.func57 ((∀j0,j0<m->(∀j1,j1<n->True))/\_/\((!true)=false)/\(((λX1 X2 X3 X4 X5 X6 X7 X8 X9 X10:Prop=>∃g0:Nat,X1/\X2/\X3/\X4/\X5/\X6/\((0:Int)=(g0:Int))/\((.agg #[.slice none 0 0,.int .i64 0]:Value)=.agg #[.slice none 0 0,.int .i64 0])/\X7/\(∀j0,j0<m->((j0:Nat)=j0))/\X8/\(∀j0,j0<m->((n:Nat)=n)/\(∀j1,j1<n->((0:Rat)=(yD g0 q j0 j1))))/\X9/\X10/\(g0<=m)) _ _ _ _ _ _ _ _ _ _)/\∀g:Nat,(g<=m)->(((decide ((g:Int)<(m:Int)))=true->_/\(g<m)/\((!decide ((n:Int)=(n:Int)))=false)/\_/\(g<m)/\(g<m)/\(n<=n)/\(∀j0,j0<n->n<=j0->(.rat (yD (g+1) q g j0):SV)=.rat (yD g q g j0))/\(∀j0,j0<n->((q g j0:Rat)=(yD (g+1) q g j0)))/\(g<m)/\((.row 76 3 (λi0=>.rat (yD (g+1) q g i0)) n:OB)=.row 76 3 (λi0=>.rat (yD (g+1) q g i0)) n)/\(∀t,t<m->t≠g->(.row 76 3 (λi0=>.rat (yD (g+1) q t i0)) n:OB)=.row 76 3 (λi0=>.rat (yD g q t i0)) n)/\_/\((λX1 X2 X3 X4 X5 X6 X7 X8 X9 X10:Prop=>∃g1:Nat,X1/\X2/\X3/\X4/\X5/\X6/\(((g+1:Nat):Int)=(g1:Int))/\((.agg #[.slice none 0 0,.int .i64 0]:Value)=.agg #[.slice none 0 0,.int .i64 0])/\X7/\(∀j0,j0<m->((j0:Nat)=j0))/\X8/\(∀j0,j0<m->((n:Nat)=n)/\(∀j1,j1<n->((yD (g+1) q j0 j1:Rat)=(yD g1 q j0 j1))))/\X9/\X10/\(g1<=m)/\(m-g1<m-g)) _ _ _ _ _ _ _ _ _ _))/\((decide ((g:Int)<(m:Int)))=false->(_/\(∀j0,j0<m->((n:Nat)=n)/\(∀j1,j1<n->((yD g q j0 j1:Rat)=(q j0 j1)))/\(j0<m))/\_/\_)))))
  ⟨(λ_ _=>(λ_ _=>trivial)),sMatNew (m:=m) (n:=n) zo zo,rfl,⟨0,(rf (n:Int)),(rf 0),(rf 0),(rf m),(leS (mE q n) m),(rf (m:Int)),zo,rfl,(rf m),(λj0 hj0=>rfl),(rf m),(λj0 hj0=>⟨rfl,(λj1 hj1=>(by rw[uptoR_zero]))⟩),(rf 0),(rf (n:Int)),zo⟩,λg hg=>⟨λhc23=>have hc23:=dT hc23;⟨(rf (g:Int)),zo,zs,(rf (g:Int)),zo,zo,zo,(λj0 hj0 hm=>absurd hj0 (Nat.not_lt.2 hm)),(λj0 hj0=>(by rw[uptoR_at])),zo,rfl,(λt ht hne=>by simp only[uptoR_ne hne]),(wI (g:=g) zo),g+1,(rf (n:Int)),(rf 0),(rf 0),(rf m),(leS (mE q n) m),(rf (m:Int)),zo,rfl,(rf m),(λj0 hj0=>rfl),(rf m),(λj0 hj0=>⟨rfl,(λj1 hj1=>rfl)⟩),(rf 0),(rf (n:Int)),zo,zo⟩,λhc23=>have hc23:=dF hc23;have hi2:g=m:=zo;⟨(rf m),(λj0 hj0=>⟨rfl,(λj1 hj1=>(by rw[hi2];exact uptoR_all zo)),zo⟩),(rf (n:Int)),(rf (true:Bool))⟩⟩⟩
theorem sMatBy{q:Nat->Nat->Rat}{v:Nat->Rat}{m n:Nat}(hm:m<=68719476736)(hn:n<=68719476736)(hs:∀t,t<m->∀i,i<n->szq (v t)+szq (q t i)<=17179869184/\szq (dotQ v (λr=>q r i) t)+szq (v t*q t i)<=17179869184):CallOK Tryz.prog 44 [.agg (c2 (.sl 1 (mE q n) m) (iN n)),.sl 3 (λi0=>.rat (v i0)) m] (c2 (.sl 3 (λi0=>.rat (dotQ v (λr=>q r i0) m)) n) (bX true)) []:=by
 exact kP (ch:=[.dec 14 false,.reg 3 [(2,.row n (λ_=>.rat 0))],.loop 5 (Nat) (λg=>g<=m) (λg=>m-g) (λg=>⟨[(1,.sl 3 (λi0=>.rat (v i0)) m),(6,.sl 3 (λi0=>.rat (dotQ v (λr=>q r i0) g)) n),(19,.sl 1 (mE q n) m),(20,iN m),(21,iN g)],[],2⟩) [] (λ_=>[]) (λg=>[.reg 6 [(1,.k g)],.reg 7 [(3,.k g),(6,.callS (c2 (.sl 3 (λi0=>.rat ((dotQ v (λr=>q r i0) g)+(v g)*(q g i0))) n) (bX true)) [])],.reg 8 [(0,.z ((g+1:Nat):Int))]])]) Tryz.func44 ((∀j0,j0<m->(∀j1,j1<n->True))/\(∀j0,j0<m->True)/\((!decide ((m:Int)=(m:Int)))=false)/\_/\_/\(n<=68719476736)/\(∀j0,j0<n->((0:Rat)=0))/\(((λX1 X2 X3 X4 X5 X6:Prop=>∃g0:Nat,X1/\X2/\X3/\(∀j0,j0<n->((0:Rat)=(dotQ v (λr=>q r j0) g0)))/\X4/\X5/\X6/\((0:Int)=(g0:Int))/\(g0<=m)) _ _ _ _ _ _)/\∀g:Nat,(g<=m)->(((decide ((g:Int)<(m:Int)))=true->_/\(g<m)/\_/\(g<m)/\_/\_/\((λX1 X2 X3 X4 X5 X6:Prop=>∃g1:Nat,X1/\X2/\X3/\(∀j0,j0<n->(((dotQ v (λr=>q r j0) g)+(v g)*(q g j0):Rat)=(dotQ v (λr=>q r j0) g1)))/\X4/\X5/\X6/\(((g+1:Nat):Int)=(g1:Int))/\(g1<=m)/\(m-g1<m-g)) _ _ _ _ _ _))/\((decide ((g:Int)<(m:Int)))=false->(_/\(∀j0,j0<n->((dotQ v (λr=>q r j0) g:Rat)=(dotQ v (λr=>q r j0) m)))/\_)))))
  ⟨(λ_ _=>(λ_ _=>trivial)),(λ_ _=>trivial),zs,(rf (n:Int)),(rf (n:Int)),zo,(λj0 hj0=>rfl),⟨0,(rf m),(leS (λi0=>.rat (v i0)) m),(rf n),(λj0 hj0=>rfl),(rf m),(leS (mE q n) m),(rf (m:Int)),zo,zo⟩,λg hg=>⟨λhc22=>have hc22:=dT hc22;have hg2:=hs g zo;⟨(rf (g:Int)),zo,(rf (g:Int)),zo,(uL (a:=λi0=>dotQ v (λr=>q r i0) g) (b:=q g) (n:=n) (r:=v g) zo hg2).frzV2,(wI (g:=g) zo),g+1,(rf m),(leS (λi0=>.rat (v i0)) m),(rf n),(λj0 hj0=>rfl),(rf m),(leS (mE q n) m),(rf (m:Int)),zo,zo,zo⟩,λhc22=>have hc22:=dF hc22;have hi2:g=m:=zo;⟨(rf n),(λj0 hj0=>(by rw[hi2])),(rf (true:Bool))⟩⟩⟩
theorem sMatTurned{q:Nat->Nat->Rat}{m n:Nat}(hm:m<=64)(hn:n<=64):CallOK Tryz.prog 135 [.agg (c2 (.sl 1 (mE q n) m) (iN n))] (.agg (c2 (.sl 1 (λi0=>.sl 3 (λi1=>.rat (q i1 i0)) m) n) (iN m))) []:=by
 exact kP (ch:=[.reg 1 [(5,.callS (c2 (.agg (c2 (.own 0 0) (iN m))) (bX true)) [.one (.row 41 1 (λi0=>.own 1 i0) n),.fam n (λ_=>.row 76 3 (λ_=>.rat 0) m)])],.loop 3 (Nat) (λg=>g<=m) (λg=>m-g) (λg=>⟨[(1,.own 0 0),(2,.own 1 0),(3,.own 4 0),(18,iN m),(19,iN g)],[(0,.one (.var 39 (.agg (c2 (.sl 1 (mE q n) m) (iN n))))),(1,.one (.var 39 (.ex (.agg #[.slice none 0 0,.int .i64 0])))),(2,.one (.row 41 1 (λi0=>.own 3 i0) n)),(3,.fam n (λi0=>.row 76 3 (λi1=>.rat (yD g q i1 i0)) m)),(4,.one (.var 39 (.agg (c2 (.own 2 0) (iN m)))))],5⟩) [(0,.id 0),(1,.id 1),(2,.id 2),(3,.id 3),(4,.id 4)] (λ_=>[(0,.id 0),(1,.id 1),(2,.id 2),(3,.id 3),(4,.id 4)]) (λg=>[.loop 6 (Nat) (λh=>h<=n) (λh=>n-h) (λh=>⟨[(1,.own 0 0),(2,.own 1 0),(3,.own 4 0),(5,iN g),(18,iN m),(19,iN g),(23,iN n),(24,iN h)],[(0,.one (.var 39 (.agg (c2 (.sl 1 (mE q n) m) (iN n))))),(1,.one (.var 39 (.ex (.agg #[.slice none 0 0,.int .i64 0])))),(2,.one (.row 41 1 (λi0=>.own 3 i0) n)),(3,.fam n (λi0=>.row 76 3 (λi1=>.rat (xV g h q i0 i1)) m)),(4,.one (.var 39 (.agg (c2 (.own 2 0) (iN m)))))],5⟩) [(0,.id 0),(1,.id 1),(2,.id 2),(3,.id 3),(4,.id 4)] (λ_=>[(0,.id 0),(1,.id 1),(2,.id 2),(3,.id 3),(4,.id 4)]) (λh=>[.reg 8 [(3,.k h),(9,.k g),(12,.k h),(14,.k g),(15,.rowF (λi0=>.rat (xV g (h+1) q h i0)) (λi0=>.row 76 3 (λi1=>.rat (xV g (h+1) q i0 i1)) m))],.reg 9 [(0,.z ((h+1:Nat):Int))],.reg 10 [(0,.z ((g+1:Nat):Int))]])])]) Tryz.func135 ((∀j0,j0<m->(∀j1,j1<n->True))/\_/\(((λX1 X2 X3 X4 X5 X6 X7 X8 X9 X10 X11:Prop=>∃g0:Nat,X1/\X2/\X3/\X4/\((0:Int)=(g0:Int))/\X5/\X6/\X7/\((.agg #[.slice none 0 0,.int .i64 0]:Value)=.agg #[.slice none 0 0,.int .i64 0])/\X8/\(∀j0,j0<n->((j0:Nat)=j0))/\X9/\(∀j0,j0<n->((m:Nat)=m)/\(∀j1,j1<m->((0:Rat)=(yD g0 q j1 j0))))/\X10/\X11/\(g0<=m)) _ _ _ _ _ _ _ _ _ _ _)/\∀g:Nat,(g<=m)->(((decide ((g:Int)<(m:Int)))=true->(((λX1 X2 X3 X4 X5 X6 X7 X8 X9 X10 X11 X12 X13 X14:Prop=>∃h0:Nat,X1/\X2/\X3/\X4/\X5/\X6/\X7/\((0:Int)=(h0:Int))/\X8/\X9/\X10/\((.agg #[.slice none 0 0,.int .i64 0]:Value)=.agg #[.slice none 0 0,.int .i64 0])/\X11/\(∀j0,j0<n->((j0:Nat)=j0))/\X12/\(∀j0,j0<n->((m:Nat)=m)/\(∀j1,j1<m->((yD g q j1 j0:Rat)=(xV g h0 q j0 j1))))/\X13/\X14/\(h0<=n)) _ _ _ _ _ _ _ _ _ _ _ _ _ _)/\∀h:Nat,(h<=n)->(((decide ((h:Int)<(n:Int)))=true->_/\(h<n)/\(h<n)/\_/\(g<m)/\_/\(h<n)/\_/\(g<m)/\(h<n)/\(g<m)/\(((q g h:Rat)=(xV g (h+1) q h g)))/\(∀t,t<m->t≠g->(.rat (xV g (h+1) q h t):SV)=.rat (xV g h q h t))/\(h<n)/\((.row 76 3 (λi0=>.rat (xV g (h+1) q h i0)) m:OB)=.row 76 3 (λi0=>.rat (xV g (h+1) q h i0)) m)/\(∀t,t<n->t≠h->(.row 76 3 (λi0=>.rat (xV g (h+1) q t i0)) m:OB)=.row 76 3 (λi0=>.rat (xV g h q t i0)) m)/\_/\((λX1 X2 X3 X4 X5 X6 X7 X8 X9 X10 X11 X12 X13 X14:Prop=>∃h1:Nat,X1/\X2/\X3/\X4/\X5/\X6/\X7/\(((h+1:Nat):Int)=(h1:Int))/\X8/\X9/\X10/\((.agg #[.slice none 0 0,.int .i64 0]:Value)=.agg #[.slice none 0 0,.int .i64 0])/\X11/\(∀j0,j0<n->((j0:Nat)=j0))/\X12/\(∀j0,j0<n->((m:Nat)=m)/\(∀j1,j1<m->((xV g (h+1) q j0 j1:Rat)=(xV g h1 q j0 j1))))/\X13/\X14/\(h1<=n)/\(n-h1<n-h)) _ _ _ _ _ _ _ _ _ _ _ _ _ _))/\((decide ((h:Int)<(n:Int)))=false->_/\((λX1 X2 X3 X4 X5 X6 X7 X8 X9 X10 X11:Prop=>∃g1:Nat,X1/\X2/\X3/\X4/\(((g+1:Nat):Int)=(g1:Int))/\X5/\X6/\X7/\((.agg #[.slice none 0 0,.int .i64 0]:Value)=.agg #[.slice none 0 0,.int .i64 0])/\X8/\(∀j0,j0<n->((j0:Nat)=j0))/\X9/\(∀j0,j0<n->((m:Nat)=m)/\(∀j1,j1<m->((xV g h q j0 j1:Rat)=(yD g1 q j1 j0))))/\X10/\X11/\(g1<=m)/\(m-g1<m-g)) _ _ _ _ _ _ _ _ _ _ _)))))/\((decide ((g:Int)<(m:Int)))=false->(_/\(∀j0,j0<n->((m:Nat)=m)/\(∀j1,j1<m->((yD g q j1 j0:Rat)=(q j1 j0)))/\(j0<n))/\_)))))
  ⟨(λ_ _=>(λ_ _=>trivial)),sMatNew (m:=n) (n:=m) zo zo,⟨0,(rf 0),(rf 0),(rf 0),(rf (m:Int)),zo,(rf m),(leS (mE q n) m),(rf (n:Int)),rfl,(rf n),(λj0 hj0=>rfl),(rf n),(λj0 hj0=>⟨rfl,(λj1 hj1=>(by rw[uptoR_zero]))⟩),(rf 0),(rf (m:Int)),zo⟩,λg hg=>⟨λhc20=>have hc20:=dT hc20;⟨⟨0,(rf 0),(rf 0),(rf 0),(rf (g:Int)),(rf (m:Int)),(rf (g:Int)),(rf (n:Int)),zo,(rf m),(leS (mE q n) m),(rf (n:Int)),rfl,(rf n),(λj0 hj0=>rfl),(rf n),(λj0 hj0=>⟨rfl,(λj1 hj1=>(by rw[turnQ_zero]))⟩),(rf 0),(rf (m:Int)),zo⟩,λh hh=>⟨λhc25=>have hc25:=dT hc25;⟨(rf (h:Int)),zo,zo,(rf (g:Int)),zo,(rf (h:Int)),zo,(rf (g:Int)),zo,zo,zo,(by rw[turnQ_at]),(λt ht hne=>by rw[turnQ_other hne]),zo,rfl,(λt ht hne=>by simp only[turnQ_ne hne]),(wI (g:=h) zo),h+1,(rf 0),(rf 0),(rf 0),(rf (g:Int)),(rf (m:Int)),(rf (g:Int)),(rf (n:Int)),zo,(rf m),(leS (mE q n) m),(rf (n:Int)),rfl,(rf n),(λj0 hj0=>rfl),(rf n),(λj0 hj0=>⟨rfl,(λj1 hj1=>rfl)⟩),(rf 0),(rf (m:Int)),zo,zo⟩,λhc25=>have hc25:=dF hc25;have hi3:h=n:=zo;⟨(wI (g:=g) zo),g+1,(rf 0),(rf 0),(rf 0),(rf (m:Int)),zo,(rf m),(leS (mE q n) m),(rf (n:Int)),rfl,(rf n),(λj0 hj0=>rfl),(rf n),(λj0 hj0=>⟨rfl,(λj1 hj1=>(turnQ_all zo))⟩),(rf 0),(rf (m:Int)),zo,zo⟩⟩⟩,λhc20=>have hc20:=dF hc20;have hi2:g=m:=zo;⟨(rf n),(λj0 hj0=>⟨rfl,(λj1 hj1=>(by rw[hi2];exact uptoR_all zo)),zo⟩),(rf (m:Int))⟩⟩⟩
theorem kT{q:Nat->Nat->Rat}{m n:Nat}:CallOK Tryz.prog 40 [.agg (c2 (.sl 1 (mE q n) m) (iN n))] (iN m) []:=by
 exact kP (ch:=[]) Tryz.func40 ((∀j0,j0<m->(∀j1,j1<n->True))/\(_))
  ⟨(λ_ _=>(λ_ _=>trivial)),(rf (m:Int))⟩
theorem sMatCols{q:Nat->Nat->Rat}{m n:Nat}:CallOK Tryz.prog 41 [.agg (c2 (.sl 1 (mE q n) m) (iN n))] (iN n) []:=by
 exact kP (ch:=[]) Tryz.func41 ((∀j0,j0<m->(∀j1,j1<n->True))/\(_))
  ⟨(λ_ _=>(λ_ _=>trivial)),(rf (n:Int))⟩
theorem sMatRow{q:Nat->Nat->Rat}{m n r:Nat}(hr:r<m)(hn:n<=68719476736):CallOK Tryz.prog 133 [.agg (c2 (.sl 1 (mE q n) m) (iN n)),iN r] (c2 (.sl 3 (λi0=>.rat (q r i0)) n) (bX true)) []:=by
 exact kP (ch:=[.dec 14 false,.reg 3 [(3,.k r),(5,.callS (.sl 3 (λi0=>.rat (q r i0)) n) [])]]) Tryz.func133 ((∀j0,j0<m->(∀j1,j1<n->True))/\_/\_/\_/\_/\((!(decide ((r:Int)<0)))=true->((decide ((r:Int)<0))==false)=true)/\((bif (decide ((r:Int)<0)) then true else(decide ((m:Int)<=(r:Int))))=false)/\_/\(r<m)/\_/\(_/\_/\_))
  ⟨(λ_ _=>(λ_ _=>trivial)),(idB ((decide ((r:Int)<0))==false)),(idB ((decide ((r:Int)<0))==false)),(idB ((decide ((r:Int)<0))==false)),(idB ((decide ((r:Int)<0))==false)),(by first | (simp;done) | (simp;omega)),(by simp;omega),(rf (r:Int)),zo,(kS (n:=n) (q:=(λi=>q r i)) zo).frzV,(rf n),(leS (λi0=>.rat (q r i0)) n),(rf (true:Bool))⟩
open Go.RowKit
theorem bif_true{P Q:Prop} [Decidable P] [Decidable Q](h:(bif decide P then decide Q else false)=true):P/\Q:=by
 by_cases p:P
 ·exact⟨p,by simpa [p] using h⟩
 ·simp[p] at h
theorem bif_false{P Q:Prop} [Decidable P] [Decidable Q](h:(bif decide P then decide Q else false)=false):¬(P/\Q):=λ⟨p,q⟩=>by simp[p,q] at h
def sumQ (f:Nat->Rat):Nat->Rat
 | 0=>0
 | n+1=>sumQ f n+f n
theorem zF{f g:Nat->Rat}:∀n,(∀i,i<n->f i=g i)->sumQ f n=sumQ g n
 | 0,_=>rfl
 | n+1,h=>by show sumQ f n+f n=sumQ g n+g n;rw[zF n λi hi=>h i zo,h n zo]
theorem sumQ_add(f g:Nat->Rat):∀n,sumQ (λi=>f i+g i) n=sumQ f n+sumQ g n
 | 0=>by show(0:Rat)=0+0;grind
 | n+1=>by show sumQ (λi=>f i+g i) n+(f n+g n)=_+f n+(_+g n);rw[sumQ_add f g n];grind
theorem yT(t:Rat)(f:Nat->Rat):∀n,sumQ (λi=>t*f i) n=t*sumQ f n
 | 0=>by show(0:Rat)=t*0;grind
 | n+1=>by show sumQ (λi=>t*f i) n+t*f n=t*(_+f n);rw[yT t f n];grind
theorem kK:∀n,sumQ (λ_=>0) n=0
 | 0=>rfl
 | n+1=>by show sumQ (λ_=>0) n+0=0;rw[kK n];grind
theorem sumQ_head(f:Nat->Rat):∀n,sumQ f (n+1)=f 0+sumQ (λi=>f (i+1)) n
 | 0=>by show(0:Rat)+f 0=f 0+0;grind
 | n+1=>by show sumQ f (n+1)+f (n+1)=f 0+(sumQ (λi=>f (i+1)) n+f (n+1));rw[sumQ_head f n];grind
theorem sumQ_comm(f:Nat->Nat->Rat)(m:Nat):∀n,sumQ (λi=>sumQ (f i) m) n=sumQ (λj=>sumQ (λi=>f i j) n) m
 | 0=>by show 0=sumQ (λ_=>0) m;rw[kK]
 | n+1=>by
  show sumQ (λi=>sumQ (f i) m) n+sumQ (f n) m=sumQ (λj=>sumQ (λi=>f i j) n+f n j) m
  rw[sumQ_comm f m n,sumQ_add]
theorem jF{f:Nat->Rat}{k:Nat}:∀n,k<n->(∀i,i<n->i≠k->f i=0)->sumQ f n=f k
 | 0,h,_=>absurd h (Nat.not_lt_zero k)
 | n+1,h,hz=>by
  show sumQ f n+f n=f k
  by_cases e:k=n
  ·subst e
   rw[zF k (g:=λ_=>0) (λi hi=>hz i zo zo),kK];grind
  ·rw[jF n zo (λi hi=>hz i zo),hz n zo zo];grind
def sgn:Nat->Rat
 | 0=>1
 | n+1=>-sgn n
def skp (k i:Nat):Nat:=if i<k then i else i+1
def yE (A:Nat->Nat->Rat) (r c:Nat):Nat->Nat->Rat:=λi j=>A (skp r i) (skp c j)
def trM (A:Nat->Nat->Rat):Nat->Nat->Rat:=λi j=>A j i
def det:Nat->(Nat->Nat->Rat)->Rat
 | 0,_=>1
 | n+1,A=>sumQ (λc=>sgn c*A 0 c*det n (yE A 0 c)) (n+1)
def cdet:Nat->(Nat->Nat->Rat)->Rat
 | 0,_=>1
 | n+1,A=>sumQ (λr=>sgn r*A r 0*cdet n (yE A r 0)) (n+1)
theorem skp_lt{k i n:Nat}(hi:i<n):skp k i<n+1:=by unfold skp;split<;>omega
theorem det_congr:∀n {A B:Nat->Nat->Rat},(∀i,i<n->∀j,j<n->A i j=B i j)->det n A=det n B
 | 0,_,_,_=>rfl
 | n+1,A,B,h=>zF _ λc hc=>by
  rw[h 0 zo c hc,det_congr n (A:=yE A 0 c) (B:=yE B 0 c) λi hi j hj=>h _ (skp_lt hi) _ (skp_lt hj)]
theorem yY:∀n {A B:Nat->Nat->Rat},(∀i,i<n->∀j,j<n->A i j=B i j)->cdet n A=cdet n B
 | 0,_,_,_=>rfl
 | n+1,A,B,h=>zF _ λc hc=>by
  rw[h c hc 0 zo,yY n (A:=yE A c 0) (B:=yE B c 0) λi hi j hj=>h _ (skp_lt hi) _ (skp_lt hj)]
theorem det_tr:∀n (A:Nat->Nat->Rat),det n (trM A)=cdet n A
 | 0,_=>rfl
 | n+1,A=>zF _ λc _=>by
  show sgn c*A c 0*det n (yE (trM A) 0 c)=_
  rw[←det_tr n (yE A c 0)];rfl
theorem minor_minor(A:Nat->Nat->Rat)(r c:Nat):yE (yE A 0 (c+1)) r 0=yE (yE A (r+1) 0) 0 c:=by
 funext i j
 show A (skp 0 (skp r i)) (skp (c+1) (skp 0 j))=A (skp (r+1) (skp 0 i)) (skp 0 (skp c j))
 have e1:skp 0 (skp r i)=skp (r+1) (skp 0 i):=by unfold skp;repeat (first | split | omega)
 have e2:skp (c+1) (skp 0 j)=skp 0 (skp c j):=by unfold skp;repeat (first | split | omega)
 rw[e1,e2]
theorem xL:∀n (A:Nat->Nat->Rat),det n A=cdet n A
 | 0,_=>rfl
 | 1,A=>by show(0:Rat)+sgn 0*A 0 0*1=0+sgn 0*A 0 0*1;rfl
 | n+2,A=>by
  refine(sumQ_head (λc=>sgn c*A 0 c*det (n+1) (yE A 0 c)) (n+1)).trans (Eq.trans ?_ (sumQ_head (λr=>sgn r*A r 0*cdet (n+1) (yE A r 0)) (n+1)).symm)
  show sgn 0*A 0 0*det (n+1) (yE A 0 0)+_=sgn 0*A 0 0*cdet (n+1) (yE A 0 0)+_
  rw[xL (n+1) (yE A 0 0)]
  congr 1
  have h1:∀c,c<n+1->sgn (c+1)*A 0 (c+1)*det (n+1) (yE A 0 (c+1))=sumQ (λr=>sgn (c+1)*sgn r*A 0 (c+1)*A (r+1) 0*det n (yE (yE A 0 (c+1)) r 0)) (n+1):=λc _=>by
   rw[xL (n+1) (yE A 0 (c+1))]
   show _*sumQ _ (n+1)=_
   rw[←yT]
   refine zF _ λr _=>?_
   rw[←xL n]
   show sgn (c+1)*A 0 (c+1)*(sgn r*A (skp 0 r) (skp (c+1) 0)*_)=_
   have e1:skp 0 r=r+1:=by unfold skp;rw[if_neg (Nat.not_lt_zero r)]
   have e2:skp (c+1) 0=0:=by unfold skp;rw[if_pos (Nat.succ_pos c)]
   rw[e1,e2];grind
  have h2:∀r,r<n+1->sgn (r+1)*A (r+1) 0*cdet (n+1) (yE A (r+1) 0)=sumQ (λc=>sgn (c+1)*sgn r*A 0 (c+1)*A (r+1) 0*det n (yE (yE A 0 (c+1)) r 0)) (n+1):=λr _=>by
   rw[←xL (n+1) (yE A (r+1) 0)]
   show _*sumQ _ (n+1)=_
   rw[←yT]
   refine zF _ λc _=>?_
   rw[minor_minor]
   show sgn (r+1)*A (r+1) 0*(sgn c*A (skp (r+1) 0) (skp 0 c)*_)=_
   have e1:skp 0 c=c+1:=by unfold skp;rw[if_neg (Nat.not_lt_zero c)]
   have e2:skp (r+1) 0=0:=by unfold skp;rw[if_pos (Nat.succ_pos r)]
   rw[e1,e2]
   show(-sgn r)*_*_=(-sgn c)*_*_*_*_
   grind
  exact(zF _ h1).trans ((sumQ_comm _ _ _).trans (zF _ h2).symm)
def setR (A:Nat->Nat->Rat) (r:Nat) (x:Nat->Rat):Nat->Nat->Rat:=λi j=>if i=r then x j else A i j
def unsk (k i:Nat):Nat:=if i<k then i else i-1
theorem uF(A:Nat->Nat->Rat)(r:Nat)(x:Nat->Rat)(c:Nat):yE (setR A r x) r c=yE A r c:=by
 funext i j
 show(if skp r i=r then _ else _)=_
 rw[if_neg (by unfold skp;split<;>omega)];rfl
theorem minor_setR(A:Nat->Nat->Rat){r i:Nat}(h:i≠r)(x:Nat->Rat)(c:Nat):yE (setR A r x) i c=setR (yE A i c) (unsk i r) (λj=>x (skp c j)):=by
 funext k j
 show(if skp i k=r then _ else _)=(if k=unsk i r then _ else _)
 have e:skp i k=r↔k=unsk i r:=by unfold skp unsk;split<;>split<;>omega
 by_cases q:skp i k=r
 ·rw[if_pos q,if_pos (e.1 q)]
 ·rw[if_neg q,if_neg λq'=>q (e.2 q')];rfl
theorem cdet_lin:∀n (A:Nat->Nat->Rat) (r:Nat) (x y:Nat->Rat) (s t:Rat),r<n->cdet n (setR A r (λj=>s*x j+t*y j))=s*cdet n (setR A r x)+t*cdet n (setR A r y)
 | 0,_,_,_,_,_,_,h=>absurd h (Nat.not_lt_zero _)
 | n+1,A,r,x,y,s,t,h=>by
  show sumQ _ (n+1)=s*sumQ _ (n+1)+t*sumQ _ (n+1)
  rw[←yT,←yT,←sumQ_add]
  refine zF _ λi hi=>?_
  by_cases e:i=r
  ·subst e
   rw[uF,uF,uF]
   show sgn i*(if i=i then _ else _)*_=s*(sgn i*(if i=i then _ else _)*_)+t*(sgn i*(if i=i then _ else _)*_)
   rw[if_pos rfl,if_pos rfl,if_pos rfl];grind
  ·rw[minor_setR A e,minor_setR A e,minor_setR A e,cdet_lin n _ _ (λj=>x (skp 0 j)) (λj=>y (skp 0 j)) s t (by unfold unsk;split<;>omega)]
   show sgn i*(if i=r then _ else _)*_=s*(sgn i*(if i=r then _ else _)*_)+t*(sgn i*(if i=r then _ else _)*_)
   rw[if_neg e,if_neg e,if_neg e];grind
def zB (A:Nat->Nat->Rat) (k l:Nat):Nat->Nat->Rat:=λi j=>A (if i=k then l else if i=l then k else i) j
theorem cdet_adj:∀n (A:Nat->Nat->Rat) (k:Nat),k+1<n->cdet n (zB A k (k+1))=-cdet n A
 | 0,_,_,h=>absurd h (Nat.not_lt_zero _)
 | n+1,A,k,h=>by
  show sumQ _ (n+1)=-sumQ _ (n+1)
  have e:∀f:Nat->Rat,-sumQ f (n+1)=(-1:Rat)*sumQ f (n+1):=λf=>by grind
  rw[e,←yT]
  have key:∀i,i<n+1->(λr=>sgn r*zB A k (k+1) r 0*cdet n (yE (zB A k (k+1)) r 0)) i=(-1:Rat)*(λr=>sgn r*A r 0*cdet n (yE A r 0)) (if i=k then k+1 else if i=k+1 then k else i):=λi hi=>by
   by_cases h1:i=k
   ·subst h1
    rw[if_pos rfl]
    show sgn i*A (if i=i then i+1 else _) 0*cdet n (yE (zB A i (i+1)) i 0)=-1*((-sgn i)*A (i+1) 0*cdet n (yE A (i+1) 0))
    rw[if_pos rfl]
    have:yE (zB A i (i+1)) i 0=yE A (i+1) 0:=by
     funext a b
     show A (if skp i a=i then i+1 else if skp i a=i+1 then i else skp i a) _=A (skp (i+1) a) _
     congr 1
     unfold skp;repeat (first | split | omega)
    rw[this];grind
   ·by_cases h2:i=k+1
    ·subst h2
     rw[if_neg h1,if_pos rfl]
     show(-sgn k)*A (if k+1=k then k+1 else if k+1=k+1 then k else _) 0*cdet n (yE (zB A k (k+1)) (k+1) 0)=-1*(sgn k*A k 0*cdet n (yE A k 0))
     rw[if_neg h1,if_pos rfl]
     have:yE (zB A k (k+1)) (k+1) 0=yE A k 0:=by
      funext a b
      show A (if skp (k+1) a=k then k+1 else if skp (k+1) a=k+1 then k else skp (k+1) a) _=A (skp k a) _
      congr 1
      unfold skp;repeat (first | split | omega)
     rw[this];grind
    ·rw[if_neg h1,if_neg h2]
     show sgn i*A (if i=k then k+1 else if i=k+1 then k else i) 0*cdet n (yE (zB A k (k+1)) i 0)=-1*(sgn i*A i 0*cdet n (yE A i 0))
     rw[if_neg h1,if_neg h2]
     have:yE (zB A k (k+1)) i 0=zB (yE A i 0) (unsk i k) (unsk i k+1):=by
      funext a b
      show A (if skp i a=k then k+1 else if skp i a=k+1 then k else skp i a) _=A (skp i (if a=unsk i k then unsk i k+1 else if a=unsk i k+1 then unsk i k else a)) _
      congr 1
      unfold skp unsk;repeat (first | split | omega)
     rw[this,cdet_adj n (yE A i 0) (unsk i k) (by unfold unsk;split<;>omega)];grind
  rw[zF _ key]
  show sumQ (λi=>(-1:Rat)*(λr=>sgn r*A r 0*cdet n (yE A r 0)) (if i=k then k+1 else if i=k+1 then k else i)) (n+1)=_
  rw[yT,yT]
  congr 1
  exact sumQ_swap (λr=>sgn r*A r 0*cdet n (yE A r 0)) _ h
where sumQ_swap (f:Nat->Rat) {k:Nat}:∀n,k+1<n->sumQ (λi=>f (if i=k then k+1 else if i=k+1 then k else i)) n=sumQ f n
 | 0,h=>absurd h (Nat.not_lt_zero _)
 | n+1,h=>by
  by_cases e:k+1=n
  ·subst e
   show sumQ _ k+f (if k=k then _ else _)+f (if k+1=k then _ else _)=sumQ f k+f k+f (k+1)
   rw[if_pos rfl,if_neg zo,if_pos rfl,zF k (g:=f) λi hi=>by rw[if_neg zo,if_neg zo]]
   grind
  ·show sumQ _ n+f (if n=k then _ else _)=sumQ f n+f n
   rw[sumQ_swap f n zo,if_neg zo,if_neg zo]
theorem cdet_eq0:∀(d n:Nat) (A:Nat->Nat->Rat) (k:Nat),k+d+1<n->(∀j,j<n->A k j=A (k+d+1) j)->cdet n A=0
 | 0,n,A,k,h,e=>by
  have h1:=cdet_adj n A k h
  have h2:cdet n (zB A k (k+1))=cdet n A:=yY n λi _ j hj=>by
   show A (if i=k then k+1 else if i=k+1 then k else i) j=A i j
   by_cases a:i=k
   ·rw[if_pos a,a];exact(e j hj).symm
   ·by_cases b:i=k+1
    ·rw[if_neg a,if_pos b,b];exact e j hj
    ·rw[if_neg a,if_neg b]
  grind
 | d+1,n,A,k,h,e=>by
  have h1:=cdet_adj n A (k+d+1) zo
  have h2:=cdet_eq0 d n (zB A (k+d+1) (k+d+1+1)) k zo λj hj=>by
   show A (if k=k+d+1 then _ else if k=k+d+1+1 then _ else k) j=A (if k+d+1=k+d+1 then _ else _) j
   rw[if_neg zo,if_neg zo,if_pos rfl]
   exact e j hj
  grind
theorem cdet_eq{n:Nat}{A:Nat->Nat->Rat}{k l:Nat}(hk:k<n)(hl:l<n)(hkl:k≠l)(e:∀j,j<n->A k j=A l j):cdet n A=0:=by
 by_cases h:k<l
 ·obtain⟨d,rfl⟩:∃d,l=k+d+1:=⟨l-k-1,by omega⟩
  exact cdet_eq0 d n A k hl e
 ·obtain⟨d,rfl⟩:∃d,k=l+d+1:=⟨k-l-1,by omega⟩
  exact cdet_eq0 d n A l hk λj hj=>(e j hj).symm
theorem setR_self{A:Nat->Nat->Rat}{r:Nat}:setR A r (A r)=A:=by
 funext i j
 show(if i=r then A r j else A i j)=A i j
 by_cases e:i=r
 ·rw[if_pos e,e]
 ·rw[if_neg e]
theorem cdet_addR{n:Nat}(A:Nat->Nat->Rat){r k:Nat}(t:Rat)(hr:r<n)(hk:k<n)(h:r≠k):cdet n (setR A r (λj=>A r j+t*A k j))=cdet n A:=by
 have h1:=cdet_lin n A r (A r) (A k) 1 t hr
 have h2:cdet n (setR A r (A k))=0:=cdet_eq hr hk h λj _=>by
  show(if r=r then _ else _)=(if k=r then _ else _)
  rw[if_pos rfl,if_neg (Ne.symm h)]
 have h3:setR A r (λj=>A r j+t*A k j)=setR A r (λj=>1*A r j+t*A k j):=by congr 1;funext j;grind
 rw[h3,h1,h2,setR_self];grind
theorem cdet_swap{n:Nat}(A:Nat->Nat->Rat){k l:Nat}(hk:k<n)(hl:l<n)(h:k≠l):cdet n (zB A k l)=-cdet n A:=by
 have S:∀x y x' y':Nat->Rat,cdet n (setR (setR A k x) l (λj=>1*y j+1*y' j))=1*cdet n (setR (setR A k x) l y)+1*cdet n (setR (setR A k x) l y'):=λx y _ y'=>cdet_lin n _ l y y' 1 1 hl
 have C:∀x y:Nat->Rat,setR (setR A k x) l y=setR (setR A l y) k x:=λx y=>by
  funext i j
  show(if i=l then y j else if i=k then x j else A i j)=(if i=k then x j else if i=l then y j else A i j)
  by_cases a:i=l
  ·subst a;rw[if_pos rfl,if_neg (Ne.symm h),if_pos rfl]
  ·rw[if_neg a,if_neg a]
 have Z:∀x:Nat->Rat,cdet n (setR (setR A k x) l x)=0:=λx=>cdet_eq hk hl h λj _=>by
  show(if k=l then _ else if k=k then _ else _)=(if l=l then _ else _)
  rw[if_neg h,if_pos rfl,if_pos rfl]
 have z:=λj=>(1:Rat)*A k j+1*A l j
 have e0:=Z (λj=>1*A k j+1*A l j)
 have e1:=cdet_lin n (setR A k (λj=>1*A k j+1*A l j)) l (A k) (A l) 1 1 hl
 have e2:∀y,cdet n (setR (setR A k (λj=>1*A k j+1*A l j)) l y)=cdet n (setR (setR A k (A k)) l y)+cdet n (setR (setR A k (A l)) l y):=λy=>by
  rw[C,cdet_lin n (setR A l y) k (A k) (A l) 1 1 hk,←C,←C];grind
 rw[e0,e2,e2,Z,Z,setR_self] at e1
 have e3:setR A l (A l)=A:=setR_self
 have e4:zB A k l=setR (setR A k (A l)) l (A k):=by
  funext i j
  show A (if i=k then l else if i=l then k else i) j=(if i=l then A k j else if i=k then A l j else A i j)
  by_cases a:i=k
  ·subst a;rw[if_pos rfl,if_neg h,if_pos rfl]
  ·by_cases b:i=l
   ·rw[if_neg a,if_pos b,if_pos b]
   ·rw[if_neg a,if_neg b,if_neg b,if_neg a]
 rw[e3] at e1
 rw[e4];grind
theorem cdet_mulR{n:Nat}(A:Nat->Nat->Rat){r:Nat}(t:Rat)(hr:r<n):cdet n (setR A r (λj=>t*A r j))=t*cdet n A:=by
 have h1:=cdet_lin n A r (A r) (A r) t 0 hr
 rw[setR_self] at h1
 have h3:setR A r (λj=>t*A r j)=setR A r (λj=>t*A r j+0*A r j):=by congr 1;funext j;grind
 rw[h3,h1];grind
def blk (c:Nat) (A:Nat->Nat->Rat):Nat->Nat->Rat:=λi j=>A (c+i) (c+j)
theorem cdet_col0{n:Nat}{A:Nat->Nat->Rat}(h:∀i,0<i->i<n+1->A i 0=0):cdet (n+1) A=A 0 0*cdet n (blk 1 A):=by
 show sumQ _ (n+1)=_
 rw[jF (k:=0) (n+1) zo (λi hi h0=>by rw[h i zo hi];grind)]
 have:yE A 0 0=blk 1 A:=by
  funext i j
  show A (skp 0 i) (skp 0 j)=A (1+i) (1+j)
  unfold skp;rw[if_neg (Nat.not_lt_zero i),if_neg (Nat.not_lt_zero j),Nat.add_comm,Nat.add_comm j]
 rw[this]
 show(1:Rat)*A 0 0*_=_
 grind
theorem cdet_zero0{n:Nat}{A:Nat->Nat->Rat}(h:∀i,i<n+1->A i 0=0):cdet (n+1) A=0:=by
 rw[cdet_col0 λi _ hi=>h i hi,h 0 zo];grind
def zI (B:Nat->Nat->Rat) (c h:Nat):Nat->Nat->Rat:=λi j=>if c<i/\i<h then B i j+-(B i c/B c c)*B c j else B i j
theorem elimQ_zero{B:Nat->Nat->Rat}{c i j:Nat}:B i j=zI B c (c+1) i j:=(if_neg zo).symm
theorem elimQ_at{B:Nat->Nat->Rat}{c h j:Nat}(hc:c<h):B h j+-(B h c/B c c)*B c j=zI B c (h+1) h j:=(if_pos ⟨hc,Nat.lt_succ_self h⟩).symm
theorem elimQ_ne{B:Nat->Nat->Rat}{c h i:Nat}(hi:i≠h):zI B c (h+1) i=zI B c h i:=by
 funext j
 unfold zI
 by_cases e:c<i/\i<h
 ·rw[if_pos e,if_pos ⟨e.1,by omega⟩]
 ·rw[if_neg e,if_neg λe'=>e ⟨e'.1,by omega⟩]
theorem jA{B:Nat->Nat->Rat}{c h i:Nat}(hi:i<=c):zI B c h i=B i:=by
 funext j;exact if_neg zo
theorem elimQ_end{B:Nat->Nat->Rat}{c h i:Nat}(hi:h<=i):zI B c h i=B i:=by
 funext j;exact if_neg zo
theorem elimQ_det{B:Nat->Nat->Rat}{c n:Nat}:∀d,c+1+d<=n->cdet (n-c) (blk c (zI B c (c+1+d)))=cdet (n-c) (blk c B)
 | 0,_=>yY _ λi _ j _=>(elimQ_zero (B:=B) (c:=c) (i:=c+i) (j:=c+j)).symm
 | d+1,h=>by
  refine Eq.trans ?_ (elimQ_det (B:=B) d zo)
  have h1:=cdet_addR (n:=n-c) (blk c (zI B c (c+1+d))) (r:=d+1) (k:=0) (-(B (c+(d+1)) c/B c c)) zo zo zo
  rw[←h1]
  refine yY _ λi hi j hj=>?_
  show zI B c (c+1+d+1) (c+i) (c+j)=(if i=d+1 then zI B c (c+1+d) (c+(d+1)) (c+j)+-(B (c+(d+1)) c/B c c)*zI B c (c+1+d) (c+0) (c+j) else zI B c (c+1+d) (c+i) (c+j))
  by_cases e:i=d+1
  ·subst e
   rw[if_pos rfl,elimQ_end (B:=B) (h:=c+1+d) (i:=c+(d+1)) zo,jA (B:=B) (h:=c+1+d) (i:=c+0) zo]
   exact if_pos ⟨by omega,by omega⟩
  ·rw[if_neg e,elimQ_ne zo]
theorem swap_det{B:Nat->Nat->Rat}{c k n:Nat}(hc:c<k)(hk:k<n):cdet (n-c) (blk c (zB B c k))=-cdet (n-c) (blk c B):=by
 rw[←cdet_swap (blk c B) (k:=0) (l:=k-c) zo zo zo]
 refine yY _ λi _ j _=>?_
 show B (if c+i=c then k else if c+i=k then c else c+i) (c+j)=B (c+(if i=0 then k-c else if i=k-c then 0 else i)) (c+j)
 congr 1
 by_cases a:i=0
 ·rw[if_pos zo,if_pos a];omega
 ·by_cases b:i=k-c
  ·rw[if_neg zo,if_pos zo,if_neg a,if_pos b];rfl
  ·rw[if_neg zo,if_neg zo,if_neg a,if_neg b]
theorem det_none{B:Nat->Nat->Rat}{c n:Nat}{o:Rat}(hc:c<n)(h:∀i,c<=i->i<n->B i c=0):o*cdet (n-c) (blk c B)=0:=by
 obtain⟨m,hm⟩:∃m,n-c=m+1:=⟨n-c-1,by omega⟩
 rw[hm,cdet_zero0 λi hi=>h (c+i) zo zo];grind
theorem det_step{B:Nat->Nat->Rat}{c n:Nat}{o D:Rat}(hc:c<n)(hp:B c c≠0)(h:o*cdet (n-c) (blk c B)=D):o*B c c*cdet (n-(c+1)) (blk (c+1) (zI B c n))=D:=by
 obtain⟨m,hm⟩:∃m,n-c=m+1:=⟨n-c-1,by omega⟩
 have h1:=elimQ_det (B:=B) (c:=c) (n:=n) (n-c-1) zo
 rw[show c+1+(n-c-1)=n by omega,hm,cdet_col0 λi h0 hi=>by
  show zI B c n (c+i) (c+0)=0
  unfold zI
  rw[if_pos ⟨by omega,by omega⟩]
  show B (c+i) c+-(B (c+i) c/B c c)*B c c=0
  rw[Rat.neg_mul,Rat.div_mul_cancel hp];grind] at h1
 have h2:blk c (zI B c n) 0 0=B c c:=by show zI B c n (c+0) (c+0)=_;rw[jA zo];rfl
 have h3:cdet m (blk 1 (blk c (zI B c n)))=cdet (n-(c+1)) (blk (c+1) (zI B c n)):=by
  rw[show n-(c+1)=m by omega]
  refine yY _ λi _ j _=>?_
  show zI B c n (c+(1+i)) (c+(1+j))=zI B c n (c+1+i) (c+1+j)
  rw[Nat.add_assoc,Nat.add_assoc]
 rw[h2,h3] at h1
 rw[←h,hm,←h1];grind
def yK (B:Nat->Nat->Rat) (c:Nat):Nat->Nat->Nat
 | a,0=>a
 | a,d+1=>if B a c=0 then yK B c (a+1) d else a
theorem leadK_le{B:Nat->Nat->Rat}{c:Nat}:∀d a,a<=yK B c a d/\yK B c a d<=a+d
 | 0,a=>⟨Nat.le_refl a,Nat.le_refl a⟩
 | d+1,a=>by
  unfold yK
  split
  ·have:=leadK_le (B:=B) (c:=c) d (a+1);omega
  ·omega
theorem leadK_at{B:Nat->Nat->Rat}{c:Nat}:∀d a,yK B c a d<a+d->B (yK B c a d) c≠0
 | 0,a,h=>absurd h (Nat.lt_irrefl a)
 | d+1,a,h=>by
  unfold yK at h⊢
  split
  ·rename_i e;rw[if_pos e] at h;exact leadK_at d (a+1) zo
  ·assumption
theorem leadK_none{B:Nat->Nat->Rat}{c:Nat}:∀d a i,a<=i->i<yK B c a d->B i c=0
 | 0,a,i,h,h2=>absurd h2 (Nat.not_lt.2 h)
 | d+1,a,i,h,h2=>by
  unfold yK at h2
  split at h2
  ·rename_i e
   by_cases q:i=a
   ·rw[q];exact e
   ·exact leadK_none d (a+1) i zo h2
  ·omega
theorem leadK_eq{B:Nat->Nat->Rat}{c:Nat}:∀d a k,a<=k->k<=a+d->(∀i,a<=i->i<k->B i c=0)->(k<a+d->B k c≠0)->yK B c a d=k
 | 0,a,k,h,h2,_,_=>by show a=k;omega
 | d+1,a,k,h,h2,h3,h4=>by
  unfold yK
  split
  ·rename_i e
   have:a≠k:=λq=>h4 zo (by rw[←q];exact e)
   exact leadK_eq d (a+1) k zo zo (λi hi=>h3 i zo) (λhk=>h4 zo)
  ·rename_i e
   by_cases q:a=k
   ·exact q
   ·exact absurd (h3 a (Nat.le_refl a) zo) e
def scaleQ (B:Nat->Nat->Rat) (a c:Nat):Nat->Nat->Rat:=setR B a (λj=>(B a c)⁻¹*B a j)
def clearQ (B:Nat->Nat->Rat) (a c:Nat):Nat->Nat->Rat:=λr j=>if r=a then B a j else B r j+-(B r c)*B a j
abbrev RedS:=(Nat->Nat->Rat)×Nat×(Nat->Nat)
def redStep (m:Nat) (s:RedS) (c:Nat):RedS:=
 if yK s.1 c s.2.1 (m-s.2.1)<m then(clearQ (scaleQ (zB s.1 s.2.1 (yK s.1 c s.2.1 (m-s.2.1))) s.2.1 c) s.2.1 c,s.2.1+1,λi=>if i=s.2.1 then c else s.2.2 i) else s
def red (m:Nat) (A:Nat->Nat->Rat):Nat->RedS
 | 0=>(A,0,λ_=>0)
 | c+1=>redStep m (red m A c) c
def Spn (m:Nat) (B:Nat->Nat->Rat) (x:Nat->Rat):Prop:=∃t:Nat->Rat,∀j,x j=sumQ (λk=>t k*B k j) m
theorem Spn.self{m:Nat}{B:Nat->Nat->Rat}{r:Nat}(hr:r<m):Spn m B (B r):=⟨λk=>if k=r then 1 else 0,λj=>by
 rw[jF (k:=r) m hr λi _ hi=>by show(if i=r then(1:Rat) else 0)*B i j=0;rw[if_neg hi];grind]
 show B r j=(if r=r then(1:Rat) else 0)*B r j
 rw[if_pos rfl];grind⟩
theorem Spn.lin{m:Nat}{B:Nat->Nat->Rat}{x y:Nat->Rat}(s t:Rat)(hx:Spn m B x)(hy:Spn m B y):Spn m B (λj=>s*x j+t*y j):=by
 obtain⟨u,hu⟩:=hx
 obtain⟨v,hv⟩:=hy
 refine⟨λk=>s*u k+t*v k,λj=>?_⟩
 show s*x j+t*y j=sumQ (λk=>(s*u k+t*v k)*B k j) m
 rw[hu,hv,←yT,←yT,←sumQ_add]
 exact zF m λi _=>by grind
theorem Spn.sum{m p:Nat}{B:Nat->Nat->Rat}{X:Nat->Nat->Rat}{t:Nat->Rat}(h:∀k,k<p->Spn m B (X k)):Spn m B (λj=>sumQ (λk=>t k*X k j) p):=by
 induction p with
 | zero=>exact⟨λ_=>0,λj=>by show 0=sumQ (λk=>0*B k j) m;rw[zF m (g:=λ_=>0) λi _=>by grind,kK]⟩
 | succ p ih=>
  have h1:=Spn.lin 1 (t p) (ih λk hk=>h k zo) (h p zo)
  obtain⟨u,hu⟩:=h1
  exact⟨u,λj=>by rw[←hu];show sumQ (λk=>t k*X k j) p+t p*X p j=_;grind⟩
theorem Spn.trans{m p:Nat}{B C:Nat->Nat->Rat}{x:Nat->Rat}(hx:Spn p C x)(h:∀k,k<p->Spn m B (C k)):Spn m B x:=by
 obtain⟨t,ht⟩:=hx
 obtain⟨u,hu⟩:=Spn.sum (t:=t) h
 exact⟨u,λj=>(ht j).trans (hu j)⟩
def Same2 (m:Nat) (A B:Nat->Nat->Rat):Prop:=(∀r,r<m->Spn m B (A r))/\∀r,r<m->Spn m A (B r)
theorem Same2.rfl{m:Nat}{A:Nat->Nat->Rat}:Same2 m A A:=⟨λ_ h=>.self h,λ_ h=>.self h⟩
theorem Same2.trans{m:Nat}{A B C:Nat->Nat->Rat}(h:Same2 m A B)(k:Same2 m B C):Same2 m A C:=⟨λr hr=>(h.1 r hr).trans k.1,λr hr=>(k.2 r hr).trans h.2⟩
structure RedInv (m:Nat) (A:Nat->Nat->Rat) (c:Nat) (s:RedS):Prop where
 am:s.2.1<=m
 ac:s.2.1<=c
 lt:∀i,i<s.2.1->s.2.2 i<c
 inc:∀i j,i<j->j<s.2.1->s.2.2 i<s.2.2 j
 one:∀i,i<s.2.1->s.1 i (s.2.2 i)=1
 zero:∀i,i<s.2.1->∀r,r<m->r≠i->s.1 r (s.2.2 i)=0
 left:∀i,i<s.2.1->∀j,j<s.2.2 i->s.1 i j=0
 low:∀r,s.2.1<=r->r<m->∀j,j<c->s.1 r j=0
 same:Same2 m A s.1
theorem sumQ_cut{f:Nat->Rat}{a:Nat}:∀m,a<=m->(∀k,a<=k->k<m->f k=0)->sumQ f m=sumQ f a
 | 0,h,_=>by rw[Nat.le_zero.1 h]
 | m+1,h,hz=>by
  by_cases e:a=m+1
  ·rw[e]
  ·show sumQ f m+f m=_
   rw[sumQ_cut m zo (λk h1 h2=>hz k h1 zo),hz m zo zo];grind
theorem RedInv.row{m n:Nat}{A:Nat->Nat->Rat}{s:RedS}(H:RedInv m A n s){r:Nat}(hr:r<m):∀j,j<n->A r j=sumQ (λk=>A r (s.2.2 k)*s.1 k j) s.2.1:=by
 obtain⟨t,ht⟩:=H.same.1 r hr
 have h1:∀j,j<n->A r j=sumQ (λk=>t k*s.1 k j) s.2.1:=λj hj=>by
  rw[ht,sumQ_cut m H.am λk h1 h2=>by rw[H.low k h1 h2 j hj];grind]
 intro j hj
 rw[h1 j hj]
 refine zF _ λk hk=>?_
 have hl:=H.lt k hk
 rw[h1 _ hl,jF (k:=k) _ hk λi hi hne=>by rw[H.zero k hk i (Nat.lt_of_lt_of_le hi H.am) hne];grind,H.one k hk];grind
theorem RedInv.inj{m n:Nat}{A:Nat->Nat->Rat}{s:RedS}(H:RedInv m A n s){i k:Nat}(hi:i<s.2.1)(hk:k<s.2.1)(e:s.2.2 i=s.2.2 k):i=k:=by
 rcases Nat.lt_trichotomy i k with h | h | h
 ·have:=H.inc i k h hk;omega
 ·exact h
 ·have:=H.inc k i h hi;omega
theorem RedInv.free{m n:Nat}{A:Nat->Nat->Rat}{s:RedS}(H:RedInv m A n s)(hn:s.2.1<n):∃c,c<n/\∀i,i<s.2.1->s.2.2 i≠c:=by
 refine Classical.byContradiction λhc=>?_
 have all:∀c,c<n->∃i,i<s.2.1/\s.2.2 i=c:=λc hcn=>Classical.byContradiction λk=>hc ⟨c,hcn,λi hi e=>k ⟨i,hi,e⟩⟩
 have key:∀c,c<n->c<s.2.1/\s.2.2 c=c:=by
  intro c
  induction c using Nat.strongRecOn with
  | _ c ih=>
   intro hcn
   obtain⟨i,hi,e⟩:=all c hcn
   rcases Nat.lt_trichotomy i c with q | q | q
   ·have:=(ih i q zo).2;omega
   ·subst q;exact⟨hi,e⟩
   ·have h1:=H.inc c i q hi
    by_cases c0:c=0
    ·omega
    ·have h2:=(ih (c-1) zo zo).2
     have h3:=H.inc (c-1) c zo zo
     omega
 have:=(key s.2.1 hn).1
 omega
theorem rat_mul_ne{x y:Rat}(hx:x≠0)(hy:y≠0):x*y≠0:=λh=>(Rat.mul_eq_zero.1 h).elim hx hy
def wideQ (n:Nat) (q:Nat->Nat->Rat) (b:Nat->Rat):Nat->Nat->Rat:=λr j=>if j<n then q r j else b r
def noSol (m n:Nat) (q:Nat->Nat->Rat) (b:Nat->Rat):Prop:=yK (red m (wideQ n q b) n).1 n (red m (wideQ n q b) n).2.1 (m-(red m (wideQ n q b) n).2.1)<m
instance (m n:Nat) (q:Nat->Nat->Rat) (b:Nat->Rat):Decidable (noSol m n q b):=inferInstanceAs (Decidable (_<_))
theorem Spn.rel{m n:Nat}{A:Nat->Nat->Rat}{w x:Nat->Rat}(h:∀r,r<m->A r n=sumQ (λj=>A r j*w j) n)(hx:Spn m A x):x n=sumQ (λj=>x j*w j) n:=by
 obtain⟨t,ht⟩:=hx
 rw[ht n,zF m (g:=λk=>sumQ (λj=>t k*(A k j*w j)) n) λk hk=>by rw[h k hk,yT],sumQ_comm (λk j=>t k*(A k j*w j)) n m]
 refine zF n λj _=>?_
 rw[ht j]
 have:sumQ (λk=>t k*A k j) m*w j=w j*sumQ (λk=>t k*A k j) m:=by grind
 rw[this,←yT]
 exact zF m λk _=>by grind
def putC (A:Nat->Nat->Rat) (c:Nat) (b:Nat->Rat):Nat->Nat->Rat:=λi j=>if j=c then b i else A i j
theorem cdet_trM(n:Nat)(A:Nat->Nat->Rat):cdet n (trM A)=cdet n A:=by rw[←xL,det_tr]
theorem cdet_sumR{n:Nat}(A:Nat->Nat->Rat){r:Nat}(hr:r<n)(X:Nat->Nat->Rat)(t:Nat->Rat):∀m,cdet n (setR A r (λj=>sumQ (λk=>t k*X k j) m))=sumQ (λk=>t k*cdet n (setR A r (X k))) m
 | 0=>by
  have h:=cdet_mulR (setR A r (λ_=>0)) 0 hr
  show cdet n (setR A r λ_=>0)=0
  rw[yY n (B:=setR A r λ_=>0) λi _ j _=>by
   unfold setR
   split
   ·dsimp only;rw[if_pos rfl];grind
   ·rfl] at h
  rw[h];grind
 | m+1=>by
  have h:=cdet_lin n A r (λj=>sumQ (λk=>t k*X k j) m) (X m) 1 (t m) hr
  have ih:=cdet_sumR A hr X t m
  show cdet n (setR A r (λj=>sumQ (λk=>t k*X k j) m+t m*X m j))=sumQ (λk=>t k*cdet n (setR A r (X k))) m+t m*cdet n (setR A r (X m))
  rw[←ih]
  have e:(λj=>sumQ (λk=>t k*X k j) m+t m*X m j)=λj=>1*sumQ (λk=>t k*X k j) m+t m*X m j:=by funext j;grind
  rw[e,h];grind
theorem cramer{n:Nat}{A:Nat->Nat->Rat}{b x:Nat->Rat}(h:∀r,r<n->sumQ (λj=>A r j*x j) n=b r){c:Nat}(hc:c<n):cdet n (putC A c b)=x c*cdet n A:=by
 rw[←cdet_trM n (putC A c b),←cdet_trM n A]
 rw[yY n (A:=trM (putC A c b)) (B:=setR (trM A) c (λj=>sumQ (λk=>x k*trM A k j) n)) λi _ j hj=>by
  show(if i=c then b j else A j i)=if i=c then sumQ (λk=>x k*A j k) n else A j i
  split
  ·rw[←h j hj];exact zF n λk _=>by grind
  ·rfl]
 rw[cdet_sumR _ hc,jF (k:=c) n hc λk hk hkc=>by
  rw[cdet_eq (k:=c) (l:=k) hc hk (Ne.symm hkc) λj _=>by
   show(if c=c then trM A k j else _)=if k=c then _ else trM A k j
   rw[if_pos rfl,if_neg hkc]]
  grind]
 rw[setR_self]
open Go.RowKit
def delI (k c:Nat):Nat:=if c<k then c else c+1
theorem CallOKm.cut [Fz]{P:Program}{f:FuncId}{c:Hl}{T:TypeId}{s n r i:Nat}{E:Nat->SV}(cal:yJ P f)(hg:c.get i=some (.row T s E n))(hr:r<n)
  (hraw : ∀ (g cc : Nat) (cs : Array Value) (w : World), Blk w g T cs -> cs.size = s * cc -> (∀ j u, j < s * n -> cs[j]? = some u -> u.oneCell' = true) -> n <= cc ->
   Calls P f #[.slice (some ⟨g,0,none⟩) n cc,.int .i64 ((r:Nat):Int),.int .i64 ((r+1:Nat):Int)] w λe w'=>e=.returned (.slice (some ⟨g,0,none⟩) (r+(n-(r+1))) cc)/\Put w w' g/\∃cs':Array Value,Blk w' g T cs'/\cs'.size=cs.size/\∀t,t<s*(r+(n-(r+1)))->cs'[t]?=cs[if t<s*r then t else t+s*(r+1-r)]?):
  CallOKm P f [c] [.own 0 i,.ex (.int .i64 ((r:Nat):Int)),.ex (.int .i64 ((r+1:Nat):Int))] (.own 1 0) [c.kill i,.one (.row T s (λt=>E (delI r t)) (n-1))]:=by
 refine⟨cal,λη0 M F w vals H hA=>?_⟩
 match vals,hA with
 | [v0,v1,v2],hA=>
  obtain⟨hA0,e1,e2,_⟩:=hA
  obtain rfl:=e1
  obtain rfl:=e2
  have hk:(zM 0 [c] 0).get i=some (.row T s E n):=hg
  obtain⟨hd,e,hok⟩:=H.ob 0 i _ hk
  rw[hA0.1] at e
  obtain rfl:=Option.some.inj e
  obtain⟨A0,cc,rfl,h1,h2,hT,h3⟩:=hok
  rcases h3 with⟨_,h5,_⟩ | ⟨g,cs,rfl,hB,hcs,hel⟩
  ·omega
  have hcell:∀j u,j<s*n->cs[j]?=some u->u.oneCell'=true:=λj u hj hu=>by
   have hs:0<s:=Nat.pos_of_ne_zero λe=>by rw[e,Nat.zero_mul] at hj;omega
   obtain⟨e0,⟨q1,q2⟩,_,q4⟩:=hel (j/s) (Nat.div_lt_of_lt_mul hj)
   have hm:j%s<e0.cells.size:=by rw[q1];exact Nat.mod_lt _ hs
   have h4:=q4 (j%s) e0.cells[j%s] (Array.getElem?_eq_getElem hm)
   rw[hB.cell,Nat.div_add_mod,hu] at h4
   rw[Option.some.inj h4]
   exact q2 _ (Array.getElem_mem_toList hm)
  refine(hraw g cc cs w hB hcs hcell h1).mono λe w'=>?_
  rintro⟨rfl,hP,cs',hB',hcs',hc'⟩
  have hok':∀η' A',Keep η0 η' (Av F (zM 0 [c]) η0) A' w w'->(OB.row T s (λt=>E (delI r t)) (n-1)).ok η' A' w' (.slice (some ⟨g,0,none⟩) (r+(n-(r+1))) cc):=λη' A' K=>by
   refine⟨some ⟨g,0,none⟩,cc,by rw[show r+(n-(r+1))=n-1 by omega],by omega,h2,hT,.inr ⟨g,cs',rfl,hB',hcs'.trans hcs,λt ht=>?_⟩⟩
   obtain⟨e0,q1,q3,q4⟩:=hel (delI r t) (by unfold delI;split<;>omega)
   refine⟨e0,q1,SV.keep K _ _ q3,λj u hj=>?_⟩
   have h4:=q4 j u hj
   have hjs:j<s:=by rw[←q1.1];exact(Array.getElem?_eq_some_iff.1 hj).1
   have hlt:s*t+j<s*(r+(n-(r+1))):=by
    have:=Nat.mul_le_mul_left s (show t+1<=r+(n-(r+1)) by omega)
    rw[Nat.mul_succ] at this
    omega
   rw[hB.cell] at h4
   rw[hB'.cell,hc' _ hlt]
   by_cases k:t<r
   ·have:s*t+j<s*r:=by
     have:=Nat.mul_le_mul_left s (show t+1<=r from k)
     rw[Nat.mul_succ] at this
     omega
    unfold delI at h4
    rw[if_pos k] at h4
    rw[if_pos this];exact h4
   ·have:¬s*t+j<s*r:=by
     have:=Nat.mul_le_mul_left s (show r<=t by omega)
     omega
    unfold delI at h4
    rw[if_neg k,Nat.mul_succ] at h4
    rw[if_neg this,show r+1-r=1 by omega,Nat.mul_one,show s*t+j+s=s*t+s+j by omega];exact h4
  obtain⟨t1,t2⟩:=H.turn (k:=0) (k':=1) (o':=.row T s (λt=>E (delI r t)) (n-1)) (h':=.slice (some ⟨g,0,none⟩) (r+(n-(r+1))) cc) hk hA0.1 rfl (by rw[hP.size];exact Nat.le_refl _) (λb _ hb=>hP.other b λe=>hb (by rw[e];rfl)) hP.os hP.tape hP.output (λb hb=>.inl hb) λK=>hok' _ _ K
  have eo:zY (zY (zM 0 [c]) 0 ((zM 0 [c] 0).kill i)) 1 (.one (.row T s (λt=>E (delI r t)) (n-1)))=zM 0 [c.kill i,.one (.row T s (λt=>E (delI r t)) (n-1))]:=funext λk=>by
   match k with
   | 0=>rfl
   | 1=>rfl
   | k+2=>rfl
  rw[eo] at t1 t2
  refine⟨_,_,rfl,t1,⟨by unfold yO;rw[if_pos rfl];rfl,rfl⟩,λk hk i v hv=>?_⟩
  have hk:k<1:=hk
  unfold yO at hv
  rw[if_neg zo] at hv
  exact hv
def htq (q:Rat):Nat:=max (nw q.num.natAbs) (nw q.den)
theorem xP(q:Rat):szq q<=2*htq q:=by unfold htq szq;omega
theorem ht_divInt(a b:Int)(hb:b≠0):htq (Rat.divInt a b)<=max (nw a.natAbs) (nw b.natAbs):=by
 unfold htq
 rw[new_den a b hb,new_num a b hb]
 have e:∀(s:Bool) (x:Nat),(signed s x).natAbs=x:=λs x=>by cases s<;>simp[signed]
 rw[e]
 have h1:=kU (Nat.div_le_self a.natAbs (Nat.gcd a.natAbs b.natAbs))
 have h2:=kU (Nat.div_le_self b.natAbs (Nat.gcd a.natAbs b.natAbs))
 omega
theorem uG(p q:Rat):htq (p*q)<=htq p+htq q:=by
 rw[mul_as]
 have h:=ht_divInt (p.num*q.num) ((p.den*q.den:Nat):Int) (den2_ne p q)
 rw[Int.natAbs_mul,Int.natAbs_natCast] at h
 have h1:=xN p.num.natAbs q.num.natAbs
 have h2:=xN p.den q.den
 unfold htq at*
 omega
theorem ht_add(p q:Rat):htq (p+q)<=htq p+htq q+1:=by
 rw[add_as]
 have h:=ht_divInt (p.num*q.den+q.num*p.den) ((p.den*q.den:Nat):Int) (den2_ne p q)
 rw[Int.natAbs_natCast] at h
 have h0:=kU (natAbs_add_nat (p.num*q.den) (q.num*p.den))
 rw[Int.natAbs_mul,Int.natAbs_mul,Int.natAbs_natCast,Int.natAbs_natCast] at h0
 have h3:=nw_add (p.num.natAbs*q.den) (q.num.natAbs*p.den)
 have h4:=xN p.num.natAbs q.den
 have h5:=xN q.num.natAbs p.den
 have h2:=xN p.den q.den
 unfold htq at*
 omega
theorem ht_neg(p:Rat):htq (-p)=htq p:=by unfold htq;rw[Rat.neg_num,Rat.neg_den,Int.natAbs_neg]
theorem ht_zero:htq 0=1:=by decide+kernel
theorem ht_one:htq 1=1:=by decide+kernel
theorem ht_inv(p:Rat):htq p⁻¹<=htq p:=by
 by_cases h:p=0
 ·rw[h,Rat.inv_zero];exact Nat.le_refl _
 ·rw[Rat.inv_def]
  have h1:p.num≠0:=λe=>h (Rat.num_eq_zero.1 e)
  have:=ht_divInt p.den p.num h1
  rw[Int.natAbs_natCast] at this
  unfold htq at*
  omega
theorem ht_sub(p q:Rat):htq (p-q)<=htq p+htq q+1:=by
 have:=ht_add p (-q)
 rw[ht_neg] at this
 rw[Rat.sub_eq_add_neg];exact this
theorem ht_div(p q:Rat):htq (p/q)<=htq p+htq q:=by
 rw[Rat.div_def]
 have:=uG p q⁻¹
 have:=ht_inv q
 omega
theorem ht_dot{a b:Nat->Rat}{S T:Nat}:∀n,(∀i,i<n->htq (a i)<=S)->(∀i,i<n->htq (b i)<=T)->htq (dotQ a b n)<=n*(S+T+1)+1
 | 0,_,_=>by show htq 0<=_;rw[ht_zero];omega
 | n+1,ha,hb=>by
  have ih:=ht_dot n (λi hi=>ha i zo) (λi hi=>hb i zo)
  have h1:=ht_add (dotQ a b n) (a n*b n)
  have h2:=uG (a n) (b n)
  have h3:=ha n zo
  have h4:=hb n zo
  show htq (dotQ a b n+a n*b n)<=_
  rw[Nat.add_mul]
  omega
theorem ht_room2{a b r:Rat}{S:Nat}(ha:htq a<=S)(hb:htq b<=S)(hr:htq r<=S)(hS:S<=1073741824):szq r+szq b<=17179869184/\szq a+szq (r*b)<=17179869184:=by
 have:=xP a
 have:=xP b
 have:=xP r
 have:=xP (r*b)
 have:=uG r b
 omega
def hE (s c:Nat):Nat:=(s+1)*4^c
theorem hE_succ(s c:Nat):hE s (c+1)=4*hE s c:=by unfold hE;rw[Nat.pow_succ,←Nat.mul_assoc,Nat.mul_comm]
theorem hE_zero(s:Nat):hE s 0=s+1:=by unfold hE;omega
def HtB (m n B:Nat) (A:Nat->Nat->Rat):Prop:=∀i,i<m->∀j,j<n->htq (A i j)+1<=B
theorem HtB.swap{m n B k l:Nat}{A:Nat->Nat->Rat}(hk:k<m)(hl:l<m)(h:HtB m n B A):HtB m n B (zB A k l):=λi hi j hj=>by
 show htq (A (if i=k then l else if i=l then k else i) j)+1<=B
 refine h _ ?_ j hj
 split
 ·exact hl
 ·split
  ·exact hk
  ·exact hi
theorem HtB.scale{m n B a c:Nat}{A:Nat->Nat->Rat}(ha:a<m)(hc:c<n)(h:HtB m n B A){j:Nat}(hj:j<n):htq ((A a c)⁻¹*A a j)+2<=2*B:=by
 have h1:=h a ha c hc
 have h2:=h a ha j hj
 have h3:=uG (A a c)⁻¹ (A a j)
 have h4:=ht_inv (A a c)
 omega
theorem HtB.clear{m n B a c:Nat}{A:Nat->Nat->Rat}(ha:a<m)(hc:c<n)(h:HtB m n B A):HtB m n (4*B) (clearQ (scaleQ A a c) a c):=λi hi j hj=>by
 have h1:=h.scale ha hc hj
 unfold clearQ scaleQ setR
 dsimp only
 rw[if_pos rfl]
 split
 ·omega
 ·have h2:=h i hi j hj
  have h3:=h i hi c hc
  have h4:=ht_add (A i j) (-(A i c)*((A a c)⁻¹*A a j))
  have h5:=uG (-(A i c)) ((A a c)⁻¹*A a j)
  rw[ht_neg] at h5
  omega
def szE (s c:Nat):Nat:=(s+3)*9^c
theorem szE_succ(s c:Nat):szE s (c+1)=9*szE s c:=by unfold szE;rw[Nat.pow_succ,←Nat.mul_assoc,Nat.mul_comm]
theorem szE_ge(s c:Nat):s+3<=szE s c:=by
 unfold szE
 exact Nat.le_mul_of_pos_right _ (Nat.pow_pos (by decide))
structure DetI (s n:Nat) (q:Nat->Nat->Rat) (g:Nat×(Nat->Nat->Rat)×Rat):Prop where
 le:g.1<=n
 eq:g.2.2*cdet (n-g.1) (blk g.1 g.2.1)=cdet n q
 sz:∀i,i<n->∀j,j<n->szq (g.2.1 i j)<=szE s g.1
 so:szq g.2.2<=2+g.1*szE s g.1
theorem blk_zero(A:Nat->Nat->Rat):blk 0 A=A:=by
 funext i j
 show A (0+i) (0+j)=A i j
 rw[Nat.zero_add,Nat.zero_add]
theorem DetI.start{s n:Nat}{q:Nat->Nat->Rat}(hs:∀i,i<n->∀j,j<n->szq (q i j)<=s):DetI s n q (0,q,1):=
 ⟨Nat.zero_le n,by show(1:Rat)*cdet (n-0) (blk 0 q)=_;rw[blk_zero,Nat.sub_zero];grind,λi hi j hj=>Nat.le_trans (hs i hi j hj) (by have:=szE_ge s 0;show s<=szE s 0;omega),by show szq 1<=2+0*_;rw[Nat.zero_mul];decide+kernel⟩
theorem setR_ne{A:Nat->Nat->Rat}{r t:Nat}{x:Nat->Rat}(h:t≠r):setR A r x t=A t:=by funext j;exact if_neg h
theorem swap_self{A:Nat->Nat->Rat}{k:Nat}:zB A k k=A:=by
 funext i j
 show A (if i=k then k else if i=k then k else i) j=A i j
 by_cases z:i=k
 ·rw[if_pos z,z]
 ·rw[if_neg z,if_neg z]
theorem swap_sz{A:Nat->Nat->Rat}{k l n B:Nat}(hk:k<n)(hl:l<n)(h:∀i,i<n->∀j,j<n->szq (A i j)<=B):∀i,i<n->∀j,j<n->szq (zB A k l i j)<=B:=λi hi j hj=>by
 show szq (A (if i=k then l else if i=l then k else i) j)<=B
 refine h _ ?_ j hj
 split
 ·exact hl
 ·split
  ·exact hk
  ·exact hi
theorem elim_sz1{a b c d:Rat}{S:Nat}(h0:3<=S)(ha:szq a<=S)(hb:szq b<=S)(hc:szq c<=S)(hd:szq d<=S):szq (b/c)<=2*S+1/\szq (-(b/c)*d)<=3*S+1/\szq (a+-(b/c)*d)<=9*S:=by
 have h1:szq (b/c)<=2*S+1:=by
  rw[Rat.div_def]
  have:=szq_mul b c⁻¹
  have:=szq_inv c
  omega
 have h2:szq (-(b/c)*d)<=3*S+1:=by
  have:=szq_mul (-(b/c)) d
  rw[szq_neg] at this
  omega
 have h3:=szq_add a (-(b/c)*d)
 exact⟨h1,h2,by omega⟩
theorem elim_szB{B:Nat->Nat->Rat}{c h n S:Nat}(h0:3<=S)(hc:c<n)(hB:∀i,i<n->∀j,j<n->szq (B i j)<=S):∀i,i<n->∀j,j<n->szq (zI B c h i j)<=9*S:=λi hi j hj=>by
 unfold zI
 split
 ·exact(elim_sz1 h0 (hB i hi j hj) (hB i hi c hc) (hB c hc c hc) (hB c hc j hj)).2.2
 ·have:=hB i hi j hj;omega
theorem DetI.next{s n K:Nat}{q:Nat->Nat->Rat}{g:Nat×(Nat->Nat->Rat)×Rat}(H:DetI s n q g)(hc:g.1<n)(h1:g.1<=K)(h2:K<n)(hp:g.2.1 K g.1≠0):
  DetI s n q (g.1+1,zI (zB g.2.1 g.1 K) g.1 n,(if K=g.1 then g.2.2 else-g.2.2)*zB g.2.1 g.1 K g.1 g.1):=by
 have hsw:=swap_sz hc h2 H.sz
 have h0:3<=szE s g.1:=by have:=szE_ge s g.1;omega
 have hpp:zB g.2.1 g.1 K g.1 g.1≠0:=by
  show g.2.1 (if g.1=g.1 then K else _) g.1≠0
  rw[if_pos rfl];exact hp
 refine⟨hc,?_,λi hi j hj=>?_,?_⟩
 ·refine det_step hc hpp ?_
  by_cases e:K=g.1
  ·subst e;rw[if_pos rfl,swap_self];exact H.eq
  ·rw[if_neg e,swap_det zo h2,←H.eq];grind
 ·rw[szE_succ];exact elim_szB h0 hc hsw i hi j hj
 ·show szq (_*_)<=2+(g.1+1)*szE s (g.1+1)
  have h3:=szq_mul (if K=g.1 then g.2.2 else-g.2.2) (zB g.2.1 g.1 K g.1 g.1)
  have h4:szq (if K=g.1 then g.2.2 else-g.2.2)=szq g.2.2:=by split;rfl;exact szq_neg _
  have h5:=hsw g.1 hc g.1 hc
  have h6:=H.so
  rw[szE_succ,Nat.add_mul,Nat.one_mul]
  have h7:g.1*szE s g.1<=g.1*(9*szE s g.1):=Nat.mul_le_mul_left _ zo
  omega
theorem DetI.none{s n:Nat}{q:Nat->Nat->Rat}{g:Nat×(Nat->Nat->Rat)×Rat}(H:DetI s n q g)(hc:g.1<n)(h:yK g.2.1 g.1 g.1 (n-g.1)=n):cdet n q=0:=by
 rw[←H.eq]
 exact det_none hc λi h1 h2=>leadK_none _ _ i h1 (by rw[h];exact h2)
theorem DetI.done{s n:Nat}{q:Nat->Nat->Rat}{g:Nat×(Nat->Nat->Rat)×Rat}(H:DetI s n q g)(h:g.1=n):g.2.2=cdet n q:=by
 rw[←H.eq,h,Nat.sub_self]
 show _=g.2.2*1
 grind
open Go.RowKit
theorem leadK_step{q:Nat->Nat->Rat}{m g c:Nat}(hg:g<m)(hz:q g c=0):yK q c g (m-g)=yK q c (g+1) (m-(g+1)):=by
 rw[show m-g=(m-(g+1))+1 by omega]
 exact if_pos hz
theorem swap_at{A:Nat->Nat->Rat}{a k c:Nat}:A a c=zB A a k k c:=by
 show A a c=A (if k=a then k else if k=k then a else k) c
 by_cases e:k=a
 ·rw[if_pos e,e]
 ·rw[if_neg e,if_pos rfl]
theorem swap_other{A:Nat->Nat->Rat}{a k t:Nat}(h:t≠k):zB A a k t=setR A a (A k) t:=by
 funext j
 show A (if t=a then k else if t=k then a else t) j=if t=a then A k j else A t j
 by_cases e:t=a
 ·rw[if_pos e,if_pos e]
 ·rw[if_neg e,if_neg h,if_neg e]
theorem of_guard{P:Prop} [Decidable P](h:(decide P==true)=true):P:=by simpa using h
theorem swap_same{A:Nat->Nat->Rat}{a k i j:Nat}(h:k=a):zB A a k i j=A i j:=by rw[h,swap_self]
theorem elim_now{B:Nat->Nat->Rat}{c h j:Nat}(hc:c<h):zI B c h h j+-(zI B c h h c/zI B c h c c)*zI B c h c j=zI B c (h+1) h j:=by
 rw[elimQ_end (Nat.le_refl h),jA (Nat.le_refl c)]
 exact elimQ_at hc
def sw (c k i:Nat):Nat:=if i=c then k else if i=k then c else i
theorem sw_sw(c k i:Nat):sw c k (sw c k i)=i:=by
 unfold sw
 by_cases h:i=c
 ·rw[if_pos h]
  by_cases e:k=c
  ·rw[if_pos e];omega
  ·rw[if_neg e,if_pos rfl];omega
 ·rw[if_neg h]
  by_cases e:i=k
  ·rw[if_pos e,if_pos rfl];omega
  ·rw[if_neg e,if_neg h,if_neg e]
theorem sw_lt{c k i n:Nat}(hc:c<n)(hk:k<n)(hi:i<n):sw c k i<n:=by unfold sw;split;exact hk;split;exact hc;exact hi
theorem sw_c{c k:Nat}:sw c k c=k:=if_pos rfl
theorem sw_same(c i:Nat):sw c c i=i:=by unfold sw;split;omega;rfl
theorem swapR_sw(A:Nat->Nat->Rat)(c k i:Nat):zB A c k i=A (sw c k i):=rfl
def pSw (P:Nat->Nat) (c k i:Nat):Nat:=P (sw c k i)
def rSw (ρ:Nat->Nat) (c k j:Nat):Nat:=sw c k (ρ j)
structure Bij (n:Nat) (P ρ:Nat->Nat):Prop where
 lt:∀i,i<n->P i<n
 lt':∀i,i<n->ρ i<n
 inv:∀i,ρ (P i)=i
 inv':∀i,P (ρ i)=i
theorem Bij.id{n:Nat}:Bij n (λi=>i) (λi=>i):=⟨λ_ h=>h,λ_ h=>h,λ_=>rfl,λ_=>rfl⟩
theorem Bij.sw{n c k:Nat}{P ρ:Nat->Nat}(H:Bij n P ρ)(hc:c<n)(hk:k<n):Bij n (pSw P c k) (rSw ρ c k):=
 ⟨λi hi=>H.lt _ (sw_lt hc hk hi),λi hi=>sw_lt hc hk (H.lt' i hi),λi=>by unfold pSw rSw;rw[H.inv,sw_sw],λi=>by unfold pSw rSw;rw[sw_sw,H.inv']⟩
theorem Bij.inj{n:Nat}{P ρ:Nat->Nat}(H:Bij n P ρ){i j:Nat}(e:P i=P j):i=j:=by rw[←H.inv i,e,H.inv]
def lowQ (L U:Nat->Nat->Rat) (c h:Nat):Nat->Nat->Rat:=λi j=>if j=c/\c<=i/\i<h then(if i=c then 1 else U i c/U c c) else L i j
section
variable {L U:Nat->Nat->Rat} {c h i j:Nat}
theorem lowQ_corner:(1:Rat)=lowQ L U c (c+1) c c:=by
 unfold lowQ;rw[if_pos ⟨rfl,Nat.le_refl c,Nat.lt_succ_self c⟩,if_pos rfl]
theorem lowQ_at(hc:c<h):U h c/U c c=lowQ L U c (h+1) h c:=by
 unfold lowQ;rw[if_pos ⟨rfl,by omega,Nat.lt_succ_self h⟩,if_neg zo]
theorem jZ(e:j≠c):lowQ L U c h i j=L i j:=if_neg λk=>e k.1
theorem lowQ_row(e:i≠h):lowQ L U c (h+1) i=lowQ L U c h i:=by
 funext j
 unfold lowQ
 by_cases q:j=c/\c<=i/\i<h
 ·rw[if_pos q,if_pos ⟨q.1,q.2.1,by omega⟩]
 ·rw[if_neg q,if_neg λk=>q ⟨k.1,k.2.1,by omega⟩]
theorem lowQ_sames:lowQ L U c c=L:=by funext i j;exact if_neg zo
end
abbrev LuS:=(Nat->Nat->Rat)×(Nat->Nat->Rat)×(Nat->Nat)×(Nat->Nat)×Bool
def luK (n:Nat) (s:LuS) (c:Nat):Nat:=yK s.1 c c (n-c)
def zW (n:Nat) (s:LuS) (c:Nat):LuS:=
 (zI (zB s.1 c (luK n s c)) c n,lowQ (zB s.2.1 c (luK n s c)) (zB s.1 c (luK n s c)) c n,pSw s.2.2.1 c (luK n s c),rSw s.2.2.2.1 c (luK n s c),if luK n s c=c then s.2.2.2.2 else !s.2.2.2.2)
def luS (n:Nat) (A:Nat->Nat->Rat):Nat->LuS
 | 0=>(A,λ_ _=>0,λi=>i,λi=>i,false)
 | c+1=>zW n (luS n A c) c
def luOK (n:Nat) (A:Nat->Nat->Rat) (c:Nat):Prop:=∀k,k<c->luK n (luS n A k) k<n
theorem luK_ge{n c:Nat}{s:LuS}:c<=luK n s c:=(leadK_le _ _).1
theorem lu_bij{n:Nat}{A:Nat->Nat->Rat}:∀c,c<=n->luOK n A c->Bij n (luS n A c).2.2.1 (luS n A c).2.2.2.1
 | 0,_,_=>Bij.id
 | c+1,hc,h=>(lu_bij c zo λk hk=>h k zo).sw hc (h c (Nat.lt_succ_self c))
theorem HtB.elim{n B c:Nat}{A:Nat->Nat->Rat}(hc:c<n)(h:HtB n n B A)(k:Nat):HtB n n (4*B) (zI A c k):=λi hi j hj=>by
 have h1:=h i hi j hj
 unfold zI
 split
 ·have h2:=h i hi c hc
  have h3:=h c hc c hc
  have h4:=h c hc j hj
  have h5:=ht_add (A i j) (-(A i c/A c c)*A c j)
  have h6:=uG (-(A i c/A c c)) (A c j)
  have h7:=ht_div (A i c) (A c c)
  rw[ht_neg] at h6
  omega
 ·omega
theorem lu_ht{n s:Nat}{A:Nat->Nat->Rat}(h:HtB n n (s+1) A):∀c,c<=n->luOK n A c->HtB n n (hE s c) (luS n A c).1
 | 0,_,_=>by rw[hE_zero];exact h
 | c+1,hc,hk=>by
  rw[hE_succ]
  exact HtB.elim zo ((lu_ht h c zo λk hk2=>hk k zo).swap zo (hk c (Nat.lt_succ_self c))) n
structure LuInv (n:Nat) (A:Nat->Nat->Rat) (c:Nat) (s:LuS):Prop where
 one:∀k,k<c->s.2.1 k k=1
 above:∀i k,i<n->i<k->s.2.1 i k=0
 left:∀i k,i<n->c<=k->s.2.1 i k=0
 below:∀i k,i<n->k<c->k<i->s.1 i k=0
 piv:∀k,k<c->s.1 k k≠0
 eq:∀i,i<n->∀j,j<n->A (s.2.2.1 i) j=(if c<=i then s.1 i j else 0)+sumQ (λk=>s.2.1 i k*s.1 k j) c
theorem lu_inv{n:Nat}{A:Nat->Nat->Rat}:∀c,c<=n->luOK n A c->LuInv n A c (luS n A c)
 | 0,_,_=>⟨λ_ h=>absurd h (Nat.not_lt_zero _),λ_ _ _ _=>rfl,λ_ _ _ _=>rfl,λ_ _ _ h=>absurd h (Nat.not_lt_zero _),λ_ h=>absurd h (Nat.not_lt_zero _),λi _ j _=>by
  rw[if_pos (Nat.zero_le i)];show A i j=A i j+0;grind⟩
 | c+1,hc,hok=>by
  have H:=lu_inv c zo λk hk=>hok k zo
  have hK:=hok c (Nat.lt_succ_self c)
  have hge:=luK_ge (n:=n) (s:=luS n A c) (c:=c)
  have hpv:(luS n A c).1 (luK n (luS n A c) c) c≠0:=leadK_at _ _ (show yK _ c c (n-c)<_ by have:luK n (luS n A c) c<n:=hK;unfold luK at this;omega)
  show LuInv n A (c+1) (zW n (luS n A c) c)
  unfold zW
  generalize luK n (luS n A c) c=K at hK hge hpv
  generalize luS n A c=s at H hpv
  obtain⟨U,L,P,ρ,o⟩:=s
  have eU:∀i j,zI (zB U c K) c n i j=if c<i/\i<n then U (sw c K i) j+-(U (sw c K i) c/U (sw c K c) c)*U (sw c K c) j else U (sw c K i) j:=λ_ _=>rfl
  have eL:∀i j,lowQ (zB L c K) (zB U c K) c n i j=if j=c/\c<=i/\i<n then(if i=c then 1 else U (sw c K i) c/U (sw c K c) c) else L (sw c K i) j:=λ_ _=>rfl
  have slt:∀i,i<n->sw c K i<n:=λi hi=>sw_lt zo hK hi
  have stop:∀i,i<c->sw c K i=i:=λi hi=>by unfold sw;rw[if_neg zo,if_neg zo]
  have sge:∀i,c<=i->c<=sw c K i:=λi hi=>by unfold sw;split;exact hge;split;omega;exact hi
  have h1:=H.one;have h2:=H.above;have h3:=H.left;have h4:=H.below;have h5:=H.piv;have h6:=H.eq
  simp only at h1 h2 h3 h4 h5 h6 hpv
  refine⟨λk hk=>?_,λi k hi hik=>?_,λi k hi hk=>?_,λi k hi hk hki=>?_,λk hk=>?_,λi hi j hj=>?_⟩<;>(try dsimp only)<;>(try rw[eL])<;>(try rw[eU])
  ·by_cases e:k=c
   ·rw[if_pos ⟨e,by omega,by omega⟩,if_pos e]
   ·rw[if_neg zo,stop k zo];exact h1 k zo
  ·by_cases e:k=c/\c<=i/\i<n
   ·omega
   ·rw[if_neg e]
    by_cases q:c<=k
    ·exact h3 _ k (slt i hi) q
    ·rw[stop i zo];exact h2 i k hi hik
  ·rw[if_neg zo];exact h3 _ k (slt i hi) zo
  ·by_cases e:k=c
   ·subst e
    rw[if_pos ⟨hki,hi⟩,sw_c,Rat.neg_mul,Rat.div_mul_cancel hpv];grind
   ·have hz:∀i,c<=i->i<n->U i k=0:=λi h7 h8=>h4 i k h8 zo zo
    split
    ·rename_i q
     rw[hz _ (sge i zo) (slt i hi),sw_c,hz K hge hK];grind
    ·by_cases q:c<=i
     ·rw[hz _ (sge i q) (slt i hi)]
     ·rw[stop i zo];exact h4 i k hi zo hki
  ·rw[if_neg zo]
   by_cases e:k=c
   ·rw[e,sw_c];exact hpv
   ·rw[stop k zo];exact h5 k zo
  ·show A (P (sw c K i)) j=(if c+1<=i then zI (zB U c K) c n i j else 0)+(sumQ (λk=>lowQ (zB L c K) (zB U c K) c n i k*zI (zB U c K) c n k j) c+lowQ (zB L c K) (zB U c K) c n i c*zI (zB U c K) c n c j)
   have e1:sumQ (λk=>lowQ (zB L c K) (zB U c K) c n i k*zI (zB U c K) c n k j) c=sumQ (λk=>L (sw c K i) k*U k j) c:=zF c λk hk=>by
    rw[eL,eU,if_neg zo,if_neg zo,stop k hk]
   have e2:zI (zB U c K) c n c j=U K j:=by rw[eU,if_neg zo,sw_c]
   rw[h6 _ (slt i hi) j hj,e1,e2]
   generalize sumQ (λk=>L (sw c K i) k*U k j) c=S
   by_cases q:i<c
   ·have e3:lowQ (zB L c K) (zB U c K) c n i c=0:=by rw[eL,if_neg zo,stop i q];exact h3 i c hi (Nat.le_refl c)
    rw[if_neg (by have:=stop i q;omega),if_neg zo,e3];grind
   ·rw[if_pos (sge i zo)]
    by_cases e:i=c
    ·have e3:lowQ (zB L c K) (zB U c K) c n i c=1:=by rw[eL,if_pos ⟨rfl,by omega,hi⟩,if_pos e]
     rw[if_neg zo,e3,e,sw_c];grind
    ·have e3:lowQ (zB L c K) (zB U c K) c n i c=U (sw c K i) c/U K c:=by rw[eL,if_pos ⟨rfl,by omega,hi⟩,if_neg e,sw_c]
     have e4:zI (zB U c K) c n i j=U (sw c K i) j+-(U (sw c K i) c/U K c)*U K j:=by rw[eU,if_pos ⟨by omega,hi⟩,sw_c]
     rw[if_pos zo,e3,e4];grind
theorem lu_prod{n:Nat}{A:Nat->Nat->Rat}(h:luOK n A n){i j:Nat}(hi:i<n)(hj:j<n):A ((luS n A n).2.2.1 i) j=sumQ (λk=>(luS n A n).2.1 i k*(luS n A n).1 k j) n:=by
 have:=(lu_inv (A:=A) n (Nat.le_refl n) h).eq i hi j hj
 rw[if_neg zo] at this
 rw[this];grind
open Go.RowKit
def setN (P:Nat->Nat) (c x i:Nat):Nat:=if i=c then x else P i
theorem setN_ne{P:Nat->Nat}{c x i:Nat}(h:i≠c):setN P c x i=P i:=if_neg h
theorem pSw_at{P:Nat->Nat}{c g:Nat}:P c=pSw P c g g:=by
 unfold pSw sw
 by_cases e:g=c
 ·rw[if_pos e,e]
 ·rw[if_neg e,if_pos rfl]
theorem pSw_other{P:Nat->Nat}{c g t:Nat}(h:t≠g):pSw P c g t=setN P c (P g) t:=by
 unfold pSw sw setN
 by_cases e:t=c
 ·rw[if_pos e,if_pos e]
 ·rw[if_neg e,if_neg h,if_neg e]
theorem pSw_same{P:Nat->Nat}{c g t:Nat}(h:g=c):pSw P c g t=P t:=by unfold pSw;rw[h,sw_same]
theorem uA{B:Nat->Nat->Rat}{c i j:Nat}:B i j=zI B c c i j:=(if_neg zo).symm
theorem elimQ_from{B:Nat->Nat->Rat}{c i j:Nat}:zI B c c i j=zI B c (c+1) i j:=uA.symm.trans elimQ_zero
theorem low_conv{L U:Nat->Nat->Rat}{ρ:Nat->Nat}{c g j k:Nat}:L (ρ j) k=lowQ (zB L c g) U c c (rSw ρ c g j) k:=by
 rw[lowQ_sames,swapR_sw,rSw,sw_sw]
theorem lowQ_now2{L B:Nat->Nat->Rat}{c h:Nat}(hc:c<h):zI B c h h c/zI B c h c c=lowQ L B c (h+1) h c:=by
 rw[elimQ_end (Nat.le_refl h),jA (Nat.le_refl c),lowQ_at hc]
theorem rSw_ne{n c g t x:Nat}{P ρ:Nat->Nat}(H:Bij n (pSw P c g) (rSw ρ c g))(h:t≠pSw P c g x):rSw ρ c g t≠x:=λe=>h (by rw[←e,H.inv'])
theorem step_yes{n g c:Nat}{U:Nat->Nat->Rat}(h:(bif decide ((g:Int)<(n:Int)) then decide (U g c=0) else false)=true):g<n/\U g c=0:=by
 obtain⟨h1,h2⟩:=bif_true h
 exact⟨by omega,h2⟩
theorem step_no{n g c:Nat}{U:Nat->Nat->Rat}(hg:g<=n)(h:(bif decide ((g:Int)<(n:Int)) then decide (U g c=0) else false)=false):yK U c g (n-g)=g:=by
 have h2:=bif_false h
 refine leadK_eq _ _ _ (Nat.le_refl _) zo (λi h3 h4=>by omega) λh3 z=>h2 ⟨by omega,z⟩
theorem step_K{n g c:Nat}{U L:Nat->Nat->Rat}{P ρ:Nat->Nat}{o:Bool}(h1:yK U c c (n-c)=yK U c g (n-g))(h2:yK U c g (n-g)=g):luK n (U,L,P,ρ,o) c=g:=h1.trans h2
theorem div_room{n c h B:Nat}{A:Nat->Nat->Rat}(H:HtB n n B A)(hc:c<n)(h2:h<n)(hB:B<=100000000:=by decide):szq (zI A c h h c)+szq (zI A c h c c)+1<=17179869184:=by
 rw[elimQ_end (Nat.le_refl h),jA (Nat.le_refl c)]
 have:=H h h2 c hc
 have:=H c hc c hc
 have:=xP (A h c)
 have:=xP (A c c)
 omega
theorem lu_room{n c h B:Nat}{A:Nat->Nat->Rat}(H:HtB n n B A)(hc:c<n)(h2:h<n)(hB:B<=100000000:=by decide):∀j,j<n->szq (-(zI A c h h c/zI A c h c c))+szq (zI A c h c j)<=17179869184/\szq (zI A c h h j)+szq (-(zI A c h h c/zI A c h c c)*zI A c h c j)<=17179869184:=λj hj=>by
 rw[elimQ_end (Nat.le_refl h),jA (Nat.le_refl c)]
 have e1:=H h h2 c hc
 have e2:=H c hc c hc
 have e3:=H h h2 j hj
 have e4:=H c hc j hj
 have e5:=ht_div (A h c) (A c c)
 exact ht_room2 (S:=200000000) zo zo (by rw[ht_neg];omega) zd
section
variable {n g c:Nat} {U L:Nat->Nat->Rat} {P ρ:Nat->Nat} {o:Bool}
theorem lu_U(h:luK n (U,L,P,ρ,o) c=g):(zW n (U,L,P,ρ,o) c).1=zI (zB U c g) c n:=by unfold zW;rw[h]
theorem lu_L(h:luK n (U,L,P,ρ,o) c=g):(zW n (U,L,P,ρ,o) c).2.1=lowQ (zB L c g) (zB U c g) c n:=by unfold zW;rw[h]
theorem lu_P(h:luK n (U,L,P,ρ,o) c=g):(zW n (U,L,P,ρ,o) c).2.2.1=pSw P c g:=by unfold zW;rw[h]
theorem lu_R(h:luK n (U,L,P,ρ,o) c=g):(zW n (U,L,P,ρ,o) c).2.2.2.1=rSw ρ c g:=by unfold zW;rw[h]
theorem lu_o(h:luK n (U,L,P,ρ,o) c=g):(zW n (U,L,P,ρ,o) c).2.2.2.2=if g=c then o else !o:=by unfold zW;rw[h]
end
theorem sLuStep{U L:Nat->Nat->Rat}{P ρ:Nat->Nat}{o:Bool}{n c:Nat}(hn:n<=68719476736)(hc:c<n)(hB:Bij n P ρ)(hH:HtB n n 100000000 U)(hk:luK n (U,L,P,ρ,o) c<n):CallOKm Tryz.prog 134 [.one (.var 194 (.agg (.cn (.own 1 0) (c3 (.own 2 0) (.own 3 0) (bX o))))),.one (.row 41 1 (λi0=>.own 4 (P i0)) n),cC U n,.one (.row 3 1 (λi0=>iN (P i0)) n),.fam n (λi0=>.row 76 3 (λi1=>.rat (L (ρ i0) i1)) n)] [.own 0 0,iN c] (bX true) [.one (.var 194 (.agg (.cn (.own 5 0) (c3 (.own 6 0) (.own 7 0) (bX ((zW n (U,L,P,ρ,o) c).2.2.2.2)))))),.dead,.dead,.dead,.dead,.one (.row 41 1 (λi0=>.own 8 ((zW n (U,L,P,ρ,o) c).2.2.1 i0)) n),cC ((zW n (U,L,P,ρ,o) c).1) n,.one (.row 3 1 (λi0=>iN ((zW n (U,L,P,ρ,o) c).2.2.1 i0)) n),.fam n (λi0=>.row 76 3 (λi1=>.rat ((zW n (U,L,P,ρ,o) c).2.1 ((zW n (U,L,P,ρ,o) c).2.2.2.1 i0) i1)) n)]:=by
 exact zZ (ch:=λB=>[.loop 2 (Nat) (λg=>c<=g/\g<=n/\yK U c c (n-c)=yK U c g (n-g)) (λg=>n-g) (λg=>⟨[(0,.own 0 0),(1,iN c),(5,iN g)],[(0,.one (.var 194 (.agg (.cn (.own 1 0) (c3 (.own 2 0) (.own 3 0) (bX o)))) (some (B 0)))),(1,.one (.row 41 1 (λi0=>.own 4 (P i0)) n)),(2,cC U n),(3,.one (.row 3 1 (λi0=>iN (P i0)) n)),(4,.fam n (λi0=>.row 76 3 (λi1=>.rat (L (ρ i0) i1)) n))],5⟩) [(0,.id 0),(1,.id 1),(2,.id 2),(3,.id 3),(4,.id 4)] (λ_=>[(0,.id 0),(1,.id 1),(2,.id 2),(3,.id 3),(4,.id 4)]) (λg=>[.reg 2 [(13,.k g),(16,.k c),(18,.callS (bX (decide (U g c=0))) [])],.reg 3 [(1,.z ((g+1:Nat):Int))],.dec 38 false,.reg 7 [(15,.k g),(22,.k c),(24,.k c),(25,.row 0 (mE (setR U c (U g)) n)),(26,.k g),(27,.row 0 (mE (zB U c g) n))],.reg 8 [(15,.k g),(22,.k c),(24,.k c),(25,.row 0 (λi0=>.own 4 (setN P c (P g) i0))),(26,.k g),(27,.row 0 (λi0=>.own 4 (pSw P c g i0)))],.reg 9 [(15,.k g),(22,.k c),(24,.k c),(25,.row 0 (λi0=>iN (setN P c (P g) i0))),(26,.k g),(27,.row 0 (λi0=>iN (pSw P c g i0)))],.conv 11 [(0,.id 0),(1,.id 1),(2,.id 2),(3,.id 3),(4,.id 4)] ⟨[(0,.own 0 0),(1,iN c),(5,iN g)],[(0,.one (.var 194 (.agg (.cn (.own 1 0) (c3 (.own 2 0) (.own 3 0) (bX (if g=c then o else !o))))) (some (B 0)))),(1,.one (.row 41 1 (λi0=>.own 4 (pSw P c g i0)) n)),(2,cC (zI (zB U c g) c c) n),(3,.one (.row 3 1 (λi0=>iN (pSw P c g i0)) n)),(4,.fam n (λi0=>.row 76 3 (λi1=>.rat ((lowQ (zB L c g) (zB U c g) c c) (rSw ρ c g i0) i1)) n))],5⟩,.reg 11 [(5,.k c),(8,.callS (.rat ((1:Int):Rat)) []),(9,.k c),(10,.rowF (λi0=>.rat ((lowQ (zB L c g) (zB U c g) c (c+1)) c i0)) (λi0=>.row 76 3 (λi1=>.rat ((lowQ (zB L c g) (zB U c g) c (c+1)) (rSw ρ c g i0) i1)) n))],.reg 12 [(1,.z ((c+1:Nat):Int))],.loop 13 (Nat) (λh=>c+1<=h/\h<=n) (λh=>n-h) (λh=>⟨[(0,.own 0 0),(1,iN c),(5,iN g),(6,iN h)],[(0,.one (.var 194 (.agg (.cn (.own 1 0) (c3 (.own 2 0) (.own 3 0) (bX (if g=c then o else !o))))) (some (B 0)))),(1,.one (.row 41 1 (λi0=>.own 4 (pSw P c g i0)) n)),(2,cC (zI (zB U c g) c h) n),(3,.one (.row 3 1 (λi0=>iN (pSw P c g i0)) n)),(4,.fam n (λi0=>.row 76 3 (λi1=>.rat ((lowQ (zB L c g) (zB U c g) c h) (rSw ρ c g i0) i1)) n))],5⟩) [(0,.id 0),(1,.id 1),(2,.id 2),(3,.id 3),(4,.id 4)] (λ_=>[(0,.id 0),(1,.id 1),(2,.id 2),(3,.id 3),(4,.id 4)]) (λh=>[.reg 15 [(5,.k h),(8,.k c),(15,.k c),(18,.k c),(20,.callS (c2 (.rat (((zI (zB U c g) c h) h c)/((zI (zB U c g) c h) c c))) (bX (!decide (((zI (zB U c g) c h) c c)=0)))) [])],.reg 16 [(5,.k h),(9,.k c),(10,.rowF (λi0=>.rat ((lowQ (zB L c g) (zB U c g) c (h+1)) h i0)) (λi0=>.row 76 3 (λi1=>.rat ((lowQ (zB L c g) (zB U c g) c (h+1)) (rSw ρ c g i0) i1)) n))],.reg 17 [(10,.k h),(13,.callS (.rat (-(((zI (zB U c g) c h) h c)/((zI (zB U c g) c h) c c)))) []),(19,.k c),(21,.callS (c2 (.sl 3 (λi0=>.rat (((zI (zB U c g) c h) h i0)+(-(((zI (zB U c g) c h) h c)/((zI (zB U c g) c h) c c)))*((zI (zB U c g) c h) c i0))) n) (bX true)) []),(25,.k h),(26,.row 0 (mE (zI (zB U c g) c (h+1)) n))],.reg 14 [(1,.z ((h+1:Nat):Int))],.ret 18 [(0,.id 0),(5,.id 1),(6,.id 2),(7,.id 3),(8,.id 4)]]),.conv 11 [(0,.id 0),(1,.id 1),(2,.id 2),(3,.id 3),(4,.id 4)] ⟨[(0,.own 0 0),(1,iN c),(5,iN g)],[(0,.one (.var 194 (.agg (.cn (.own 1 0) (c3 (.own 2 0) (.own 3 0) (bX (if g=c then o else !o))))) (some (B 0)))),(1,.one (.row 41 1 (λi0=>.own 4 (pSw P c g i0)) n)),(2,cC (zI (zB U c g) c c) n),(3,.one (.row 3 1 (λi0=>iN (pSw P c g i0)) n)),(4,.fam n (λi0=>.row 76 3 (λi1=>.rat ((lowQ (zB L c g) (zB U c g) c c) (rSw ρ c g i0) i1)) n))],5⟩,.reg 11 [(5,.k c),(8,.callS (.rat ((1:Int):Rat)) []),(9,.k c),(10,.rowF (λi0=>.rat ((lowQ (zB L c g) (zB U c g) c (c+1)) c i0)) (λi0=>.row 76 3 (λi1=>.rat ((lowQ (zB L c g) (zB U c g) c (c+1)) (rSw ρ c g i0) i1)) n))],.reg 12 [(1,.z ((c+1:Nat):Int))],.loop 13 (Nat) (λh=>c+1<=h/\h<=n) (λh=>n-h) (λh=>⟨[(0,.own 0 0),(1,iN c),(5,iN g),(6,iN h)],[(0,.one (.var 194 (.agg (.cn (.own 1 0) (c3 (.own 2 0) (.own 3 0) (bX (if g=c then o else !o))))) (some (B 0)))),(1,.one (.row 41 1 (λi0=>.own 4 (pSw P c g i0)) n)),(2,cC (zI (zB U c g) c h) n),(3,.one (.row 3 1 (λi0=>iN (pSw P c g i0)) n)),(4,.fam n (λi0=>.row 76 3 (λi1=>.rat ((lowQ (zB L c g) (zB U c g) c h) (rSw ρ c g i0) i1)) n))],5⟩) [(0,.id 0),(1,.id 1),(2,.id 2),(3,.id 3),(4,.id 4)] (λ_=>[(0,.id 0),(1,.id 1),(2,.id 2),(3,.id 3),(4,.id 4)]) (λh=>[.reg 15 [(5,.k h),(8,.k c),(15,.k c),(18,.k c),(20,.callS (c2 (.rat (((zI (zB U c g) c h) h c)/((zI (zB U c g) c h) c c))) (bX (!decide (((zI (zB U c g) c h) c c)=0)))) [])],.reg 16 [(5,.k h),(9,.k c),(10,.rowF (λi0=>.rat ((lowQ (zB L c g) (zB U c g) c (h+1)) h i0)) (λi0=>.row 76 3 (λi1=>.rat ((lowQ (zB L c g) (zB U c g) c (h+1)) (rSw ρ c g i0) i1)) n))],.reg 17 [(10,.k h),(13,.callS (.rat (-(((zI (zB U c g) c h) h c)/((zI (zB U c g) c h) c c)))) []),(19,.k c),(21,.callS (c2 (.sl 3 (λi0=>.rat (((zI (zB U c g) c h) h i0)+(-(((zI (zB U c g) c h) h c)/((zI (zB U c g) c h) c c)))*((zI (zB U c g) c h) c i0))) n) (bX true)) []),(25,.k h),(26,.row 0 (mE (zI (zB U c g) c (h+1)) n))],.reg 14 [(1,.z ((h+1:Nat):Int))],.ret 18 [(0,.id 0),(5,.id 1),(6,.id 2),(7,.id 3),(8,.id 4)]])])]) hMix Tryz.func134 rfl zk zk zk (λB=>(((λX1 X2 X3 X4 X5 X6 X7 X8 X9 X10 X11 X12 X13:Prop=>∃g0:Nat,X1/\X2/\((c:Int)=(g0:Int))/\X3/\X4/\X5/\X6/\X7/\X8/\(∀j0,j0<n->((P j0:Nat)=(P j0)))/\X9/\X10/\X11/\X12/\X13/\(∀j0,j0<n->((n:Nat)=n)/\(∀j1,j1<n->((L (ρ j0) j1:Rat)=(L (ρ j0) j1))))/\(c<=g0/\g0<=n/\yK U c c (n-c)=yK U c g0 (n-g0))) _ _ _ _ _ _ _ _ _ _ _ _ _)/\∀g:Nat,(c<=g/\g<=n/\yK U c c (n-c)=yK U c g (n-g))->_/\_/\_/\_/\_/\(((decide ((g:Int)<(n:Int)))==true)=true->_)/\(((decide ((g:Int)<(n:Int)))==true)=true->g<n)/\_/\(((decide ((g:Int)<(n:Int)))==true)=true->g<n)/\_/\_/\(((decide ((g:Int)<(n:Int)))==true)=true->_)/\(((decide ((g:Int)<(n:Int)))==true)=true->c<n)/\_/\_/\(((decide ((g:Int)<(n:Int)))==true)=true->_)/\((decide ((g:Int)<(n:Int)))=true->((decide ((g:Int)<(n:Int)))==true)=true)/\(((bif (decide ((g:Int)<(n:Int))) then(decide (U g c=0)) else false)=true->(IntKind.wrap .i64 ((g:Int)+1)=(((g+1:Nat):Int)))/\((λX1 X2 X3 X4 X5 X6 X7 X8 X9 X10 X11 X12 X13:Prop=>∃g1:Nat,X1/\X2/\(((g+1:Nat):Int)=(g1:Int))/\X3/\X4/\X5/\X6/\X7/\X8/\(∀j0,j0<n->((P j0:Nat)=(P j0)))/\X9/\X10/\X11/\X12/\X13/\(∀j0,j0<n->((n:Nat)=n)/\(∀j1,j1<n->((L (ρ j0) j1:Rat)=(L (ρ j0) j1))))/\(c<=g1/\g1<=n/\yK U c c (n-c)=yK U c g1 (n-g1))/\(n-g1<n-g)) _ _ _ _ _ _ _ _ _ _ _ _ _))/\((bif (decide ((g:Int)<(n:Int))) then(decide (U g c=0)) else false)=false->((decide ((g:Int)=(n:Int)))=false)/\(((!decide ((g:Int)=(c:Int)))=true->_/\(g<n)/\(g<n)/\_/\(c<n)/\(c<n)/\_/\(c<n)/\(c<n)/\(((n:Nat)=n)/\(∀j0,j0<n->((U g j0:Rat)=((setR U c (U g)) c j0))))/\(∀t,t<n->t≠c->(.sl 3 (λi0=>.rat ((setR U c (U g)) t i0)) n:SV)=.sl 3 (λi0=>.rat (U t i0)) n)/\_/\(g<n)/\(g<n)/\(((n:Nat)=n)/\(∀j0,j0<n->((U c j0:Rat)=((zB U c g) g j0))))/\(∀t,t<n->t≠g->(.sl 3 (λi0=>.rat ((zB U c g) t i0)) n:SV)=.sl 3 (λi0=>.rat ((setR U c (U g)) t i0)) n)/\_/\(g<n)/\(g<n)/\_/\(c<n)/\(c<n)/\_/\(c<n)/\(c<n)/\(((4:Nat)=4)/\((P g:Nat)=(setN P c (P g) c)))/\(∀t,t<n->t≠c->(.own 4 (setN P c (P g) t):SV)=.own 4 (P t))/\_/\(g<n)/\(g<n)/\(((4:Nat)=4)/\((P c:Nat)=(pSw P c g g)))/\(∀t,t<n->t≠g->(.own 4 (pSw P c g t):SV)=.own 4 (setN P c (P g) t))/\_/\(g<n)/\(g<n)/\_/\(c<n)/\(c<n)/\_/\(c<n)/\(c<n)/\(((P g:Int)=(setN P c (P g) c:Int)))/\(∀t,t<n->t≠c->(iN (setN P c (P g) t):SV)=iN (P t))/\_/\(g<n)/\(g<n)/\(((P c:Int)=(pSw P c g g:Int)))/\(∀t,t<n->t≠g->(iN (pSw P c g t):SV)=iN (setN P c (P g) t))/\_/\_/\_/\_/\_/\_/\_/\((!o:Bool)=(if g=c then o else !o))/\_/\(∀j0,j0<n->((pSw P c g j0:Nat)=(pSw P c g j0)))/\_/\(∀j0,j0<n->((n:Nat)=n)/\(∀j1,j1<n->(((zB U c g) j0 j1:Rat)=((zI (zB U c g) c c) j0 j1))))/\_/\_/\_/\(∀j0,j0<n->((n:Nat)=n)/\(∀j1,j1<n->((L (ρ j0) j1:Rat)=((lowQ (zB L c g) (zB U c g) c c) (rSw ρ c g j0) j1))))/\_/\(c<n)/\(c<n)/\_/\_/\(c<n)/\((pSw P c g c)<n)/\(c<n)/\(((((1:Int):Rat):Rat)=((lowQ (zB L c g) (zB U c g) c (c+1)) c c)))/\(∀t,t<n->t≠c->(.rat ((lowQ (zB L c g) (zB U c g) c (c+1)) c t):SV)=.rat ((lowQ (zB L c g) (zB U c g) c c) (rSw ρ c g (pSw P c g c)) t))/\((pSw P c g c)<n)/\((.row 76 3 (λi0=>.rat ((lowQ (zB L c g) (zB U c g) c (c+1)) (rSw ρ c g (pSw P c g c)) i0)) n:OB)=.row 76 3 (λi0=>.rat ((lowQ (zB L c g) (zB U c g) c (c+1)) c i0)) n)/\(∀t,t<n->t≠(pSw P c g c)->(.row 76 3 (λi0=>.rat ((lowQ (zB L c g) (zB U c g) c (c+1)) (rSw ρ c g t) i0)) n:OB)=.row 76 3 (λi0=>.rat ((lowQ (zB L c g) (zB U c g) c c) (rSw ρ c g t) i0)) n)/\_/\(((λX1 X2 X3 X4 X5 X6 X7 X8 X9 X10 X11 X12 X13:Prop=>∃h0:Nat,X1/\X2/\X3/\(((c+1:Nat):Int)=(h0:Int))/\X4/\X5/\X6/\X7/\X8/\X9/\(∀j0,j0<n->((pSw P c g j0:Nat)=(pSw P c g j0)))/\X10/\(∀j0,j0<n->((n:Nat)=n)/\(∀j1,j1<n->(((zI (zB U c g) c c) j0 j1:Rat)=((zI (zB U c g) c h0) j0 j1))))/\X11/\X12/\X13/\(∀j0,j0<n->((n:Nat)=n)/\(∀j1,j1<n->(((lowQ (zB L c g) (zB U c g) c (c+1)) (rSw ρ c g j0) j1:Rat)=((lowQ (zB L c g) (zB U c g) c h0) (rSw ρ c g j0) j1))))/\(c+1<=h0/\h0<=n)) _ _ _ _ _ _ _ _ _ _ _ _ _)/\∀h:Nat,(c+1<=h/\h<=n)->(((decide ((h:Int)<(n:Int)))=true->_/\(h<n)/\(h<n)/\_/\(c<n)/\_/\(c<n)/\(c<n)/\_/\(c<n)/\_/\_/\(h<n)/\(h<n)/\_/\(c<n)/\((pSw P c g h)<n)/\(c<n)/\(((((zI (zB U c g) c h) h c)/((zI (zB U c g) c h) c c):Rat)=((lowQ (zB L c g) (zB U c g) c (h+1)) h c)))/\(∀t,t<n->t≠c->(.rat ((lowQ (zB L c g) (zB U c g) c (h+1)) h t):SV)=.rat ((lowQ (zB L c g) (zB U c g) c h) (rSw ρ c g (pSw P c g h)) t))/\((pSw P c g h)<n)/\((.row 76 3 (λi0=>.rat ((lowQ (zB L c g) (zB U c g) c (h+1)) (rSw ρ c g (pSw P c g h)) i0)) n:OB)=.row 76 3 (λi0=>.rat ((lowQ (zB L c g) (zB U c g) c (h+1)) h i0)) n)/\(∀t,t<n->t≠(pSw P c g h)->(.row 76 3 (λi0=>.rat ((lowQ (zB L c g) (zB U c g) c (h+1)) (rSw ρ c g t) i0)) n:OB)=.row 76 3 (λi0=>.rat ((lowQ (zB L c g) (zB U c g) c h) (rSw ρ c g t) i0)) n)/\_/\(h<n)/\(h<n)/\_/\_/\(c<n)/\(c<n)/\_/\_/\(h<n)/\(h<n)/\(((n:Nat)=n)/\(∀j0,j0<n->((((zI (zB U c g) c h) h j0)+(-(((zI (zB U c g) c h) h c)/((zI (zB U c g) c h) c c)))*((zI (zB U c g) c h) c j0):Rat)=((zI (zB U c g) c (h+1)) h j0))))/\(∀t,t<n->t≠h->(.sl 3 (λi0=>.rat ((zI (zB U c g) c (h+1)) t i0)) n:SV)=.sl 3 (λi0=>.rat ((zI (zB U c g) c h) t i0)) n)/\_/\((λX1 X2 X3 X4 X5 X6 X7 X8 X9 X10 X11 X12 X13:Prop=>∃h1:Nat,X1/\X2/\X3/\(((h+1:Nat):Int)=(h1:Int))/\X4/\X5/\X6/\X7/\X8/\X9/\(∀j0,j0<n->((pSw P c g j0:Nat)=(pSw P c g j0)))/\X10/\(∀j0,j0<n->((n:Nat)=n)/\(∀j1,j1<n->(((zI (zB U c g) c (h+1)) j0 j1:Rat)=((zI (zB U c g) c h1) j0 j1))))/\X11/\X12/\X13/\(∀j0,j0<n->((n:Nat)=n)/\(∀j1,j1<n->(((lowQ (zB L c g) (zB U c g) c (h+1)) (rSw ρ c g j0) j1:Rat)=((lowQ (zB L c g) (zB U c g) c h1) (rSw ρ c g j0) j1))))/\(c+1<=h1/\h1<=n)/\(n-h1<n-h)) _ _ _ _ _ _ _ _ _ _ _ _ _))/\((decide ((h:Int)<(n:Int)))=false->(_/\_/\_/\_/\_/\((if g=c then o else !o:Bool)=((zW n (U,L,P,ρ,o) c).2.2.2.2))/\_/\(∀j0,j0<n->((pSw P c g j0:Nat)=((zW n (U,L,P,ρ,o) c).2.2.1 j0)))/\_/\(∀j0,j0<n->((n:Nat)=n)/\(∀j1,j1<n->(((zI (zB U c g) c h) j0 j1:Rat)=(((zW n (U,L,P,ρ,o) c).1) j0 j1))))/\_/\(∀j0,j0<n->(((pSw P c g j0:Nat):Int)=(((zW n (U,L,P,ρ,o) c).2.2.1 j0:Nat):Int)))/\_/\(∀j0,j0<n->((n:Nat)=n)/\(∀j1,j1<n->(((lowQ (zB L c g) (zB U c g) c h) (rSw ρ c g j0) j1:Rat)=((zW n (U,L,P,ρ,o) c).2.1 ((zW n (U,L,P,ρ,o) c).2.2.2.1 j0) j1)))))))))/\((!decide ((g:Int)=(c:Int)))=false->_/\_/\_/\_/\_/\_/\_/\((o:Bool)=(if g=c then o else !o))/\_/\(∀j0,j0<n->((P j0:Nat)=(pSw P c g j0)))/\_/\(∀j0,j0<n->((n:Nat)=n)/\(∀j1,j1<n->((U j0 j1:Rat)=((zI (zB U c g) c c) j0 j1))))/\_/\(∀j0,j0<n->(((P j0:Nat):Int)=(pSw P c g j0:Int)))/\_/\(∀j0,j0<n->((n:Nat)=n)/\(∀j1,j1<n->((L (ρ j0) j1:Rat)=((lowQ (zB L c g) (zB U c g) c c) (rSw ρ c g j0) j1))))/\_/\(c<n)/\(c<n)/\_/\_/\(c<n)/\((pSw P c g c)<n)/\(c<n)/\(((((1:Int):Rat):Rat)=((lowQ (zB L c g) (zB U c g) c (c+1)) c c)))/\(∀t,t<n->t≠c->(.rat ((lowQ (zB L c g) (zB U c g) c (c+1)) c t):SV)=.rat ((lowQ (zB L c g) (zB U c g) c c) (rSw ρ c g (pSw P c g c)) t))/\((pSw P c g c)<n)/\((.row 76 3 (λi0=>.rat ((lowQ (zB L c g) (zB U c g) c (c+1)) (rSw ρ c g (pSw P c g c)) i0)) n:OB)=.row 76 3 (λi0=>.rat ((lowQ (zB L c g) (zB U c g) c (c+1)) c i0)) n)/\(∀t,t<n->t≠(pSw P c g c)->(.row 76 3 (λi0=>.rat ((lowQ (zB L c g) (zB U c g) c (c+1)) (rSw ρ c g t) i0)) n:OB)=.row 76 3 (λi0=>.rat ((lowQ (zB L c g) (zB U c g) c c) (rSw ρ c g t) i0)) n)/\_/\(((λX1 X2 X3 X4 X5 X6 X7 X8 X9 X10 X11 X12 X13:Prop=>∃h0:Nat,X1/\X2/\X3/\(((c+1:Nat):Int)=(h0:Int))/\X4/\X5/\X6/\X7/\X8/\X9/\(∀j0,j0<n->((pSw P c g j0:Nat)=(pSw P c g j0)))/\X10/\(∀j0,j0<n->((n:Nat)=n)/\(∀j1,j1<n->(((zI (zB U c g) c c) j0 j1:Rat)=((zI (zB U c g) c h0) j0 j1))))/\X11/\X12/\X13/\(∀j0,j0<n->((n:Nat)=n)/\(∀j1,j1<n->(((lowQ (zB L c g) (zB U c g) c (c+1)) (rSw ρ c g j0) j1:Rat)=((lowQ (zB L c g) (zB U c g) c h0) (rSw ρ c g j0) j1))))/\(c+1<=h0/\h0<=n)) _ _ _ _ _ _ _ _ _ _ _ _ _)/\∀h:Nat,(c+1<=h/\h<=n)->(((decide ((h:Int)<(n:Int)))=true->_/\(h<n)/\(h<n)/\_/\(c<n)/\_/\(c<n)/\(c<n)/\_/\(c<n)/\_/\_/\(h<n)/\(h<n)/\_/\(c<n)/\((pSw P c g h)<n)/\(c<n)/\(((((zI (zB U c g) c h) h c)/((zI (zB U c g) c h) c c):Rat)=((lowQ (zB L c g) (zB U c g) c (h+1)) h c)))/\(∀t,t<n->t≠c->(.rat ((lowQ (zB L c g) (zB U c g) c (h+1)) h t):SV)=.rat ((lowQ (zB L c g) (zB U c g) c h) (rSw ρ c g (pSw P c g h)) t))/\((pSw P c g h)<n)/\((.row 76 3 (λi0=>.rat ((lowQ (zB L c g) (zB U c g) c (h+1)) (rSw ρ c g (pSw P c g h)) i0)) n:OB)=.row 76 3 (λi0=>.rat ((lowQ (zB L c g) (zB U c g) c (h+1)) h i0)) n)/\(∀t,t<n->t≠(pSw P c g h)->(.row 76 3 (λi0=>.rat ((lowQ (zB L c g) (zB U c g) c (h+1)) (rSw ρ c g t) i0)) n:OB)=.row 76 3 (λi0=>.rat ((lowQ (zB L c g) (zB U c g) c h) (rSw ρ c g t) i0)) n)/\_/\(h<n)/\(h<n)/\_/\_/\(c<n)/\(c<n)/\_/\_/\(h<n)/\(h<n)/\(((n:Nat)=n)/\(∀j0,j0<n->((((zI (zB U c g) c h) h j0)+(-(((zI (zB U c g) c h) h c)/((zI (zB U c g) c h) c c)))*((zI (zB U c g) c h) c j0):Rat)=((zI (zB U c g) c (h+1)) h j0))))/\(∀t,t<n->t≠h->(.sl 3 (λi0=>.rat ((zI (zB U c g) c (h+1)) t i0)) n:SV)=.sl 3 (λi0=>.rat ((zI (zB U c g) c h) t i0)) n)/\_/\((λX1 X2 X3 X4 X5 X6 X7 X8 X9 X10 X11 X12 X13:Prop=>∃h1:Nat,X1/\X2/\X3/\(((h+1:Nat):Int)=(h1:Int))/\X4/\X5/\X6/\X7/\X8/\X9/\(∀j0,j0<n->((pSw P c g j0:Nat)=(pSw P c g j0)))/\X10/\(∀j0,j0<n->((n:Nat)=n)/\(∀j1,j1<n->(((zI (zB U c g) c (h+1)) j0 j1:Rat)=((zI (zB U c g) c h1) j0 j1))))/\X11/\X12/\X13/\(∀j0,j0<n->((n:Nat)=n)/\(∀j1,j1<n->(((lowQ (zB L c g) (zB U c g) c (h+1)) (rSw ρ c g j0) j1:Rat)=((lowQ (zB L c g) (zB U c g) c h1) (rSw ρ c g j0) j1))))/\(c+1<=h1/\h1<=n)/\(n-h1<n-h)) _ _ _ _ _ _ _ _ _ _ _ _ _))/\((decide ((h:Int)<(n:Int)))=false->(_/\_/\_/\_/\_/\((if g=c then o else !o:Bool)=((zW n (U,L,P,ρ,o) c).2.2.2.2))/\_/\(∀j0,j0<n->((pSw P c g j0:Nat)=((zW n (U,L,P,ρ,o) c).2.2.1 j0)))/\_/\(∀j0,j0<n->((n:Nat)=n)/\(∀j1,j1<n->(((zI (zB U c g) c h) j0 j1:Rat)=(((zW n (U,L,P,ρ,o) c).1) j0 j1))))/\_/\(∀j0,j0<n->(((pSw P c g j0:Nat):Int)=(((zW n (U,L,P,ρ,o) c).2.2.1 j0:Nat):Int)))/\_/\(∀j0,j0<n->((n:Nat)=n)/\(∀j1,j1<n->(((lowQ (zB L c g) (zB U c g) c h) (rSw ρ c g j0) j1:Rat)=((zW n (U,L,P,ρ,o) c).2.1 ((zW n (U,L,P,ρ,o) c).2.2.2.1 j0) j1)))))))))))))) (λB=>by kernel_rfl)
  (λB=>⟨⟨c,(rf 0),(rf (c:Int)),zo,(rf (some (B 0))),(rf 0),(rf 0),(rf 0),(rf (o:Bool)),(rf n),(λj0 hj0=>rfl),(rf n),(leS (mE U n) n),(rf n),(leS (λi0=>iN (P i0)) n),(rf n),(λj0 hj0=>⟨rfl,(λj1 hj1=>rfl)⟩),Nat.le_refl _,by omega,rfl⟩,λg hg0=>have hg1:=hg0.1;have hg2:=hg0.2.1;⟨(idB ((decide ((g:Int)<(n:Int)))==true)),(idB ((decide ((g:Int)<(n:Int)))==true)),(idB ((decide ((g:Int)<(n:Int)))==true)),(idB ((decide ((g:Int)<(n:Int)))==true)),(idB ((decide ((g:Int)<(n:Int)))==true)),(λhg=>(rf (g:Int))),(λhg=>(by have hg2:=of_guard hg;omega)),(idB ((decide ((g:Int)<(n:Int)))==true)),(λhg=>(by have hg2:=of_guard hg;omega)),(idB ((decide ((g:Int)<(n:Int)))==true)),(idB ((decide ((g:Int)<(n:Int)))==true)),(λhg=>(rf (c:Int))),(λhg=>zo),(idB ((decide ((g:Int)<(n:Int)))==true)),(idB ((decide ((g:Int)<(n:Int)))==true)),(λhg=>sRatZero (q:=U g c)),zs,λhc29=>have hz:=step_yes hc29;⟨(by rw[IntKind.wrap_i64];omega),g+1,(rf 0),(rf (c:Int)),zo,(rf (some (B 0))),(rf 0),(rf 0),(rf 0),(rf (o:Bool)),(rf n),(λj0 hj0=>rfl),(rf n),(leS (mE U n) n),(rf n),(leS (λi0=>iN (P i0)) n),(rf n),(λj0 hj0=>⟨rfl,(λj1 hj1=>rfl)⟩),⟨by omega,by omega,hg0.2.2.trans (leadK_step hz.1 hz.2)⟩,zo⟩,λhc29=>have hz:=step_no hg2 hc29;have hK:=step_K hg0.2.2 hz;have hgn:g<n:=(by rw[←hK];exact hk);have hB1:=hB.sw hc hgn;have hP1:=hB1.lt c hc;have H4:=hH.swap hc hgn;have hne0:=λ{t:Nat} (k:t≠pSw P c g c)=>rSw_ne hB1 k;⟨(by simp;omega),λhc41=>have hk3:g≠c:=(by simp at hc41;omega);⟨(rf (g:Int)),zo,zo,(rf (c:Int)),zo,zo,(rf (c:Int)),zo,zo,⟨rfl,(λj0 hj0=>(if_pos rfl).symm)⟩,(λt ht hne=>by simp only[setR_ne hne]),(rf (g:Int)),zo,zo,⟨rfl,(λj0 hj0=>(swap_at))⟩,(λt ht hne=>by simp only[swap_other hne]),(rf (g:Int)),zo,zo,(rf (c:Int)),zo,zo,(rf (c:Int)),zo,zo,⟨rfl,(if_pos rfl).symm⟩,(λt ht hne=>by rw[setN_ne hne]),(rf (g:Int)),zo,zo,⟨rfl,(pSw_at)⟩,(λt ht hne=>by rw[pSw_other hne]),(rf (g:Int)),zo,zo,(rf (c:Int)),zo,zo,(rf (c:Int)),zo,zo,(congrArg (λx:Nat=>(x:Int)) (if_pos rfl).symm),(λt ht hne=>by rw[setN_ne hne]),(rf (g:Int)),zo,zo,(congrArg (λx:Nat=>(x:Int)) pSw_at),(λt ht hne=>by rw[pSw_other hne]),(rf 0),(rf (c:Int)),(rf (g:Int)),(rf (some (B 0))),(rf 0),(rf 0),(rf 0),(by first | exact(if_neg hk3).symm | exact(if_pos hk3).symm),(rf n),(λj0 hj0=>rfl),(rf n),(λj0 hj0=>⟨rfl,(λj1 hj1=>(by first | exact uA | exact(swap_same hk3).symm.trans uA))⟩),(rf n),(leS (λi0=>iN (pSw P c g i0)) n),(rf n),(λj0 hj0=>⟨rfl,(λj1 hj1=>(low_conv))⟩),(rf (c:Int)),zo,zo,uM (x:=1) zo zo,(rf (c:Int)),zo,zo,zo,(lowQ_corner),(λt ht hne=>by rw[jZ hne,hB1.inv,jZ hne]),zo,(by rw[hB1.inv]),(λt ht hne=>by rw[lowQ_row (hne0 hne)]),(wI (g:=c) zo),⟨c+1,(rf 0),(rf (c:Int)),(rf (g:Int)),zo,(rf (some (B 0))),(rf 0),(rf 0),(rf 0),(rf (if g=c then o else !o:Bool)),(rf n),(λj0 hj0=>rfl),(rf n),(λj0 hj0=>⟨rfl,(λj1 hj1=>elimQ_from)⟩),(rf n),(leS (λi0=>iN (pSw P c g i0)) n),(rf n),(λj0 hj0=>⟨rfl,(λj1 hj1=>rfl)⟩),Nat.le_refl _,by omega⟩,λh hh0=>have hh1:=hh0.1;have hh2:=hh0.2;have hne0:=λ{t:Nat} (k:t≠pSw P c g h)=>rSw_ne hB1 k;⟨λhc146=>have hc146:=dT hc146;have hh:c<h/\h<n:=⟨by omega,by omega⟩;have hP2:=hB1.lt h hh.2;⟨(rf (h:Int)),zo,zo,(rf (c:Int)),zo,(rf (c:Int)),zo,zo,(rf (c:Int)),zo,sRatDiv (p:=(zI (zB U c g) c h) h c) (q:=(zI (zB U c g) c h) c c) (div_room H4 zo hh.2),(rf (h:Int)),zo,zo,(rf (c:Int)),zo,zo,zo,(lowQ_now2 zo),(λt ht hne=>by rw[jZ hne,hB1.inv,jZ hne]),zo,(by rw[hB1.inv]),(λt ht hne=>by rw[lowQ_row (hne0 hne)]),(rf (h:Int)),zo,zo,sRatNeg (q:=((zI (zB U c g) c h) h c)/((zI (zB U c g) c h) c c)),(rf (c:Int)),zo,zo,(uL (a:=(zI (zB U c g) c h) h) (b:=(zI (zB U c g) c h) c) (n:=n) (r:=-(((zI (zB U c g) c h) h c)/((zI (zB U c g) c h) c c))) zo (lu_room H4 zo hh.2)).frzV2,(rf (h:Int)),zo,zo,⟨rfl,(λj0 hj0=>(elim_now zo))⟩,(λt ht hne=>by simp only[elimQ_ne hne]),(wI (g:=h) zo),h+1,(rf 0),(rf (c:Int)),(rf (g:Int)),zo,(rf (some (B 0))),(rf 0),(rf 0),(rf 0),(rf (if g=c then o else !o:Bool)),(rf n),(λj0 hj0=>rfl),(rf n),(λj0 hj0=>⟨rfl,(λj1 hj1=>rfl)⟩),(rf n),(leS (λi0=>iN (pSw P c g i0)) n),(rf n),(λj0 hj0=>⟨rfl,(λj1 hj1=>rfl)⟩),⟨by omega,by omega⟩,zo⟩,λhc146=>have hc146:=dF hc146;have hi3:h=n:=zo;⟨(rf (true:Bool)),(rf (some (B 0))),(rf 0),(rf 0),(rf 0),(by rw[lu_o hK]),(rf n),(λj0 hj0=>(by rw[lu_P hK])),(rf n),(λj0 hj0=>⟨rfl,(λj1 hj1=>(by rw[lu_U hK,hi3]))⟩),(rf n),(λj0 hj0=>(by rw[lu_P hK])),(rf n),(λj0 hj0=>⟨rfl,(λj1 hj1=>(by rw[lu_L hK,lu_R hK,hi3]))⟩)⟩⟩⟩,λhc41=>have hk3:g=c:=(by simp at hc41;omega);⟨(rf 0),(rf (c:Int)),(rf (g:Int)),(rf (some (B 0))),(rf 0),(rf 0),(rf 0),(by first | exact(if_neg hk3).symm | exact(if_pos hk3).symm),(rf n),(λj0 hj0=>(by first | rfl | exact(pSw_same hk3).symm)),(rf n),(λj0 hj0=>⟨rfl,(λj1 hj1=>(by first | exact uA | exact(swap_same hk3).symm.trans uA))⟩),(rf n),(λj0 hj0=>(by first | rfl | exact congrArg (λx:Nat=>(x:Int)) (pSw_same hk3).symm)),(rf n),(λj0 hj0=>⟨rfl,(λj1 hj1=>(low_conv))⟩),(rf (c:Int)),zo,zo,uM (x:=1) zo zo,(rf (c:Int)),zo,zo,zo,(lowQ_corner),(λt ht hne=>by rw[jZ hne,hB1.inv,jZ hne]),zo,(by rw[hB1.inv]),(λt ht hne=>by rw[lowQ_row (hne0 hne)]),(wI (g:=c) zo),⟨c+1,(rf 0),(rf (c:Int)),(rf (g:Int)),zo,(rf (some (B 0))),(rf 0),(rf 0),(rf 0),(rf (if g=c then o else !o:Bool)),(rf n),(λj0 hj0=>rfl),(rf n),(λj0 hj0=>⟨rfl,(λj1 hj1=>elimQ_from)⟩),(rf n),(leS (λi0=>iN (pSw P c g i0)) n),(rf n),(λj0 hj0=>⟨rfl,(λj1 hj1=>rfl)⟩),Nat.le_refl _,by omega⟩,λh hh0=>have hh1:=hh0.1;have hh2:=hh0.2;have hne0:=λ{t:Nat} (k:t≠pSw P c g h)=>rSw_ne hB1 k;⟨λhc146=>have hc146:=dT hc146;have hh:c<h/\h<n:=⟨by omega,by omega⟩;have hP2:=hB1.lt h hh.2;⟨(rf (h:Int)),zo,zo,(rf (c:Int)),zo,(rf (c:Int)),zo,zo,(rf (c:Int)),zo,sRatDiv (p:=(zI (zB U c g) c h) h c) (q:=(zI (zB U c g) c h) c c) (div_room H4 zo hh.2),(rf (h:Int)),zo,zo,(rf (c:Int)),zo,zo,zo,(lowQ_now2 zo),(λt ht hne=>by rw[jZ hne,hB1.inv,jZ hne]),zo,(by rw[hB1.inv]),(λt ht hne=>by rw[lowQ_row (hne0 hne)]),(rf (h:Int)),zo,zo,sRatNeg (q:=((zI (zB U c g) c h) h c)/((zI (zB U c g) c h) c c)),(rf (c:Int)),zo,zo,(uL (a:=(zI (zB U c g) c h) h) (b:=(zI (zB U c g) c h) c) (n:=n) (r:=-(((zI (zB U c g) c h) h c)/((zI (zB U c g) c h) c c))) zo (lu_room H4 zo hh.2)).frzV2,(rf (h:Int)),zo,zo,⟨rfl,(λj0 hj0=>(elim_now zo))⟩,(λt ht hne=>by simp only[elimQ_ne hne]),(wI (g:=h) zo),h+1,(rf 0),(rf (c:Int)),(rf (g:Int)),zo,(rf (some (B 0))),(rf 0),(rf 0),(rf 0),(rf (if g=c then o else !o:Bool)),(rf n),(λj0 hj0=>rfl),(rf n),(λj0 hj0=>⟨rfl,(λj1 hj1=>rfl)⟩),(rf n),(leS (λi0=>iN (pSw P c g i0)) n),(rf n),(λj0 hj0=>⟨rfl,(λj1 hj1=>rfl)⟩),⟨by omega,by omega⟩,zo⟩,λhc146=>have hc146:=dF hc146;have hi3:h=n:=zo;⟨(rf (true:Bool)),(rf (some (B 0))),(rf 0),(rf 0),(rf 0),(by rw[lu_o hK]),(rf n),(λj0 hj0=>(by rw[lu_P hK])),(rf n),(λj0 hj0=>⟨rfl,(λj1 hj1=>(by rw[lu_U hK,hi3]))⟩),(rf n),(λj0 hj0=>(by rw[lu_P hK])),(rf n),(λj0 hj0=>⟨rfl,(λj1 hj1=>(by rw[lu_L hK,lu_R hK,hi3]))⟩)⟩⟩⟩⟩⟩⟩)
def parS (L:Nat->Nat->Rat) (x:Nat->Rat) (t:Rat) (k:Nat):Nat->Rat
 | 0=>t
 | h+1=>parS L x t k h-L k h*x h
def fwS (L:Nat->Nat->Rat) (d:Nat->Rat) (f:Nat->Rat->Rat) (base:Nat->Rat):Nat->Nat->Rat
 | 0,j=>base j
 | k+1,j=>if j=k then f k (parS L (fwS L d f base k) (d k) k k) else fwS L d f base k j
def fwI (L:Nat->Nat->Rat) (d:Nat->Rat) (f:Nat->Rat->Rat) (base:Nat->Rat) (k h j:Nat):Rat:=if j=k then parS L (fwS L d f base k) (d k) k h else fwS L d f base k j
def bwP (U:Nat->Nat->Rat) (y:Nat->Rat) (t:Rat) (k:Nat):Nat->Rat
 | 0=>t
 | h+1=>bwP U y t k h-U k (k+1+h)*y (k+1+h)
def bwS (U:Nat->Nat->Rat) (z:Nat->Rat) (f:Nat->Rat->Rat) (n:Nat):Nat->Nat->Rat
 | 0,j=>z j
 | g+1,j=>if j=n-1-g then f (n-1-g) (bwP U (bwS U z f n g) (z (n-1-g)) (n-1-g) g) else bwS U z f n g j
def bwI (U:Nat->Nat->Rat) (z:Nat->Rat) (f:Nat->Rat->Rat) (n g h j:Nat):Rat:=if j=n-1-g then bwP U (bwS U z f n g) (z (n-1-g)) (n-1-g) h else bwS U z f n g j
section
variable {L U:Nat->Nat->Rat} {d base z:Nat->Rat} {f:Nat->Rat->Rat} {k h j n g:Nat}
theorem fwI_self:fwI L d f base k h k=parS L (fwS L d f base k) (d k) k h:=if_pos rfl
theorem fwI_other(e:j≠k):fwI L d f base k h j=fwS L d f base k j:=if_neg e
theorem fwI_at(e:h<k):fwI L d f base k h k-L k h*fwI L d f base k h h=fwI L d f base k (h+1) k:=by
 rw[fwI_self,fwI_self,fwI_other zo];rfl
theorem fwI_ne(e:j≠k):fwI L d f base k (h+1) j=fwI L d f base k h j:=by rw[fwI_other e,fwI_other e]
theorem fwI_zero(e:j≠k):fwI L d f base k 0 j=fwS L d f base k j:=fwI_other e
theorem fwI_put:d k=fwI L d f base k 0 k:=by rw[fwI_self];rfl
theorem fwS_at:f k (fwI L d f base k k k)=fwS L d f base (k+1) k:=by rw[fwI_self];exact(if_pos rfl).symm
theorem fwS_ne(e:j≠k):fwS L d f base (k+1) j=fwI L d f base k k j:=by rw[fwI_other e];exact if_neg e
theorem fwS_late(e:k<=j):fwS L d f base k j=base j:=by
 induction k with
 | zero=>rfl
 | succ k ih=>show(if j=k then _ else _)=_;rw[if_neg zo];exact ih zo
theorem fwI_start(hd:d=base):fwS L d f base k j=fwI L d f base k 0 j:=by
 by_cases e:j=k
 ·subst e;rw[fwI_self,fwS_late (Nat.le_refl j)];show base j=d j;rw[hd]
 ·exact(fwI_other e).symm
theorem fwI_all(hf:∀x,f k x=x):fwI L d f base k k j=fwS L d f base (k+1) j:=by
 by_cases e:j=k
 ·subst e;rw[←fwS_at,hf]
 ·exact(fwS_ne e).symm
theorem bwI_self:bwI U z f n g h (n-1-g)=bwP U (bwS U z f n g) (z (n-1-g)) (n-1-g) h:=if_pos rfl
theorem bwI_other(e:j≠n-1-g):bwI U z f n g h j=bwS U z f n g j:=if_neg e
theorem bwI_at:bwI U z f n g h (n-1-g)-U (n-1-g) (n-1-g+1+h)*bwI U z f n g h (n-1-g+1+h)=bwI U z f n g (h+1) (n-1-g):=by
 rw[bwI_self,bwI_self,bwI_other zo];rfl
theorem bwI_ne(e:j≠n-1-g):bwI U z f n g (h+1) j=bwI U z f n g h j:=by rw[bwI_other e,bwI_other e]
theorem bwS_at:f (n-1-g) (bwI U z f n g g (n-1-g))=bwS U z f n (g+1) (n-1-g):=by rw[bwI_self];exact(if_pos rfl).symm
theorem bwS_ne(e:j≠n-1-g):bwS U z f n (g+1) j=bwI U z f n g g j:=by rw[bwI_other e];exact if_neg e
theorem bwS_early(hg:g<=n)(e:j<n-g):bwS U z f n g j=z j:=by
 induction g with
 | zero=>rfl
 | succ g ih=>show(if j=n-1-g then _ else _)=_;rw[if_neg zo];exact ih zo zo
theorem bwI_start(hg:g<n):bwS U z f n g j=bwI U z f n g 0 j:=by
 by_cases e:j=n-1-g
 ·subst e;rw[bwI_self,bwS_early zo zo];rfl
 ·exact(bwI_other e).symm
theorem bwI_all(hf:∀x,f (n-1-g) x=x):bwI U z f n g g j=bwS U z f n (g+1) j:=by
 by_cases e:j=n-1-g
 ·subst e;rw[←bwS_at,hf]
 ·exact(bwS_ne e).symm
theorem fwS_stay(e:j<k):∀m,fwS L d f base (k+m) j=fwS L d f base k j
 | 0=>rfl
 | m+1=>by show(if j=k+m then _ else _)=_;rw[if_neg zo];exact fwS_stay e m
theorem fwS_final(e:j<k)(h:k<=n):fwS L d f base n j=fwS L d f base k j:=by
 have:=fwS_stay (L:=L) (d:=d) (f:=f) (base:=base) e (n-k)
 rwa [show k+(n-k)=n by omega] at this
theorem parS_sum{x:Nat->Rat}{t:Rat}:∀h,parS L x t k h+sumQ (λc=>L k c*x c) h=t
 | 0=>by show t+0=t;grind
 | h+1=>by
  have:=parS_sum (x:=x) (t:=t) h
  show parS L x t k h-L k h*x h+(sumQ _ h+L k h*x h)=t
  rw[←this];grind
theorem fw_eq(hk:k<n):parS L (fwS L d f base n) (d k) k k=d k-sumQ (λc=>L k c*fwS L d f base n c) k/\fwS L d f base n k=f k (parS L (fwS L d f base n) (d k) k k):=by
 refine⟨?_,?_⟩
 ·have:=parS_sum (L:=L) (k:=k) (x:=fwS L d f base n) (t:=d k) k
  rw[←this];grind
 ·rw[fwS_final (k:=k+1) (Nat.lt_succ_self k) hk]
  show(if k=k then _ else _)=_
  rw[if_pos rfl]
  congr 1
  have key:∀h,h<=k->parS L (fwS L d f base k) (d k) k h=parS L (fwS L d f base n) (d k) k h:=by
   intro h hh
   induction h with
   | zero=>rfl
   | succ h ih=>show parS L _ _ k h-_=parS L _ _ k h-_;rw[ih zo,fwS_final (n:=n) (k:=k) zo zo]
  exact key k (Nat.le_refl k)
theorem bwS_stay(e:n-1-g<=j)(hg:g<n):∀m,g+1+m<=n->bwS U z f n (g+1+m) j=bwS U z f n (g+1) j
 | 0,_=>rfl
 | m+1,h=>by show(if j=n-1-(g+1+m) then _ else _)=_;rw[if_neg zo];exact bwS_stay e hg m zo
theorem bwP_sum{x:Nat->Rat}{t:Rat}:∀h,bwP U x t k h+sumQ (λc=>U k (k+1+c)*x (k+1+c)) h=t
 | 0=>by show t+0=t;grind
 | h+1=>by
  have:=bwP_sum (x:=x) (t:=t) h
  show bwP U x t k h-U k (k+1+h)*x (k+1+h)+(sumQ _ h+U k (k+1+h)*x (k+1+h))=t
  rw[←this];grind
theorem bw_eq(hk:k<n):bwS U z f n n k=f k (z k-sumQ (λc=>U k (k+1+c)*bwS U z f n n (k+1+c)) (n-1-k)):=by
 have e:n-1-(n-1-k)=k:=by omega
 have h1:=bwS_stay (U:=U) (z:=z) (f:=f) (n:=n) (g:=n-1-k) (j:=k) zo zo (n-(n-1-k+1)) zo
 rw[show n-1-k+1+(n-(n-1-k+1))=n by omega] at h1
 rw[h1]
 show(if k=n-1-(n-1-k) then f (n-1-(n-1-k)) _ else _)=_
 rw[if_pos e.symm,e]
 congr 1
 have h2:=bwP_sum (U:=U) (k:=k) (x:=bwS U z f n (n-1-k)) (t:=z k) (n-1-k)
 have h3:sumQ (λc=>U k (k+1+c)*bwS U z f n (n-1-k) (k+1+c)) (n-1-k)=sumQ (λc=>U k (k+1+c)*bwS U z f n n (k+1+c)) (n-1-k):=zF _ λc hc=>by
  have h4:=bwS_stay (U:=U) (z:=z) (f:=f) (n:=n) (g:=n-2-k) (j:=k+1+c) zo zo (n-(n-2-k+1)) zo
  rw[show n-2-k+1+(n-(n-2-k+1))=n by omega,show n-2-k+1=n-1-k by omega] at h4
  rw[h4]
 rw[h3] at h2
 rw[←h2];grind
theorem kX(F:Nat->Rat)(a:Nat):∀m,sumQ F (a+m)=sumQ F a+sumQ (λc=>F (a+c)) m
 | 0=>by show sumQ F a=sumQ F a+0;grind
 | m+1=>by show sumQ F (a+m)+F (a+m)=_+(_+F (a+m));rw[kX F a m];grind
theorem fw_solves(hone:∀k,k<n->L k k=1)(hup:∀i k,i<n->i<k->L i k=0)(hf:∀k x,f k x=x)(hk:k<n):sumQ (λc=>L k c*fwS L d f base n c) n=d k:=by
 obtain⟨h1,h2⟩:=fw_eq (L:=L) (d:=d) (f:=f) (base:=base) hk
 rw[hf,h1] at h2
 rw[show n=k+1+(n-k-1) by omega,kX,zF (n-k-1) (g:=λ_=>0) λc hc=>by rw[hup k _ hk zo];grind,kK,show k+1+(n-k-1)=n by omega]
 show sumQ _ k+L k k*_+0=d k
 rw[hone k hk,h2];grind
theorem fw_divides(hp:∀k,k<n->L k k≠0)(hup:∀i k,i<n->k<n->i<k->L i k=0)(hf:∀k x,f k x=x/L k k)(hk:k<n):sumQ (λc=>L k c*fwS L d f base n c) n=d k:=by
 obtain⟨h1,h2⟩:=fw_eq (L:=L) (d:=d) (f:=f) (base:=base) hk
 rw[hf,h1] at h2
 rw[show n=k+1+(n-k-1) by omega,kX,zF (n-k-1) (g:=λ_=>0) λc hc=>by rw[hup k _ hk zo zo];grind,kK,show k+1+(n-k-1)=n by omega]
 show sumQ _ k+L k k*_+0=d k
 have h3:=Rat.div_mul_cancel (a:=d k-sumQ (λc=>L k c*fwS L d f base n c) k) (hp k hk)
 rw[←h2] at h3;grind
theorem bw_divides(hp:∀k,k<n->U k k≠0)(hlow:∀i k,i<n->k<n->k<i->U i k=0)(hf:∀k x,f k x=x/U k k)(hk:k<n):sumQ (λc=>U k c*bwS U z f n n c) n=z k:=by
 have h2:=bw_eq (U:=U) (z:=z) (f:=f) hk
 rw[hf] at h2
 rw[show n=k+(1+(n-1-k)) by omega,kX,zF k (g:=λ_=>0) λc hc=>by rw[hlow k c hk zo hc];grind,kK,kX,show k+(1+(n-1-k))=n by omega]
 show 0+(0+U k (k+0)*bwS U z f n n (k+0)+sumQ (λc=>U k (k+(1+c))*bwS U z f n n (k+(1+c))) (n-1-k))=z k
 rw[zF (n-1-k) (g:=λc=>U k (k+1+c)*bwS U z f n n (k+1+c)) λc _=>by rw[Nat.add_assoc],Nat.add_zero]
 have h3:=Rat.div_mul_cancel (a:=z k-sumQ (λc=>U k (k+1+c)*bwS U z f n n (k+1+c)) (n-1-k)) (hp k hk)
 rw[←h2] at h3;grind
theorem bw_solves(hone:∀k,k<n->U k k=1)(hlow:∀i k,i<n->k<n->k<i->U i k=0)(hf:∀k x,f k x=x)(hk:k<n):sumQ (λc=>U k c*bwS U z f n n c) n=z k:=by
 have h2:=bw_eq (U:=U) (z:=z) (f:=f) hk
 rw[hf] at h2
 rw[show n=k+(1+(n-1-k)) by omega,kX,zF k (g:=λ_=>0) λc hc=>by rw[hlow k c hk zo hc];grind,kK,kX,show k+(1+(n-1-k))=n by omega]
 show 0+(0+U k (k+0)*bwS U z f n n (k+0)+sumQ (λc=>U k (k+(1+c))*bwS U z f n n (k+(1+c))) (n-1-k))=z k
 rw[zF (n-1-k) (g:=λc=>U k (k+1+c)*bwS U z f n n (k+1+c)) λc _=>by rw[Nat.add_assoc],Nat.add_zero,hone k hk,h2];grind
theorem par_ht{x:Nat->Rat}{t:Rat}{S D E:Nat}(hL:∀c,c<k->htq (L k c)<=S)(ht:htq t<=D):∀h,h<=k->(∀c,c<h->htq (x c)+S+1<=2^c*E)->htq (parS L x t k h)+E<=D+2^h*E
 | 0,_,_=>by show htq t+E<=D+2^0*E;omega
 | h+1,hh,hx=>by
  have ih:=par_ht hL ht h zo λc hc=>hx c zo
  have h1:=ht_sub (parS L x t k h) (L k h*x h)
  have h2:=uG (L k h) (x h)
  have h3:=hL h zo
  have h4:=hx h (Nat.lt_succ_self h)
  show htq (parS L x t k h-L k h*x h)+E<=_
  rw[Nat.pow_succ,show 2^h*2*E=2^h*E+2^h*E by rw[Nat.mul_comm (2^h) 2,Nat.mul_assoc,Nat.two_mul]]
  omega
theorem fw_ht{S D:Nat}(hL:∀k,k<n->∀c,c<k->htq (L k c)<=S)(hd:∀k,k<n->htq (d k)<=D)(hf:∀k x,k<n->htq (f k x)<=htq x+S):∀k,k<=n->∀j,j<k->htq (fwS L d f base k j)+S+1<=2^j*(D+2*S+1)
 | 0,_,j,hj=>absurd hj (Nat.not_lt_zero j)
 | k+1,hk,j,hj=>by
  have ih:=fw_ht hL hd hf k zo
  show htq (if j=k then _ else _)+S+1<=_
  split
  ·rename_i e
   have h1:=par_ht (L:=L) (k:=k) (x:=fwS L d f base k) (t:=d k) (E:=D+2*S+1) (hL k zo) (hd k zo) k (Nat.le_refl k) ih
   have h2:=hf k (parS L (fwS L d f base k) (d k) k k) zo
   rw[e];omega
  ·exact ih j zo
theorem bwP_ht{x:Nat->Rat}{t:Rat}{S D E:Nat}(hU:∀c,c<n->htq (U k c)<=S)(ht:htq t<=D)(hg:k+1+g=n):∀h,h<=g->(∀c,c<h->htq (x (k+1+c))+S+1<=2^(g-1-c)*E)->htq (bwP U x t k h)+2^(g-h)*E<=D+2^g*E
 | 0,_,_=>by show htq t+_<=_;rw[Nat.sub_zero];omega
 | h+1,hh,hx=>by
  have ih:=bwP_ht hU ht hg h zo λc hc=>hx c zo
  have h1:=ht_sub (bwP U x t k h) (U k (k+1+h)*x (k+1+h))
  have h2:=uG (U k (k+1+h)) (x (k+1+h))
  have h3:=hU (k+1+h) zo
  have h4:=hx h (Nat.lt_succ_self h)
  show htq (bwP U x t k h-U k (k+1+h)*x (k+1+h))+2^(g-(h+1))*E<=_
  have e:2^(g-h)*E=2^(g-(h+1))*E+2^(g-(h+1))*E:=by
   rw[show g-h=(g-(h+1))+1 by omega,Nat.pow_succ,Nat.mul_comm _ 2,Nat.mul_assoc,Nat.two_mul]
  rw[show g-1-h=g-(h+1) by omega] at h4
  omega
theorem bw_ht{S D:Nat}(hU:∀k,k<n->∀c,c<n->htq (U k c)<=S)(hz:∀k,k<n->htq (z k)<=D)(hf:∀k x,k<n->htq (f k x)<=htq x+S):∀g,g<=n->∀i,i<g->htq (bwS U z f n g (n-1-i))+S+1<=2^i*(D+2*S+1)
 | 0,_,i,hi=>absurd hi (Nat.not_lt_zero i)
 | g+1,hg,i,hi=>by
  have ih:=bw_ht hU hz hf g zo
  show htq (if n-1-i=n-1-g then _ else _)+S+1<=_
  split
  ·rename_i e
   obtain rfl:i=g:=by omega
   have h1:=bwP_ht (U:=U) (n:=n) (k:=n-1-i) (g:=i) (x:=bwS U z f n i) (t:=z (n-1-i)) (E:=D+2*S+1) (hU _ zo) (hz _ zo) zo i (Nat.le_refl i) λc hc=>by
    have:=ih (i-1-c) zo
    rwa [show n-1-(i-1-c)=n-1-i+1+c by omega] at this
   rw[Nat.sub_self] at h1
   have h2:=hf (n-1-i) (bwP U (bwS U z f n i) (z (n-1-i)) (n-1-i) i) zo
   omega
  ·exact ih i zo
end
theorem sumQ_perm{n:Nat}{P ρ:Nat->Nat}(H:Bij n P ρ)(F:Nat->Rat):sumQ F n=sumQ (λi=>F (P i)) n:=by
 have h1:sumQ F n=sumQ (λr=>sumQ (λi=>if P i=r then F r else 0) n) n:=zF n λr hr=>by
  rw[jF (k:=ρ r) n (H.lt' r hr) λi _ hi=>if_neg λe=>hi (by rw[←e,H.inv]),if_pos (H.inv' r)]
 rw[h1,sumQ_comm (λr i=>if P i=r then F r else 0) n n]
 exact zF n λi hi=>by
  rw[jF (k:=P i) n (H.lt i hi) λr _ hr=>if_neg (Ne.symm hr),if_pos rfl]
def luZ (n:Nat) (L:Nat->Nat->Rat) (d:Nat->Rat):Nat->Rat:=fwS L d (λ_ x=>x) (λ_=>0) n
def luX (n:Nat) (U L:Nat->Nat->Rat) (d:Nat->Rat):Nat->Rat:=bwS U (luZ n L d) (λk x=>x/U k k) n n
def luY (n:Nat) (U:Nat->Nat->Rat) (c:Nat->Rat):Nat->Rat:=fwS (trM U) c (λk x=>x/U k k) c n
def luW (n:Nat) (U L:Nat->Nat->Rat) (c:Nat->Rat):Nat->Rat:=bwS (trM L) (luY n U c) (λ_ x=>x) n n
theorem sum_swap{n:Nat}{F:Nat->Nat->Rat}{x y:Nat->Rat}:sumQ (λj=>sumQ (λk=>x k*F k j) n*y j) n=sumQ (λk=>x k*sumQ (λj=>F k j*y j) n) n:=by
 rw[zF n (g:=λj=>sumQ (λk=>x k*(F k j*y j)) n) λj _=>by
  have:sumQ (λk=>x k*F k j) n*y j=y j*sumQ (λk=>x k*F k j) n:=by grind
  rw[this,←yT];exact zF n λk _=>by grind,sumQ_comm (λj k=>x k*(F k j*y j)) n n]
 exact zF n λk _=>yT _ _ _
theorem lu_solves{n:Nat}{A:Nat->Nat->Rat}{b:Nat->Rat}(h:luOK n A n){r:Nat}(hr:r<n):sumQ (λj=>A r j*luX n (luS n A n).1 (luS n A n).2.1 (λi=>b ((luS n A n).2.2.1 i)) j) n=b r:=by
 have hB:=lu_bij (n:=n) (A:=A) n (Nat.le_refl n) h
 have I:=lu_inv (n:=n) (A:=A) n (Nat.le_refl n) h
 have hp:∀j,j<n->A r j=sumQ (λk=>(luS n A n).2.1 ((luS n A n).2.2.2.1 r) k*(luS n A n).1 k j) n:=λj hj=>by
  rw[←lu_prod h (hB.lt' r hr) hj,hB.inv']
 rw[zF n λj hj=>by rw[hp j hj],sum_swap]
 rw[zF n (g:=λk=>(luS n A n).2.1 ((luS n A n).2.2.2.1 r) k*luZ n (luS n A n).2.1 (λi=>b ((luS n A n).2.2.1 i)) k) λk hk=>by
  rw[show sumQ (λj=>(luS n A n).1 k j*luX n (luS n A n).1 (luS n A n).2.1 (λi=>b ((luS n A n).2.2.1 i)) j) n=_ from bw_divides I.piv (λi k hi hk hki=>I.below i k hi hk hki) (λ_ _=>rfl) hk]]
 have:=fw_solves (base:=λ_=>0) (d:=λi=>b ((luS n A n).2.2.1 i)) (f:=λ_ x=>x) I.one (λi k hi hik=>I.above i k hi hik) (λ_ _=>rfl) (hB.lt' r hr)
 rw[hB.inv'] at this
 exact this
theorem lu_solvesT{n:Nat}{A:Nat->Nat->Rat}{c:Nat->Rat}(h:luOK n A n){j:Nat}(hj:j<n):sumQ (λr=>luW n (luS n A n).1 (luS n A n).2.1 c ((luS n A n).2.2.2.1 r)*A r j) n=c j:=by
 have hB:=lu_bij (n:=n) (A:=A) n (Nat.le_refl n) h
 have I:=lu_inv (n:=n) (A:=A) n (Nat.le_refl n) h
 rw[sumQ_perm hB]
 rw[zF n (g:=λi=>sumQ (λk=>(luS n A n).1 k j*(luS n A n).2.1 i k) n*luW n (luS n A n).1 (luS n A n).2.1 c i) λi hi=>by
  rw[lu_prod h hi hj,hB.inv]
  have:∀a b:Rat,a*b=b*a:=λa b=>by grind
  rw[this,zF n λk _=>this _ _]]
 rw[sum_swap (F:=λk i=>(luS n A n).2.1 i k)]
 rw[zF n (g:=λk=>trM (luS n A n).1 j k*luY n (luS n A n).1 c k) λk hk=>by
  rw[show sumQ (λi=>(luS n A n).2.1 i k*luW n (luS n A n).1 (luS n A n).2.1 c i) n=luY n (luS n A n).1 c k from bw_solves (U:=trM (luS n A n).2.1) I.one (λi k hi hk hki=>I.above k i hk hki) (λ_ _=>rfl) hk];rfl]
 exact fw_divides (L:=trM (luS n A n).1) (base:=c) (d:=c) I.piv (λi k hi hk hik=>I.below k i hk hi hik) (λ_ _=>rfl) hj
open Go.RowKit
theorem sCloneNil{a:Nat->Int}:CallOK Tryz.prog 62 [.ex sN] (.own 0 0) [.one (.row 3 1 (λi0=>iZ (a i0)) 0)]:=by
 exact kP (ch:=[.dec 4 true,.ret 2 [(0,.nil)]]) Tryz.func62 ((true=true)/\(_/\_))
  ⟨rfl,(rf 0),(rf 0)⟩
theorem sCloneSome{a:Nat->Int}{n:Nat}(h0:0<n)(hn:n<=68719476736):CallOK Tryz.prog 62 [.sl 1 (λi0=>iZ (a i0)) n] (.own 0 0) [.one (.row 3 1 (λi0=>iZ (a i0)) n)]:=by
 exact kP (ch:=[.dec 4 false,.reg 3 [(2,.row 0 (λi0=>iZ (a i0)))],.ret 3 [(0,.id 1)]]) Tryz.func62 ((∀j0,j0<n->True)/\(0<n)/\(false=false)/\(0+n<=68719476736)/\(∀j0,j0<0->(iZ (a j0):SV)=.any)/\(∀j0,j0<n->((a j0:Int)=(a (0+j0))))/\(_/\((0+n:Nat)=n)/\_))
  ⟨(λ_ _=>trivial),zo,rfl,zo,(λj0 hj0=>absurd hj0 (Nat.not_lt_zero j0)),(λj0 hj0=>by rw[Nat.zero_add]),(rf 0),zo,(leS (λi0=>iZ (a i0)) (0+n))⟩
theorem sCloneZero{a:Nat->Int}{ad:Addr}{c:Nat}:CallOK Tryz.prog 62 [.ex (.slice (some ad) 0 c)] (.own 0 0) [.one (.row 3 1 (λi0=>iZ (a i0)) 0)]:=by
 exact kP (ch:=[.dec 4 false,.reg 3 [(2,.row 0 (λi0=>iZ (a i0)))],.ret 3 [(0,.id 1)]]) Tryz.func62 ((false=false)/\(0+0<=68719476736)/\(∀j0,j0<0->(iZ (a j0):SV)=.any)/\(∀j0,j0<0->(False))/\(_/\((0+0:Nat)=0)/\_))
  ⟨rfl,zo,(λj0 hj0=>absurd hj0 (Nat.not_lt_zero j0)),(λj0 hj0=>absurd hj0 (Nat.not_lt_zero j0)),(rf 0),rfl,(leS (λi0=>iZ (a i0)) (0+0))⟩
theorem sClone{a:Nat->Int}{n:Nat}(hn:n<=68719476736):CallOK Tryz.prog 62 [.sl 1 (λi=>iZ (a i)) n] (.own 0 0) [.one (.row 3 1 (λi=>iZ (a i)) n)]:=by
 by_cases h:0<n
 ·exact sCloneSome h hn
 ·obtain rfl:n=0:=by omega
  refine⟨(sCloneNil (a:=a)).cal,λη0 F w vals hF hA=>?_⟩
  match vals,hA with
  | [v],hA=>
   obtain⟨A0,c,rfl,hz,_⟩:=hA.1
   cases A0 with
   | none=>
    obtain⟨_,rfl⟩:=hz rfl
    exact(sCloneNil (a:=a)).run η0 F w _ hF ⟨rfl,trivial⟩
   | some ad=>exact(sCloneZero (a:=a) (ad:=ad) (c:=c)).run η0 F w _ hF ⟨rfl,trivial⟩
  | [],hA=>exact hA.elim
  | _::_::_,hA=>exact hA.2.elim
open Go.RowKit
abbrev lvE (S:LuS) (n:Nat):SV:=.agg (.cn (.sl 1 (mE S.2.1 n) n) (.cn (.sl 1 (mE S.1 n) n) (.cn (.sl 1 (λi0=>iN (S.2.2.1 i0)) n) (.cn (bX S.2.2.2.2) .nl))))
theorem not_dec{P:Prop} [Decidable P](h:(!decide P)=false):P:=by simpa using h
theorem ok_next{n g:Nat}{q:Nat->Nat->Rat}(h:luOK n q g)(hk:luK n (luS n q g) g<n):luOK n q (g+1):=λk hk2=>by
 by_cases e:k=g
 ·rw[e];exact hk
 ·exact h k zo
def uI (U:Nat->Nat->Rat):Nat->Rat
 | 0=>1
 | k+1=>uI U k*U k k
section
variable {L U:Nat->Nat->Rat} {d base z:Nat->Rat} {f:Nat->Rat->Rat} {n g h:Nat}
theorem pow_le6{k E T:Nat}(hk:k<=6)(h:64*E<=T):2^k*E<=T:=Nat.le_trans (Nat.mul_le_mul_right _ (Nat.pow_le_pow_right zd hk)) h
theorem fw_top(hL:∀k,k<n->∀c,c<n->htq (L k c)<=30000)(hd:∀k,k<n->htq (d k)<=30000)(hf:∀k x,k<n->htq (f k x)<=htq x+30000)(hn:n<=6):∀j,j<n->htq (fwS L d f base n j)<=5800000:=λj hj=>by
 have h1:=fw_ht (base:=base) (λk hk c hc=>hL k hk c zo) hd hf n (Nat.le_refl n) j hj
 have h2:=pow_le6 (k:=j) (E:=30000+2*30000+1) (T:=5800000) zo zd
 omega
theorem fwI_ht(hL:∀k,k<n->∀c,c<n->htq (L k c)<=30000)(hd:∀k,k<n->htq (d k)<=30000)(hf:∀k x,k<n->htq (f k x)<=htq x+30000)(hn:n<=6)(hg:g<n)(hh:h<=g){j:Nat}(hj:j<=g):htq (fwI L d f base g h j)<=5830100:=by
 have h0:=fw_ht (base:=base) (λk hk c hc=>hL k hk c zo) hd hf g zo
 unfold fwI
 split
 ·have h1:=par_ht (λc hc=>hL g hg c zo) (hd g hg) h hh λc hc=>h0 c zo
  have h2:=pow_le6 (k:=h) (E:=30000+2*30000+1) (T:=5800000) zo zd
  omega
 ·have h1:=h0 j zo
  have h2:=pow_le6 (k:=j) (E:=30000+2*30000+1) (T:=5800000) zo zd
  omega
theorem room_ms{a b r:Rat}{S:Nat}(ha:htq a<=S)(hb:htq b<=S)(hr:htq r<=S)(hS:S<=1073741824):szq r+szq b<=17179869184/\szq a+szq (r*b)<=17179869184:=ht_room2 ha hb hr hS
theorem fw_room(hL:∀k,k<n->∀c,c<n->htq (L k c)<=30000)(hd:∀k,k<n->htq (d k)<=30000)(hf:∀k x,k<n->htq (f k x)<=htq x+30000)(hn:n<=6)(hg:g<n)(hh:h<g):szq (L g h)+szq (fwI L d f base g h h)<=17179869184/\szq (fwI L d f base g h g)+szq (L g h*fwI L d f base g h h)<=17179869184:=
 room_ms (S:=5830100) (fwI_ht hL hd hf hn hg zo (Nat.le_refl g)) (fwI_ht hL hd hf hn hg zo zo) (Nat.le_trans (hL g hg h zo) zd) zd
theorem fw_div(hL:∀k,k<n->∀c,c<n->htq (L k c)<=30000)(hd:∀k,k<n->htq (d k)<=30000)(hf:∀k x,k<n->htq (f k x)<=htq x+30000)(hn:n<=6)(hg:g<n)(hh:h<=g){u:Rat}(hu:htq u<=30000):szq (fwI L d f base g h g)+szq u+1<=17179869184:=by
 have h1:=fwI_ht (base:=base) hL hd hf hn hg hh (Nat.le_refl g)
 have:=xP (fwI L d f base g h g)
 have:=xP u
 omega
theorem bwI_ht(hU:∀k,k<n->∀c,c<n->htq (U k c)<=30000)(hz:∀j,j<n->htq (z j)<=5800000)(hf:∀k x,k<n->htq (f k x)<=htq x+30000)(hn:n<=6)(hg:g<n)(hh:h<=g){j:Nat}(hj:j<n)(hj2:n-1-g<=j):htq (bwI U z f n g h j)<=382000000:=by
 have h0:=bw_ht hU hz hf g zo
 unfold bwI
 split
 ·have h1:=bwP_ht (U:=U) (n:=n) (k:=n-1-g) (g:=g) (x:=bwS U z f n g) (t:=z (n-1-g)) (E:=5800000+2*30000+1) (hU _ zo) (hz _ zo) zo h hh λc hc=>by
   have:=h0 (g-1-c) zo
   rwa [show n-1-(g-1-c)=n-1-g+1+c by omega] at this
  have h2:=pow_le6 (k:=g) (E:=5800000+2*30000+1) (T:=376000000) zo zd
  omega
 ·have h1:=h0 (n-1-j) zo
  rw[show n-1-(n-1-j)=j by omega] at h1
  have h2:=pow_le6 (k:=n-1-j) (E:=5800000+2*30000+1) (T:=376000000) zo zd
  omega
theorem bw_room(hU:∀k,k<n->∀c,c<n->htq (U k c)<=30000)(hz:∀j,j<n->htq (z j)<=5800000)(hf:∀k x,k<n->htq (f k x)<=htq x+30000)(hn:n<=6)(hg:g<n)(hh:h<g):szq (U (n-1-g) (n-1-g+1+h))+szq (bwI U z f n g h (n-1-g+1+h))<=17179869184/\szq (bwI U z f n g h (n-1-g))+szq (U (n-1-g) (n-1-g+1+h)*bwI U z f n g h (n-1-g+1+h))<=17179869184:=
 room_ms (S:=382000000) (bwI_ht hU hz hf hn hg zo zo (Nat.le_refl _)) (bwI_ht hU hz hf hn hg zo zo zo) (Nat.le_trans (hU _ zo _ zo) zd) zd
theorem bw_div(hU:∀k,k<n->∀c,c<n->htq (U k c)<=30000)(hz:∀j,j<n->htq (z j)<=5800000)(hf:∀k x,k<n->htq (f k x)<=htq x+30000)(hn:n<=6)(hg:g<n)(hh:h<=g):szq (bwI U z f n g h (n-1-g))+szq (U (n-1-g) (n-1-g))+1<=17179869184:=by
 have h1:=bwI_ht hU hz hf hn hg hh (j:=n-1-g) zo (Nat.le_refl _)
 have h2:=hU (n-1-g) zo (n-1-g) zo
 have:=xP (bwI U z f n g h (n-1-g))
 have:=xP (U (n-1-g) (n-1-g))
 omega
end
def yP (ρ:Nat->Nat) (w:Nat->Rat) (g j:Nat):Rat:=if ρ j<g then w (ρ j) else 0
theorem yP_zero{ρ:Nat->Nat}{w:Nat->Rat}{j:Nat}:yP ρ w 0 j=0:=if_neg (Nat.not_lt_zero _)
theorem yP_all{ρ:Nat->Nat}{w:Nat->Rat}{n j:Nat}(h:ρ j<n):yP ρ w n j=w (ρ j):=if_pos h
theorem yP_at{n g:Nat}{P ρ:Nat->Nat}{w:Nat->Rat}(H:Bij n P ρ):w g=yP ρ w (g+1) (P g):=by
 unfold yP;rw[H.inv,if_pos (Nat.lt_succ_self g)]
theorem yP_ne{n g j:Nat}{P ρ:Nat->Nat}{w:Nat->Rat}(H:Bij n P ρ)(h:j≠P g):yP ρ w (g+1) j=yP ρ w g j:=by
 have:ρ j≠g:=λe=>h (by rw[←e,H.inv'])
 unfold yP
 by_cases k:ρ j<g
 ·rw[if_pos k,if_pos zo]
 ·rw[if_neg k,if_neg zo]
theorem sLuStepNo{U L:Nat->Nat->Rat}{P ρ:Nat->Nat}{o:Bool}{n c:Nat}(hn:n<=68719476736)(hc:c<n)(hk:¬luK n (U,L,P,ρ,o) c<n):CallOKm Tryz.prog 134 [.one (.var 194 (.agg (.cn (.own 1 0) (c3 (.own 2 0) (.own 3 0) (bX o))))),.one (.row 41 1 (λi0=>.own 4 (P i0)) n),cC U n,.one (.row 3 1 (λi0=>iN (P i0)) n),.fam n (λi0=>.row 76 3 (λi1=>.rat (L (ρ i0) i1)) n)] [.own 0 0,iN c] (bX false) [.one (.var 194 (.agg (.cn (.own 5 0) (c3 (.own 6 0) (.own 7 0) (bX o))))),.dead,.dead,.dead,.dead,.one (.row 41 1 (λi0=>.own 8 (P i0)) n),cC U n,.one (.row 3 1 (λi0=>iN (P i0)) n),.fam n (λi0=>.row 76 3 (λi1=>.rat (L (ρ i0) i1)) n)]:=by
 exact zZ (ch:=λB=>[.loop 2 (Nat) (λg=>c<=g/\g<=n/\yK U c c (n-c)=yK U c g (n-g)) (λg=>n-g) (λg=>⟨[(0,.own 0 0),(1,iN c),(5,iN g)],[(0,.one (.var 194 (.agg (.cn (.own 1 0) (c3 (.own 2 0) (.own 3 0) (bX o)))) (some (B 0)))),(1,.one (.row 41 1 (λi0=>.own 4 (P i0)) n)),(2,cC U n),(3,.one (.row 3 1 (λi0=>iN (P i0)) n)),(4,.fam n (λi0=>.row 76 3 (λi1=>.rat (L (ρ i0) i1)) n))],5⟩) [(0,.id 0),(1,.id 1),(2,.id 2),(3,.id 3),(4,.id 4)] (λ_=>[(0,.id 0),(1,.id 1),(2,.id 2),(3,.id 3),(4,.id 4)]) (λg=>[.reg 2 [(13,.k g),(16,.k c),(18,.callS (bX (decide (U g c=0))) [])],.reg 3 [(1,.z ((g+1:Nat):Int))],.dec 38 true,.ret 5 [(0,.id 0),(5,.id 1),(6,.id 2),(7,.id 3),(8,.id 4)]])]) hMix Tryz.func134 rfl zk zk zk (λB=>(((λX1 X2 X3 X4 X5 X6 X7 X8 X9 X10 X11 X12 X13:Prop=>∃g0:Nat,X1/\X2/\((c:Int)=(g0:Int))/\X3/\X4/\X5/\X6/\X7/\X8/\(∀j0,j0<n->((P j0:Nat)=(P j0)))/\X9/\X10/\X11/\X12/\X13/\(∀j0,j0<n->((n:Nat)=n)/\(∀j1,j1<n->((L (ρ j0) j1:Rat)=(L (ρ j0) j1))))/\(c<=g0/\g0<=n/\yK U c c (n-c)=yK U c g0 (n-g0))) _ _ _ _ _ _ _ _ _ _ _ _ _)/\∀g:Nat,(c<=g/\g<=n/\yK U c c (n-c)=yK U c g (n-g))->_/\_/\_/\_/\_/\(((decide ((g:Int)<(n:Int)))==true)=true->_)/\(((decide ((g:Int)<(n:Int)))==true)=true->g<n)/\_/\(((decide ((g:Int)<(n:Int)))==true)=true->g<n)/\_/\_/\(((decide ((g:Int)<(n:Int)))==true)=true->_)/\(((decide ((g:Int)<(n:Int)))==true)=true->c<n)/\_/\_/\(((decide ((g:Int)<(n:Int)))==true)=true->_)/\((decide ((g:Int)<(n:Int)))=true->((decide ((g:Int)<(n:Int)))==true)=true)/\(((bif (decide ((g:Int)<(n:Int))) then(decide (U g c=0)) else false)=true->(IntKind.wrap .i64 ((g:Int)+1)=(((g+1:Nat):Int)))/\((λX1 X2 X3 X4 X5 X6 X7 X8 X9 X10 X11 X12 X13:Prop=>∃g1:Nat,X1/\X2/\(((g+1:Nat):Int)=(g1:Int))/\X3/\X4/\X5/\X6/\X7/\X8/\(∀j0,j0<n->((P j0:Nat)=(P j0)))/\X9/\X10/\X11/\X12/\X13/\(∀j0,j0<n->((n:Nat)=n)/\(∀j1,j1<n->((L (ρ j0) j1:Rat)=(L (ρ j0) j1))))/\(c<=g1/\g1<=n/\yK U c c (n-c)=yK U c g1 (n-g1))/\(n-g1<n-g)) _ _ _ _ _ _ _ _ _ _ _ _ _))/\((bif (decide ((g:Int)<(n:Int))) then(decide (U g c=0)) else false)=false->((decide ((g:Int)=(n:Int)))=true)/\(_/\_/\_/\_/\_/\_/\_/\(∀j0,j0<n->((P j0:Nat)=(P j0)))/\_/\_/\_/\_/\_/\(∀j0,j0<n->((n:Nat)=n)/\(∀j1,j1<n->((L (ρ j0) j1:Rat)=(L (ρ j0) j1))))))))) (λB=>by kernel_rfl)
  (λB=>⟨⟨c,(rf 0),(rf (c:Int)),zo,(rf (some (B 0))),(rf 0),(rf 0),(rf 0),(rf (o:Bool)),(rf n),(λj0 hj0=>rfl),(rf n),(leS (mE U n) n),(rf n),(leS (λi0=>iN (P i0)) n),(rf n),(λj0 hj0=>⟨rfl,(λj1 hj1=>rfl)⟩),Nat.le_refl _,by omega,rfl⟩,λg hg0=>have hg1:=hg0.1;have hg2:=hg0.2.1;⟨(idB ((decide ((g:Int)<(n:Int)))==true)),(idB ((decide ((g:Int)<(n:Int)))==true)),(idB ((decide ((g:Int)<(n:Int)))==true)),(idB ((decide ((g:Int)<(n:Int)))==true)),(idB ((decide ((g:Int)<(n:Int)))==true)),(λhg=>(rf (g:Int))),(λhg=>(by have hg2:=of_guard hg;omega)),(idB ((decide ((g:Int)<(n:Int)))==true)),(λhg=>(by have hg2:=of_guard hg;omega)),(idB ((decide ((g:Int)<(n:Int)))==true)),(idB ((decide ((g:Int)<(n:Int)))==true)),(λhg=>(rf (c:Int))),(λhg=>zo),(idB ((decide ((g:Int)<(n:Int)))==true)),(idB ((decide ((g:Int)<(n:Int)))==true)),(λhg=>sRatZero (q:=U g c)),zs,λhc29=>have hz:=step_yes hc29;⟨(by rw[IntKind.wrap_i64];omega),g+1,(rf 0),(rf (c:Int)),zo,(rf (some (B 0))),(rf 0),(rf 0),(rf 0),(rf (o:Bool)),(rf n),(λj0 hj0=>rfl),(rf n),(leS (mE U n) n),(rf n),(leS (λi0=>iN (P i0)) n),(rf n),(λj0 hj0=>⟨rfl,(λj1 hj1=>rfl)⟩),⟨by omega,by omega,hg0.2.2.trans (leadK_step hz.1 hz.2)⟩,zo⟩,λhc29=>have hz:=step_no hg2 hc29;have hK:luK n (U,L,P,ρ,o) c=g:=step_K hg0.2.2 hz;have hgn:¬g<n:=(by rw[←hK];exact hk);⟨(by simp;omega),(rf (false:Bool)),(rf (some (B 0))),(rf 0),(rf 0),(rf 0),(rf (o:Bool)),(rf n),(λj0 hj0=>rfl),(rf n),(leS (mE U n) n),(rf n),(leS (λi0=>iN (P i0)) n),(rf n),(λj0 hj0=>⟨rfl,(λj1 hj1=>rfl)⟩)⟩⟩⟩)
def luT (n:Nat) (s:LuS) (c:Nat):LuS:=if luK n s c<n then zW n s c else s
theorem luT_yes{n:Nat}{s:LuS}{c:Nat}(h:luK n s c<n):luT n s c=zW n s c:=if_pos h
theorem sLuStepT{U L:Nat->Nat->Rat}{P ρ:Nat->Nat}{o:Bool}{n c:Nat}(hn:n<=68719476736)(hc:c<n)(hB:Bij n P ρ)(hH:HtB n n 100000000 U):CallOKm Tryz.prog 134 [.one (.var 194 (.agg (.cn (.own 1 0) (c3 (.own 2 0) (.own 3 0) (bX o))))),.one (.row 41 1 (λi0=>.own 4 (P i0)) n),cC U n,.one (.row 3 1 (λi0=>iN (P i0)) n),.fam n (λi0=>.row 76 3 (λi1=>.rat (L (ρ i0) i1)) n)] [.own 0 0,iN c] (bX (decide (luK n (U,L,P,ρ,o) c<n))) [.one (.var 194 (.agg (.cn (.own 5 0) (c3 (.own 6 0) (.own 7 0) (bX ((luT n (U,L,P,ρ,o) c).2.2.2.2)))))),.dead,.dead,.dead,.dead,.one (.row 41 1 (λi0=>.own 8 ((luT n (U,L,P,ρ,o) c).2.2.1 i0)) n),cC ((luT n (U,L,P,ρ,o) c).1) n,.one (.row 3 1 (λi0=>iN ((luT n (U,L,P,ρ,o) c).2.2.1 i0)) n),.fam n (λi0=>.row 76 3 (λi1=>.rat ((luT n (U,L,P,ρ,o) c).2.1 ((luT n (U,L,P,ρ,o) c).2.2.2.1 i0) i1)) n)]:=by
 by_cases h:luK n (U,L,P,ρ,o) c<n
 ·rw[decide_eq_true h,luT_yes h]
  exact sLuStep hn hc hB hH h
 ·rw[decide_eq_false h,show luT n (U,L,P,ρ,o) c=(U,L,P,ρ,o) from if_neg h]
  exact sLuStepNo hn hc h
theorem sLuFactor{q:Nat->Nat->Rat}{n:Nat}(hn:n<=64)(hH:∀c,c<=n->luOK n q c->HtB n n 100000000 (luS n q c).1)(hok:luOK n q n):CallOK Tryz.prog 112 [.agg (c2 (.sl 1 (mE q n) n) (iN n))] (c2 (.ep (lvE (luS n q n) n)) (bX true)) []:=by
 exact kP (ch:=[.reg 1 [(1,.callS (iN n) [])],.reg 2 [(2,.callS (iN n) [])],.dec 15 false,.loop 6 (Nat) (λg=>g<=n) (λg=>n-g) (λg=>⟨[(1,.own 0 0),(4,iN n),(5,.own 1 0),(18,iN n),(19,iN g)],[(0,.one (.var 39 (.agg (c2 (.sl 1 (mE q n) n) (iN n))))),(1,.one (.var 194 (.agg (.cn (.own 2 0) (c3 (.own 3 0) (.own 4 0) (bX false)))))),(2,.one (.row 41 1 (λi0=>.own 5 i0) g)),(3,.one (.row 41 1 (mE q n) g)),(4,.one (.row 3 1 (λi0=>iN i0) g)),(5,.fam g (λ_=>.row 76 3 (λ_=>.rat 0) n))],6⟩) [(0,.id 0),(1,.id 1),(2,.nil),(3,.nil),(4,.nil),(5,.emp)] (λg=>[(0,.id 0),(1,.id 1),(2,.id 8),(3,.id 6),(4,.id 9),(5,.put 5 g 7)]) (λg=>[.reg 8 [(2,.callS (c2 (.sl 3 (λi0=>.rat (q g i0)) n) (bX true)) [])],.reg 9 [(7,.row 0 (mE q n))],.reg 10 [(6,.row n (λ_=>.rat 0)),(8,.row 0 (λi0=>.own (if i0<g then 5 else 7) (if i0<g then i0 else 0)))],.reg 11 [(7,.row 0 (λi0=>iN i0))],.reg 12 [(0,.z ((g+1:Nat):Int))],.loop 14 (Nat) (λg=>g<=n) (λg=>n-g) (λg=>⟨[(5,.own 1 0),(60,iN n),(61,iN g)],[(0,.one (.var 39 (.agg (c2 (.sl 1 (mE q n) n) (iN n))))),(1,.one (.var 194 (.agg (.cn (.own 2 0) (c3 (.own 3 0) (.own 4 0) (bX ((luS n q g).2.2.2.2))))))),(2,.one (.row 41 1 (λi0=>.own 5 ((luS n q g).2.2.1 i0)) n)),(3,cC ((luS n q g).1) n),(4,.one (.row 3 1 (λi0=>iN ((luS n q g).2.2.1 i0)) n)),(5,.fam n (λi0=>.row 76 3 (λi1=>.rat ((luS n q g).2.1 ((luS n q g).2.2.2.1 i0) i1)) n))],6⟩) [(0,.id 0),(1,.id 1),(2,.id 2),(3,.id 3),(4,.id 4),(5,.id 5)] (λ_=>[(0,.id 0),(1,.id 1),(2,.id 6),(3,.id 7),(4,.id 8),(5,.id 9)]) (λg=>[.reg 16 [(2,.callM [1,2,3,4,5] [.one (.var 194 (.agg (.cn (.own 1 0) (c3 (.own 2 0) (.own 3 0) (bX ((luS n q g).2.2.2.2)))))),.one (.row 41 1 (λi0=>.own 4 ((luS n q g).2.2.1 i0)) n),cC ((luS n q g).1) n,.one (.row 3 1 (λi0=>iN ((luS n q g).2.2.1 i0)) n),.fam n (λi0=>.row 76 3 (λi1=>.rat ((luS n q g).2.1 ((luS n q g).2.2.2.1 i0) i1)) n)] [.own 0 0,iN g] (bX true) [.one (.var 194 (.agg (.cn (.own 5 0) (c3 (.own 6 0) (.own 7 0) (bX ((zW n (luS n q g) g).2.2.2.2)))))),.dead,.dead,.dead,.dead,.one (.row 41 1 (λi0=>.own 8 ((zW n (luS n q g) g).2.2.1 i0)) n),cC ((zW n (luS n q g) g).1) n,.one (.row 3 1 (λi0=>iN ((zW n (luS n q g) g).2.2.1 i0)) n),.fam n (λi0=>.row 76 3 (λi1=>.rat ((zW n (luS n q g) g).2.1 ((zW n (luS n q g) g).2.2.2.1 i0) i1)) n)])],.dec 67 false,.reg 18 [(0,.z ((g+1:Nat):Int))],.conv 19 [(1,.id 1)] ⟨[(5,.own 1 0)],[(1,.one (.var 194 (lvE (luS n q g) n)))],2⟩])])]) Tryz.func112 ((∀j0,j0<n->(∀j1,j1<n->True))/\_/\_/\((!decide ((n:Int)=(n:Int)))=false)/\(((λX1 X2 X3 X4 X5 X6 X7 X8 X9 X10 X11:Prop=>∃g0:Nat,X1/\X2/\X3/\X4/\((0:Int)=(g0:Int))/\X5/\X6/\X7/\X8/\X9/\X10/\X11/\((g0:Nat)=0)/\((g0:Nat)=0)/\((g0:Nat)=0)/\((g0:Nat)=0)/\(g0<=n)) _ _ _ _ _ _ _ _ _ _ _)/\∀g:Nat,(g<=n)->(((decide ((g:Int)<(n:Int)))=true->_/\(g+1<=68719476736)/\_/\_/\_/\_/\(n<=68719476736)/\(∀j0,j0<n->((0:Rat)=0))/\(g+1<=68719476736)/\(∀j0,j0<g->(.own (if j0<g then 5 else 7) (if j0<g then j0 else 0):SV)=.own 5 j0)/\(∀j0,j0<1->((7:Nat)=(if g+j0<g then 5 else 7))/\((0:Nat)=(if g+j0<g then g+j0 else 0)))/\(g+1<=68719476736)/\_/\_/\_/\((λX1 X2 X3 X4 X5 X6 X7 X8 X9 X10 X11 X12 X13 X14:Prop=>∃g1:Nat,X1/\X2/\X3/\X4/\(((g+1:Nat):Int)=(g1:Int))/\X5/\X6/\X7/\X8/\X9/\X10/\X11/\((g+1:Nat)=g1)/\(∀j0,j0<(g+1)->(((if j0<g then 5 else 7:Nat)=7/\(if j0<g then j0 else 0:Nat)=0/\(j0:Nat)=g)∨((if j0<g then 5 else 7:Nat)=5/\(if j0<g then j0 else 0:Nat)=j0/\(j0:Nat)≠g)))/\((g+1:Nat)=g1)/\X12/\((g+1:Nat)=g1)/\X13/\((g1:Nat)=g+1)/\X14/\(((n:Nat)=n)/\(∀j1,j1<n->((0:Rat)=0)))/\(∀j0,j0<g->((n:Nat)=n)/\(∀j1,j1<n->((0:Rat)=0)))/\(g1<=n)/\(n-g1<n-g)) _ _ _ _ _ _ _ _ _ _ _ _ _ _))/\((decide ((g:Int)<(n:Int)))=false->(((λX1 X2 X3 X4 X5 X6 X7 X8:Prop=>∃g0:Nat,X1/\X2/\((0:Int)=(g0:Int))/\X3/\X4/\X5/\X6/\X7/\X8/\((false:Bool)=((luS n q g0).2.2.2.2))/\((g:Nat)=n)/\(∀j0,j0<g->((j0:Nat)=((luS n q g0).2.2.1 j0)))/\((g:Nat)=n)/\(∀j0,j0<g->((n:Nat)=n)/\(∀j1,j1<n->((q j0 j1:Rat)=(((luS n q g0).1) j0 j1))))/\((g:Nat)=n)/\(∀j0,j0<g->((j0:Int)=(((luS n q g0).2.2.1 j0:Nat):Int)))/\((g:Nat)=n)/\(∀j0,j0<g->((n:Nat)=n)/\(∀j1,j1<n->((0:Rat)=((luS n q g0).2.1 ((luS n q g0).2.2.2.1 j0) j1))))/\(g0<=n)) _ _ _ _ _ _ _ _)/\∀g:Nat,(g<=n)->(((decide ((g:Int)<(n:Int)))=true->(CallOKm Tryz.prog 134 [.one (.var 194 (.agg (.cn (.own 1 0) (c3 (.own 2 0) (.own 3 0) (bX ((luS n q g).2.2.2.2)))))),.one (.row 41 1 (λi0=>.own 4 ((luS n q g).2.2.1 i0)) n),cC ((luS n q g).1) n,.one (.row 3 1 (λi0=>iN ((luS n q g).2.2.1 i0)) n),.fam n (λi0=>.row 76 3 (λi1=>.rat ((luS n q g).2.1 ((luS n q g).2.2.2.1 i0) i1)) n)] [.own 0 0,iN g] (bX true) [.one (.var 194 (.agg (.cn (.own 5 0) (c3 (.own 6 0) (.own 7 0) (bX ((zW n (luS n q g) g).2.2.2.2)))))),.dead,.dead,.dead,.dead,.one (.row 41 1 (λi0=>.own 8 ((zW n (luS n q g) g).2.2.1 i0)) n),cC ((zW n (luS n q g) g).1) n,.one (.row 3 1 (λi0=>iN ((zW n (luS n q g) g).2.2.1 i0)) n),.fam n (λi0=>.row 76 3 (λi1=>.rat ((zW n (luS n q g) g).2.1 ((zW n (luS n q g) g).2.2.2.1 i0) i1)) n)])/\_/\_/\_/\_/\_/\_/\_/\_/\((!true)=false)/\_/\((λX1 X2 X3 X4 X5 X6 X7 X8 X9 X10 X11 X12:Prop=>∃g1:Nat,X1/\X2/\(((g+1:Nat):Int)=(g1:Int))/\X3/\X4/\X5/\X6/\X7/\X8/\(((zW n (luS n q g) g).2.2.2.2:Bool)=((luS n q g1).2.2.2.2))/\X9/\(∀j0,j0<n->(((zW n (luS n q g) g).2.2.1 j0:Nat)=((luS n q g1).2.2.1 j0)))/\X10/\(∀j0,j0<n->((n:Nat)=n)/\(∀j1,j1<n->((((zW n (luS n q g) g).1) j0 j1:Rat)=(((luS n q g1).1) j0 j1))))/\X11/\(∀j0,j0<n->((((zW n (luS n q g) g).2.2.1 j0:Nat):Int)=(((luS n q g1).2.2.1 j0:Nat):Int)))/\X12/\(∀j0,j0<n->((n:Nat)=n)/\(∀j1,j1<n->(((zW n (luS n q g) g).2.1 ((zW n (luS n q g) g).2.2.2.1 j0) j1:Rat)=((luS n q g1).2.1 ((luS n q g1).2.2.2.1 j0) j1))))/\(g1<=n)/\(n-g1<n-g)) _ _ _ _ _ _ _ _ _ _ _ _))/\((decide ((g:Int)<(n:Int)))=false->_/\_/\(∀j0,j0<n->((n:Nat)=n)/\(∀j1,j1<n->(((luS n q g).2.1 ((luS n q g).2.2.2.1 ((luS n q g).2.2.1 j0)) j1:Rat)=((luS n q g).2.1 j0 j1)))/\(((luS n q g).2.2.1 j0)<n))/\_/\_/\_/\_/\_/\(_/\(∀j0,j0<n->((n:Nat)=n)/\(∀j1,j1<n->(((luS n q g).2.1 j0 j1:Rat)=((luS n q n).2.1 j0 j1))))/\_/\(∀j0,j0<n->((n:Nat)=n)/\(∀j1,j1<n->((((luS n q g).1) j0 j1:Rat)=(((luS n q n).1) j0 j1))))/\_/\(∀j0,j0<n->((((luS n q g).2.2.1 j0:Nat):Int)=(((luS n q n).2.2.1 j0:Nat):Int)))/\(((luS n q g).2.2.2.2:Bool)=((luS n q n).2.2.2.2))/\_))))))))
  ⟨(λ_ _=>(λ_ _=>trivial)),kT (m:=n) (n:=n) (q:=q),sMatCols (m:=n) (n:=n) (q:=q),zs,⟨0,(rf 0),(rf (n:Int)),(rf 0),(rf (n:Int)),zo,(rf n),(leS (mE q n) n),(rf (n:Int)),(rf 0),(rf 0),(rf 0),(rf (false:Bool)),zo,zo,zo,zo,zo⟩,λg hg=>⟨λhc20=>have hc20:=dT hc20;⟨sMatRow (m:=n) (n:=n) (r:=g) (q:=q) zo zo,zo,(oldS (mE q n) g),(newS (mE q n) g),(rf (n:Int)),(rf (n:Int)),zo,(λj0 hj0=>rfl),zo,(λj0 hj0=>by rw[if_pos hj0,if_pos hj0]),(λj0 hj0=>⟨(by rw[if_neg zo]),(by rw[if_neg zo])⟩),zo,(oldS (λi0=>iN i0) g),(newS (λi0=>iN i0) g),(wI (g:=g) zo),g+1,(rf 0),(rf (n:Int)),(rf 0),(rf (n:Int)),zo,(rf n),(leS (mE q n) n),(rf (n:Int)),(rf 0),(rf 0),(rf 0),(rf (false:Bool)),zo,(λj0 hj0=>(by first | omega | (split<;>omega))),zo,(leS (mE q n) (g+1)),zo,(leS (λi0=>iN i0) (g+1)),zo,(rf g),⟨rfl,(λj1 hj1=>rfl)⟩,(λj0 hj0=>⟨rfl,(λj1 hj1=>rfl)⟩),zo,zo⟩,λhc20=>have hc20:=dF hc20;have hi2:g=n:=zo;⟨⟨0,(rf 0),(rf (n:Int)),zo,(rf n),(leS (mE q n) n),(rf (n:Int)),(rf 0),(rf 0),(rf 0),rfl,hi2,(λj0 hj0=>rfl),hi2,(λj0 hj0=>⟨rfl,(λj1 hj1=>rfl)⟩),hi2,(λj0 hj0=>rfl),hi2,(λj0 hj0=>⟨rfl,(λj1 hj1=>rfl)⟩),zo⟩,λg hg0=>have hg1:=hg0;⟨λhc62=>have hc62:=dT hc62;⟨sLuStep (U:=(luS n q g).1) (L:=(luS n q g).2.1) (P:=(luS n q g).2.2.1) (ρ:=(luS n q g).2.2.2.1) (o:=(luS n q g).2.2.2.2) zo zo (lu_bij g zo (λk hk=>hok k zo)) (hH g zo (λk hk=>hok k zo)) (hok g zo),(rf (.one (.var 194 (.agg (.cn (.own 2 0) (c3 (.own 3 0) (.own 4 0) (bX ((luS n q g).2.2.2.2)))))):Hl)),(rf (.one (.row 41 1 (λi0=>.own 5 ((luS n q g).2.2.1 i0)) n):Hl)),(rf (cC ((luS n q g).1) n:Hl)),(rf (.one (.row 3 1 (λi0=>iN ((luS n q g).2.2.1 i0)) n):Hl)),(rf (.fam n (λi0=>.row 76 3 (λi1=>.rat ((luS n q g).2.1 ((luS n q g).2.2.2.1 i0) i1)) n):Hl)),(rf 1),(rf 0),(rf (g:Int)),rfl,(wI (g:=g) zo),g+1,(rf 0),(rf (n:Int)),zo,(rf n),(leS (mE q n) n),(rf (n:Int)),(rf 0),(rf 0),(rf 0),rfl,(rf n),(λj0 hj0=>rfl),(rf n),(λj0 hj0=>⟨rfl,(λj1 hj1=>rfl)⟩),(rf n),(λj0 hj0=>rfl),(rf n),(λj0 hj0=>⟨rfl,(λj1 hj1=>rfl)⟩),zo,zo⟩,λhc62=>have hc62:=dF hc62;have hi3:g=n:=zo;⟨(rf 0),(rf n),(λj0 hj0=>⟨rfl,(λj1 hj1=>(by rw[(lu_bij g zo (λk hk=>hok k zo)).inv])),((lu_bij g zo (λk hk=>hok k zo)).lt j0 hj0)⟩),(rf n),(leS (mE ((luS n q g).1) n) n),(rf n),(leS (λi0=>iN ((luS n q g).2.2.1 i0)) n),(rf ((luS n q g).2.2.2.2:Bool)),(rf n),(λj0 hj0=>⟨rfl,(λj1 hj1=>(by rw[hi3]))⟩),(rf n),(λj0 hj0=>⟨rfl,(λj1 hj1=>(by rw[hi3]))⟩),(rf n),(λj0 hj0=>(by rw[hi3])),(by rw[hi3]),(rf (true:Bool))⟩⟩⟩⟩⟩
theorem sLuFactorSing{q:Nat->Nat->Rat}{n:Nat}(hn:n<=64)(hH:∀c,c<=n->luOK n q c->HtB n n 100000000 (luS n q c).1)(hno:¬luOK n q n):CallOK Tryz.prog 112 [.agg (c2 (.sl 1 (mE q n) n) (iN n))] (c2 (.ex (.pointer none)) (bX false)) []:=by
 exact kP (ch:=[.reg 1 [(1,.callS (iN n) [])],.reg 2 [(2,.callS (iN n) [])],.dec 15 false,.loop 6 (Nat) (λg=>g<=n) (λg=>n-g) (λg=>⟨[(1,.own 0 0),(4,iN n),(5,.own 1 0),(18,iN n),(19,iN g)],[(0,.one (.var 39 (.agg (c2 (.sl 1 (mE q n) n) (iN n))))),(1,.one (.var 194 (.agg (.cn (.own 2 0) (c3 (.own 3 0) (.own 4 0) (bX false)))))),(2,.one (.row 41 1 (λi0=>.own 5 i0) g)),(3,.one (.row 41 1 (mE q n) g)),(4,.one (.row 3 1 (λi0=>iN i0) g)),(5,.fam g (λ_=>.row 76 3 (λ_=>.rat 0) n))],6⟩) [(0,.id 0),(1,.id 1),(2,.nil),(3,.nil),(4,.nil),(5,.emp)] (λg=>[(0,.id 0),(1,.id 1),(2,.id 8),(3,.id 6),(4,.id 9),(5,.put 5 g 7)]) (λg=>[.reg 8 [(2,.callS (c2 (.sl 3 (λi0=>.rat (q g i0)) n) (bX true)) [])],.reg 9 [(7,.row 0 (mE q n))],.reg 10 [(6,.row n (λ_=>.rat 0)),(8,.row 0 (λi0=>.own (if i0<g then 5 else 7) (if i0<g then i0 else 0)))],.reg 11 [(7,.row 0 (λi0=>iN i0))],.reg 12 [(0,.z ((g+1:Nat):Int))],.loop 14 (Nat) (λg=>g<=n/\luOK n q g) (λg=>n-g) (λg=>⟨[(5,.own 1 0),(60,iN n),(61,iN g)],[(0,.one (.var 39 (.agg (c2 (.sl 1 (mE q n) n) (iN n))))),(1,.one (.var 194 (.agg (.cn (.own 2 0) (c3 (.own 3 0) (.own 4 0) (bX ((luS n q g).2.2.2.2))))))),(2,.one (.row 41 1 (λi0=>.own 5 ((luS n q g).2.2.1 i0)) n)),(3,cC ((luS n q g).1) n),(4,.one (.row 3 1 (λi0=>iN ((luS n q g).2.2.1 i0)) n)),(5,.fam n (λi0=>.row 76 3 (λi1=>.rat ((luS n q g).2.1 ((luS n q g).2.2.2.1 i0) i1)) n))],6⟩) [(0,.id 0),(1,.id 1),(2,.id 2),(3,.id 3),(4,.id 4),(5,.id 5)] (λ_=>[(0,.id 0),(1,.id 1),(2,.id 6),(3,.id 7),(4,.id 8),(5,.id 9)]) (λg=>[.reg 16 [(2,.callM [1,2,3,4,5] [.one (.var 194 (.agg (.cn (.own 1 0) (c3 (.own 2 0) (.own 3 0) (bX ((luS n q g).2.2.2.2)))))),.one (.row 41 1 (λi0=>.own 4 ((luS n q g).2.2.1 i0)) n),cC ((luS n q g).1) n,.one (.row 3 1 (λi0=>iN ((luS n q g).2.2.1 i0)) n),.fam n (λi0=>.row 76 3 (λi1=>.rat ((luS n q g).2.1 ((luS n q g).2.2.2.1 i0) i1)) n)] [.own 0 0,iN g] (bX (decide (luK n (luS n q g) g<n))) [.one (.var 194 (.agg (.cn (.own 5 0) (c3 (.own 6 0) (.own 7 0) (bX ((luT n (luS n q g) g).2.2.2.2)))))),.dead,.dead,.dead,.dead,.one (.row 41 1 (λi0=>.own 8 ((luT n (luS n q g) g).2.2.1 i0)) n),cC ((luT n (luS n q g) g).1) n,.one (.row 3 1 (λi0=>iN ((luT n (luS n q g) g).2.2.1 i0)) n),.fam n (λi0=>.row 76 3 (λi1=>.rat ((luT n (luS n q g) g).2.1 ((luT n (luS n q g) g).2.2.2.1 i0) i1)) n)])],.reg 18 [(0,.z ((g+1:Nat):Int))]])])]) Tryz.func112 ((∀j0,j0<n->(∀j1,j1<n->True))/\_/\_/\((!decide ((n:Int)=(n:Int)))=false)/\(((λX1 X2 X3 X4 X5 X6 X7 X8 X9 X10 X11:Prop=>∃g0:Nat,X1/\X2/\X3/\X4/\((0:Int)=(g0:Int))/\X5/\X6/\X7/\X8/\X9/\X10/\X11/\((g0:Nat)=0)/\((g0:Nat)=0)/\((g0:Nat)=0)/\((g0:Nat)=0)/\(g0<=n)) _ _ _ _ _ _ _ _ _ _ _)/\∀g:Nat,(g<=n)->(((decide ((g:Int)<(n:Int)))=true->_/\(g+1<=68719476736)/\_/\_/\_/\_/\(n<=68719476736)/\(∀j0,j0<n->((0:Rat)=0))/\(g+1<=68719476736)/\(∀j0,j0<g->(.own (if j0<g then 5 else 7) (if j0<g then j0 else 0):SV)=.own 5 j0)/\(∀j0,j0<1->((7:Nat)=(if g+j0<g then 5 else 7))/\((0:Nat)=(if g+j0<g then g+j0 else 0)))/\(g+1<=68719476736)/\_/\_/\_/\((λX1 X2 X3 X4 X5 X6 X7 X8 X9 X10 X11 X12 X13 X14:Prop=>∃g1:Nat,X1/\X2/\X3/\X4/\(((g+1:Nat):Int)=(g1:Int))/\X5/\X6/\X7/\X8/\X9/\X10/\X11/\((g+1:Nat)=g1)/\(∀j0,j0<(g+1)->(((if j0<g then 5 else 7:Nat)=7/\(if j0<g then j0 else 0:Nat)=0/\(j0:Nat)=g)∨((if j0<g then 5 else 7:Nat)=5/\(if j0<g then j0 else 0:Nat)=j0/\(j0:Nat)≠g)))/\((g+1:Nat)=g1)/\X12/\((g+1:Nat)=g1)/\X13/\((g1:Nat)=g+1)/\X14/\(((n:Nat)=n)/\(∀j1,j1<n->((0:Rat)=0)))/\(∀j0,j0<g->((n:Nat)=n)/\(∀j1,j1<n->((0:Rat)=0)))/\(g1<=n)/\(n-g1<n-g)) _ _ _ _ _ _ _ _ _ _ _ _ _ _))/\((decide ((g:Int)<(n:Int)))=false->(((λX1 X2 X3 X4 X5 X6 X7 X8:Prop=>∃g0:Nat,X1/\X2/\((0:Int)=(g0:Int))/\X3/\X4/\X5/\X6/\X7/\X8/\((false:Bool)=((luS n q g0).2.2.2.2))/\((g:Nat)=n)/\(∀j0,j0<g->((j0:Nat)=((luS n q g0).2.2.1 j0)))/\((g:Nat)=n)/\(∀j0,j0<g->((n:Nat)=n)/\(∀j1,j1<n->((q j0 j1:Rat)=(((luS n q g0).1) j0 j1))))/\((g:Nat)=n)/\(∀j0,j0<g->((j0:Int)=(((luS n q g0).2.2.1 j0:Nat):Int)))/\((g:Nat)=n)/\(∀j0,j0<g->((n:Nat)=n)/\(∀j1,j1<n->((0:Rat)=((luS n q g0).2.1 ((luS n q g0).2.2.2.1 j0) j1))))/\(g0<=n/\luOK n q g0)) _ _ _ _ _ _ _ _)/\∀g:Nat,(g<=n/\luOK n q g)->(((decide ((g:Int)<(n:Int)))=true->(CallOKm Tryz.prog 134 [.one (.var 194 (.agg (.cn (.own 1 0) (c3 (.own 2 0) (.own 3 0) (bX ((luS n q g).2.2.2.2)))))),.one (.row 41 1 (λi0=>.own 4 ((luS n q g).2.2.1 i0)) n),cC ((luS n q g).1) n,.one (.row 3 1 (λi0=>iN ((luS n q g).2.2.1 i0)) n),.fam n (λi0=>.row 76 3 (λi1=>.rat ((luS n q g).2.1 ((luS n q g).2.2.2.1 i0) i1)) n)] [.own 0 0,iN g] (bX (decide (luK n (luS n q g) g<n))) [.one (.var 194 (.agg (.cn (.own 5 0) (c3 (.own 6 0) (.own 7 0) (bX ((luT n (luS n q g) g).2.2.2.2)))))),.dead,.dead,.dead,.dead,.one (.row 41 1 (λi0=>.own 8 ((luT n (luS n q g) g).2.2.1 i0)) n),cC ((luT n (luS n q g) g).1) n,.one (.row 3 1 (λi0=>iN ((luT n (luS n q g) g).2.2.1 i0)) n),.fam n (λi0=>.row 76 3 (λi1=>.rat ((luT n (luS n q g) g).2.1 ((luT n (luS n q g) g).2.2.2.1 i0) i1)) n)])/\_/\_/\_/\_/\_/\_/\_/\_/\(((!(decide (luK n (luS n q g) g<n)))=true->(((.pointer none:Value)=.pointer none)/\_))/\((!(decide (luK n (luS n q g) g<n)))=false->_/\((λX1 X2 X3 X4 X5 X6 X7 X8 X9 X10 X11 X12:Prop=>∃g1:Nat,X1/\X2/\(((g+1:Nat):Int)=(g1:Int))/\X3/\X4/\X5/\X6/\X7/\X8/\(((luT n (luS n q g) g).2.2.2.2:Bool)=((luS n q g1).2.2.2.2))/\X9/\(∀j0,j0<n->(((luT n (luS n q g) g).2.2.1 j0:Nat)=((luS n q g1).2.2.1 j0)))/\X10/\(∀j0,j0<n->((n:Nat)=n)/\(∀j1,j1<n->((((luT n (luS n q g) g).1) j0 j1:Rat)=(((luS n q g1).1) j0 j1))))/\X11/\(∀j0,j0<n->((((luT n (luS n q g) g).2.2.1 j0:Nat):Int)=(((luS n q g1).2.2.1 j0:Nat):Int)))/\X12/\(∀j0,j0<n->((n:Nat)=n)/\(∀j1,j1<n->(((luT n (luS n q g) g).2.1 ((luT n (luS n q g) g).2.2.2.1 j0) j1:Rat)=((luS n q g1).2.1 ((luS n q g1).2.2.2.1 j0) j1))))/\(g1<=n/\luOK n q g1)/\(n-g1<n-g)) _ _ _ _ _ _ _ _ _ _ _ _))))/\((decide ((g:Int)<(n:Int)))=false->((False)/\((true:Bool)=false)))))))))
  ⟨(λ_ _=>(λ_ _=>trivial)),kT (m:=n) (n:=n) (q:=q),sMatCols (m:=n) (n:=n) (q:=q),zs,⟨0,(rf 0),(rf (n:Int)),(rf 0),(rf (n:Int)),zo,(rf n),(leS (mE q n) n),(rf (n:Int)),(rf 0),(rf 0),(rf 0),(rf (false:Bool)),zo,zo,zo,zo,zo⟩,λg hg=>⟨λhc20=>have hc20:=dT hc20;⟨sMatRow (m:=n) (n:=n) (r:=g) (q:=q) zo zo,zo,(oldS (mE q n) g),(newS (mE q n) g),(rf (n:Int)),(rf (n:Int)),zo,(λj0 hj0=>rfl),zo,(λj0 hj0=>by rw[if_pos hj0,if_pos hj0]),(λj0 hj0=>⟨(by rw[if_neg zo]),(by rw[if_neg zo])⟩),zo,(oldS (λi0=>iN i0) g),(newS (λi0=>iN i0) g),(wI (g:=g) zo),g+1,(rf 0),(rf (n:Int)),(rf 0),(rf (n:Int)),zo,(rf n),(leS (mE q n) n),(rf (n:Int)),(rf 0),(rf 0),(rf 0),(rf (false:Bool)),zo,(λj0 hj0=>(by first | omega | (split<;>omega))),zo,(leS (mE q n) (g+1)),zo,(leS (λi0=>iN i0) (g+1)),zo,(rf g),⟨rfl,(λj1 hj1=>rfl)⟩,(λj0 hj0=>⟨rfl,(λj1 hj1=>rfl)⟩),zo,zo⟩,λhc20=>have hc20:=dF hc20;have hi2:g=n:=zo;⟨⟨0,(rf 0),(rf (n:Int)),zo,(rf n),(leS (mE q n) n),(rf (n:Int)),(rf 0),(rf 0),(rf 0),rfl,hi2,(λj0 hj0=>rfl),hi2,(λj0 hj0=>⟨rfl,(λj1 hj1=>rfl)⟩),hi2,(λj0 hj0=>rfl),hi2,(λj0 hj0=>⟨rfl,(λj1 hj1=>rfl)⟩),Nat.zero_le _,λk hk=>absurd hk (Nat.not_lt_zero k)⟩,λg hg0=>have hg1:=hg0.1;⟨λhc62=>have hc62:=dT hc62;⟨sLuStepT (U:=(luS n q g).1) (L:=(luS n q g).2.1) (P:=(luS n q g).2.2.1) (ρ:=(luS n q g).2.2.2.1) (o:=(luS n q g).2.2.2.2) zo zo (lu_bij g zo hg0.2) (hH g zo hg0.2),(rf (.one (.var 194 (.agg (.cn (.own 2 0) (c3 (.own 3 0) (.own 4 0) (bX ((luS n q g).2.2.2.2)))))):Hl)),(rf (.one (.row 41 1 (λi0=>.own 5 ((luS n q g).2.2.1 i0)) n):Hl)),(rf (cC ((luS n q g).1) n:Hl)),(rf (.one (.row 3 1 (λi0=>iN ((luS n q g).2.2.1 i0)) n):Hl)),(rf (.fam n (λi0=>.row 76 3 (λi1=>.rat ((luS n q g).2.1 ((luS n q g).2.2.2.1 i0) i1)) n):Hl)),(rf 1),(rf 0),(rf (g:Int)),λhc67=>have hk0:=hc67;⟨rfl,(rf (false:Bool))⟩,λhc67=>have hk:luK n (luS n q g) g<n:=(not_dec hc67);⟨(wI (g:=g) zo),g+1,(rf 0),(rf (n:Int)),zo,(rf n),(leS (mE q n) n),(rf (n:Int)),(rf 0),(rf 0),(rf 0),(by rw[luT_yes hk];rfl),(rf n),(λj0 hj0=>(by rw[luT_yes hk];rfl)),(rf n),(λj0 hj0=>⟨rfl,(λj1 hj1=>(by rw[luT_yes hk];rfl))⟩),(rf n),(λj0 hj0=>(by rw[luT_yes hk];rfl)),(rf n),(λj0 hj0=>⟨rfl,(λj1 hj1=>(by rw[luT_yes hk];rfl))⟩),⟨by omega,ok_next hg0.2 hk⟩,zo⟩⟩,λhc62=>have hc62:=dF hc62;have hi3:g=n:=zo;have hx:False:=hno (by have:=hg0.2;rwa [hi3] at this);⟨hx.elim,hx.elim⟩⟩⟩⟩⟩
theorem sLuSolve_no{U L:Nat->Nat->Rat}{P:Nat->Nat}{o:Bool}{n k:Nat}{b:Nat->Rat}(h:k≠n):CallOK Tryz.prog 97 [.ep (.agg (.cn (.sl 1 (mE L n) n) (c3 (.sl 1 (mE U n) n) (.sl 1 (λi0=>iN (P i0)) n) (bX o)))),.sl 3 (λi0=>.rat (b i0)) k] (c2 (.sl 3 (λ_=>.rat 0) 0) (bX false)) []:=by
 exact kP (ch:=[.dec 20 true]) Tryz.func97 ((∀j0,j0<n->(∀j1,j1<n->True))/\(∀j0,j0<n->(∀j1,j1<n->True))/\(∀j0,j0<n->True)/\(∀j0,j0<k->True)/\((!decide ((k:Int)=(n:Int)))=true)/\(_/\_))
  ⟨(λ_ _=>(λ_ _=>trivial)),(λ_ _=>(λ_ _=>trivial)),(λ_ _=>trivial),(λ_ _=>trivial),(by simp;omega),(rf 0),(rf (false:Bool))⟩
theorem sLuSolve{U L:Nat->Nat->Rat}{P:Nat->Nat}{o:Bool}{n:Nat}{b:Nat->Rat}(hn:n<=6)(hP:∀i,i<n->P i<n)(hL:∀k,k<n->∀c,c<n->htq (L k c)<=30000)(hU:∀k,k<n->∀c,c<n->htq (U k c)<=30000)(hb:∀k,k<n->htq (b k)<=30000):CallOK Tryz.prog 97 [.ep (.agg (.cn (.sl 1 (mE L n) n) (c3 (.sl 1 (mE U n) n) (.sl 1 (λi0=>iN (P i0)) n) (bX o)))),.sl 3 (λi0=>.rat (b i0)) n] (c2 (.own 0 0) (bX true)) [.one (.row 76 3 (λi0=>.rat (luX n U L (λi=>b (P i)) i0)) n)]:=by
 have hZ:∀j,j<n->htq (luZ n L (λi=>b (P i)) j)<=5800000:=fw_top hL (λk hk=>hb _ (hP k hk)) (λ_ x _=>Nat.le_add_right _ _) hn
 have hF:∀k x,k<n->htq ((λk x=>x/U k k) k x)<=htq x+30000:=λk x hk=>Nat.le_trans (ht_div _ _) (Nat.add_le_add_left (hU k hk k hk) _)
 exact kP (ch:=[.dec 20 false,.reg 4 [(1,.row n (λi0=>.rat (fwS L (λi=>b (P i)) (λ_ x=>x) (λ_=>0) 0 i0)))],.loop 6 (Nat) (λg=>g<=n) (λg=>n-g) (λg=>⟨[(0,.ep (.agg (.cn (.sl 1 (mE L n) n) (c3 (.sl 1 (mE U n) n) (.sl 1 (λi0=>iN (P i0)) n) (bX o))))),(1,.sl 3 (λi0=>.rat (b i0)) n),(6,iN n),(7,.own 0 0),(23,iN n),(24,iN g)],[(0,.one (.row 76 3 (λi0=>.rat (fwS L (λi=>b (P i)) (λ_ x=>x) (λ_=>0) g i0)) n))],1⟩) [(0,.id 0)] (λ_=>[(0,.id 0)]) (λg=>[.reg 8 [(8,.k g),(10,.k (P g)),(12,.k g),(13,.row 0 (λi0=>.rat (fwI L (λi=>b (P i)) (λ_ x=>x) (λ_=>0) g 0 i0)))],.loop 10 (Nat) (λh=>h<=g) (λh=>g-h) (λh=>⟨[(0,.ep (.agg (.cn (.sl 1 (mE L n) n) (c3 (.sl 1 (mE U n) n) (.sl 1 (λi0=>iN (P i0)) n) (bX o))))),(1,.sl 3 (λi0=>.rat (b i0)) n),(6,iN n),(7,.own 0 0),(8,iN g),(23,iN n),(24,iN g),(40,iN g),(41,iN h)],[(0,.one (.row 76 3 (λi0=>.rat (fwI L (λi=>b (P i)) (λ_ x=>x) (λ_=>0) g h i0)) n))],1⟩) [(0,.id 0)] (λ_=>[(0,.id 0)]) (λh=>[.reg 12 [(4,.k g),(11,.k g),(14,.k h),(18,.k h),(20,.callS (.rat ((L g h)*(fwI L (λi=>b (P i)) (λ_ x=>x) (λ_=>0) g h h))) []),(21,.callS (.rat ((fwI L (λi=>b (P i)) (λ_ x=>x) (λ_=>0) g h g)-((L g h)*(fwI L (λi=>b (P i)) (λ_ x=>x) (λ_=>0) g h h)))) []),(22,.k g),(23,.row 0 (λi0=>.rat (fwI L (λi=>b (P i)) (λ_ x=>x) (λ_=>0) g (h+1) i0)))],.reg 13 [(0,.z ((h+1:Nat):Int))],.reg 14 [(0,.z ((g+1:Nat):Int))]]),.reg 15 [(1,.z ((n:Int)-1-0))],.loop 16 (Nat) (λg=>g<=n) (λg=>n-g) (λg=>⟨[(0,.ep (.agg (.cn (.sl 1 (mE L n) n) (c3 (.sl 1 (mE U n) n) (.sl 1 (λi0=>iN (P i0)) n) (bX o))))),(1,.sl 3 (λi0=>.rat (b i0)) n),(6,iN n),(7,.own 0 0),(10,iZ ((n:Int)-1-(g:Int)))],[(0,.one (.row 76 3 (λi0=>.rat (bwS U (luZ n L (λi=>b (P i))) (λk x=>x/U k k) n g i0)) n))],1⟩) [(0,.id 0)] (λ_=>[(0,.id 0)]) (λg=>[.reg 18 [(1,.z (((n-1-g+1:Nat)):Int))],.loop 19 (Nat) (λh=>h<=g) (λh=>g-h) (λh=>⟨[(0,.ep (.agg (.cn (.sl 1 (mE L n) n) (c3 (.sl 1 (mE U n) n) (.sl 1 (λi0=>iN (P i0)) n) (bX o))))),(1,.sl 3 (λi0=>.rat (b i0)) n),(6,iN n),(7,.own 0 0),(10,iZ ((n:Int)-1-(g:Int))),(11,iN (n-1-g+1+h))],[(0,.one (.row 76 3 (λi0=>.rat (bwI U (luZ n L (λi=>b (P i))) (λk x=>x/U k k) n g h i0)) n))],1⟩) [(0,.id 0)] (λ_=>[(0,.id 0)]) (λh=>[.reg 21 [(4,.k (n-1-g)),(11,.k (n-1-g)),(14,.k (n-1-g+1+h)),(18,.k (n-1-g+1+h)),(20,.callS (.rat ((U (n-1-g) (n-1-g+1+h))*(bwI U (luZ n L (λi=>b (P i))) (λk x=>x/U k k) n g h (n-1-g+1+h)))) []),(21,.callS (.rat ((bwI U (luZ n L (λi=>b (P i))) (λk x=>x/U k k) n g h (n-1-g))-((U (n-1-g) (n-1-g+1+h))*(bwI U (luZ n L (λi=>b (P i))) (λk x=>x/U k k) n g h (n-1-g+1+h))))) []),(22,.k (n-1-g)),(23,.row 0 (λi0=>.rat (bwI U (luZ n L (λi=>b (P i))) (λk x=>x/U k k) n g (h+1) i0)))],.reg 20 [(1,.z ((n-1-g+1+(h+1):Nat):Int))],.reg 22 [(4,.k (n-1-g)),(11,.k (n-1-g)),(14,.k (n-1-g)),(16,.callS (c2 (.rat ((bwI U (luZ n L (λi=>b (P i))) (λk x=>x/U k k) n g h (n-1-g))/(U (n-1-g) (n-1-g)))) (bX (!decide ((U (n-1-g) (n-1-g))=0)))) []),(20,.k (n-1-g)),(21,.row 0 (λi0=>.rat (bwS U (luZ n L (λi=>b (P i))) (λk x=>x/U k k) n (g+1) i0)))],.reg 17 [(1,.z ((n:Int)-1-((g+1:Nat):Int)))]]),.ret 23 [(0,.id 0)]])])]) Tryz.func97 ((∀j0,j0<n->(∀j1,j1<n->True))/\(∀j0,j0<n->(∀j1,j1<n->True))/\(∀j0,j0<n->True)/\(∀j0,j0<n->True)/\((!decide ((n:Int)=(n:Int)))=false)/\_/\_/\(n<=68719476736)/\(∀j0,j0<n->((fwS L (λi=>b (P i)) (λ_ x=>x) (λ_=>0) 0 j0:Rat)=0))/\(((λX1 X2 X3 X4 X5 X6 X7 X8 X9 X10 X11 X12 X13:Prop=>∃g0:Nat,X1/\X2/\X3/\X4/\X5/\X6/\X7/\X8/\X9/\X10/\X11/\X12/\((0:Int)=(g0:Int))/\X13/\(∀j0,j0<n->((fwS L (λi=>b (P i)) (λ_ x=>x) (λ_=>0) 0 j0:Rat)=(fwS L (λi=>b (P i)) (λ_ x=>x) (λ_=>0) g0 j0)))/\(g0<=n)) _ _ _ _ _ _ _ _ _ _ _ _ _)/\∀g:Nat,(g<=n)->(((decide ((g:Int)<(n:Int)))=true->_/\(g<n)/\_/\((P g)<n)/\_/\(g<n)/\(g<n)/\(((b (P g):Rat)=(fwI L (λi=>b (P i)) (λ_ x=>x) (λ_=>0) g 0 g)))/\(∀t,t<n->t≠g->(.rat (fwI L (λi=>b (P i)) (λ_ x=>x) (λ_=>0) g 0 t):SV)=.rat (fwS L (λi=>b (P i)) (λ_ x=>x) (λ_=>0) g t))/\(((λX1 X2 X3 X4 X5 X6 X7 X8 X9 X10 X11 X12 X13 X14 X15 X16:Prop=>∃h0:Nat,X1/\X2/\X3/\X4/\X5/\X6/\X7/\X8/\X9/\X10/\X11/\X12/\X13/\X14/\X15/\((0:Int)=(h0:Int))/\X16/\(∀j0,j0<n->((fwI L (λi=>b (P i)) (λ_ x=>x) (λ_=>0) g 0 j0:Rat)=(fwI L (λi=>b (P i)) (λ_ x=>x) (λ_=>0) g h0 j0)))/\(h0<=g)) _ _ _ _ _ _ _ _ _ _ _ _ _ _ _ _)/\∀h:Nat,(h<=g)->(((decide ((h:Int)<(g:Int)))=true->_/\(g<n)/\(g<n)/\_/\(g<n)/\_/\(h<n)/\_/\(h<n)/\(h<n)/\_/\_/\_/\(g<n)/\(g<n)/\((((fwI L (λi=>b (P i)) (λ_ x=>x) (λ_=>0) g h g)-((L g h)*(fwI L (λi=>b (P i)) (λ_ x=>x) (λ_=>0) g h h)):Rat)=(fwI L (λi=>b (P i)) (λ_ x=>x) (λ_=>0) g (h+1) g)))/\(∀t,t<n->t≠g->(.rat (fwI L (λi=>b (P i)) (λ_ x=>x) (λ_=>0) g (h+1) t):SV)=.rat (fwI L (λi=>b (P i)) (λ_ x=>x) (λ_=>0) g h t))/\_/\((λX1 X2 X3 X4 X5 X6 X7 X8 X9 X10 X11 X12 X13 X14 X15 X16:Prop=>∃h1:Nat,X1/\X2/\X3/\X4/\X5/\X6/\X7/\X8/\X9/\X10/\X11/\X12/\X13/\X14/\X15/\(((h+1:Nat):Int)=(h1:Int))/\X16/\(∀j0,j0<n->((fwI L (λi=>b (P i)) (λ_ x=>x) (λ_=>0) g (h+1) j0:Rat)=(fwI L (λi=>b (P i)) (λ_ x=>x) (λ_=>0) g h1 j0)))/\(h1<=g)/\(g-h1<g-h)) _ _ _ _ _ _ _ _ _ _ _ _ _ _ _ _))/\((decide ((h:Int)<(g:Int)))=false->_/\((λX1 X2 X3 X4 X5 X6 X7 X8 X9 X10 X11 X12 X13:Prop=>∃g1:Nat,X1/\X2/\X3/\X4/\X5/\X6/\X7/\X8/\X9/\X10/\X11/\X12/\(((g+1:Nat):Int)=(g1:Int))/\X13/\(∀j0,j0<n->((fwI L (λi=>b (P i)) (λ_ x=>x) (λ_=>0) g h j0:Rat)=(fwS L (λi=>b (P i)) (λ_ x=>x) (λ_=>0) g1 j0)))/\(g1<=n)/\(n-g1<n-g)) _ _ _ _ _ _ _ _ _ _ _ _ _)))))/\((decide ((g:Int)<(n:Int)))=false->(IntKind.wrap .i64 ((n:Int)-1)=((n:Int)-1-0))/\(((λX1 X2 X3 X4 X5 X6 X7 X8 X9 X10 X11 X12:Prop=>∃g0:Nat,X1/\X2/\X3/\X4/\X5/\X6/\X7/\X8/\X9/\X10/\X11/\(((n:Int)-1-0:Int)=((n:Int)-1-(g0:Int)))/\X12/\(∀j0,j0<n->((fwS L (λi=>b (P i)) (λ_ x=>x) (λ_=>0) g j0:Rat)=(bwS U (luZ n L (λi=>b (P i))) (λk x=>x/U k k) n g0 j0)))/\(g0<=n)) _ _ _ _ _ _ _ _ _ _ _ _)/\∀g:Nat,(g<=n)->(((decide ((0:Int)<=((n:Int)-1-(g:Int))))=true->(IntKind.wrap .i64 (((n:Int)-1-(g:Int):Int)+1)=((((n-1-g+1:Nat)):Int)))/\(((λX1 X2 X3 X4 X5 X6 X7 X8 X9 X10 X11 X12 X13:Prop=>∃h0:Nat,X1/\X2/\X3/\X4/\X5/\X6/\X7/\X8/\X9/\X10/\X11/\X12/\((((n-1-g+1:Nat)):Int)=((n-1-g+1+h0:Nat):Int))/\X13/\(∀j0,j0<n->((bwS U (luZ n L (λi=>b (P i))) (λk x=>x/U k k) n g j0:Rat)=(bwI U (luZ n L (λi=>b (P i))) (λk x=>x/U k k) n g h0 j0)))/\(h0<=g)) _ _ _ _ _ _ _ _ _ _ _ _ _)/\∀h:Nat,(h<=g)->(((decide (((n-1-g+1+h:Nat):Int)<(n:Int)))=true->(((n:Int)-1-(g:Int):Int)=((n-1-g:Nat):Int))/\((n-1-g)<n)/\((n-1-g)<n)/\(((n:Int)-1-(g:Int):Int)=((n-1-g:Nat):Int))/\((n-1-g)<n)/\_/\((n-1-g+1+h)<n)/\_/\((n-1-g+1+h)<n)/\((n-1-g+1+h)<n)/\_/\_/\(((n:Int)-1-(g:Int):Int)=((n-1-g:Nat):Int))/\((n-1-g)<n)/\((n-1-g)<n)/\((((bwI U (luZ n L (λi=>b (P i))) (λk x=>x/U k k) n g h (n-1-g))-((U (n-1-g) (n-1-g+1+h))*(bwI U (luZ n L (λi=>b (P i))) (λk x=>x/U k k) n g h (n-1-g+1+h))):Rat)=(bwI U (luZ n L (λi=>b (P i))) (λk x=>x/U k k) n g (h+1) (n-1-g))))/\(∀t,t<n->t≠(n-1-g)->(.rat (bwI U (luZ n L (λi=>b (P i))) (λk x=>x/U k k) n g (h+1) t):SV)=.rat (bwI U (luZ n L (λi=>b (P i))) (λk x=>x/U k k) n g h t))/\(IntKind.wrap .i64 (((n-1-g+1+h:Nat):Int)+1)=(((n-1-g+1+(h+1):Nat):Int)))/\((λX1 X2 X3 X4 X5 X6 X7 X8 X9 X10 X11 X12 X13:Prop=>∃h1:Nat,X1/\X2/\X3/\X4/\X5/\X6/\X7/\X8/\X9/\X10/\X11/\X12/\(((n-1-g+1+(h+1):Nat):Int)=((n-1-g+1+h1:Nat):Int))/\X13/\(∀j0,j0<n->((bwI U (luZ n L (λi=>b (P i))) (λk x=>x/U k k) n g (h+1) j0:Rat)=(bwI U (luZ n L (λi=>b (P i))) (λk x=>x/U k k) n g h1 j0)))/\(h1<=g)/\(g-h1<g-h)) _ _ _ _ _ _ _ _ _ _ _ _ _))/\((decide (((n-1-g+1+h:Nat):Int)<(n:Int)))=false->(((n:Int)-1-(g:Int):Int)=((n-1-g:Nat):Int))/\((n-1-g)<n)/\((n-1-g)<n)/\(((n:Int)-1-(g:Int):Int)=((n-1-g:Nat):Int))/\((n-1-g)<n)/\(((n:Int)-1-(g:Int):Int)=((n-1-g:Nat):Int))/\((n-1-g)<n)/\_/\(((n:Int)-1-(g:Int):Int)=((n-1-g:Nat):Int))/\((n-1-g)<n)/\((n-1-g)<n)/\((((bwI U (luZ n L (λi=>b (P i))) (λk x=>x/U k k) n g h (n-1-g))/(U (n-1-g) (n-1-g)):Rat)=(bwS U (luZ n L (λi=>b (P i))) (λk x=>x/U k k) n (g+1) (n-1-g))))/\(∀t,t<n->t≠(n-1-g)->(.rat (bwS U (luZ n L (λi=>b (P i))) (λk x=>x/U k k) n (g+1) t):SV)=.rat (bwI U (luZ n L (λi=>b (P i))) (λk x=>x/U k k) n g h t))/\(IntKind.wrap .i64 (((n:Int)-1-(g:Int):Int)-1)=((n:Int)-1-((g+1:Nat):Int)))/\((λX1 X2 X3 X4 X5 X6 X7 X8 X9 X10 X11 X12:Prop=>∃g1:Nat,X1/\X2/\X3/\X4/\X5/\X6/\X7/\X8/\X9/\X10/\X11/\(((n:Int)-1-((g+1:Nat):Int):Int)=((n:Int)-1-(g1:Int)))/\X12/\(∀j0,j0<n->((bwS U (luZ n L (λi=>b (P i))) (λk x=>x/U k k) n (g+1) j0:Rat)=(bwS U (luZ n L (λi=>b (P i))) (λk x=>x/U k k) n g1 j0)))/\(g1<=n)/\(n-g1<n-g)) _ _ _ _ _ _ _ _ _ _ _ _)))))/\((decide ((0:Int)<=((n:Int)-1-(g:Int))))=false->(_/\_/\_/\(∀j0,j0<n->((bwS U (luZ n L (λi=>b (P i))) (λk x=>x/U k k) n g j0:Rat)=(luX n U L (λi=>b (P i)) j0)))))))))))
  ⟨(λ_ _=>(λ_ _=>trivial)),(λ_ _=>(λ_ _=>trivial)),(λ_ _=>trivial),(λ_ _=>trivial),zs,(rf (n:Int)),(rf (n:Int)),zo,(λj0 hj0=>rfl),⟨0,(rf n),(leS (mE L n) n),(rf n),(leS (mE U n) n),(rf n),(leS (λi0=>iN (P i0)) n),(rf (o:Bool)),(rf n),(leS (λi0=>.rat (b i0)) n),(rf (n:Int)),(rf 0),(rf (n:Int)),zo,(rf n),(λj0 hj0=>rfl),zo⟩,λg hg=>⟨λhc25=>have hc25:=dT hc25;have hgn:g<n:=zo;⟨(rf (g:Int)),zo,(rf (P g:Int)),(hP g zo),(rf (g:Int)),zo,zo,(fwI_put (d:=λi=>b (P i))),(λt ht hne=>by rw[fwI_zero hne]),⟨0,(rf n),(leS (mE L n) n),(rf n),(leS (mE U n) n),(rf n),(leS (λi0=>iN (P i0)) n),(rf (o:Bool)),(rf n),(leS (λi0=>.rat (b i0)) n),(rf (n:Int)),(rf 0),(rf (g:Int)),(rf (n:Int)),(rf (g:Int)),(rf (g:Int)),zo,(rf n),(λj0 hj0=>rfl),zo⟩,λh hh=>⟨λhc42=>have hc42:=dT hc42;have hr:=fw_room hL (λk hk=>hb _ (hP k hk)) (λ_ x _=>Nat.le_add_right _ _) hn hgn (show h<g by omega) (base:=λ_=>0);⟨(rf (g:Int)),zo,zo,(rf (g:Int)),zo,(rf (h:Int)),zo,(rf (h:Int)),zo,zo,sRatMul (p:=L g h) (q:=fwI L (λi=>b (P i)) (λ_ x=>x) (λ_=>0) g h h) hr.1,sRatSub (p:=fwI L (λi=>b (P i)) (λ_ x=>x) (λ_=>0) g h g) (q:=(L g h)*(fwI L (λi=>b (P i)) (λ_ x=>x) (λ_=>0) g h h)) hr.2,(rf (g:Int)),zo,zo,(fwI_at zo),(λt ht hne=>by rw[fwI_ne hne]),(wI (g:=h) zo),h+1,(rf n),(leS (mE L n) n),(rf n),(leS (mE U n) n),(rf n),(leS (λi0=>iN (P i0)) n),(rf (o:Bool)),(rf n),(leS (λi0=>.rat (b i0)) n),(rf (n:Int)),(rf 0),(rf (g:Int)),(rf (n:Int)),(rf (g:Int)),(rf (g:Int)),zo,(rf n),(λj0 hj0=>rfl),zo,zo⟩,λhc42=>have hc42:=dF hc42;have hi3:h=g:=zo;⟨(wI (g:=g) zo),g+1,(rf n),(leS (mE L n) n),(rf n),(leS (mE U n) n),(rf n),(leS (λi0=>iN (P i0)) n),(rf (o:Bool)),(rf n),(leS (λi0=>.rat (b i0)) n),(rf (n:Int)),(rf 0),(rf (n:Int)),zo,(rf n),(λj0 hj0=>(by rw[hi3];exact fwI_all (λ_=>rfl))),zo,zo⟩⟩⟩,λhc25=>have hc25:=dF hc25;have hi2:g=n:=zo;⟨(by rw[IntKind.wrap_i64];omega),⟨0,(rf n),(leS (mE L n) n),(rf n),(leS (mE U n) n),(rf n),(leS (λi0=>iN (P i0)) n),(rf (o:Bool)),(rf n),(leS (λi0=>.rat (b i0)) n),(rf (n:Int)),(rf 0),zo,(rf n),(λj0 hj0=>(by rw[hi2];rfl)),zo⟩,λg hg=>⟨λhc72=>have hc72:=dT hc72;have hgn:g<n:=zo;⟨(by rw[IntKind.wrap_i64];omega),⟨0,(rf n),(leS (mE L n) n),(rf n),(leS (mE U n) n),(rf n),(leS (λi0=>iN (P i0)) n),(rf (o:Bool)),(rf n),(leS (λi0=>.rat (b i0)) n),(rf (n:Int)),(rf 0),(rf ((n:Int)-1-(g:Int):Int)),zo,(rf n),(λj0 hj0=>(bwI_start zo)),zo⟩,λh hh=>⟨λhc79=>have hc79:=dT hc79;have hhg:h<g:=zo;have hr:=bw_room hU hZ hF hn hgn hhg;⟨zo,zo,zo,zo,zo,(rf ((n-1-g+1+h:Nat):Int)),zo,(rf ((n-1-g+1+h:Nat):Int)),zo,zo,sRatMul (p:=U (n-1-g) (n-1-g+1+h)) (q:=bwI U (luZ n L (λi=>b (P i))) (λk x=>x/U k k) n g h (n-1-g+1+h)) hr.1,sRatSub (p:=bwI U (luZ n L (λi=>b (P i))) (λk x=>x/U k k) n g h (n-1-g)) (q:=(U (n-1-g) (n-1-g+1+h))*(bwI U (luZ n L (λi=>b (P i))) (λk x=>x/U k k) n g h (n-1-g+1+h))) hr.2,zo,zo,zo,(bwI_at),(λt ht hne=>by rw[bwI_ne hne]),(by rw[IntKind.wrap_i64];omega),h+1,(rf n),(leS (mE L n) n),(rf n),(leS (mE U n) n),(rf n),(leS (λi0=>iN (P i0)) n),(rf (o:Bool)),(rf n),(leS (λi0=>.rat (b i0)) n),(rf (n:Int)),(rf 0),(rf ((n:Int)-1-(g:Int):Int)),zo,(rf n),(λj0 hj0=>rfl),zo,zo⟩,λhc79=>have hc79:=dF hc79;have hi4:h=g:=zo;have hq:=bw_div hU hZ hF hn hgn (Nat.le_of_eq hi4);⟨zo,zo,zo,zo,zo,zo,zo,sRatDiv (p:=bwI U (luZ n L (λi=>b (P i))) (λk x=>x/U k k) n g h (n-1-g)) (q:=U (n-1-g) (n-1-g)) hq,zo,zo,zo,(by rw[hi4];exact bwS_at (f:=λk x=>x/U k k)),(λt ht hne=>by rw[hi4,bwS_ne hne]),(by rw[IntKind.wrap_i64];omega),g+1,(rf n),(leS (mE L n) n),(rf n),(leS (mE U n) n),(rf n),(leS (λi0=>iN (P i0)) n),(rf (o:Bool)),(rf n),(leS (λi0=>.rat (b i0)) n),(rf (n:Int)),(rf 0),zo,(rf n),(λj0 hj0=>rfl),zo,zo⟩⟩⟩,λhc72=>have hc72:=dF hc72;have hi5:g=n:=zo;⟨(rf 0),(rf (true:Bool)),(rf n),(λj0 hj0=>(by rw[hi5];rfl))⟩⟩⟩⟩⟩
theorem sLuSolveT{U L:Nat->Nat->Rat}{P:Nat->Nat}{o:Bool}{ρ:Nat->Nat}{n:Nat}{b:Nat->Rat}(hn:n<=6)(hB:Bij n P ρ)(hL:∀k,k<n->∀c,c<n->htq (L k c)<=30000)(hU:∀k,k<n->∀c,c<n->htq (U k c)<=30000)(hb:∀k,k<n->htq (b k)<=30000):CallOK Tryz.prog 106 [.ep (.agg (.cn (.sl 1 (mE L n) n) (c3 (.sl 1 (mE U n) n) (.sl 1 (λi0=>iN (P i0)) n) (bX o)))),.sl 3 (λi0=>.rat (b i0)) n] (c2 (.own 0 0) (bX true)) [.one (.row 76 3 (λi0=>.rat (luW n U L b (ρ i0))) n)]:=by
 have hUT:∀k,k<n->∀c,c<n->htq (trM U k c)<=30000:=λk hk c hc=>hU c hc k hk
 have hLT:∀k,k<n->∀c,c<n->htq (trM L k c)<=30000:=λk hk c hc=>hL c hc k hk
 have hF:∀k x,k<n->htq ((λk x=>x/U k k) k x)<=htq x+30000:=λk x hk=>Nat.le_trans (ht_div _ _) (Nat.add_le_add_left (hU k hk k hk) _)
 have hZ:∀j,j<n->htq (luY n U b j)<=5800000:=fw_top hUT hb hF hn
 exact kP (ch:=[.dec 22 false,.reg 4 [(1,.callS (.own 0 0) [.one (.row 76 3 (λi0=>.rat (b i0)) n)])],.loop 6 (Nat) (λg=>g<=n) (λg=>n-g) (λg=>⟨[(0,.ep (.agg (.cn (.sl 1 (mE L n) n) (c3 (.sl 1 (mE U n) n) (.sl 1 (λi0=>iN (P i0)) n) (bX o))))),(6,iN n),(7,.own 0 0),(25,iN n),(26,iN g)],[(0,.one (.row 76 3 (λi0=>.rat (fwS (trM U) b (λk x=>x/U k k) b g i0)) n))],1⟩) [(0,.id 0)] (λ_=>[(0,.id 0)]) (λg=>[.loop 9 (Nat) (λh=>h<=g) (λh=>g-h) (λh=>⟨[(0,.ep (.agg (.cn (.sl 1 (mE L n) n) (c3 (.sl 1 (mE U n) n) (.sl 1 (λi0=>iN (P i0)) n) (bX o))))),(6,iN n),(7,.own 0 0),(8,iN g),(25,iN n),(26,iN g),(29,iN g),(30,iN h)],[(0,.one (.row 76 3 (λi0=>.rat (fwI (trM U) b (λk x=>x/U k k) b g h i0)) n))],1⟩) [(0,.id 0)] (λ_=>[(0,.id 0)]) (λh=>[.reg 11 [(4,.k g),(11,.k h),(14,.k g),(18,.k h),(20,.callS (.rat ((U h g)*(fwI (trM U) b (λk x=>x/U k k) b g h h))) []),(21,.callS (.rat ((fwI (trM U) b (λk x=>x/U k k) b g h g)-((U h g)*(fwI (trM U) b (λk x=>x/U k k) b g h h)))) []),(22,.k g),(23,.row 0 (λi0=>.rat (fwI (trM U) b (λk x=>x/U k k) b g (h+1) i0)))],.reg 12 [(0,.z ((h+1:Nat):Int))],.reg 13 [(4,.k g),(11,.k g),(14,.k g),(16,.callS (c2 (.rat ((fwI (trM U) b (λk x=>x/U k k) b g h g)/(U g g))) (bX (!decide ((U g g)=0)))) []),(20,.k g),(21,.row 0 (λi0=>.rat (fwS (trM U) b (λk x=>x/U k k) b (g+1) i0)))],.reg 14 [(0,.z ((g+1:Nat):Int))]]),.reg 15 [(1,.z ((n:Int)-1-0))],.loop 16 (Nat) (λg=>g<=n) (λg=>n-g) (λg=>⟨[(0,.ep (.agg (.cn (.sl 1 (mE L n) n) (c3 (.sl 1 (mE U n) n) (.sl 1 (λi0=>iN (P i0)) n) (bX o))))),(6,iN n),(7,.own 0 0),(10,iZ ((n:Int)-1-(g:Int)))],[(0,.one (.row 76 3 (λi0=>.rat (bwS (trM L) (luY n U b) (λ_ x=>x) n g i0)) n))],1⟩) [(0,.id 0)] (λ_=>[(0,.id 0)]) (λg=>[.reg 18 [(1,.z (((n-1-g+1:Nat)):Int))],.loop 19 (Nat) (λh=>h<=g) (λh=>g-h) (λh=>⟨[(0,.ep (.agg (.cn (.sl 1 (mE L n) n) (c3 (.sl 1 (mE U n) n) (.sl 1 (λi0=>iN (P i0)) n) (bX o))))),(6,iN n),(7,.own 0 0),(10,iZ ((n:Int)-1-(g:Int))),(11,iN (n-1-g+1+h))],[(0,.one (.row 76 3 (λi0=>.rat (bwI (trM L) (luY n U b) (λ_ x=>x) n g h i0)) n))],1⟩) [(0,.id 0)] (λ_=>[(0,.id 0)]) (λh=>[.reg 21 [(4,.k (n-1-g)),(11,.k (n-1-g+1+h)),(14,.k (n-1-g)),(18,.k (n-1-g+1+h)),(20,.callS (.rat ((L (n-1-g+1+h) (n-1-g))*(bwI (trM L) (luY n U b) (λ_ x=>x) n g h (n-1-g+1+h)))) []),(21,.callS (.rat ((bwI (trM L) (luY n U b) (λ_ x=>x) n g h (n-1-g))-((L (n-1-g+1+h) (n-1-g))*(bwI (trM L) (luY n U b) (λ_ x=>x) n g h (n-1-g+1+h))))) []),(22,.k (n-1-g)),(23,.row 0 (λi0=>.rat (bwI (trM L) (luY n U b) (λ_ x=>x) n g (h+1) i0)))],.reg 20 [(1,.z ((n-1-g+1+(h+1):Nat):Int))],.reg 17 [(1,.z ((n:Int)-1-((g+1:Nat):Int)))]]),.reg 22 [(1,.row n (λi0=>.rat (yP ρ (luW n U L b) 0 i0)))],.loop 24 (Nat) (λg=>g<=n) (λg=>n-g) (λg=>⟨[(0,.ep (.agg (.cn (.sl 1 (mE L n) n) (c3 (.sl 1 (mE U n) n) (.sl 1 (λi0=>iN (P i0)) n) (bX o))))),(6,iN n),(7,.own 0 0),(12,.own 1 0),(117,iN n),(118,iN g)],[(0,.one (.row 76 3 (λi0=>.rat (luW n U L b i0)) n)),(1,.one (.row 76 3 (λi0=>.rat (yP ρ (luW n U L b) g i0)) n))],2⟩) [(0,.id 0),(1,.id 1)] (λ_=>[(0,.id 0),(1,.id 1)]) (λg=>[.reg 26 [(6,.k g),(10,.k g),(12,.k (P g)),(13,.row 0 (λi0=>.rat (yP ρ (luW n U L b) (g+1) i0)))],.reg 27 [(0,.z ((g+1:Nat):Int))],.ret 28 [(0,.id 1)]])])])]) Tryz.func106 ((∀j0,j0<n->(∀j1,j1<n->True))/\(∀j0,j0<n->(∀j1,j1<n->True))/\(∀j0,j0<n->True)/\(∀j0,j0<n->True)/\((!decide ((n:Int)=(n:Int)))=false)/\_/\(((λX1 X2 X3 X4 X5 X6 X7 X8 X9 X10 X11:Prop=>∃g0:Nat,X1/\X2/\X3/\X4/\X5/\X6/\X7/\X8/\X9/\X10/\((0:Int)=(g0:Int))/\X11/\(∀j0,j0<n->((b j0:Rat)=(fwS (trM U) b (λk x=>x/U k k) b g0 j0)))/\(g0<=n)) _ _ _ _ _ _ _ _ _ _ _)/\∀g:Nat,(g<=n)->(((decide ((g:Int)<(n:Int)))=true->(((λX1 X2 X3 X4 X5 X6 X7 X8 X9 X10 X11 X12 X13 X14:Prop=>∃h0:Nat,X1/\X2/\X3/\X4/\X5/\X6/\X7/\X8/\X9/\X10/\X11/\X12/\X13/\((0:Int)=(h0:Int))/\X14/\(∀j0,j0<n->((fwS (trM U) b (λk x=>x/U k k) b g j0:Rat)=(fwI (trM U) b (λk x=>x/U k k) b g h0 j0)))/\(h0<=g)) _ _ _ _ _ _ _ _ _ _ _ _ _ _)/\∀h:Nat,(h<=g)->(((decide ((h:Int)<(g:Int)))=true->_/\(g<n)/\(g<n)/\_/\(h<n)/\_/\(g<n)/\_/\(h<n)/\(h<n)/\_/\_/\_/\(g<n)/\(g<n)/\((((fwI (trM U) b (λk x=>x/U k k) b g h g)-((U h g)*(fwI (trM U) b (λk x=>x/U k k) b g h h)):Rat)=(fwI (trM U) b (λk x=>x/U k k) b g (h+1) g)))/\(∀t,t<n->t≠g->(.rat (fwI (trM U) b (λk x=>x/U k k) b g (h+1) t):SV)=.rat (fwI (trM U) b (λk x=>x/U k k) b g h t))/\_/\((λX1 X2 X3 X4 X5 X6 X7 X8 X9 X10 X11 X12 X13 X14:Prop=>∃h1:Nat,X1/\X2/\X3/\X4/\X5/\X6/\X7/\X8/\X9/\X10/\X11/\X12/\X13/\(((h+1:Nat):Int)=(h1:Int))/\X14/\(∀j0,j0<n->((fwI (trM U) b (λk x=>x/U k k) b g (h+1) j0:Rat)=(fwI (trM U) b (λk x=>x/U k k) b g h1 j0)))/\(h1<=g)/\(g-h1<g-h)) _ _ _ _ _ _ _ _ _ _ _ _ _ _))/\((decide ((h:Int)<(g:Int)))=false->_/\(g<n)/\(g<n)/\_/\(g<n)/\_/\(g<n)/\_/\_/\(g<n)/\(g<n)/\((((fwI (trM U) b (λk x=>x/U k k) b g h g)/(U g g):Rat)=(fwS (trM U) b (λk x=>x/U k k) b (g+1) g)))/\(∀t,t<n->t≠g->(.rat (fwS (trM U) b (λk x=>x/U k k) b (g+1) t):SV)=.rat (fwI (trM U) b (λk x=>x/U k k) b g h t))/\_/\((λX1 X2 X3 X4 X5 X6 X7 X8 X9 X10 X11:Prop=>∃g1:Nat,X1/\X2/\X3/\X4/\X5/\X6/\X7/\X8/\X9/\X10/\(((g+1:Nat):Int)=(g1:Int))/\X11/\(∀j0,j0<n->((fwS (trM U) b (λk x=>x/U k k) b (g+1) j0:Rat)=(fwS (trM U) b (λk x=>x/U k k) b g1 j0)))/\(g1<=n)/\(n-g1<n-g)) _ _ _ _ _ _ _ _ _ _ _)))))/\((decide ((g:Int)<(n:Int)))=false->(IntKind.wrap .i64 ((n:Int)-1)=((n:Int)-1-0))/\(((λX1 X2 X3 X4 X5 X6 X7 X8 X9 X10:Prop=>∃g0:Nat,X1/\X2/\X3/\X4/\X5/\X6/\X7/\X8/\X9/\(((n:Int)-1-0:Int)=((n:Int)-1-(g0:Int)))/\X10/\(∀j0,j0<n->((fwS (trM U) b (λk x=>x/U k k) b g j0:Rat)=(bwS (trM L) (luY n U b) (λ_ x=>x) n g0 j0)))/\(g0<=n)) _ _ _ _ _ _ _ _ _ _)/\∀g:Nat,(g<=n)->(((decide ((0:Int)<=((n:Int)-1-(g:Int))))=true->(IntKind.wrap .i64 (((n:Int)-1-(g:Int):Int)+1)=((((n-1-g+1:Nat)):Int)))/\(((λX1 X2 X3 X4 X5 X6 X7 X8 X9 X10 X11:Prop=>∃h0:Nat,X1/\X2/\X3/\X4/\X5/\X6/\X7/\X8/\X9/\X10/\((((n-1-g+1:Nat)):Int)=((n-1-g+1+h0:Nat):Int))/\X11/\(∀j0,j0<n->((bwS (trM L) (luY n U b) (λ_ x=>x) n g j0:Rat)=(bwI (trM L) (luY n U b) (λ_ x=>x) n g h0 j0)))/\(h0<=g)) _ _ _ _ _ _ _ _ _ _ _)/\∀h:Nat,(h<=g)->(((decide (((n-1-g+1+h:Nat):Int)<(n:Int)))=true->(((n:Int)-1-(g:Int):Int)=((n-1-g:Nat):Int))/\((n-1-g)<n)/\((n-1-g)<n)/\_/\((n-1-g+1+h)<n)/\(((n:Int)-1-(g:Int):Int)=((n-1-g:Nat):Int))/\((n-1-g)<n)/\_/\((n-1-g+1+h)<n)/\((n-1-g+1+h)<n)/\_/\_/\(((n:Int)-1-(g:Int):Int)=((n-1-g:Nat):Int))/\((n-1-g)<n)/\((n-1-g)<n)/\((((bwI (trM L) (luY n U b) (λ_ x=>x) n g h (n-1-g))-((L (n-1-g+1+h) (n-1-g))*(bwI (trM L) (luY n U b) (λ_ x=>x) n g h (n-1-g+1+h))):Rat)=(bwI (trM L) (luY n U b) (λ_ x=>x) n g (h+1) (n-1-g))))/\(∀t,t<n->t≠(n-1-g)->(.rat (bwI (trM L) (luY n U b) (λ_ x=>x) n g (h+1) t):SV)=.rat (bwI (trM L) (luY n U b) (λ_ x=>x) n g h t))/\(IntKind.wrap .i64 (((n-1-g+1+h:Nat):Int)+1)=(((n-1-g+1+(h+1):Nat):Int)))/\((λX1 X2 X3 X4 X5 X6 X7 X8 X9 X10 X11:Prop=>∃h1:Nat,X1/\X2/\X3/\X4/\X5/\X6/\X7/\X8/\X9/\X10/\(((n-1-g+1+(h+1):Nat):Int)=((n-1-g+1+h1:Nat):Int))/\X11/\(∀j0,j0<n->((bwI (trM L) (luY n U b) (λ_ x=>x) n g (h+1) j0:Rat)=(bwI (trM L) (luY n U b) (λ_ x=>x) n g h1 j0)))/\(h1<=g)/\(g-h1<g-h)) _ _ _ _ _ _ _ _ _ _ _))/\((decide (((n-1-g+1+h:Nat):Int)<(n:Int)))=false->(IntKind.wrap .i64 (((n:Int)-1-(g:Int):Int)-1)=((n:Int)-1-((g+1:Nat):Int)))/\((λX1 X2 X3 X4 X5 X6 X7 X8 X9 X10:Prop=>∃g1:Nat,X1/\X2/\X3/\X4/\X5/\X6/\X7/\X8/\X9/\(((n:Int)-1-((g+1:Nat):Int):Int)=((n:Int)-1-(g1:Int)))/\X10/\(∀j0,j0<n->((bwI (trM L) (luY n U b) (λ_ x=>x) n g h j0:Rat)=(bwS (trM L) (luY n U b) (λ_ x=>x) n g1 j0)))/\(g1<=n)/\(n-g1<n-g)) _ _ _ _ _ _ _ _ _ _)))))/\((decide ((0:Int)<=((n:Int)-1-(g:Int))))=false->_/\_/\(n<=68719476736)/\(∀j0,j0<n->((yP ρ (luW n U L b) 0 j0:Rat)=0))/\(((λX1 X2 X3 X4 X5 X6 X7 X8 X9 X10 X11 X12 X13:Prop=>∃g0:Nat,X1/\X2/\X3/\X4/\X5/\X6/\X7/\X8/\X9/\X10/\X11/\((0:Int)=(g0:Int))/\X12/\(∀j0,j0<n->((bwS (trM L) (luY n U b) (λ_ x=>x) n g j0:Rat)=(luW n U L b j0)))/\X13/\(∀j0,j0<n->((yP ρ (luW n U L b) 0 j0:Rat)=(yP ρ (luW n U L b) g0 j0)))/\(g0<=n)) _ _ _ _ _ _ _ _ _ _ _ _ _)/\∀g:Nat,(g<=n)->(((decide ((g:Int)<(n:Int)))=true->_/\(g<n)/\_/\(g<n)/\(g<n)/\_/\((P g)<n)/\((P g)<n)/\(((luW n U L b g:Rat)=(yP ρ (luW n U L b) (g+1) (P g))))/\(∀t,t<n->t≠(P g)->(.rat (yP ρ (luW n U L b) (g+1) t):SV)=.rat (yP ρ (luW n U L b) g t))/\_/\((λX1 X2 X3 X4 X5 X6 X7 X8 X9 X10 X11 X12 X13 X14:Prop=>∃g1:Nat,X1/\X2/\X3/\X4/\X5/\X6/\X7/\X8/\X9/\X10/\X11/\(((g+1:Nat):Int)=(g1:Int))/\X12/\X13/\X14/\(∀j0,j0<n->((yP ρ (luW n U L b) (g+1) j0:Rat)=(yP ρ (luW n U L b) g1 j0)))/\(g1<=n)/\(n-g1<n-g)) _ _ _ _ _ _ _ _ _ _ _ _ _ _))/\((decide ((g:Int)<(n:Int)))=false->(_/\_/\_/\(∀j0,j0<n->((yP ρ (luW n U L b) g j0:Rat)=(luW n U L b (ρ j0)))))))))))))))
  ⟨(λ_ _=>(λ_ _=>trivial)),(λ_ _=>(λ_ _=>trivial)),(λ_ _=>trivial),(λ_ _=>trivial),zs,kS (n:=n) (q:=b) zo,⟨0,(rf n),(leS (mE L n) n),(rf n),(leS (mE U n) n),(rf n),(leS (λi0=>iN (P i0)) n),(rf (o:Bool)),(rf (n:Int)),(rf 0),(rf (n:Int)),zo,(rf n),(λj0 hj0=>rfl),zo⟩,λg hg=>⟨λhc27=>have hc27:=dT hc27;have hgn:g<n:=zo;⟨⟨0,(rf n),(leS (mE L n) n),(rf n),(leS (mE U n) n),(rf n),(leS (λi0=>iN (P i0)) n),(rf (o:Bool)),(rf (n:Int)),(rf 0),(rf (g:Int)),(rf (n:Int)),(rf (g:Int)),(rf (g:Int)),zo,(rf n),(λj0 hj0=>(fwI_start rfl)),zo⟩,λh hh=>⟨λhc31=>have hc31:=dT hc31;have hr:=fw_room hUT hb hF hn hgn (show h<g by omega) (base:=b);⟨(rf (g:Int)),zo,zo,(rf (h:Int)),zo,(rf (g:Int)),zo,(rf (h:Int)),zo,zo,sRatMul (p:=U h g) (q:=fwI (trM U) b (λk x=>x/U k k) b g h h) hr.1,sRatSub (p:=fwI (trM U) b (λk x=>x/U k k) b g h g) (q:=(U h g)*(fwI (trM U) b (λk x=>x/U k k) b g h h)) hr.2,(rf (g:Int)),zo,zo,(fwI_at (L:=trM U) zo),(λt ht hne=>by rw[fwI_ne hne]),(wI (g:=h) zo),h+1,(rf n),(leS (mE L n) n),(rf n),(leS (mE U n) n),(rf n),(leS (λi0=>iN (P i0)) n),(rf (o:Bool)),(rf (n:Int)),(rf 0),(rf (g:Int)),(rf (n:Int)),(rf (g:Int)),(rf (g:Int)),zo,(rf n),(λj0 hj0=>rfl),zo,zo⟩,λhc31=>have hc31:=dF hc31;have hi3:h=g:=zo;have hq:=fw_div hUT hb hF hn hgn (Nat.le_of_eq hi3) (hU g hgn g hgn) (base:=b);⟨(rf (g:Int)),zo,zo,(rf (g:Int)),zo,(rf (g:Int)),zo,sRatDiv (p:=fwI (trM U) b (λk x=>x/U k k) b g h g) (q:=U g g) hq,(rf (g:Int)),zo,zo,(by rw[hi3];exact fwS_at (f:=λk x=>x/U k k)),(λt ht hne=>by rw[hi3,fwS_ne hne]),(wI (g:=g) zo),g+1,(rf n),(leS (mE L n) n),(rf n),(leS (mE U n) n),(rf n),(leS (λi0=>iN (P i0)) n),(rf (o:Bool)),(rf (n:Int)),(rf 0),(rf (n:Int)),zo,(rf n),(λj0 hj0=>rfl),zo,zo⟩⟩⟩,λhc27=>have hc27:=dF hc27;have hi2:g=n:=zo;⟨(by rw[IntKind.wrap_i64];omega),⟨0,(rf n),(leS (mE L n) n),(rf n),(leS (mE U n) n),(rf n),(leS (λi0=>iN (P i0)) n),(rf (o:Bool)),(rf (n:Int)),(rf 0),zo,(rf n),(λj0 hj0=>(by rw[hi2];rfl)),zo⟩,λg hg=>⟨λhc82=>have hc82:=dT hc82;have hgn:g<n:=zo;⟨(by rw[IntKind.wrap_i64];omega),⟨0,(rf n),(leS (mE L n) n),(rf n),(leS (mE U n) n),(rf n),(leS (λi0=>iN (P i0)) n),(rf (o:Bool)),(rf (n:Int)),(rf 0),(rf ((n:Int)-1-(g:Int):Int)),zo,(rf n),(λj0 hj0=>(bwI_start zo)),zo⟩,λh hh=>⟨λhc89=>have hc89:=dT hc89;have hhg:h<g:=zo;have hr:=bw_room hLT hZ (λ_ x _=>Nat.le_add_right _ _) hn hgn hhg (f:=λ_ x=>x);⟨zo,zo,zo,(rf ((n-1-g+1+h:Nat):Int)),zo,zo,zo,(rf ((n-1-g+1+h:Nat):Int)),zo,zo,sRatMul (p:=L (n-1-g+1+h) (n-1-g)) (q:=bwI (trM L) (luY n U b) (λ_ x=>x) n g h (n-1-g+1+h)) hr.1,sRatSub (p:=bwI (trM L) (luY n U b) (λ_ x=>x) n g h (n-1-g)) (q:=(L (n-1-g+1+h) (n-1-g))*(bwI (trM L) (luY n U b) (λ_ x=>x) n g h (n-1-g+1+h))) hr.2,zo,zo,zo,(bwI_at (U:=trM L)),(λt ht hne=>by rw[bwI_ne hne]),(by rw[IntKind.wrap_i64];omega),h+1,(rf n),(leS (mE L n) n),(rf n),(leS (mE U n) n),(rf n),(leS (λi0=>iN (P i0)) n),(rf (o:Bool)),(rf (n:Int)),(rf 0),(rf ((n:Int)-1-(g:Int):Int)),zo,(rf n),(λj0 hj0=>rfl),zo,zo⟩,λhc89=>have hc89:=dF hc89;have hi4:h=g:=zo;⟨(by rw[IntKind.wrap_i64];omega),g+1,(rf n),(leS (mE L n) n),(rf n),(leS (mE U n) n),(rf n),(leS (λi0=>iN (P i0)) n),(rf (o:Bool)),(rf (n:Int)),(rf 0),zo,(rf n),(λj0 hj0=>(by rw[hi4];exact bwI_all (λ_=>rfl))),zo,zo⟩⟩⟩,λhc82=>have hc82:=dF hc82;have hi5:g=n:=zo;⟨(rf (n:Int)),(rf (n:Int)),zo,(λj0 hj0=>(yP_zero)),⟨0,(rf n),(leS (mE L n) n),(rf n),(leS (mE U n) n),(rf n),(leS (λi0=>iN (P i0)) n),(rf (o:Bool)),(rf (n:Int)),(rf 0),(rf 0),(rf (n:Int)),zo,(rf n),(λj0 hj0=>(by rw[hi5];rfl)),(rf n),(λj0 hj0=>rfl),zo⟩,λg hg=>⟨λhc119=>have hc119:=dT hc119;⟨(rf (g:Int)),zo,(rf (g:Int)),zo,zo,(rf (P g:Int)),(hB.lt g zo),(hB.lt g zo),(yP_at hB),(λt ht hne=>by rw[yP_ne hB hne]),(wI (g:=g) zo),g+1,(rf n),(leS (mE L n) n),(rf n),(leS (mE U n) n),(rf n),(leS (λi0=>iN (P i0)) n),(rf (o:Bool)),(rf (n:Int)),(rf 0),(rf 0),(rf (n:Int)),zo,(rf n),(leS (λi0=>.rat (luW n U L b i0)) n),(rf n),(λj0 hj0=>rfl),zo,zo⟩,λhc119=>have hc119:=dF hc119;have hi6:g=n:=zo;⟨(rf 0),(rf (true:Bool)),(rf n),(λj0 hj0=>(by rw[hi6];exact yP_all (hB.lt' _ (by assumption))))⟩⟩⟩⟩⟩⟩⟩
open Go.RowKit
theorem lu_hH{n:Nat}{A:Nat->Nat->Rat}(h:HtB n n 3 A)(hn:n<=6):∀c,c<=n->luOK n A c->HtB n n 100000000 (luS n A c).1:=λc hc hok i hi j hj=>
 Nat.le_trans (lu_ht h c hc hok i hi j hj) (Nat.le_trans (Nat.mul_le_mul_left 3 (Nat.pow_le_pow_right (show 0<4 by decide) (show c<=6 by omega))) zd)
theorem lu_h3{n:Nat}{A:Nat->Nat->Rat}(h:HtB n n 3 A)(hn:n<=6)(c:Nat)(hc:c<=n)(hok:luOK n A c):HtB n n 12288 (luS n A c).1:=λi hi j hj=>
 Nat.le_trans (lu_ht h c hc hok i hi j hj) (Nat.le_trans (Nat.mul_le_mul_left 3 (Nat.pow_le_pow_right (show 0<4 by decide) (show c<=6 by omega))) zd)
theorem lu_hU{n:Nat}{A:Nat->Nat->Rat}(h:HtB n n 3 A)(hn:n<=6)(hok:luOK n A n):∀k,k<n->∀c,c<n->htq ((luS n A n).1 k c)<=30000:=λk hk c hc=>by
 have:=lu_h3 h hn n (Nat.le_refl n) hok k hk c hc
 omega
theorem lu_hL2{n:Nat}{A:Nat->Nat->Rat}(h:HtB n n 3 A)(hn:n<=6):∀c,c<=n->luOK n A c->∀i,i<n->∀j,j<n->htq ((luS n A c).2.1 i j)<=24576
 | 0,_,_=>λ_ _ _ _=>by show htq 0<=_;rw[ht_zero];omega
 | c+1,hc,hok=>λi hi j hj=>by
  have ih:=lu_hL2 h hn c zo λk hk=>hok k zo
  have hU:=lu_h3 h hn c zo λk hk=>hok k zo
  have hK:=hok c (Nat.lt_succ_self c)
  have hU2:=hU.swap (show c<n by omega) hK
  show htq (lowQ _ _ c n i j)<=_
  unfold lowQ
  split
  ·split
   ·rw[ht_one];omega
   ·have h1:=ht_div (zB (luS n A c).1 c (luK n (luS n A c) c) i c) (zB (luS n A c).1 c (luK n (luS n A c) c) c c)
    have h2:=hU2 i hi c zo
    have h3:=hU2 c zo c zo
    omega
  ·exact ih _ (sw_lt (show c<n by omega) hK hi) j hj
theorem lu_hL{n:Nat}{A:Nat->Nat->Rat}(h:HtB n n 3 A)(hn:n<=6)(hok:luOK n A n):∀k,k<n->∀c,c<n->htq ((luS n A n).2.1 k c)<=30000:=λk hk c hc=>by
 have:=lu_hL2 h hn n (Nat.le_refl n) hok k hk c hc
 omega
def nd (x:Nat):Nat:=(Wd.blen x+15)/16
open Go.RowKit
instance fzF:Fz:=⟨false,none⟩
instance fzT2:Fz:=⟨true,some (.iface 180 (.agg #[.pointer (some ⟨1,45,none⟩)]))⟩
open Go.RowKit
def yM (q:Nat->Rat):Nat->Bool
 | 0=>false
 | n+1=>yM q n||decide ((q n).num<0)
theorem below_no{q:Nat->Rat}{g:Nat}(h:yM q g=false)(k:¬(q g).num.sign<0):yM q (g+1)=false:=by
 show(yM q g||decide ((q g).num<0))=false
 rw[h,decide_eq_false (λe=>k (by rw[Int.sign_eq_neg_one_of_neg e];decide))];rfl
theorem below_mono{q:Nat->Rat}{g:Nat}(h:yM q g=true):∀n,g<=n->yM q n=true
 | 0,hn=>by obtain rfl:g=0:=zo;exact h
 | n+1,hn=>by
  by_cases e:g=n+1
  ·subst e;exact h
  ·show(yM q n||decide ((q n).num<0))=true
   rw[below_mono h n zo];rfl
theorem below_yes{q:Nat->Rat}{g n:Nat}(k:(q g).num.sign<0)(hn:g<n):yM q n=true:=by
 refine below_mono (g:=g+1) ?_ n hn
 show(yM q g||decide ((q g).num<0))=true
 have:(q g).num<0:=by
  rcases Int.lt_trichotomy (q g).num 0 with h | h | h
  ·exact h
  ·rw[h] at k;exact absurd k zd
  ·rw[Int.sign_eq_one_of_pos h] at k;exact absurd k zd
 rw[decide_eq_true this,Bool.or_true]
theorem bif_and2{P Q:Prop} [Decidable P] [Decidable Q](h:(bif decide P then decide Q else false)=true):P/\Q:=by
 by_cases p:P
 ·exact⟨p,by simpa [p] using h⟩
 ·simp[p] at h
theorem bif_nand{P Q:Prop} [Decidable P] [Decidable Q](h:(bif decide P then decide Q else false)=false):¬(P/\Q):=λ⟨p,q⟩=>by simp[p,q] at h
theorem sVecBelow{q:Nat->Rat}{n:Nat}(hn:n<=68719476736):CallOK Tryz.prog 49 [.sl 3 (λi0=>.rat (q i0)) n] (bX (yM q n)) []:=by
 exact kP (ch:=[.loop 2 (Nat) (λg=>g<=n/\yM q g=false) (λg=>n-g) (λg=>⟨[(5,.sl 3 (λi0=>.rat (q i0)) n),(6,iN n),(7,iN g)],[],0⟩) [] (λ_=>[]) (λg=>[.reg 3 [(0,.k g)],.reg 4 [(1,.callS (iZ ((q g).num.sign)) [])],.reg 6 [(0,.z ((g+1:Nat):Int))]])]) Tryz.func49 ((∀j0,j0<n->True)/\(((λX1 X2 X3:Prop=>∃g0:Nat,X1/\X2/\X3/\((0:Int)=(g0:Int))/\(g0<=n/\yM q g0=false)) _ _ _)/\∀g:Nat,(g<=n/\yM q g=false)->(((decide ((g:Int)<(n:Int)))=true->_/\(g<n)/\_/\(((decide (((q g).num.sign:Int)<0))=true->(((true:Bool)=(yM q n))))/\((decide (((q g).num.sign:Int)<0))=false->_/\((λX1 X2 X3:Prop=>∃g1:Nat,X1/\X2/\X3/\(((g+1:Nat):Int)=(g1:Int))/\(g1<=n/\yM q g1=false)/\(n-g1<n-g)) _ _ _))))/\((decide ((g:Int)<(n:Int)))=false->(((false:Bool)=(yM q n)))))))
  ⟨(λ_ _=>trivial),⟨0,(rf n),(leS (λi0=>.rat (q i0)) n),(rf (n:Int)),zo,by omega,rfl⟩,λg hg=>have hg1:=hg.1;⟨λhc8=>have hc8:=dT hc8;⟨(rf (g:Int)),zo,sRatSign (q:=q g),λhc13=>have hc13:=dT hc13;(below_yes hc13 zo).symm,λhc13=>have hc13:=dF hc13;⟨(wI (g:=g) zo),g+1,(rf n),(leS (λi0=>.rat (q i0)) n),(rf (n:Int)),zo,⟨by omega,below_no hg.2 hc13⟩,zo⟩⟩,λhc8=>have hc8:=dF hc8;have hi2:g=n:=zo;(by rw[←hi2,hg.2])⟩⟩
open Go.RowKit
theorem sgn_par:∀n,sgn n=if n%2=1 then-1 else 1
 | 0=>rfl
 | n+1=>by
  show-sgn n=_
  rw[sgn_par n]
  by_cases h:n%2=1
  ·rw[if_pos h,if_neg zo];rfl
  ·rw[if_neg h,if_pos zo]
def dB (E:Nat):Nat->Nat
 | 0=>1
 | n+1=>(n+1)*(E+dB E n+2)+1
theorem ht_sgnm(n:Nat)(x:Rat):htq (sgn n*x)=htq x:=by
 rw[sgn_par]
 split
 ·rw[show(-1:Rat)*x=-x by grind,ht_neg]
 ·rw[show(1:Rat)*x=x by grind]
theorem det_ht{E:Nat}:∀n {q:Nat->Nat->Rat},(∀i,i<n->∀j,j<n->htq (q i j)<=E)->htq (det n q)<=dB E n/\∀g,g<=n->htq (sumQ (λc=>sgn c*q 0 c*det (n-1) (yE q 0 c)) g)<=dB E n
 | 0,q,_=>⟨by show htq 1<=1;rw[ht_one];omega,λg hg=>(by cases Nat.le_zero.1 hg;show htq 0<=1;rw[ht_zero];omega)⟩
 | n+1,q,h=>by
  have hs:∀g,g<=n+1->htq (sumQ (λc=>sgn c*q 0 c*det n (yE q 0 c)) g)<=g*(E+dB E n+2)+1:=by
   intro g
   induction g with
   | zero=>intro _;show htq 0<=_;rw[ht_zero];omega
   | succ g ih=>
    intro hg
    have h1:=ih zo
    have h2:=(det_ht n (q:=yE q 0 g) λi hi j hj=>h _ (skp_lt hi) _ (skp_lt hj)).1
    have h3:=ht_add (sumQ (λc=>sgn c*q 0 c*det n (yE q 0 c)) g) (sgn g*q 0 g*det n (yE q 0 g))
    have h4:=uG (sgn g*q 0 g) (det n (yE q 0 g))
    have h5:=ht_sgnm g (q 0 g)
    have h6:=h 0 zo g zo
    have h7:(g+1)*(E+dB E n+2)=g*(E+dB E n+2)+(E+dB E n+2):=Nat.succ_mul _ _
    show htq (sumQ (λc=>sgn c*q 0 c*det n (yE q 0 c)) g+sgn g*q 0 g*det n (yE q 0 g))<=_
    omega
  have hm:∀g,g<=n+1->g*(E+dB E n+2)+1<=dB E (n+1):=λg hg=>Nat.succ_le_succ (Nat.mul_le_mul_right _ hg)
  exact⟨Nat.le_trans (hs (n+1) (Nat.le_refl _)) (hm _ (Nat.le_refl _)),λg hg=>Nat.le_trans (hs g hg) (hm g hg)⟩
open Go.RowKit
def sgB (b:Bool):Rat:=if b=true then-1 else 1
theorem sgB_if(b:Bool)(x:Rat):sgB b*x=if b=true then-x else x:=by
 unfold sgB
 split<;>grind
theorem prodD_congr{U V:Nat->Nat->Rat}:∀c,(∀k,k<c->U k k=V k k)->uI U c=uI V c
 | 0,_=>rfl
 | c+1,h=>by show uI U c*U c c=uI V c*V c c;rw[prodD_congr c λk hk=>h k zo,h c (Nat.lt_succ_self c)]
theorem prodD_ne{U:Nat->Nat->Rat}:∀c,(∀k,k<c->U k k≠0)->uI U c≠0
 | 0,_=>by show(1:Rat)≠0;decide
 | c+1,h=>λe=>by
  have:=Rat.mul_eq_zero.1 (show uI U c*U c c=0 from e)
  exact this.elim (prodD_ne c λk hk=>h k zo) (h c (Nat.lt_succ_self c))
section
variable {s n:Nat} {q:Nat->Nat->Rat}
theorem lu_detI(hs:∀i,i<n->∀j,j<n->szq (q i j)<=s):∀c,c<=n->luOK n q c->DetI s n q (c,(luS n q c).1,sgB (luS n q c).2.2.2.2*uI (luS n q c).1 c)
 | 0,_,_=>by
  show DetI s n q (0,q,sgB false*1)
  rw[show sgB false*1=1 by unfold sgB;rw[if_neg zd];grind]
  exact DetI.start hs
 | c+1,hc,hok=>by
  have H:=lu_detI hs c zo λk hk=>hok k zo
  have hK:=hok c (Nat.lt_succ_self c)
  have hge:=luK_ge (n:=n) (s:=luS n q c) (c:=c)
  have hpv:(luS n q c).1 (luK n (luS n q c) c) c≠0:=leadK_at _ _ (show yK _ c c (n-c)<_ by have:luK n (luS n q c) c<n:=hK;unfold luK at this;omega)
  have N:=H.next (K:=luK n (luS n q c) c) (show c<n by omega) hge hK hpv
  show DetI s n q (c+1,(zW n (luS n q c) c).1,sgB (zW n (luS n q c) c).2.2.2.2*uI (zW n (luS n q c) c).1 (c+1))
  unfold zW
  generalize luK n (luS n q c) c=K at N hge hK
  generalize luS n q c=S at N
  obtain⟨U,L,P,R,b⟩:=S
  have e:sgB (if K=c then b else !b)*uI (zI (zB U c K) c n) (c+1)=(if K=c then sgB b*uI U c else-(sgB b*uI U c))*zB U c K c c:=by
   show sgB _*(uI (zI (zB U c K) c n) c*zI (zB U c K) c n c c)=_
   rw[prodD_congr (V:=U) c λk hk=>by
    rw[jA zo]
    show U (if k=c then K else if k=K then c else k) k=U k k
    rw[if_neg zo,if_neg zo],jA (Nat.le_refl c)]
   by_cases z:K=c
   ·rw[if_pos z,if_pos z,Rat.mul_assoc]
   ·rw[if_neg z,if_neg z]
    cases b<;>simp only[sgB,Bool.not_true,Bool.not_false,if_true,Bool.false_eq_true,if_false]<;>grind
  show DetI s n q (c+1,zI (zB U c K) c n,sgB (if K=c then b else !b)*uI (zI (zB U c K) c n) (c+1))
  rw[e]
  exact N
theorem lu_det(hs:∀i,i<n->∀j,j<n->szq (q i j)<=s)(h:luOK n q n):det n q=if(luS n q n).2.2.2.2=true then-(uI (luS n q n).1 n) else uI (luS n q n).1 n:=by
 rw[xL,←(lu_detI hs n (Nat.le_refl n) h).done rfl]
 exact sgB_if _ _
theorem lu_det_ne(hs:∀i,i<n->∀j,j<n->szq (q i j)<=s)(h:luOK n q n):det n q≠0:=by
 have hp:=prodD_ne n (lu_inv (A:=q) n (Nat.le_refl n) h).piv
 rw[lu_det hs h]
 split
 ·intro e;exact hp (by grind)
 ·exact hp
theorem lu_or(hs:∀i,i<n->∀j,j<n->szq (q i j)<=s):∀c,c<=n->luOK n q c∨cdet n q=0
 | 0,_=>.inl λk hk=>absurd hk (Nat.not_lt_zero k)
 | c+1,hc=>by
  rcases lu_or hs c zo with h | h
  ·by_cases k:luK n (luS n q c) c<n
   ·exact .inl (ok_next h k)
   ·refine .inr ((lu_detI hs c zo h).none (show c<n by omega) ?_)
    have:=(leadK_le (B:=(luS n q c).1) (c:=c) (n-c) c).2
    show yK (luS n q c).1 c c (n-c)=n
    have:luK n (luS n q c) c=yK (luS n q c).1 c c (n-c):=rfl
    omega
  ·exact .inr h
theorem cram_div{b x:Nat->Rat}(hd:det n q≠0)(h:∀r,r<n->sumQ (λj=>q r j*x j) n=b r){c:Nat}(hc:c<n):det n (putC q c b)/det n q=x c:=by
 rw[xL,xL] at*
 rw[cramer h hc,Rat.div_def,Rat.mul_assoc,Rat.mul_inv_cancel _ hd,Rat.mul_one]
end
open Go.RowKit
def offQ (k:Nat) (f:Nat->Rat) (j:Nat):Rat:=if j=k then 0 else f j
theorem jH{k:Nat}{f:Nat->Rat}:offQ k f k=0:=if_pos rfl
theorem off_ne{k j:Nat}{f:Nat->Rat}(h:j≠k):offQ k f j=f j:=if_neg h
theorem sum_off{k n:Nat}(f:Nat->Rat)(hk:k<n):sumQ f n=f k+sumQ (offQ k f) n:=by
 have h1:sumQ f n=sumQ (λj=>(if j=k then f k else 0)+offQ k f j) n:=zF n λj _=>by
  by_cases e:j=k
  ·rw[if_pos e,e,jH];grind
  ·rw[if_neg e,off_ne e];grind
 rw[h1,sumQ_add,jF (f:=λj=>if j=k then f k else 0) n hk λi _ hne=>if_neg hne,if_pos rfl]
def etaX (k:Nat) (w x:Nat->Rat) (j:Nat):Rat:=if j=k then x k/w k else x j-w j*(x k/w k)
def mulV (n:Nat) (A:Nat->Nat->Rat) (w:Nat->Rat) (i:Nat):Rat:=sumQ (λl=>A i l*w l) n
theorem rat_mul_div{a b:Rat}(h:b≠0):b*(a/b)=a:=by
 rw[Rat.div_def,Rat.mul_comm a,←Rat.mul_assoc,Rat.mul_inv_cancel _ h,Rat.one_mul]
theorem putC_self{A:Nat->Nat->Rat}{k i:Nat}{b:Nat->Rat}:putC A k b i k=b i:=if_pos rfl
theorem putC_ne{A:Nat->Nat->Rat}{k i j:Nat}{b:Nat->Rat}(h:j≠k):putC A k b i j=A i j:=if_neg h
theorem eta_step{n k:Nat}{A:Nat->Nat->Rat}{w x:Nat->Rat}(hk:k<n)(hw:w k≠0)(i:Nat):mulV n (putC A k (mulV n A w)) (etaX k w x) i=mulV n A x i:=by
 have hy:=rat_mul_div (a:=x k) hw
 show sumQ (λj=>putC A k (mulV n A w) i j*etaX k w x j) n=sumQ (λj=>A i j*x j) n
 rw[sum_off _ hk,sum_off (λj=>A i j*x j) hk]
 have e1:sumQ (offQ k λj=>putC A k (mulV n A w) i j*etaX k w x j) n=sumQ (λj=>offQ k (λj=>A i j*x j) j+-(x k/w k)*offQ k (λl=>A i l*w l) j) n:=zF n λj _=>by
  by_cases e:j=k
  ·rw[e,jH,jH,jH];grind
  ·rw[off_ne e,off_ne e,off_ne e,putC_ne e]
   show A i j*(if j=k then _ else _)=_
   rw[if_neg e];grind
 have e2:putC A k (mulV n A w) i k*etaX k w x k=(A i k*w k+sumQ (offQ k λl=>A i l*w l) n)*(x k/w k):=by
  rw[putC_self]
  show sumQ (λl=>A i l*w l) n*(if k=k then x k/w k else _)=_
  rw[if_pos rfl,sum_off _ hk]
 have e3:A i k*x k=A i k*w k*(x k/w k):=by rw[Rat.mul_assoc,hy]
 rw[e1,e2,sumQ_add,yT,e3]
 grind
def etaP (k:Nat) (w z:Nat->Rat) (h:Nat):Rat:=z k-sumQ (offQ k λl=>w l*z l) h
def etaZ (n k:Nat) (w z:Nat->Rat) (j:Nat):Rat:=if j=k then etaP k w z n/w k else z j
def rowM (n:Nat) (A:Nat->Nat->Rat) (y:Nat->Rat) (j:Nat):Rat:=sumQ (λi=>y i*A i j) n
theorem row_mulV{n k:Nat}{A:Nat->Nat->Rat}{w y:Nat->Rat}:rowM n (putC A k (mulV n A w)) y k=sumQ (λl=>w l*rowM n A y l) n:=by
 show sumQ (λi=>y i*putC A k (mulV n A w) i k) n=_
 rw[show sumQ (λi=>y i*putC A k (mulV n A w) i k) n=sumQ (λi=>sumQ (λl=>w l*(y i*A i l)) n) n from zF n λi _=>by
  rw[putC_self]
  show y i*sumQ _ n=_
  rw[←yT]
  exact zF n λl _=>by grind,sumQ_comm]
 exact zF n λl _=>by rw[yT];rfl
theorem row_ne{n k j:Nat}{A:Nat->Nat->Rat}{b y:Nat->Rat}(h:j≠k):rowM n (putC A k b) y j=rowM n A y j:=zF n λi _=>by rw[putC_ne h]
theorem etaZ_back{n k:Nat}{A:Nat->Nat->Rat}{w y z:Nat->Rat}(hk:k<n)(hw:w k≠0)(h:∀j,j<n->rowM n A y j=etaZ n k w z j):∀j,j<n->rowM n (putC A k (mulV n A w)) y j=z j:=λj hj=>by
 by_cases e:j=k
 ·subst e
  rw[row_mulV,sum_off _ hk,h j hj,show sumQ (offQ j λl=>w l*rowM n A y l) n=sumQ (offQ j λl=>w l*z l) n from zF n λl hl=>by
   by_cases e:l=j
   ·rw[e,jH,jH]
   ·rw[off_ne e,off_ne e,h l hl];unfold etaZ;rw[if_neg e]]
  unfold etaZ
  rw[if_pos rfl,rat_mul_div hw]
  unfold etaP
  grind
 ·rw[row_ne e,h j hj];unfold etaZ;rw[if_neg e]
abbrev Etas:=Nat->Nat×(Nat->Rat)
def etaM (n:Nat) (A:Nat->Nat->Rat) (e:Etas):Nat->Nat->Nat->Rat
 | 0=>A
 | t+1=>putC (etaM n A e t) (e t).1 (mulV n (etaM n A e t) (e t).2)
def zK (x:Nat->Rat) (e:Etas):Nat->Nat->Rat
 | 0=>x
 | t+1=>etaX (e t).1 (e t).2 (zK x e t)
def yF (n m:Nat) (z:Nat->Rat) (e:Etas):Nat->Nat->Rat
 | 0=>z
 | g+1=>etaZ n (e (m-1-g)).1 (e (m-1-g)).2 (yF n m z e g)
structure EtaOK (n:Nat) (e:Etas) (m:Nat):Prop where
 at_:∀t,t<m->(e t).1<n
 ne:∀t,t<m->(e t).2 (e t).1≠0
section
variable {n m:Nat} {A:Nat->Nat->Rat} {e:Etas}
theorem etaXs_ok(H:EtaOK n e m)(x:Nat->Rat)(i:Nat):∀t,t<=m->mulV n (etaM n A e t) (zK x e t) i=mulV n A x i
 | 0,_=>rfl
 | t+1,ht=>(eta_step (H.at_ t zo) (H.ne t zo) i).trans (etaXs_ok H x i t zo)
theorem etaZs_back(H:EtaOK n e m){y z:Nat->Rat}(h:∀j,j<n->rowM n A y j=yF n m z e m j):∀g,g<=m->∀j,j<n->rowM n (etaM n A e g) y j=yF n m z e (m-g) j
 | 0,_=>h
 | g+1,hg=>by
  have ih:=etaZs_back H h g zo
  rw[show m-g=(m-(g+1))+1 by omega] at ih
  have e1:m-1-(m-(g+1))=g:=by omega
  refine etaZ_back (A:=etaM n A e g) (H.at_ g zo) (H.ne g zo) λj hj=>(ih j hj).trans ?_
  show etaZ n (e (m-1-(m-(g+1)))).1 (e (m-1-(m-(g+1)))).2 _ j=_
  rw[e1]
theorem etaM_det(H:EtaOK n e m)(hA:cdet n A≠0):∀t,t<=m->cdet n (etaM n A e t)≠0
 | 0,_=>hA
 | t+1,ht=>by
  show cdet n (putC _ _ _)≠0
  rw[cramer (A:=etaM n A e t) (b:=mulV n (etaM n A e t) (e t).2) (x:=(e t).2) (λr _=>rfl) (H.at_ t zo)]
  exact rat_mul_ne (H.ne t zo) (etaM_det H hA t zo)
theorem etaM_cong{e':Etas}:∀t,(∀i,i<t->e i=e' i)->etaM n A e t=etaM n A e' t
 | 0,_=>rfl
 | t+1,h=>by
  show putC (etaM n A e t) (e t).1 (mulV n (etaM n A e t) (e t).2)=putC (etaM n A e' t) (e' t).1 (mulV n (etaM n A e' t) (e' t).2)
  rw[etaM_cong t λi hi=>h i zo,h t (Nat.lt_succ_self t)]
end
end Go.Proofs.YtjhfkgpjcdbjaaaGreatDoor
