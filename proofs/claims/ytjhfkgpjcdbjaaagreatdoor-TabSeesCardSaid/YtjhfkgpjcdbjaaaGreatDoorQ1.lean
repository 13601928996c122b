/- The parts Wd, Word, Mem, HeldT, Rel, Val, Info, Nat, Box, Step, Fast, Integer, Type, Sy0. -/
import Derived.WalkKit
import Derived.Laws.BitsAllLaws
import Derived.Test.YtjhfkgpjcdbjaaaGreatDoorProg
import Derived.WalkLawsBesides
import Derived.Lib.Hide
import Derived.Outline
import Derived.Deep.QuietTactic
import Derived.BigQuiet
import Derived.WalkSpells
import Derived.Deep.RegionHeld3
import Derived.BigRegion
import Derived.Deep.RegionWith
import Derived.WalkSmall
import Derived.Handy
import Derived.OpenShut
import Derived.Maps.AppendAt
import Derived.StillTail
import Derived.Deep.MidRow
import Derived.Deep.AppendSrc
import Derived.Deep.Upon
import Derived.Laws.AppendOwn
import Derived.Great.BuildSlice
import Derived.Deep.LoopGhost
import Derived.Deep.RegionLaw
import Derived.Shelf.RegionOpenPlain
import Derived.Lib.SliceRun
import Derived.LaidEql
import Derived.Stop.Asserts
import Derived.RowKitTokens
import Derived.Below
import Derived.Carry
import Derived.ChangeSame
import Derived.ProofKit
import Derived.Deep.Slices
import Derived.ChangeArms
import Derived.ChangeShapes
import Derived.WideShapes
import Derived.Test.YtjhfkgpjcdbjaaaGreatDoorCards
import Derived.Test.YtjhfkgpjcdbjaaaGreatDoorTie
set_option maxRecDepth 100000
namespace Go.Proofs.YtjhfkgpjcdbjaaaGreatDoor
theorem zo{p:Prop}(h:p:=by omega):p:=h
theorem zk{p:Prop}(h:p:=by kernel_rfl):p:=h
theorem zd{p:Prop}(h:p:=by decide):p:=h
theorem zs{p:Prop}(h:p:=by simp):p:=h
theorem idB(b:Bool):b=true->b=true:=id
abbrev sN:Go.Value:=.slice none 0 0
end Go.Proofs.YtjhfkgpjcdbjaaaGreatDoor
namespace Go.Proofs.YtjhfkgpjcdbjaaaGreatDoor.Wd
open Go
theorem shr63(n:Nat)(h:n<18446744073709551616):n/9223372036854775808=if n.testBit 63 then 1 else 0:=by
 rw[Nat.testBit_eq_decide_div_mod_eq]
 simp only[show(2:Nat)^63=9223372036854775808 from rfl]
 by_cases hh:n/9223372036854775808%2=1
 ·simp[hh];omega
 ·simp[hh];omega
theorem tb63(n:Nat)(h:n<18446744073709551616):n.testBit 63=decide (9223372036854775808<=n):=by
 rw[Nat.testBit_eq_decide_div_mod_eq]
 simp only[show(2:Nat)^63=9223372036854775808 from rfl]
 rw[decide_eq_decide];omega
theorem addCarry(x y c s t:Nat)(hx:x<18446744073709551616)(hy:y<18446744073709551616)(hc:c<=1)(hs:s=(x+y+c)%18446744073709551616)(ht:t=18446744073709551615-s):
  ((x&&&y)|||((x|||y)&&&t))/9223372036854775808=(x+y+c)/18446744073709551616:=by
 have ht':t<18446744073709551616:=by omega
 have h1:(x&&&y)<18446744073709551616:=Nat.lt_of_le_of_lt Nat.and_le_left hx
 have h2:((x|||y)&&&t)<18446744073709551616:=Nat.lt_of_le_of_lt Nat.and_le_right ht'
 have h3:((x&&&y)|||((x|||y)&&&t))<18446744073709551616:=by
  have:=Nat.or_lt_two_pow (n:=64) h1 h2
  simpa using this
 rw[shr63 _ h3]
 simp only[Nat.testBit_or,Nat.testBit_and,tb63 x hx,tb63 y hy,tb63 t ht']
 by_cases a:9223372036854775808<=x<;>by_cases b:9223372036854775808<=y<;>by_cases d:9223372036854775808<=t<;>simp[a,b,d]<;>omega
theorem subBorrow(x y b d nx u:Nat)(hx:x<18446744073709551616)(hy:y<18446744073709551616)(hb:b<=1)(hd:d=(18446744073709551616*2+x-y-b)%18446744073709551616)
  (hnx:nx=18446744073709551615-x)(hu:u=18446744073709551615-(x^^^y)):
  ((nx&&&y)|||(u&&&d))/9223372036854775808=if x<y+b then 1 else 0:=by
 have hd':d<18446744073709551616:=by omega
 have hnx':nx<18446744073709551616:=by omega
 have hu':u<18446744073709551616:=by omega
 have hxy:(x^^^y)<18446744073709551616:=by
  have:=Nat.xor_lt_two_pow (n:=64) hx hy
  simpa using this
 have h1:(nx&&&y)<18446744073709551616:=Nat.lt_of_le_of_lt Nat.and_le_right hy
 have h2:(u&&&d)<18446744073709551616:=Nat.lt_of_le_of_lt Nat.and_le_right hd'
 have h3:((nx&&&y)|||(u&&&d))<18446744073709551616:=by
  have:=Nat.or_lt_two_pow (n:=64) h1 h2
  simpa using this
 have hut:u.testBit 63=!(x^^^y).testBit 63:=by
  rw[tb63 u hu',tb63 _ hxy]
  by_cases a:9223372036854775808<=(x^^^y)
  ·simp[a];omega
  ·simp[a];omega
 rw[shr63 _ h3]
 simp only[Nat.testBit_or,Nat.testBit_and,hut,Nat.testBit_xor,tb63 x hx,tb63 y hy,tb63 nx hnx',tb63 d hd']
 clear hut h1 h2 h3 hxy hu hu'
 by_cases a:9223372036854775808<=x<;>by_cases b':9223372036854775808<=y<;>by_cases e:9223372036854775808<=d<;>by_cases f:9223372036854775808<=nx<;>by_cases g:x<y+b<;>simp[a,b',e,f,g]<;>omega
theorem mulHi(x0 x1 y0 y1 b c:Nat)(h0:x0<4294967296)(h1:x1<4294967296)(h2:y0<4294967296)(h3:y1<4294967296)
  (hb:b=x1*y0+x0*y0/4294967296)(hc:c=b%4294967296+x0*y1):
  x1*y1+b/4294967296+c/4294967296=(x1*4294967296+x0)*(y1*4294967296+y0)/18446744073709551616
  /\b<18446744073709551616/\c<18446744073709551616/\x1*y1+b/4294967296+c/4294967296<18446744073709551616:=by
 have e:(x1*4294967296+x0)*(y1*4294967296+y0)=x1*y1*18446744073709551616+(x1*y0+x0*y1)*4294967296+x0*y0:=by grind
 have l1:x1*y0<=4294967295*4294967295:=Nat.mul_le_mul zo zo
 have l2:x0*y0<=4294967295*4294967295:=Nat.mul_le_mul zo zo
 have l3:x0*y1<=4294967295*4294967295:=Nat.mul_le_mul zo zo
 have l4:x1*y1<=4294967295*4294967295:=Nat.mul_le_mul zo zo
 rw[e]
 generalize x1*y0=p at*;generalize x0*y0=q at*;generalize x0*y1=r at*;generalize x1*y1=t at*
 refine⟨by omega,by omega,by omega,by omega⟩
structure DInv (u next y y1 q r:Nat):Prop where
 sum:q*y1+r=u
 up:(u*4294967296+next)/y<=q
 rl:r<4294967296
theorem d_start(u next y y1 y0:Nat)(hu:u<y)(hn:next<4294967296)(hy:y=y1*4294967296+y0)(hy1:2147483648<=y1)(hy1':y1<4294967296)(hy0:y0<4294967296):
  DInv u next y y1 (u/y1) (u%y1)/\u/y1<=4294967297:=by
 have hd:=Nat.div_add_mod u y1
 have hm:=Nat.mod_lt u (show 0<y1 by omega)
 refine⟨⟨by rw[Nat.mul_comm];exact hd,?_,by omega⟩,?_⟩
 ·have:(u*4294967296+next)/y<=(u*4294967296+next)/(4294967296*y1):=Nat.div_le_div_left (by rw[hy];omega) zo
  rw[←Nat.div_div_eq_div_mul] at this
  rw[show(u*4294967296+next)/4294967296=u by omega] at this
  exact this
 ·have:u/y1<4294967298:=by
   rw[Nat.div_lt_iff_lt_mul zo];omega
  omega
theorem d_dec(u next y y1 y0 q r:Nat)(hu:u<y)(hn:next<4294967296)(hy:y=y1*4294967296+y0)(h:DInv u next y y1 q r)
  (ht:4294967295<q∨r*4294967296+next<q*y0):(u*4294967296+next)/y<=q-1/\1<=q/\(q-1)*y1+(r+y1)=u:=by
 obtain⟨hs,hup,hr⟩:=h
 have hQ:(u*4294967296+next)/y<4294967296:=by
  rw[Nat.div_lt_iff_lt_mul zo];omega
 have hlt:(u*4294967296+next)/y<q:=by
  rcases ht with ht | ht
  ·omega
  ·rw[Nat.div_lt_iff_lt_mul zo,hy]
   have:q*(y1*4294967296+y0)=q*y1*4294967296+q*y0:=by rw[Nat.mul_add,Nat.mul_assoc]
   rw[this,←hs,Nat.add_mul,Nat.add_assoc]
   exact Nat.add_lt_add_left ht _
 generalize (u*4294967296+next)/y=Q at*
 refine⟨by omega,by omega,?_⟩
 have:q=(q-1)+1:=by omega
 have e:q*y1=(q-1)*y1+y1:=by
  conv=>lhs;rw[this,Nat.add_mul,Nat.one_mul]
 omega
theorem d_test(u next y y1 y0 q r:Nat)(hu:u<y)(hy:y=y1*4294967296+y0)(h:DInv u next y y1 q r)
  (ht:q*y0<=r*4294967296+next):(u*4294967296+next)/y=q:=by
 obtain⟨hs,hup,hr⟩:=h
 refine Nat.le_antisymm hup ?_
 rw[Nat.le_div_iff_mul_le zo,hy]
 have:q*(y1*4294967296+y0)=q*y1*4294967296+q*y0:=by rw[Nat.mul_add,Nat.mul_assoc]
 rw[this];omega
theorem d_break(u next y y1 y0 q r:Nat)(hu:u<y)(hy:y=y1*4294967296+y0)(hy0:y0<4294967296)(hs:q*y1+r=u)
  (hup:(u*4294967296+next)/y<=q)(hq:q<=4294967296)(hr:4294967295<r):(u*4294967296+next)/y=q:=by
 refine Nat.le_antisymm hup ?_
 rw[Nat.le_div_iff_mul_le zo,hy]
 have:q*(y1*4294967296+y0)=q*y1*4294967296+q*y0:=by rw[Nat.mul_add,Nat.mul_assoc]
 have l:q*y0<=4294967296*4294967295:=Nat.mul_le_mul hq zo
 rw[this];omega
theorem two_digits(u hi lo y q1 r1 q0 r0:Nat)(hy:0<y)(h1:q1=(u*4294967296+hi)/y)(h2:r1=(u*4294967296+hi)%y)
  (h3:q0=(r1*4294967296+lo)/y)(h4:r0=(r1*4294967296+lo)%y):
  q1*4294967296+q0=(u*18446744073709551616+hi*4294967296+lo)/y/\r0=(u*18446744073709551616+hi*4294967296+lo)%y:=by
 have e1:=Nat.div_add_mod (u*4294967296+hi) y
 have e2:=Nat.div_add_mod (r1*4294967296+lo) y
 have l2:r0<y:=by rw[h4];exact Nat.mod_lt _ hy
 rw[←h1,←h2] at e1
 rw[←h3,←h4] at e2
 have:u*18446744073709551616+hi*4294967296+lo=y*(q1*4294967296+q0)+r0:=by
  rw[Nat.mul_add,←Nat.mul_assoc];omega
 rw[this]
 generalize q1*4294967296+q0=z
 refine⟨?_,?_⟩
 ·rw[Nat.mul_add_div hy,Nat.div_eq_of_lt l2];exact(Nat.add_zero _).symm
 ·rw[Nat.mul_add_mod,Nat.mod_eq_of_lt l2]
def blen (n:Nat):Nat:=if n=0 then 0 else n.log2+1
theorem blen_le(n k:Nat):blen n<=k↔n<2^k:=by
 unfold blen
 by_cases h:n=0
 ·subst h;simp[Nat.two_pow_pos]
 ·rw[if_neg h,Nat.succ_le_iff,Nat.log2_lt h]
theorem lt_two_pow_blen(n:Nat):n<2^blen n:=(blen_le n _).1 (Nat.le_refl _)
theorem two_pow_le_of(n:Nat)(h:n≠0):2^(blen n-1)<=n:=by
  have := mt (blen_le n (blen n - 1)).2 (by have : 0 < blen n := by unfold blen; rw [if_neg h]; omega
                                            omega)
  omega
theorem blen_pos(n:Nat)(h:n≠0):0<blen n:=by unfold blen;rw[if_neg h];omega
theorem blen_eq(n k:Nat)(h1:n<2^(k+1))(h2:2^k<=n):blen n=k+1:=by
 have a:=(blen_le n (k+1)).2 h1
 have b:=mt (blen_le n k).1 zo
 omega
theorem blen_shift(n k:Nat)(h:n/2^k≠0):blen n=k+blen (n/2^k):=by
 have p:=two_pow_le_of _ h
 have q:=lt_two_pow_blen (n/2^k)
 have pos:=blen_pos _ h
 generalize blen (n/2^k)=m at*
 have e:k+m=(k+(m-1))+1:=by omega
 rw[e]
 apply blen_eq
 ·rw[show k+(m-1)+1=m+k by omega,Nat.pow_add]
  exact(Nat.div_lt_iff_lt_mul (Nat.two_pow_pos k)).1 q
 ·rw[Nat.add_comm,Nat.pow_add]
  exact(Nat.le_div_iff_mul_le (Nat.two_pow_pos k)).1 p
theorem div_norm(hi lo y S:Nat)(h:hi<y)(hl:lo<18446744073709551616)(hy:y<18446744073709551616)(hS:S=64-blen y):
  9223372036854775808<=y*2^S/\y*2^S<18446744073709551616/\hi*2^S<18446744073709551616/\lo/2^(64-S)<2^S/\
  hi*2^S+lo/2^(64-S)<y*2^S/\(hi*18446744073709551616+lo)*2^S=(hi*2^S+lo/2^(64-S))*18446744073709551616+lo*2^S%18446744073709551616/\S<=64/\0<2^S:=by
 have y0:y≠0:=by omega
 have hp:=two_pow_le_of y y0
 have hq:=lt_two_pow_blen y
 have hb:=blen_pos y y0
 have hb2:=(blen_le y 64).2 hy
 have pS:=Nat.two_pow_pos S
 have e64:2^(64-S)*2^S=18446744073709551616:=by
  rw[←Nat.pow_add,show 64-S+S=64 by omega]
 have n1:9223372036854775808<=y*2^S:=by
  have:=Nat.mul_le_mul_right (2^S) hp
  rw[←Nat.pow_add,show blen y-1+S=63 by omega] at this
  exact this
 have n2:y*2^S<18446744073709551616:=by
  have:=Nat.mul_lt_mul_of_pos_right hq pS
  rw[←Nat.pow_add,show blen y+S=64 by omega] at this
  exact this
 have n3:hi*2^S<=y*2^S:=Nat.mul_le_mul_right _ zo
 have n4:lo/2^(64-S)<2^S:=by
  rw[Nat.div_lt_iff_lt_mul (Nat.two_pow_pos _),Nat.mul_comm,e64];exact hl
 have n5:hi*2^S+2^S<=y*2^S:=by
  have:=Nat.mul_le_mul_right (2^S) (show hi+1<=y from h)
  rw[Nat.add_mul,Nat.one_mul] at this;exact this
 have n6:lo*2^S/18446744073709551616=lo/2^(64-S):=by
  rw[←e64,Nat.mul_div_mul_right _ _ pS]
 refine⟨n1,n2,by omega,n4,by omega,?_,by omega,pS⟩
 rw[←n6]
 have:=Nat.div_add_mod (lo*2^S) 18446744073709551616
 rw[Nat.add_mul,Nat.add_mul,Nat.add_assoc]
 have e:hi*18446744073709551616*2^S=hi*2^S*18446744073709551616:=by rw[Nat.mul_assoc,Nat.mul_comm 18446744073709551616,←Nat.mul_assoc]
 rw[e]
 omega
theorem div_end(N U L Y y S q1 r1 q0 r0:Nat)(hy:0<y)(pS:0<2^S)(hY:Y=y*2^S)(hN:N*2^S=U*18446744073709551616+L)
  (h1:q1=(U*4294967296+L/4294967296)/Y)(h2:r1=(U*4294967296+L/4294967296)%Y)
  (h3:q0=(r1*4294967296+L%4294967296)/Y)(h4:r0=(r1*4294967296+L%4294967296)%Y):
  q1*4294967296+q0=N/y/\r0/2^S=N%y:=by
 have h:=two_digits U (L/4294967296) (L%4294967296) Y q1 r1 q0 r0 (by rw[hY];exact Nat.mul_pos hy pS) h1 h2 h3 h4
 rw[show U*18446744073709551616+L/4294967296*4294967296+L%4294967296=U*18446744073709551616+L by omega,←hN,hY] at h
 rw[h.1,h.2,Nat.mul_div_mul_right _ _ pS,Nat.mul_mod_mul_right,Nat.mul_div_cancel _ pS]
 exact⟨rfl,rfl⟩
end Go.Proofs.YtjhfkgpjcdbjaaaGreatDoor.Wd
namespace Go.Proofs.YtjhfkgpjcdbjaaaGreatDoor
open Go.RowKit
def W64 (x:Int):Prop:=0<=x/\x<18446744073709551616
def AddRel (x y c s d:Int):Prop:=W64 s/\0<=d/\d<=1/\s+18446744073709551616*d=x+y+c
def SubRel (x y c s d:Int):Prop:=W64 s/\0<=d/\d<=1/\s-18446744073709551616*d=x-y-c
def MulRel (x y a b hi lo:Int):Prop:=W64 hi/\W64 lo/\hi*18446744073709551616+lo=x*y+a+b
def Drawn (w w':World):Prop:=∃n,w'=w.drewN n
theorem addRel(x y c:Int)(hx:W64 x)(hy:W64 y)(h0:0<=c)(h1:c<=1):
  AddRel x y c (IntKind.u64.wrap (IntKind.u64.wrap (x+y)+bits BinOp.and IntKind.u64 c 1))
   (bits BinOp.or IntKind.u64 (bits BinOp.and IntKind.u64 x y)
        (bits BinOp.andNot IntKind.u64 (bits BinOp.or IntKind.u64 x y)
         (IntKind.u64.wrap (IntKind.u64.wrap (x+y)+bits BinOp.and IntKind.u64 c 1)))/
       9223372036854775808):=by
 obtain⟨X,rfl⟩:=Int.eq_ofNat_of_zero_le hx.1
 obtain⟨Y,rfl⟩:=Int.eq_ofNat_of_zero_le hy.1
 obtain⟨C,rfl⟩:=Int.eq_ofNat_of_zero_le h0
 have hX:X<18446744073709551616:=by have:=hx.2;omega
 have hY:Y<18446744073709551616:=by have:=hy.2;omega
 have hC:C<=1:=by omega
 have e1:bits BinOp.and IntKind.u64 (C:Int) 1=C:=by
  have:=u64_and_nat C 1 zo zo
  rw[show((1:Nat):Int)=1 from rfl] at this
  rw[this]
  have:C=0∨C=1:=by omega
  rcases this with rfl | rfl<;>rfl
 rw[e1]
 have e2:IntKind.u64.wrap (IntKind.u64.wrap ((X:Int)+Y)+C)=(((X+Y+C)%18446744073709551616:Nat):Int):=by
  rw[IntKind.wrap_u64,IntKind.wrap_u64];omega
 rw[e2]
 generalize hs:(X+Y+C)%18446744073709551616=s
 have hs':s<18446744073709551616:=by omega
 rw[u64_and_nat X Y hX hY,u64_or_nat X Y hX hY]
 have l1:(X|||Y)<18446744073709551616:=by have:=Nat.or_lt_two_pow (n:=64) hX hY;simpa using this
 rw[u64_andNot_nat _ s l1 hs']
 rw[u64_or_nat _ _ (Nat.lt_of_le_of_lt Nat.and_le_left hX) (Nat.lt_of_le_of_lt Nat.and_le_left l1)]
 have key:=Wd.addCarry X Y C s _ hX hY hC hs.symm rfl
 have e3:(((X&&&Y|||(X|||Y)&&&18446744073709551615-s:Nat):Int)/9223372036854775808)=(((X+Y+C)/18446744073709551616:Nat):Int):=by
  rw[←key];rfl
 rw[e3]
 refine⟨⟨by omega,by omega⟩,by omega,by omega,by omega⟩
theorem subRel(x y c:Int)(hx:W64 x)(hy:W64 y)(h0:0<=c)(h1:c<=1):
  SubRel x y c (IntKind.u64.wrap (IntKind.u64.wrap (x-y)-bits BinOp.and IntKind.u64 c 1))
   (bits BinOp.or IntKind.u64
                (bits BinOp.and IntKind.u64 (bits BinOp.xor IntKind.u64 IntKind.u64.max x) y)
                (bits BinOp.and IntKind.u64
                 (bits BinOp.xor IntKind.u64 IntKind.u64.max (bits BinOp.xor IntKind.u64 x y))
                 (IntKind.u64.wrap (IntKind.u64.wrap (x-y)-bits BinOp.and IntKind.u64 c 1)))/
               9223372036854775808):=by
 obtain⟨X,rfl⟩:=Int.eq_ofNat_of_zero_le hx.1
 obtain⟨Y,rfl⟩:=Int.eq_ofNat_of_zero_le hy.1
 obtain⟨C,rfl⟩:=Int.eq_ofNat_of_zero_le h0
 have hX:X<18446744073709551616:=by have:=hx.2;omega
 have hY:Y<18446744073709551616:=by have:=hy.2;omega
 have hC:C<=1:=by omega
 have e1:bits BinOp.and IntKind.u64 (C:Int) 1=C:=by
  have:=u64_and_nat C 1 zo zo
  rw[show((1:Nat):Int)=1 from rfl] at this
  rw[this]
  have:C=0∨C=1:=by omega
  rcases this with rfl | rfl<;>rfl
 rw[e1]
 have e2:IntKind.u64.wrap (IntKind.u64.wrap ((X:Int)-Y)-C)=(((18446744073709551616*2+X-Y-C)%18446744073709551616:Nat):Int):=by
  rw[IntKind.wrap_u64,IntKind.wrap_u64];omega
 rw[e2]
 generalize hs:(18446744073709551616*2+X-Y-C)%18446744073709551616=s
 have hs':s<18446744073709551616:=by omega
 have hn:∀Z:Nat,Z<18446744073709551616->bits BinOp.xor IntKind.u64 IntKind.u64.max (Z:Int)=((18446744073709551615-Z:Nat):Int):=by
  intro Z hZ
  have e:IntKind.u64.max=((18446744073709551615:Nat):Int):=rfl
  rw[e,u64_xor_nat _ _ zo hZ]
  have:(18446744073709551615:Nat)^^^Z=18446744073709551615-Z:=by
   have h:=BitVec.toNat_not (x:=BitVec.ofNat 64 Z)
   rw[BitVec.toNat_ofNat,Nat.mod_eq_of_lt (by simpa using hZ)] at h
   have h2: ~~~(BitVec.ofNat 64 Z)=BitVec.allOnes 64^^^BitVec.ofNat 64 Z:=by rw[BitVec.allOnes_xor]
   rw[h2,BitVec.toNat_xor,BitVec.toNat_ofNat,Nat.mod_eq_of_lt (by simpa using hZ),BitVec.toNat_allOnes] at h
   simpa using h
  rw[this]
 have l1:(X^^^Y)<18446744073709551616:=by have:=Nat.xor_lt_two_pow (n:=64) hX hY;simpa using this
 rw[hn X hX,u64_xor_nat X Y hX hY,hn _ l1]
 rw[u64_and_nat _ Y zo hY,u64_and_nat _ s zo hs']
 rw[u64_or_nat _ _ (Nat.lt_of_le_of_lt Nat.and_le_right hY) (Nat.lt_of_le_of_lt Nat.and_le_right hs')]
 have key:=Wd.subBorrow X Y C s _ _ hX hY hC hs.symm rfl rfl
 have e3:(((18446744073709551615-X&&&Y|||18446744073709551615-(X^^^Y)&&&s:Nat):Int)/9223372036854775808)=((if X<Y+C then 1 else 0:Nat):Int):=by
  rw[←key];rfl
 rw[e3]
 by_cases hlt:X<Y+C
 ·rw[if_pos hlt]
  refine⟨⟨by omega,by omega⟩,by omega,by omega,by omega⟩
 ·rw[if_neg hlt]
  refine⟨⟨by omega,by omega⟩,by omega,by omega,by omega⟩
set_option maxHeartbeats 400000 in
theorem wAdd(x y c:Int)(hx:W64 x)(hy:W64 y)(h0:0<=c)(h1:c<=1)(w:World):
  Calls Tryz.prog 145 #[.int .u64 x,.int .u64 y,.int .u64 c] w λe w'=>∃s d,e=.returned (.tuple #[.int .u64 s,.int .u64 d])/\AddRel x y c s d/\w=w':=by
 have H:=Lib.hid (addRel x y c hx hy h0 h1)
 clear hx hy h0 h1
 go_enter Tryz.func145,Tryz.ntmps145
 go_wp2
 go_ret2
 exact⟨_,_,rfl,H.out,rfl⟩
set_option maxHeartbeats 400000 in
theorem wSub(x y c:Int)(hx:W64 x)(hy:W64 y)(h0:0<=c)(h1:c<=1)(w:World):
  Calls Tryz.prog 146 #[.int .u64 x,.int .u64 y,.int .u64 c] w λe w'=>∃s d,e=.returned (.tuple #[.int .u64 s,.int .u64 d])/\SubRel x y c s d/\w=w':=by
 have H:=Lib.hid (subRel x y c hx hy h0 h1)
 clear hx hy h0 h1
 have hs:IntKind.u64.signed=false:=rfl
 go_enter Tryz.func146,Tryz.ntmps146
 go_wp2
 go_ret2
 exact⟨_,_,rfl,H.out,rfl⟩
theorem and32(x:Int)(hx:W64 x):bits BinOp.and IntKind.u64 x 4294967295=x%4294967296:=by
 obtain⟨X,rfl⟩:=Int.eq_ofNat_of_zero_le hx.1
 have hX:X<18446744073709551616:=by have:=hx.2;omega
 have:=u64_and_nat X 4294967295 hX zo
 rw[show((4294967295:Nat):Int)=4294967295 from rfl] at this
 rw[this,show(4294967295:Nat)=2^32-1 from rfl,Nat.and_two_pow_sub_one_eq_mod]
 rfl
theorem kC(x:Int)(hx:W64 x):IntKind.u64.wrap x=x:=by
 rw[IntKind.wrap_u64];exact Int.emod_eq_of_lt hx.1 hx.2
theorem wrap_W(x:Int):W64 (IntKind.u64.wrap x):=by
 rw[IntKind.wrap_u64];exact⟨by omega,by omega⟩
theorem mulRel(x y:Int)(hx:W64 x)(hy:W64 y):
  MulRel x y 0 0 (IntKind.u64.wrap
       (IntKind.u64.wrap
         (IntKind.u64.wrap (x / 4294967296 * (y / 4294967296)) +
          IntKind.u64.wrap
            (IntKind.u64.wrap (x / 4294967296 * bits BinOp.and IntKind.u64 y 4294967295) +
             IntKind.u64.wrap
               (bits BinOp.and IntKind.u64 x 4294967295*bits BinOp.and IntKind.u64 y 4294967295)/
              4294967296)/
           4294967296)+
        IntKind.u64.wrap
          (bits BinOp.and IntKind.u64
            (IntKind.u64.wrap
             (IntKind.u64.wrap (x / 4294967296 * bits BinOp.and IntKind.u64 y 4294967295) +
              IntKind.u64.wrap
                (bits BinOp.and IntKind.u64 x 4294967295*bits BinOp.and IntKind.u64 y 4294967295)/
               4294967296))
            4294967295+
           IntKind.u64.wrap (bits BinOp.and IntKind.u64 x 4294967295*(y/4294967296)))/
         4294967296)) (IntKind.u64.wrap (x*y)):=by
 rw[and32 x hx,and32 y hy,and32 _ (wrap_W _)]
 obtain⟨X,rfl⟩:=Int.eq_ofNat_of_zero_le hx.1
 obtain⟨Y,rfl⟩:=Int.eq_ofNat_of_zero_le hy.1
 have hX:X<18446744073709551616:=by have:=hx.2;omega
 have hY:Y<18446744073709551616:=by have:=hy.2;omega
 have key:=Wd.mulHi (X%4294967296) (X/4294967296) (Y%4294967296) (Y/4294967296) _ _ zo zo zo zo rfl rfl
 rw[show X/4294967296*4294967296+X%4294967296=X by omega,show Y/4294967296*4294967296+Y%4294967296=Y by omega] at key
 have cx1:(X:Int)/4294967296=((X/4294967296:Nat):Int):=rfl
 have cx0:(X:Int)%4294967296=((X%4294967296:Nat):Int):=rfl
 have cy1:(Y:Int)/4294967296=((Y/4294967296:Nat):Int):=rfl
 have cy0:(Y:Int)%4294967296=((Y%4294967296:Nat):Int):=rfl
 have b0:X%4294967296<=4294967295:=by omega
 have b1:X/4294967296<=4294967295:=by omega
 have b2:Y%4294967296<=4294967295:=by omega
 have b3:Y/4294967296<=4294967295:=by omega
 rw[cx1,cx0,cy1,cy0]
 generalize X/4294967296=x1 at*;generalize X%4294967296=x0 at*;generalize Y/4294967296=y1 at*;generalize Y%4294967296=y0 at*
 have l1:x1*y0<=4294967295*4294967295:=Nat.mul_le_mul b1 b2
 have l2:x0*y0<=4294967295*4294967295:=Nat.mul_le_mul b0 b2
 have l3:x0*y1<=4294967295*4294967295:=Nat.mul_le_mul b0 b3
 have l4:x1*y1<=4294967295*4294967295:=Nat.mul_le_mul b1 b3
 simp only[←Int.natCast_mul]
 generalize x1*y0=p at*;generalize x0*y0=q at*;generalize x0*y1=r at*;generalize x1*y1=t at*
 obtain⟨k1,k2,k3,k4⟩:=key
 rw[kC (p:Int) ⟨by omega,by omega⟩,kC (q:Int) ⟨by omega,by omega⟩,kC (r:Int) ⟨by omega,by omega⟩,kC (t:Int) ⟨by omega,by omega⟩]
 have cb:(p:Int)+(q:Int)/4294967296=((p+q/4294967296:Nat):Int):=by omega
 rw[cb]
 generalize p+q/4294967296=b at*
 rw[kC (b:Int) ⟨by omega,by omega⟩]
 have cc:(b:Int)%4294967296+(r:Int)=((b%4294967296+r:Nat):Int):=by omega
 rw[cc]
 generalize b%4294967296+r=c at*
 rw[kC (c:Int) ⟨by omega,by omega⟩,kC ((t:Int)+(b:Int)/4294967296) ⟨by omega,by omega⟩,kC ((t:Int)+(b:Int)/4294967296+(c:Int)/4294967296) ⟨by omega,by omega⟩]
 unfold MulRel
 simp only[←Int.natCast_mul]
 generalize X*Y=z at*
 rw[IntKind.wrap_u64]
 refine⟨⟨by omega,by omega⟩,⟨by omega,by omega⟩,by omega⟩
set_option maxHeartbeats 400000 in
theorem wMul(x y:Int)(hx:W64 x)(hy:W64 y)(w:World):
  Calls Tryz.prog 149 #[.int .u64 x,.int .u64 y] w λe w'=>∃hi lo,e=.returned (.tuple #[.int .u64 hi,.int .u64 lo])/\MulRel x y 0 0 hi lo/\w=w':=by
 have H:=Lib.hid (mulRel x y hx hy)
 clear hx hy
 go_enter Tryz.func149,Tryz.ntmps149
 go_wp2
 go_ret2
 exact⟨_,_,rfl,H.out,rfl⟩
theorem mulAddRel{x y a b hi lo s1 d1 s2 d2:Int}(h:MulRel x y 0 0 hi lo)(hx:W64 x)(hy:W64 y)(ha:W64 a)(hb:W64 b)(h1:AddRel lo a 0 s1 d1)(h2:AddRel s1 b 0 s2 d2):
  MulRel x y a b (hi+d1+d2) s2/\W64 (hi+d1)/\W64 (hi+d1+d2):=by
 obtain⟨c1,c2,c3⟩:=h
 obtain⟨e1,e2,e3,e4⟩:=h1
 obtain⟨f1,f2,f3,f4⟩:=h2
 unfold MulRel
 unfold W64 at*
 have:x*y<=18446744073709551615*18446744073709551615:=Int.mul_le_mul zo zo zo zo
 generalize x*y=z at*
 refine⟨⟨⟨by omega,by omega⟩,⟨by omega,by omega⟩,by omega⟩,⟨by omega,by omega⟩,⟨by omega,by omega⟩⟩
set_option maxHeartbeats 400000 in
theorem wMulAdd(x y a b:Int)(hx:W64 x)(hy:W64 y)(ha:W64 a)(hb:W64 b)(w:World):
  Calls Tryz.prog 142 #[.int .u64 x,.int .u64 y,.int .u64 a,.int .u64 b] w λe w'=>∃hi lo,e=.returned (.tuple #[.int .u64 hi,.int .u64 lo])/\MulRel x y a b hi lo/\w=w':=by
 go_enter Tryz.func142,Tryz.ntmps142
 go_wp2_with fail
 refine(wMul x y hx hy _).mono ?_
 rintro e w' ⟨hi,lo,rfl,hm,rfl⟩
 go_wp2_with fail
 refine(wAdd lo a 0 hm.2.1 ha zo zo _).mono ?_
 rintro e w' ⟨s1,d1,rfl,h1,rfl⟩
 go_wp2_with fail
 refine(wAdd s1 b 0 h1.1 hb zo zo _).mono ?_
 rintro e w' ⟨s2,d2,rfl,h2,rfl⟩
 go_wp2_with fail
 have H:=Lib.hid (mulAddRel hm hx hy ha hb h1 h2)
 go_ret2
 have e1:=kC _ H.out.2.1
 have e2:=kC _ H.out.2.2
 refine⟨_,_,rfl,?_,rfl⟩
 simp only[e1,e2]
 exact H.out.1
def LenInv (X x n k:Nat):Prop:=x<(if k=0 then 2 else 2^(2*k))/\n+Wd.blen x=Wd.blen X/\n+2*k<=64
theorem len_go(X x n k:Nat)(k2:Nat)(hk:k=2*k2∨(k=1/\k2=0))(h:LenInv X x n k)(hk0:k≠0)(hx:x/2^k≠0):LenInv X (x/2^k) (n+k) k2:=by
 obtain⟨h1,h2,h3⟩:=h
 have hs:=Wd.blen_shift x k hx
 rw[if_neg hk0] at h1
 refine⟨?_,by omega,by omega⟩
 have:x/2^k<2^k:=by
  rw[Nat.div_lt_iff_lt_mul (Nat.two_pow_pos k),←Nat.pow_add];rw[show k+k=2*k by omega];exact h1
 rcases hk with rfl | ⟨rfl,rfl⟩
 ·rw[if_neg zo];exact this
 ·simpa using this
theorem len_stay(X x n k:Nat)(k2:Nat)(hk:k=2*k2∨(k=1/\k2=0))(h:LenInv X x n k)(hk0:k≠0)(hx:x/2^k=0):LenInv X x n k2:=by
 obtain⟨h1,h2,h3⟩:=h
 refine⟨?_,h2,by omega⟩
 have:x<2^k:=by
  have:=(Nat.div_eq_zero_iff).1 hx
  rcases this with h | h
  ·exact absurd h (Nat.ne_of_gt (Nat.two_pow_pos k))
  ·exact h
 rcases hk with rfl | ⟨rfl,rfl⟩
 ·rw[if_neg zo];exact this
 ·simpa using this
theorem len_end(X x n:Nat)(h:LenInv X x n 0):n+x=Wd.blen X:=by
 obtain⟨h1,h2,h3⟩:=h
 simp at h1
 have:x=0∨x=1:=by omega
 rcases this with rfl | rfl
 ·simpa [Wd.blen] using h2
 ·rw[←h2];rfl
theorem blen64(X:Nat)(h:X<18446744073709551616):Wd.blen X<=64:=(Wd.blen_le X 64).2 h
set_option maxHeartbeats 1000000 in
theorem wLen(X:Nat)(hX:X<18446744073709551616)(w:World):
  Calls Tryz.prog 158 #[.int .u64 X] w λe w'=>e=.returned (.int .i64 (Wd.blen X))/\Drawn w w':=by
 have hst:LenInv X X 0 32:=⟨hX,by simp,by omega⟩
 have hb:=blen64 X hX
 go_enter Tryz.func158,Tryz.ntmps158
 go_wp2
 go_loopw [0,3,4] (λc d i wr=>∃x n k:Nat,c=.int .u64 x/\d=.int .i64 n/\i=.int .i64 k/\(k=32∨k=16∨k=8∨k=4∨k=2∨k=1∨k=0)/\LenInv X x n k/\Drawn w wr) (λc d i wr=>(intOf i).toNat)
 case atStart=>exact⟨X,0,32,rfl,rfl,rfl,.inl rfl,hst,⟨0,rfl⟩⟩
 case round=>
  obtain⟨x,n,k,rfl,rfl,rfl,hk,hi,⟨m,rfl⟩⟩:=hrel
  have hn:(n:Int)<=64:=by have:=hi.2.2;omega
  rcases hk with rfl | rfl | rfl | rfl | rfl | rfl | rfl
  ·go_wp2
   ·have ht:((x:Int)/4294967296 !=0)=true:=by assumption
    have h2:x/2^32≠0:=by simp at ht;omega
    go_quiet (fail)
    go_wp2
    go_roundw
    case rel=>exact⟨x/2^32,n+32,16,rfl,rfl,rfl,by simp,len_go X x n 32 16 (.inl rfl) hi zo h2,_,rfl⟩
    case measure=>simp[intOf]
   ·have ht:((x:Int)/4294967296 !=0)=false:=by assumption
    have h2:x/2^32=0:=by simp at ht;omega
    go_roundw
    case rel=>exact⟨x,n,16,rfl,rfl,rfl,by simp,len_stay X x n 32 16 (.inl rfl) hi zo h2,_,rfl⟩
    case measure=>simp[intOf]
  ·go_wp2
   ·have ht:((x:Int)/65536 !=0)=true:=by assumption
    have h2:x/2^16≠0:=by simp at ht;omega
    go_quiet (fail)
    go_wp2
    go_roundw
    case rel=>exact⟨x/2^16,n+16,8,rfl,rfl,rfl,by simp,len_go X x n 16 8 (.inl rfl) hi zo h2,_,rfl⟩
    case measure=>simp[intOf]
   ·have ht:((x:Int)/65536 !=0)=false:=by assumption
    have h2:x/2^16=0:=by simp at ht;omega
    go_roundw
    case rel=>exact⟨x,n,8,rfl,rfl,rfl,by simp,len_stay X x n 16 8 (.inl rfl) hi zo h2,_,rfl⟩
    case measure=>simp[intOf]
  ·go_wp2
   ·have ht:((x:Int)/256 !=0)=true:=by assumption
    have h2:x/2^8≠0:=by simp at ht;omega
    go_quiet (fail)
    go_wp2
    go_roundw
    case rel=>exact⟨x/2^8,n+8,4,rfl,rfl,rfl,by simp,len_go X x n 8 4 (.inl rfl) hi zo h2,_,rfl⟩
    case measure=>simp[intOf]
   ·have ht:((x:Int)/256 !=0)=false:=by assumption
    have h2:x/2^8=0:=by simp at ht;omega
    go_roundw
    case rel=>exact⟨x,n,4,rfl,rfl,rfl,by simp,len_stay X x n 8 4 (.inl rfl) hi zo h2,_,rfl⟩
    case measure=>simp[intOf]
  ·go_wp2
   ·have ht:((x:Int)/16 !=0)=true:=by assumption
    have h2:x/2^4≠0:=by simp at ht;omega
    go_quiet (fail)
    go_wp2
    go_roundw
    case rel=>exact⟨x/2^4,n+4,2,rfl,rfl,rfl,by simp,len_go X x n 4 2 (.inl rfl) hi zo h2,_,rfl⟩
    case measure=>simp[intOf]
   ·have ht:((x:Int)/16 !=0)=false:=by assumption
    have h2:x/2^4=0:=by simp at ht;omega
    go_roundw
    case rel=>exact⟨x,n,2,rfl,rfl,rfl,by simp,len_stay X x n 4 2 (.inl rfl) hi zo h2,_,rfl⟩
    case measure=>simp[intOf]
  ·go_wp2
   ·have ht:((x:Int)/4 !=0)=true:=by assumption
    have h2:x/2^2≠0:=by simp at ht;omega
    go_quiet (fail)
    go_wp2
    go_roundw
    case rel=>exact⟨x/2^2,n+2,1,rfl,rfl,rfl,by simp,len_go X x n 2 1 (.inl rfl) hi zo h2,_,rfl⟩
    case measure=>simp[intOf]
   ·have ht:((x:Int)/4 !=0)=false:=by assumption
    have h2:x/2^2=0:=by simp at ht;omega
    go_roundw
    case rel=>exact⟨x,n,1,rfl,rfl,rfl,by simp,len_stay X x n 2 1 (.inl rfl) hi zo h2,_,rfl⟩
    case measure=>simp[intOf]
  ·go_wp2
   ·have ht:((x:Int)/2 !=0)=true:=by assumption
    have h2:x/2^1≠0:=by simp at ht;omega
    go_quiet (fail)
    go_wp2
    go_roundw
    case rel=>exact⟨x/2^1,n+1,0,rfl,rfl,rfl,by simp,len_go X x n 1 0 (.inr ⟨rfl,rfl⟩) hi zo h2,_,rfl⟩
    case measure=>simp[intOf]
   ·have ht:((x:Int)/2 !=0)=false:=by assumption
    have h2:x/2^1=0:=by simp at ht;omega
    go_roundw
    case rel=>exact⟨x,n,0,rfl,rfl,rfl,by simp,len_stay X x n 1 0 (.inr ⟨rfl,rfl⟩) hi zo h2,_,rfl⟩
    case measure=>simp[intOf]
  ·have he:=len_end X x n hi
   have hi1:=hi.1
   simp at hi1
   have hx64:(x:Int)<=1:=by omega
   have H:=Lib.hid he
   clear he hi1
   go_wp2
   go_ret
   refine⟨?_,_,rfl⟩
   have:=H.out
   rw[←this]
   simp
def xE (X:Nat):Nat:=64-Wd.blen X
theorem jS{a b:Int}(h:a=b):Ending.returned (.int .i64 a)=.returned (.int .i64 b):=by rw[h]
set_option maxHeartbeats 400000 in
theorem wLead(X:Nat)(hX:X<18446744073709551616)(w:World):
  Calls Tryz.prog 151 #[.int .u64 X] w λe w'=>e=.returned (.int .i64 (xE X))/\Drawn w w':=by
 have hb:=blen64 X hX
 go_enter Tryz.func151,Tryz.ntmps151
 go_wp2_with fail
 refine(wLen X hX _).mono ?_
 rintro e w' ⟨rfl,n,rfl⟩
 go_wp2_with fail
 go_ret
 exact⟨jS (by unfold xE;omega),_,rfl⟩
def digQ (u n y:Nat):Nat:=(u*4294967296+n)/y
def digR (u n y:Nat):Nat:=(u*4294967296+n)%y
theorem dig_res(u n y q:Nat)(hy:0<y)(hy2:y<18446744073709551616)(h:(u*4294967296+n)/y=q):
  IntKind.u64.wrap (IntKind.u64.wrap (IntKind.u64.wrap ((u:Int)*4294967296)+n)-IntKind.u64.wrap ((q:Int)*y))=(digR u n y:Int):=by
 unfold digR
 have e:=Nat.div_add_mod (u*4294967296+n) y
 have l:=Nat.mod_lt (u*4294967296+n) hy
 rw[h,Nat.mul_comm] at e
 generalize (u*4294967296+n)%y=m at*
 rw[←Int.natCast_mul]
 generalize q*y=p at*
 simp only[IntKind.wrap_u64]
 omega
theorem dig_no(q r n y:Nat)(t:4294967295<q∨r*4294967296+n<q*(y%4294967296))(h:(q:Int)<=4294967295/\(q:Int)*((y:Int)%4294967296)<=r*4294967296+n):False:=by
 obtain⟨h1,h2⟩:=h
 rw[show(y:Int)%4294967296=((y%4294967296:Nat):Int) from rfl,←Int.natCast_mul] at h2
 generalize q*(y%4294967296)=z at*
 rcases t with t | t
 ·omega
 ·exact Nat.not_lt.2 zo t
theorem ret_uu{a b c d:Int}(h:a=b)(h':c=d):Ending.returned (.tuple #[.int .u64 a,.int .u64 c])=Ending.returned (.tuple #[.int .u64 b,.int .u64 d]):=by rw[h,h']
set_option maxHeartbeats 1000000 in
theorem wDigit(u n y:Nat)(hu:u<y)(hn:n<4294967296)(hy1:9223372036854775808<=y)(hy2:y<18446744073709551616)(w:World):
    Calls Tryz.prog 159 #[.int .u64 u,.int .u64 n,.int .u64 y] w λe w'=>e=.returned (.tuple #[.int .u64 (digQ u n y),.int .u64 (digR u n y)])/\Drawn w w':=by
  have ey:y=y/4294967296*4294967296+y%4294967296:=by omega
  have h1:(((y:Int)/4294967296)==0)=false:=by simp;omega
  have h3:0<=(y:Int)/4294967296:=by omega
  have h2:0<(y:Int)/4294967296:=by omega
  have ha:bits BinOp.and IntKind.u64 y 4294967295=(y:Int)%4294967296:=and32 y ⟨by omega,by omega⟩
  have hst:=Wd.d_start u n y (y/4294967296) (y%4294967296) hu hn ey zo zo zo
  have HD:=Lib.hid hst.1
  have hq0:u/(y/4294967296)<18446744073709551616:=by have:=hst.2;omega
  have HQ:=Lib.hid hst.2
  clear hst
  have hy0:y%4294967296<4294967296:=by omega
  have EY:=Lib.hid ey;clear ey
  go_enter Tryz.func159,Tryz.ntmps159
  go_wp2_with fail
  go_quiet (fail)
  go_wp2_with fail
  go_loopw [10,11] (λc d wr=>∃q r:Nat,c=.int .u64 q/\d=.int .u64 r/\Wd.DInv u n y (y/4294967296) q r/\q<=4294967297/\Drawn w wr) (λc d wr=>(intOf c).toNat)
  case atStart=>
    refine⟨u/(y/4294967296),u%(y/4294967296),?_,?_,HD.out,HQ.out,_,rfl⟩
    · rw[show((u:Int)/((y:Int)/4294967296))=((u/(y/4294967296):Nat):Int) from rfl]
      clear ha HD HQ
      generalize u/(y/4294967296)=z at*
      rw[kC _ ⟨by omega,by omega⟩]
    · rfl
  case round=>
    obtain⟨q,r,rfl,rfl,hi,hq,⟨m,rfl⟩⟩:=hrel
    have hr:(r:Int)<=4294967295:=by have:=hi.rl;omega
    have e5:IntKind.u64.wrap ((q:Int)*((y:Int)%4294967296))=((q*(y%4294967296):Nat):Int):=by
      have l:q*(y%4294967296)<=4294967297*4294967295:=Nat.mul_le_mul hq zo
      rw[show(y:Int)%4294967296=((y%4294967296:Nat):Int) from rfl,←Int.natCast_mul]
      generalize q*(y%4294967296)=z at*
      exact kC _ ⟨by omega,by omega⟩
    by_cases t:4294967295<q∨r*4294967296+n<q*(y%4294967296)
    · have hd:=Wd.d_dec u n y _ _ q r hu hn EY.out hi t
      obtain⟨q',hz⟩:∃q',q'=q-1:=⟨q-1,rfl⟩
      have e6:IntKind.u64.wrap ((q:Int)-1)=(q':Int):=by
        rw[kC _ ⟨by have:=hd.2.1;omega,by omega⟩];have:=hd.2.1;omega
      have hlt:(q':Int)<q:=by have:=hd.2.1;omega
      have e7:(q:Int)-1=q':=by have:=hd.2.1;omega
      rw[←hz] at hd
      clear hz
      have hd1:=Lib.hid hd.1
      have hd3:=Lib.hid hd.2.2
      have T:=Lib.hid t
      clear hd hi t
      have hq':q'<=4294967296:=by omega
      go_wp2
      all_goals first
        | (have hb : (q : Int) <= 4294967295 /\ (q : Int) * ((y : Int) % 4294967296) <= r * 4294967296 + n := by assumption
           exfalso
           exact dig_no q r n y T.out hb)
        | (have hb : (4294967295 : Int) < r + (y : Int) / 4294967296 := by assumption
           have hres:=Lib.hid (Wd.d_break u n y _ _ q' _ hu EY.out hy0 hd3.out hd1.out zo zo)
           go_ret2
           exact⟨ret_uu (by rw[digQ,hres.out]) (dig_res u n y q' zo hy2 hres.out),_,rfl⟩)
        | (have hb : (r : Int) + (y : Int) / 4294967296 <= 4294967295 := by assumption
           go_roundw
           case rel=>exact⟨q',r+y/4294967296,rfl,rfl,⟨hd3.out,hd1.out,by omega⟩,by omega,_,rfl⟩
           case measure=>simp[intOf];omega)
    · have hd:=Lib.hid (Wd.d_test u n y _ _ q r hu EY.out hi zo)
      have f1:(q:Int)<=4294967295:=by omega
      have f2:(q:Int)*((y:Int)%4294967296)<=r*4294967296+n:=by
        have t2:q*(y%4294967296)<=r*4294967296+n:=Nat.le_of_not_lt λh=>t (.inr h)
        rw[show(y:Int)%4294967296=((y%4294967296:Nat):Int) from rfl,←Int.natCast_mul]
        generalize q*(y%4294967296)=z at*
        omega
      clear hi t
      go_wp2
      go_ret2
      exact⟨ret_uu (by rw[digQ,hd.out]) (dig_res u n y q zo hy2 hd.out),_,rfl⟩
theorem Drawn.drewN{w w':World}(h:Drawn w w')(k:Nat):Drawn w (w'.drewN k):=by
 obtain⟨n,rfl⟩:=h
 exact⟨n+k,by simp⟩
theorem Drawn.refl(w:World):Drawn w w:=⟨0,rfl⟩
theorem Drawn.trans{a b c:World}(h:Drawn a b)(k:Drawn b c):Drawn a c:=by
 obtain⟨n,rfl⟩:=k
 exact h.drewN n
theorem ret_uub{a b c d:Int}{z:Bool}(h:a=b)(h':c=d):Ending.returned (.tuple #[.int .u64 a,.int .u64 c,.bool z])=Ending.returned (.tuple #[.int .u64 b,.int .u64 d,.bool z]):=by rw[h,h']
set_option maxHeartbeats 1000000 in
theorem wDiv_no(hi lo y:Int)(h:y<=hi)(w:World):
  Calls Tryz.prog 157 #[.int .u64 hi,.int .u64 lo,.int .u64 y] w λe w'=>e=.returned (.tuple #[.int .u64 0,.int .u64 0,.bool false])/\w=w':=by
 go_enter Tryz.func157,Tryz.ntmps157
 go_wp2_with fail
 go_ret3
 exact⟨rfl,rfl⟩
def divQ (hi lo y:Nat):Nat:=(hi*18446744073709551616+lo)/y
def divR (hi lo y:Nat):Nat:=(hi*18446744073709551616+lo)%y
set_option maxHeartbeats 1000000 in
theorem wDiv_yes(hi lo y:Nat)(h:hi<y)(hl:lo<18446744073709551616)(hy:y<18446744073709551616)(w:World):
  Calls Tryz.prog 157 #[.int .u64 hi,.int .u64 lo,.int .u64 y] w λe w'=>e=.returned (.tuple #[.int .u64 (divQ hi lo y),.int .u64 (divR hi lo y),.bool true])/\Drawn w w':=by
 have hs:(xE y:Int)<=64:=by unfold xE;omega
 obtain⟨n1,n2,n3,n4,n5,n6,n7,n8⟩:=Wd.div_norm hi lo y _ h hl hy (show xE y=_ from rfl)
 have e1:bits BinOp.or IntKind.u64 (IntKind.u64.wrap ((hi:Int)*2^xE y)) ((lo:Int)/2^(64-xE y))=((hi*2^xE y+lo/2^(64-xE y):Nat):Int):=by
  rw[show(lo:Int)/2^(64-xE y)=((lo/2^(64-xE y):Nat):Int) by simp,show(hi:Int)*2^xE y=((hi*2^xE y:Nat):Int) by simp]
  rw[kC _ ⟨by omega,by omega⟩,u64_or_nat _ _ n3 zo,nat_join (xE y) _ _ (Nat.mul_mod_left _ _) n4]
 have e2:IntKind.u64.wrap ((lo:Int)*2^xE y)=((lo*2^xE y%18446744073709551616:Nat):Int):=by
  rw[IntKind.wrap_u64];simp
 have e3:IntKind.u64.wrap ((y:Int)*2^xE y)=((y*2^xE y:Nat):Int):=by
  rw[show(y:Int)*2^xE y=((y*2^xE y:Nat):Int) by simp,kC _ ⟨by omega,by omega⟩]
 generalize hU:hi*2^xE y+lo/2^(64-xE y)=U at*
 generalize hY:y*2^xE y=Y at*
 have hL:lo*2^xE y%18446744073709551616<18446744073709551616:=Nat.mod_lt _ zo
 generalize lo*2^xE y%18446744073709551616=L at*
 have HE:=Lib.hid (Wd.div_end (hi*18446744073709551616+lo) U L Y y (xE y) (digQ U (L/4294967296) Y) (digR U (L/4294967296) Y)
  (digQ (digR U (L/4294967296) Y) (L%4294967296) Y) (digR (digR U (L/4294967296) Y) (L%4294967296) Y) zo n8 hY.symm n6 rfl rfl rfl rfl)
 have e4:bits BinOp.and IntKind.u64 (L:Int) 4294967295=((L%4294967296:Nat):Int):=and32 L ⟨by omega,by omega⟩
 have hlt:digR U (L/4294967296) Y<Y:=Nat.mod_lt _ zo
 have hq1:digQ U (L/4294967296) Y<4294967296:=by unfold digQ;rw[Nat.div_lt_iff_lt_mul zo];omega
 have hq0:digQ (digR U (L/4294967296) Y) (L%4294967296) Y<4294967296:=by unfold digQ;rw[Nat.div_lt_iff_lt_mul zo];omega
 clear hU hY n3 n4 n6 n8
 go_enter Tryz.func157,Tryz.ntmps157
 go_wp2_with fail
 refine(wLead y hy _).mono ?_
 rintro e w' ⟨rfl,n,rfl⟩
 go_wp2_with fail
 go_quiet (fail)
 go_wp2_with fail
 refine(wDigit U (L/4294967296) Y n5 zo n1 n2 _).mono ?_
 rintro e w' ⟨rfl,n',rfl⟩
 go_wp2_with fail
 refine(wDigit _ (L%4294967296) Y hlt zo n1 n2 _).mono ?_
 rintro e w' ⟨rfl,n'',rfl⟩
 go_wp2_with fail
 go_quiet (fail)
 go_wp2_with fail
 go_ret3
 have HE:=HE.out
 refine⟨?_,Drawn.drewN ⟨_,rfl⟩ _⟩
 refine ret_uub ?_ ?_
 ·rw[divQ,←HE.1];simp
 ·rw[divR,←HE.2];simp
open Go.RowKit
def nw (x:Nat):Nat:=(Wd.blen x+63)/64
def wd (x i:Nat):Nat:=x/2^(64*i)%18446744073709551616
theorem kD(x k:Nat):nw x<=k↔x<2^(64*k):=by
 rw[←Wd.blen_le];unfold nw;omega
theorem kE(x:Nat):x<2^(64*nw x):=(kD x _).1 (Nat.le_refl _)
theorem nw_zero:nw 0=0:=rfl
theorem kY(x:Nat):nw x=0↔x=0:=by
 constructor
 ·intro h
  have:=kE x
  rw[h] at this
  simpa using this
 ·rintro rfl;rfl
theorem xH(x i:Nat):wd x i<18446744073709551616:=Nat.mod_lt _ zo
theorem wd_high(x i:Nat)(h:nw x<=i):wd x i=0:=by
 have:=(kD x i).1 h
 unfold wd
 rw[Nat.div_eq_of_lt this]
def Keeps (F:Nat->Prop) (w w':World):Prop:=w.heap.size<=w'.heap.size/\∀k,k<w.heap.size->¬F k->w'.heap[k]?=w.heap[k]?
section
variable {F G:Nat->Prop} {a b c w w':World}
theorem Keeps.refl(F:Nat->Prop)(w:World):Keeps F w w:=⟨Nat.le_refl _,λ_ _ _=>rfl⟩
theorem Keeps.trans(h:Keeps F a b)(k:Keeps F b c):Keeps F a c:=
 ⟨Nat.le_trans h.1 k.1,λi hi hf=>(k.2 i (Nat.lt_of_lt_of_le hi h.1) hf).trans (h.2 i hi hf)⟩
theorem Keeps.below(h:Keeps F a b)(k:Below b.heap.size b c):Keeps F a c:=
 h.trans ⟨k.size,λi hi _=>k.block i hi⟩
theorem Keeps.of_below(k:Below b.heap.size b c):Keeps F b c:=(Keeps.refl _ _).below k
theorem Keeps.drew(h:Keeps F a b):Keeps F a b.drew:=h
theorem Keeps.drewN(h:Keeps F a b)(n:Nat):Keeps F a (b.drewN n):=h
theorem Keeps.alloc(h:Keeps F a b)(o:Obj):Keeps F a (b.alloc o):=
 h.trans ⟨by simp,λk hk _=>Below.heap_alloc _ _ _ hk⟩
theorem Keeps.set(h:Keeps F a b){p:Addr}(hp:F p.block∨a.heap.size<=p.block)(u:Value):Keeps F a (b.setCell p u):=by
 refine⟨by simpa [World.setCell] using h.1,λk hk hf=>?_⟩
 rw[Below.heap_setCell _ _ _ _ (by rintro rfl;rcases hp with hp | hp;exact hf hp;omega)]
 exact h.2 k hk hf
theorem Keeps.sub(h:Keeps F a b)(hs:∀k,F k->G k):Keeps G a b:=⟨h.1,λk hk hg=>h.2 k hk λhf=>hg (hs k hf)⟩
end
def U64 (w:World) (g:Nat):Prop:=∃cs m,w.heap[g]?=some (.cells cs 177 m)
def Off (F:Nat->Prop) (w:World) (g:Nat):Prop:=¬F g/\U64 w g
def WordsAt (F:Nat->Prop) (w:World) (A:Option Addr) (x:Nat):Prop:=
 ∀i,i<nw x->∃g o,A=some ⟨g,o,none⟩/\Off F w g/\g<w.heap.size/\w.cell? ⟨g,o+i,none⟩=some (.int .u64 (wd x i:Nat))
def Small (x:Nat):Prop:=nw x<=1099511627776
def NatAt (F:Nat->Prop) (w:World) (v:Value) (x:Nat):Prop:=
 ∃A c,v=.agg #[.slice A (nw x) c]/\nw x<=c/\c<=maxLen/\Small x/\WordsAt F w A x
section
variable {F G:Nat->Prop} {w w':World} {A:Option Addr} {v:Value} {x:Nat}
theorem WordsAt.keep(h:WordsAt F w A x)(k:Keeps F w w'):WordsAt F w' A x:=λi hi=>by
 obtain⟨g,o,e,⟨hf,cs,m,hu⟩,hl,hc⟩:=h i hi
 exact⟨g,o,e,⟨hf,cs,m,(k.2 g hl hf).trans hu⟩,Nat.lt_of_lt_of_le hl k.1,(World.cell?_of_block (w:=w) (k.2 g hl hf)).trans hc⟩
theorem WordsAt.own(h:WordsAt F w A x)(hs:∀k,G k->F k∨w.heap.size<=k):WordsAt G w A x:=λi hi=>by
 obtain⟨g,o,e,⟨hf,hu⟩,hl,hc⟩:=h i hi
 exact⟨g,o,e,⟨λhg=>by rcases hs g hg with h1 | h1;exact hf h1;omega,hu⟩,hl,hc⟩
theorem NatAt.keep(h:NatAt F w v x)(k:Keeps F w w'):NatAt F w' v x:=by
 obtain⟨A,c,e,h1,h2,hs,h3⟩:=h
 exact⟨A,c,e,h1,h2,hs,h3.keep k⟩
theorem NatAt.own(h:NatAt F w v x)(hs:∀k,G k->F k∨w.heap.size<=k):NatAt G w v x:=by
 obtain⟨A,c,e,h1,h2,hm,h3⟩:=h
 exact⟨A,c,e,h1,h2,hm,h3.own hs⟩
theorem NatAt.sub(h:NatAt F w v x)(hs:∀k,G k->F k):NatAt G w v x:=h.own λk hk=>.inl (hs k hk)
theorem NatAt.zero(F:Nat->Prop)(w:World):NatAt F w (.agg #[.slice none 0 0]) 0:=⟨none,0,rfl,Nat.le_refl _,by unfold maxLen;omega,Nat.zero_le _,λi hi=>by rw[nw_zero] at hi;omega⟩
theorem NatAt.small(h:NatAt F w v x):Small x:=by
 obtain⟨_,_,_,_,_,h,_⟩:=h
 exact h
end
theorem NatAt.form{F:Nat->Prop}{w:World}{v:Value}{x:Nat}(h:NatAt F w v x):∃A n c,v=.agg #[.slice A n c]:=by
 obtain⟨A,c,e,_⟩:=h
 exact⟨A,_,c,e⟩
def IntAt (F:Nat->Prop) (w:World) (v:Value) (z:Int):Prop:=
 ∃s,v=.agg #[.bool (decide (z<0)),s]/\NatAt F w (.agg #[s]) z.natAbs
def denW (q:Rat):Nat:=if q.den=1 then 0 else q.den
def RatAt (F:Nat->Prop) (w:World) (v:Value) (q:Rat):Prop:=
 ∃s t,v=.agg #[.bool (decide (q.num<0)),s,t]/\NatAt F w (.agg #[s]) q.num.natAbs/\NatAt F w (.agg #[t]) (denW q)
section
variable {F G:Nat->Prop} {w w':World} {v:Value} {z:Int} {q:Rat}
theorem IntAt.keep(h:IntAt F w v z)(k:Keeps F w w'):IntAt F w' v z:=by
 obtain⟨s,e,h1⟩:=h
 exact⟨s,e,h1.keep k⟩
theorem IntAt.own(h:IntAt F w v z)(hs:∀k,G k->F k∨w.heap.size<=k):IntAt G w v z:=by
 obtain⟨s,e,h1⟩:=h
 exact⟨s,e,h1.own hs⟩
theorem IntAt.sub(h:IntAt F w v z)(hs:∀k,G k->F k):IntAt G w v z:=h.own λk hk=>.inl (hs k hk)
theorem IntAt.form(h:IntAt F w v z):∃b A n c,v=.agg #[.bool b,.slice A n c]:=by
 obtain⟨s,e,h1⟩:=h
 obtain⟨A,n,c,e1⟩:=h1.form
 simp only[Value.agg.injEq,Array.mk.injEq,List.cons.injEq,and_true] at e1
 subst e1
 exact⟨_,A,n,c,e⟩
theorem RatAt.keep(h:RatAt F w v q)(k:Keeps F w w'):RatAt F w' v q:=by
 obtain⟨s,t,e,h1,h2⟩:=h
 exact⟨s,t,e,h1.keep k,h2.keep k⟩
theorem RatAt.own(h:RatAt F w v q)(hs:∀k,G k->F k∨w.heap.size<=k):RatAt G w v q:=by
 obtain⟨s,t,e,h1,h2⟩:=h
 exact⟨s,t,e,h1.own hs,h2.own hs⟩
theorem RatAt.sub(h:RatAt F w v q)(hs:∀k,G k->F k):RatAt G w v q:=h.own λk hk=>.inl (hs k hk)
theorem RatAt.form(h:RatAt F w v q):∃b A n c A' n' c',v=.agg #[.bool b,.slice A n c,.slice A' n' c']:=by
 obtain⟨s,t,e,h1,h2⟩:=h
 obtain⟨A,n,c,e1⟩:=h1.form
 obtain⟨A',n',c',e2⟩:=h2.form
 simp only[Value.agg.injEq,Array.mk.injEq,List.cons.injEq,and_true] at e1 e2
 subst e1
 subst e2
 exact⟨_,A,n,c,A',n',c',e⟩
theorem IntAt.parts{b:Bool}{s:Value}(h:IntAt F w (.agg #[.bool b,s]) z):b=decide (z<0)/\NatAt F w (.agg #[s]) z.natAbs:=by
 obtain⟨s',e,h1⟩:=h
 simp only[Value.agg.injEq,Array.mk.injEq,List.cons.injEq,and_true,Value.bool.injEq] at e
 obtain⟨rfl,rfl⟩:=e
 exact⟨rfl,h1⟩
theorem RatAt.parts{b:Bool}{s t:Value}(h:RatAt F w (.agg #[.bool b,s,t]) q):b=decide (q.num<0)/\IntAt F w (.agg #[.bool b,s]) q.num/\NatAt F w (.agg #[s]) q.num.natAbs/\NatAt F w (.agg #[t]) (denW q):=by
 obtain⟨s',t',e,h1,h2⟩:=h
 simp only[Value.agg.injEq,Array.mk.injEq,List.cons.injEq,and_true,Value.bool.injEq] at e
 obtain⟨rfl,rfl,rfl⟩:=e
 exact⟨rfl,⟨_,rfl,h1⟩,h1,h2⟩
end
theorem NatAt.words{F:Nat->Prop}{w:World}{A:Option Addr}{n c x:Nat}(h:NatAt F w (.agg #[.slice A n c]) x):WordsAt F w A x:=by
 obtain⟨A',c',e,_,_,_,h⟩:=h
 simp only[Value.agg.injEq,Array.mk.injEq,List.cons.injEq,and_true,Value.slice.injEq] at e
 obtain⟨rfl,_,_⟩:=e
 exact h
def USlice (F:Nat->Prop) (w:World) (A:Option Addr) (n:Nat) (f:Nat->Nat):Prop:=
 ∀i,i<n->∃g o,A=some ⟨g,o,none⟩/\¬F g/\g<w.heap.size/\w.cell? ⟨g,o+i,none⟩=some (.int .u64 (f i:Nat))
theorem USlice.keep{F:Nat->Prop}{w w':World}{A:Option Addr}{n:Nat}{f:Nat->Nat}(h:USlice F w A n f)(k:Keeps F w w'):USlice F w' A n f:=λi hi=>by
 obtain⟨g,o,e,hf,hl,hc⟩:=h i hi
 exact⟨g,o,e,hf,Nat.lt_of_lt_of_le hl k.1,(World.cell?_of_block (w:=w) (k.2 g hl hf)).trans hc⟩
theorem USlice.own{F G:Nat->Prop}{w:World}{A:Option Addr}{n:Nat}{f:Nat->Nat}(h:USlice F w A n f)(hs:∀k,G k->F k∨w.heap.size<=k):USlice G w A n f:=λi hi=>by
 obtain⟨g,o,e,hf,hl,hc⟩:=h i hi
 exact⟨g,o,e,λhg=>by rcases hs g hg with h1 | h1;exact hf h1;omega,hl,hc⟩
theorem WordsAt.slice{F:Nat->Prop}{w:World}{A:Option Addr}{x:Nat}(h:WordsAt F w A x):USlice F w A (nw x) (wd x):=λi hi=>by
 obtain⟨g,o,e,⟨hf,_⟩,hl,hc⟩:=h i hi
 exact⟨g,o,e,hf,hl,hc⟩
def Typ (w:World) (A:Option Addr) (n:Nat):Prop:=0<n->∀g o,A=some ⟨g,o,none⟩->U64 w g
theorem U64.lt{w:World}{g:Nat}(h:U64 w g):g<w.heap.size:=by
 obtain⟨cs,m,h⟩:=h
 rcases Nat.lt_or_ge g w.heap.size with hlt | hge
 ·exact hlt
 ·rw[Array.getElem?_eq_none hge] at h;cases h
theorem Typ.alloc{w:World}{A:Option Addr}{n:Nat}(h:Typ w A n)(o:Obj):Typ (w.alloc o) A n:=λhn g o' e=>by
 have hu:=h hn g o' e
 obtain⟨cs,m,hh⟩:=id hu
 exact⟨cs,m,(Below.heap_alloc w o g hu.lt).trans hh⟩
theorem Typ.le{w:World}{A:Option Addr}{n k:Nat}(h:Typ w A n)(hk:k<=n):Typ w A k:=λhn=>h zo
def Blk (w:World) (g:Nat) (t:TypeId) (cs:Array Value):Prop:=w.heap[g]?=some (.cells cs t (0,0))
section
variable {w w':World} {g:Nat} {t:TypeId} {cs:Array Value}
theorem Blk.lt(h:Blk w g t cs):g<w.heap.size:=by
 rcases Nat.lt_or_ge g w.heap.size with hlt | hge
 ·exact hlt
 ·unfold Blk at h;rw[Array.getElem?_eq_none hge] at h;cases h
theorem Blk.cell(h:Blk w g t cs)(i:Nat):w.cell? ⟨g,i,none⟩=cs[i]?:=cell_of_row w g i cs t (0,0) h
theorem Blk.frozen(h:Blk w g t cs)(i:Nat):w.frozen? ⟨g,i,none⟩=false:=by
 unfold Blk at h
 simp[World.frozen?,h]
theorem Blk.new(w:World)(t:TypeId)(cs:Array Value):Blk (w.alloc (.cells cs t)) w.heap.size t cs:=heap_alloc_new w _
theorem Blk.new_at(w:World)(t:TypeId)(cs:Array Value)(n:Nat)(hn:n=w.heap.size):Blk (w.alloc (.cells cs t)) n t cs:=by subst hn;exact heap_alloc_new w _
theorem Blk.drew(h:Blk w g t cs):Blk w.drew g t cs:=h
theorem Blk.drewN(h:Blk w g t cs)(n:Nat):Blk (w.drewN n) g t cs:=h
theorem Blk.alloc(h:Blk w g t cs)(o:Obj):Blk (w.alloc o) g t cs:=(Below.heap_alloc w o g h.lt).trans h
theorem Blk.set_(h:Blk w g t cs)(i:Nat)(u:Value):Blk (w.setCell ⟨g,i,none⟩ u) g t (cs.setIfInBounds i u):=by
 unfold Blk at h⊢
 simp[World.setCell,Array.getElem?_modify,h]
theorem Blk.far(h:Blk w g t cs){p:Addr}(hp:g≠p.block)(u:Value):Blk (w.setCell p u) g t cs:=(Below.heap_setCell w p u g hp).trans h
theorem blk_typ{w:World}{O n:Nat}{cs:Array Value}(h:Blk w O 177 cs):Typ w (some ⟨O,0,none⟩) n:=λ_ g o e=>by
 simp only[Option.some.injEq,Addr.mk.injEq,and_true] at e
 obtain⟨rfl,_⟩:=e
 exact⟨cs,_,h⟩
theorem Blk.below(h:Blk w g t cs)(hb:Below w.heap.size w w'):Blk w' g t cs:=(hb.block g h.lt).trans h
end
def Own (F:Nat->Prop) (l:List Nat) (k:Nat):Prop:=F k∨k∈l
theorem Own.sub{F:Nat->Prop}{l:List Nat}:∀k,F k->Own F l k:=λ_ h=>.inl h
theorem Own.new{F:Nat->Prop}{l:List Nat}{n:Nat}(h:∀k∈l,n<=k):∀k,Own F l k->F k∨n<=k:=λk hk=>hk.imp id (h k)
def Lows (F:Nat->Prop) (w:World):Prop:=∀k,F k->k<w.heap.size
theorem Lows.own{F:Nat->Prop}{w W:World}{l:List Nat}(h:Lows F w)(h1:∀k∈l,k<W.heap.size)(h2:w.heap.size<=W.heap.size):Lows (Own F l) W:=λk hk=>by
 rcases hk with hk | hk
 ·exact Nat.lt_of_lt_of_le (h k hk) h2
 ·exact h1 k hk
theorem Lows.new{F:Nat->Prop}{w:World}(h:Lows F w){g:Nat}(hg:w.heap.size<=g):¬F g:=λhf=>by have:=h g hf;omega
def Cur (F:Nat->Prop) (w w':World):Prop:=Keeps F w w'
theorem Cur.mk{F:Nat->Prop}{w w':World}(h:Keeps F w w'):Cur F w w':=h
theorem Cur.start(F:Nat->Prop)(w:World):Cur F w w:=Keeps.refl _ _
theorem Cur.step{F:Nat->Prop}{w a W b:World}(h:Cur F w a)(k:Keeps F a W)(hb:Below W.heap.size W b):Keeps F a b/\Cur F w b:=⟨k.below hb,Keeps.trans h (k.below hb)⟩
theorem Blk.next{w W w':World}{g:Nat}{t:TypeId}{cs:Array Value}(h:Blk w g t cs)(k:Blk w g t cs->Blk W g t cs)(hb:Below W.heap.size W w'):Blk w' g t cs:=(k h).below hb
theorem zJ{w W w':World}(h:Below w.heap.size w W)(hb:Below W.heap.size W w'):Below w.heap.size w w':=h.trans (hb.mono h.size)
theorem quiet_add_left{P:Program}{f:FuncId}{args:Array Value}{w:World}{a n:Nat}{v:Value}
  (h:Calls P f args (w.drewN (a+n)) λe w'=>e=.returned v/\w.drewN (a+n)=w'):
  Calls P f args (w.drewN (a+n)) λe w''=>e=.returned v/\∃m,w''=w.drewN (a+m):=
 h.mono λ_ _ ⟨he,hm⟩=>⟨he,n,hm.symm⟩
theorem keepC{W w1:World}{p:Addr}{v:Value}(hb:Below W.heap.size W w1)(h:W.cell? p=some v):w1.cell? p=some v:=(hb.cell (World.block_lt_of_cell? W p h)).trans h
abbrev Kr:=@Keeps.refl
abbrev Kd:=@Keeps.drew
abbrev Kn:=@Keeps.drewN
abbrev Ka:=@Keeps.alloc
abbrev Ks:=@Keeps.set
abbrev Kt:=@Keeps.trans
abbrev Bd:=@Blk.drew
abbrev Bn:=@Blk.drewN
abbrev Ba:=@Blk.alloc
abbrev Bf:=@Blk.far
abbrev Wr:=@Below.refl
abbrev Wd_:=@Below.drew
abbrev Wn:=@below_drewN
abbrev Wa:=@Below.alloc
abbrev Ws:=@Below.setCell
theorem Kz{F:Nat->Prop}{a b:World}(h:Keeps F a b:=by(repeat (first|with_reducible first|exact Kr _ _|assumption|refine Kd ?_|refine Kn ?_ _|refine Ka ?_ _|with_reducible refine Ks ?_ (by first|(simp[Own];done)|exact .inr (by first|(simp;done)|(simp;omega)|omega)) _|with_reducible refine Kt ?_ (by assumption)))):Keeps F a b:=h
theorem Bz{w:World}{g:Nat}{t:TypeId}{cs:Array Value}(h:Blk w g t cs:=by(repeat (first|with_reducible first|assumption|refine Bd ?_|refine Bn ?_ _|refine Ba ?_ _|with_reducible refine Bf ?_ (by simp;try omega) _))):Blk w g t cs:=h
theorem Wz{n:Nat}{a b:World}(h:Below n a b:=by(repeat (first|with_reducible first|exact Wr _ _|assumption|refine Wd_ ?_|refine Wn ?_ _|with_reducible refine Wa ?_ (by first|exact Nat.le_refl _|(simp;done)|(simp;omega)|omega) _|with_reducible refine Ws ?_ (by first|exact Nat.le_refl _|(simp;done)|(simp;omega)|omega) _))):Below n a b:=h
section
variable {P:Program} {ops:Array Oper} {Q:Exit->Act->World->Prop} {md:Region.Mode} {S:World->Prop} {n:Nat}
def kN (P:Program) (md:Region.Mode) (ops:Array Oper) (Q:Exit->Act->World->Prop) (S:World->Prop) (n:Nat):Nat->Array Bool->Act->World->Prop
 | 0,listed,a,w=>Region.ready md ops listed=[]/\Q .normal a w
 | fuel+1,listed,a,w=>(Region.ready md ops listed=[]->Q .normal a w)/\∀i∈Region.ready md ops listed,wpOp P ops Q i (λa' w'=>(i<n->S w')/\kN P md ops Q S n fuel (listed.setIfInBounds i true) a' w') a w
theorem wpAny_of_T:∀(fuel:Nat) (listed:Array Bool) (a:Act) (w:World),kN P md ops Q S n fuel listed a w->wpAny P md ops Q fuel listed a w
 | 0,_,_,_,h=>h
 | fuel+1,_,_,_,h=>⟨h.1,λi hi=>wpOp_mono (λ_ _ h'=>wpAny_of_T fuel _ _ _ h'.2) (h.2 i hi)⟩
theorem wpAnyT_first{i:Nat}{oi:Oper}{v:Value}(hi:ops[i]?=some oi)(hsel:∀(j:Nat) (o:Oper) cs b,ops[j]?=some o->o.op≠.select cs b)
    (hQ:∀c a w,Q (.panic c) (a.put oi.dst v) w->Q (.panic c) a w)
    (htail:∀j oj,n<=j->ops[j]?=some oj->∃e∈oj.after,Region.binds md e=true/\e.on=i):
    ∀ (fuel : Nat) (listed : Array Bool) (a : Act) (w : World),
      (∀j oj,ops[j]?=some oj->j≠i->listed.getD j true=false->(∀e∈oj.after,Region.binds md e=true->e.on≠i)->oi.apart ops oj=true)->
      i∈Region.ready md ops listed->YieldsIf P ops S oi v a->S w->
      kN P md ops Q S n fuel (listed.setIfInBounds i true) (a.put oi.dst v) w->kN P md ops Q S n (fuel+1) listed a w:=by
  intro fuel
  have not_on:∀(listed:Array Bool),i∈Region.ready md ops listed->∀(j:Nat) (oj:Oper),ops[j]?=some oj->(∀e∈oj.after,Region.binds md e=true->listed.getD e.on false=true)->∀e∈oj.after,Region.binds md e=true->e.on≠i:=by
    intro listed hr j oj _ hall e he hb heq
    have h1:=hall e he hb
    have h0:=getD_both (mem_ready.1 hr).1
    rw[heq,h0] at h1
    cases h1
  have below:∀(listed:Array Bool),i∈Region.ready md ops listed->∀j,j∈Region.ready md ops listed->j<n:=by
    intro listed hr j hj
    obtain⟨_,oj,hoj,hall⟩:=mem_ready.1 hj
    rcases Nat.lt_or_ge j n with h | h
    · exact h
    · obtain⟨e,he,hb,heq⟩:=htail j oj h hoj
      exact absurd heq (not_on listed hr j oj hoj hall e he hb)
  induction fuel with
  | zero=>
    intro listed a w _ hr hy hS H
    refine⟨λh=>(by rw[h] at hr;cases hr),λj hj=>?_⟩
    by_cases hji:j=i
    · subst hji;exact hy.wpOp hi hS ⟨λ_=>hS,H⟩
    · have:=ready_mono hj hji
      rw[H.1] at this
      cases this
  | succ fuel ih=>
    intro listed a w hfree hr hy hS H
    refine⟨λh=>(by rw[h] at hr;cases hr),λj hj=>?_⟩
    by_cases hji:j=i
    · subst hji;exact hy.wpOp hi hS ⟨λ_=>hS,H⟩
    · have h1:=H.2 j (ready_mono hj hji)
      have hjn:=below listed hr j hj
      obtain⟨hjun,oj,hoj,hall⟩:=mem_ready.1 hj
      have h2:=wpOp_putIf hoj (hfree j oj hoj hji hjun (not_on listed hr j oj hoj hall)) (λcs b=>hsel i oi cs b hi) (λcs b=>hsel j oj cs b hoj) hQ hy h1
      have hfree':∀k ok,ops[k]?=some ok->k≠i->(listed.setIfInBounds j true).getD k true=false->
          (∀e∈ok.after,Region.binds md e=true->e.on≠i)->oi.apart ops ok=true:=λk ok hk hki hun hno=>by
        refine hfree k ok hk hki ?_ hno
        by_cases hjk:j=k
        · subst hjk;exact hjun
        · rw[getD_set_ne true hjk] at hun;exact hun
      refine wpOp_mono (λa' w' h3=>⟨h3.2.1,ih (listed.setIfInBounds j true) a' w' hfree' (ready_mono hr (Ne.symm hji)) h3.1 (h3.2.1 hjn) ?_⟩) h2
      rw[Array.setIfInBounds_comm _ _ hji]
      exact h3.2.2
theorem zH{i:Nat}{oi:Oper}{v:Value}{fuel:Nat}{listed:Array Bool}{a:Act}{w:World}(hi:ops[i]?=some oi)
  (hs:Region.noSelect ops=true)(hf:Region.free md ops listed i=true)(hr:(Region.ready md ops listed).contains i=true)
  (hz:(ops.size==n+1)=true)(hw:Region.waitsFor md ops n i=true)
  (hQ:∀c a w,Q (.panic c) (a.put oi.dst v) w->Q (.panic c) a w)(hy:YieldsIf P ops S oi v a)(hS:S w)
  (h:kN P md ops Q S n fuel (listed.setIfInBounds i true) (a.put oi.dst v) w):kN P md ops Q S n (fuel+1) listed a w:=by
 refine wpAnyT_first hi (Region.noSelect_spec hs) hQ (λj oj hj hoj=>?_) fuel listed a w (Region.free_spec hi hf) (by simpa using hr) hy hS h
 have hlt:=(Array.getElem?_eq_some_iff.1 hoj).1
 have hz':ops.size=n+1:=by simpa using hz
 obtain rfl:j=n:=by omega
 obtain⟨oj',hoj',he⟩:=Region.waitsFor_spec hw
 rw[hoj] at hoj'
 obtain rfl:=Option.some.inj hoj'
 exact he
def AllReadyT (P:Program) (md:Region.Mode) (ops:Array Oper) (Q:Exit->Act->World->Prop) (S:World->Prop) (n fuel:Nat) (listed:Array Bool) (a:Act) (w:World) (rs:List Nat):Prop:=
 ∀i∈rs,wpOp P ops Q i (λa' w'=>(i<n->S w')/\kN P md ops Q S n fuel (listed.setIfInBounds i true) a' w') a w
theorem AllReadyT.nil{fuel:Nat}{listed:Array Bool}{a:Act}{w:World}:AllReadyT P md ops Q S n fuel listed a w []:=λ_ h=>by cases h
theorem AllReadyT.cons{fuel:Nat}{listed:Array Bool}{a:Act}{w:World}{i:Nat}{o:Oper}{rs:List Nat}(ho:ops[i]?=some o)
  (h:∀K':Act->World->Prop,Shut (∀a w,(i<n->S w)->((i<n->S w)->kN P md ops Q S n fuel (listed.setIfInBounds i true) a w)->K' a w)->if Region.wanted o (yielded ops a.tmps)=true then Oper.wp P o a w K' Q else K' (a.put o.dst undef) w)
  (hs:AllReadyT P md ops Q S n fuel listed a w rs):AllReadyT P md ops Q S n fuel listed a w (i::rs):=λj hj=>by
 rcases List.mem_cons.1 hj with rfl | hj
 ·exact wpOp_step ho (λK' hK=>h K' (λa w hS hW=>hK a w ⟨hS,hW hS⟩))
 ·exact hs j hj
theorem zX{rs:List Nat}{fuel:Nat}{listed:Array Bool}{a:Act}{w:World}(hr:Region.ready md ops listed=rs)(hne:rs≠[])
  (h:AllReadyT P md ops Q S n fuel listed a w rs):kN P md ops Q S n (fuel+1) listed a w:=
 ⟨λh0=>absurd (hr▸h0) hne,λi hi=>h i (hr▸hi)⟩
theorem jX{listed:Array Bool}{a:Act}{w:World}(hr:Region.ready md ops listed=[])(h:Q .normal a w):
  ∀fuel,kN P md ops Q S n fuel listed a w
 | 0=>⟨hr,h⟩
 | _+1=>⟨λ_=>h,by rw[hr];simp⟩
theorem jW{id:Nat}{a:Act}{w:World}(n:Nat)(S:World->Prop)(hm:P.follows .mixedOrders=true)(hS:S w.drew)
  (h:S w.drew->kN P .any ops Q S n ops.size (Array.replicate ops.size false) a w.drew):(Code.region id ops true).wp P Q a w:=
 wp_region_any hm (wpAny_of_T _ _ _ _ (h hS))
end
open Go.RowKit
def Grow (w w':World):Prop:=Below w.heap.size w w'
theorem Grow.refl(w:World):Grow w w:=Below.refl _ _
theorem Grow.trans{a b c:World}(h:Grow a b)(k:Grow b c):Grow a c:=Below.trans h (Below.mono k h.size)
theorem Grow.drew{a b:World}(h:Grow a b):Grow a b.drew:=Below.drew h
theorem Grow.alloc{a b:World}(h:Grow a b)(o:Obj):Grow a (b.alloc o):=Below.alloc h h.size o
structure MR where
 R:World->Value->Prop
 mono:∀{w w' v},Grow w w'->R w v->R w' v
def MR.any:MR:=⟨λ_ _=>True,λ_ h=>h⟩
def Yld (P:Program) (o:Oper) (ρ:Operand->Value) (w:World) (Φ:Value->World->Prop):Prop:=
 match (execOp ρ o).run P w with
 | .ok (.value v) w'=>Φ v w'
 | .ok .skip w'=>Φ undef w'
 | .ok (.enter f args) w'=>Calls P f args w' λe w''=>∃v,e=.returned v/\Φ v w''
 | _=>False
section
variable {P:Program} {ops:Array Oper} {Q:Exit->Act->World->Prop} {md:Region.Mode}
theorem Yld.wp{o:Oper}{a:Act}{w:World}{Φ:Value->World->Prop}{K:Act->World->Prop}(h:Yld P o a.eval w Φ)(hK:∀v w',Φ v w'->K (a.put o.dst v) w'):Oper.wp P o a w K Q:=by
  unfold Yld at h
  unfold Oper.wp
  generalize (execOp a.eval o).run P w=r at*
  cases r with
  | ok x w'=>
    cases x<;>simp only[Oper.upon] at h⊢<;>
      first
      | exact hK _ _ h
      | exact h.elim
      | (refine Calls.mono h λe w'' => ?_
         rintro⟨v,rfl,hv⟩
         exact hK _ _ hv)
  | halt x w'=>exact h.elim
theorem Yld.mono{o:Oper}{ρ:Operand->Value}{w:World}{Φ Ψ:Value->World->Prop}(h:Yld P o ρ w Φ)(k:∀v w',Φ v w'->Ψ v w'):Yld P o ρ w Ψ:=by
 unfold Yld at*
 generalize (execOp ρ o).run P w=r at*
 cases r with
 | ok x w'=>
  cases x<;>simp only at h⊢<;>
   first
   | exact k _ _ h
   | exact h.elim
   | exact Calls.mono h λe w'' ⟨v,hv,hΦ⟩=>⟨v,hv,k _ _ hΦ⟩
 | halt x w'=>exact h.elim
def yH (ops:Array Oper) (i:Nat):Option Tmp:=(ops[i]?).bind (·.dst)
def valOf (ops:Array Oper) (a:Act) (i:Nat):Value:=match yH ops i with | some d=>a.tmps.getD d undef | none=>undef
def needs (ops:Array Oper) (n i:Nat):List Nat:=
 match ops[i]? with
 | none=>[]
 | some o=>(List.range n).filter λj=>match yH ops j with | some d=>(o.looksAt ops).contains d | none=>false
def Conts (ops:Array Oper) (Rs:Nat->MR):List Nat->(Act->Prop)->Act->World->Prop
 | [],K,a,_=>K a
 | j::l,K,a,w=>∀v,(Rs j).R w v->Conts ops Rs l K (a.put (yH ops j) v) w
def blkN:Value->Nat
 | .pointer (some a)=>a.block
 | .slice (some a) _ _=>a.block
 | _=>0
def uD (w w':World) (v:Value):Prop:=w.heap.size<=blkN v/\blkN v<w'.heap.size
def Kept (kb:List Nat) (w w':World):Prop:=∀k∈kb,w'.heap[k]?=w.heap[k]?
def StepOK (P:Program) (ops:Array Oper) (Rs:Nat->MR) (n:Nat) (news lz kb:List Nat) (a0:Act) (w0:World) (i:Nat):Prop:=
 match ops[i]? with
 | none=>False
 | some o=>∀w,Grow w0 w->Conts ops Rs (needs ops n i) (λa=>
   if lz.contains i then
    (if Region.wanted o (yielded ops a.tmps)=true then∃v,(∀w2,Kept kb w w2->(execOp a.eval o).run P w2=.ok (.value v) w2)/\(Rs i).R w v else(Rs i).R w undef)
   else
    (if Region.wanted o (yielded ops a.tmps)=true then Yld P o a.eval w (λv w'=>Grow w w'/\(Rs i).R w' v/\(news.contains i=true->uD w w' v)) else(Rs i).R w undef/\news.contains i=false)) a0 w
def Apart (ops:Array Oper) (a:Act) (w0 w:World):List Nat->Prop
 | []=>True
 | i::l=>(w0.heap.size<=blkN (valOf ops a i)/\blkN (valOf ops a i)<w.heap.size)/\(∀j∈l,blkN (valOf ops a i)≠blkN (valOf ops a j))/\Apart ops a w0 w l
def xB (md:Region.Mode) (ops:Array Oper) (i j:Nat):Bool:=match ops[i]? with
 | none=>false
 | some o=>o.after.any λe=>Region.binds md e&&e.on==j
def headOK (md:Region.Mode) (ops:Array Oper) (n N i:Nat):Bool:=match ops[i]? with
 | none=>false
 | some o => (match o.dst with | some d => decide (d < N) && (List.range n).all (λj => j == i || yH ops j != some d) | none => false) &&
   (match o.op with | .select ..=>false | _=>true)&&(needs ops n i).all (λj=>xB md ops i j)&&o.after.all (λe=>!Region.binds md e||decide (e.on<i))
def reachL (md:Region.Mode) (ops:Array Oper) (j:Nat):List Nat:=
 (List.range (j+1)).reverse.foldl (λS k=>if S.contains k then S++(List.range k).filter (xB md ops k) else S) [j]
def tailOK (md:Region.Mode) (ops:Array Oper) (lz:List Nat) (j:Nat):Bool:=
 match ops[j]? with
 | none=>false
 | some o=>(let S:=reachL md ops j;(List.range j).all λi=>S.contains i||lz.contains i)&&o.after.all (λe=>!Region.binds md e||decide (e.on<j))
def lazyOK (md:Region.Mode) (ops:Array Oper) (n:Nat) (lz:List Nat) (i:Nat):Bool:=match ops[i]? with
 | none=>false
 | some o=>decide (i<n)&&decide (n<ops.size)&&xB md ops (ops.size-1) i&&(List.range ops.size).all λj=>match ops[j]? with | none=>true | some oj=>j==i||(decide (j<n)&&!lz.contains j)||xB md ops j i||o.apart ops oj
def relOK (md:Region.Mode) (ops:Array Oper) (n N:Nat) (lz:List Nat):Bool:=
 decide (n<=ops.size)&&(List.range n).all (headOK md ops n N)&&(List.range' n (ops.size-n)).all (tailOK md ops lz)&&lz.all (lazyOK md ops n lz)&&Region.noSelect ops
theorem put_get(a:Act)(d:Tmp)(v:Value)(t:Tmp):(a.put (some d) v).tmps[t]?=if d=t then(if d<a.tmps.size then some v else none) else a.tmps[t]?:=by
 simp only[Act.put,Array.getElem?_setIfInBounds]
theorem put_size(a:Act)(d:Option Tmp)(v:Value):(a.put d v).tmps.size=a.tmps.size:=by cases d<;>simp[Act.put]
theorem put_def(a:Act)(d:Option Tmp)(v:Value):(a.put d v).defers=a.defers:=by cases d<;>rfl
theorem kF(a:Act)(t:Tmp):a.tmps.getD t undef=(a.tmps[t]?).getD undef:=by simp
theorem conts_use(Rs:Nat->MR){b:Act}{w:World}:∀(l:List Nat) (K:Act->Prop) (a:Act),Conts ops Rs l K a w->
  (∀j∈l,∃d,yH ops j=some d/\d<a.tmps.size)->a.tmps.size=b.tmps.size->(∀j∈l,(Rs j).R w (valOf ops b j))->
  ∃c:Act,K c/\c.defers=a.defers/\c.tmps.size=a.tmps.size/\∀t,c.tmps[t]?=if(∃j∈l,yH ops j=some t) then b.tmps[t]? else a.tmps[t]?
 | [],K,a,h,_,_,_=>⟨a,h,rfl,rfl,λt=>by simp⟩
 | j::l,K,a,h,hd,hs,hR=>by
  obtain⟨d,hdj,hlt⟩:=hd j (by simp)
  have h1:=h (valOf ops b j) (hR j (by simp))
  rw[hdj] at h1
  obtain⟨c,hK,hdef,hsz,hc⟩:=conts_use Rs l K _ h1 (λj' hj'=>by obtain⟨d',e,hl⟩:=hd j' (by simp[hj']);exact⟨d',e,by rw[put_size];exact hl⟩) (by rw[put_size];exact hs) (λj' hj'=>hR j' (by simp[hj']))
  refine⟨c,hK,by rw[hdef,put_def],by rw[hsz,put_size],λt=>?_⟩
  rw[hc t]
  by_cases hx:∃j'∈l,yH ops j'=some t
  ·rw[if_pos hx,if_pos]
   obtain⟨j',hj',e⟩:=hx
   exact⟨j',by simp[hj'],e⟩
  ·rw[if_neg hx,put_get]
   by_cases e:d=t
   ·subst e
    rw[if_pos rfl,if_pos hlt,if_pos ⟨j,by simp,hdj⟩]
    have hlt':d<b.tmps.size:=hs▸hlt
    simp only[valOf,hdj,kF]
    rw[Array.getElem?_eq_getElem hlt'];rfl
   ·rw[if_neg e,if_neg]
    rintro⟨j',hj',e'⟩
    rcases List.mem_cons.1 hj' with rfl | hj'
    ·rw[hdj] at e';exact e (Option.some.inj e')
    ·exact hx ⟨j',hj',e'⟩
theorem same_eval{a b:Act}(x:Operand)(h:∀t,x=.tmp t->a.tmps[t]?=b.tmps[t]?):a.eval x=b.eval x:=by
 cases x with
 | tmp t=>simp only[Act.eval,kF,h t rfl]
 | _=>rfl
theorem same_exec{a b:Act}(o:Oper)(hs:∀cs b,o.op≠.select cs b)(h:∀t∈o.looksAt ops,a.tmps[t]?=b.tmps[t]?):execOp a.eval o=execOp b.eval o:=
 execOp_congr o hs λx hx=>same_eval x λt e=>h t (by subst e;exact List.mem_append_left _ (List.mem_filterMap.2 ⟨.tmp t,by simpa using hx,rfl⟩))
theorem same_wanted{a b:Act}(o:Oper)(h:∀t∈o.looksAt ops,a.tmps[t]?=b.tmps[t]?):Region.wanted o (yielded ops a.tmps)=Region.wanted o (yielded ops b.tmps):=by
 unfold Region.wanted
 cases hg:o.guard with
 | none=>rfl
 | some gw=>
  obtain⟨g,want⟩:=gw
  have:yielded ops a.tmps g=yielded ops b.tmps g:=by
   unfold yielded
   cases ht:(ops[g]?).bind (·.dst) with
   | none=>rfl
   | some t=>
    have:=h t (by simp[Oper.looksAt,hg,ht])
    simp[this]
  simp only[this]
structure At (md:Region.Mode) (ops:Array Oper) (Rs:Nat->MR) (n:Nat) (news:List Nat) (a0:Act) (w0:World) (listed:Array Bool) (a:Act) (w:World):Prop where
 grow:Grow w0 w
 defers:a.defers=a0.defers
 size:a.tmps.size=a0.tmps.size
 lsize:listed.size=ops.size
 same:∀t,(∀i,i<n->yH ops i≠some t)->a.tmps[t]?=a0.tmps[t]?
 rel:∀i,i<n->listed.getD i false=true->(Rs i).R w (valOf ops a i)
 tail:∀i,n<=i->listed.getD i false=false
 closed:∀i j,listed.getD i false=true->xB md ops i j=true->listed.getD j false=true
 fresh:∀i,i<n->news.contains i=true->listed.getD i false=true->w0.heap.size<=blkN (valOf ops a i)/\blkN (valOf ops a i)<w.heap.size
 apart:∀i j,i<n->j<n->i≠j->news.contains i=true->news.contains j=true->listed.getD i false=true->listed.getD j false=true->blkN (valOf ops a i)≠blkN (valOf ops a j)
section
variable {Rs:Nat->MR} {n:Nat} {news lz:List Nat} {a0 a:Act} {w0 w:World} {listed:Array Bool}
theorem xR{N i:Nat}(h:headOK md ops n N i=true):∃o d,ops[i]?=some o/\o.dst=some d/\yH ops i=some d/\d<N/\(∀j,j<n->j≠i->yH ops j≠some d)/\(∀cs b,o.op≠.select cs b)/\
  (∀j∈needs ops n i,∃e∈o.after,Region.binds md e=true/\e.on=j)/\∀e∈o.after,Region.binds md e=true->e.on<i:=by
 unfold headOK at h
 split at h
 ·cases h
 rename_i o ho
 simp only[Bool.and_eq_true] at h
 obtain⟨⟨⟨h1,h2⟩,h3⟩,h4⟩:=h
 cases hd:o.dst with
 | none=>rw[hd] at h1;cases h1
 | some d=>
  rw[hd] at h1
  simp only[Bool.and_eq_true,decide_eq_true_eq,List.all_eq_true,List.mem_range,Bool.or_eq_true,beq_iff_eq,bne_iff_ne] at h1
  refine⟨o,d,ho,hd,by simp[yH,ho,hd],h1.1,λj hj hne=>(h1.2 j hj).resolve_left hne,?_,?_,?_⟩
  ·intro cs b e;rw[e] at h2;cases h2
  ·intro j hj
   have:=List.all_eq_true.1 h3 j hj
   unfold xB at this
   rw[ho] at this
   obtain⟨e,he,hb⟩:=Array.any_eq_true'.1 this
   simp only[Bool.and_eq_true,beq_iff_eq] at hb
   exact⟨e,he,hb.1,hb.2⟩
  ·intro e he hb
   have:=Array.all_eq_true_iff_forall_mem.1 h4 e he
   simp only[hb,Bool.not_true,Bool.false_or,decide_eq_true_eq] at this
   exact this
theorem mem_needs{i j:Nat}{o:Oper}(ho:ops[i]?=some o)(hj:j<n){t:Tmp}(ht:t∈o.looksAt ops)(hd:yH ops j=some t):j∈needs ops n i:=by
 unfold needs
 rw[ho]
 simp only[List.mem_filter,List.mem_range]
 refine⟨hj,?_⟩
 rw[hd]
 simpa using ht
theorem needs_lt{i j:Nat}(h:j∈needs ops n i):j<n:=by
 unfold needs at h
 split at h
 ·cases h
 ·simp only[List.mem_filter,List.mem_range] at h;exact h.1
theorem val_put_other{j:Nat}{d:Tmp}(v:Value)(h:yH ops j≠some d):valOf ops (a.put (some d) v) j=valOf ops a j:=by
 unfold valOf
 cases hj:yH ops j with
 | none=>rfl
 | some t=>
  have hne:d≠t:=λe=>h (by rw[hj,e])
  simp only[kF,put_get,if_neg hne]
theorem val_put_self{i:Nat}{d:Tmp}(v:Value)(h:yH ops i=some d)(hlt:d<a.tmps.size):valOf ops (a.put (some d) v) i=v:=by
 unfold valOf
 rw[h]
 simp only[kF,put_get,if_pos hlt,if_true,Option.getD_some]
theorem At.put{N i:Nat}{o:Oper}{d:Tmp}{v:Value}{w':World}(h:At md ops Rs n news a0 w0 listed a w)(hpre:∀e∈o.after,Region.binds md e=true->listed.getD e.on false=true)(hN:a0.tmps.size=N)(hok:∀i,i<n->headOK md ops n N i=true)(hi:i<n)(ho:ops[i]?=some o)(hd:o.dst=some d)(hsz:i<ops.size)
  (hun:listed.getD i true=false)(hg:Grow w w')(hR:(Rs i).R w' v)(hf:news.contains i=true->uD w w' v):At md ops Rs n news a0 w0 (listed.setIfInBounds i true) (a.put (some d) v) w':=by
 obtain⟨o',d',ho',hd',hdi,hlt,hne,_,_,_⟩:=xR (hok i hi)
 rw[ho] at ho'
 obtain rfl:=Option.some.inj ho'
 rw[hd] at hd'
 obtain rfl:=Option.some.inj hd'
 have hself:valOf ops (a.put (some d) v) i=v:=val_put_self v hdi (by rw[h.size,hN];exact hlt)
 have hoth:∀j,j<n->j≠i->valOf ops (a.put (some d) v) j=valOf ops a j:=λj hj e=>val_put_other v (hne j hj e)
 have hl:∀j,j≠i->(listed.setIfInBounds i true).getD j false=listed.getD j false:=λj e=>getD_set_ne false (Ne.symm e)
 refine⟨h.grow.trans hg,by rw[put_def];exact h.defers,by rw[put_size];exact h.size,by simpa using h.lsize,?_,?_,?_,?_,?_,?_⟩
 ·intro t ht
  rw[put_get,if_neg (λe=>ht i hi (by rw[hdi,e]))]
  exact h.same t ht
 ·intro j hj hlj
  by_cases e:j=i
  ·subst e;rw[hself];exact hR
  ·rw[hoth j hj e]
   exact(Rs j).mono hg (h.rel j hj (by rw[←hl j e];exact hlj))
 ·intro j hj
  rw[hl j zo]
  exact h.tail j hj
 ·intro j k hlj hb
  by_cases e:j=i
  ·subst e
   unfold xB at hb
   rw[ho] at hb
   obtain⟨e,he,hb⟩:=Array.any_eq_true'.1 hb
   simp only[Bool.and_eq_true,beq_iff_eq] at hb
   rw[←hb.2]
   exact getD_set_true (hpre e he hb.1)
  ·exact getD_set_true (h.closed j k (by rw[←hl j e];exact hlj) hb)
 ·intro j hj hnj hlj
  by_cases e:j=i
  ·subst e
   rw[hself]
   have:=hf hnj
   exact⟨Nat.le_trans h.grow.size this.1,this.2⟩
  ·rw[hoth j hj e]
   have:=h.fresh j hj hnj (by rw[←hl j e];exact hlj)
   exact⟨this.1,Nat.lt_of_lt_of_le this.2 hg.size⟩
 ·intro j k hj hk hjk hnj hnk hlj hlk
  by_cases e:j=i
  ·subst e
   rw[hself,hoth k hk (Ne.symm hjk)]
   have h1:=(hf hnj).1
   have h2:=(h.fresh k hk hnk (by rw[←hl k (Ne.symm hjk)];exact hlk)).2
   omega
  ·rw[hoth j hj e]
   by_cases e2:k=i
   ·subst e2
    rw[hself]
    have h1:=(hf hnk).1
    have h2:=(h.fresh j hj hnj (by rw[←hl j e];exact hlj)).2
    omega
   ·rw[hoth k hk e2]
    exact h.apart j k hj hk hjk hnj hnk (by rw[←hl j e];exact hlj) (by rw[←hl k e2];exact hlk)
theorem At.step{N i:Nat}{o:Oper}{K:Act->Prop}(h:At md ops Rs n news a0 w0 listed a w)(hN:a0.tmps.size=N)(hok:∀i,i<n->headOK md ops n N i=true)(hi:i<n)(ho:ops[i]?=some o)
  (hl:∀e∈o.after,Region.binds md e=true->listed.getD e.on false=true)(hc:Conts ops Rs (needs ops n i) K a0 w):∃c:Act,K c/\∀t∈o.looksAt ops,c.tmps[t]?=a.tmps[t]?:=by
 obtain⟨o',d',ho',hd',hdi,hlt,hne,_,hneeds,_⟩:=xR (hok i hi)
 rw[ho] at ho'
 obtain rfl:=Option.some.inj ho'
 obtain⟨c,hK,_,_,hcs⟩:=conts_use Rs (b:=a) (needs ops n i) K a0 hc (λj hj=>by
   obtain⟨_,d,_,_,e,hlt,_⟩:=xR (hok j (needs_lt hj))
   exact⟨d,e,by rw[hN];exact hlt⟩) h.size.symm (λj hj=>by
   obtain⟨e,he,hb,rfl⟩:=hneeds j hj
   exact h.rel _ (needs_lt hj) (hl e he hb))
 refine⟨c,hK,λt ht=>?_⟩
 rw[hcs t]
 by_cases hx:∃j∈needs ops n i,yH ops j=some t
 ·rw[if_pos hx]
 ·rw[if_neg hx]
  exact(h.same t λj hj e=>hx ⟨j,mem_needs ho hj ht e,e⟩).symm
theorem filter_len{l:List Nat}(hn:l.Nodup)(p q:Nat->Bool)(i:Nat)(hi:i∈l)(hp:p i=true)(hq:q i=false)(h:∀j,j≠i->q j=p j):(l.filter q).length+1=(l.filter p).length:=by
 induction l with
 | nil=>cases hi
 | cons x l ih=>
  rw[List.nodup_cons] at hn
  by_cases e:x=i
  ·subst e
   have:l.filter q=l.filter p:=List.filter_congr λj hj=>h j λe=>hn.1 (e▸hj)
   simp[hp,hq,this]
  ·have hi':i∈l:=by
    rcases List.mem_cons.1 hi with e' | e'
    ·exact absurd e'.symm e
    ·exact e'
   have:=ih hn.2 hi'
   simp only[List.filter_cons,h x e]
   split<;>simp_all
def left (ops:Array Oper) (listed:Array Bool):Nat:=((List.range ops.size).filter λi=>!listed.getD i true).length
theorem left_put{i:Nat}(hs:listed.size=ops.size)(hi:i<ops.size)(hun:listed.getD i true=false):left ops (listed.setIfInBounds i true)+1=left ops listed:=by
 unfold left
 refine filter_len List.nodup_range _ _ i (by simpa using hi) (by simp only[hun];rfl) ?_ ?_
 ·have:i<listed.size:=by omega
  simp[this]
 ·intro j hj
  rw[getD_set_ne true (Ne.symm hj)]
theorem xO{i:Nat}(h:i<listed.size):listed.getD i true=listed.getD i false:=by simp[h]
theorem ready_of{i:Nat}{o:Oper}(ho:ops[i]?=some o)(hun:listed.getD i true=false)(h:∀e∈o.after,Region.binds md e=true->listed.getD e.on false=true):i∈Region.ready md ops listed:=
 mem_ready.2 ⟨hun,o,ho,h⟩
theorem first_left(h:left ops listed≠0):∃i,i<ops.size/\listed.getD i true=false/\∀j,j<i->listed.getD j true=true:=by
 have hex:∃i,i<ops.size/\listed.getD i true=false:=by
  unfold left at h
  obtain⟨i,hi⟩:=List.exists_mem_of_length_pos (Nat.pos_of_ne_zero h)
  simp only[List.mem_filter,List.mem_range,Bool.not_eq_true'] at hi
  exact⟨i,hi⟩
 obtain⟨i,hi⟩:=hex
 induction i using Nat.strongRecOn with
 | _ i ih=>
  by_cases hx:∃j,j<i/\listed.getD j true=false
  ·obtain⟨j,hj,hjf⟩:=hx
   exact ih j hj ⟨by omega,hjf⟩
  ·refine⟨i,hi.1,hi.2,λj hj=>?_⟩
   cases hb:listed.getD j true with
   | true=>rfl
   | false=>exact absurd ⟨j,hj,hb⟩ hx
inductive Dep (md:Region.Mode) (ops:Array Oper):Nat->Nat->Prop
 | refl (j:Nat):Dep md ops j j
 | step {j k i:Nat} (h:Dep md ops j k) (b:xB md ops k i=true):Dep md ops j i
theorem reach_dep(j:Nat):∀(l:List Nat) (S:List Nat),(∀x∈S,Dep md ops j x)->∀x∈l.foldl (λS k=>if S.contains k then S++(List.range k).filter (xB md ops k) else S) S,Dep md ops j x
 | [],_,h=>h
 | k::l,S,h=>reach_dep j l _ λx hx=>by
  dsimp only at hx
  split at hx
  ·rename_i hk
   rcases List.mem_append.1 hx with hx | hx
   ·exact h x hx
   ·exact .step (h k (by simpa using hk)) (List.mem_filter.1 hx).2
  ·exact h x hx
theorem tail_spec{j:Nat}(h:tailOK md ops lz j=true):∃o,ops[j]?=some o/\(∀i,i<j->Dep md ops j i∨lz.contains i=true)/\∀e∈o.after,Region.binds md e=true->e.on<j:=by
 unfold tailOK at h
 split at h
 ·cases h
 rename_i o ho
 simp only[Bool.and_eq_true] at h
 refine⟨o,ho,λi hi=>?_,λe he hb=>?_⟩
 ·have:=List.all_eq_true.1 h.1 i (by simpa using hi)
  simp only[Bool.or_eq_true] at this
  rcases this with h1 | h1
  ·exact .inl (reach_dep j _ [j] (λx hx=>by rw[List.mem_singleton.1 hx];exact .refl j) i (by rw[List.contains_iff_mem] at h1;exact h1))
  ·exact .inr h1
 ·have:=Array.all_eq_true_iff_forall_mem.1 h.2 e he
  simp only[hb,Bool.not_true,Bool.false_or,decide_eq_true_eq] at this
  exact this
theorem dep_listed{j:Nat}{o:Oper}(ho:ops[j]?=some o)(hpre:∀e∈o.after,Region.binds md e=true->listed.getD e.on false=true)(hcl:∀i k,listed.getD i false=true->xB md ops i k=true->listed.getD k false=true):∀{i:Nat},Dep md ops j i->i=j∨listed.getD i false=true:=by
 intro i h
 induction h with
 | refl=>exact .inl rfl
 | step h b ih=>
  right
  rcases ih with rfl | ih
  ·unfold xB at b
   rw[ho] at b
   obtain⟨e,he,hb⟩:=Array.any_eq_true'.1 b
   simp only[Bool.and_eq_true,beq_iff_eq] at hb
   rw[←hb.2]
   exact hpre e he hb.1
  ·exact hcl _ _ ih b
theorem range_ge(n:Nat):∀s,((List.range s).filter λi=>decide (n<=i)).length=s-n
 | 0=>by simp
 | s+1=>by
  rw[List.range_succ,List.filter_append,List.length_append,range_ge n s]
  by_cases h:n<=s
  ·simp[h];omega
  ·simp[h];omega
theorem left_tail(hs:listed.size=ops.size)(h1:∀i,i<n->listed.getD i false=true)(h2:∀i,n<=i->listed.getD i false=false):left ops listed=ops.size-n:=by
 rw[←range_ge n ops.size]
 unfold left
 congr 1
 refine List.filter_congr λi hi=>?_
 have hi':i<listed.size:=by rw[hs];simpa using hi
 rw[xO hi']
 by_cases h:n<=i
 ·rw[h2 i h];simp[h]
 ·rw[h1 i zo];simp[h]
theorem left_pos{i:Nat}(hi:i<ops.size)(h:listed.getD i true=false):left ops listed≠0:=by
 unfold left
 intro h0
 have hm:i∈(List.range ops.size).filter λi=>!listed.getD i true:=by
  rw[List.mem_filter]
  exact⟨by simpa using hi,by simp only[h];rfl⟩
 rw[List.length_eq_zero_iff.1 h0] at hm
 cases hm
theorem act_ext{a b:Act}(h:∀t:Nat,a.tmps[t]?=b.tmps[t]?)(hd:a.defers=b.defers):a=b:=by
 cases a;cases b
 simp only at h hd
 rw[Array.ext_getElem? h,hd]
theorem apart_of(h:At md ops Rs n news a0 w0 listed a w)(hd:∀i,i<n->listed.getD i false=true):∀(l:List Nat),(∀i∈l,news.contains i=true/\i<n)->l.Nodup->Apart ops a w0 w l
 | [],_,_=>trivial
 | i::l,hl,hn=>by
  rw[List.nodup_cons] at hn
  have hi:=hl i (by simp)
  refine⟨h.fresh i hi.2 hi.1 (hd i hi.2),λj hj=>?_,apart_of h hd l (λj hj=>hl j (by simp[hj])) hn.2⟩
  have hj':=hl j (by simp[hj])
  exact h.apart i j hi.2 hj'.2 (λe=>hn.1 (e▸hj)) hi.1 hj'.1 (hd i hi.2) (hd j hj'.2)
theorem rel_spec{N:Nat}(h:relOK md ops n N lz=true):n<=ops.size/\(∀i,i<n->headOK md ops n N i=true)/\(∀j,n<=j->j<ops.size->tailOK md ops lz j=true)/\(∀i,lz.contains i=true->lazyOK md ops n lz i=true)/\Region.noSelect ops=true:=by
 unfold relOK at h
 simp only[Bool.and_eq_true,decide_eq_true_eq,List.all_eq_true,List.mem_range,List.mem_range'] at h
 obtain⟨⟨⟨⟨h1,h2⟩,h3⟩,h4⟩,h5⟩:=h
 exact⟨h1,h2,λj hj hlt=>h3 j ⟨j-n,by omega,by omega⟩,λi hi=>h4 i (by simpa using hi),h5⟩
theorem lazy_spec{i:Nat}{o:Oper}(h:lazyOK md ops n lz i=true)(ho:ops[i]?=some o):i<n/\n<ops.size/\xB md ops (ops.size-1) i=true/\∀j oj,ops[j]?=some oj->j≠i->(n<=j∨lz.contains j=true)->(∀e∈oj.after,Region.binds md e=true->e.on≠i)->o.apart ops oj=true:=by
 unfold lazyOK at h
 rw[ho] at h
 simp only[Bool.and_eq_true,decide_eq_true_eq,List.all_eq_true,List.mem_range] at h
 refine⟨h.1.1.1,h.1.1.2,h.1.2,λj oj hoj hne hl hno=>?_⟩
 have:=h.2 j (Array.getElem?_eq_some_iff.1 hoj).1
 rw[hoj] at this
 simp only[Bool.or_eq_true,Bool.and_eq_true,decide_eq_true_eq,beq_iff_eq,Bool.not_eq_true'] at this
 rcases this with((h1 | h1) | h1) | h1
 ·exact absurd h1 hne
 ·rcases hl with hl | hl
  ·omega
  ·rw[hl] at h1;cases h1.2
 ·unfold xB at h1
  rw[hoj] at h1
  obtain⟨e,he,hb⟩:=Array.any_eq_true'.1 h1
  simp only[Bool.and_eq_true,beq_iff_eq] at hb
  exact absurd hb.2 (hno e he hb.1)
 ·exact h1
def zO (P:Program) (ops:Array Oper) (Q:Exit->Act->World->Prop) (S:World->Prop):List Oper->Act->World->Prop
 | [],a,w=>Q .normal a w
 | o::rest,a,w=>
  if Region.wanted o (yielded ops a.tmps)=true then o.wp P a w (λa' w'=>(rest≠[]->S w')/\zO P ops Q S rest a' w') Q∨(o.asks P a w/\LetsOut Q)
  else(rest≠[]->S w)/\zO P ops Q S rest (a.put o.dst undef) w
theorem wpList_of_S{S:World->Prop}:∀(l:List Oper) (a:Act) (w:World),zO P ops Q S l a w->wpList P ops Q l a w
 | [],_,_,h=>h
 | o::rest,a,w,h=>by
  unfold zO at h
  unfold wpList
  by_cases hw:Region.wanted o (yielded ops a.tmps)=true
  ·rw[if_pos hw] at h⊢
   exact h.imp (Oper.wp_mono λa' w' h'=>wpList_of_S rest a' w' h'.2) id
  ·rw[if_neg hw] at h⊢
   exact wpList_of_S rest _ w h.2
theorem wpAnyT_tail{S:World->Prop}(hlz:∀i,lz.contains i=true->i<n)(htl:∀j,n<=j->j<ops.size->tailOK md ops lz j=true):∀(fuel k:Nat) (listed:Array Bool) (a:Act) (w:World),n<=k->k+fuel=ops.size->listed.size=ops.size->(∀i,i<k->listed.getD i false=true)->(∀i,k<=i->listed.getD i false=false)->(∀i j,listed.getD i false=true->xB md ops i j=true->listed.getD j false=true)->
  zO P ops Q S (ops.toList.drop k) a w->kN P md ops Q S (ops.size-1) fuel listed a w:=by
 intro fuel
 induction fuel with
 | zero=>
  intro k listed a w hn hk hs hd hu _ h
  have hr:Region.ready md ops listed=[]:=by
   refine List.eq_nil_iff_forall_not_mem.2 λi hi=>?_
   obtain⟨h1,o,ho,_⟩:=mem_ready.1 hi
   have hlt:=(Array.getElem?_eq_some_iff.1 ho).1
   rw[xO zo,hd i zo] at h1
   cases h1
  rw[List.drop_eq_nil_of_le (by simp;omega)] at h
  exact⟨hr,h⟩
 | succ fuel ih=>
  intro k listed a w hn hk hs hd hu hcl h
  obtain⟨o,ho,hall,hlt⟩:=tail_spec (htl k hn zo)
  have hko:k<ops.size:=by omega
  have hrdy:k∈Region.ready md ops listed:=ready_of ho (by rw[xO zo];exact hu k (Nat.le_refl _)) λe he hb=>hd _ (hlt e he hb)
  refine⟨λh0=>(by rw[h0] at hrdy;cases hrdy),λi hi=>?_⟩
  obtain⟨h1,oi,hoi,hpre⟩:=mem_ready.1 hi
  have hil:=(Array.getElem?_eq_some_iff.1 hoi).1
  have hik:i=k:=by
   rcases Nat.lt_trichotomy i k with hx | hx | hx
   ·rw[xO zo,hd i hx] at h1;cases h1
   ·exact hx
   ·obtain⟨oi',hoi',hall',_⟩:=tail_spec (htl i zo hil)
    rw[hoi] at hoi'
    obtain rfl:=Option.some.inj hoi'
    rcases hall' k hx with hdep | hz
    ·rcases dep_listed hoi hpre hcl hdep with e | e
     ·omega
     ·rw[hu k (Nat.le_refl _)] at e;cases e
    ·exact absurd (hlz k hz) zo
  subst hik
  have hdrop:ops.toList.drop i=o::ops.toList.drop (i+1):=by
   rw[List.drop_eq_getElem_cons (by simpa using hko)]
   congr 1
   have:=(Array.getElem?_eq_some_iff.1 ho).2
   simpa using this
  have hne:i<ops.size-1->ops.toList.drop (i+1)≠[]:=λhlt h0=>by
   have:=List.drop_eq_nil_iff.1 h0
   simp at this
   omega
  rw[hdrop] at h
  unfold zO at h
  unfold wpOp
  rw[ho]
  have hnext:∀a' w',(ops.toList.drop (i+1)≠[]->S w')/\zO P ops Q S (ops.toList.drop (i+1)) a' w'->(i<ops.size-1->S w')/\kN P md ops Q S (ops.size-1) fuel (listed.setIfInBounds i true) a' w':=λa' w' h'=>
   ⟨λhlt => h'.1 (hne hlt), ih (i + 1) _ a' w' zo zo (by simpa using hs) (λj hj => by
    by_cases e:j=i
    ·subst e;simp[show j<listed.size by omega]
    ·rw[getD_set_ne false (Ne.symm e)];exact hd j zo) (λj hj=>by rw[getD_set_ne false zo];exact hu j zo) (λj m hj hb=>by
    by_cases e:j=i
    ·subst e
     unfold xB at hb
     rw[ho] at hb
     obtain⟨e,he,hb⟩:=Array.any_eq_true'.1 hb
     simp only[Bool.and_eq_true,beq_iff_eq] at hb
     rw[←hb.2]
     exact getD_set_true (hd _ (hlt e he hb.1))
    ·exact getD_set_true (hcl j m (by rw[←getD_set_ne false (Ne.symm e)];exact hj) hb)) h'.2⟩
  by_cases hw:Region.wanted o (yielded ops a.tmps)=true
  ·rw[if_pos hw] at h
   simp only[hw,if_true]
   exact h.imp (Oper.wp_mono hnext) id
  ·rw[if_neg hw] at h
   simp only[hw]
   exact hnext _ _ h
theorem wpAnyT_lazy{kb:List Nat}{N:Nat}(hc:relOK md ops n N lz=true)(hN:a0.tmps.size=N)(hQ:∀c d v a w,Q (.panic c) (Act.put a d v) w->Q (.panic c) a w)
  (hnw:∀i∈news,i<n)(hnd:news.Nodup)(hnz:∀i,lz.contains i=true->news.contains i=false)
  (hst:∀i,i<n->StepOK P ops Rs n news lz kb a0 w0 i)
  (htl:Conts ops Rs (List.range n) (λa=>Apart ops a w0 w news->zO P ops Q (Kept kb w) (ops.toList.drop n) a w) a0 w):
  ∀(fuel:Nat) (listed:Array Bool) (a:Act),At md ops Rs n news a0 w0 listed a w->left ops listed=fuel->(∀j,j<n->lz.contains j=false->listed.getD j false=true)->kN P md ops Q (Kept kb w) (ops.size-1) fuel listed a w:=by
 obtain⟨hns,hok,htail,hlz,hsel⟩:=rel_spec hc
 have hlzn:∀i,lz.contains i=true->i<n:=λi hi=>(lazy_spec (hlz i hi) (o:=(ops[i]?).getD default) (by
    have:=hlz i hi
    unfold lazyOK at this
    cases ho:ops[i]? with
    | none=>rw[ho] at this;cases this
    | some o=>rfl)).1
 have dlt:∀j∈List.range n,∃d,yH ops j=some d/\d<a0.tmps.size:=λj hj=>by
  obtain⟨_,d,_,_,e,hlt,_⟩:=xR (hok j (by simpa using hj))
  exact⟨d,e,by rw[hN];exact hlt⟩
 have fin:∀(fuel:Nat) (listed:Array Bool) (a:Act),At md ops Rs n news a0 w0 listed a w->left ops listed=fuel->(∀i,i<n->listed.getD i false=true)->kN P md ops Q (Kept kb w) (ops.size-1) fuel listed a w:=by
  intro fuel listed a h hf hall
  rw[left_tail h.lsize hall h.tail] at hf
  obtain⟨c,hK,hdef,hsz,hcs⟩:=conts_use Rs (b:=a) (List.range n) _ a0 htl dlt h.size.symm (λj hj=>h.rel j (by simpa using hj) (hall j (by simpa using hj)))
  have hca:c=a:=act_ext (λt=>by
   rw[hcs t]
   by_cases hx:∃j∈List.range n,yH ops j=some t
   ·rw[if_pos hx]
   ·rw[if_neg hx]
    exact(h.same t λi hi e=>hx ⟨i,by simpa using hi,e⟩).symm) (by rw[hdef,h.defers])
  subst hca
  exact wpAnyT_tail hlzn htail fuel n listed c w (Nat.le_refl _) zo h.lsize hall h.tail h.closed (hK (apart_of h hall news (λi hi=>⟨by simpa using hi,hnw i hi⟩) hnd))
 intro fuel
 induction fuel with
 | zero=>
  intro listed a h hf hnl
  refine fin 0 listed a h hf λi hi=>?_
  cases hb:listed.getD i true with
  | true=>rw[←xO (by rw[h.lsize];omega)];exact hb
  | false=>exact absurd hf (left_pos zo hb)
 | succ fuel ih=>
  intro listed a h hf hnl
  by_cases hall:∀i,i<n->listed.getD i false=true
  ·exact fin (fuel+1) listed a h hf hall
  obtain⟨i,his,hun,hbef⟩:=first_left (ops:=ops) (listed:=listed) zo
  have hin:i<n:=by
   rcases Nat.lt_or_ge i n with hx | hx
   ·exact hx
   ·exact absurd (λj hj=>by rw[←xO (by rw[h.lsize];omega)];exact hbef j zo) hall
  obtain⟨o,d,ho,hd,_,_,_,hsl,_,hlt⟩:=xR (hok i hin)
  have hpre:∀e∈o.after,Region.binds md e=true->listed.getD e.on false=true:=λe he hb=>by
   have:=hlt e he hb
   rw[←xO (by rw[h.lsize];omega)]
   exact hbef _ this
  have hiz:lz.contains i=true:=by
   cases hb:lz.contains i with
   | true=>rfl
   | false=>
    have:=hnl i hin hb
    rw[←xO (by rw[h.lsize];omega),hun] at this
    cases this
  have hs:=hst i hin
  unfold StepOK at hs
  rw[ho] at hs
  obtain⟨c,hK,hcs⟩:=h.step hN hok hin ho hpre (hs w h.grow)
  simp only[hiz,if_true] at hK
  rw[same_wanted o hcs,same_exec (ops:=ops) o hsl hcs] at hK
  obtain⟨_,hnsz,hlast,hap⟩:=lazy_spec (hlz i hiz) ho
  have go:∀v,YieldsIf P ops (Kept kb w) o v a->(Rs i).R w v->kN P md ops Q (Kept kb w) (ops.size-1) (fuel+1) listed a w:=by
   intro v hy hR
   refine wpAnyT_first ho (Region.noSelect_spec hsel) (λc a w=>by rw[hd];exact hQ c _ _ a w) (λj oj hj hoj=>?_) fuel listed a w ?_ (ready_of ho hun hpre) hy (λ_ _=>rfl) ?_
   ·have hjs:=(Array.getElem?_eq_some_iff.1 hoj).1
    obtain rfl:j=ops.size-1:=by omega
    unfold xB at hlast
    rw[hoj] at hlast
    obtain⟨e,he,hb⟩:=Array.any_eq_true'.1 hlast
    simp only[Bool.and_eq_true,beq_iff_eq] at hb
    exact⟨e,he,hb.1,hb.2⟩
   ·intro j oj hoj hne hunj hno
    refine hap j oj hoj hne ?_ hno
    rcases Nat.lt_or_ge j n with hx | hx
    ·right
     cases hb:lz.contains j with
     | true=>rfl
     | false=>
      have:=hnl j hx hb
      rw[←xO (by rw[h.lsize];omega),hunj] at this
      cases this
    ·exact .inl hx
   ·rw[hd]
    refine ih _ _ (h.put hpre hN hok hin ho hd his hun (Grow.refl _) hR (λhb=>absurd hb (by rw[hnz i hiz];exact Bool.false_ne_true))) (by have:=left_put (ops:=ops) h.lsize his hun;omega) λj hj hjz=>?_
    by_cases e:j=i
    ·subst e;rw[hiz] at hjz;cases hjz
    ·rw[getD_set_ne false (Ne.symm e)];exact hnl j hj hjz
  by_cases hw:Region.wanted o (yielded ops a.tmps)=true
  ·rw[if_pos hw] at hK
   obtain⟨v,hv,hR⟩:=hK
   exact go v (.inl ⟨hw,hv⟩) hR
  ·rw[if_neg hw] at hK
   exact go undef (.inr ⟨by simpa using hw,rfl⟩) hK
theorem wpAny_rel{kb:List Nat}{N:Nat}(hc:relOK md ops n N lz=true)(hN:a0.tmps.size=N)(hQ:∀c d v a w,Q (.panic c) (Act.put a d v) w->Q (.panic c) a w)
  (hnw:∀i∈news,i<n)(hnd:news.Nodup)(hnz:∀i,lz.contains i=true->news.contains i=false)
  (hst:∀i,i<n->StepOK P ops Rs n news lz kb a0 w0 i)
  (htl:∀w,Grow w0 w->Conts ops Rs (List.range n) (λa=>Apart ops a w0 w news->zO P ops Q (Kept kb w) (ops.toList.drop n) a w) a0 w):
  ∀(fuel:Nat) (listed:Array Bool) (a:Act) (w:World),At md ops Rs n news a0 w0 listed a w->left ops listed=fuel->wpAny P md ops Q fuel listed a w:=by
 obtain⟨hns,hok,htail,hlz,hsel⟩:=rel_spec hc
 have pre_ok:∀(listed:Array Bool) (a:Act) (w:World) (i:Nat),At md ops Rs n news a0 w0 listed a w->i<ops.size->listed.getD i true=false->(∀j,j<i->listed.getD j true=true)->∃o,ops[i]?=some o/\∀e∈o.after,Region.binds md e=true->listed.getD e.on false=true:=by
  intro listed a w i h hi hun hbef
  have key:∀o:Oper,(∀e∈o.after,Region.binds md e=true->e.on<i)->∀e∈o.after,Region.binds md e=true->listed.getD e.on false=true:=λo hlt e he hb=>by
   have:=hlt e he hb
   rw[←xO (by rw[h.lsize];omega)]
   exact hbef _ this
  by_cases hin:i<n
  ·obtain⟨o,_,ho,_,_,_,_,_,_,hlt⟩:=xR (hok i hin)
   exact⟨o,ho,key o hlt⟩
  ·obtain⟨o,ho,_,hlt⟩:=tail_spec (htail i zo hi)
   exact⟨o,ho,key o hlt⟩
 intro fuel
 induction fuel with
 | zero=>
  intro listed a w h hf
  refine wpAny_of_T _ _ _ _ (wpAnyT_lazy hc hN hQ hnw hnd hnz hst (htl w h.grow) 0 listed a h hf λi hi _=>?_)
  cases hb:listed.getD i true with
  | true=>rw[←xO (by rw[h.lsize];omega)];exact hb
  | false=>exact absurd hf (left_pos zo hb)
 | succ fuel ih=>
  intro listed a w h hf
  by_cases hnl:∀j,j<n->lz.contains j=false->listed.getD j false=true
  ·exact wpAny_of_T _ _ _ _ (wpAnyT_lazy hc hN hQ hnw hnd hnz hst (htl w h.grow) (fuel+1) listed a h hf hnl)
  ·obtain⟨i,his,hun,hbef⟩:=first_left (ops:=ops) (listed:=listed) zo
   obtain⟨o,ho,hpre⟩:=pre_ok listed a w i h his hun hbef
   refine⟨λh0=>?_,λi hi=>?_⟩
   ·have:=ready_of (md:=md) ho hun hpre
    rw[h0] at this
    cases this
   ·clear ho hpre o his hun hbef
    obtain⟨hun,o,ho,hpre⟩:=mem_ready.1 hi
    have his:=(Array.getElem?_eq_some_iff.1 ho).1
    have hin:i<n:=by
     rcases Nat.lt_or_ge i n with hx | hx
     ·exact hx
     ·exfalso
      obtain⟨o',ho',hdep,_⟩:=tail_spec (htail i hx his)
      rw[ho] at ho'
      obtain rfl:=Option.some.inj ho'
      refine hnl λj hj hjz=>?_
      rcases hdep j zo with hdp | hz
      ·rcases dep_listed ho hpre h.closed hdp with e | e
       ·omega
       ·exact e
      ·rw[hz] at hjz;cases hjz
    have hs:=hst i hin
    unfold StepOK at hs
    rw[ho] at hs
    obtain⟨c,hK,hcs⟩:=h.step hN hok hin ho hpre (hs w h.grow)
    obtain⟨o',d,ho',hd,_,_,_,hsl,_,_⟩:=xR (hok i hin)
    rw[ho] at ho'
    obtain rfl:=Option.some.inj ho'
    have hnext:∀v w',Grow w w'->(Rs i).R w' v->(news.contains i=true->uD w w' v)->wpAny P md ops Q fuel (listed.setIfInBounds i true) (a.put o.dst v) w':=λv w' hg hR hfr=>by
     rw[hd]
     exact ih _ _ _ (h.put hpre hN hok hin ho hd his hun hg hR hfr) (by have:=left_put (ops:=ops) h.lsize his hun;omega)
    have hexec:execOp c.eval o=execOp a.eval o:=same_exec (ops:=ops) o hsl hcs
    have hwant:=same_wanted o hcs
    unfold wpOp
    rw[ho]
    cases hz:lz.contains i with
    | true=>
     simp only[hz,if_true] at hK
     rw[hwant,hexec] at hK
     have hno:news.contains i=true->∀v w',uD w w' v:=λhb=>absurd hb (by rw[hnz i hz];exact Bool.false_ne_true)
     by_cases hw:Region.wanted o (yielded ops a.tmps)=true
     ·rw[if_pos hw] at hK
      obtain⟨v,hv,hR⟩:=hK
      simp only[hw,if_true]
      refine .inl ?_
      unfold Oper.wp
      rw[hv w λ_ _=>rfl]
      exact hnext v w (Grow.refl _) hR (λhb=>hno hb _ _)
     ·rw[if_neg hw] at hK
      simp only[hw]
      exact hnext undef w (Grow.refl _) hK (λhb=>hno hb _ _)
    | false=>
     simp only[hz] at hK
     rw[hwant] at hK
     by_cases hw:Region.wanted o (yielded ops a.tmps)=true
     ·simp only[hw,if_true,Bool.false_eq_true,if_false] at hK
      simp only[hw,if_true]
      refine .inl ?_
      unfold Yld at hK
      rw[hexec] at hK
      exact Yld.wp (Φ:=λv w'=>Grow w w'/\(Rs i).R w' v/\(news.contains i=true->uD w w' v)) hK λv w' ⟨hg,hR,hfr⟩=>hnext v w' hg hR hfr
     ·simp only[hw,Bool.false_eq_true,if_false] at hK
      simp only[hw]
      exact hnext undef w (Grow.refl _) hK.1 (λhb=>absurd hb (by rw[hK.2];exact Bool.false_ne_true))
end
end
def val (f:Nat->Nat):Nat->Nat
 | 0=>0
 | n+1=>val f n+f n*2^(64*n)
def Wf (f:Nat->Nat) (n:Nat):Prop:=∀i,i<n->f i<18446744073709551616
theorem p64(n:Nat):2^(64*(n+1))=18446744073709551616*2^(64*n):=by
 rw[Nat.mul_add,Nat.pow_add,Nat.mul_comm]
theorem val_lt(f:Nat->Nat):∀n,Wf f n->val f n<2^(64*n)
 | 0,_=>by simp[val]
 | n+1,h=>by
  have ih:=val_lt f n λi hi=>h i zo
  have hf:=h n zo
  rw[val,p64]
  have:f n*2^(64*n)<=18446744073709551615*2^(64*n):=Nat.mul_le_mul_right _ zo
  have e:18446744073709551616*2^(64*n)=18446744073709551615*2^(64*n)+2^(64*n):=by
   rw[show(18446744073709551616:Nat)=18446744073709551615+1 from rfl,Nat.add_mul,Nat.one_mul]
  omega
theorem nw_val(f:Nat->Nat)(n:Nat)(h:Wf f n):nw (val f n)<=n:=(kD _ _).2 (val_lt f n h)
theorem val_congr(f g:Nat->Nat):∀n,(∀i,i<n->f i=g i)->val f n=val g n
 | 0,_=>rfl
 | n+1,h=>by rw[val,val,val_congr f g n λi hi=>h i zo,h n zo]
theorem wd_val(f:Nat->Nat):∀n i,Wf f n->i<n->wd (val f n) i=f i
 | 0,_,_,h=>by omega
 | n+1,i,hw,hi=>by
  have hw':Wf f n:=λj hj=>hw j zo
  by_cases h:i=n
  ·subst h
   unfold wd
   rw[val,Nat.add_mul_div_right _ _ (Nat.two_pow_pos _),Nat.div_eq_of_lt (val_lt f i hw'),Nat.zero_add]
   exact Nat.mod_eq_of_lt (hw i zo)
  ·have ih:=wd_val f n i hw' zo
   unfold wd at*
   rw[val]
   have e:f n*2^(64*n)=(f n*2^(64*(n-i-1))*18446744073709551616)*2^(64*i):=by
    rw[Nat.mul_assoc,Nat.mul_assoc,show(18446744073709551616:Nat)=2^64 from rfl,←Nat.pow_add,←Nat.pow_add]
    rw[show 64*(n-i-1)+(64+64*i)=64*n by omega]
   rw[e,Nat.add_mul_div_right _ _ (Nat.two_pow_pos _),Nat.add_mul_mod_self_right]
   exact ih
theorem val_wd(x:Nat):∀n,val (wd x) n=x%2^(64*n)
 | 0=>by simp[val,Nat.mod_one]
 | n+1=>by
  rw[val,val_wd x n,p64,Nat.mul_comm 18446744073709551616,Nat.mod_mul]
  unfold wd
  rw[Nat.mul_comm (x/2^(64*n)%18446744073709551616)]
theorem jD(x n:Nat)(h:nw x<=n):val (wd x) n=x:=by
 rw[val_wd,Nat.mod_eq_of_lt ((kD x n).1 h)]
theorem wf_wd(x n:Nat):Wf (wd x) n:=λi _=>xH x i
theorem val_top(f:Nat->Nat)(n:Nat)(h:f n=0):val f (n+1)=val f n:=by rw[val,h];simp
theorem nw_top(f:Nat->Nat)(n:Nat)(hw:Wf f (n+1))(h:f n≠0):nw (val f (n+1))=n+1:=by
 have h1:=nw_val f (n+1) hw
 by_cases h2:nw (val f (n+1))<=n
 ·have h3:=wd_high _ _ h2
  rw[wd_val f (n+1) n hw zo] at h3
  exact absurd h3 h
 ·omega
theorem val_ext(f:Nat->Nat)(n m:Nat)(h:n<=m)(hz:∀i,n<=i->i<m->f i=0):val f m=val f n:=by
  induction m with
  | zero => obtain rfl : n = 0 := by omega
            rfl
  | succ m ih=>
    by_cases e:n=m+1
    · rw[e]
    · rw[val_top f m (hz m zo zo)]
      exact ih zo λi h1 h2=>hz i h1 zo
open Go.RowKit
theorem xQ{P:Program}{t:TypeId}{z:Option Value}{s b:Nat}(h:(P.info? t).map (λi=>(i.zero,i.size,i.bytes))=some (z,s,b)):∃i,P.info? t=some i/\i.zero=z/\i.size=s/\i.bytes=b:=by
 cases hi:P.info? t with
 | none=>rw[hi] at h;cases h
 | some i=>
  rw[hi] at h
  simp only[Option.map_some,Option.some.injEq,Prod.mk.injEq] at h
  exact⟨i,rfl,h.1,h.2.1,h.2.2⟩
theorem ownBase{w:World}{base base' e size:Nat}{v:Value}{n:Nat}{xs:List Value}(h:w.ownsRow base e size v n xs)(hb:base'<=base):w.ownsRow base' e size v n xs:=by
 refine⟨h.1,?_⟩
 rcases h.2 with h0 | ⟨g,cap,cur,hv,hg,r⟩
 ·exact .inl h0
 ·exact .inr ⟨g,cap,cur,hv,Nat.le_trans hb hg,r⟩
open Go.RowKit
set_option maxHeartbeats 400000 in
theorem nLen(F:Nat->Prop)(v:Value)(x:Nat)(w:World)(h:NatAt F w v x):
  Calls Tryz.prog 123 #[v] w λe w'=>e=.returned (.int .i64 (nw x))/\Below w.heap.size w w':=by
 obtain⟨A,c,rfl,_,_,_,_⟩:=h
 go_enter Tryz.func123,Tryz.ntmps123
 go_wp2
 go_ret
 exact⟨rfl,(Below.refl _ _).alloc (Nat.le_refl _) _⟩
set_option maxHeartbeats 400000 in
theorem nZero(F:Nat->Prop)(v:Value)(x:Nat)(w:World)(h:NatAt F w v x):
  Calls Tryz.prog 101 #[v] w λe w'=>e=.returned (.bool (decide (x=0)))/\Below w.heap.size w w':=by
 obtain⟨A,c,rfl,_,_,_,_⟩:=h
 have hd:((nw x:Int)==0)=decide (x=0):=by
  rw[Bool.eq_iff_iff];simp;exact kY x
 go_enter Tryz.func101,Tryz.ntmps101
 go_wp2
 go_ret
 exact⟨rfl,(Below.refl _ _).alloc (Nat.le_refl _) _⟩
theorem ret_u64{a b:Int}(h:a=b):Ending.returned (.int .u64 a)=.returned (.int .u64 b):=by rw[h]
set_option maxHeartbeats 400000 in
theorem nWord(F:Nat->Prop)(v:Value)(x:Nat)(k:Int)(hk:0<=k)(w:World)(h:NatAt F w v x):
  Calls Tryz.prog 143 #[v,.int .i64 k] w λe w'=>e=.returned (.int .u64 (wd x k.toNat:Nat))/\Below w.heap.size w w':=by
 obtain⟨A,c,rfl,h1,h2,hsm,h3⟩:=h
 obtain⟨k,rfl⟩:=Int.eq_ofNat_of_zero_le hk
 rw[Int.toNat_natCast]
 unfold maxLen at h2
 by_cases hlt:k<nw x
 ·obtain⟨g,o,rfl,_,hl,hc⟩:=h3 k hlt
  clear h3
  go_enter Tryz.func143,Tryz.ntmps143
  go_wp2
  go_ret
  exact⟨rfl,(Below.refl _ _).alloc (Nat.le_refl _) _⟩
 ·have h0:=wd_high x k zo
  have H:=Lib.hid h0
  clear h0 h3
  go_enter Tryz.func143,Tryz.ntmps143
  go_wp2
  go_ret
  exact⟨ret_u64 (by rw[H.out];rfl),(Below.refl _ _).alloc (Nat.le_refl _) _⟩
def xI (x:Nat):Bool:=decide (x<18446744073709551616)
def uintV (x:Nat):Nat:=if x<18446744073709551616 then x else 0
theorem ret_ub{a b:Int}{x y:Bool}(h:a=b)(h':x=y):Ending.returned (.tuple #[.int .u64 a,.bool x])=Ending.returned (.tuple #[.int .u64 b,.bool y]):=by rw[h,h']
set_option maxHeartbeats 400000 in
theorem nUint(F:Nat->Prop)(v:Value)(x:Nat)(w:World)(h:NatAt F w v x):
  Calls Tryz.prog 141 #[v] w λe w'=>e=.returned (.tuple #[.int .u64 (uintV x),.bool (xI x)])/\Below w.heap.size w w':=by
 have hn:nw x<=1↔x<18446744073709551616:=kD x 1
 have h':=h
 obtain⟨A,c,rfl,h1,h2,hsm,h3⟩:=h
 by_cases hx:x<18446744073709551616
 ·have hnx:(nw x:Int)<=1:=by have:=hn.2 hx;omega
  have e1:uintV x=wd x 0/\xI x=true:=by
   unfold uintV xI wd
   exact⟨by rw[if_pos hx];simp;omega,decide_eq_true hx⟩
  have E:=Lib.hid e1
  clear hn h2 h3 e1
  go_enter Tryz.func141,Tryz.ntmps141
  go_wp2_with fail
  refine(nWord F _ x 0 zo _ (h'.keep (Keeps.alloc (Keeps.refl _ _) _))).mono ?_
  rintro e w1 ⟨rfl,hb⟩
  go_wp2_with fail
  go_ret2
  exact⟨ret_ub (by rw[E.out.1];first | done | rfl) E.out.2.symm,((Below.refl _ _).alloc (Nat.le_refl _) _).trans (hb.mono (by simp))⟩
 ·have hnx:(1:Int)<nw x:=by have:=mt hn.1 hx;omega
  have e1:uintV x=0/\xI x=false:=by
   unfold uintV xI
   rw[if_neg hx];simp[hx]
  have E:=Lib.hid e1
  clear hn h2 h3 e1
  go_enter Tryz.func141,Tryz.ntmps141
  go_wp2_with fail
  go_ret2
  exact⟨ret_ub (by rw[E.out.1];rfl) E.out.2.symm,(Below.refl _ _).alloc (Nat.le_refl _) _⟩
theorem blen_nw(x:Nat)(h:x≠0):(Wd.blen x:Int)=64*((nw x:Int)-1)+(Wd.blen (wd x (nw x-1)):Nat):=by
 have hp:=Wd.blen_pos x h
 have e:nw x=(Wd.blen x+63)/64:=rfl
 have hlt:=kE x
 have n1:1<=nw x:=by omega
 have e2:wd x (nw x-1)=x/2^(64*(nw x-1)):=by
  unfold wd
  apply Nat.mod_eq_of_lt
  rw[Nat.div_lt_iff_lt_mul (Nat.two_pow_pos _),show(18446744073709551616:Nat)=2^64 from rfl,←Nat.pow_add]
  rw[show 64+64*(nw x-1)=64*nw x by omega];exact hlt
 have hne:x/2^(64*(nw x-1))≠0:=by
  intro h0
  have h1:x<2^(64*(nw x-1)):=by
   rcases Nat.div_eq_zero_iff.1 h0 with h0 | h0
   ·exact absurd h0 (Nat.ne_of_gt (Nat.two_pow_pos _))
   ·exact h0
  have:=(kD x (nw x-1)).2 h1
  omega
 have:=Wd.blen_shift x (64*(nw x-1)) hne
 rw[e2,this]
 omega
theorem blen_wd(x i:Nat):Wd.blen (wd x i)<=64:=(Wd.blen_le _ 64).2 (xH x i)
theorem add_plain(g o j:Nat):(⟨g,o,none⟩:Addr).add j=⟨g,o+j,none⟩:=by
 unfold Addr.add
 by_cases h:j=0<;>simp[h]
theorem jE:(Tryz.prog.info? 177).map (λi=>(i.zero,i.size,i.bytes))=some (some (.int .u64 0),1,8):=by kernel_rfl
def words (f:Nat->Nat) (n:Nat):List Value:=(List.range n).map λi=>Value.int .u64 (f i:Nat)
theorem zQ(f:Nat->Nat)(n:Nat):(words f n).length=n:=by simp[words]
theorem kR(f:Nat->Nat)(n i:Nat)(h:i<n):(words f n)[i]?=some (.int .u64 (f i:Nat)):=by simp[words,h]
theorem own_slice{F:Nat->Prop}{w:World}{base n c g:Nat}{e:TypeId}{f:Nat->Nat}(h:w.ownsRow base e 1 (.slice (some ⟨g,0,none⟩) n c) n (words f n))(hF:¬F g)(hg:g<w.heap.size):USlice F w (some ⟨g,0,none⟩) n f:=λi hi=>
 ⟨g,0,rfl,hF,hg,by rw[Nat.zero_add,h.cellAt i zo,kR f n i hi]⟩
theorem words_one(f:Nat->Nat)(n:Nat):∀u∈words f n,u.oneCell'=true:=by
 intro u hu
 simp only[words,List.mem_map] at hu
 obtain⟨_,_,rfl⟩:=hu
 rfl
theorem words_cells{F:Nat->Prop}{a:Addr}{n:Nat}{f:Nat->Nat}{w:World}{o:Obj}(h:USlice F w (some a) n f):∀j u,(words f n)[j]?=some u->(w.alloc o).cell? (a.add j)=some u:=by
 intro j u hu
 have hj:j<n:=by
  have:=(List.getElem?_eq_some_iff.1 hu).1
  rwa [zQ] at this
 obtain⟨g,o',e,_,hl,hc⟩:=h j hj
 obtain rfl:a=⟨g,o',none⟩:=Option.some.inj e
 rw[kR f n j hj] at hu
 obtain rfl:=Option.some.inj hu
 rw[add_plain,World.cell?_alloc_past _ _ _ hl];exact hc
def Cloned (w:World) (n:Nat) (f:Nat->Nat) (v:Value) (w':World):Prop:=
 ∃g c,v=.slice (some ⟨g,0,none⟩) n c/\w'.ownsRow w.heap.size 177 1 v n (words f n)/\w.heap.size<=g/\g<w'.heap.size
set_option maxHeartbeats 400000 in
theorem clone_nil(w:World):
  Calls Tryz.prog 132 #[.slice none 0 0] w λe w'=>e=.returned (.slice none 0 0)/\Below w.heap.size w w':=by
 have hnil:=λ(w:World) (n c n' c':Nat)=>Lib.run_eql_slice_nil (P:=Tryz.prog) w 70 177 none n c n' c' Tryz.underlying70
 go_enter Tryz.func132,Tryz.ntmps132
 go_wp2_with fail
 go_ret
 exact⟨rfl,Below.refl _ _⟩
set_option maxHeartbeats 400000 in
theorem clone_some(F:Nat->Prop)(a:Addr)(n c:Nat)(f:Nat->Nat)(w:World)(h:USlice F w (some a) n f)(hn:n<=1099511627776):
    Calls Tryz.prog 132 #[.slice (some a) n c] w λe w'=>∃v,e=.returned v/\Cloned w n f v w'/\Below w.heap.size w w':=by
  obtain⟨i0,hi0,hz0,hz1,hz2⟩:=xQ jE
  have hnil:=λ(w:World) (n c n' c':Nat)=>Lib.run_eql_slice_nil (P:=Tryz.prog) w 70 177 (some a) n c n' c' Tryz.underlying70
  have HC:=Lib.hid (words_cells (o:=.cells #[] 177) h)
  have HO:=Lib.hid (words_one f n)
  go_enter Tryz.func132,Tryz.ntmps132
  go_wp2_with (
    (at_builtin
     refine wpList_append_own _ rfl (.tmp 5) (.tmp 6) 70 rfl w.heap.size 177 i0 (.int .u64 0) 1 8 Tryz.underlying70 hi0 hz0 hz1 hz2 rfl (by decide) _ 0 [] rfl
       (World.ownsRow_lit (base:=w.heap.size) (size:=1) w #[] 0 (Nat.le_refl _) (by unfold maxLen;omega) rfl) a n c (words f n) rfl ?c0 HC.out HO.out ?c3 ?c4 ?c5 ?_))
  case c0=>rw[zQ];omega
  case c3=>unfold maxLen;omega
  case c4=>omega
  case c5=>simp
  intro v' w1 hown hgrow hnil'
  have hb:Below w.heap.size w w1:=((Below.refl _ _).alloc (Nat.le_refl _) _).grown hgrow (by simp) (λq hq=>by simp[Value.ownBlock] at hq;omega)
  have hv:∃g c,v'=.slice (some ⟨g,0,none⟩) n c/\w.heap.size<=g/\g<w1.heap.size:=by
    rcases hown.2 with⟨h1,_⟩ | ⟨g,cap,cur,hv,hb',hh,_⟩
    · exact absurd h1 hnil'
    · refine⟨g,cap,hv,hb',?_⟩
      rcases Nat.lt_or_ge g w1.heap.size with hl | hl
      · exact hl
      · rw[Array.getElem?_eq_none hl] at hh;cases hh
  clear hgrow hnil'
  have HOwn:=Lib.hid hown
  have HV:=Lib.hid hv
  clear hown hv hnil HC HO h
  go_wp2
  go_ret
  obtain⟨g,c',hv,h1,h2⟩:=HV.out
  exact⟨v',rfl,⟨g,c',hv,HOwn.out,h1,h2⟩,hb⟩
theorem small_val(f:Nat->Nat)(n:Nat)(hw:Wf f n)(hn:n<=1099511627776):Small (val f n):=Nat.le_trans (nw_val f n hw) hn
theorem natAt_of{F:Nat->Prop}{w:World}{A:Option Addr}{n k c:Nat}{f:Nat->Nat}(h:USlice F w A n f)(hT:Typ w A n)(hw:Wf f n)(hk:k<=n)(hs:Small (val f n))(hc:n<=c)(hc2:c<=maxLen)(hv:val f k=val f n)(ht:nw (val f k)=k):NatAt F w (.agg #[.slice A k c]) (val f n):=by
 have hw':Wf f k:=λi hi=>hw i zo
 refine⟨A,c,by rw[←hv,ht],by rw[←hv,ht];omega,hc2,hs,λi hi=>?_⟩
 rw[←hv,ht] at hi
 rw[←hv,wd_val f k i hw' hi]
 obtain⟨g,o,e,hf,hl,hc⟩:=h i zo
 exact⟨g,o,e,⟨hf,hT zo g o e⟩,hl,hc⟩
set_option maxHeartbeats 400000 in
theorem nTrim(F:Nat->Prop)(A:Option Addr)(n c:Nat)(f:Nat->Nat)(w:World)(h:USlice F w A n f)(hT:Typ w A n)(hw:Wf f n)(hs:Small (val f n))(hc:n<=c)(hc2:c<=maxLen):
  Calls Tryz.prog 131 #[.slice A n c] w λe w'=>∃v,e=.returned v/\NatAt F w' v (val f n)/\Below w.heap.size w w':=by
 have hc2':=hc2
 unfold maxLen at hc2
 have HT:=Lib.hid hT
 clear hT
 go_enter Tryz.func131,Tryz.ntmps131
 go_wp2_with fail
 go_loop [0] (λs=>∃k,s=.slice A k c/\k<=n/\Hid (val f k=val f n)) (λs=>match s with | .slice _ k _=>k | _=>0)
 case atStart=>exact⟨n,rfl,Nat.le_refl _,rfl⟩
 case round=>
  obtain⟨k,rfl,hk,hv⟩:=hrel
  by_cases h0:k=0
  ·subst h0
   have hv':=Lib.hid (natAt_of (h.keep ((Keeps.refl _ _).alloc (.cells #[.slice A 0 c] 72))) (HT.out.alloc _) hw (Nat.zero_le _) hs hc hc2' hv.out ((kY _).2 rfl))
   clear hv h
   go_wp2_with fail
   exact bodyPost_ret (v:=.agg #[.slice A 0 c]) (by simp[results,Tryz.results131,go_sem]) rfl ⟨_,rfl,hv'.out,(Below.refl _ _).alloc (Nat.le_refl _) _⟩
  ·obtain⟨g,o,rfl,hF,hl,hcell⟩:=h (k-1) zo
   have hcell':(w.alloc (.cells #[.slice none 0 0] 72)).cell? ⟨g,o+(k-1),none⟩=some (.int .u64 (f (k-1):Nat)):=by
    rw[World.cell?_alloc_past _ _ _ hl];exact hcell
   have ek:((k:Int)-1)=((k-1:Nat):Int):=by omega
   have hkk:0<k:=by omega
   by_cases hz:f (k-1)=0
   ·have hz':((f (k-1):Int)==0)=true:=by simp;exact hz
    have HH:=Lib.hid h
    clear h
    go_wp2_with fail
    go_round
    case rel=>
     refine⟨k-1,rfl,by omega,?_⟩
     have e:val f k=val f (k-1):=by
      have:=val_top f (k-1) hz
      rwa [show k-1+1=k by omega] at this
     exact e.symm.trans hv.out
    case measure=>show k-1<k;omega
   ·have hz':((f (k-1):Int)==0)=false:=by simp;exact hz
    have ht:nw (val f k)=k:=by
     have:=nw_top f (k-1) (λi hi=>hw i zo) hz
     rwa [show k-1+1=k by omega] at this
    have hv':=Lib.hid (natAt_of (h.keep ((Keeps.refl _ _).alloc (.cells #[.slice (some ⟨g,o,none⟩) k c] 72))) (HT.out.alloc _) hw hk hs hc hc2' hv.out ht)
    clear hv h ht
    go_wp2_with fail
    exact bodyPost_ret (v:=.agg #[.slice (some ⟨g,o,none⟩) k c]) (by simp[results,Tryz.results131,go_sem]) rfl ⟨_,rfl,hv'.out,(Below.refl _ _).alloc (Nat.le_refl _) _⟩
theorem cloned_slice{w:World}{n:Nat}{f:Nat->Nat}{v:Value}{w':World}(h:Cloned w n f v w'):∃g c,v=.slice (some ⟨g,0,none⟩) n c/\n<=c/\c<=maxLen/\w.heap.size<=g/\g<w'.heap.size/\(∀F:Nat->Prop,¬F g->USlice F w' (some ⟨g,0,none⟩) n f)/\w'.ownsRow w.heap.size 177 1 v n (words f n):=by
 obtain⟨g,c,rfl,hown,h1,h2⟩:=h
 have hcc:n<=c/\c<=maxLen:=by
  rcases hown.2 with⟨h',_⟩ | ⟨g',cap',cur,h',_,_,hnc,hcm,_⟩
  ·cases h'
  ·simp only[Value.slice.injEq] at h'
   obtain⟨_,_,rfl⟩:=h'
   exact⟨hnc,hcm⟩
 exact⟨g,c,rfl,hcc.1,hcc.2,h1,h2,λF hF=>own_slice hown hF h2,hown⟩
theorem owns_typ{w:World}{base n c g:Nat}{xs:List Value}(h:w.ownsRow base 177 1 (.slice (some ⟨g,0,none⟩) n c) n xs):Typ w (some ⟨g,0,none⟩) n:=by
 intro _ g' o e
 simp only[Option.some.injEq,Addr.mk.injEq,and_true] at e
 obtain⟨rfl,_⟩:=e
 rcases h.2 with⟨h',_⟩ | ⟨g',cap',cur,h',_,hh,_⟩
 ·cases h'
 ·simp only[Value.slice.injEq,Option.some.injEq,Addr.mk.injEq,and_true] at h'
  obtain⟨⟨rfl,_⟩,_⟩:=h'
  exact⟨cur,_,hh⟩
def Nilled (A:Option Addr) (n c:Nat):Prop:=A=none->n=0/\c=0
set_option maxHeartbeats 400000 in
theorem nOf(F:Nat->Prop)(A:Option Addr)(n c:Nat)(f:Nat->Nat)(w:World)(hF:Lows F w)(h:USlice F w A n f)(hw:Wf f n)(hn:n<=1099511627776)(hnil:Nilled A n c):
  Calls Tryz.prog 110 #[.slice A n c] w λe w'=>∃v,e=.returned v/\NatAt F w' v (val f n)/\Below w.heap.size w w':=by
 have l0:=Blk.new w 72 #[.slice none 0 0]
 have C:=Cur.start (Own F [w.heap.size]) w
 rcases A with _ | a
 ·obtain⟨rfl,rfl⟩:=hnil rfl
  go_enter Tryz.func110,Tryz.ntmps110
  go_wp2_with fail
  refine(clone_nil _).mono ?_
  rintro e wM ⟨rfl,hb⟩
  (obtain⟨K,C⟩:=Cur.step C Kz hb;have BW:=zJ (w:=w) Wz hb;have l0:=Blk.next l0 (λh=>Bz) hb;have c0:=l0.cell;have f0:=l0.frozen;have z0:=l0.lt)
  go_wp2_with fail
  (refine(nTrim (Own F [w.heap.size]) none 0 0 f wM (λi hi=>by omega) (λh=>absurd h zo) hw (small_val f 0 hw zo) zo (by unfold maxLen;omega)).mono ?_;rintro e wM ⟨v',rfl,hr,hb⟩;obtain⟨A',n',c',rfl⟩:=hr.form;obtain⟨K,C⟩:=Cur.step C Kz hb;have BW:=zJ (w:=w) Wz hb;have l0:=Blk.next l0 (λh=>Bz) hb;have c0:=l0.cell;have f0:=l0.frozen;have z0:=l0.lt)
  have H:=Lib.hid hr
  clear hr
  go_wp2_with fail
  exact bodyPost_ret (v:=.agg #[.slice A' n' c']) (by simp[results,Tryz.results110,go_sem,c0]) rfl ⟨_,rfl,(H.out.keep Kz).sub Own.sub,Wz⟩
 ·go_enter Tryz.func110,Tryz.ntmps110
  go_wp2_with fail
  refine(clone_some F a n c f _ (h.keep Kz) hn).mono ?_
  rintro e wM ⟨v0,rfl,hcl,hb⟩
  obtain⟨g,c0',rfl,hn1,hn2,hg,hg2,hsl,hor⟩:=cloned_slice hcl
  have HTy:=Lib.hid (owns_typ hor)
  clear hor
  have hsl:=hsl (Own F [w.heap.size]) (Lows.new (Lows.own hF (by first | (simp;done) | (simp;omega) | omega) (by first | (simp;done) | (simp;omega) | omega)) hg)
  (obtain⟨K,C⟩:=Cur.step C Kz hb;have BW:=zJ (w:=w) Wz hb;have l0:=Blk.next l0 (λh=>Bz) hb;have c0:=l0.cell;have f0:=l0.frozen;have z0:=l0.lt)
  have hsl:=Lib.hid hsl
  clear hcl
  go_wp2_with fail
  (refine(nTrim (Own F [w.heap.size]) (some ⟨g,0,none⟩) n c0' f wM hsl.out HTy.out hw (small_val f n hw hn) hn1 hn2).mono ?_;rintro e wM ⟨v',rfl,hr,hb⟩;obtain⟨A',n',c',rfl⟩:=hr.form;obtain⟨K,C⟩:=Cur.step C Kz hb;have BW:=zJ (w:=w) Wz hb;have l0:=Blk.next l0 (λh=>Bz) hb;have c0:=l0.cell;have f0:=l0.frozen;have z0:=l0.lt)
  have H:=Lib.hid hr
  clear hr
  go_wp2_with fail
  exact bodyPost_ret (v:=.agg #[.slice A' n' c']) (by simp[results,Tryz.results110,go_sem,c0]) rfl ⟨_,rfl,(H.out.keep Kz).sub Own.sub,Wz⟩
def cmpV (x y:Int):Int:=if x<y then-1 else if x=y then 0 else 1
set_option maxHeartbeats 400000 in
theorem cmpInt(x y:Int)(w:World):
  Calls Tryz.prog 108 #[.int .i64 x,.int .i64 y] w λe w'=>e=.returned (.int .i64 (cmpV x y))/\w=w':=by
 by_cases h1:x<y
 ·have e:Hid (cmpV x y=-1):=by show _=_;simp[cmpV,h1]
  have hx:(x !=x)=false:=by simp
  have hy:(y !=y)=false:=by simp
  go_enter Tryz.func108,Tryz.ntmps108
  go_wp2
  go_ret
  exact⟨jS e.out.symm,rfl⟩
 by_cases h2:y<x
 ·have e:Hid (cmpV x y=1):=by show _=_;unfold cmpV;rw[if_neg h1,if_neg zo]
  have h1':y<=x:=by omega
  clear h1
  go_enter Tryz.func108,Tryz.ntmps108
  go_wp2
  go_ret
  exact⟨jS e.out.symm,rfl⟩
 obtain rfl:x=y:=by omega
 have e:Hid (cmpV x x=0):=by show _=_;simp[cmpV]
 clear h1 h2
 go_enter Tryz.func108,Tryz.ntmps108
 go_wp2
 go_ret
 exact⟨jS e.out.symm,rfl⟩
set_option maxHeartbeats 400000 in
theorem cmpU64(x y:Int)(w:World):
  Calls Tryz.prog 109 #[.int .u64 x,.int .u64 y] w λe w'=>e=.returned (.int .i64 (cmpV x y))/\w=w':=by
 by_cases h1:x<y
 ·have e:Hid (cmpV x y=-1):=by show _=_;simp[cmpV,h1]
  go_enter Tryz.func109,Tryz.ntmps109
  go_wp2
  go_ret
  exact⟨jS e.out.symm,rfl⟩
 by_cases h2:y<x
 ·have e:Hid (cmpV x y=1):=by show _=_;unfold cmpV;rw[if_neg h1,if_neg zo]
  have h1':y<=x:=by omega
  clear h1
  go_enter Tryz.func109,Tryz.ntmps109
  go_wp2
  go_ret
  exact⟨jS e.out.symm,rfl⟩
 obtain rfl:x=y:=by omega
 have e:Hid (cmpV x x=0):=by show _=_;simp[cmpV]
 clear h1 h2
 go_enter Tryz.func109,Tryz.ntmps109
 go_wp2
 go_ret
 exact⟨jS e.out.symm,rfl⟩
theorem cmpV_eq(x:Int):cmpV x x=0:=by simp[cmpV]
theorem cmpV_ne(x y:Int)(h:x≠y):cmpV x y≠0:=by unfold cmpV;split<;>simp_all
theorem hi_step(x k:Nat):x/2^(64*k)=x/2^(64*(k+1))*18446744073709551616+wd x k:=by
 unfold wd
 rw[p64,Nat.mul_comm 18446744073709551616,←Nat.div_div_eq_div_mul]
 omega
theorem cmp_hi(x y k:Nat)(h:x/2^(64*(k+1))=y/2^(64*(k+1)))(hne:wd x k≠wd y k):cmpV x y=cmpV (wd x k:Nat) (wd y k:Nat):=by
 have hx:=hi_step x k
 have hy:=hi_step y k
 rw[h] at hx
 have key:∀a b:Nat,a/2^(64*k)<b/2^(64*k)->a<b:=λa b hab=>by
  rcases Nat.lt_or_ge a b with h | h
  ·exact h
  ·have h2:b/2^(64*k)<=a/2^(64*k):=Nat.div_le_div_right h
   omega
 unfold cmpV
 by_cases hlt:wd x k<wd y k
 ·have:=key x y zo
  rw[if_pos zo,if_pos zo]
 ·have:=key y x zo
  rw[if_neg zo,if_neg zo,if_neg zo,if_neg zo]
theorem cmp_nw(x y:Nat)(h:nw x≠nw y):cmpV x y=cmpV (nw x:Nat) (nw y:Nat):=by
 have key:∀a b:Nat,nw a<nw b->a<b:=λa b hab=>by
  rcases Nat.lt_or_ge a b with h | h
  ·exact h
  ·have:=kE a
   have h2:=(kD b (nw a)).2 zo
   omega
 unfold cmpV
 by_cases hlt:nw x<nw y
 ·have:=key x y hlt
  rw[if_pos zo,if_pos zo]
 ·have:=key y x zo
  rw[if_neg zo,if_neg zo,if_neg zo,if_neg zo]
set_option maxHeartbeats 1000000 in
theorem nCmp(F:Nat->Prop)(va vb:Value)(x y:Nat)(w:World)(ha:NatAt F w va x)(hb:NatAt F w vb y):
  Calls Tryz.prog 84 #[va,vb] w λe w'=>e=.returned (.int .i64 (cmpV x y))/\Below w.heap.size w w':=by
 obtain⟨A,c,rfl,_,_,hsx,hwx⟩:=ha
 obtain⟨B,d,rfl,_,_,hsy,hwy⟩:=hb
 unfold Small at hsx hsy
 by_cases hn:nw x=nw y
 ·have e0:cmpV (nw x:Nat) (nw y:Nat)=0:=by rw[hn];exact cmpV_eq _
  have HW:=Lib.hid hwx
  have HY:Hid (WordsAt F w B y):=hwy
  rw[←hn] at e0 hsy⊢
  have HN:=Lib.hid hn
  clear hwx hwy hn
  go_enter Tryz.func84,Tryz.ntmps84
  go_wp2_with fail
  refine(cmpInt _ _ _).mono ?_
  rintro e w1 ⟨rfl,rfl⟩
  rw[e0]
  clear e0
  go_wp2_with fail
  go_loopw [6] (λi wr=>∃k m:Nat,i=.int .i64 ((k:Int)-1)/\k<=nw x/\Hid (x/2^(64*k)=y/2^(64*k))/\wr=(((w.alloc (.cells #[.slice A (nw x) c] 72)).alloc (.cells #[.slice B (nw x) d] 72)).drewN m)) (λi wr=>(intOf i+1).toNat)
  case atStart=>
   refine⟨nw x,0,rfl,Nat.le_refl _,?_,rfl⟩
   have h1:=kE x
   have h2:=kE y
   rw[←HN.out] at h2
   show _=_
   rw[Nat.div_eq_of_lt h1,Nat.div_eq_of_lt h2]
  case round=>
   obtain⟨k,m,rfl,hk,he,rfl⟩:=hrel
   by_cases h0:k=0
   ·subst h0
    have hz:x=y:=by have:=he.out;simpa using this
    have hfin:Hid (cmpV x y=0):=by show _=_;rw[hz];exact cmpV_eq _
    clear hz
    go_wp2_with fail
    go_ret
    exact⟨jS hfin.out.symm,Wz⟩
   ·obtain⟨g,o,rfl,_,hl,hc⟩:=HW.out (k-1) zo
    obtain⟨g',o',rfl,_,hl',hc'⟩:=HY.out (k-1) (by rw[←HN.out];omega)
    have ek:((k:Int)-1)=((k-1:Nat):Int):=by omega
    have hk1:((k-1:Nat):Int)<nw x:=by omega
    have hk0:0<=((k-1:Nat):Int):=by omega
    rw[ek]
    by_cases hq:wd x (k-1)=wd y (k-1)
    ·have e1:cmpV (wd x (k-1):Nat) (wd y (k-1):Nat)=0:=by rw[hq];exact cmpV_eq _
     have HQ:=Lib.hid hq
     clear hq
     go_wp2_with fail
     go_quiet ((go_at_call 109;exact quiet_add_left (cmpU64 _ _ _)))
     go_wp2_with fail
     go_roundw
     case rel=>
      refine⟨k-1,_,rfl,by omega,?_,rfl⟩
      have h1:=hi_step x (k-1)
      have h2:=hi_step y (k-1)
      rw[show k-1+1=k by omega] at h1 h2
      show _=_
      rw[h1,h2,he.out,HQ.out]
     case measure=>simp[intOf]
    ·have e1:=cmpV_ne (wd x (k-1):Nat) (wd y (k-1):Nat) zo
     have e2:(cmpV (wd x (k-1):Nat) (wd y (k-1):Nat)!=0)=true:=by simpa using e1
     have hfin:Hid (cmpV x y=cmpV (wd x (k-1):Nat) (wd y (k-1):Nat)):=cmp_hi x y (k-1) (by rw[show k-1+1=k by omega];exact he.out) hq
     clear e1
     go_wp2_with fail
     go_quiet ((go_at_call 109;exact quiet_add_left (cmpU64 _ _ _)))
     go_wp2_with fail
     go_ret
     exact⟨jS hfin.out.symm,Wz⟩
 ·have e1:=cmpV_ne (nw x:Nat) (nw y:Nat) zo
  have e2:(cmpV (nw x:Nat) (nw y:Nat)!=0)=true:=by simpa using e1
  have hfin:Hid (cmpV x y=cmpV (nw x:Nat) (nw y:Nat)):=cmp_nw x y hn
  clear e1 hn hwx hwy
  go_enter Tryz.func84,Tryz.ntmps84
  go_wp2_with fail
  refine(cmpInt _ _ _).mono ?_
  rintro e w1 ⟨rfl,rfl⟩
  go_wp2_with fail
  go_ret
  exact⟨jS hfin.out.symm,Wz⟩
def wa (f:Nat->Nat) (n:Nat):Array Value:=(words f n).toArray
def upd (f:Nat->Nat) (k v:Nat) (i:Nat):Nat:=if i=k then v else f i
theorem kZ(f:Nat->Nat)(n i:Nat)(h:i<n):(wa f n)[i]?=some (.int .u64 (f i:Nat)):=by
 unfold wa;simp[words,h]
theorem wa_upd(f:Nat->Nat)(n k v:Nat):(wa f n).setIfInBounds k (.int .u64 (v:Nat))=wa (upd f k v) n:=by
 apply Array.ext_getElem?
 intro i
 rw[Array.getElem?_setIfInBounds]
 by_cases hi:i<n
 ·rw[kZ _ _ _ hi,kZ _ _ _ hi]
  unfold upd
  by_cases h:k=i
  ·subst h;rw[if_pos rfl,if_pos rfl];simp[wa,words,hi]
  ·rw[if_neg h,if_neg (λe=>h e.symm)]
 ·have e:∀g,(wa g n)[i]?=none:=λg=>by unfold wa;simp[words];omega
  rw[e,e]
  split
  ·split
   ·rename_i h1 h2
    subst h1
    exfalso;unfold wa at h2;simp[words] at h2;omega
   ·rfl
  ·rfl
theorem jB(f:Nat->Nat)(n k v:Nat)(h:Wf f n)(hv:v<18446744073709551616):Wf (upd f k v) n:=λi hi=>by
 unfold upd;split
 ·exact hv
 ·exact h i hi
theorem val_upd(f:Nat->Nat)(k v:Nat):val (upd f k v) k=val f k:=val_congr _ _ _ λi hi=>by unfold upd;rw[if_neg zo]
theorem uK(f:Nat->Nat)(k v:Nat):val (upd f k v) (k+1)=val f k+v*2^(64*k):=by rw[val,val_upd];unfold upd;rw[if_pos rfl]
theorem made_wa(n:Nat):madeCells (Value.int .u64 0).cells (n*1)=wa (λ_=>0) n:=by
 have:=toList_madeCells_one (.int .u64 0) n
 rw[Nat.mul_one]
 apply Array.toList_inj.1
 refine this.trans ?_
 unfold wa words
 apply List.ext_getElem?;intro i
 by_cases hi:i<n<;>simp[hi]
theorem mk64(n:Nat)(hn:n<=35184372088832)(w:World):
  (Instr.makeSlice 70 (.int .i64 (n:Int)) (.int .i64 (n:Int))).run Tryz.prog w=.ok (.slice (some ⟨w.heap.size,0,none⟩) n n) (w.alloc (.cells (wa (λ_=>0) n) 177)):=by
 obtain⟨i0,hi0,hz0,hz1,hz2⟩:=xQ jE
 have:=run_make (P:=Tryz.prog) w 70 177 i0 (.int .u64 0) Tryz.underlying70 hi0 hz0 .i64 .i64 n n zo (Int.le_refl _) (by rw[hz2];omega) zo
 rw[Int.toNat_natCast,hz1,made_wa] at this
 exact this
open Go.RowKit
def Ext (B:Nat) (w w':World):Prop:=w.heap.size<=w'.heap.size/\(∀k,U64 w k->w'.heap[k]?=w.heap[k]?)/\∀k,k<B->w'.heap[k]?=w.heap[k]?
theorem U64.ext{B:Nat}{w w':World}{k:Nat}(h:U64 w k)(e:Ext B w w'):U64 w' k:=by
 obtain⟨cs,m,hh⟩:=id h
 exact⟨cs,m,(e.2.1 k h).trans hh⟩
theorem Grow.ext{a b:World}(h:Grow a b):Ext 0 a b:=⟨h.size,λk hk=>h.block k hk.lt,λk hk=>by omega⟩
theorem NatAt.ext{B:Nat}{w w':World}{v:Value}{x:Nat}(h:NatAt (λ_=>False) w v x)(e:Ext B w w'):NatAt (λ_=>False) w' v x:=by
 obtain⟨A,c,rfl,h1,h2,hs,h3⟩:=h
 refine⟨A,c,rfl,h1,h2,hs,λi hi=>?_⟩
 obtain⟨g,o,e',⟨hf,hu⟩,hl,hc⟩:=h3 i hi
 exact⟨g,o,e',⟨hf,hu.ext e⟩,Nat.lt_of_lt_of_le hl e.1,(World.cell?_of_block (w:=w) (e.2.1 g hu)).trans hc⟩
theorem IntAt.ext{B:Nat}{w w':World}{v:Value}{z:Int}(h:IntAt (λ_=>False) w v z)(e:Ext B w w'):IntAt (λ_=>False) w' v z:=by
 obtain⟨s,rfl,h1⟩:=h
 exact⟨s,rfl,h1.ext e⟩
theorem RatAt.ext{B:Nat}{w w':World}{v:Value}{q:Rat}(h:RatAt (λ_=>False) w v q)(e:Ext B w w'):RatAt (λ_=>False) w' v q:=by
 obtain⟨s,t,rfl,h1,h2⟩:=h
 exact⟨s,t,rfl,h1.ext e,h2.ext e⟩
def MR.nat (x:Nat):MR:=⟨λw v=>NatAt (λ_=>False) w v x,λh k=>NatAt.ext k h.ext⟩
def MR.int (z:Int):MR:=⟨λw v=>IntAt (λ_=>False) w v z,λh k=>IntAt.ext k h.ext⟩
def MR.rat (q:Rat):MR:=⟨λw v=>RatAt (λ_=>False) w v q,λh k=>RatAt.ext k h.ext⟩
def MR.eq (c:Value):MR:=⟨λ_ v=>v=c,λ_ k=>k⟩
def MR.tup2 (A B:MR):MR:=⟨λw v=>∃x y,v=.tuple #[x,y]/\A.R w x/\B.R w y,λh ⟨x,y,e,a,b⟩=>⟨x,y,e,A.mono h a,B.mono h b⟩⟩
def MR.tup3 (A B C:MR):MR:=⟨λw v=>∃x y z,v=.tuple #[x,y,z]/\A.R w x/\B.R w y/\C.R w z,λh ⟨x,y,z,e,a,b,c⟩=>⟨x,y,z,e,A.mono h a,B.mono h b,C.mono h c⟩⟩
def St (B:Nat) (R:MR):Prop:=∀{w w' v},Ext B w w'->R.R w v->R.R w' v
theorem St.nat{B:Nat}(x:Nat):St B (.nat x):=λh k=>NatAt.ext k h
theorem St.int{B:Nat}(x:Int):St B (.int x):=λh k=>IntAt.ext k h
theorem St.rat{B:Nat}(x:Rat):St B (.rat x):=λh k=>RatAt.ext k h
theorem St.eq{B:Nat}(c:Value):St B (.eq c):=λ_ k=>k
def Box (w:World) (b:Nat) (T:TypeId) (R:MR):Prop:=∃v,Blk w b T v.cells/\R.R w v
theorem Box.lt{w:World}{b:Nat}{T:TypeId}{R:MR}(h:Box w b T R):b<w.heap.size:=by
 obtain⟨v,h,_⟩:=h
 exact h.lt
theorem Box.grow{w w':World}{b:Nat}{T:TypeId}{R:MR}(h:Box w b T R)(g:Grow w w'):Box w' b T R:=by
 obtain⟨v,h,k⟩:=h
 exact⟨v,h.below g,R.mono g k⟩
structure Put (w w':World) (b:Nat):Prop where
 size:w'.heap.size=w.heap.size
 other:∀k,k≠b->w'.heap[k]?=w.heap[k]?
 os:w'.os=w.os
 tape:w'.tape=w.tape
 output:w'.output=w.output
theorem Put.ext{B:Nat}{w w':World}{b:Nat}(h:Put w w' b){T:TypeId}{cs:Array Value}(hb:Blk w b T cs)(hT:T≠177)(hB:B<=b):Ext B w w':=⟨by rw[h.size];exact Nat.le_refl _,λk hk=>h.other k λe=>by
 obtain⟨cs',m,hk⟩:=hk
 subst e
 unfold Blk at hb
 rw[hb] at hk
 simp only[Option.some.injEq,Obj.cells.injEq] at hk
 exact hT hk.2.1,λk hk=>h.other k zo⟩
theorem Grow.put{w a b:World}{k:Nat}(h:Grow w a)(p:Put a b k)(hk:w.heap.size<=k):Grow w b:=
 Below.trans h ⟨p.os,p.tape,p.output,by rw[p.size];exact Nat.le_refl _,λi hi=>p.other i zo⟩
theorem Box.put{B:Nat}{w w':World}{b c:Nat}{T:TypeId}{R:MR}(h:Box w b T R)(hs:St B R)(p:Put w w' c)(e:Ext B w w')(hne:b≠c):Box w' b T R:=by
 obtain⟨v,h,k⟩:=h
 exact⟨v,(p.other b hne).trans h,hs e k⟩
theorem MR.put{B:Nat}{w w':World}{R:MR}{v:Value}(h:R.R w v)(hs:St B R)(e:Ext B w w'):R.R w' v:=hs e h
structure Agg (P:Program) (T:TypeId) (n:Nat):Prop where
 agg:∃d,P.underlying T=some d/\d.isRow=true
 size:(P.info? T).map (·.size)=some n
def Shape (R:MR) (n:Nat):Prop:=∀{w v},R.R w v->∃cs:Array Value,v=.agg cs/\cs.size=n/\cs.all (·.oneCell')=true
section
variable {P:Program} {w:World} {R R':MR} {T T':TypeId} {b n m off:Nat}
theorem range_extract{cs:Array Value}(h:Blk w b T cs)(_hle:off+n<=cs.size):w.rangeAt b off (cs.extract off (off+n)).toList:=by
 intro j v hj
 rw[h.cell]
 have hlt:=(List.getElem?_eq_some_iff.1 hj).1
 simp only[Array.length_toList,Array.size_extract] at hlt
 rw[Array.getElem?_toList] at hj
 rw[Array.getElem?_extract,if_pos zo] at hj
 exact hj
def Part (R:MR) (off n:Nat) (R':MR):Prop:=∀{w v},R.R w v->∃cs:Array Value,v=.agg cs/\off+n<=cs.size/\R'.R w (.agg (cs.extract off (off+n)))
theorem load_part(hT:Agg P T n)(hB:Box w b T' R)(hp:Part R off n R'):∃v,(Instr.loadAt T (.pointer (some ⟨b,off,none⟩))).run P w=.ok v w/\R'.R w v:=by
 obtain⟨v,hB,hR⟩:=hB
 obtain⟨cs,rfl,hle,hR'⟩:=hp hR
 obtain⟨⟨d,hu,hd⟩,hi⟩:=hT
 refine⟨_,run_loadAt_mid w b off T (cs.extract off (off+n)).toList d (range_extract hB hle) hu hd ?_,by rw[Array.toArray_toList];exact hR'⟩
 rw[hi,Array.length_toList,Array.size_extract]
 congr 1
 omega
theorem Shape.part(h:Shape R n):Part R 0 n R:=λ{w v} hR=>by
 obtain⟨cs,rfl,rfl,_⟩:=h hR
 refine⟨cs,rfl,by omega,?_⟩
 simpa using hR
theorem load_box(hT:Agg P T n)(hB:Box w b T' R)(hs:Shape R n):∃v,(Instr.loadAt T (.pointer (some ⟨b,0,none⟩))).run P w=.ok v w/\R.R w v:=load_part hT hB hs.part
theorem store_box{v:Value}(hT:(P.info? T).map (·.size)=some n)(hB:Box w b T' R)(hs:Shape R n)(hR:R'.R w v){B:Nat}(hs':Shape R' n)(hst:St B R')(hu:T'≠177)(hBb:B<=b):
  ∃w',(Instr.storeAt T (.pointer (some ⟨b,0,none⟩)) v).run P w=.ok () w'/\Put w w' b/\Ext B w w'/\Box w' b T' R':=by
 obtain⟨u,hB,hRu⟩:=hB
 obtain⟨old,rfl,hold,_⟩:=hs hRu
 obtain⟨cs,rfl,hcs,h1⟩:=hs' hR
 have hrun:=run_storeVar_row (P:=P) w b T' T old cs hB (by rw[hT,hcs]) (by rw[hold,hcs]) h1
 have hput:Put w (w.setRow b cs) b:=⟨by simp[World.setRow],λk hk=>by
   simp only[World.setRow,Array.getElem?_modify]
   rw[if_neg (Ne.symm hk)],rfl,rfl,rfl⟩
 have hext:=hput.ext hB hu hBb
 refine⟨w.setRow b cs,by simp only[Instr.storeAt,Instr.sureAddr,Sem.run_bind,Sem.run_pure,Result.andThen_ok,hrun],hput,hext,.agg cs,?_,hst hext hR⟩
 unfold Blk at hB⊢
 simp[World.setRow,Array.getElem?_modify,hB,Value.cells]
end
open Go.RowKit
section
variable {P:Program} {ops:Array Oper} {Q:Exit->Act->World->Prop} {ρ:Operand->Value} {w:World} {o:Oper} {Φ:Value->World->Prop} {R R':MR} {T T':TypeId} {b n m off:Nat} {x y:Operand}
theorem yQ{v:Value}(h:(execOp ρ o).run P w=.ok (.value v) w)(k:Φ v w):Yld P o ρ w Φ:=by
 unfold Yld;rw[h];exact k
theorem zG(h:o.op=.move x)(k:Φ (ρ x) w):Yld P o ρ w Φ:=yQ (by unfold execOp;rw[h];rfl) k
theorem zU(h:o.op=.assign x)(k:Φ (ρ x) w):Yld P o ρ w Φ:=yQ (by unfold execOp;rw[h];rfl) k
theorem pure_move(h:o.op=.move x)(w:World):(execOp ρ o).run P w=.ok (.value (ρ x)) w:=by unfold execOp;rw[h];rfl
theorem xA{vs:Array Value}{i:Nat}{v:Value}(h:o.op=.extract x i)(hx:ρ x=.tuple vs)(hv:vs[i]?=some v)(w:World):(execOp ρ o).run P w=.ok (.value v) w:=by
 unfold execOp;rw[h];simp only[hx,Instr.extract,hv];rfl
theorem xU{vs:Array Value}{i:Nat}{v:Value}(h:o.op=.extract x i)(hx:ρ x=.tuple vs)(hv:vs[i]?=some v)(k:Φ v w):Yld P o ρ w Φ:=yQ (xA h hx hv w) k
theorem run_cmp{op:BinOp}{t t':TypeId}{k:IntKind}{p q:Int}(h:o.op=.binOp op t x y t')(hx:ρ x=.int k p)(hy:ρ y=.int k q)(hop:op≠.shl/\op≠.shr/\op≠.add/\op≠.sub/\op≠.mul/\op≠.quo/\op≠.rem/\op≠.and/\op≠.or/\op≠.xor/\op≠.andNot):
  (execOp ρ o).run P w=((Op.intCmp op p q).run P w).andThen λv w=>.ok (.value v) w:=by
 unfold execOp
 rw[h]
 simp only[hx,hy]
 cases op<;>simp_all [eqGuard,binOp]
theorem yld_eql{t t':TypeId}{k:IntKind}{p q:Int}(h:o.op=.binOp .eql t x y t')(hx:ρ x=.int k p)(hy:ρ y=.int k q)(K:Φ (.bool (p==q)) w):Yld P o ρ w Φ:=
 yQ (v:=.bool (p==q)) (by rw[run_cmp h hx hy (by decide)];rfl) K
theorem yld_lss{t t':TypeId}{k:IntKind}{p q:Int}(h:o.op=.binOp .lss t x y t')(hx:ρ x=.int k p)(hy:ρ y=.int k q)(K:Φ (.bool (decide (p<q))) w):Yld P o ρ w Φ:=
 yQ (v:=.bool (decide (p<q))) (by rw[run_cmp h hx hy (by decide)];rfl) K
theorem yld_leq{t t':TypeId}{k:IntKind}{p q:Int}(h:o.op=.binOp .leq t x y t')(hx:ρ x=.int k p)(hy:ρ y=.int k q)(K:Φ (.bool (decide (p<=q))) w):Yld P o ρ w Φ:=
 yQ (v:=.bool (decide (p<=q))) (by rw[run_cmp h hx hy (by decide)];rfl) K
theorem yld_geq{t t':TypeId}{k:IntKind}{p q:Int}(h:o.op=.binOp .geq t x y t')(hx:ρ x=.int k p)(hy:ρ y=.int k q)(K:Φ (.bool (decide (p>=q))) w):Yld P o ρ w Φ:=
 yQ (v:=.bool (decide (p>=q))) (by rw[run_cmp h hx hy (by decide)];rfl) K
theorem guard_bool(op:BinOp)(t:TypeId)(x y:Operand)(p q:Bool):eqGuard op t x y (.bool p) (.bool q)=pure ():=by
 unfold eqGuard;split<;>rfl
theorem equal_bool{t:TypeId}{p q:Bool}(ht:P.underlying t=some .bool):(Op.equal t (.bool p) (.bool q)).run P w=.ok (p==q) w:=by
 have key:∀d,(Op.equalIn (d+1) t (.bool p) (.bool q)).run P w=.ok (p==q) w:=λd=>by
  rw[Op.equalIn]
  simp only[Sem.run_bind,run_underlying ht w,Result.andThen_ok,Sem.run_pure]
 exact key 9999
theorem run_arith{op:BinOp}{t t':TypeId}{k:IntKind}{p q:Int}(h:o.op=.binOp op t x y t')(hx:ρ x=.int k p)(hy:ρ y=.int k q)(hop:op=.add∨op=.sub∨op=.mul):
  (execOp ρ o).run P w=((Op.intArith op k p q).run P w).andThen λv w=>.ok (.value v) w:=by
 unfold execOp
 rw[h]
 simp only[hx,hy]
 rcases hop with rfl | rfl | rfl<;>simp[eqGuard,binOp]
theorem kV{t t':TypeId}{k:IntKind}{p q:Int}(h:o.op=.binOp .add t x y t')(hx:ρ x=.int k p)(hy:ρ y=.int k q){r:Int}(hr:k.wrap (p+q)=r)(K:Φ (.int k r) w):Yld P o ρ w Φ:=
 yQ (v:=.int k r) (by rw[run_arith h hx hy (by simp),←hr];rfl) K
theorem jR{t t':TypeId}{k:IntKind}{p q:Int}(h:o.op=.binOp .sub t x y t')(hx:ρ x=.int k p)(hy:ρ y=.int k q){r:Int}(hr:k.wrap (p-q)=r)(K:Φ (.int k r) w):Yld P o ρ w Φ:=
 yQ (v:=.int k r) (by rw[run_arith h hx hy (by simp),←hr];rfl) K
def FieldAt (P:Program) (T:TypeId) (f off:Nat):Prop:=∀b k w,(Instr.fieldAt T (.pointer (some ⟨b,k,none⟩)) f).run P w=.ok (.pointer (some ⟨b,k+off,none⟩)) w
theorem fieldAt_of{fs:Array Field}{f:Nat}{fd:Field}(hu:P.underlying T=some (.struct fs))(hf:fs[f]?=some fd)(ho:fd.offset=off)(hs0:(((P.info? fd.type).map (·.size)).getD 0==0)=false):FieldAt P T f off:=by
 subst ho
 have hs:((P.info? fd.type).map (·.size)).getD 0≠0:=by simpa using hs0
 intro b k w
 cases hi:P.info? fd.type with
 | none=>rw[hi] at hs;exact absurd rfl hs
 | some i=>
  rw[hi] at hs
  have hs':i.size≠0:=hs
  simp only[Instr.fieldAt,Sem.run_bind,run_underlying hu w,Result.andThen_ok,hf,Instr.sureAddr,Sem.run_pure,fieldPlace,sizeOf,typeInfo,run_program,hi,hs',if_false]
  unfold Addr.add
  split<;>simp_all
theorem yld_load{v:Value}(h:o.op=.load T x)(hv:(Instr.loadAt T (ρ x)).run P w=.ok v w)(K:Φ v w):Yld P o ρ w Φ:=
 yQ (by unfold execOp;rw[h];simp only[Sem.run_bind,hv];rfl) K
theorem zS(h:o.op=.load T x)(hx:ρ x=.pointer (some ⟨b,0,none⟩))(hT:Agg P T n)(hB:Box w b T' R)(hs:Shape R n):Yld P o ρ w (λv w'=>Grow w w'/\R.R w' v):=by
 obtain⟨v,hv,hR⟩:=load_box hT hB hs
 exact yld_load h (by rw[hx];exact hv) ⟨Grow.refl _,hR⟩
def yJ (P:Program) (f:FuncId):Prop:=∃fn,P.funcs[f]?=some fn/\fn.name≠ "runtime.NumGoroutine" /\fn.body≠none
theorem zV{f:FuncId}{xs:List Operand}{ts:Array TypeId}(h:o.op=.call {callee:=.value (.func f),args:=xs.toArray,argTypes:=ts})(hf:yJ P f)(hρ:ρ (.func f)=.func (.func f) #[] #[])
  (K:Calls P f (xs.map ρ).toArray w λe w'=>∃v,e=.returned v/\Φ v w'):Yld P o ρ w Φ:=by
 obtain⟨fn,hfn,hn,hb⟩:=hf
 have hrun:(execOp ρ o).run P w=.ok (.enter f (xs.map ρ).toArray) w:=by
  unfold execOp
  rw[h]
  simp[resolve,hρ,Deferred.ofValue,invoke,callFunc,Sem.run_bind,hfn,hn,hb]
 unfold Yld
 rw[hrun]
 exact K
theorem yld_alloc{z:Value}(h:o.op=.alloc T)(hz:(P.info? T).map (·.zero)=some (some z))(K:Φ (.pointer (some ⟨w.heap.size,0,none⟩)) (w.alloc (.cells z.cells T))):Yld P o ρ w Φ:=by
 cases hi:P.info? T with
 | none=>rw[hi] at hz;cases hz
 | some i=>
  rw[hi] at hz
  have hz':i.zero=some z:=Option.some.inj hz
  unfold Yld execOp
  rw[h]
  simp[Instr.alloc,zeroValue,typeInfo,hi,hz',newVar,newRow,Sem.run_bind]
  exact K
theorem yld_box{v:Value}(h:o.op=.box T x)(hx:ρ x=v)(K:Φ (.pointer (some ⟨w.heap.size,0,none⟩)) (w.alloc (.cells v.cells T))):Yld P o ρ w Φ:=by
 unfold Yld execOp
 rw[h]
 simp[Instr.box,newVar,newRow,hx]
 exact K
def MR.ptr (T:TypeId) (R:MR):MR:=⟨λw v=>∃b,v=.pointer (some ⟨b,0,none⟩)/\Box w b T R,λh ⟨b,e,k⟩=>⟨b,e,k.grow h⟩⟩
theorem fresh_box{v:Value}(hR:R.R w v):Grow w (w.alloc (.cells v.cells T))/\(MR.ptr T R).R (w.alloc (.cells v.cells T)) (.pointer (some ⟨w.heap.size,0,none⟩))/\uD w (w.alloc (.cells v.cells T)) (.pointer (some ⟨w.heap.size,0,none⟩)):=
 ⟨(Grow.refl w).alloc _,⟨_,rfl,v,Blk.new w T v.cells,R.mono ((Grow.refl w).alloc _) hR⟩,by show w.heap.size<=w.heap.size/\w.heap.size<_;simp⟩
theorem yld_newBox{v:Value}(h:o.op=.box T x)(hx:ρ x=v)(hR:R.R w v):Yld P o ρ w (λv w'=>Grow w w'/\(MR.ptr T R).R w' v/\uD w w' v):=yld_box h hx (fresh_box hR)
theorem kI{z:Value}(h:o.op=.alloc T)(hz:(P.info? T).map (·.zero)=some (some z))(hR:∀w,R.R w z):Yld P o ρ w (λv w'=>Grow w w'/\(MR.ptr T R).R w' v/\uD w w' v):=yld_alloc h hz (fresh_box (hR w))
theorem yld_build{ps:List (Nat×Operand)}{l:List (Nat×Value)}{cs:Array Value}(h:o.op=.build T ps.toArray)(hl:ps.map (λp=>(p.1,ρ p.2))=l)(hb:P.built T l=some cs)(K:Φ (.agg cs) w):Yld P o ρ w Φ:=
 yQ (v:=.agg cs) (by
  unfold execOp;rw[h]
  have:=run_build (P:=P) w T (ps.toArray.map λ(i,x)=>(i,ρ x)) cs (by rw[←hb,←hl];congr 1;simp)
  simp only[Sem.run_bind,this];rfl) K
theorem yld_as{R R2:MR}(h:Yld P o ρ w (λv w'=>Grow w w'/\R.R w' v))(e:∀{w v},R.R w v->R2.R w v):Yld P o ρ w (λv w'=>Grow w w'/\R2.R w' v):=h.mono λ_ _ k=>⟨k.1,e k.2⟩
theorem yld_store{w':World}(h:o.op=.store T x y)(hs:(Instr.storeAt T (ρ x) (ρ y)).run P w=.ok () w')(K:Φ undef w'):Yld P o ρ w Φ:=by
 unfold Yld execOp
 rw[h]
 simp[hs]
 exact K
theorem yS(h:o.op=.store T x y)(hx:ρ x=.pointer (some ⟨b,0,none⟩))(hT:(P.info? T).map (·.size)=some n)(hB:Box w b T' R)(hs:Shape R n)(hR:R'.R w (ρ y))(hs':Shape R' n){B:Nat}(hst:St B R')(hu:T'≠177)(hBb:B<=b)
  (K:∀w',Put w w' b->Ext B w w'->Box w' b T' R'->Φ undef w'):Yld P o ρ w Φ:=by
 obtain⟨w',h1,h2,h3,h4⟩:=store_box hT hB hs hR hs' hst hu hBb
 exact yld_store h (by rw[hx];exact h1) (K w' h2 h3 h4)
theorem zN{S:World->Prop}{rest:List Oper}{a:Act}(hg:o.guard=none)(h:Yld P o a.eval w (λv w'=>(rest≠[]->S w')/\zO P ops Q S rest (a.put o.dst v) w')):zO P ops Q S (o::rest) a w:=by
 unfold zO
 rw[if_pos (by simp[Region.wanted,hg])]
 exact .inl (Yld.wp h λ_ _ hv=>hv)
theorem yG{S:World->Prop}{a:Act}(h:Q .normal a w):zO P ops Q S [] a w:=h
theorem Kept.put{kb:List Nat}{w a b:World}{c:Nat}(h:Kept kb w a)(p:Put a b c)(hn:∀k∈kb,k≠c):Kept kb w b:=λk hk=>(p.other k (hn k hk)).trans (h k hk)
theorem lazy_move{kb:List Nat}{v:Value}(h:o.op=.move x)(hx:ρ x=v)(hR:R.R w v):∃v,(∀w2,Kept kb w w2->(execOp ρ o).run P w2=.ok (.value v) w2)/\R.R w v:=⟨v,λw2 _=>hx▸pure_move h w2,hR⟩
theorem lazy_loadBox{kb:List Nat}(h:o.op=.load T x)(hx:ρ x=.pointer (some ⟨b,0,none⟩))(hT:Agg P T n)(hB:Box w b T' R)(hs:Shape R n)(hb:b∈kb):
  ∃v,(∀w2,Kept kb w w2->(execOp ρ o).run P w2=.ok (.value v) w2)/\R.R w v:=by
 obtain⟨v,hB,hR⟩:=hB
 obtain⟨cs,rfl,hcs,_⟩:=hs hR
 obtain⟨⟨d,hu,hd⟩,hi⟩:=hT
 refine⟨_,λw2 hw2=>?_,hR⟩
 have hB2:Blk w2 b T' cs:=(hw2 b hb).trans hB
 have:=run_loadAt_mid (P:=P) w2 b 0 T cs.toList d (λj v hj=>by rw[Array.getElem?_toList] at hj;rw[hB2.cell,Nat.zero_add];exact hj) hu hd (by rw[hi,Array.length_toList,hcs])
 rw[Array.toArray_toList] at this
 unfold execOp
 rw[h]
 simp only[hx,Sem.run_bind,this]
 rfl
end
section
variable {P:Program} {ops:Array Oper} {Rs:Nat->MR} {n:Nat} {news lz kb:List Nat} {a0:Act} {w0:World} {i:Nat} {o:Oper} {nd:List Nat}
theorem conts_mono{K K':Act->Prop}{w:World}(hK:∀a,K a->K' a):∀(l:List Nat) (a:Act),Conts ops Rs l K a w->Conts ops Rs l K' a w
 | [],_,h=>hK _ h
 | _::l,_,h=>λv hv=>conts_mono hK l _ (h v hv)
theorem wanted_none{y:Nat->Option Bool}(hg:o.guard=none):Region.wanted o y=true:=by simp[Region.wanted,hg]
def guardV:Value->Option Bool
 | .bool b=>some b
 | _=>none
theorem yielded_of{g:Nat}{t:Tmp}{tmps:Array Value}{v:Value}(hd:yH ops g=some t)(ht:tmps[t]?=some v):yielded ops tmps g=guardV v:=by
 unfold yielded
 unfold yH at hd
 rw[hd]
 simp only[Option.bind_some,ht]
 cases v<;>rfl
def uJ (e:Tmp->Value):Operand->Value
 | .tmp t=>e t
 | .const v=>v
 | .global g=>.pointer (some ⟨g,0,none⟩)
 | .func f=>.func (.func f) #[] #[]
def upE (e:Tmp->Value) (d:Tmp) (v:Value):Tmp->Value:=λt=>bif Nat.beq t d then v else e t
def DL (L:List (Tmp×MR)) (j:Nat):Tmp:=(L.getD j (0,.any)).1
def RL (L:List (Tmp×MR)) (j:Nat):MR:=(L.getD j (0,.any)).2
def ContsE (L:List (Tmp×MR)):List Nat->((Tmp->Value)->Prop)->(Tmp->Value)->World->Prop
 | [],K,e,_=>K e
 | j::js,K,e,w=>∀v,(RL L j).R w v->ContsE L js K (upE e (DL L j) v) w
theorem ContsE.fin{L:List (Tmp×MR)}{K:(Tmp->Value)->Prop}{e:Tmp->Value}{w:World}(h:K e):ContsE L [] K e w:=h
def MR.opt (c:Bool) (A:MR):MR:=⟨λw v=>(c=true->A.R w v)/\(c=false->v=undef),λh k=>⟨λhc=>A.mono h (k.1 hc),k.2⟩⟩
def wantE (L:List (Tmp×MR)) (o:Oper) (e:Tmp->Value):Bool:=match o.guard with
 | none=>true
 | some (g,want)=>guardV (e (DL L g))==some want
def StepE (P:Program) (ops:Array Oper) (L:List (Tmp×MR)) (news lz kb:List Nat) (e0:Tmp->Value) (w0:World) (i:Nat):Prop:=
 match ops.toList[i]? with
 | none=>False
 | some o=>∀w,Grow w0 w->ContsE L (needs ops L.length i) (λe=>
   if lz.contains i then
    (if wantE L o e=true then∃v,(∀w2,Kept kb w w2->(execOp (uJ e) o).run P w2=.ok (.value v) w2)/\(RL L i).R w v else(RL L i).R w undef)
   else
    (if wantE L o e=true then Yld P o (uJ e) w (λv w'=>Grow w w'/\(RL L i).R w' v/\(news.contains i=true->uD w w' v)) else(RL L i).R w undef/\news.contains i=false)) e0 w
section
variable {L:List (Tmp×MR)} {e0:Tmp->Value}
theorem uC{K K':(Tmp->Value)->Prop}{w:World}(hK:∀e,K e->K' e):∀(l:List Nat) (e:Tmp->Value),ContsE L l K e w->ContsE L l K' e w
 | [],_,h=>hK _ h
 | _::l,_,h=>λv hv=>uC hK l _ (h v hv)
theorem StepE.of(ho:ops.toList[i]?=some o)(hnd:needs ops L.length i=nd)(hlz:lz.contains i=false)(hg:o.guard=none)(hn:news.contains i=false)
  (h:∀w,Grow w0 w->ContsE L nd (λe=>Yld P o (uJ e) w (λv w'=>Grow w w'/\(RL L i).R w' v)) e0 w):StepE P ops L news lz kb e0 w0 i:=by
 unfold StepE
 rw[ho]
 intro w hw
 rw[hnd]
 refine uC (λe hK=>?_) nd e0 (h w hw)
 rw[hlz]
 simp only[Bool.false_eq_true,if_false,wantE,hg,if_true]
 exact hK.mono λv w' ⟨h1,h2⟩=>⟨h1,h2,λe=>by rw[hn] at e;cases e⟩
theorem StepE.new(ho:ops.toList[i]?=some o)(hnd:needs ops L.length i=nd)(hlz:lz.contains i=false)(hg:o.guard=none)
  (h:∀w,Grow w0 w->ContsE L nd (λe=>Yld P o (uJ e) w (λv w'=>Grow w w'/\(RL L i).R w' v/\uD w w' v)) e0 w):StepE P ops L news lz kb e0 w0 i:=by
 unfold StepE
 rw[ho]
 intro w hw
 rw[hnd]
 refine uC (λe hK=>?_) nd e0 (h w hw)
 rw[hlz]
 simp only[Bool.false_eq_true,if_false,wantE,hg,if_true]
 exact hK.mono λv w' ⟨h1,h2,h3⟩=>⟨h1,h2,λ_=>h3⟩
theorem StepE.opt{g:Nat}{want c:Bool}{A:MR}(ho:ops.toList[i]?=some o)(hnd:needs ops L.length i=nd)(hlz:lz.contains i=false)(hg:o.guard=some (g,want))(hn:news.contains i=false)(hR:RL L i=.opt c A)
  (h:∀w,Grow w0 w->ContsE L nd (λe=>(guardV (e (DL L g))==some want)=c/\(c=true->Yld P o (uJ e) w (λv w'=>Grow w w'/\A.R w' v))) e0 w):StepE P ops L news lz kb e0 w0 i:=by
 unfold StepE
 rw[ho]
 intro w hw
 rw[hnd]
 refine uC (λe hK=>?_) nd e0 (h w hw)
 have hwt:wantE L o e=c:=by rw[←hK.1];simp[wantE,hg]
 rw[hlz]
 simp only[Bool.false_eq_true,if_false,hwt,hR]
 cases c with
 | true=>
  simp only[if_true]
  exact(hK.2 rfl).mono λv w' ⟨h1,h2⟩=>⟨h1,⟨λ_=>h2,λe=>(by cases e)⟩,λe=>(by rw[hn] at e;cases e)⟩
 | false=>
  simp only[Bool.false_eq_true,if_false]
  exact⟨⟨λe=>(by cases e),λ_=>rfl⟩,hn⟩
theorem StepE.lazy(ho:ops.toList[i]?=some o)(hnd:needs ops L.length i=nd)(hlz:lz.contains i=true)(hg:o.guard=none)
  (h:∀w,Grow w0 w->ContsE L nd (λe=>∃v,(∀w2,Kept kb w w2->(execOp (uJ e) o).run P w2=.ok (.value v) w2)/\(RL L i).R w v) e0 w):StepE P ops L news lz kb e0 w0 i:=by
 unfold StepE
 rw[ho]
 intro w hw
 rw[hnd]
 refine uC (λe hK=>?_) nd e0 (h w hw)
 rw[hlz]
 simp only[if_true,wantE,hg]
 exact hK
end
inductive Steps (P:Program) (ops:Array Oper) (L:List (Tmp×MR)) (news lz kb:List Nat) (e0:Tmp->Value) (w0:World):Nat->Nat->Prop
 | nil (k:Nat):Steps P ops L news lz kb e0 w0 k 0
 | cons {k m:Nat} (h:StepE P ops L news lz kb e0 w0 k) (t:Steps P ops L news lz kb e0 w0 (k+1) m):Steps P ops L news lz kb e0 w0 k (m+1)
theorem Steps.at{L:List (Tmp×MR)}{e0:Tmp->Value}:∀{m k:Nat},Steps P ops L news lz kb e0 w0 k m->∀i,k<=i->i<k+m->StepE P ops L news lz kb e0 w0 i
 | 0,_,_,i,h1,h2=>by omega
 | m+1,k,.cons h t,i,h1,h2=>by
  by_cases e:i=k
  ·subst e;exact h
  ·exact t.at i zo zo
def NoLook (Q:Exit->Act->World->Prop):Prop:=∀c d v a w,Q (.panic c) (Act.put a d v) w->Q (.panic c) a w
theorem noLook_body{P:Program}{fn:Func}{R:Ending->World->Prop}:NoLook (bodyPost P fn R):=λc d v a w h=>by
 cases d<;>exact h
def newsOK (n:Nat) (news lz:List Nat):Bool:=news.all (λi=>decide (i<n))&&decide news.Nodup&&lz.all (λi=>!news.contains i)
variable {Q:Exit->Act->World->Prop}
theorem wpList_rel{md:Region.Mode}{N:Nat}(hc:relOK md ops n N lz=true)(hN:a0.tmps.size=N)(hnw:∀i∈news,i<n)(hnd:news.Nodup)(hnz:∀i,lz.contains i=true->news.contains i=false)
  (hst:∀i,i<n->StepOK P ops Rs n news lz kb a0 w0 i)
  (htl:∀w,Grow w0 w->Conts ops Rs (List.range n) (λa=>Apart ops a w0 w news->wpList P ops Q (ops.toList.drop n) a w) a0 w):
  ∀(m k:Nat) (listed:Array Bool) (a:Act) (w:World),k+m=n->At md ops Rs n news a0 w0 listed a w->(∀i,i<k->listed.getD i false=true)->(∀i,k<=i->listed.getD i false=false)->wpList P ops Q (ops.toList.drop k) a w:=by
 obtain⟨hns,hok,htail,hlz,hsel⟩:=rel_spec hc
 have dlt:∀j∈List.range n,∃d,yH ops j=some d/\d<a0.tmps.size:=λj hj=>by
  obtain⟨_,d,_,_,e,hlt,_⟩:=xR (hok j (by simpa using hj))
  exact⟨d,e,by rw[hN];exact hlt⟩
 intro m
 induction m with
 | zero=>
  intro k listed a w hk h hall _
  obtain rfl:k=n:=by omega
  obtain⟨c,hK,hdef,hsz,hcs⟩:=conts_use Rs (b:=a) (List.range k) _ a0 (htl w h.grow) dlt h.size.symm (λj hj=>h.rel j (by simpa using hj) (hall j (by simpa using hj)))
  have hca:c=a:=act_ext (λt=>by
   rw[hcs t]
   by_cases hx:∃j∈List.range k,yH ops j=some t
   ·rw[if_pos hx]
   ·rw[if_neg hx]
    exact(h.same t λi hi e=>hx ⟨i,by simpa using hi,e⟩).symm) (by rw[hdef,h.defers])
  subst hca
  exact hK (apart_of h hall news (λi hi=>⟨by simpa using hi,hnw i hi⟩) hnd)
 | succ m ih=>
  intro k listed a w hk h hall hun
  have hkn:k<n:=by omega
  have hks:k<ops.size:=by omega
  obtain⟨o,d,ho,hd,_,_,_,hsl,_,hlt⟩:=xR (hok k hkn)
  have hs:=hst k hkn
  unfold StepOK at hs
  rw[ho] at hs
  obtain⟨c,hK,hcs⟩:=h.step hN hok hkn ho (λe he hb=>hall _ (hlt e he hb)) (hs w h.grow)
  have hdrop:ops.toList.drop k=o::ops.toList.drop (k+1):=by
   rw[List.drop_eq_getElem_cons (by simpa using hks)]
   congr 1
   have:=(Array.getElem?_eq_some_iff.1 ho).2
   simpa using this
  have hut:listed.getD k true=false:=by rw[xO (by rw[h.lsize];exact hks)];exact hun k (Nat.le_refl _)
  have hnext:∀v w',Grow w w'->(Rs k).R w' v->(news.contains k=true->uD w w' v)->wpList P ops Q (ops.toList.drop (k+1)) (a.put o.dst v) w':=λv w' hg hR hfr=>by
   rw[hd]
   refine ih (k+1) _ _ w' zo (h.put (λe he hb=>hall _ (hlt e he hb)) hN hok hkn ho hd hks hut hg hR hfr) (λj hj=>?_) (λj hj=>?_)
   ·by_cases e:j=k
    ·subst e;simp[show j<listed.size by rw[h.lsize];exact hks]
    ·rw[getD_set_ne false (Ne.symm e)];exact hall j zo
   ·rw[getD_set_ne false zo];exact hun j zo
  have hexec:execOp c.eval o=execOp a.eval o:=same_exec (ops:=ops) o hsl hcs
  have hwant:=same_wanted o hcs
  rw[hdrop]
  unfold wpList
  cases hz:lz.contains k with
  | true=>
   simp only[hz,if_true] at hK
   rw[hwant,hexec] at hK
   have hno:news.contains k=true->∀v w',uD w w' v:=λhb=>absurd hb (by rw[hnz k hz];exact Bool.false_ne_true)
   by_cases hw:Region.wanted o (yielded ops a.tmps)=true
   ·rw[if_pos hw] at hK
    obtain⟨v,hv,hR⟩:=hK
    rw[if_pos hw]
    refine .inl ?_
    unfold Oper.wp
    rw[hv w λ_ _=>rfl]
    exact hnext v w (Grow.refl _) hR (λhb=>hno hb _ _)
   ·rw[if_neg hw] at hK
    rw[if_neg hw]
    exact hnext undef w (Grow.refl _) hK (λhb=>hno hb _ _)
  | false=>
   simp only[hz] at hK
   rw[hwant] at hK
   by_cases hw:Region.wanted o (yielded ops a.tmps)=true
   ·simp only[hw,if_true,Bool.false_eq_true,if_false] at hK
    rw[if_pos hw]
    refine .inl ?_
    unfold Yld at hK
    rw[hexec] at hK
    exact Yld.wp (Φ:=λv w'=>Grow w w'/\(Rs k).R w' v/\(news.contains k=true->uD w w' v)) hK λv w' ⟨hg,hR,hfr⟩=>hnext v w' hg hR hfr
   ·simp only[hw,Bool.false_eq_true,if_false] at hK
    rw[if_neg hw]
    exact hnext undef w (Grow.refl _) hK.1 (λhb=>absurd hb (by rw[hK.2];exact Bool.false_ne_true))
theorem at_start{md:Region.Mode}{w1:World}(hg:Grow w0 w1):At md ops Rs n news a0 w0 (Array.replicate ops.size false) a0 w1 where
 grow:=hg
 defers:=rfl
 size:=rfl
 lsize:=by simp
 same:=λ_ _=>rfl
 rel:=λi _ h=>by simp[Array.getElem?_replicate] at h;split at h<;>cases h
 tail:=λi _=>by simp[Array.getElem?_replicate];split<;>rfl
 closed:=λi _ h=>by simp[Array.getElem?_replicate] at h;split at h<;>cases h
 fresh:=λi _ _ h=>by simp[Array.getElem?_replicate] at h;split at h<;>cases h
 apart:=λi j _ _ _ _ _ h=>by simp[Array.getElem?_replicate] at h;split at h<;>cases h
def dstOK (ops:Array Oper) (L:List (Tmp×MR)):Bool:=(List.range L.length).all λi=>yH ops i==some (DL L i)&&match ops[i]? with | some o=>(match o.guard with | some (g,_)=>decide (g<L.length) | none=>true) | none=>false
theorem dst_spec{L:List (Tmp×MR)}(h:dstOK ops L=true){i:Nat}(hi:i<L.length):yH ops i=some (DL L i)/\∀o g want,ops[i]?=some o->o.guard=some (g,want)->g<L.length:=by
 have:=List.all_eq_true.1 h i (by simpa using hi)
 simp only[Bool.and_eq_true,beq_iff_eq] at this
 refine⟨this.1,λo g want ho hg=>?_⟩
 have h2:=this.2
 rw[ho] at h2
 simp only[hg,decide_eq_true_eq] at h2
 exact h2
theorem evalE_act(a:Act):a.eval=uJ λt=>a.tmps.getD t undef:=funext λx=>by cases x<;>rfl
theorem upE_put(a:Act)(d:Tmp)(v:Value)(hd:d<a.tmps.size):(λt=>(a.put (some d) v).tmps.getD t undef)=upE (λt=>a.tmps.getD t undef) d v:=funext λt=>by
 simp only[upE,kF,put_get]
 by_cases e:d=t
 ·subst e;rw[if_pos rfl,if_pos hd,show Nat.beq d d=true from Nat.beq_refl d];rfl
 ·rw[if_neg e,show Nat.beq t d=false from by cases hb:Nat.beq t d with | false=>rfl | true=>exact absurd (Nat.eq_of_beq_eq_true hb).symm e];rfl
theorem conts_of_E{L:List (Tmp×MR)}{K:(Tmp->Value)->Prop}{w:World}:∀(l:List Nat) (a:Act),(∀j∈l,yH ops j=some (DL L j)/\DL L j<a.tmps.size)->ContsE L l K (λt=>a.tmps.getD t undef) w->Conts ops (RL L) l (λa=>K λt=>a.tmps.getD t undef) a w
 | [],_,_,h=>h
 | j::l,a,hd,h=>λv hv=>by
  obtain⟨e,hlt⟩:=hd j (by simp)
  rw[e]
  refine conts_of_E l _ (λj' hj'=>?_) (by rw[upE_put a _ v hlt];exact h v hv)
  obtain⟨e',hlt'⟩:=hd j' (by simp[hj'])
  exact⟨e',by rw[put_size];exact hlt'⟩
theorem wantE_act{L:List (Tmp×MR)}{a:Act}{o:Oper}(h:∀g want,o.guard=some (g,want)->yH ops g=some (DL L g)/\DL L g<a.tmps.size):Region.wanted o (yielded ops a.tmps)=wantE L o λt=>a.tmps.getD t undef:=by
 unfold Region.wanted wantE
 cases hg:o.guard with
 | none=>rfl
 | some gw=>
  obtain⟨g,want⟩:=gw
  obtain⟨e,hlt⟩:=h g want hg
  simp only
  rw[yielded_of e (Array.getElem?_eq_getElem hlt),kF,Array.getElem?_eq_getElem hlt]
  rfl
theorem step_of_E{L:List (Tmp×MR)}{N:Nat}(hs:a0.tmps.size=N)(hd:dstOK ops L=true)(hok:∀i,i<L.length->headOK .any ops L.length N i=true)(hi:i<L.length)
  (h:StepE P ops L news lz kb (λt=>a0.tmps.getD t undef) w0 i):StepOK P ops (RL L) L.length news lz kb a0 w0 i:=by
 have dl:∀j,j<L.length->yH ops j=some (DL L j)/\DL L j<N:=λj hj=>by
  obtain⟨_,d,_,_,e,hlt,_⟩:=xR (hok j hj)
  have e2:=(dst_spec hd hj).1
  rw[e2] at e
  exact⟨e2,Option.some.inj e▸hlt⟩
 unfold StepE at h
 unfold StepOK
 rw[Array.getElem?_toList] at h
 cases ho:ops[i]? with
 | none=>rw[ho] at h;exact h
 | some o=>
  rw[ho] at h
  intro w hw
  have key:∀(l:List Nat) (a:Act),a.tmps.size=N->(∀j∈l,j<L.length)->Conts ops (RL L) l (λa=>(λe=>if lz.contains i then
    (if wantE L o e=true then∃v,(∀w2,Kept kb w w2->(execOp (uJ e) o).run P w2=.ok (.value v) w2)/\(RL L i).R w v else(RL L i).R w undef)
   else
    (if wantE L o e=true then Yld P o (uJ e) w (λv w'=>Grow w w'/\(RL L i).R w' v/\(news.contains i=true->uD w w' v)) else(RL L i).R w undef/\news.contains i=false)) λt=>a.tmps.getD t undef) a w->Conts ops (RL L) l (λa=>if lz.contains i then
    (if Region.wanted o (yielded ops a.tmps)=true then∃v,(∀w2,Kept kb w w2->(execOp a.eval o).run P w2=.ok (.value v) w2)/\(RL L i).R w v else(RL L i).R w undef)
   else
    (if Region.wanted o (yielded ops a.tmps)=true then Yld P o a.eval w (λv w'=>Grow w w'/\(RL L i).R w' v/\(news.contains i=true->uD w w' v)) else(RL L i).R w undef/\news.contains i=false)) a w:=by
   intro l
   induction l with
   | nil=>
    intro a hsz _ hK
    show ite _ _ _
    rw[wantE_act (L:=L) (λg want hg=>by
     have:=dl g ((dst_spec hd hi).2 o g want ho hg)
     rw[hsz];exact this),evalE_act]
    exact hK
   | cons j l ih=>
    intro a hsz hl hK v hv
    exact ih _ (by rw[put_size];exact hsz) (λj' hj'=>hl j' (by simp[hj'])) (hK v hv)
  refine key _ a0 hs (λj hj=>needs_lt hj) (conts_of_E _ a0 (λj hj=>?_) (h w hw))
  have:=dl j (needs_lt hj)
  rw[hs];exact this
def ContsL:List (Tmp×MR)->(List Value->List Value->Prop)->List Value->List Value->World->Prop
 | [],K,vs,l,_=>K vs l
 | (d,R)::L,K,vs,l,w=>∀v,R.R w v->ContsL L K (vs++[v]) (l.set d v) w
def ApartL (w0 w:World) (vs:List Value):List Nat->Prop
 | []=>True
 | i::l=>(w0.heap.size<=blkN (vs.getD i undef)/\blkN (vs.getD i undef)<w.heap.size)/\(∀j∈l,blkN (vs.getD i undef)≠blkN (vs.getD j undef))/\ApartL w0 w vs l
theorem apartL_of{a:Act}{w0 w:World}{vs:List Value}:∀(l:List Nat),(∀i∈l,valOf ops a i=vs.getD i undef)->Apart ops a w0 w l->ApartL w0 w vs l
 | [],_,_=>trivial
 | i::l,hv,h=>by
  have hi:=hv i (by simp)
  refine⟨?_,λj hj=>?_,apartL_of l (λj hj=>hv j (by simp[hj])) h.2.2⟩
  ·rw[←hi];exact h.1
  ·rw[←hi,←hv j (by simp[hj])];exact h.2.1 j hj
theorem conts_of_L{L0:List (Tmp×MR)}{N:Nat}(hok:∀i,i<L0.length->headOK .any ops L0.length N i=true)(hd:dstOK ops L0=true){K:List Value->List Value->Prop}{w:World}:
    ∀ (L : List (Tmp × MR)) (k : Nat) (vs l : List Value), L0.drop k = L -> k <= L0.length -> vs.length = k -> l.length = N -> (∀ i, i < k -> valOf ops ⟨l.toArray, []⟩ i = vs.getD i undef) -> ContsL L K vs l w ->
      Conts ops (RL L0) (List.range' k L.length) (λa=>∃vs l,a=⟨l.toArray,[]⟩/\(∀i,i<L0.length->valOf ops a i=vs.getD i undef)/\K vs l) ⟨l.toArray,[]⟩ w
  | [],k,vs,l,hL,hk,hvs,hl,hv,h=>by
    have:L0.length<=k:=by simpa using hL
    obtain rfl:k=L0.length:=by omega
    exact⟨vs,l,rfl,hv,h⟩
  | (d,R)::L,k,vs,l,hL,hk,hvs,hl,hv,h=>by
    have hk':k<L0.length:=by
      rcases Nat.lt_or_ge k L0.length with h' | h'
      · exact h'
      · rw[List.drop_eq_nil_of_le h'] at hL;cases hL
    have hLk:L0[k]?=some (d,R):=by
      rw[List.drop_eq_getElem_cons hk'] at hL
      rw[List.getElem?_eq_getElem hk',(List.cons.inj hL).1]
    have hgd:L0.getD k (0,.any)=(d,R):=by simp[hLk]
    have hDL:DL L0 k=d:=by unfold DL;rw[hgd]
    have hRL:RL L0 k=R:=by unfold RL;rw[hgd]
    obtain⟨_,d',_,_,e,hlt,hne,_⟩:=xR (hok k hk')
    have e2:=(dst_spec hd hk').1
    rw[hDL] at e2
    rw[e2] at e
    obtain rfl:=Option.some.inj e
    intro v hv'
    rw[hRL] at hv'
    have hput:(⟨l.toArray,[]⟩:Act).put (yH ops k) v=⟨(l.set d v).toArray,[]⟩:=by rw[e2];simp[Act.put]
    rw[hput]
    refine conts_of_L hok hd L (k+1) (vs++[v]) (l.set d v) ?_ hk' (by simp[hvs]) (by simpa using hl) (λi hi=>?_) (h v hv')
    · rw[List.drop_eq_getElem_cons hk'] at hL
      exact(List.cons.inj hL).2
    · rw[←hput,e2]
      by_cases ei:i=k
      · subst ei
        rw[val_put_self v e2 (by simpa [hl] using hlt)]
        simp[hvs]
      · rw[val_put_other v (hne i zo ei),hv i zo]
        simp[List.getElem?_append,show i<vs.length by omega]
theorem wp_region_go{id:Nat}{draw:Bool}{l:List Value}(L:List (Tmp×MR))(news lz kb:List Nat)(N:Nat)(hm:P.follows .mixedOrders=true)(hc:relOK .any ops L.length N lz=true)(hw:newsOK L.length news lz=true)(hd:dstOK ops L=true)(hN:l.length=N)(hQ:NoLook Q)
  (hst:Steps P ops L news lz kb (λt=>l.getD t undef) w0 0 L.length)
  (htl:∀w,Grow w0 w->ContsL L (λvs l=>ApartL w0 w vs news->zO P ops Q (Kept kb w) (ops.toList.drop L.length) ⟨l.toArray,[]⟩ w) [] l w):(Code.region id ops draw).wp P Q ⟨l.toArray,[]⟩ w0:=by
 have hw0:=hw
 unfold newsOK at hw
 simp only[Bool.and_eq_true,decide_eq_true_eq,List.all_eq_true,Bool.not_eq_true'] at hw
 obtain⟨⟨h1,h2⟩,h3⟩:=hw
 have h3':∀i,lz.contains i=true->news.contains i=false:=λi hi=>h3 i (by simpa using hi)
 obtain⟨_,hok,_⟩:=rel_spec hc
 have hsz:(⟨l.toArray,[]⟩:Act).tmps.size=N:=by simpa using hN
 have hst':∀i,i<L.length->StepOK P ops (RL L) L.length news lz kb ⟨l.toArray,[]⟩ w0 i:=λi hi=>by
  refine step_of_E hsz hd hok hi ?_
  have:=hst.at i (Nat.zero_le _) zo
  have e:(λt=>(⟨l.toArray,[]⟩:Act).tmps.getD t undef)=λt=>l.getD t undef:=funext λt=>by simp
  rw[e]
  exact this
 have htl':∀w,Grow w0 w->Conts ops (RL L) (List.range L.length) (λa=>Apart ops a w0 w news->zO P ops Q (Kept kb w) (ops.toList.drop L.length) a w) ⟨l.toArray,[]⟩ w:=λw hg=>by
  have:=conts_of_L hok hd L 0 [] l (by simp) (Nat.zero_le _) rfl hN (λi hi=>by omega) (htl w hg)
  rw[←List.range_eq_range'] at this
  refine conts_mono (λa hK=>?_) _ _ this
  obtain⟨vs,l',rfl,hv,hK⟩:=hK
  intro hA
  exact hK (apartL_of news (λi hi=>hv i (h1 i hi)) hA)
 cases draw with
 | true=>
  refine wp_region_any hm (wpAny_rel hc hsz hQ h1 h2 h3' hst' htl' _ _ _ _ (at_start ((Grow.refl w0).drew)) ?_)
  have:=left_tail (ops:=ops) (n:=0) (listed:=Array.replicate ops.size false) (by simp) (λi hi=>by omega) (λi _=>by simp[Array.getElem?_replicate];split<;>rfl)
  simpa using this
 | false=>
  refine wp_region_list ?_
  have:=wpList_rel (Q:=Q) hc hsz h1 h2 h3' hst' (λw hg=>conts_mono (λa hK hA=>wpList_of_S _ _ _ (hK hA)) _ _ (htl' w hg)) L.length 0 (Array.replicate ops.size false) ⟨l.toArray,[]⟩ w0 zo (at_start (Grow.refl w0)) (λi hi=>by omega) (λi _=>by simp[Array.getElem?_replicate];split<;>rfl)
  simpa using this
end
open Go.RowKit
section
variable {P:Program} {ops:Array Oper} {n:Nat} {news lz kb:List Nat} {w0:World} {o:Oper} {nd:List (Tmp×MR)} {L:List (Tmp×MR)} {e0:Tmp->Value} {k:Nat} {R:MR}
def ContsP:List (Tmp×MR)->((Tmp->Value)->Prop)->(Tmp->Value)->World->Prop
 | [],K,e,_=>K e
 | (d,R)::js,K,e,w=>∀v,R.R w v->ContsP js K (upE e d v) w
theorem contsP_of{K:(Tmp->Value)->Prop}{w:World}:∀(js:List Nat) (e:Tmp->Value),ContsP (js.map λj=>(DL L j,RL L j)) K e w->ContsE L js K e w
 | [],_,h=>h
 | _::js,_,h=>λv hv=>contsP_of js _ (h v hv)
theorem ContsP.fin{K:(Tmp->Value)->Prop}{e:Tmp->Value}{w:World}(h:K e):ContsP [] K e w:=h
structure StepH (P:Program) (ops:Array Oper) (L:List (Tmp×MR)) (news lz kb:List Nat) (e0:Tmp->Value) (w0:World) (k:Nat) (o:Oper) (R:MR):Prop where
 run:ops.toList[k]?=some o->RL L k=R->StepE P ops L news lz kb e0 w0 k
theorem StepH.of(hnd:(needs ops L.length k).map (λj=>(DL L j,RL L j))=nd)(hlz:lz.contains k=false)(hg:o.guard=none)(hn:news.contains k=false)
  (h:∀w,Grow w0 w->ContsP nd (λe=>Yld P o (uJ e) w (λv w'=>Grow w w'/\R.R w' v)) e0 w):StepH P ops L news lz kb e0 w0 k o R:=⟨λho hR=>by
 refine StepE.of ho rfl hlz hg hn λw hw=>contsP_of _ _ ?_
 rw[hnd,hR]
 exact h w hw⟩
theorem StepH.new(hnd:(needs ops L.length k).map (λj=>(DL L j,RL L j))=nd)(hlz:lz.contains k=false)(hg:o.guard=none)
  (h:∀w,Grow w0 w->ContsP nd (λe=>Yld P o (uJ e) w (λv w'=>Grow w w'/\R.R w' v/\uD w w' v)) e0 w):StepH P ops L news lz kb e0 w0 k o R:=⟨λho hR=>by
 refine StepE.new ho rfl hlz hg λw hw=>contsP_of _ _ ?_
 rw[hnd,hR]
 exact h w hw⟩
theorem StepH.opt{g:Nat}{d:Tmp}{want c:Bool}{A:MR}(hnd:(needs ops L.length k).map (λj=>(DL L j,RL L j))=nd)(hlz:lz.contains k=false)(hg:o.guard=some (g,want))(hd:DL L g=d)(hn:news.contains k=false)
  (h:∀w,Grow w0 w->ContsP nd (λe=>(guardV (e d)==some want)=c/\(c=true->Yld P o (uJ e) w (λv w'=>Grow w w'/\A.R w' v))) e0 w):StepH P ops L news lz kb e0 w0 k o (.opt c A):=⟨λho hR=>by
 refine StepE.opt ho rfl hlz hg hn hR λw hw=>contsP_of _ _ ?_
 rw[hnd,hd]
 exact h w hw⟩
theorem StepH.lazy(hnd:(needs ops L.length k).map (λj=>(DL L j,RL L j))=nd)(hlz:lz.contains k=true)(hg:o.guard=none)
  (h:∀w,Grow w0 w->ContsP nd (λe=>∃v,(∀w2,Kept kb w w2->(execOp (uJ e) o).run P w2=.ok (.value v) w2)/\R.R w v) e0 w):StepH P ops L news lz kb e0 w0 k o R:=⟨λho hR=>by
 refine StepE.lazy ho rfl hlz hg λw hw=>contsP_of _ _ ?_
 rw[hnd,hR]
 exact h w hw⟩
inductive StepsH (P:Program) (ops:Array Oper) (L:List (Tmp×MR)) (news lz kb:List Nat) (e0:Tmp->Value) (w0:World):Nat->List Oper->List (Tmp×MR)->Prop
 | nil (k:Nat) (os:List Oper):StepsH P ops L news lz kb e0 w0 k os []
 | cons {k k':Nat} {o:Oper} {os:List Oper} {d:Tmp} {R:MR} {Ls:List (Tmp×MR)} (hk:Nat.succ k=k') (h:StepH P ops L news lz kb e0 w0 k o R) (t:StepsH P ops L news lz kb e0 w0 k' os Ls):StepsH P ops L news lz kb e0 w0 k (o::os) ((d,R)::Ls)
theorem StepsH.steps{k:Nat}{os:List Oper}{Ls:List (Tmp×MR)}(h:StepsH P ops L news lz kb e0 w0 k os Ls)(h1:ops.toList.drop k=os)(h2:L.drop k=Ls):Steps P ops L news lz kb e0 w0 k Ls.length:=by
 induction h with
 | nil=>exact .nil _
 | @cons k k' o os d R Ls hk hs _ ih=>
  subst hk
  have e1:ops.toList[k]?=some o:=by
   have:=congrArg (λl=>l[0]?) h1
   simpa using this
  have e2:L[k]?=some (d,R):=by
   have:=congrArg (λl=>l[0]?) h2
   simpa using this
  refine .cons (hs.run e1 ?_) (ih ?_ ?_)
  ·simp[RL,List.getD,e2]
  ·have:=congrArg List.tail h1;rw[List.tail_drop] at this;exact this
  ·have:=congrArg List.tail h2;rw[List.tail_drop] at this;exact this
variable {Q:Exit->Act->World->Prop}
theorem wp_region_fast{id:Nat}{draw:Bool}{l:List Value}{os:List Oper}(L:List (Tmp×MR))(news lz kb:List Nat)(N n:Nat)(hm:P.follows .mixedOrders=true)(hops:ops=os.toArray)(hn:L.length=n)(hc:relOK .any ops n N lz=true)(hw:newsOK n news lz=true)(hd:dstOK ops L=true)(hN:l.length=N)(hQ:NoLook Q)
  (hst:StepsH P ops L news lz kb (λt=>l.getD t undef) w0 0 os L)
  (htl:∀w,Grow w0 w->ContsL L (λvs l=>ApartL w0 w vs news->zO P ops Q (Kept kb w) (os.drop n) ⟨l.toArray,[]⟩ w) [] l w):(Code.region id ops draw).wp P Q ⟨l.toArray,[]⟩ w0:=by
 subst hn
 have e:ops.toList=os:=by rw[hops]
 refine wp_region_go L news lz kb N hm hc hw hd hN hQ (hst.steps (by rw[e];rfl) rfl) λw hw=>?_
 rw[e]
 exact htl w hw
theorem so{d:Tmp}{os:List Oper}{Ls:List (Tmp×MR)}(nd:List Nat)(h:∀w,Grow w0 w->ContsP (nd.map λj=>(DL L j,RL L j)) (λe=>Yld P o (uJ e) w (λv w'=>Grow w w'/\R.R w' v)) e0 w)(t:StepsH P ops L news lz kb e0 w0 (k+1) os Ls)
  (hnd:needs ops L.length k=nd:=by kernel_rfl)(hlz:lz.contains k=false:=by kernel_rfl)(hg:o.guard=none:=by rfl)(hn:news.contains k=false:=by kernel_rfl):StepsH P ops L news lz kb e0 w0 k (o::os) ((d,R)::Ls):=
 .cons rfl (.of (by rw[hnd]) hlz hg hn h) t
theorem sn{d:Tmp}{os:List Oper}{Ls:List (Tmp×MR)}(nd:List Nat)(h:∀w,Grow w0 w->ContsP (nd.map λj=>(DL L j,RL L j)) (λe=>Yld P o (uJ e) w (λv w'=>Grow w w'/\R.R w' v/\uD w w' v)) e0 w)(t:StepsH P ops L news lz kb e0 w0 (k+1) os Ls)
  (hnd:needs ops L.length k=nd:=by kernel_rfl)(hlz:lz.contains k=false:=by kernel_rfl)(hg:o.guard=none:=by rfl):StepsH P ops L news lz kb e0 w0 k (o::os) ((d,R)::Ls):=
 .cons rfl (.new (by rw[hnd]) hlz hg h) t
theorem sl{d:Tmp}{os:List Oper}{Ls:List (Tmp×MR)}(nd:List Nat)(h:∀w,Grow w0 w->ContsP (nd.map λj=>(DL L j,RL L j)) (λe=>∃v,(∀w2,Kept kb w w2->(execOp (uJ e) o).run P w2=.ok (.value v) w2)/\R.R w v) e0 w)(t:StepsH P ops L news lz kb e0 w0 (k+1) os Ls)
  (hnd:needs ops L.length k=nd:=by kernel_rfl)(hlz:lz.contains k=true:=by kernel_rfl)(hg:o.guard=none:=by rfl):StepsH P ops L news lz kb e0 w0 k (o::os) ((d,R)::Ls):=
 .cons rfl (.lazy (by rw[hnd]) hlz hg h) t
end
open Go.RowKit
theorem intAt_of{F:Nat->Prop}{w:World}{b:Bool}{s:Value}{z:Int}(h:NatAt F w (.agg #[s]) z.natAbs)(hb:b=decide (z<0)):IntAt F w (.agg #[.bool b,s]) z:=⟨s,by rw[hb],h⟩
set_option maxHeartbeats 400000 in
theorem iNew_t(F:Nat->Prop)(v:Value)(x:Nat)(w:World)(h:NatAt F w v x):
  Calls Tryz.prog 103 #[.bool true,v] w λe w'=>∃v',e=.returned v'/\IntAt F w' v' (-x)/\Below w.heap.size w w':=by
 have h':=h.own (G:=Own F [w.heap.size+1]) (Own.new (by simp))
 obtain⟨A,n,c,rfl⟩:=h.form
 clear h
 go_enter Tryz.func103,Tryz.ntmps103
 go_wp2_with fail
 have l0:=(Blk.new w 72 #[.slice A n c]).alloc (.cells #[.bool false,.slice none 0 0] 74)
 have l1:=Blk.new_at (w.alloc (.cells #[.slice A n c] 72)) 74 #[.bool false,.slice none 0 0] (w.heap.size+1) (by simp)
 have C:=Cur.start (Own F [w.heap.size+1]) w
 go_region_held3 (λw'=>∀o,w'.cell? ⟨w.heap.size,o,none⟩=(#[.slice A n c]:Array Value)[o]?)
  (first | exact l0.cell | go_keep)
  ((go_at_call 101;refine(nZero (Own F [w.heap.size+1]) _ x _ (h'.keep Kz)).mono ?_;rintro e wM ⟨rfl,hb⟩;obtain⟨K,C⟩:=Cur.step C Kz hb;have BW:=zJ (w:=w) Wz hb;have l0:=Blk.next l0 (λh=>Bz) hb;have l1:=Blk.next l1 (λh=>Bz) hb;have c0:=l0.cell;have f0:=l0.frozen;have z0:=l0.lt;have c1:=l1.cell;have f1:=l1.frozen;have z1:=l1.lt))
 go_wp2_with fail
 refine bodyPost_ret (v:=.agg #[.bool (!decide (x=0)),.slice A n c]) (by simp[results,Tryz.results103,go_sem,c1]) rfl ⟨_,rfl,intAt_of ?_ ?_,Wz⟩
 ·rw[show(-(x:Int)).natAbs=x by omega];exact(h'.keep Kz).sub Own.sub
 ·rw[←decide_not,decide_eq_decide];omega
set_option maxHeartbeats 400000 in
theorem iNew_f(F:Nat->Prop)(v:Value)(x:Nat)(w:World)(h:NatAt F w v x):
  Calls Tryz.prog 103 #[.bool false,v] w λe w'=>∃v',e=.returned v'/\IntAt F w' v' x/\Below w.heap.size w w':=by
 have h':=h.own (G:=Own F [w.heap.size+1]) (Own.new (by simp))
 obtain⟨A,n,c,rfl⟩:=h.form
 clear h
 go_enter Tryz.func103,Tryz.ntmps103
 go_wp2_with fail
 go_region_with (fail)
 all_goals
  go_wp2_with fail
  refine bodyPost_ret (v:=.agg #[.bool false,.slice A n c]) (by simp[results,Tryz.results103,go_sem]) rfl ⟨_,rfl,intAt_of ?_ ?_,Wz⟩
  ·rw[show(x:Int).natAbs=x by omega];exact(h'.keep Kz).sub Own.sub
  ·exact(decide_eq_false zo).symm
def signed (b:Bool) (x:Nat):Int:=if b then-(x:Int) else x
theorem iNew(F:Nat->Prop)(b:Bool)(v:Value)(x:Nat)(w:World)(h:NatAt F w v x):
  Calls Tryz.prog 103 #[.bool b,v] w λe w'=>∃v',e=.returned v'/\IntAt F w' v' (signed b x)/\Below w.heap.size w w':=by
 cases b
 ·exact iNew_f F v x w h
 ·exact iNew_t F v x w h
open Go.RowKit
theorem hMix:Tryz.prog.follows .mixedOrders=true:=by kernel_rfl
abbrev u:Value:=undef
abbrev us (n:Nat):List Value:=List.replicate n undef
abbrev pt (b:Nat):Value:=.pointer (some ⟨b,0,none⟩)
abbrev It (n:Nat):Value:=.int .i64 (n:Int)
abbrev Ut (n:Nat):Value:=.int .u64 (n:Int)
section
variable {ops:Array Oper} {Q:Exit->Act->World->Prop}
theorem rg{w0:World}{id:Nat}{draw:Bool}{l:List Value}{os:List Oper}(hQ:NoLook Q)(L:List (Tmp×MR))(news lz kb:List Nat)(N n:Nat)
  (hst:StepsH Tryz.prog ops L news lz kb (λt=>l.getD t undef) w0 0 os L)
  (htl:∀w,Grow w0 w->ContsL L (λvs l=>ApartL w0 w vs news->zO Tryz.prog ops Q (Kept kb w) (os.drop n) ⟨l.toArray,[]⟩ w) [] l w)
  (hops:ops=os.toArray:=by rfl)(hn:L.length=n:=by rfl)(hc:relOK .any ops n N lz=true:=by kernel_rfl)(hw:newsOK n news lz=true:=by kernel_rfl)(hd:dstOK ops L=true:=by kernel_rfl)(hN:l.length=N:=by rfl):(Code.region id ops draw).wp Tryz.prog Q ⟨l.toArray,[]⟩ w0:=
 wp_region_fast L news lz kb N n hMix hops hn hc hw hd hN hQ hst htl
theorem nx{P:Program}{S:World->Prop}{K:Act->World->Prop}{a:Act}{w:World}(h:K a w):zO P ops (Exit.then K Q) S [] a w:=h
theorem fr{P:Program}{S:World->Prop}{rest:List Oper}{l:List Value}{ds:List Deferred}{w:World}(l':List Value)(k:zO P ops Q S rest ⟨l'.toArray,ds⟩ w)(h:l=l':=by kernel_rfl):zO P ops Q S rest ⟨l.toArray,ds⟩ w:=h▸k
end
theorem yB:Agg Tryz.prog 72 1:=⟨⟨_,Tryz.underlying72,rfl⟩,by kernel_rfl⟩
theorem zeroNat:(Tryz.prog.info? 72).map (·.zero)=some (some (.agg #[.slice none 0 0])):=by kernel_rfl
theorem yN(x:Nat):Shape (.nat x) 1:=λ{w v} h=>by
 obtain⟨A,c,rfl,_⟩:NatAt _ w v x:=h
 exact⟨_,rfl,rfl,by simp[Value.oneCell']⟩
theorem zNat(w:World):(MR.nat 0).R w (.agg #[.slice none 0 0]):=NatAt.zero _ w
theorem zInt(w:World):(MR.int 0).R w (.agg #[.bool false,.slice none 0 0]):=⟨_,rfl,NatAt.zero _ w⟩
theorem zRat(w:World):(MR.rat 0).R w (.agg #[.bool false,.slice none 0 0,.slice none 0 0]):=⟨_,_,rfl,NatAt.zero _ w,NatAt.zero _ w⟩
def Ret (R:MR) (w:World) (e:Ending) (w':World):Prop:=∃v,e=.returned v/\Grow w w'/\R.R w' v
theorem Ret.imp{R R':MR}{w w':World}{e:Ending}(h:Ret R w e w')(k:∀w v,R.R w v->R'.R w v):Ret R' w e w':=by
 obtain⟨v,h1,h2,h3⟩:=h
 exact⟨v,h1,h2,k _ _ h3⟩
theorem calls_enter{P:Program}{f:FuncId}{fn:Func}{c:Code}{args:Array Value}{w:World}{R:Ending->World->Prop}{a:Act}(hf:P.funcs[f]?=some fn)(hb:fn.body=some c)
  (ha:({tmps:=args++Array.replicate (fn.ntmps-args.size) undef,defers:=[]}:Act)=a)(h:c.wp P (bodyPost P fn R) a w):Calls P f args w R:=by
 subst ha
 exact calls_of_wp hf hb h
theorem zL{P:Program}{f:FuncId}{fn:Func}{c:Code}(hf:P.funcs[f]?=some fn)(hb:fn.body=some c)(hn:(fn.name== "runtime.NumGoroutine")=false):yJ P f:=⟨fn,hf,by simpa using hn,by rw[hb];exact λe=>by cases e⟩
section
variable {P:Program} {fn:Func} {w0 w:World} {a:Act} {R R':MR} {T T' U U':TypeId} {b b' n n' s t u:Nat}
theorem resCell(hs:a.tmps.getD s undef=.pointer (some ⟨b,0,none⟩))(hT:Agg P T n)(hB:Box w b T' R)(hS:Shape R n):
  ∃v,(asAddr ((a.tmps[s]?).getD undef)).run P w=.ok ⟨b,0,none⟩ w/\(loadVar T ⟨b,0,none⟩).run P w=.ok v w/\R.R w v:=by
 obtain⟨v,hv,hR⟩:=load_box hT hB hS
 rw[kF] at hs
 exact⟨v,by rw[hs];rfl,hv,hR⟩
theorem body_cell(hr:fn.results=#[.cell s T])(hs:a.tmps.getD s undef=.pointer (some ⟨b,0,none⟩))(hT:Agg P T n)(hB:Box w b T' R)(hS:Shape R n)(hd:a.defers=[])(hW:Grow w0 w):
  bodyPost P fn (Ret R w0) .ret a w:=by
 obtain⟨v,ha,hv,hR⟩:=resCell (a:=a) hs hT hB hS
 refine bodyPost_ret (v:=v) ?_ hd ⟨v,rfl,hW,hR⟩
 unfold results
 rw[hr]
 simp[ha,hv]
theorem uH{R'':MR}(hr:fn.results=#[.cell s T,.cell t U,.tmp u])(hs:a.tmps.getD s undef=.pointer (some ⟨b,0,none⟩))(hT:Agg P T n)(hB:Box w b T' R)(hS:Shape R n)
  (ht:a.tmps.getD t undef=.pointer (some ⟨b',0,none⟩))(hU:Agg P U n')(hB':Box w b' U' R')(hS':Shape R' n')(hR'':R''.R w (a.tmps.getD u undef))(hd:a.defers=[])(hW:Grow w0 w):bodyPost P fn (Ret (.tup3 R R' R'') w0) .ret a w:=by
 obtain⟨v,ha,hv,hR⟩:=resCell (a:=a) hs hT hB hS
 obtain⟨v',ha',hv',hR'⟩:=resCell (a:=a) ht hU hB' hS'
 refine bodyPost_ret (v:=.tuple #[v,v',a.tmps.getD u undef]) ?_ hd ⟨_,rfl,hW,v,v',_,rfl,hR,hR',hR''⟩
 unfold results
 rw[hr]
 simp[ha,hv,ha',hv']
end
theorem cNew{b:Bool}{v:Value}{x:Nat}{w:World}(h:(MR.nat x).R w v):Calls Tryz.prog 103 #[.bool b,v] w (Ret (.int (signed b x)) w):=
 (iNew (λ_=>False) b v x w h).mono λ_ _ ⟨v',e,h1,h2⟩=>⟨v',e,h2,h1⟩
open Go.RowKit
theorem setCells_os(g:Nat):∀(l:List Value) (o:Nat) (w:World),(w.setCells g o l).os=w.os/\(w.setCells g o l).tape=w.tape/\(w.setCells g o l).output=w.output/\(w.setCells g o l).heap.size=w.heap.size
 | [],_,_=>⟨rfl,rfl,rfl,rfl⟩
 | v::l,o,w=>by
  obtain⟨h1,h2,h3,h4⟩:=setCells_os g l (o+1) (w.setCell ⟨g,o,none⟩ v)
  exact⟨h1,h2,h3,h4.trans (by simp[World.setCell])⟩
section
variable {o:Oper} {ρ:Operand->Value} {w:World} {x y:Operand}
theorem yld_min{P:Program}{Φ:Value->World->Prop}{ts:Array TypeId}{p q:Int}(h:o.op=.call {callee:=.builtin .min,args:=#[x,y],argTypes:=ts})(hx:ρ x=.int .i64 p)(hy:ρ y=.int .i64 q)(K:Φ (.int .i64 (min p q)) w):Yld P o ρ w Φ:=
 yQ (v:=.int .i64 (min p q)) (by unfold execOp;rw[h];simp[resolve,invoke,builtin,hx,hy,Builtin.min_,Builtin.min2];omega) K
theorem yld_max{P:Program}{Φ:Value->World->Prop}{ts:Array TypeId}{p q:Int}(h:o.op=.call {callee:=.builtin .max,args:=#[x,y],argTypes:=ts})(hx:ρ x=.int .i64 p)(hy:ρ y=.int .i64 q)(K:Φ (.int .i64 (max p q)) w):Yld P o ρ w Φ:=
 yQ (v:=.int .i64 (max p q)) (by unfold execOp;rw[h];simp[resolve,invoke,builtin,hx,hy,Builtin.max_,Builtin.max2];omega) K
end
end Go.Proofs.YtjhfkgpjcdbjaaaGreatDoor
