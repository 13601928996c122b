/- The parts Cut, Row64, SyM, DivP, DivW, DivP2, DivD, DivC, Take, Guess, RatM, MulM, MulR, DivMod, SMu, RatM2. -/
import Derived.Test.YtjhfkgpjcdbjaaaGreatDoorQ3
set_option maxRecDepth 100000
namespace Go.Proofs.YtjhfkgpjcdbjaaaGreatDoor
open Go.RowKit
theorem wd_div(x k i:Nat):wd (x/2^(64*k)) i=wd x (k+i):=by
 unfold wd
 rw[Nat.div_div_eq_div_mul,←Nat.pow_add,←Nat.mul_add]
theorem nw_div(x k:Nat):nw (x/2^(64*k))<=nw x-k:=by
 rw[kD,Nat.div_lt_iff_lt_mul (Nat.two_pow_pos _),←Nat.pow_add,←Nat.mul_add]
 exact Nat.lt_of_lt_of_le (kE x) (Nat.pow_le_pow_right zo zo)
theorem val_high(x k:Nat):val (λi=>wd x (k+i)) (nw x-k)=x/2^(64*k):=by
 rw[←jD (x/2^(64*k)) _ (nw_div x k)]
 exact val_congr _ _ _ λi _=>(wd_div x k i).symm
theorem USlice.from{F:Nat->Prop}{w:World}{g o n:Nat}{f:Nat->Nat}(h:USlice F w (some ⟨g,o,none⟩) n f)(k:Nat):USlice F w (some ⟨g,o+k,none⟩) (n-k) (λi=>f (k+i)):=λi hi=>by
 obtain⟨g',o',e,h1,h2,h3⟩:=h (k+i) zo
 simp only[Option.some.injEq,Addr.mk.injEq,and_true] at e
 obtain⟨rfl,rfl⟩:=e
 exact⟨g,o+k,rfl,h1,h2,by rw[Nat.add_assoc];exact h3⟩
theorem USlice.upto{F:Nat->Prop}{w:World}{A:Option Addr}{n:Nat}{f:Nat->Nat}(h:USlice F w A n f)(k:Nat)(hk:k<=n):USlice F w A k f:=λi hi=>h i zo
theorem div_none(x k:Nat)(h:nw x<=k):x/2^(64*k)=0:=Nat.div_eq_of_lt ((kD x k).1 h)
set_option maxHeartbeats 2000000 in
theorem pCut_lo(F:Nat->Prop)(va:Value)(x k:Nat)(w:World)(hF:Lows F w)(ha:NatAt F w va x)(h0:0<nw x)(hk:k<=1099511627776)(hm:k<=nw x):
  Calls Tryz.prog 125 #[va,.int .i64 (k:Nat)] w λe w'=>∃v u,e=.returned (.tuple #[v,u])/\NatAt F w' v (x%2^(64*k))/\NatAt F w' u (x/2^(64*k))/\Below w.heap.size w w':=by
 have hx:=ha.own (G:=Own F [w.heap.size+1,w.heap.size+1+1]) (Own.new (by simp;omega))
 have hsx:=ha.small
 obtain⟨A,n,c,rfl⟩:=ha.form
 clear ha
 unfold Small at hsx
 have hx0:=Lib.hid hx
 clear hx
 have hm0:(0:Int)<=(k:Nat):=by omega
 have hm1:((k:Nat):Int)<=nw x:=by omega
 have hm2:(k:Int)<=(nw x:Int):=by omega
 have hm3:nw x-k<=1099511627776:=by omega
 have l0:=((Blk.new w 72 #[.slice A n c]).alloc (.cells #[.slice none 0 0] 72)).alloc (.cells #[.slice none 0 0] 72)
 have l1:=(Blk.new_at (w.alloc (.cells #[.slice A n c] 72)) 72 #[.slice none 0 0] (w.heap.size+1) (by simp)).alloc (.cells #[.slice none 0 0] 72)
 have l2:=Blk.new_at ((w.alloc (.cells #[.slice A n c] 72)).alloc (.cells #[.slice none 0 0] 72)) 72 #[.slice none 0 0] (w.heap.size+1+1) (by simp)
 have C:=Cur.start (Own F [w.heap.size+1,w.heap.size+1+1]) w
 go_enter Tryz.func125,Tryz.ntmps125
 go_wp2_with fail
 refine(nWords (Own F [w.heap.size+1,w.heap.size+1+1]) _ x _ (NatAt.keep hx0.out Kz)).mono ?_
 rintro e wM ⟨v0,rfl,hg,hb⟩
 obtain⟨B,d,rfl,hsl,hd1,hd2,_,_⟩:=hg
 (obtain⟨K,C⟩:=Cur.step C Kz hb;have BW:=zJ (w:=w) Wz hb;have l0:=Blk.next l0 (λh=>Bz) hb;have l1:=Blk.next l1 (λh=>Bz) hb;have l2:=Blk.next l2 (λh=>Bz) hb;have c0:=l0.cell;have f0:=l0.frozen;have z0:=l0.lt;have c1:=l1.cell;have f1:=l1.frozen;have z1:=l1.lt;have c2:=l2.cell;have f2:=l2.frozen;have z2:=l2.lt)
 have hL:Lows (Own F [w.heap.size+1,w.heap.size+1+1]) (((w.alloc (.cells #[.slice A n c] 72)).alloc (.cells #[.slice none 0 0] 72)).alloc (.cells #[.slice none 0 0] 72)):=(Lows.own hF (by first | (simp;done) | (simp;omega) | omega) (by first | (simp;done) | (simp;omega) | omega))
 have hsl:=hsl _ hL
 obtain⟨g,o,rfl,hg1,hg2,_⟩:=hsl 0 h0
 have hd3:(d:Int)<=9223372036854775807:=by unfold maxLen at hd2;omega
 have hd4:(nw x:Int)<=d:=by omega
 have hd5:((k:Nat):Int)<=d:=by omega
 have HS:=Lib.hid hsl
 clear hsl hg2
 obtain⟨wO,rfl⟩:∃z:World,z=wM:=⟨_,rfl⟩
 have KO:Keeps (Own F [w.heap.size+1,w.heap.size+1+1]) wO wO:=Keeps.refl _ _
 by_cases hdk:d=k
 ·have hnx:nw x<=k:=by omega
  obtain rfl:k=d:=hdk.symm
  have hnx2:=Lib.hid hnx
  clear hnx hdk
  go_wp2_with fail
  refine jW 9 (λw'=>0<=w'.heap.size) zk (Nat.zero_le _) (λhHeld=>?_)
  (refine zH (i:=0) (v:=?_) rfl (by kernel_rfl) (by kernel_rfl) (by kernel_rfl) (by kernel_rfl) (by kernel_rfl) (λ_ _ _ h=>h) (Or.inl ⟨by rfl,?_⟩) (by assumption) ?_;rotate_left;focus (intro w hSw;(try dsimp only at hSw);go_simp;(try with_reducible rfl));(try simp only[Act.put,List.setIfInBounds_toArray,List.set_cons_zero,List.set_cons_succ]));(refine zH (i:=1) (v:=?_) rfl (by kernel_rfl) (by kernel_rfl) (by kernel_rfl) (by kernel_rfl) (by kernel_rfl) (λ_ _ _ h=>h) (Or.inl ⟨by rfl,?_⟩) (by assumption) ?_;rotate_left;focus (intro w hSw;(try dsimp only at hSw);go_simp;(try with_reducible rfl));(try simp only[Act.put,List.setIfInBounds_toArray,List.set_cons_zero,List.set_cons_succ]));(refine zH (i:=2) (v:=?_) rfl (by kernel_rfl) (by kernel_rfl) (by kernel_rfl) (by kernel_rfl) (by kernel_rfl) (λ_ _ _ h=>h) (Or.inl ⟨by rfl,?_⟩) (by assumption) ?_;rotate_left;focus (intro w hSw;(try dsimp only at hSw);go_simp;(try with_reducible rfl));(try simp only[Act.put,List.setIfInBounds_toArray,List.set_cons_zero,List.set_cons_succ]));(refine zH (i:=4) (v:=?_) rfl (by kernel_rfl) (by kernel_rfl) (by kernel_rfl) (by kernel_rfl) (by kernel_rfl) (λ_ _ _ h=>h) (Or.inl ⟨by rfl,?_⟩) (by assumption) ?_;rotate_left;focus (intro w hSw;(try dsimp only at hSw);go_simp;(try with_reducible rfl));(try simp only[Act.put,List.setIfInBounds_toArray,List.set_cons_zero,List.set_cons_succ]));(refine zH (i:=5) (v:=?_) rfl (by kernel_rfl) (by kernel_rfl) (by kernel_rfl) (by kernel_rfl) (by kernel_rfl) (λ_ _ _ h=>h) (Or.inl ⟨by rfl,?_⟩) (by assumption) ?_;rotate_left;focus (intro w hSw;(try dsimp only at hSw);go_simp;(try with_reducible rfl));(try simp only[Act.put,List.setIfInBounds_toArray,List.set_cons_zero,List.set_cons_succ]));(refine zH (i:=6) (v:=?_) rfl (by kernel_rfl) (by kernel_rfl) (by kernel_rfl) (by kernel_rfl) (by kernel_rfl) (λ_ _ _ h=>h) (Or.inl ⟨by rfl,?_⟩) (by assumption) ?_;rotate_left;focus (intro w hSw;(try dsimp only at hSw);go_simp;(try with_reducible rfl));(try simp only[Act.put,List.setIfInBounds_toArray,List.set_cons_zero,List.set_cons_succ]))
  (refine zX (rs:=[3]) (by kernel_rfl) (by simp) ?_;refine AllReadyT.cons rfl (λKK hK=>?_) AllReadyT.nil;go_simp;(go_at_call 110;refine(nOf (Own F [w.heap.size+1,w.heap.size+1+1]) (some ⟨g,o,none⟩) k k (wd x) _ (Lows.own hF (by first | (simp;done) | (simp;omega) | omega) (by first | (simp;done) | (simp;omega) | omega)) (USlice.keep (HS.out.upto k zo) Kz) (wf_wd x k) zo (λe=>(by cases e))).mono ?_;rintro e wM ⟨v',rfl,hr,hb⟩;obtain⟨A1,n1,c1',rfl⟩:=hr.form;(obtain⟨K,C⟩:=Cur.step C Kz hb;have BW:=zJ (w:=w) Wz hb;have l1:=Blk.next l1 (λh=>Bz) hb;have l2:=Blk.next l2 (λh=>Bz) hb;have c1:=l1.cell;have f1:=l1.frozen;have z1:=l1.lt;have c2:=l2.cell;have f2:=l2.frozen;have z2:=l2.lt));rw[val_wd] at hr;have H1:=Lib.hid hr;clear hr;go_wp2_with fail;refine hK.out _ _ (λ_=>Nat.zero_le _) (λhHeld=>?_);have hHeld:=hHeld (by decide);clear hK KK;(try simp only[Act.put,List.setIfInBounds_toArray,List.set_cons_zero,List.set_cons_succ]))
  obtain⟨wP,rfl⟩:∃z:World,z=wM:=⟨_,rfl⟩
  have KP:Keeps (Own F [w.heap.size+1,w.heap.size+1+1]) wP wP:=Keeps.refl _ _
  have KOP:Keeps (Own F [w.heap.size+1,w.heap.size+1+1]) wO wP:=Kz
  (refine zX (rs:=[7]) (by kernel_rfl) (by simp) ?_;refine AllReadyT.cons rfl (λKK hK=>?_) AllReadyT.nil;go_simp;(go_at_call 110;refine(nOf (Own F [w.heap.size+1,w.heap.size+1+1]) (some ⟨g,o,none⟩) 0 0 (λ_=>0) _ (Lows.own hF (by first | (simp;done) | (simp;omega) | omega) (by first | (simp;done) | (simp;omega) | omega)) (λi hi=>by omega) (λi hi=>by omega) zo (λe=>(by cases e))).mono ?_;rintro e wM ⟨v',rfl,hr,hb⟩;obtain⟨A2,n2,c2',rfl⟩:=hr.form;(obtain⟨K,C⟩:=Cur.step C Kz hb;have BW:=zJ (w:=w) Wz hb;have l1:=Blk.next l1 (λh=>Bz) hb;have l2:=Blk.next l2 (λh=>Bz) hb;have c1:=l1.cell;have f1:=l1.frozen;have z1:=l1.lt;have c2:=l2.cell;have f2:=l2.frozen;have z2:=l2.lt));rw[show val (λ_=>0) 0=x/2^(64*k) from(div_none x k hnx2.out).symm] at hr;have H2:=Lib.hid hr;clear hr;go_wp2_with fail;refine hK.out _ _ (λ_=>Nat.zero_le _) (λhHeld=>?_);have hHeld:=hHeld (by decide);clear hK KK;(try simp only[Act.put,List.setIfInBounds_toArray,List.set_cons_zero,List.set_cons_succ]))
  have KPQ:Keeps (Own F [w.heap.size+1,w.heap.size+1+1]) wP wM:=Kz
  (refine zX (rs:=[8]) (by kernel_rfl) (by simp) ?_;refine AllReadyT.cons rfl (λKK hK=>?_) AllReadyT.nil;go_simp;skip;refine hK.out _ _ (λ_=>Nat.zero_le _) (λhHeld=>?_);have hHeld:=hHeld (by decide);clear hK KK;(try simp only[Act.put,List.setIfInBounds_toArray,List.set_cons_zero,List.set_cons_succ]))
  (refine zX (rs:=[9]) (by kernel_rfl) (by simp) ?_;refine AllReadyT.cons rfl (λKK hK=>?_) AllReadyT.nil;go_simp;skip;refine hK.out _ _ (λh=>absurd h (by decide)) (λ_=>?_);refine jX (by kernel_rfl) ?_ _;clear hK KK)
  go_wp2_with fail
  exact bodyPost_ret (v:=.tuple #[.agg #[.slice A1 n1 c1'],.agg #[.slice A2 n2 c2']]) (by simp[results,Tryz.results125,go_sem,c1,c2]) rfl ⟨_,_,rfl,(H1.out.keep Kz).sub Own.sub,(H2.out.keep Kz).sub Own.sub,Wz⟩
 ·have hdi:¬(d:Int)-((k:Nat):Int)=0:=by omega
  go_wp2_with fail
  refine jW 9 (λw'=>0<=w'.heap.size) zk (Nat.zero_le _) (λhHeld=>?_)
  (refine zH (i:=0) (v:=?_) rfl (by kernel_rfl) (by kernel_rfl) (by kernel_rfl) (by kernel_rfl) (by kernel_rfl) (λ_ _ _ h=>h) (Or.inl ⟨by rfl,?_⟩) (by assumption) ?_;rotate_left;focus (intro w hSw;(try dsimp only at hSw);go_simp;(try with_reducible rfl));(try simp only[Act.put,List.setIfInBounds_toArray,List.set_cons_zero,List.set_cons_succ]));(refine zH (i:=1) (v:=?_) rfl (by kernel_rfl) (by kernel_rfl) (by kernel_rfl) (by kernel_rfl) (by kernel_rfl) (λ_ _ _ h=>h) (Or.inl ⟨by rfl,?_⟩) (by assumption) ?_;rotate_left;focus (intro w hSw;(try dsimp only at hSw);go_simp;(try with_reducible rfl));(try simp only[Act.put,List.setIfInBounds_toArray,List.set_cons_zero,List.set_cons_succ]));(refine zH (i:=2) (v:=?_) rfl (by kernel_rfl) (by kernel_rfl) (by kernel_rfl) (by kernel_rfl) (by kernel_rfl) (λ_ _ _ h=>h) (Or.inl ⟨by rfl,?_⟩) (by assumption) ?_;rotate_left;focus (intro w hSw;(try dsimp only at hSw);go_simp;(try with_reducible rfl));(try simp only[Act.put,List.setIfInBounds_toArray,List.set_cons_zero,List.set_cons_succ]));(refine zH (i:=4) (v:=?_) rfl (by kernel_rfl) (by kernel_rfl) (by kernel_rfl) (by kernel_rfl) (by kernel_rfl) (λ_ _ _ h=>h) (Or.inl ⟨by rfl,?_⟩) (by assumption) ?_;rotate_left;focus (intro w hSw;(try dsimp only at hSw);go_simp;(try with_reducible rfl));(try simp only[Act.put,List.setIfInBounds_toArray,List.set_cons_zero,List.set_cons_succ]));(refine zH (i:=5) (v:=?_) rfl (by kernel_rfl) (by kernel_rfl) (by kernel_rfl) (by kernel_rfl) (by kernel_rfl) (λ_ _ _ h=>h) (Or.inl ⟨by rfl,?_⟩) (by assumption) ?_;rotate_left;focus (intro w hSw;(try dsimp only at hSw);go_simp;(try with_reducible rfl));(try simp only[Act.put,List.setIfInBounds_toArray,List.set_cons_zero,List.set_cons_succ]));(refine zH (i:=6) (v:=?_) rfl (by kernel_rfl) (by kernel_rfl) (by kernel_rfl) (by kernel_rfl) (by kernel_rfl) (λ_ _ _ h=>h) (Or.inl ⟨by rfl,?_⟩) (by assumption) ?_;rotate_left;focus (intro w hSw;(try dsimp only at hSw);go_simp;(try with_reducible rfl));(try simp only[Act.put,List.setIfInBounds_toArray,List.set_cons_zero,List.set_cons_succ]))
  (refine zX (rs:=[3]) (by kernel_rfl) (by simp) ?_;refine AllReadyT.cons rfl (λKK hK=>?_) AllReadyT.nil;go_simp;(go_at_call 110;refine(nOf (Own F [w.heap.size+1,w.heap.size+1+1]) (some ⟨g,o,none⟩) k d (wd x) _ (Lows.own hF (by first | (simp;done) | (simp;omega) | omega) (by first | (simp;done) | (simp;omega) | omega)) (USlice.keep (HS.out.upto k zo) Kz) (wf_wd x k) zo (λe=>(by cases e))).mono ?_;rintro e wM ⟨v',rfl,hr,hb⟩;obtain⟨A1,n1,c1',rfl⟩:=hr.form;(obtain⟨K,C⟩:=Cur.step C Kz hb;have BW:=zJ (w:=w) Wz hb;have l1:=Blk.next l1 (λh=>Bz) hb;have l2:=Blk.next l2 (λh=>Bz) hb;have c1:=l1.cell;have f1:=l1.frozen;have z1:=l1.lt;have c2:=l2.cell;have f2:=l2.frozen;have z2:=l2.lt));rw[val_wd] at hr;have H1:=Lib.hid hr;clear hr;go_wp2_with fail;refine hK.out _ _ (λ_=>Nat.zero_le _) (λhHeld=>?_);have hHeld:=hHeld (by decide);clear hK KK;(try simp only[Act.put,List.setIfInBounds_toArray,List.set_cons_zero,List.set_cons_succ]))
  obtain⟨wP,rfl⟩:∃z:World,z=wM:=⟨_,rfl⟩
  have KP:Keeps (Own F [w.heap.size+1,w.heap.size+1+1]) wP wP:=Keeps.refl _ _
  have KOP:Keeps (Own F [w.heap.size+1,w.heap.size+1+1]) wO wP:=Kz
  (refine zX (rs:=[7]) (by kernel_rfl) (by simp) ?_;refine AllReadyT.cons rfl (λKK hK=>?_) AllReadyT.nil;go_simp;(go_at_call 110;refine(nOf (Own F [w.heap.size+1,w.heap.size+1+1]) (some ⟨g,o+k,none⟩) (nw x-k) (d-k) (λi=>wd x (k+i)) _ (Lows.own hF (by first | (simp;done) | (simp;omega) | omega) (by first | (simp;done) | (simp;omega) | omega)) (USlice.keep (HS.out.from k) Kz) (λi _=>xH _ _) hm3 (λe=>(by cases e))).mono ?_;rintro e wM ⟨v',rfl,hr,hb⟩;obtain⟨A2,n2,c2',rfl⟩:=hr.form;(obtain⟨K,C⟩:=Cur.step C Kz hb;have BW:=zJ (w:=w) Wz hb;have l1:=Blk.next l1 (λh=>Bz) hb;have l2:=Blk.next l2 (λh=>Bz) hb;have c1:=l1.cell;have f1:=l1.frozen;have z1:=l1.lt;have c2:=l2.cell;have f2:=l2.frozen;have z2:=l2.lt));rw[val_high] at hr;have H2:=Lib.hid hr;clear hr;go_wp2_with fail;refine hK.out _ _ (λ_=>Nat.zero_le _) (λhHeld=>?_);have hHeld:=hHeld (by decide);clear hK KK;(try simp only[Act.put,List.setIfInBounds_toArray,List.set_cons_zero,List.set_cons_succ]))
  have KPQ:Keeps (Own F [w.heap.size+1,w.heap.size+1+1]) wP wM:=Kz
  (refine zX (rs:=[8]) (by kernel_rfl) (by simp) ?_;refine AllReadyT.cons rfl (λKK hK=>?_) AllReadyT.nil;go_simp;skip;refine hK.out _ _ (λ_=>Nat.zero_le _) (λhHeld=>?_);have hHeld:=hHeld (by decide);clear hK KK;(try simp only[Act.put,List.setIfInBounds_toArray,List.set_cons_zero,List.set_cons_succ]))
  (refine zX (rs:=[9]) (by kernel_rfl) (by simp) ?_;refine AllReadyT.cons rfl (λKK hK=>?_) AllReadyT.nil;go_simp;skip;refine hK.out _ _ (λh=>absurd h (by decide)) (λ_=>?_);refine jX (by kernel_rfl) ?_ _;clear hK KK)
  go_wp2_with fail
  exact bodyPost_ret (v:=.tuple #[.agg #[.slice A1 n1 c1'],.agg #[.slice A2 n2 c2']]) (by simp[results,Tryz.results125,go_sem,c1,c2]) rfl ⟨_,_,rfl,(H1.out.keep Kz).sub Own.sub,(H2.out.keep Kz).sub Own.sub,Wz⟩
set_option maxHeartbeats 2000000 in
theorem pCut_hi(F:Nat->Prop)(va:Value)(x k:Nat)(w:World)(hF:Lows F w)(ha:NatAt F w va x)(h0:0<nw x)(_hk:k<=1099511627776)(hm:nw x<k):
  Calls Tryz.prog 125 #[va,.int .i64 (k:Nat)] w λe w'=>∃v u,e=.returned (.tuple #[v,u])/\NatAt F w' v (x%2^(64*nw x))/\NatAt F w' u (x/2^(64*nw x))/\Below w.heap.size w w':=by
 have hx:=ha.own (G:=Own F [w.heap.size+1,w.heap.size+1+1]) (Own.new (by simp;omega))
 have hsx:=ha.small
 obtain⟨A,n,c,rfl⟩:=ha.form
 clear ha
 unfold Small at hsx
 have hx0:=Lib.hid hx
 clear hx
 have hm0:(0:Int)<=(nw x:Nat):=by omega
 have hm1:((nw x:Nat):Int)<=nw x:=by omega
 have hm2:(nw x:Int)<(k:Int):=by omega
 have hm3:nw x-nw x<=1099511627776:=by omega
 have l0:=((Blk.new w 72 #[.slice A n c]).alloc (.cells #[.slice none 0 0] 72)).alloc (.cells #[.slice none 0 0] 72)
 have l1:=(Blk.new_at (w.alloc (.cells #[.slice A n c] 72)) 72 #[.slice none 0 0] (w.heap.size+1) (by simp)).alloc (.cells #[.slice none 0 0] 72)
 have l2:=Blk.new_at ((w.alloc (.cells #[.slice A n c] 72)).alloc (.cells #[.slice none 0 0] 72)) 72 #[.slice none 0 0] (w.heap.size+1+1) (by simp)
 have C:=Cur.start (Own F [w.heap.size+1,w.heap.size+1+1]) w
 go_enter Tryz.func125,Tryz.ntmps125
 go_wp2_with fail
 refine(nWords (Own F [w.heap.size+1,w.heap.size+1+1]) _ x _ (NatAt.keep hx0.out Kz)).mono ?_
 rintro e wM ⟨v0,rfl,hg,hb⟩
 obtain⟨B,d,rfl,hsl,hd1,hd2,_,_⟩:=hg
 (obtain⟨K,C⟩:=Cur.step C Kz hb;have BW:=zJ (w:=w) Wz hb;have l0:=Blk.next l0 (λh=>Bz) hb;have l1:=Blk.next l1 (λh=>Bz) hb;have l2:=Blk.next l2 (λh=>Bz) hb;have c0:=l0.cell;have f0:=l0.frozen;have z0:=l0.lt;have c1:=l1.cell;have f1:=l1.frozen;have z1:=l1.lt;have c2:=l2.cell;have f2:=l2.frozen;have z2:=l2.lt)
 have hL:Lows (Own F [w.heap.size+1,w.heap.size+1+1]) (((w.alloc (.cells #[.slice A n c] 72)).alloc (.cells #[.slice none 0 0] 72)).alloc (.cells #[.slice none 0 0] 72)):=(Lows.own hF (by first | (simp;done) | (simp;omega) | omega) (by first | (simp;done) | (simp;omega) | omega))
 have hsl:=hsl _ hL
 obtain⟨g,o,rfl,hg1,hg2,_⟩:=hsl 0 h0
 have hd3:(d:Int)<=9223372036854775807:=by unfold maxLen at hd2;omega
 have hd4:(nw x:Int)<=d:=by omega
 have hd5:((nw x:Nat):Int)<=d:=by omega
 have HS:=Lib.hid hsl
 clear hsl hg2
 obtain⟨wO,rfl⟩:∃z:World,z=wM:=⟨_,rfl⟩
 have KO:Keeps (Own F [w.heap.size+1,w.heap.size+1+1]) wO wO:=Keeps.refl _ _
 by_cases hdk:d=nw x
 ·have hnx:nw x<=nw x:=by omega
  obtain rfl:nw x=d:=hdk.symm
  have hnx2:=Lib.hid hnx
  clear hnx hdk
  go_wp2_with fail
  refine jW 9 (λw'=>0<=w'.heap.size) zk (Nat.zero_le _) (λhHeld=>?_)
  (refine zH (i:=0) (v:=?_) rfl (by kernel_rfl) (by kernel_rfl) (by kernel_rfl) (by kernel_rfl) (by kernel_rfl) (λ_ _ _ h=>h) (Or.inl ⟨by rfl,?_⟩) (by assumption) ?_;rotate_left;focus (intro w hSw;(try dsimp only at hSw);go_simp;(try with_reducible rfl));(try simp only[Act.put,List.setIfInBounds_toArray,List.set_cons_zero,List.set_cons_succ]));(refine zH (i:=1) (v:=?_) rfl (by kernel_rfl) (by kernel_rfl) (by kernel_rfl) (by kernel_rfl) (by kernel_rfl) (λ_ _ _ h=>h) (Or.inl ⟨by rfl,?_⟩) (by assumption) ?_;rotate_left;focus (intro w hSw;(try dsimp only at hSw);go_simp;(try with_reducible rfl));(try simp only[Act.put,List.setIfInBounds_toArray,List.set_cons_zero,List.set_cons_succ]));(refine zH (i:=2) (v:=?_) rfl (by kernel_rfl) (by kernel_rfl) (by kernel_rfl) (by kernel_rfl) (by kernel_rfl) (λ_ _ _ h=>h) (Or.inl ⟨by rfl,?_⟩) (by assumption) ?_;rotate_left;focus (intro w hSw;(try dsimp only at hSw);go_simp;(try with_reducible rfl));(try simp only[Act.put,List.setIfInBounds_toArray,List.set_cons_zero,List.set_cons_succ]));(refine zH (i:=4) (v:=?_) rfl (by kernel_rfl) (by kernel_rfl) (by kernel_rfl) (by kernel_rfl) (by kernel_rfl) (λ_ _ _ h=>h) (Or.inl ⟨by rfl,?_⟩) (by assumption) ?_;rotate_left;focus (intro w hSw;(try dsimp only at hSw);go_simp;(try with_reducible rfl));(try simp only[Act.put,List.setIfInBounds_toArray,List.set_cons_zero,List.set_cons_succ]));(refine zH (i:=5) (v:=?_) rfl (by kernel_rfl) (by kernel_rfl) (by kernel_rfl) (by kernel_rfl) (by kernel_rfl) (λ_ _ _ h=>h) (Or.inl ⟨by rfl,?_⟩) (by assumption) ?_;rotate_left;focus (intro w hSw;(try dsimp only at hSw);go_simp;(try with_reducible rfl));(try simp only[Act.put,List.setIfInBounds_toArray,List.set_cons_zero,List.set_cons_succ]));(refine zH (i:=6) (v:=?_) rfl (by kernel_rfl) (by kernel_rfl) (by kernel_rfl) (by kernel_rfl) (by kernel_rfl) (λ_ _ _ h=>h) (Or.inl ⟨by rfl,?_⟩) (by assumption) ?_;rotate_left;focus (intro w hSw;(try dsimp only at hSw);go_simp;(try with_reducible rfl));(try simp only[Act.put,List.setIfInBounds_toArray,List.set_cons_zero,List.set_cons_succ]))
  (refine zX (rs:=[3]) (by kernel_rfl) (by simp) ?_;refine AllReadyT.cons rfl (λKK hK=>?_) AllReadyT.nil;go_simp;(go_at_call 110;refine(nOf (Own F [w.heap.size+1,w.heap.size+1+1]) (some ⟨g,o,none⟩) (nw x) (nw x) (wd x) _ (Lows.own hF (by first | (simp;done) | (simp;omega) | omega) (by first | (simp;done) | (simp;omega) | omega)) (USlice.keep (HS.out.upto (nw x) zo) Kz) (wf_wd x (nw x)) zo (λe=>(by cases e))).mono ?_;rintro e wM ⟨v',rfl,hr,hb⟩;obtain⟨A1,n1,c1',rfl⟩:=hr.form;(obtain⟨K,C⟩:=Cur.step C Kz hb;have BW:=zJ (w:=w) Wz hb;have l1:=Blk.next l1 (λh=>Bz) hb;have l2:=Blk.next l2 (λh=>Bz) hb;have c1:=l1.cell;have f1:=l1.frozen;have z1:=l1.lt;have c2:=l2.cell;have f2:=l2.frozen;have z2:=l2.lt));rw[val_wd] at hr;have H1:=Lib.hid hr;clear hr;go_wp2_with fail;refine hK.out _ _ (λ_=>Nat.zero_le _) (λhHeld=>?_);have hHeld:=hHeld (by decide);clear hK KK;(try simp only[Act.put,List.setIfInBounds_toArray,List.set_cons_zero,List.set_cons_succ]))
  obtain⟨wP,rfl⟩:∃z:World,z=wM:=⟨_,rfl⟩
  have KP:Keeps (Own F [w.heap.size+1,w.heap.size+1+1]) wP wP:=Keeps.refl _ _
  have KOP:Keeps (Own F [w.heap.size+1,w.heap.size+1+1]) wO wP:=Kz
  (refine zX (rs:=[7]) (by kernel_rfl) (by simp) ?_;refine AllReadyT.cons rfl (λKK hK=>?_) AllReadyT.nil;go_simp;(go_at_call 110;refine(nOf (Own F [w.heap.size+1,w.heap.size+1+1]) (some ⟨g,o,none⟩) 0 0 (λ_=>0) _ (Lows.own hF (by first | (simp;done) | (simp;omega) | omega) (by first | (simp;done) | (simp;omega) | omega)) (λi hi=>by omega) (λi hi=>by omega) zo (λe=>(by cases e))).mono ?_;rintro e wM ⟨v',rfl,hr,hb⟩;obtain⟨A2,n2,c2',rfl⟩:=hr.form;(obtain⟨K,C⟩:=Cur.step C Kz hb;have BW:=zJ (w:=w) Wz hb;have l1:=Blk.next l1 (λh=>Bz) hb;have l2:=Blk.next l2 (λh=>Bz) hb;have c1:=l1.cell;have f1:=l1.frozen;have z1:=l1.lt;have c2:=l2.cell;have f2:=l2.frozen;have z2:=l2.lt));rw[show val (λ_=>0) 0=x/2^(64*(nw x)) from(div_none x (nw x) hnx2.out).symm] at hr;have H2:=Lib.hid hr;clear hr;go_wp2_with fail;refine hK.out _ _ (λ_=>Nat.zero_le _) (λhHeld=>?_);have hHeld:=hHeld (by decide);clear hK KK;(try simp only[Act.put,List.setIfInBounds_toArray,List.set_cons_zero,List.set_cons_succ]))
  have KPQ:Keeps (Own F [w.heap.size+1,w.heap.size+1+1]) wP wM:=Kz
  (refine zX (rs:=[8]) (by kernel_rfl) (by simp) ?_;refine AllReadyT.cons rfl (λKK hK=>?_) AllReadyT.nil;go_simp;skip;refine hK.out _ _ (λ_=>Nat.zero_le _) (λhHeld=>?_);have hHeld:=hHeld (by decide);clear hK KK;(try simp only[Act.put,List.setIfInBounds_toArray,List.set_cons_zero,List.set_cons_succ]))
  (refine zX (rs:=[9]) (by kernel_rfl) (by simp) ?_;refine AllReadyT.cons rfl (λKK hK=>?_) AllReadyT.nil;go_simp;skip;refine hK.out _ _ (λh=>absurd h (by decide)) (λ_=>?_);refine jX (by kernel_rfl) ?_ _;clear hK KK)
  go_wp2_with fail
  exact bodyPost_ret (v:=.tuple #[.agg #[.slice A1 n1 c1'],.agg #[.slice A2 n2 c2']]) (by simp[results,Tryz.results125,go_sem,c1,c2]) rfl ⟨_,_,rfl,(H1.out.keep Kz).sub Own.sub,(H2.out.keep Kz).sub Own.sub,Wz⟩
 ·have hdi:¬(d:Int)-((nw x:Nat):Int)=0:=by omega
  go_wp2_with fail
  refine jW 9 (λw'=>0<=w'.heap.size) zk (Nat.zero_le _) (λhHeld=>?_)
  (refine zH (i:=0) (v:=?_) rfl (by kernel_rfl) (by kernel_rfl) (by kernel_rfl) (by kernel_rfl) (by kernel_rfl) (λ_ _ _ h=>h) (Or.inl ⟨by rfl,?_⟩) (by assumption) ?_;rotate_left;focus (intro w hSw;(try dsimp only at hSw);go_simp;(try with_reducible rfl));(try simp only[Act.put,List.setIfInBounds_toArray,List.set_cons_zero,List.set_cons_succ]));(refine zH (i:=1) (v:=?_) rfl (by kernel_rfl) (by kernel_rfl) (by kernel_rfl) (by kernel_rfl) (by kernel_rfl) (λ_ _ _ h=>h) (Or.inl ⟨by rfl,?_⟩) (by assumption) ?_;rotate_left;focus (intro w hSw;(try dsimp only at hSw);go_simp;(try with_reducible rfl));(try simp only[Act.put,List.setIfInBounds_toArray,List.set_cons_zero,List.set_cons_succ]));(refine zH (i:=2) (v:=?_) rfl (by kernel_rfl) (by kernel_rfl) (by kernel_rfl) (by kernel_rfl) (by kernel_rfl) (λ_ _ _ h=>h) (Or.inl ⟨by rfl,?_⟩) (by assumption) ?_;rotate_left;focus (intro w hSw;(try dsimp only at hSw);go_simp;(try with_reducible rfl));(try simp only[Act.put,List.setIfInBounds_toArray,List.set_cons_zero,List.set_cons_succ]));(refine zH (i:=4) (v:=?_) rfl (by kernel_rfl) (by kernel_rfl) (by kernel_rfl) (by kernel_rfl) (by kernel_rfl) (λ_ _ _ h=>h) (Or.inl ⟨by rfl,?_⟩) (by assumption) ?_;rotate_left;focus (intro w hSw;(try dsimp only at hSw);go_simp;(try with_reducible rfl));(try simp only[Act.put,List.setIfInBounds_toArray,List.set_cons_zero,List.set_cons_succ]));(refine zH (i:=5) (v:=?_) rfl (by kernel_rfl) (by kernel_rfl) (by kernel_rfl) (by kernel_rfl) (by kernel_rfl) (λ_ _ _ h=>h) (Or.inl ⟨by rfl,?_⟩) (by assumption) ?_;rotate_left;focus (intro w hSw;(try dsimp only at hSw);go_simp;(try with_reducible rfl));(try simp only[Act.put,List.setIfInBounds_toArray,List.set_cons_zero,List.set_cons_succ]));(refine zH (i:=6) (v:=?_) rfl (by kernel_rfl) (by kernel_rfl) (by kernel_rfl) (by kernel_rfl) (by kernel_rfl) (λ_ _ _ h=>h) (Or.inl ⟨by rfl,?_⟩) (by assumption) ?_;rotate_left;focus (intro w hSw;(try dsimp only at hSw);go_simp;(try with_reducible rfl));(try simp only[Act.put,List.setIfInBounds_toArray,List.set_cons_zero,List.set_cons_succ]))
  (refine zX (rs:=[3]) (by kernel_rfl) (by simp) ?_;refine AllReadyT.cons rfl (λKK hK=>?_) AllReadyT.nil;go_simp;(go_at_call 110;refine(nOf (Own F [w.heap.size+1,w.heap.size+1+1]) (some ⟨g,o,none⟩) (nw x) d (wd x) _ (Lows.own hF (by first | (simp;done) | (simp;omega) | omega) (by first | (simp;done) | (simp;omega) | omega)) (USlice.keep (HS.out.upto (nw x) zo) Kz) (wf_wd x (nw x)) zo (λe=>(by cases e))).mono ?_;rintro e wM ⟨v',rfl,hr,hb⟩;obtain⟨A1,n1,c1',rfl⟩:=hr.form;(obtain⟨K,C⟩:=Cur.step C Kz hb;have BW:=zJ (w:=w) Wz hb;have l1:=Blk.next l1 (λh=>Bz) hb;have l2:=Blk.next l2 (λh=>Bz) hb;have c1:=l1.cell;have f1:=l1.frozen;have z1:=l1.lt;have c2:=l2.cell;have f2:=l2.frozen;have z2:=l2.lt));rw[val_wd] at hr;have H1:=Lib.hid hr;clear hr;go_wp2_with fail;refine hK.out _ _ (λ_=>Nat.zero_le _) (λhHeld=>?_);have hHeld:=hHeld (by decide);clear hK KK;(try simp only[Act.put,List.setIfInBounds_toArray,List.set_cons_zero,List.set_cons_succ]))
  obtain⟨wP,rfl⟩:∃z:World,z=wM:=⟨_,rfl⟩
  have KP:Keeps (Own F [w.heap.size+1,w.heap.size+1+1]) wP wP:=Keeps.refl _ _
  have KOP:Keeps (Own F [w.heap.size+1,w.heap.size+1+1]) wO wP:=Kz
  (refine zX (rs:=[7]) (by kernel_rfl) (by simp) ?_;refine AllReadyT.cons rfl (λKK hK=>?_) AllReadyT.nil;go_simp;(go_at_call 110;refine(nOf (Own F [w.heap.size+1,w.heap.size+1+1]) (some ⟨g,o+nw x,none⟩) 0 (d-nw x) (λ_=>0) _ (Lows.own hF (by first | (simp;done) | (simp;omega) | omega) (by first | (simp;done) | (simp;omega) | omega)) (λi hi=>by omega) (λi hi=>by omega) zo (λe=>(by cases e))).mono ?_;rintro e wM ⟨v',rfl,hr,hb⟩;obtain⟨A2,n2,c2',rfl⟩:=hr.form;(obtain⟨K,C⟩:=Cur.step C Kz hb;have BW:=zJ (w:=w) Wz hb;have l1:=Blk.next l1 (λh=>Bz) hb;have l2:=Blk.next l2 (λh=>Bz) hb;have c1:=l1.cell;have f1:=l1.frozen;have z1:=l1.lt;have c2:=l2.cell;have f2:=l2.frozen;have z2:=l2.lt));rw[show val (λ_=>0) 0=x/2^(64*(nw x)) from(div_none x (nw x) (Nat.le_refl _)).symm] at hr;have H2:=Lib.hid hr;clear hr;go_wp2_with fail;refine hK.out _ _ (λ_=>Nat.zero_le _) (λhHeld=>?_);have hHeld:=hHeld (by decide);clear hK KK;(try simp only[Act.put,List.setIfInBounds_toArray,List.set_cons_zero,List.set_cons_succ]))
  have KPQ:Keeps (Own F [w.heap.size+1,w.heap.size+1+1]) wP wM:=Kz
  (refine zX (rs:=[8]) (by kernel_rfl) (by simp) ?_;refine AllReadyT.cons rfl (λKK hK=>?_) AllReadyT.nil;go_simp;skip;refine hK.out _ _ (λ_=>Nat.zero_le _) (λhHeld=>?_);have hHeld:=hHeld (by decide);clear hK KK;(try simp only[Act.put,List.setIfInBounds_toArray,List.set_cons_zero,List.set_cons_succ]))
  (refine zX (rs:=[9]) (by kernel_rfl) (by simp) ?_;refine AllReadyT.cons rfl (λKK hK=>?_) AllReadyT.nil;go_simp;skip;refine hK.out _ _ (λh=>absurd h (by decide)) (λ_=>?_);refine jX (by kernel_rfl) ?_ _;clear hK KK)
  go_wp2_with fail
  exact bodyPost_ret (v:=.tuple #[.agg #[.slice A1 n1 c1'],.agg #[.slice A2 n2 c2']]) (by simp[results,Tryz.results125,go_sem,c1,c2]) rfl ⟨_,_,rfl,(H1.out.keep Kz).sub Own.sub,(H2.out.keep Kz).sub Own.sub,Wz⟩
theorem pCut(F:Nat->Prop)(va:Value)(x k:Nat)(w:World)(hF:Lows F w)(ha:NatAt F w va x)(h0:0<nw x)(hk:k<=1099511627776):
  Calls Tryz.prog 125 #[va,.int .i64 (k:Nat)] w λe w'=>∃v u,e=.returned (.tuple #[v,u])/\NatAt F w' v (x%2^(64*k))/\NatAt F w' u (x/2^(64*k))/\Below w.heap.size w w':=by
 by_cases h:k<=nw x
 ·exact pCut_lo F va x k w hF ha h0 hk h
 ·have h':nw x<k:=by omega
  have e1:x%2^(64*nw x)=x%2^(64*k):=by rw[Nat.mod_eq_of_lt (kE x),Nat.mod_eq_of_lt ((kD x k).1 zo)]
  have e2:x/2^(64*nw x)=x/2^(64*k):=by rw[div_none x _ (Nat.le_refl _),div_none x k zo]
  have:=pCut_hi F va x k w hF ha h0 hk h'
  rw[e1,e2] at this
  exact this
open Go.RowKit
def MR.row (f:Nat->Nat) (n:Nat):MR:=⟨λw v=>∃g,v=.slice (some ⟨g,0,none⟩) n n/\Blk w g 177 (wa f n),λh ⟨g,e,k⟩=>⟨g,e,k.below h⟩⟩
def MR.uns (f:Nat->Nat) (n:Nat):MR:=⟨λw v=>∃A c,v=.slice A n c/\USlice (λ_=>False) w A n f/\n<=c/\c<=maxLen/\Nilled A n c,λh ⟨A,c,e,k,r⟩=>⟨A,c,e,k.keep (Keeps.of_below h),r⟩⟩
section
variable {va vb:Value} {x y:Nat} {w:World} {f:Nat->Nat} {n:Nat}
theorem cNatWords(ha:(MR.nat x).R w va):Calls Tryz.prog 144 #[va] w (Ret (.uns (wd x) (nw x)) w):=
 (nWords (λ_=>False) va x w ha).mono λ_ _ ⟨v,e,⟨A,c,e1,h1,h2,h3,h4,_⟩,hb⟩=>⟨v,e,hb,A,c,e1,h1 _ (λ_ h=>h.elim),h2,h3,h4⟩
theorem cNatOfU(h:(MR.uns f n).R w va)(hw:Wf f n)(hn:n<=1099511627776):Calls Tryz.prog 110 #[va] w (Ret (.nat (val f n)) w):=by
 obtain⟨A,c,rfl,h1,h2,h3,h4⟩:=h
 exact(nOf (λ_=>False) A n c f w (lows0 w) h1 hw hn h4).mono λ_ _ ⟨v,e,h1,h2⟩=>⟨v,e,h2,h1⟩
theorem cCut(ha:(MR.nat x).R w va){k:Nat}(h0:0<nw x)(hk:k<=1099511627776):Calls Tryz.prog 125 #[va,.int .i64 ((k:Nat):Int)] w (Ret (.tup2 (.nat (x%2^(64*k))) (.nat (x/2^(64*k)))) w):=
 (pCut (λ_=>False) va x k w (lows0 w) ha h0 hk).mono λ_ _ ⟨v,u,e,h1,h2,hb⟩=>⟨_,e,hb,v,u,rfl,h1,h2⟩
theorem cSchool(ha:(MR.nat x).R w va)(hb:(MR.nat y).R w vb)(hs:nw x+nw y<=1099511627776):Calls Tryz.prog 124 #[va,vb] w (Ret (.nat (x*y)) w):=
 (pSchool (λ_=>False) va vb x y w (lows0 w) ha hb hs).mono λ_ _ ⟨v,e,h1,h2⟩=>⟨v,e,h2,h1⟩
end
section
variable {o:Oper} {ρ:Operand->Value} {w:World} {x y:Operand}
theorem yld_make64{k:Nat}(h:o.op=.makeSlice 70 x y)(hx:ρ x=.int .i64 ((k:Nat):Int))(hy:ρ y=.int .i64 ((k:Nat):Int))(hk:k<=35184372088832):Yld Tryz.prog o ρ w (λv w'=>Grow w w'/\(MR.row (λ_=>0) k).R w' v):=by
 unfold Yld execOp
 rw[h]
 simp only[hx,hy,Sem.run_bind,mk64 k hk,Result.andThen_ok]
 exact⟨(Grow.refl w).alloc _,_,rfl,Blk.new w _ _⟩
theorem wa_cells{f:Nat->Nat}{n:Nat}(j:Nat)(v:Value)(h:(words f n)[j]?=some v):(wa f n)[j]?=some v:=by unfold wa;simpa using h
theorem yld_append64{f g:Nat->Nat}{k n:Nat}(h:o.op=.call {callee:=.builtin .append,args:=#[x,y],argTypes:=#[70,70]})(hx:(MR.row f k).R w (ρ x))(hy:(MR.uns g n).R w (ρ y))(hk:k<=137438953472)(hn:n<=137438953472):
  Yld Tryz.prog o ρ w (λv w'=>Grow w w'/\(MR.uns (λi=>if i<k then f i else g (i-k)) (k+n)).R w' v):=by
 obtain⟨r,ex,hB⟩:=hx
 obtain⟨A,c,ey,hS,hc1,hc2,hnil⟩:=hy
 obtain⟨i0,hi0,hz0,hz1,hz2⟩:=xQ jE
 rcases Nat.eq_zero_or_pos n with rfl | hn0
 ·have hrun:(Builtin.append_ #[70,70] o.type #[.slice (some ⟨r,0,none⟩) k k,.slice A 0 c]).run Tryz.prog w=.ok (.slice (some ⟨r,0,none⟩) k k) w:=by
   cases A<;>simp[Builtin.append_,run_underlying Tryz.underlying70,sizeOf,typeInfo,hi0,Builtin.lenOf,Builtin.firstCells,storeCells,loadCells,loadCellsFrom]
  refine yQ (v:=.slice (some ⟨r,0,none⟩) k k) (by unfold execOp;rw[h];simp[resolve,invoke,builtin,ex,ey,hrun]) ⟨Grow.refl _,some ⟨r,0,none⟩,k,rfl,λi hi=>?_,by omega,by unfold maxLen;omega,λe=>by cases e⟩
  exact⟨r,0,rfl,id,hB.lt,by rw[Nat.zero_add,hB.cell,kZ f k i zo];show _=some (Value.int _ (((if i<k then f i else g (i-k):Nat)):Int));rw[if_pos zo]⟩
 ·obtain⟨ga,oa,rfl,_,_,_⟩:=hS 0 hn0
  have hrun:=run_append_grow (P:=Tryz.prog) w 70 o.type 177 i0 (.int .u64 0) Tryz.underlying70 hi0 hz0 ⟨r,0,none⟩ k k (words f k) (by rw[zQ,hz1,Nat.mul_one])
   (λj v hj=>by rw[add_plain,hB.cell,Nat.zero_add];exact wa_cells j v hj) ⟨ga,oa,none⟩ n c (words g n) (by rw[zQ,hz1,Nat.mul_one])
   (λj v hj => by
    have hlt:j<n:=by
     have:=(List.getElem?_eq_some_iff.1 hj).1
     rwa [zQ] at this
    obtain⟨g',o',e,_,_,hcell⟩:=hS j hlt
    simp only[Option.some.injEq,Addr.mk.injEq,and_true] at e
    obtain⟨rfl,rfl⟩:=e
    rw[kR g n j hlt] at hj
    rw[add_plain,hcell];exact hj)
   zo zo (growslice_fits zo (by rw[hz2];omega))
  have hcap:=grownCap_ge w (k+n) k 177
  have hcap2:=grownCap_le_maxLen w (k+n) k 177 (by unfold maxLen;omega)
  have hexec:(execOp ρ o).run Tryz.prog w=.ok (.value (.slice (some ⟨w.heap.size,0,none⟩) (k+n) (grownCap w (k+n) k 177))) (w.drew.alloc (.cells ((words f k).toArray++(words g n).toArray++Builtin.zeroCells (Value.int .u64 0).cells (grownCap w (k+n) k 177-(k+n))) 177)):=by
   unfold execOp;rw[h];simp[resolve,invoke,builtin,ex,ey,hrun]
  unfold Yld
  rw[hexec]
  refine⟨((Grow.refl w).drew).alloc _,some ⟨w.heap.size,0,none⟩,_,rfl,λi hi=>?_,hcap,hcap2,λe=>by cases e⟩
  have hb:Blk (w.drew.alloc (.cells ((words f k).toArray++(words g n).toArray++Builtin.zeroCells (Value.int .u64 0).cells (grownCap w (k+n) k 177-(k+n))) 177)) w.heap.size 177 _:=Blk.new w.drew 177 ((words f k).toArray++(words g n).toArray++Builtin.zeroCells (Value.int .u64 0).cells (grownCap w (k+n) k 177-(k+n)))
  refine⟨_,0,rfl,id,hb.lt,?_⟩
  rw[Nat.zero_add,hb.cell]
  rw[Array.getElem?_append_left (by simp[zQ];omega)]
  show _=some (Value.int _ (((if i<k then f i else g (i-k):Nat)):Int))
  by_cases hik:i<k
  ·rw[Array.getElem?_append_left (by simpa [zQ] using hik),if_pos hik]
   have:=kR f k i hik
   simpa using this
  ·rw[Array.getElem?_append_right (by simp[zQ];omega),if_neg hik]
   have:=kR g n (i-k) zo
   simpa [zQ] using this
end
open Go.RowKit
instance fzT:Fz:=⟨true,some (.iface 180 (.agg #[.pointer (some ⟨1,45,none⟩)]))⟩
theorem xM(nx k i:Nat):(zM nx [] k).get i=none:=by
 unfold zM
 split<;>cases i<;>rfl
abbrev mE (f:Nat->Nat->Rat) (n i:Nat):SV:=.sl 3 (λj=>.rat (f i j)) n
abbrev iN (n:Nat):SV:=.ex (.int .i64 ((n:Nat):Int))
abbrev bX (b:Bool):SV:=.ex (.bool b)
abbrev c2 (a b:SV):SV:=.cn a (.cn b .nl)
abbrev cC (C:Nat->Nat->Rat) (n:Nat):Hl:=.one (.row 41 1 (mE C n) n)
abbrev iZ (z:Int):SV:=.ex (.int .i64 z)
abbrev uZ (z:Int):SV:=.ex (.int .u64 z)
abbrev c3 (a b c:SV):SV:=.cn a (.cn b (.cn c .nl))
abbrev vE (f:Nat->Rat) (n:Nat):SV:=.sl 3 (λi=>.rat (f i)) n
theorem dT{p:Prop} [Decidable p]:decide p=true->p:=of_decide_eq_true
theorem dF{p:Prop} [Decidable p]:decide p=false->¬p:=of_decide_eq_false
theorem kP [Fz]{f:FuncId}{fn:Func}{c:Code}{As:List SV}{R:SV}{news:List Hl}{ch:List CE}(hf:Tryz.prog.funcs[f]?=some fn)(p:Prop)(h:p)(hb:fn.body=some c:=by exact rfl)(hn:(fn.name== "runtime.NumGoroutine")=false:=by kernel_rfl)(hl:decide (As.length<=fn.ntmps)=true:=by kernel_rfl)
  (e:p=pre (noAll As) (vc Tryz.prog fn.ntmps c (retK Tryz.prog fn R news) ⟨⟨jM 0 As,[],0⟩,ch,0⟩):=by kernel_rfl):CallOK Tryz.prog f As R news:=callOK_P hMix hf hb hn hl p e h
theorem CallOK.of_ret [Fz]{P:Program}{f:FuncId}{As:List SV}{R:SV}{m:MR}(cal:yJ P f)(hm:∀η F w v,m.R w v->R.R η F w v)(h:∀η F w vals,xY As η F w vals->Calls P f vals.toArray w (Ret m w)):CallOK P f As R []:=
 ⟨cal, λη0 F w vals hF hA => (h η0 F w vals hA).mono λe w' ⟨v, e1, g, hR⟩ => ⟨v, λ_ _ => none, e1,
  ⟨.of_grow g,(λk i o hk=>by rw[xM] at hk;cases hk),(λk i o _ _ hk=>by rw[xM] at hk;cases hk),(λk i o _ _ _ _ _ _ hk=>by rw[xM] at hk;cases hk),λ_ _ _=>rfl,hF.lt,hF.gl,λ_ h=>h⟩,hm _ _ _ _ hR⟩⟩
theorem CallOK.told{P:Program}{f:FuncId}{As:List SV}{R R':SV}{news news':List Hl}(ss:List (Nat×Src))(h:CallOK P f As R news)(hc:conj (conv ss ⟨[(0,R)],yR 0 news,news.length⟩ ⟨[(0,R')],yR 0 news',news'.length⟩)):CallOK P f As R' news':=
 ⟨h.cal, λη0 F w vals hF hA => (h.run η0 F w vals hF hA).mono λe w' ⟨v, η, e1, hp, hR⟩ => by
  have hs:(Stt.ss ⟨[(0,R)],yR 0 news,news.length⟩).own=zM 0 news:=funext λk=>newsL_lk news 0 k
  have hs':(Stt.ss ⟨[(0,R')],yR 0 news',news'.length⟩).own=zM 0 news':=funext λk=>newsL_lk news' 0 k
  have hS2:Sat (λ_=>False) F w 1 (Stt.ss ⟨[(0,R)],yR 0 news,news.length⟩) η ⟨#[v],[]⟩ w':=⟨by rw[hs];exact hp,λt=>by
   rw[hs]
   show(if t=0 then R else SV.any).R _ _ _ _
   split
   ·rename_i e;subst e;exact hR
   ·trivial,rfl,rfl⟩
  have hC:=hS2.conv hc
  have h1:=hC.hp
  have h2:=hC.sl 0
  rw[hs'] at h1 h2
  exact⟨v,etaC ss η,e1,h1,h2⟩⟩
theorem CallOK.frzV{P:Program}{f:FuncId}{As:List SV}{T:TypeId}{n:Nat}{q:Nat->Rat}(h:CallOK P f As (.own 0 0) [.one (.row T 3 (λi=>.rat (q i)) n)]):CallOK P f As (.sl 3 (λi=>.rat (q i)) n) []:=
 h.told [] (Eq.mp (α:=n=n/\∀j,j<n->q j=q j) zk ⟨rfl,λ_ _=>rfl⟩)
theorem CallOK.frzV2{P:Program}{f:FuncId}{As:List SV}{T:TypeId}{n:Nat}{q:Nat->Rat}{b:Bool}(h:CallOK P f As (.cn (.own 0 0) (.cn (.ex (.bool b)) .nl)) [.one (.row T 3 (λi=>.rat (q i)) n)]):CallOK P f As (.cn (.sl 3 (λi=>.rat (q i)) n) (.cn (.ex (.bool b)) .nl)) []:=
 h.told [] (Eq.mp (α:=n=n/\(∀j,j<n->q j=q j)/\b=b) zk ⟨rfl,λ_ _=>rfl,rfl⟩)
def SV.nf:SV->Prop
 | .nat _=>False
 | .int _=>False
 | .rat _=>False
 | .sl _ E _=>∀i,(E i).nf
 | .ep a=>a.nf
 | .cn a b=>a.nf/\b.nf
 | .agg l=>l.nf
 | .opt _ a=>a.nf
 | .ifc _ a=>a.nf
 | .alt _ a b=>a.nf/\b.nf
 | _=>True
theorem SV.nf_ok{i j:Fz}{η:Eta}{A:Nat->Prop}{w:World}:∀(a:SV) (v:Value),a.nf->@SV.R i a η A w v->@SV.R j a η A w v:=by
 intro a
 induction a with
 | nat x=>intro _ h;exact h.elim
 | int x=>intro _ h;exact h.elim
 | rat x=>intro _ h;exact h.elim
 | sl s E n ih=>
  rintro v h ⟨A0,c,e,h0,h1,h2,k⟩
  refine⟨A0,c,e,h0,h1,h2,λi hi=>?_⟩
  obtain⟨g,o,e1,e2,e3,e0,e4,e5,e6⟩:=k i hi
  exact⟨g,o,e1,e2,e3,e0,e4,ih i _ (h i) e5,e6⟩
 | ep a ih=>
  rintro v h ⟨g,o,e1,e2,e3,e0,e5,e6⟩
  exact⟨g,o,e1,e2,e3,e0,ih _ h e5,e6⟩
 | cn a b iha ihb=>
  rintro v h ⟨x,xs,e,h1,h2⟩
  exact⟨x,xs,e,iha _ h.1 h1,ihb _ h.2 h2⟩
 | agg l ih=>
  rintro v h ⟨vs,e,h1⟩
  exact⟨vs,e,ih _ h h1⟩
 | opt c a ih=>
  rintro v h ⟨h1,h2⟩
  exact⟨λhc=>ih _ h (h1 hc),h2⟩
 | ifc T a ih=>
  rintro v h ⟨u,e,h1⟩
  exact⟨u,e,ih _ h h1⟩
 | alt c a b iha ihb=>
  rintro v h ⟨h1,h2⟩
  exact⟨λhc=>iha _ h.1 (h1 hc),λhc=>ihb _ h.2 (h2 hc)⟩
 | _=>intro _ _ h;exact h
def nfs:List SV->Prop
 | []=>True
 | a::l=>a.nf/\nfs l
theorem args_nf{i j:Fz}{η:Eta}{F:Nat->Prop}{w:World}:∀(As:List SV) (vs:List Value),nfs As->@xY i As η F w vs->@xY j As η F w vs
 | [],[],_,_=>trivial
 | a::l,v::vs,hn,h=>⟨SV.nf_ok a v hn.1 h.1,args_nf l vs hn.2 h.2⟩
 | [],_::_,_,h=>h.elim
 | _::_,[],_,h=>h.elim
theorem av_nil{F:Nat->Prop}{η:Eta}:Av F (zM 0 []) η=F:=funext λb=>propext ⟨λh=>h.elim id (λ⟨k,i,o,_,h1,_⟩=>by rw[xM] at h1;cases h1),.inl⟩
theorem CallOK.off{P:Program}{f:FuncId}{As:List SV}{R:SV}(h:@CallOK ⟨false,none⟩ P f As R [])(hA:nfs As)(hR:R.nf):CallOK P f As R []:=
 ⟨@CallOK.cal ⟨false, none⟩ _ _ _ _ _ h, λη0 F w vals hF ha => (@CallOK.run ⟨false, none⟩ _ _ _ _ _ h η0 F w vals (@Fl.mk ⟨false, none⟩ F w hF.lt λ_ e => by cases e) (args_nf As vals hA ha)).mono λe w' ⟨v, η, e1, hp, hr⟩ => ⟨v, η, e1,
  ⟨.of_grow (@ModM.grow ⟨false, none⟩ _ _ (@Hp.mod ⟨false, none⟩ _ _ _ _ _ _ hp)), (λk i o hk => by rw [xM] at hk; cases hk), (λk i o _ _ hk => by rw [xM] at hk; cases hk), (λk i o _ _ _ _ _ _ hk => by rw [xM] at hk; cases hk), λk i hk => @Hp.born ⟨false, none⟩ _ _ _ _ _ _ hp k i hk, hF.lt, hF.gl, λ_ h => h⟩, by
   rw[av_nil] at hr⊢
   exact SV.nf_ok R v hR hr⟩⟩
theorem CallOK.args{P:Program}{f:FuncId}{As As':List SV}{R:SV}{news:List Hl}(h:CallOK P f As R news)(hA:∀η F w vals,xY As' η F w vals->xY As η F w vals):CallOK P f As' R news:=
 ⟨h.cal,λη0 F w vals hF ha=>h.run η0 F w vals hF (hA _ _ _ _ ha)⟩
theorem CallOK.res{P:Program}{f:FuncId}{As:List SV}{R R':SV}(h:CallOK P f As R [])(hR:∀η A w v,R.R η A w v->R'.R η A w v):CallOK P f As R' []:=
 ⟨h.cal,λη0 F w vals hF ha=>(h.run η0 F w vals hF ha).mono λ_ _ ⟨v,η,e1,hp,hr⟩=>⟨v,η,e1,hp,hR _ _ _ _ hr⟩⟩
theorem CallOK.ret [Fz]{P:Program}{f:FuncId}{As:List SV}{R:SV}{m:MR}(h:CallOK P f As R [])(hm:∀η A w v,R.R η A w v->m.R w v){w:World}{vals:List Value}(hA:xY As (λ_ _=>none) (λ_=>False) w vals)(hg:Gl w:=by intro _ e;cases e):Calls P f vals.toArray w (Ret m w):=
 (h.run (λ_ _=>none) (λ_=>False) w vals ⟨λ_ h=>h.elim,hg⟩ hA).mono λ_ _ ⟨v,_,e1,hp,hR⟩=>⟨v,e1,hp.mod.grow,hm _ _ _ _ hR⟩
theorem int_open{z:Int}{η:Eta}{A:Nat->Prop}{w:World}{v:Value}(h:(SV.int z).R η A w v):(SV.agg (.cn (.ex (.bool (decide (z<0)))) (.cn (.nat z.natAbs) .nl))).R η A w v:=by
 obtain⟨⟨s,rfl,h⟩,on⟩:=h
 exact⟨[.bool _,.agg #[s]],rfl,_,_,rfl,rfl,_,_,rfl,⟨h,on⟩,rfl⟩
theorem rat_open{q:Rat}{η:Eta}{A:Nat->Prop}{w:World}{v:Value}(h:(SV.rat q).R η A w v):(SV.agg (.cn (.int q.num) (.cn (.nat (denW q)) .nl))).R η A w v:=by
 obtain⟨⟨s,t,rfl,h1,h2⟩,on⟩:=h
 exact⟨[.agg #[.bool _,s],.agg #[t]],rfl,_,_,rfl,⟨⟨s,rfl,h1⟩,on⟩,_,_,rfl,⟨h2,on⟩,rfl⟩
theorem rat_close{q:Rat}{η:Eta}{A:Nat->Prop}{w:World}{v:Value}(h:(SV.agg (.cn (.int q.num) (.cn (.nat (denW q)) .nl))).R η A w v):(SV.rat q).R η A w v:=by
 obtain⟨vs,rfl,x,xs,e,⟨⟨s,rfl,h1⟩,_⟩,y,ys,e2,⟨hn,on⟩,e3⟩:=h
 obtain rfl:=tup_inj e
 obtain rfl:=tup_inj e2
 obtain rfl:ys=[]:=tup_inj e3
 have hn':=hn
 obtain⟨B,c,rfl,_⟩:=hn
 exact⟨⟨s,_,rfl,h1,hn'⟩,on⟩
theorem rat_close1{q:Rat}(hd:q.den=1){η:Eta}{A:Nat->Prop}{w:World}{v:Value}(h:(SV.agg (.cn (.int q.num) (.cn (.ex (.slice none 0 0)) .nl))).R η A w v):(SV.rat q).R η A w v:=by
 obtain⟨vs,rfl,x,xs,e,⟨⟨s,rfl,h1⟩,on⟩,y,ys,e2,rfl,e3⟩:=h
 obtain rfl:=tup_inj e
 obtain rfl:=tup_inj e2
 obtain rfl:ys=[]:=tup_inj e3
 exact⟨⟨s,_,rfl,h1,by unfold denW;rw[if_pos hd];exact NatAt.zero _ w⟩,on⟩
theorem argI1{z:Int}{η:Eta}{F:Nat->Prop}{w:World}:∀vals,xY [.int z] η F w vals->xY [.agg (.cn (.ex (.bool (decide (z<0)))) (.cn (.nat z.natAbs) .nl))] η F w vals
 | [_],h=>⟨int_open h.1,trivial⟩
 | [],h=>h.elim
 | _::_::_,h=>h.2.elim
theorem argI2{y z:Int}{η:Eta}{F:Nat->Prop}{w:World}:∀vals,xY [.int y,.int z] η F w vals->xY [.agg (.cn (.ex (.bool (decide (y<0)))) (.cn (.nat y.natAbs) .nl)),.agg (.cn (.ex (.bool (decide (z<0)))) (.cn (.nat z.natAbs) .nl))] η F w vals
 | [_,_],h=>⟨int_open h.1,int_open h.2.1,trivial⟩
 | [],h=>h.elim
 | [_],h=>h.2.elim
 | _::_::_::_,h=>h.2.2.elim
theorem argQ1{q:Rat}{η:Eta}{F:Nat->Prop}{w:World}:∀vals,xY [.rat q] η F w vals->xY [.agg (.cn (.int q.num) (.cn (.nat (denW q)) .nl))] η F w vals
 | [_],h=>⟨rat_open h.1,trivial⟩
 | [],h=>h.elim
 | _::_::_,h=>h.2.elim
theorem argQ2{p q:Rat}{η:Eta}{F:Nat->Prop}{w:World}:∀vals,xY [.rat p,.rat q] η F w vals->xY [.agg (.cn (.int p.num) (.cn (.nat (denW p)) .nl)),.agg (.cn (.int q.num) (.cn (.nat (denW q)) .nl))] η F w vals
 | [_,_],h=>⟨rat_open h.1,rat_open h.2.1,trivial⟩
 | [],h=>h.elim
 | [_],h=>h.2.elim
 | _::_::_::_,h=>h.2.2.elim
theorem sNatCmp{x y:Nat}:CallOK Tryz.prog 84 [.nat x,.nat y] (.ex (.int .i64 (cmpV ((x:Nat):Int) ((y:Nat):Int)))) []:=by
 refine .of_ret (m:=.eq (.int .i64 (cmpV x y))) (zL Tryz.func84 rfl zk) (λ_ _ _ v h=>h) λη F w vals h=>?_
 match vals,h with
 | [v0,v1],h=>exact cNatCmp h.1.1 h.2.1.1
theorem sNatAdd{x y:Nat}(hs:Small (x+y)):CallOK Tryz.prog 126 [.nat x,.nat y] (.nat (x+y)) []:=by
 refine .of_ret (m:=.nat (x+y)) (zL Tryz.func126 rfl zk) (λ_ _ _ v h=>⟨h,rfl⟩) λη F w vals h=>?_
 match vals,h with
 | [v0,v1],h=>exact cNatAdd h.1.1 h.2.1.1 hs
theorem sNatSub{x y:Nat}:CallOK Tryz.prog 127 [.nat x,.nat y] (.cn (.nat (x-y)) (.cn (.ex (.bool (decide (y<=x)))) (.nl))) []:=by
 refine .of_ret (m:=.tup2 (.nat (x-y)) (.eq (.bool (decide (y<=x))))) (zL Tryz.func127 rfl zk) (λ_ _ _ v h=>by obtain⟨x,y,rfl,h1,h2⟩:=h;exact⟨x,[y],rfl,⟨h1,rfl⟩,y,[],rfl,h2,rfl⟩) λη F w vals h=>?_
 match vals,h with
 | [v0,v1],h=>exact cNatSub h.1.1 h.2.1.1
theorem sNatLen{x:Nat}:CallOK Tryz.prog 123 [.nat x] (.ex (.int .i64 ((nw x:Nat):Int))) []:=by
 refine .of_ret (m:=.eq (.int .i64 ((nw x:Nat):Int))) (zL Tryz.func123 rfl zk) (λ_ _ _ v h=>h) λη F w vals h=>?_
 match vals,h with
 | [v0],h=>exact cNatLen h.1.1
theorem sNatUint{x:Nat}:CallOK Tryz.prog 141 [.nat x] (.cn (.ex (.int .u64 ((uintV x:Nat):Int))) (.cn (.ex (.bool (xI x))) (.nl))) []:=by
 refine .of_ret (m:=.tup2 (.eq (.int .u64 ((uintV x:Nat):Int))) (.eq (.bool (xI x)))) (zL Tryz.func141 rfl zk) (λ_ _ _ v h=>by obtain⟨x,y,rfl,h1,h2⟩:=h;exact⟨x,[y],rfl,h1,y,[],rfl,h2,rfl⟩) λη F w vals h=>?_
 match vals,h with
 | [v0],h=>exact cNatUint h.1.1
theorem sNatZero{x:Nat}:CallOK Tryz.prog 101 [.nat x] (.ex (.bool (decide (x=0)))) []:=by
 refine .of_ret (m:=.eq (.bool (decide (x=0)))) (zL Tryz.func101 rfl zk) (λ_ _ _ v h=>h) λη F w vals h=>?_
 match vals,h with
 | [v0],h=>exact cNatZero h.1.1
theorem jG{b:Bool}{x:Nat}:CallOK Tryz.prog 103 [.ex (.bool b),.nat x] (.int (signed b x)) []:=by
 refine .of_ret (m:=.int (signed b x)) (zL Tryz.func103 rfl zk) (λ_ _ _ v h=>⟨h,rfl⟩) λη F w vals h=>?_
 match vals,h with
 | [v0,v1],h=>exact(by obtain rfl:=h.1;exact cNew h.2.1.1)
theorem sSchool{x y:Nat}(hs:nw x+nw y<=1099511627776):CallOK Tryz.prog 124 [.nat x,.nat y] (.nat (x*y)) []:=by
 refine .of_ret (m:=.nat (x*y)) (zL Tryz.func124 rfl zk) (λ_ _ _ v h=>⟨h,rfl⟩) λη F w vals h=>?_
 match vals,h with
 | [v0,v1],h=>exact cSchool h.1.1 h.2.1.1 hs
theorem sNatOf{f:Nat->Nat}{n:Nat}(hn:n<=1099511627776)(hw:Wf f n):CallOK Tryz.prog 110 [.sl 1 (λi=>.ex (.int .u64 ((f i:Nat):Int))) n] (.nat (val f n)) []:=by
 refine .of_ret (m:=.nat (val f n)) (zL Tryz.func110 rfl zk) (λ_ _ _ v h=>⟨h,rfl⟩) λη F w vals h=>?_
 match vals,h with
 | [v0],h=>
  obtain⟨A,c,rfl,h1,h2,h3,h4⟩:=h.1
  exact(nOf (λ_=>False) A n c f w (lows0 w) (λi hi=>by
   obtain⟨g,o,ea,hg,hl,e,⟨hs,ho⟩,he,hc⟩:=h4 i hi
   obtain rfl:e=.int .u64 ((f i:Nat):Int):=he
   exact⟨g,o,ea,id,hl,by have:=hc 0 (.int .u64 ((f i:Nat):Int)) rfl;rw[show o+1*i+0=o+i by omega] at this;exact this⟩) hw hn h1).mono λ_ _ ⟨v,e,h1,h2⟩=>⟨v,e,h2,h1⟩
theorem sNatOf1{k:Nat}(hk:k<18446744073709551616):CallOK Tryz.prog 110 [.sl 1 (λ_=>.ex (.int .u64 ((k:Nat):Int))) 1] (.nat k) []:=by
 have h:=sNatOf (f:=λ_=>k) (n:=1) (by decide) (λ_ _=>hk)
 have e:val (λ_=>k) 1=k:=by simp[val]
 rw[e] at h
 exact h
open Go.RowKit
def gq (u2 u1 u0 v1 v0:Nat):Nat:=min 18446744073709551615 (((u2*18446744073709551616+u1)*18446744073709551616+u0)/(v1*18446744073709551616+v0))
def GInv (u2 u1 u0 v1 v0 q r:Nat):Prop:=q<18446744073709551616/\r<18446744073709551616/\r+q*v1=u2*18446744073709551616+u1/\gq u2 u1 u0 v1 v0<=q
section
variable {u2 u1 u0 v1 v0 q r:Nat}
theorem gq_of(hv:0<v1)(hq:q<18446744073709551616)(h1:gq u2 u1 u0 v1 v0<=q)(h2:q*(v1*18446744073709551616+v0)<=(u2*18446744073709551616+u1)*18446744073709551616+u0):q=gq u2 u1 u0 v1 v0:=by
 have h3:q<=((u2*18446744073709551616+u1)*18446744073709551616+u0)/(v1*18446744073709551616+v0):=(Nat.le_div_iff_mul_le zo).2 h2
 have h4:q<=gq u2 u1 u0 v1 v0:=by unfold gq;omega
 omega
theorem lin_le{q v1 v0 r U:Nat}(h:r+q*v1=U)(u0:Nat):q*(v1*18446744073709551616+v0)<=U*18446744073709551616+u0↔q*v0<=r*18446744073709551616+u0:=by
 subst h
 rw[Nat.mul_add,←Nat.mul_assoc,Nat.add_mul]
 omega
theorem g_start_yes(h:u2<v1)(h1:u1<18446744073709551616)(hv1:v1<18446744073709551616)(h0:u0<18446744073709551616):GInv u2 u1 u0 v1 v0 (divQ u2 u1 v1) (divR u2 u1 v1):=by
 have hq:divQ u2 u1 v1<18446744073709551616:=by
  unfold divQ
  rw[Nat.div_lt_iff_lt_mul zo]
  have:(u2+1)*18446744073709551616<=v1*18446744073709551616:=Nat.mul_le_mul_right _ h
  rw[Nat.mul_comm 18446744073709551616 v1]
  omega
 have hr:divR u2 u1 v1<v1:=Nat.mod_lt _ zo
 have he:divR u2 u1 v1+divQ u2 u1 v1*v1=u2*18446744073709551616+u1:=by
  unfold divR divQ
  have:=Nat.mod_add_div (u2*18446744073709551616+u1) v1
  rw[Nat.mul_comm v1] at this
  exact this
 refine⟨hq,by omega,he,?_⟩
 have:((u2*18446744073709551616+u1)*18446744073709551616+u0)/(v1*18446744073709551616+v0)<divQ u2 u1 v1+1:=by
  rw[Nat.div_lt_iff_lt_mul zo]
  have e:(divQ u2 u1 v1+1)*(v1*18446744073709551616+v0)=(divQ u2 u1 v1+1)*v1*18446744073709551616+(divQ u2 u1 v1+1)*v0:=by rw[Nat.mul_add,Nat.mul_assoc]
  rw[e]
  have h5:u2*18446744073709551616+u1+1<=(divQ u2 u1 v1+1)*v1:=by rw[Nat.add_mul,Nat.one_mul];omega
  have h6:=Nat.mul_le_mul_right 18446744073709551616 h5
  omega
 unfold gq;omega
theorem g_over(he:u2=v1)(hv0:v0<18446744073709551616)(h:18446744073709551616<=u1+v1)(hv:0<v1):18446744073709551615=gq u2 u1 u0 v1 v0:=by
 subst he
 refine gq_of hv zo (by unfold gq;omega) ?_
 rw[lin_le (r:=u1+u2) (U:=u2*18446744073709551616+u1) zo]
 omega
theorem g_start_no(he:u2=v1)(h:u1+v1<18446744073709551616):GInv u2 u1 u0 v1 v0 18446744073709551615 (u1+v1):=by
 subst he
 refine⟨by omega,h,by omega,by unfold gq;omega⟩
theorem g_done(hv:0<v1)(hi:GInv u2 u1 u0 v1 v0 q r)(h:q*v0<=r*18446744073709551616+u0):q=gq u2 u1 u0 v1 v0:=
 gq_of hv hi.1 hi.2.2.2 ((lin_le hi.2.2.1 u0).2 h)
theorem g_less(hv:0<v1)(hi:GInv u2 u1 u0 v1 v0 q r)(h:r*18446744073709551616+u0<q*v0):0<q/\gq u2 u1 u0 v1 v0<=q-1:=by
 unfold gq
 have h1:¬q*(v1*18446744073709551616+v0)<=(u2*18446744073709551616+u1)*18446744073709551616+u0:=λhh=>by
  have:=(lin_le hi.2.2.1 u0).1 hh
  omega
 have h2:((u2*18446744073709551616+u1)*18446744073709551616+u0)/(v1*18446744073709551616+v0)<q:=(Nat.div_lt_iff_lt_mul zo).2 (Nat.lt_of_not_le h1)
 have h3:0<q:=Nat.lt_of_le_of_lt (Nat.zero_le _) h2
 clear h1 h hi
 generalize ((u2*18446744073709551616+u1)*18446744073709551616+u0)/(v1*18446744073709551616+v0)=z at*
 exact⟨h3,by omega⟩
theorem g_down(hv:0<v1)(hi:GInv u2 u1 u0 v1 v0 q r)(h:r*18446744073709551616+u0<q*v0)(hr:r+v1<18446744073709551616):GInv u2 u1 u0 v1 v0 (q-1) (r+v1):=by
 obtain⟨h1,h2⟩:=g_less hv hi h
 obtain⟨a1,a2,a3,a4⟩:=hi
 refine⟨by omega,hr,?_,h2⟩
 obtain⟨p,rfl⟩:∃p,q=p+1:=⟨q-1,by omega⟩
 rw[Nat.add_mul,Nat.one_mul] at a3
 rw[Nat.add_sub_cancel];omega
theorem g_down_over(hv:0<v1)(hv0:v0<18446744073709551616)(hi:GInv u2 u1 u0 v1 v0 q r)(h:r*18446744073709551616+u0<q*v0)(hr:18446744073709551616<=r+v1):q-1=gq u2 u1 u0 v1 v0:=by
 obtain⟨h1,h2⟩:=g_less hv hi h
 obtain⟨a1,a2,a3,a4⟩:=hi
 obtain⟨p,rfl⟩:∃p,q=p+1:=⟨q-1,by omega⟩
 rw[Nat.add_mul,Nat.one_mul] at a3
 rw[Nat.add_sub_cancel] at*
 refine gq_of hv zo h2 ((lin_le (r:=r+v1) zo u0).2 ?_)
 have e1:p*v0<=18446744073709551615*v0:=Nat.mul_le_mul_right _ zo
 have e2:18446744073709551616*18446744073709551616<=(r+v1)*18446744073709551616:=Nat.mul_le_mul_right _ hr
 omega
end
theorem knuth{U V W P B qh:Nat}(hW:0<W)(hP:0<P)(hB:0<B)(hV:B*W<=V)(hU:U<V*(B*P))(hq:qh=min (B-1) (U/(W*P)/(V/W))):
  U<(qh+1)*(V*P)/\qh*(V*P)<=U+V*P:=by
 have hVW:0<V/W:=Nat.div_pos (Nat.le_trans (Nat.le_mul_of_pos_left W hB) hV) hW
 have hWP:0<W*P:=Nat.mul_pos hW hP
 constructor
 ·by_cases h:B-1<=U/(W*P)/(V/W)
  ·have:qh+1=B:=by omega
   rw[this,Nat.mul_left_comm];exact hU
  ·have h1:U/(W*P)/(V/W)<qh+1:=by omega
   rw[Nat.div_lt_iff_lt_mul hVW] at h1
   have h2:U/(W*P)<(qh+1)*(V/W):=h1
   have h3:U<(qh+1)*(V/W)*(W*P):=(Nat.div_lt_iff_lt_mul hWP).1 h2
   refine Nat.lt_of_lt_of_le h3 ?_
   rw[Nat.mul_assoc]
   refine Nat.mul_le_mul_left _ ?_
   rw[←Nat.mul_assoc]
   exact Nat.mul_le_mul_right _ (Nat.div_mul_le_self _ _)
 ·have h1:qh<=U/(W*P)/(V/W):=by omega
  have h2:qh*(V/W)<=U/(W*P):=(Nat.le_div_iff_mul_le hVW).1 h1
  have h3:qh*(V/W)*(W*P)<=U:=(Nat.le_div_iff_mul_le hWP).1 h2
  have h4:V<=V/W*W+W:=by
   have:=Nat.mod_add_div V W
   have h5:=Nat.mod_lt V hW
   rw[Nat.mul_comm (V/W)];omega
  have h5:qh*(V*P)<=qh*((V/W*W+W)*P):=Nat.mul_le_mul_left _ (Nat.mul_le_mul_right _ h4)
  have h6:qh*((V/W*W+W)*P)=qh*(V/W)*(W*P)+qh*W*P:=by
   rw[Nat.add_mul,Nat.mul_add];congr 1<;>simp only[Nat.mul_assoc]
  have h7:qh*W*P<=V*P:=Nat.mul_le_mul_right _ (Nat.le_trans (Nat.mul_le_mul_right _ zo) hV)
  omega
theorem high_zero{f:Nat->Nat}{N j:Nat}(hw:Wf f N)(h:val f N<2^(64*j)):∀i,j<=i->i<N->f i=0:=λi h1 h2=>by
 rw[←wd_val f N i hw h2]
 exact wd_high _ _ (Nat.le_trans ((kD _ _).2 h) h1)
theorem low_of_zero{f:Nat->Nat}{N j:Nat}(hw:Wf f N)(hj:j<=N)(h:∀i,j<=i->i<N->f i=0):val f N<2^(64*j):=by
 rw[val_ext f j N hj h]
 exact val_lt f j λi hi=>hw i zo
theorem div_add_small{a b c:Nat}(h:a<b):(a+c*b)/b=c:=by
 rw[Nat.add_mul_div_right _ _ zo,Nat.div_eq_of_lt h,Nat.zero_add]
theorem top3{f:Nat->Nat}{N j:Nat}(hw:Wf f N)(hj:j+3<=N)(h:val f N<2^(64*(j+3))):val f N/2^(64*j)=(f (j+2)*18446744073709551616+f (j+1))*18446744073709551616+f j:=by
 have e:val f N=val f j+((f (j+2)*18446744073709551616+f (j+1))*18446744073709551616+f j)*2^(64*j):=by
  rw[val_ext f (j+3) N hj (high_zero hw h),val,val,val,p64 (j+1),p64 j]
  simp only[Nat.add_mul,Nat.mul_assoc]
  omega
 rw[e,div_add_small (val_lt f j λi hi=>hw i zo)]
theorem top2{V m:Nat}(h:nw V<=m+2):V/2^(64*m)=wd V (m+1)*18446744073709551616+wd V m:=by
 have e:V=val (wd V) m+(wd V (m+1)*18446744073709551616+wd V m)*2^(64*m):=by
  have h1:=jD V (m+2) h
  rw[val,val,p64 m] at h1
  simp only[Nat.add_mul,Nat.mul_assoc]
  omega
 have h2:=div_add_small (c:=wd V (m+1)*18446744073709551616+wd V m) (val_lt (wd V) m (wf_wd V m))
 rw[←e] at h2
 exact h2
open Go.RowKit
structure Mod (g:Nat) (w w':World):Prop where
 os:w'.os=w.os
 tape:w'.tape=w.tape
 output:w'.output=w.output
 size:w.heap.size<=w'.heap.size
 block:∀k,k<w.heap.size->k≠g->w'.heap[k]?=w.heap[k]?
section
variable {g:Nat} {a b c w w':World} {F:Nat->Prop} {x:Nat} {v:Value}
theorem Mod.refl(g:Nat)(w:World):Mod g w w:=⟨rfl,rfl,rfl,Nat.le_refl _,λ_ _ _=>rfl⟩
theorem Mod.step(h:Mod g a b)(k:Mod g b c):Mod g a c:=
 ⟨k.os.trans h.os,k.tape.trans h.tape,k.output.trans h.output,Nat.le_trans h.size k.size,λi hi hg=>(k.block i (Nat.lt_of_lt_of_le hi h.size) hg).trans (h.block i hi hg)⟩
theorem Grow.toMod(g:Nat)(h:Grow a b):Mod g a b:=⟨h.os,h.tape,h.output,h.size,λk hk _=>h.block k hk⟩
theorem Mod.trans(h:Mod g a b)(k:Grow b c):Mod g a c:=h.step (k.toMod g)
theorem Put.toMod(p:Put a b g):Mod g a b:=⟨p.os,p.tape,p.output,by rw[p.size];exact Nat.le_refl _,λk _ hk=>p.other k hk⟩
theorem Grow.mod(h:Grow w a)(m:Mod g a b)(hg:w.heap.size<=g):Grow w b:=
 Below.trans h ⟨m.os,m.tape,m.output,m.size,λi hi=>m.block i (Nat.lt_of_lt_of_le hi h.size) zo⟩
def MR.natF (F:Nat->Prop) (x:Nat):MR:=⟨λw v=>NatAt F w v x,λh k=>NatAt.keep k (Keeps.of_below h)⟩
theorem natF_mod(h:(MR.natF F x).R w v)(m:Mod g w w')(hF:F g):(MR.natF F x).R w' v:=
 NatAt.keep h ⟨m.size,λk hk hf=>m.block k hk λe=>hf (e▸hF)⟩
theorem Box.mod{k:Nat}{T:TypeId}(h:Box w k T (.natF F x))(m:Mod g w w')(hF:F g)(hne:k≠g):Box w' k T (.natF F x):=by
 obtain⟨v,hb,h⟩:=h
 exact⟨v,(m.block k hb.lt hne).trans hb,natF_mod h m hF⟩
theorem Box.natF{k:Nat}{T:TypeId}(h:Box w k T (.nat x))(hF:∀k,F k->w.heap.size<=k):Box w k T (.natF F x):=by
 obtain⟨v,hb,h⟩:=h
 exact⟨v,hb,NatAt.own h λk hk=>.inr (hF k hk)⟩
theorem Blk.mod{k:Nat}{t:TypeId}{cs:Array Value}(h:Blk w k t cs)(m:Mod g w w')(hne:k≠g):Blk w' k t cs:=(m.block k h.lt hne).trans h
theorem jN{F:Nat->Prop}{x:Nat}:Shape (.natF F x) 1:=λ{w v} h=>by
 obtain⟨A,c,rfl,_⟩:NatAt _ w v x:=h
 exact⟨_,rfl,rfl,by simp[Value.oneCell']⟩
theorem St.natF{B:Nat}{F:Nat->Prop}{x:Nat}:St B (.natF F x):=λ{w w' v} e h=>by
 obtain⟨A,c,rfl,h1,h2,hs,h3⟩:NatAt _ w v x:=h
 refine⟨A,c,rfl,h1,h2,hs,λi hi=>?_⟩
 obtain⟨g,o,e',⟨hf,hu⟩,hl,hc⟩:=h3 i hi
 exact⟨g,o,e',⟨hf,hu.ext e⟩,Nat.lt_of_lt_of_le hl e.1,(World.cell?_of_block (w:=w) (e.2.1 g hu)).trans hc⟩
theorem cLenF(ha:(MR.natF F x).R w v):Calls Tryz.prog 123 #[v] w (Ret (.eq (.int .i64 ((nw x:Nat):Int))) w):=
 (nLen F v x w ha).mono λ_ _ ⟨e,h2⟩=>⟨_,e,h2,rfl⟩
theorem cWordF{k:Nat}(ha:(MR.natF F x).R w v):Calls Tryz.prog 143 #[v,.int .i64 ((k:Nat):Int)] w (Ret (.eq (.int .u64 ((wd x k:Nat):Int))) w):=
 (nWord F v x k zo w ha).mono λ_ _ ⟨e,h2⟩=>⟨_,e,h2,by simp;rfl⟩
end
def RetB (g L:Nat) (Φ:Value->(Nat->Nat)->Prop) (w:World) (e:Ending) (w':World):Prop:=∃v f,e=.returned v/\Mod g w w'/\Blk w' g 177 (wa f L)/\Φ v f
section
variable {P:Program} {fn:Func} {w0 w:World} {a:Act} {s g L:Nat} {f:Nat->Nat} {Φ:Value->(Nat->Nat)->Prop}
theorem body_slotB(hr:fn.results=#[.tmp s])(hW:Mod g w0 w)(hB:Blk w g 177 (wa f L))(hΦ:Φ (a.tmps.getD s undef) f)(hd:a.defers=[]):bodyPost P fn (RetB g L Φ w0) .ret a w:=by
 refine bodyPost_ret (v:=a.tmps.getD s undef) ?_ hd ⟨_,f,rfl,hW,hB,hΦ⟩
 unfold results
 rw[hr]
 simp
theorem body_noneB(hr:fn.results=#[])(hW:Mod g w0 w)(hB:Blk w g 177 (wa f L))(hΦ:∀v,Φ v f)(hd:a.defers=[]):bodyPost P fn (RetB g L Φ w0) .ret a w:=by
 refine bodyPost_ret (v:=.tuple #[]) ?_ hd ⟨_,f,rfl,hW,hB,hΦ _⟩
 unfold results
 rw[hr]
 simp
end
section
variable {o:Oper} {ρ:Operand->Value} {w:World} {x y:Operand} {f:Nat->Nat} {g oo n c i k L:Nat} {z:Int}
theorem yL(h:o.op=.indexAddr 70 x y)(hx:ρ x=.slice (some ⟨g,oo,none⟩) n c)(hy:ρ y=.int .i64 z)(hz:z=((k:Nat):Int))(hk:k<n){j:Nat}(hj:oo+k=j):Yld Tryz.prog o ρ w (λv w'=>Grow w w'/\(MR.eq (.pointer (some ⟨g,j,none⟩))).R w' v):=by
 subst hj
 obtain⟨i0,hi0,_,hz1,_⟩:=xQ jE
 have hrun:(execOp ρ o).run Tryz.prog w=.ok (.value (.pointer (some ⟨g,oo+k,none⟩))) w:=by
  unfold execOp
  rw[h]
  have h1:(0:Int)<=(k:Int)/\(k:Int)<(n:Int):=by omega
  simp[Instr.indexAt,hx,hy,hz,asIntOf,run_underlying Tryz.underlying70,sizeOf,typeInfo,hi0,hz1,hk,add_plain]
 exact yQ hrun ⟨Grow.refl _,rfl⟩
theorem kJ(h:o.op=.load 177 x)(hx:ρ x=.pointer (some ⟨g,i,none⟩))(hB:Blk w g 177 (wa f L))(hi:i<L):Yld Tryz.prog o ρ w (λv w'=>Grow w w'/\(MR.eq (.int .u64 ((f i:Nat):Int))).R w' v):=by
 have hc:w.cell? ⟨g,i,none⟩=some (.int .u64 (f i:Nat)):=by rw[hB.cell,kZ f L i hi]
 exact yld_load (v:=.int .u64 ((f i:Nat):Int)) h (by rw[hx];simp[Instr.loadAt,Instr.sureAddr,loadVar,Sem.run_bind,hc]) ⟨Grow.refl _,rfl⟩
theorem jL{v:Nat}{Φ:Value->World->Prop}(h:o.op=.store 177 x y)(hx:ρ x=.pointer (some ⟨g,i,none⟩))(hy:ρ y=.int .u64 ((v:Nat):Int))(hB:Blk w g 177 (wa f L))(hi:i<L)
  (K:∀w',Put w w' g->Blk w' g 177 (wa (upd f i v) L)->Φ undef w'):Yld Tryz.prog o ρ w Φ:=by
 have hc:w.cell? ⟨g,i,none⟩=some (.int .u64 (f i:Nat)):=by rw[hB.cell,kZ f L i hi]
 have hf:=hB.frozen i
 refine yld_store (w':=w.setCell ⟨g,i,none⟩ (.int .u64 (v:Nat))) h ?_ (K _ ?_ ?_)
 ·rw[hx,hy];simp[Instr.storeAt,Instr.sureAddr,storeVar,Sem.run_bind,Value.cells,storeCells,add_plain];rw[run_store (hv:=rfl)];simp[hc,hf]
 ·exact⟨by simp[World.setCell],λk hk=>Below.heap_setCell w _ _ k hk,rfl,rfl,rfl⟩
 ·rw[←wa_upd];exact hB.set_ i _
theorem yld_sliceE{p q:Int}{l r:Nat}{x2 y2:Operand}(h:o.op=.slice 70 x (some x2) (some y2) none)(hx:ρ x=.slice (some ⟨g,oo,none⟩) n c)(hp:ρ x2=.int .i64 p)(hq:ρ y2=.int .i64 q)(ep:p=((l:Nat):Int))(eq:q=((r:Nat):Int))(hl:l<r)(hr:r<=c){j m:Nat}(hj:oo+l=j)(hm:r-l=m):
  Yld Tryz.prog o ρ w (λv w'=>Grow w w'/\(MR.eq (.slice (some ⟨g,j,none⟩) m (c-l))).R w' v):=by
 subst hj hm ep eq
 obtain⟨i0,hi0,_,hz1,_⟩:=xQ jE
 have hcl:¬c=l:=by omega
 have hE:Tryz.prog.underlying 70=some (.slice (Tryz.prog.elem 70)):=by kernel_rfl
 have hs:(sizeOf (Tryz.prog.elem 70)).run Tryz.prog w=.ok 1 w:=by
  rw[show Tryz.prog.elem 70=177 by kernel_rfl]
  simp[sizeOf,typeInfo,hi0,hz1]
 have hrun:(execOp ρ o).run Tryz.prog w=.ok (.value (.slice (some ⟨g,oo+l,none⟩) (r-l) (c-l))) w:=by
  unfold execOp
  rw[h]
  simp only[hx,hp,hq,Option.map_some,Option.map_none,Sem.run_bind,run_sliceAt_slice w _ _ _ _ _ hE]
  rw[run_slice_lh w _ _ _ _ hE _ _ _ _ zo zo zo,hs]
  simp[sliced,hcl,add_plain]
 exact yQ hrun ⟨Grow.refl _,rfl⟩
end
section
variable {w:World} {x y z:Nat}
theorem cWAdd(hx:x<18446744073709551616)(hy:y<18446744073709551616)(hz:z<=1):Calls Tryz.prog 145 #[.int .u64 ((x:Nat):Int),.int .u64 ((y:Nat):Int),.int .u64 ((z:Nat):Int)] w (Ret (.tup2 (.eq (.int .u64 (((x+y+z)%18446744073709551616:Nat):Int))) (.eq (.int .u64 (((x+y+z)/18446744073709551616:Nat):Int)))) w):=
 (wAdd x y z ⟨by omega, by omega⟩ ⟨by omega, by omega⟩ zo zo w).mono λe w' ⟨s, d, he, ⟨⟨h1, h2⟩, h3, h4, h5⟩, hw⟩ => by
  subst hw
  exact⟨_,he,Grow.refl _,_,_,rfl,by show Value.int _ _=_;congr 1;omega,by show Value.int _ _=_;congr 1;omega⟩
def sbW (x y z:Nat):Nat:=(x+36893488147419103232-y-z)%18446744073709551616
def sbB (x y z:Nat):Nat:=if x<y+z then 1 else 0
theorem cWSub(hx:x<18446744073709551616)(hy:y<18446744073709551616)(hz:z<=1):Calls Tryz.prog 146 #[.int .u64 ((x:Nat):Int),.int .u64 ((y:Nat):Int),.int .u64 ((z:Nat):Int)] w (Ret (.tup2 (.eq (.int .u64 ((sbW x y z:Nat):Int))) (.eq (.int .u64 ((sbB x y z:Nat):Int)))) w):=
 (wSub x y z ⟨by omega, by omega⟩ ⟨by omega, by omega⟩ zo zo w).mono λe w' ⟨s, d, he, ⟨⟨h1, h2⟩, h3, h4, h5⟩, hw⟩ => by
  subst hw
  exact⟨_,he,Grow.refl _,_,_,rfl,by show Value.int _ _=_;congr 1;unfold sbW;omega,by show Value.int _ _=_;congr 1;unfold sbB;split<;>omega⟩
theorem sb_eq(hx:x<18446744073709551616)(hy:y<18446744073709551616)(hz:z<=1):sbW x y z<18446744073709551616/\sbB x y z<=1/\sbW x y z+y+z=x+18446744073709551616*sbB x y z:=by
 unfold sbW sbB;split<;>omega
theorem mulRel_eq{x y a b:Nat}{hi lo:Int}(h:MulRel x y a b hi lo):hi=(((x*y+a+b)/18446744073709551616:Nat):Int)/\lo=(((x*y+a+b)%18446744073709551616:Nat):Int):=by
 obtain⟨hi',lo',rfl,rfl,h1,h2,h3⟩:=mulRel_nat h
 constructor<;>(congr 1;omega)
theorem cWMul(hx:x<18446744073709551616)(hy:y<18446744073709551616):Calls Tryz.prog 149 #[.int .u64 ((x:Nat):Int),.int .u64 ((y:Nat):Int)] w (Ret (.tup2 (.eq (.int .u64 (((x*y)/18446744073709551616:Nat):Int))) (.eq (.int .u64 (((x*y)%18446744073709551616:Nat):Int)))) w):=
 (wMul x y ⟨by omega, by omega⟩ ⟨by omega, by omega⟩ w).mono λe w' ⟨s, d, he, hr, hw⟩ => by
  subst hw
  obtain⟨e1,e2⟩:=mulRel_eq (a:=0) (b:=0) hr
  exact⟨_,he,Grow.refl _,_,_,rfl,by show Value.int _ _=_;rw[e1];rfl,by show Value.int _ _=_;rw[e2];rfl⟩
theorem cWMulAdd{a b:Nat}(hx:x<18446744073709551616)(hy:y<18446744073709551616)(ha:a<18446744073709551616)(hb:b<18446744073709551616):Calls Tryz.prog 142 #[.int .u64 ((x:Nat):Int),.int .u64 ((y:Nat):Int),.int .u64 ((a:Nat):Int),.int .u64 ((b:Nat):Int)] w (Ret (.tup2 (.eq (.int .u64 (((x*y+a+b)/18446744073709551616:Nat):Int))) (.eq (.int .u64 (((x*y+a+b)%18446744073709551616:Nat):Int)))) w):=
 (wMulAdd x y a b ⟨by omega, by omega⟩ ⟨by omega, by omega⟩ ⟨by omega, by omega⟩ ⟨by omega, by omega⟩ w).mono λe w' ⟨s, d, he, hr, hw⟩ => by
  subst hw
  obtain⟨e1,e2⟩:=mulRel_eq hr
  exact⟨_,he,Grow.refl _,_,_,rfl,by show Value.int _ _=_;rw[e1],by show Value.int _ _=_;rw[e2]⟩
theorem drawn_grow{a b:World}(h:Drawn a b):Grow a b:=by
 obtain⟨n,rfl⟩:=h
 exact below_drewN (Below.refl _ _) n
theorem cWDiv_yes(h:x<z)(hy:y<18446744073709551616)(hz:z<18446744073709551616):Calls Tryz.prog 157 #[.int .u64 ((x:Nat):Int),.int .u64 ((y:Nat):Int),.int .u64 ((z:Nat):Int)] w (Ret (.tup3 (.eq (.int .u64 ((divQ x y z:Nat):Int))) (.eq (.int .u64 ((divR x y z:Nat):Int))) (.eq (.bool true))) w):=
 (wDiv_yes x y z h hy hz w).mono λ_ _ ⟨he,hw⟩=>⟨_,he,drawn_grow hw,_,_,_,rfl,rfl,rfl,rfl⟩
theorem cWDiv_no(h:z<=x):Calls Tryz.prog 157 #[.int .u64 ((x:Nat):Int),.int .u64 ((y:Nat):Int),.int .u64 ((z:Nat):Int)] w (Ret (.tup3 (.eq (.int .u64 ((0:Nat):Int))) (.eq (.int .u64 ((0:Nat):Int))) (.eq (.bool false))) w):=
 (wDiv_no x y z zo w).mono λe w' ⟨he, hw⟩ => by
  subst hw
  exact⟨_,he,Grow.refl _,_,_,_,rfl,rfl,rfl,rfl⟩
end
open Go.RowKit
section
variable {q y o N i over b c:Nat} {f0 f:Nat->Nat}
def TInv (q y o:Nat) (f0 f:Nat->Nat) (N i over b:Nat):Prop:=
 Wf f N/\over<18446744073709551616/\b<=1/\val f N+q*(y%2^(64*i))*2^(64*o)=val f0 N+(over+b)*2^(64*(o+i))/\∀j,(j<o∨o+i<=j)->f j=f0 j
theorem t_start(hw:Wf f0 N):TInv q y o f0 f0 N 0 0 0:=⟨hw,by omega,by omega,by simp[Nat.mod_one],λ_ _=>rfl⟩
theorem p64o(o i:Nat):2^(64*(o+(i+1)))=18446744073709551616*2^(64*(o+i)):=by rw[show o+(i+1)=o+i+1 from rfl];exact p64 _
theorem t_lin{A F C S Q Z0 OV BO QW HB LO BB:Nat}(e1:A+F=C+S)(e2:C+Q=Z0+(OV+BO))(e3:HB+LO=QW+OV)(e4:S+LO+BO=F+BB):A+(Q+QW)=Z0+(HB+BB):=by omega
theorem upd_far{j k v:Nat}(h:j≠k):upd f k v j=f j:=by unfold upd;rw[if_neg h]
theorem t_step(h:TInv q y o f0 f N i over b)(hN:o+i<N)(hq:q<18446744073709551616):
  TInv q y o f0 (upd f (o+i) (sbW (f (o+i)) ((wd y i*q+over+0)%18446744073709551616) b)) N (i+1) ((wd y i*q+over+0)/18446744073709551616) (sbB (f (o+i)) ((wd y i*q+over+0)%18446744073709551616) b):=by
 obtain⟨h1,h2,h3,h4,h5⟩:=h
 obtain⟨s1,s2,s3⟩:=sb_eq (x:=f (o+i)) (y:=(wd y i*q+over+0)%18446744073709551616) (z:=b) (h1 _ hN) (Nat.mod_lt _ zo) h3
 have hd:=Nat.mod_add_div (wd y i*q+over+0) 18446744073709551616
 have hlim:wd y i*q<=18446744073709551615*18446744073709551615:=Nat.mul_le_mul (by have:=xH y i;omega) zo
 generalize hs:sbW (f (o+i)) ((wd y i*q+over+0)%18446744073709551616) b=s at*
 generalize hb:sbB (f (o+i)) ((wd y i*q+over+0)%18446744073709551616) b=b' at*
 generalize hh:(wd y i*q+over+0)/18446744073709551616=hi at*
 generalize hl:(wd y i*q+over+0)%18446744073709551616=lo at*
 refine⟨jB _ _ _ _ h1 s1,by omega,s2,?_,λj hj=>?_⟩
 ·have e1:=jC f (o+i) s N hN
  have eE:2^(64*(o+i))=2^(64*i)*2^(64*o):=by rw[←Nat.pow_add,←Nat.mul_add,Nat.add_comm]
  have e3:hi*18446744073709551616*2^(64*(o+i))+lo*2^(64*(o+i))=q*wd y i*2^(64*(o+i))+over*2^(64*(o+i)):=by
   rw[←Nat.add_mul,←Nat.add_mul];congr 1;rw[Nat.mul_comm q];omega
  have e4:s*2^(64*(o+i))+lo*2^(64*(o+i))+b*2^(64*(o+i))=f (o+i)*2^(64*(o+i))+b'*18446744073709551616*2^(64*(o+i)):=by
   rw[←Nat.add_mul,←Nat.add_mul,←Nat.add_mul];congr 1;omega
  rw[Nat.add_mul] at h4
  have:=t_lin e1 h4 e3 e4
  rw[p64o o i,mod_succ,Nat.mul_add q,Nat.add_mul (q*_),←Nat.mul_assoc q,Nat.mul_assoc (q*wd y i),←eE,←Nat.mul_assoc (hi+b'),Nat.add_mul hi,Nat.add_mul]
  exact this
 ·rw[upd_far zo];exact h5 j zo
def TRes (q y o m:Nat) (f0 f:Nat->Nat) (N b:Nat):Prop:=
 Wf f N/\b<=1/\val f N+q*y*2^(64*o)=val f0 N+b*2^(64*(o+m+1))/\∀j,(j<o∨o+m+1<=j)->f j=f0 j
theorem t_end(h:TInv q y o f0 f N (nw y) over b)(hN:o+nw y<N):TRes q y o (nw y) f0 (upd f (o+nw y) (sbW (f (o+nw y)) over b)) N (sbB (f (o+nw y)) over b):=by
 obtain⟨h1,h2,h3,h4,h5⟩:=h
 obtain⟨s1,s2,s3⟩:=sb_eq (x:=f (o+nw y)) (y:=over) (z:=b) (h1 _ hN) h2 h3
 generalize hs:sbW (f (o+nw y)) over b=s at*
 generalize hb:sbB (f (o+nw y)) over b=b' at*
 refine⟨jB _ _ _ _ h1 s1,s2,?_,λj hj=>?_⟩
 ·have e1:=jC f (o+nw y) s N hN
  have e4:s*2^(64*(o+nw y))+over*2^(64*(o+nw y))+b*2^(64*(o+nw y))=f (o+nw y)*2^(64*(o+nw y))+b'*18446744073709551616*2^(64*(o+nw y)):=by
   rw[←Nat.add_mul,←Nat.add_mul,←Nat.add_mul];congr 1;omega
  rw[Nat.mod_eq_of_lt (kE y),Nat.add_mul] at h4
  rw[p64,←Nat.mul_assoc b']
  omega
 ·rw[upd_far zo];exact h5 j zo
def BkInv (y o:Nat) (f0 f:Nat->Nat) (N i c:Nat):Prop:=
 Wf f N/\c<=1/\val f N+c*2^(64*(o+i))=val f0 N+y%2^(64*i)*2^(64*o)/\∀j,(j<o∨o+i<=j)->f j=f0 j
theorem bk_start(hw:Wf f0 N):BkInv y o f0 f0 N 0 0:=⟨hw,by omega,by simp[Nat.mod_one],λ_ _=>rfl⟩
theorem bk_step(h:BkInv y o f0 f N i c)(hN:o+i<N):
  BkInv y o f0 (upd f (o+i) ((f (o+i)+wd y i+c)%18446744073709551616)) N (i+1) ((f (o+i)+wd y i+c)/18446744073709551616):=by
 obtain⟨h1,h3,h4,h5⟩:=h
 have hf:=h1 _ hN
 have hy:=xH y i
 have hd:=Nat.mod_add_div (f (o+i)+wd y i+c) 18446744073709551616
 have hm:=Nat.mod_lt (f (o+i)+wd y i+c) (show 0<18446744073709551616 by omega)
 have hc:(f (o+i)+wd y i+c)/18446744073709551616<=1:=by omega
 generalize (f (o+i)+wd y i+c)%18446744073709551616=s at*
 generalize (f (o+i)+wd y i+c)/18446744073709551616=c' at*
 refine⟨jB _ _ _ _ h1 hm,hc,?_,λj hj=>?_⟩
 ·have e1:=jC f (o+i) s N hN
  have eE:2^(64*(o+i))=2^(64*i)*2^(64*o):=by rw[←Nat.pow_add,←Nat.mul_add,Nat.add_comm]
  have e4:s*2^(64*(o+i))+c'*18446744073709551616*2^(64*(o+i))=f (o+i)*2^(64*(o+i))+wd y i*2^(64*(o+i))+c*2^(64*(o+i)):=by
   rw[←Nat.add_mul,←Nat.add_mul,←Nat.add_mul];congr 1;omega
  rw[p64o o i,mod_succ,Nat.add_mul (y%_),Nat.mul_assoc (wd y i),←eE,←Nat.mul_assoc c']
  omega
 ·rw[upd_far zo];exact h5 j zo
def BkRes (y o m:Nat) (f0 f:Nat->Nat) (N c:Nat):Prop:=
 Wf f N/\val f N+c*2^(64*(o+m+1))=val f0 N+y*2^(64*o)/\∀j,(j<o∨o+m+1<=j)->f j=f0 j
theorem bk_end(h:BkInv y o f0 f N (nw y) c)(hN:o+nw y<N):∃c',BkRes y o (nw y) f0 (upd f (o+nw y) ((f (o+nw y)+c)%18446744073709551616)) N c':=by
 obtain⟨h1,h3,h4,h5⟩:=h
 refine⟨(f (o+nw y)+c)/18446744073709551616,?_⟩
 have hd:=Nat.mod_add_div (f (o+nw y)+c) 18446744073709551616
 have hm:=Nat.mod_lt (f (o+nw y)+c) (show 0<18446744073709551616 by omega)
 generalize (f (o+nw y)+c)%18446744073709551616=s at*
 generalize (f (o+nw y)+c)/18446744073709551616=c' at*
 refine⟨jB _ _ _ _ h1 hm,?_,λj hj=>?_⟩
 ·have e1:=jC f (o+nw y) s N hN
  have e4:s*2^(64*(o+nw y))+c'*18446744073709551616*2^(64*(o+nw y))=f (o+nw y)*2^(64*(o+nw y))+c*2^(64*(o+nw y)):=by
   rw[←Nat.add_mul,←Nat.add_mul];congr 1;omega
  rw[Nat.mod_eq_of_lt (kE y)] at h4
  rw[p64,←Nat.mul_assoc c']
  omega
 ·rw[upd_far zo];exact h5 j zo
end
open Go.RowKit
def DInv (X V N Q j:Nat) (f g:Nat->Nat):Prop:=Wf f N/\Wf g Q/\(∀i,i<j->g i=0)/\val f N+val g Q*V=X/\val f N<V*2^(64*j)
def dq (f:Nat->Nat) (V k m:Nat):Nat:=gq (f (k+m)) (f (k+m-1)) (f (k+m-2)) (wd V (m-1)) (wd V (m-2))
theorem gq_lt(a b c d e:Nat):gq a b c d e<18446744073709551616:=by unfold gq;omega
theorem dq_lt(f:Nat->Nat)(V k m:Nat):dq f V k m<18446744073709551616:=gq_lt _ _ _ _ _
section
variable {X V N Q j k m:Nat} {f g f' f'':Nat->Nat} {b c:Nat}
theorem lo_V(hm:nw V=m)(h2:2<=m):18446744073709551616*2^(64*(m-2))<=V:=by
 rcases Nat.lt_or_ge V (18446744073709551616*2^(64*(m-2))) with h | h
 ·rw[←p64] at h
  have:=(kD V _).2 h
  omega
 ·exact h
theorem pow_V(k m:Nat)(h2:2<=m):2^(64*(k+m+1))=18446744073709551616*(18446744073709551616*(18446744073709551616*(2^(64*(m-2))*2^(64*k)))):=by
 rw[show k+m+1=(((m-2)+k)+1+1)+1 by omega,p64,p64,p64,←Nat.pow_add,←Nat.mul_add]
theorem hi_V(hm:nw V=m)(h2:2<=m):V<18446744073709551616*(18446744073709551616*2^(64*(m-2))):=by
 have:=kE V
 rw[hm,show m=(m-2)+1+1 by omega,p64,p64] at this
 exact this
theorem d_words(hm:nw V=m)(h2:2<=m)(hk:k+m<N)(hi:DInv X V N Q (k+1) f g):
  dq f V k m=min (18446744073709551616-1) (val f N/(2^(64*(m-2))*2^(64*k))/(V/2^(64*(m-2)))):=by
 obtain⟨h1,_,_,_,h5⟩:=hi
 have hV:=hi_V hm h2
 have hU:val f N<2^(64*((k+m-2)+3)):=by
  rw[show(k+m-2)+3=k+m+1 by omega,pow_V k m h2]
  rw[p64] at h5
  have:=Nat.mul_le_mul_right (18446744073709551616*2^(64*k)) (Nat.le_of_lt hV)
  refine Nat.lt_of_lt_of_le h5 (Nat.le_trans this (Nat.le_of_eq ?_))
  simp only[Nat.mul_assoc,Nat.mul_left_comm,Nat.mul_comm]
 have e3:=top3 h1 (show(k+m-2)+3<=N by omega) hU
 have e2:=top2 (V:=V) (m:=m-2) zo
 have eW:2^(64*(m-2))*2^(64*k)=2^(64*(k+m-2)):=by rw[←Nat.pow_add,←Nat.mul_add];congr 2;omega
 rw[eW,e3,e2]
 unfold dq gq
 rw[show k+m-2+2=k+m by omega,show k+m-2+1=k+m-1 by omega,show m-2+1=m-1 by omega]
theorem d_guess(hm:nw V=m)(h2:2<=m)(hk:k+m<N)(hi:DInv X V N Q (k+1) f g):f (k+m)<=wd V (m-1)/\0<wd V (m-1):=by
 obtain⟨h1,_,_,_,h5⟩:=hi
 have e2:=top2 (V:=V) (m:=m-2) zo
 rw[show m-2+1=m-1 by omega] at e2
 have hlo:=lo_V hm h2
 have hW:0<2^(64*(m-2)):=Nat.two_pow_pos _
 have hv0:=xH V (m-2)
 have hVd:18446744073709551616<=V/2^(64*(m-2)):=(Nat.le_div_iff_mul_le hW).2 hlo
 refine⟨?_,by omega⟩
 have hVs:V<(wd V (m-1)+1)*(18446744073709551616*2^(64*(m-2))):=by
  have:V/2^(64*(m-2))<(wd V (m-1)+1)*18446744073709551616:=by omega
  have:=(Nat.div_lt_iff_lt_mul hW).1 this
  rw[Nat.mul_assoc] at this
  exact this
 have hU:f (k+m)*2^(64*(k+m))<=val f N:=by
  have:=val_wd (val f N) (k+m+1)
  have hw:=wd_val f N (k+m) h1 hk
  have hle:val f N%2^(64*(k+m+1))<=val f N:=Nat.mod_le _ _
  rw[←this,val,hw] at hle
  omega
 have eP:2^(64*(k+m))=18446744073709551616*(18446744073709551616*2^(64*(m-2)))*2^(64*k):=by
  rw[show k+m=((m-2)+k)+1+1 by omega,p64,p64,Nat.mul_assoc,Nat.mul_assoc,←Nat.pow_add,←Nat.mul_add]
 rw[p64] at h5
 rcases Nat.lt_or_ge (wd V (m-1)) (f (k+m)) with h | h
 ·exfalso
  have a1:V*(18446744073709551616*2^(64*k))<=(wd V (m-1)+1)*(18446744073709551616*2^(64*(m-2)))*(18446744073709551616*2^(64*k)):=Nat.mul_le_mul_right _ (Nat.le_of_lt hVs)
  have a2:(wd V (m-1)+1)*2^(64*(k+m))<=f (k+m)*2^(64*(k+m)):=Nat.mul_le_mul_right _ h
  have a3:(wd V (m-1)+1)*(18446744073709551616*2^(64*(m-2)))*(18446744073709551616*2^(64*k))=(wd V (m-1)+1)*2^(64*(k+m)):=by
   rw[eP];simp only[Nat.mul_assoc,Nat.mul_left_comm,Nat.mul_comm]
  omega
 ·exact h
theorem d_knuth(hm:nw V=m)(h2:2<=m)(hk:k+m<N)(hi:DInv X V N Q (k+1) f g):val f N<(dq f V k m+1)*(V*2^(64*k))/\dq f V k m*(V*2^(64*k))<=val f N+V*2^(64*k):=by
 have h5:=hi.2.2.2.2
 rw[p64] at h5
 exact knuth (Nat.two_pow_pos _) (Nat.two_pow_pos _) zo (lo_V hm h2) h5 (d_words hm h2 hk hi)
theorem d_high(hm:nw V=m)(h2:2<=m)(_hk:k+m<N)(hi:DInv X V N Q (k+1) f g):∀i,k+m+1<=i->i<N->f i=0:=by
 obtain⟨h1,_,_,_,h5⟩:=hi
 refine high_zero h1 ?_
 have hV:=hi_V hm h2
 rw[pow_V k m h2]
 rw[p64] at h5
 have:=Nat.mul_le_mul_right (18446744073709551616*2^(64*k)) (Nat.le_of_lt hV)
 refine Nat.lt_of_lt_of_le h5 (Nat.le_trans this (Nat.le_of_eq ?_))
 simp only[Nat.mul_assoc,Nat.mul_left_comm,Nat.mul_comm]
theorem g_set(hg:Wf g Q)(hz:∀i,i<k+1->g i=0)(hkQ:k<Q){q:Nat}(hq:q<18446744073709551616):Wf (upd g k q) Q/\(∀i,i<k->upd g k q i=0)/\val (upd g k q) Q=val g Q+q*2^(64*k):=by
 refine⟨jB _ _ _ _ hg hq,λi hi=>?_,?_⟩
 ·rw[upd_far zo];exact hz i zo
 ·have:=jC g k q Q hkQ
  rw[hz k zo] at this
  omega
theorem d_fit(hm:nw V=m)(h2:2<=m)(hk:k+m<N)(hi:DInv X V N Q (k+1) f g)(ht:TRes (dq f V k m) V k m f f' N b)(hb:b≠1)(hkQ:k<Q):DInv X V N Q k f' (upd g k (dq f V k m)):=by
 obtain⟨kn1,_⟩:=d_knuth hm h2 hk hi
 obtain⟨_,hg,hz,hX,h5⟩:=hi
 obtain⟨t1,t2,t3,t4⟩:=ht
 obtain rfl:b=0:=by omega
 obtain⟨g1,g2,g3⟩:=g_set hg hz hkQ (dq_lt f V k m)
 rw[Nat.mul_assoc] at t3
 rw[Nat.add_mul,Nat.one_mul] at kn1
 refine⟨t1,g1,g2,?_,by omega⟩
 have e:dq f V k m*2^(64*k)*V=dq f V k m*(V*2^(64*k)):=by rw[Nat.mul_assoc,Nat.mul_comm (2^(64*k)) V]
 rw[g3,Nat.add_mul,e]
 omega
theorem d_neg(hm:nw V=m)(h2:2<=m)(hk:k+m<N)(hi:DInv X V N Q (k+1) f g)(ht:TRes (dq f V k m) V k m f f' N 1):val f N<dq f V k m*(V*2^(64*k))/\0<dq f V k m:=by
 have hz:=d_high hm h2 hk hi
 obtain⟨t1,t2,t3,t4⟩:=ht
 have hlow:val f' N<2^(64*(k+m+1)):=low_of_zero t1 zo λi h1 h2=>by rw[t4 i (.inr h1)];exact hz i h1 h2
 rw[Nat.mul_assoc,Nat.one_mul] at t3
 have:val f N<dq f V k m*(V*2^(64*k)):=by omega
 refine⟨this,?_⟩
 rcases Nat.eq_zero_or_pos (dq f V k m) with h | h
 ·rw[h,Nat.zero_mul] at this;omega
 ·exact h
theorem d_back(hm:nw V=m)(h2:2<=m)(hk:k+m<N)(hi:DInv X V N Q (k+1) f g)(ht:TRes (dq f V k m) V k m f f' N 1)(hbk:BkRes V k m f' f'' N c)(hkQ:k<Q):DInv X V N Q k f'' (upd (upd g k (dq f V k m)) k (dq f V k m-1)):=by
 obtain⟨_,kn2⟩:=d_knuth hm h2 hk hi
 obtain⟨n1,n2⟩:=d_neg hm h2 hk hi ht
 have hhz:=d_high hm h2 hk hi
 obtain⟨_,hg,hz,hX,h5⟩:=hi
 obtain⟨t1,t2,t3,t4⟩:=ht
 obtain⟨b1,b2,b3⟩:=hbk
 have hlt:=dq_lt f V k m
 obtain⟨g1,g2,g3⟩:=g_set hg hz hkQ hlt
 generalize hq:dq f V k m=q at*
 obtain⟨p,rfl⟩:∃p,q=p+1:=⟨q-1,by omega⟩
 rw[Nat.add_sub_cancel]
 have hlow:val f'' N<2^(64*(k+m+1)):=low_of_zero b1 zo λi h1 h2=>by rw[b3 i (.inr h1),t4 i (.inr h1)];exact hhz i h1 h2
 have hlow1:val f' N<2^(64*(k+m+1)):=low_of_zero t1 zo λi h1 h2=>by rw[t4 i (.inr h1)];exact hhz i h1 h2
 rw[Nat.mul_assoc,Nat.one_mul,Nat.add_mul,Nat.one_mul] at t3
 rw[Nat.add_mul,Nat.one_mul] at n1 kn2
 have hc:c=1:=by
  rcases c with _ | _ | c
  ·exfalso;rw[Nat.zero_mul] at b2;omega
  ·rfl
  ·exfalso
   rw[Nat.add_mul (c+1),Nat.add_mul c,Nat.one_mul] at b2
   have hVP:V*2^(64*k)<2^(64*(k+m+1)):=by
    have hV:=hi_V hm h2
    have:=Nat.mul_lt_mul_of_pos_right hV (Nat.two_pow_pos (64*k))
    rw[pow_V k m h2]
    have e:18446744073709551616*(18446744073709551616*2^(64*(m-2)))*2^(64*k)=18446744073709551616*(18446744073709551616*(2^(64*(m-2))*2^(64*k))):=by simp only[Nat.mul_assoc]
    rw[e] at this
    omega
   omega
 subst hc
 rw[Nat.one_mul] at b2
 refine⟨b1,jB _ _ _ _ g1 zo,λi hi=>?_,?_,by omega⟩
 ·rw[upd_far zo];exact g2 i hi
 ·have hs:=jC (upd g k (p+1)) k p Q hkQ
  have e0:upd g k (p+1) k=p+1:=by unfold upd;rw[if_pos rfl]
  rw[e0,g3,Nat.add_mul p,Nat.one_mul] at hs
  have e1:val (upd (upd g k (p+1)) k p) Q=val g Q+p*2^(64*k):=by omega
  have e:p*2^(64*k)*V=p*(V*2^(64*k)):=by rw[Nat.mul_assoc,Nat.mul_comm (2^(64*k)) V]
  rw[e1,Nat.add_mul,e]
  omega
end
theorem nw_shift{y s:Nat}(h0:y≠0)(hs:s=xE (wd y (nw y-1))):nw (y*2^s)=nw y/\s<64:=by
 have hb:=blen_nw y h0
 have hw:=blen_wd y (nw y-1)
 have hn:0<nw y:=Nat.pos_of_ne_zero λh=>h0 ((kY y).1 h)
 have hbp:0<Wd.blen (wd y (nw y-1)):=by
  have hp:=Wd.blen_pos y h0
  have e:nw y=(Wd.blen y+63)/64:=rfl
  omega
 unfold xE at hs
 have hlt:y*2^s<2^(64*nw y):=by
  have h1:=Wd.lt_two_pow_blen y
  have h2:y*2^s<2^Wd.blen y*2^s:=Nat.mul_lt_mul_of_pos_right h1 (Nat.two_pow_pos _)
  rw[←Nat.pow_add] at h2
  refine Nat.lt_of_lt_of_le h2 (Nat.pow_le_pow_right zo ?_)
  omega
 have h1:=(kD _ _).2 hlt
 refine⟨Nat.le_antisymm h1 ?_,by omega⟩
 refine(kD y _).2 (Nat.lt_of_le_of_lt (Nat.le_mul_of_pos_right y (Nat.two_pow_pos s)) (kE _))
theorem val_zero(n:Nat):val (λ_=>0) n=0:=by
 induction n with
 | zero=>rfl
 | succ n ih=>rw[val,ih];simp
theorem d_start{x y s N Q:Nat}(hN:nw (x*2^s)<=N)(hQ:nw x+1=Q+nw y)(h0:y≠0):DInv (x*2^s) (y*2^s) N Q Q (wd (x*2^s)) (λ_=>0):=by
 refine⟨wf_wd _ _,λi hi=>by show 0<_;omega,λ_ _=>rfl,by rw[jD _ _ hN,val_zero];simp,?_⟩
 rw[jD _ _ hN]
 have hy:2^(64*(nw y-1))<=y:=by
  rcases Nat.lt_or_ge y (2^(64*(nw y-1))) with h | h
  ·have:=(kD _ _).2 h
   have hn:0<nw y:=Nat.pos_of_ne_zero λh=>h0 ((kY y).1 h)
   omega
  ·exact h
 have hn:0<nw y:=Nat.pos_of_ne_zero λh=>h0 ((kY y).1 h)
 have h1:x<y*2^(64*Q):=by
  refine Nat.lt_of_lt_of_le (kE x) (Nat.le_trans (Nat.le_of_eq ?_) (Nat.mul_le_mul_right _ hy))
  rw[←Nat.pow_add];congr 1;omega
 have h2:=Nat.mul_lt_mul_of_pos_right h1 (Nat.two_pow_pos s)
 rw[Nat.mul_assoc,Nat.mul_comm (2^(64*Q)),←Nat.mul_assoc] at h2
 exact h2
theorem jK{x y s N Q:Nat}{f g:Nat->Nat}(h:DInv (x*2^s) (y*2^s) N Q 0 f g):val g Q=x/y/\val f N/2^s=x%y:=by
 obtain⟨_,_,_,hX,h5⟩:=h
 simp only[Nat.mul_zero,Nat.pow_zero,Nat.mul_one] at h5
 have hs:0<2^s:=Nat.two_pow_pos s
 have hy:0<y:=by
  rcases Nat.eq_zero_or_pos y with h | h
  ·subst h;simp at h5
  ·exact h
 have hq:val g Q=x*2^s/(y*2^s):=by
  rw[←hX,Nat.add_mul_div_right _ _ (Nat.mul_pos hy hs),Nat.div_eq_of_lt h5,Nat.zero_add]
 have hr:val f N=x*2^s%(y*2^s):=by
  rw[←hX,Nat.add_mul_mod_self_right,Nat.mod_eq_of_lt h5]
 constructor
 ·rw[hq,Nat.mul_div_mul_right _ _ hs]
 ·rw[hr,Nat.mul_mod_mul_right,Nat.mul_div_cancel _ hs]
open Go.RowKit
def MR.own (B:Nat) (f:Nat->Nat) (n:Nat):MR:=⟨λw v=>∃g c,v=.slice (some ⟨g,0,none⟩) n c/\B<=g/\n<=c/\c<=maxLen/\Blk w g 177 (wa f c),λh ⟨g,c,e,hB,h1,h2,k⟩=>⟨g,c,e,hB,h1,h2,k.below h⟩⟩
theorem own_cells(f:Nat->Nat)(n k:Nat)(hz:∀i,n<=i->f i=0):(words f n).toArray++Builtin.zeroCells (Value.int .u64 0).cells k=wa f (n+k):=by
 apply Array.ext_getElem?
 intro i
 by_cases h1:i<n
 ·rw[Array.getElem?_append_left (by simpa [zQ] using h1),kZ f _ i zo]
  have:=kR f n i h1
  simpa using this
 ·rw[Array.getElem?_append_right (by simp[zQ];omega)]
  by_cases h2:i<n+k
  ·rw[kZ f _ i h2,hz i zo]
   have hk:i-n<k:=by omega
   simp[Builtin.zeroCells,Value.cells,zQ,hk,Nat.mod_one]
  ·have e1:(Builtin.zeroCells (Value.int .u64 0).cells k)[i-(words f n).toArray.size]?=none:=Array.getElem?_eq_none (by rw[size_zeroCells];simp[Value.cells,zQ];omega)
   have e2:(wa f (n+k))[i]?=none:=Array.getElem?_eq_none (by unfold wa;simp[zQ];omega)
   rw[e1,e2]
section
variable {P:Program} {ops:Array Oper} {rest:List Oper} {o:Oper} {a:Act} {Q:Exit->Act->World->Prop} {w:World}
theorem wpList_yld(hgd:o.guard=none)(h:Yld P o a.eval w (λv w'=>wpList P ops Q rest (a.put o.dst v) w')):wpList P ops Q (o::rest) a w:=
 wpList_plain hgd λ_ hK=>Yld.wp h λ_ _ hv=>hK _ _ hv
end
theorem setRow_same{w:World}{g:Nat}{cs:Array Value}{t:TypeId}(h:w.heap[g]?=some (.cells cs t (0,0))):w.setRow g cs=w:=by
 unfold World.setRow
 have e:w.heap.modify g (λ | .cells _ e fr=>.cells cs e fr | o=>o)=w.heap:=by
  apply Array.ext_getElem?
  intro i
  simp only[Array.getElem?_modify]
  by_cases hi:g=i
  ·subst hi
   rw[if_pos rfl,h]
   rfl
  ·rw[if_neg hi]
 exact congrArg (λx=>{w with heap:=x}) e
section
variable {o:Oper} {ρ:Operand->Value} {w:World} {x y:Operand} {f:Nat->Nat} {n c B:Nat} {F:Nat->Prop}
theorem yld_append_fresh{a b:Addr}(h:o.op=.call {callee:=.builtin .append,args:=#[x,y],argTypes:=#[70,70]})(hx:ρ x=.slice (some b) 0 0)(hy:ρ y=.slice (some a) n c)(hS:USlice F w (some a) n f)(hn0:0<n)(hn:n<=1099511627776)(hB:B<=w.heap.size)(hz:∀i,n<=i->f i=0):
  Yld Tryz.prog o ρ w (λv w'=>Grow w w'/\(MR.own B f n).R w' v):=by
 obtain⟨i0,hi0,hz0,hz1,hz2⟩:=xQ jE
 have hrun:=run_append_grow (P:=Tryz.prog) w 70 o.type 177 i0 (.int .u64 0) Tryz.underlying70 hi0 hz0 b 0 0 [] (by simp)
  (λj v hj=>by simp at hj) a n c (words f n) (by rw[zQ,hz1,Nat.mul_one])
  (λj v hj => by
   have hlt:j<n:=by
    have:=(List.getElem?_eq_some_iff.1 hj).1
    rwa [zQ] at this
   obtain⟨g',o',e,_,_,hcell⟩:=hS j hlt
   obtain rfl:a=⟨g',o',none⟩:=Option.some.inj e
   rw[kR f n j hlt] at hj
   rw[add_plain,hcell];exact hj)
  zo zo (growslice_fits zo (by rw[hz2];omega))
 have hcap:=grownCap_ge w (0+n) 0 177
 have hcap2:=grownCap_le_maxLen w (0+n) 0 177 (by unfold maxLen;omega)
 simp only[Nat.zero_add] at hrun hcap hcap2
 have hcells:=own_cells f n (grownCap w n 0 177-n) hz
 rw[show n+(grownCap w n 0 177-n)=grownCap w n 0 177 by omega] at hcells
 have hexec:(execOp ρ o).run Tryz.prog w=.ok (.value (.slice (some ⟨w.heap.size,0,none⟩) n (grownCap w n 0 177))) (w.drew.alloc (.cells (wa f (grownCap w n 0 177)) 177)):=by
  unfold execOp;rw[h,←hcells];simp[resolve,invoke,builtin,hx,hy,hrun]
 unfold Yld
 rw[hexec]
 exact⟨((Grow.refl w).drew).alloc _,w.heap.size,_,rfl,hB,hcap,hcap2,Blk.new w.drew 177 _⟩
theorem yld_append_zeros{r:Nat}(h:o.op=.call {callee:=.builtin .append,args:=#[x,y],argTypes:=#[70,70]})(hx:(MR.own B f n).R w (ρ x))(hy:(MR.lits [0,0]).R w (ρ y))(hn0:0<n)(hn:n<=1099511627776)(hB:B<=w.heap.size)(hz:∀i,n<=i->f i=0)(hr:n+2=r):
  Yld Tryz.prog o ρ w (λv w'=>Grow w w'/\(MR.own B f r).R w' v):=by
 subst hr
 obtain⟨g,c,ex,hBg,hc,hcm,hblk⟩:=hx
 obtain⟨q,ey,hS⟩:=hy
 obtain⟨i0,hi0,hz0,hz1,hz2⟩:=xQ jE
 have hz01:(words (λi=>[0,0].getD i 0) 2)=words (λi=>f (n+i)) 2:=by
  simp[words,List.range_succ,hz]
 have hnews:∀j v,(words (λi=>f (n+i)) 2)[j]?=some v->w.cell? ((⟨q,0,none⟩:Addr).add j)=some v:=λj v hj=>by
  rw[←hz01] at hj
  have hlt:j<2:=by
   have:=(List.getElem?_eq_some_iff.1 hj).1
   rwa [zQ] at this
  obtain⟨g',o',e,_,_,hcell⟩:=hS j hlt
  simp only[Option.some.injEq,Addr.mk.injEq,and_true] at e
  obtain⟨rfl,rfl⟩:=e
  rw[kR _ 2 j hlt] at hj
  rw[add_plain,hcell];exact hj
 rcases Nat.lt_or_ge c (n+2) with hg | hg
 ·have hrun:=run_append_grow (P:=Tryz.prog) w 70 o.type 177 i0 (.int .u64 0) Tryz.underlying70 hi0 hz0 ⟨g,0,none⟩ n c (words f n) (by rw[zQ,hz1,Nat.mul_one])
   (λj v hj => by
    have hlt:j<n:=by
     have:=(List.getElem?_eq_some_iff.1 hj).1
     rwa [zQ] at this
    rw[kR f n j hlt] at hj
    rw[add_plain,hblk.cell,Nat.zero_add,kZ f c j zo];exact hj) ⟨q,0,none⟩ 2 2 (words (λi=>f (n+i)) 2) (by rw[zQ,hz1])
   hnews hg zo (growslice_fits zo (by rw[hz2];omega))
  have hcap:=grownCap_ge w (n+2) c 177
  have hcap2:=grownCap_le_maxLen w (n+2) c 177 (by unfold maxLen;omega)
  have hcells:=own_cells f (n+2) (grownCap w (n+2) c 177-(n+2)) (λi hi=>hz i zo)
  rw[show n+2+(grownCap w (n+2) c 177-(n+2))=grownCap w (n+2) c 177 by omega] at hcells
  have hw2:(words f n).toArray++(words (λi=>f (n+i)) 2).toArray=(words f (n+2)).toArray:=by
   simp[words,List.range_succ]
  rw[hw2,hcells] at hrun
  have hexec:(execOp ρ o).run Tryz.prog w=.ok (.value (.slice (some ⟨w.heap.size,0,none⟩) (n+2) (grownCap w (n+2) c 177))) (w.drew.alloc (.cells (wa f (grownCap w (n+2) c 177)) 177)):=by
   unfold execOp;rw[h];simp[resolve,invoke,builtin,ex,ey,hrun]
  unfold Yld
  rw[hexec]
  exact⟨((Grow.refl w).drew).alloc _,w.heap.size,_,rfl,hB,hcap,hcap2,Blk.new w.drew 177 _⟩
 ·have hsz:(wa f c).size=c:=by unfold wa;simp[zQ]
  have hrun:=run_append_room (P:=Tryz.prog) w 70 o.type 177 i0 Tryz.underlying70 hi0 g n c (wa f c) hblk ⟨q,0,none⟩ 2 2 (words (λi=>f (n+i)) 2) (by rw[zQ,hz1])
   hnews (words_one _ _) hg (by rw[hz1,zQ,hsz];omega)
  have hsame:((wa f c).toList.take (n*i0.size)++words (λi=>f (n+i)) 2++(wa f c).toList.drop (n*i0.size+(words (λi=>f (n+i)) 2).length)).toArray=wa f c:=by
   rw[hz1,Nat.mul_one,zQ]
   apply Array.toList_inj.1
   show _=(wa f c).toList
   have ew:words (λi=>f (n+i)) 2=((wa f c).toList.drop n).take 2:=by
    apply List.ext_getElem?
    intro j
    by_cases hj:j<2
    ·rw[kR _ 2 j hj,List.getElem?_take_of_lt hj,List.getElem?_drop,Array.getElem?_toList,kZ f c (n+j) zo]
    ·rw[List.getElem?_eq_none (by rw[zQ];omega),List.getElem?_eq_none (by simp;omega)]
   rw[ew,List.append_assoc]
   have:((wa f c).toList.drop n).take 2++(wa f c).toList.drop (n+2)=(wa f c).toList.drop n:=by
    rw[←List.drop_drop]
    exact List.take_append_drop 2 _
   rw[this]
   exact List.take_append_drop n _
  rw[hsame] at hrun
  have hheap:w.heap[g]?=some (.cells (wa f c) 177 (0,0)):=hblk
  have hrow:w.setRow g (wa f c)=w:=setRow_same hheap
  rw[hrow] at hrun
  exact yQ (v:=.slice (some ⟨g,0,none⟩) (n+2) c) (by unfold execOp;rw[h];simp[resolve,invoke,builtin,ex,ey,hrun]) ⟨Grow.refl _,g,c,rfl,hBg,hg,hcm,hblk⟩
end
set_option maxHeartbeats 400000 in
theorem clone_own(B:Nat)(F:Nat->Prop)(a:Addr)(n c:Nat)(f:Nat->Nat)(w:World)(h:USlice F w (some a) n f)(hn0:0<n)(hn:n<=1099511627776)(hB:B<=w.heap.size)(hz:∀i,n<=i->f i=0):
    Calls Tryz.prog 132 #[.slice (some a) n c] w λe w'=>∃v,e=.returned v/\(MR.own B f n).R w' v/\Grow w w':=by
  obtain⟨i0,hi0,hz0,hz1,hz2⟩:=xQ jE
  have hnil:=λ(w:World) (n c n' c':Nat)=>Lib.run_eql_slice_nil (P:=Tryz.prog) w 70 177 (some a) n c n' c' Tryz.underlying70
  have HZ:=Lib.hid (And.intro h hz)
  clear h hz
  go_enter Tryz.func132,Tryz.ntmps132
  go_wp2_with (
    (at_builtin
     refine wpList_yld rfl ((yld_append_fresh (B:=B) rfl rfl rfl (HZ.out.1.keep (Keeps.alloc (Keeps.refl _ _) _)) hn0 hn (by simp;omega) HZ.out.2).mono ?_)))
  intro v' w1 hg hown
  have HOwn:=Lib.hid (And.intro hown (((Grow.refl w).alloc _).trans hg))
  clear hg hown hnil HZ
  go_wp2
  go_ret
  exact⟨v',rfl,HOwn.out.1,HOwn.out.2⟩
set_option maxHeartbeats 400000 in
theorem cWords0{va:Value}{x B:Nat}{w:World}(ha:(MR.nat x).R w va)(h0:0<nw x)(hn:nw x<=1099511627776)(hB:B<=w.heap.size):Calls Tryz.prog 144 #[va] w (Ret (.own B (wd x) (nw x)) w):=by
 obtain⟨A,c,rfl,h1,h2,hsm,h3⟩:NatAt _ w va x:=ha
 have h3:=h3.slice
 obtain⟨g,oo,rfl,_⟩:=h3 0 h0
 have H3:=Lib.hid h3
 clear h3 h1 h2 hsm
 go_enter Tryz.func144,Tryz.ntmps144
 go_wp2_with fail
 refine(clone_own B (λ_=>False) _ _ c (wd x) _ (H3.out.keep Kz) h0 hn (by simp;omega) (λi hi=>wd_high x i hi)).mono ?_
 rintro e wM ⟨v0,rfl,hown,hb⟩
 have BW:=zJ (w:=w) Wz hb
 have HH:=Lib.hid (And.intro hown BW)
 clear hown hb H3 BW
 go_wp2_with fail
 go_ret
 exact⟨_,rfl,HH.out.2,HH.out.1⟩
section
variable {o:Oper} {ρ:Operand->Value} {w:World} {x y:Operand} {f:Nat->Nat} {n k B:Nat} {z:Int}
theorem yld_lit00(h:o.op=.buildSlice 70 2 #[(0,x),(1,y)])(hx:ρ x=.int .u64 ((0:Nat):Int))(hy:ρ y=.int .u64 ((0:Nat):Int)):Yld Tryz.prog o ρ w (λv w'=>Grow w w'/\(MR.lits [0,0]).R w' v):=by
 obtain⟨i0,hi0,hz0,hz1,hz2⟩:=xQ jE
 have hrun:(Instr.buildSlice 70 2 #[(0,.int .u64 ((0:Nat):Int)),(1,.int .u64 ((0:Nat):Int))]).run Tryz.prog w=.ok (.slice (some ⟨w.heap.size,0,none⟩) 2 2) (w.alloc (.cells #[.int .u64 ((0:Nat):Int),.int .u64 ((0:Nat):Int)] 177)):=by
  simp[Instr.buildSlice,Sem.run_bind,run_underlying Tryz.underlying70 w,sizeOf,zeroValue,typeInfo,hi0,hz0,hz1,newRow,Instr.fill,Value.cells]
  rw[show Array.range 2=#[0,1] from by decide]
  simp
 unfold Yld execOp
 rw[h]
 have e:(#[(0,x),(1,y)]:Array (Nat×Operand)).map (λ(i,x)=>(i,ρ x))=#[(0,.int .u64 ((0:Nat):Int)),(1,.int .u64 ((0:Nat):Int))]:=by simp[hx,hy]
 simp only[e,Sem.run_bind,hrun,Result.andThen_ok]
 refine⟨(Grow.refl w).alloc _,w.heap.size,rfl,λi hi=>?_⟩
 have hb:=Blk.new w 177 #[.int .u64 ((0:Nat):Int),.int .u64 ((0:Nat):Int)]
 refine⟨w.heap.size,0,rfl,id,hb.lt,?_⟩
 rw[hb.cell]
 simp only[List.length_cons,List.length_nil] at hi
 rcases i with _ | _ | i
 ·rfl
 ·rfl
 ·omega
theorem yld_makeO(h:o.op=.makeSlice 70 x y)(hx:ρ x=.int .i64 ((k:Nat):Int))(hy:ρ y=.int .i64 ((k:Nat):Int))(hk:k<=35184372088832)(hB:B<=w.heap.size):Yld Tryz.prog o ρ w (λv w'=>Grow w w'/\(MR.own B (λ_=>0) k).R w' v):=by
 unfold Yld execOp
 rw[h]
 simp only[hx,hy,Sem.run_bind,mk64 k hk,Result.andThen_ok]
 exact⟨(Grow.refl w).alloc _,_,_,rfl,hB,Nat.le_refl _,by unfold maxLen;omega,Blk.new w _ _⟩
theorem yld_sliceO{y2:Operand}{m:Nat}(h:o.op=.slice 70 x none (some y2) none)(hx:(MR.own B f n).R w (ρ x))(hq:ρ y2=.int .i64 z)(ez:z=((m:Nat):Int))(hm0:0<m)(hm:m<=n):
  Yld Tryz.prog o ρ w (λv w'=>Grow w w'/\(MR.own B f m).R w' v):=by
 subst ez
 obtain⟨g,c,ex,hB,h1,h2,hb⟩:=hx
 obtain⟨i0,hi0,_,hz1,_⟩:=xQ jE
 have hE:Tryz.prog.underlying 70=some (.slice (Tryz.prog.elem 70)):=by kernel_rfl
 have hs:(sizeOf (Tryz.prog.elem 70)).run Tryz.prog w=.ok 1 w:=by
  rw[show Tryz.prog.elem 70=177 by kernel_rfl]
  simp[sizeOf,typeInfo,hi0,hz1]
 have hc:¬c=0:=by omega
 have hrun:(execOp ρ o).run Tryz.prog w=.ok (.value (.slice (some ⟨g,0,none⟩) m c)) w:=by
  unfold execOp
  rw[h]
  simp only[ex,hq,Option.map_some,Option.map_none,Sem.run_bind,run_sliceAt_slice w _ _ _ _ _ hE]
  rw[run_slice_h w _ _ _ _ hE _ _ zo zo,hs]
  simp[sliced,add_plain]
 exact yQ hrun ⟨Grow.refl _,g,c,rfl,hB,by omega,h2,hb⟩
theorem yld_lenE{A:Option Addr}{c:Nat}(h:o.op=.call {callee:=.builtin .len,args:=#[x],argTypes:=#[70]})(hx:ρ x=.slice A n c):Yld Tryz.prog o ρ w (λv w'=>Grow w w'/\(MR.eq (.int .i64 ((n:Nat):Int))).R w' v):=
 yQ (v:=.int .i64 (n:Nat)) (by unfold execOp;rw[h];simp[resolve,invoke,builtin,hx,Builtin.len_,run_underlying Tryz.underlying70,goInt]) ⟨Grow.refl _,rfl⟩
end
theorem uns_row{w:World}{g n L:Nat}{f:Nat->Nat}(h:Blk w g 177 (wa f L))(h1:n<=L)(h2:L<=maxLen):(MR.uns f n).R w (.slice (some ⟨g,0,none⟩) n L):=
 ⟨_,_,rfl,λi hi=>⟨g,0,rfl,id,h.lt,by rw[Nat.zero_add,h.cell,kZ f L i zo]⟩,h1,h2,λe=>by cases e⟩
section
variable {va:Value} {x k:Nat} {w:World}
theorem cWord0(ha:(MR.nat x).R w va){z:Int}(hz:z=((k:Nat):Int)):Calls Tryz.prog 143 #[va,.int .i64 z] w (Ret (.eq (.int .u64 ((wd x k:Nat):Int))) w):=by
 subst hz
 exact(nWord (λ_=>False) va x k zo w ha).mono λ_ _ ⟨e,h2⟩=>⟨_,e,h2,by simp;rfl⟩
theorem cLead(hx:x<18446744073709551616):Calls Tryz.prog 151 #[.int .u64 ((x:Nat):Int)] w (Ret (.eq (.int .i64 ((xE x:Nat):Int))) w):=
 (wLead x hx w).mono λ_ _ ⟨e,h2⟩=>⟨_,e,drawn_grow h2,rfl⟩
theorem cShl(ha:(MR.nat x).R w va)(hk:k<64)(hs:Small (x*2^k)):Calls Tryz.prog 152 #[va,.int .i64 ((k:Nat):Int)] w (Ret (.tup2 (.nat (x*2^k)) (.eq (.bool true))) w):=
 (nShl (λ_=>False) va x k w (lows0 w) ha hk hs).mono λ_ _ ⟨v,e,h1,h2⟩=>⟨_,e,h2,v,_,rfl,h1,rfl⟩
theorem cShr(ha:(MR.nat x).R w va)(hk:k<64):Calls Tryz.prog 156 #[va,.int .i64 ((k:Nat):Int)] w (Ret (.nat (x/2^k)) w):=
 (nShr (λ_=>False) va x k w (lows0 w) ha hk).mono λ_ _ ⟨v,e,h1,h2⟩=>⟨v,e,h2,h1⟩
theorem cByWord{d:Nat}(ha:(MR.nat x).R w va)(hd:d<18446744073709551616):Calls Tryz.prog 150 #[va,.int .u64 ((d:Nat):Int)] w (Ret (.tup3 (.nat (x/d)) (.eq (.int .u64 ((if d=0 then 0 else x%d:Nat):Int))) (.eq (.bool (!decide (d=0))))) w):=by
 by_cases h:d=0
 ·subst h
  exact(qByWord_no (λ_=>False) va x w ha).mono λ_ _ ⟨e,h2⟩=>⟨_,e,h2,_,_,_,rfl,by rw[Nat.div_zero];exact zNat _,rfl,rfl⟩
 ·refine(qByWord (λ_=>False) va x d w (lows0 w) ha zo hd).mono λ_ _ ⟨v,e,h1,h2⟩=>⟨_,e,h2,v,_,_,rfl,h1,?_,?_⟩
  ·show Value.int _ _=_
   rw[if_neg h];congr 2;unfold remV;simp
  ·show Value.bool _=_
   simp[h]
end
open Go.RowKit
theorem sb_one{x y z:Nat}:(((sbB x y z:Nat):Int)==1)=decide (sbB x y z=1):=by
 rw[Bool.eq_iff_iff];simp;omega
theorem yI:yJ Tryz.prog 123:=zL Tryz.func123 rfl zk
theorem xD:yJ Tryz.prog 143:=zL Tryz.func143 rfl zk
theorem cal_word_Add:yJ Tryz.prog 145:=zL Tryz.func145 rfl zk
theorem cal_word_Sub:yJ Tryz.prog 146:=zL Tryz.func146 rfl zk
theorem cal_word_MulAdd:yJ Tryz.prog 142:=zL Tryz.func142 rfl zk
set_option maxHeartbeats 2000000 in
theorem cTake{g o c L N y q:Nat}{f0:Nat->Nat}{vb:Value}{w:World}(R0:Blk w g 177 (wa f0 L))(hb:(MR.natF ((λk=>k=g)) (y)).R w vb)(hq:q<18446744073709551616)(hN:o+nw y<N)(hL:N<=L)(hs:nw y<=1099511627776)(hf0:Wf f0 N):Calls Tryz.prog 154 #[.slice (some ⟨g,o,none⟩) (nw y+1) (c),vb,.int .u64 (((q:Nat):Int))] w (RetB g L (λv f=>∃b,v=.bool (decide (b=1))/\TRes q y o (nw y) f0 f N b) w):=by
 have _:=hs
 have _:=hL
 have Rg:=R0
 refine calls_enter (a:=⟨List.toArray ([.slice (some ⟨g,o,none⟩) (nw y+1) (c),vb,Ut q]++us 55),[]⟩) Tryz.func154 rfl zk ?_
 have NL:NoLook (bodyPost Tryz.prog Tryz.f154 (RetB g L (λv f=>∃b,v=.bool (decide (b=1))/\TRes q y o (nw y) f0 f N b) w)):=noLook_body
 refine wp_seq ?_
 refine rg (λc d v a w h=>NL c d v a w h) [(4,.ptr 72 (.natF ((λk=>k=g)) (y))),(6,.eq (.bool (false)))] [0] [] [] 58 2 ?_ ?_
 ·refine sn [] (λw1 hw1=>.fin (yld_newBox rfl rfl (MR.mono _ hw1 hb))) ?_
  exact so [] (λw1 hw1=>.fin (zU rfl ⟨Grow.refl _,rfl⟩)) (.nil _ _)
 rintro w1 hw1 _ ⟨b4,rfl,B4⟩ _ rfl hN
 have W1:Mod g w w1:=(Mod.refl g w).trans hw1
 have n_b4_g:b4≠g:=Nat.ne_of_gt (Nat.lt_of_lt_of_le Rg.lt hN.1.1)
 clear hN
 replace Rg:=Rg.below hw1
 replace hb:=MR.mono _ hw1 hb
 refine fr ([.slice (some ⟨g,o,none⟩) (nw y+1) (c),vb,Ut q,u,pt b4,u,.bool (false)]++us 51) ?_
 refine nx ?_
 refine wp_seq ?_
 refine rg (λc d v a w h=>NL c d v a w h) [(7,.eq (.int .u64 (0))),(8,.eq (.int .u64 (0)))] [] [] [] 58 2 ?_ ?_
 ·refine so [] (λw2 hw2=>.fin (zU rfl ⟨Grow.refl _,rfl⟩)) ?_
  exact so [] (λw2 hw2=>.fin (zU rfl ⟨Grow.refl _,rfl⟩)) (.nil _ _)
 rintro w2 hw2 _ rfl _ rfl-
 have W2:Mod g w w2:=W1.trans hw2
 replace B4:=B4.grow hw2
 replace Rg:=Rg.below hw2
 replace hb:=MR.mono _ hw2 hb
 refine fr ([.slice (some ⟨g,o,none⟩) (nw y+1) (c),vb,Ut q,u,pt b4,u,.bool (false),.int .u64 (0),.int .u64 (0)]++us 49) ?_
 refine nx ?_
 refine wp_seq ?_
 refine wp_seq ?_
 refine rg (λc d v a w h=>NL c d v a w h) [(12,.natF ((λk=>k=g)) (y)),(13,.eq (.int .i64 (((nw y:Nat):Int)))),(14,.eq (.int .i64 (0)))] [] [] [] 58 3 ?_ ?_
 ·refine so [] (λw3 hw3=>.fin (zS rfl rfl yB (B4.grow hw3) (jN))) ?_
  refine so [0] (λw3 hw3=>by rintro v12 h12;exact .fin (zV rfl yI rfl (cLenF h12))) ?_
  exact so [] (λw3 hw3=>.fin (zG rfl ⟨Grow.refl _,rfl⟩)) (.nil _ _)
 rintro w3 hw3 v12-_ rfl _ rfl-
 have W3:Mod g w w3:=W2.trans hw3
 replace B4:=B4.grow hw3
 replace Rg:=Rg.below hw3
 replace hb:=MR.mono _ hw3 hb
 refine fr ([.slice (some ⟨g,o,none⟩) (nw y+1) (c),vb,Ut q,u,pt b4,u,.bool (false),.int .u64 (0),.int .u64 (0),u,u,u,v12,It (nw y),.int .i64 (0)]++us 43) ?_
 refine nx ?_
 refine wp_block ?_
 refine wp_loop_ghost (λnn ac4 w4=>∃(i:Nat) (ov:Nat) (bo:Nat) (f:Nat->Nat),nn=nw y-i/\(i<=nw y/\TInv q y o f0 f N i ov bo)/\∃tt4:Nat->Value,ac4=⟨List.toArray ([.slice (some ⟨g,o,none⟩) (nw y+1) (c),vb,Ut q,u,pt b4,u,.bool (false),Ut ov,Ut bo,(tt4 9),(tt4 10),(tt4 11),v12,It (nw y),It i,(tt4 15),(tt4 16),(tt4 17),(tt4 18),(tt4 19),(tt4 20),(tt4 21),(tt4 22),(tt4 23),(tt4 24),(tt4 25),(tt4 26),(tt4 27),(tt4 28),(tt4 29),(tt4 30),(tt4 31),(tt4 32),(tt4 33),(tt4 34),(tt4 35),(tt4 36),(tt4 37),(tt4 38),(tt4 39),(tt4 40)]++us 17),[]⟩/\Mod g w w4/\Box w4 b4 72 (.natF ((λk=>k=g)) (y))/\Blk w4 g 177 (wa (f) (L))/\(MR.natF ((λk=>k=g)) (y)).R w4 vb) (nw y-0) ⟨0,0,0,f0,rfl,⟨by omega,t_start hf0⟩,λd=>([.int .u64 (0),.int .u64 (0),u,u,u,v12,It (nw y),.int .i64 (0),u,u,u,u,u,u,u,u,u,u,u,u,u,u,u,u,u,u,u,u,u,u,u,u,u,u]:List Value).getD (d-7) undef,by kernel_rfl,W3,B4,Rg,hb⟩ ?_
 clear B4 Rg hb
 rintro nn4 _ w4 ⟨i,ov,bo,f,hnn4,⟨hi,hT⟩,tt4,rfl,W4,B4,Rg,hb⟩
 have hov:=hT.2.1;have hbo:=hT.2.2.1
 refine wp_seq ?_
 refine rg (λc d v a w h=>NL c d v a w h) [(15,.eq (.bool (decide ((((i:Nat):Int):Int)<(((nw y:Nat):Int):Int)))))] [] [] [] 58 1 ?_ ?_
 ·exact so [] (λw5 hw5=>.fin (yld_lss rfl rfl rfl ⟨Grow.refl _,rfl⟩)) (.nil _ _)
 rintro w5 hw5 _ rfl-
 have W5:Mod g w w5:=W4.trans hw5
 replace B4:=B4.grow hw5
 replace Rg:=Rg.below hw5
 replace hb:=MR.mono _ hw5 hb
 refine fr ([.slice (some ⟨g,o,none⟩) (nw y+1) (c),vb,Ut q,u,pt b4,u,.bool (false),Ut ov,Ut bo,(tt4 9),(tt4 10),(tt4 11),v12,It (nw y),It i,.bool (decide ((((i:Nat):Int):Int)<(((nw y:Nat):Int):Int))),(tt4 16),(tt4 17),(tt4 18),(tt4 19),(tt4 20),(tt4 21),(tt4 22),(tt4 23),(tt4 24),(tt4 25),(tt4 26),(tt4 27),(tt4 28),(tt4 29),(tt4 30),(tt4 31),(tt4 32),(tt4 33),(tt4 34),(tt4 35),(tt4 36),(tt4 37),(tt4 38),(tt4 39),(tt4 40)]++us 17) ?_
 refine nx ?_
 refine wp_seq ?_
 refine wp_cond_split (t:=decide ((((i:Nat):Int):Int)<(((nw y:Nat):Int):Int))) rfl (λhlt=>?_) (λhlt=>?_)
 ·have hlt1:i<nw y:=by simpa using hlt
  have hfi:=hT.1 (o+i) zo
  refine wp_skip ?_
  change Code.wp _ _ _ ⟨_,[]⟩ _
  refine wp_seq ?_
  refine wp_block ?_
  refine wp_seq ?_
  refine rg (λc d v a w h=>NL c d v a w h) [(16,.eq (.int .i64 (((i:Nat):Int)))),(9,.eq (.int .i64 (((i:Nat):Int))))] [] [] [] 58 2 ?_ ?_
  ·refine so [] (λw6 hw6=>.fin (zG rfl ⟨Grow.refl _,rfl⟩)) ?_
   exact so [0] (λw6 hw6=>by rintro _ rfl;exact .fin (zU rfl ⟨Grow.refl _,rfl⟩)) (.nil _ _)
  rintro w6 hw6 v16-_ rfl-
  have W6:Mod g w w6:=W5.trans hw6
  replace B4:=B4.grow hw6
  replace Rg:=Rg.below hw6
  replace hb:=MR.mono _ hw6 hb
  refine fr ([.slice (some ⟨g,o,none⟩) (nw y+1) (c),vb,Ut q,u,pt b4,u,.bool (false),Ut ov,Ut bo,It i,(tt4 10),(tt4 11),v12,It (nw y),It i,.bool (decide ((((i:Nat):Int):Int)<(((nw y:Nat):Int):Int))),v16,(tt4 17),(tt4 18),(tt4 19),(tt4 20),(tt4 21),(tt4 22),(tt4 23),(tt4 24),(tt4 25),(tt4 26),(tt4 27),(tt4 28),(tt4 29),(tt4 30),(tt4 31),(tt4 32),(tt4 33),(tt4 34),(tt4 35),(tt4 36),(tt4 37),(tt4 38),(tt4 39),(tt4 40)]++us 17) ?_
  refine nx ?_
  refine wp_seq ?_
  refine rg (λc d v a w h=>NL c d v a w h) [(18,.natF ((λk=>k=g)) (y)),(19,.eq (.int .i64 (((i:Nat):Int)))),(20,.eq (.int .u64 (((wd y i:Nat):Int)))),(21,.eq (.int .u64 (((q:Nat):Int)))),(22,.eq (.int .u64 (((ov:Nat):Int)))),(23,.tup2 (.eq (.int .u64 (((((wd y i)*q+ov+0)/18446744073709551616:Nat):Int)))) (.eq (.int .u64 (((((wd y i)*q+ov+0)%18446744073709551616:Nat):Int))))),(17,.tup2 (.eq (.int .u64 (((((wd y i)*q+ov+0)/18446744073709551616:Nat):Int)))) (.eq (.int .u64 (((((wd y i)*q+ov+0)%18446744073709551616:Nat):Int))))),(24,.eq (.int .u64 (((((wd y i)*q+ov+0)/18446744073709551616:Nat):Int)))),(25,.eq (.int .u64 (((((wd y i)*q+ov+0)%18446744073709551616:Nat):Int)))),(10,.eq (.int .u64 (((((wd y i)*q+ov+0)/18446744073709551616:Nat):Int)))),(11,.eq (.int .u64 (((((wd y i)*q+ov+0)%18446744073709551616:Nat):Int))))] [] [] [] 58 11 ?_ ?_
  ·refine so [] (λw7 hw7=>.fin (zS rfl rfl yB (B4.grow hw7) (jN))) ?_
   refine so [] (λw7 hw7=>.fin (zG rfl ⟨Grow.refl _,rfl⟩)) ?_
   refine so [0,1] (λw7 hw7=>by rintro v18 h18 _ rfl;exact .fin (zV rfl xD rfl (cWordF (k:=i) h18))) ?_
   refine so [] (λw7 hw7=>.fin (zG rfl ⟨Grow.refl _,rfl⟩)) ?_
   refine so [] (λw7 hw7=>.fin (zG rfl ⟨Grow.refl _,rfl⟩)) ?_
   refine so [2,3,4] (λw7 hw7=>by rintro _ rfl _ rfl _ rfl;exact .fin (zV rfl cal_word_MulAdd rfl (cWMulAdd (x:=(wd y i)) (y:=q) (a:=ov) (b:=0) (by first | omega | exact xH _ _ | exact Nat.mod_lt _ zo) (by first | omega | exact xH _ _ | exact Nat.mod_lt _ zo) (by first | omega | exact xH _ _ | exact Nat.mod_lt _ zo) (by first | omega | exact xH _ _ | exact Nat.mod_lt _ zo)))) ?_
   refine so [5] (λw7 hw7=>by rintro _ ⟨x23_0,x23_1,rfl,hx23_0,hx23_1⟩;exact .fin (zG rfl ⟨Grow.refl _,⟨x23_0,x23_1,rfl,hx23_0,hx23_1⟩⟩)) ?_
   refine so [6] (λw7 hw7=>by rintro _ ⟨x17_0,x17_1,rfl,hx17_0,hx17_1⟩;exact .fin (xU rfl rfl rfl ⟨Grow.refl _,hx17_0⟩)) ?_
   refine so [6] (λw7 hw7=>by rintro _ ⟨x17_0,x17_1,rfl,hx17_0,hx17_1⟩;exact .fin (xU rfl rfl rfl ⟨Grow.refl _,hx17_1⟩)) ?_
   refine so [7] (λw7 hw7=>by rintro _ rfl;exact .fin (zU rfl ⟨Grow.refl _,rfl⟩)) ?_
   exact so [8] (λw7 hw7=>by rintro _ rfl;exact .fin (zU rfl ⟨Grow.refl _,rfl⟩)) (.nil _ _)
  rintro w7 hw7 v18-v19-v20-v21-v22-v23-v17-v24-v25-_ rfl _ rfl-
  have W7:Mod g w w7:=W6.trans hw7
  replace B4:=B4.grow hw7
  replace Rg:=Rg.below hw7
  replace hb:=MR.mono _ hw7 hb
  refine fr ([.slice (some ⟨g,o,none⟩) (nw y+1) (c),vb,Ut q,u,pt b4,u,.bool (false),Ut ov,Ut bo,It i,Ut (((wd y i)*q+ov+0)/18446744073709551616),Ut (((wd y i)*q+ov+0)%18446744073709551616),v12,It (nw y),It i,.bool (decide ((((i:Nat):Int):Int)<(((nw y:Nat):Int):Int))),v16,v17,v18,v19,v20,v21,v22,v23,v24,v25,(tt4 26),(tt4 27),(tt4 28),(tt4 29),(tt4 30),(tt4 31),(tt4 32),(tt4 33),(tt4 34),(tt4 35),(tt4 36),(tt4 37),(tt4 38),(tt4 39),(tt4 40)]++us 17) ?_
  refine nx ?_
  refine wp_seq ?_
  refine rg (λc d v a w h=>NL c d v a w h) [(26,.eq (.int .u64 (((((wd y i)*q+ov+0)/18446744073709551616:Nat):Int)))),(7,.eq (.int .u64 (((((wd y i)*q+ov+0)/18446744073709551616:Nat):Int))))] [] [] [] 58 2 ?_ ?_
  ·refine so [] (λw8 hw8=>.fin (zG rfl ⟨Grow.refl _,rfl⟩)) ?_
   exact so [0] (λw8 hw8=>by rintro _ rfl;exact .fin (zU rfl ⟨Grow.refl _,rfl⟩)) (.nil _ _)
  rintro w8 hw8 v26-_ rfl-
  have W8:Mod g w w8:=W7.trans hw8
  replace B4:=B4.grow hw8
  replace Rg:=Rg.below hw8
  replace hb:=MR.mono _ hw8 hb
  refine fr ([.slice (some ⟨g,o,none⟩) (nw y+1) (c),vb,Ut q,u,pt b4,u,.bool (false),Ut (((wd y i)*q+ov+0)/18446744073709551616),Ut bo,It i,Ut (((wd y i)*q+ov+0)/18446744073709551616),Ut (((wd y i)*q+ov+0)%18446744073709551616),v12,It (nw y),It i,.bool (decide ((((i:Nat):Int):Int)<(((nw y:Nat):Int):Int))),v16,v17,v18,v19,v20,v21,v22,v23,v24,v25,v26,(tt4 27),(tt4 28),(tt4 29),(tt4 30),(tt4 31),(tt4 32),(tt4 33),(tt4 34),(tt4 35),(tt4 36),(tt4 37),(tt4 38),(tt4 39),(tt4 40)]++us 17) ?_
  refine nx ?_
  refine rg (λc d v a w h=>NL c d v a w h) [(28,.eq (.slice (some ⟨g,o,none⟩) (nw y+1) (c))),(29,.eq (.int .i64 (((i:Nat):Int)))),(30,.eq (.slice (some ⟨g,o,none⟩) (nw y+1) (c))),(31,.eq (.int .i64 (((i:Nat):Int)))),(32,.eq (.pointer (some ⟨g,o+i,none⟩))),(33,.eq (.int .u64 (((f (o+i):Nat):Int)))),(34,.eq (.int .u64 (((((wd y i)*q+ov+0)%18446744073709551616:Nat):Int)))),(35,.eq (.int .u64 (((bo:Nat):Int)))),(36,.tup2 (.eq (.int .u64 (((sbW (f (o+i)) (((wd y i)*q+ov+0)%18446744073709551616) bo:Nat):Int)))) (.eq (.int .u64 (((sbB (f (o+i)) (((wd y i)*q+ov+0)%18446744073709551616) bo:Nat):Int))))),(27,.tup2 (.eq (.int .u64 (((sbW (f (o+i)) (((wd y i)*q+ov+0)%18446744073709551616) bo:Nat):Int)))) (.eq (.int .u64 (((sbB (f (o+i)) (((wd y i)*q+ov+0)%18446744073709551616) bo:Nat):Int))))),(37,.eq (.int .u64 (((sbW (f (o+i)) (((wd y i)*q+ov+0)%18446744073709551616) bo:Nat):Int)))),(38,.eq (.int .u64 (((sbB (f (o+i)) (((wd y i)*q+ov+0)%18446744073709551616) bo:Nat):Int)))),(39,.eq (.pointer (some ⟨g,o+i,none⟩)))] [] [11] [] 58 13 ?_ ?_
  ·refine so [] (λw9 hw9=>.fin (zG rfl ⟨Grow.refl _,rfl⟩)) ?_
   refine so [] (λw9 hw9=>.fin (zG rfl ⟨Grow.refl _,rfl⟩)) ?_
   refine so [] (λw9 hw9=>.fin (zG rfl ⟨Grow.refl _,rfl⟩)) ?_
   refine so [] (λw9 hw9=>.fin (zG rfl ⟨Grow.refl _,rfl⟩)) ?_
   refine so [2,3] (λw9 hw9=>by rintro _ rfl _ rfl;exact .fin (yL (k:=i) rfl rfl rfl (rfl) zo (j:=o+i) (rfl))) ?_
   refine so [4] (λw9 hw9=>by rintro _ rfl;exact .fin (kJ rfl rfl (Rg.below hw9) zo)) ?_
   refine so [] (λw9 hw9=>.fin (zG rfl ⟨Grow.refl _,rfl⟩)) ?_
   refine so [] (λw9 hw9=>.fin (zG rfl ⟨Grow.refl _,rfl⟩)) ?_
   refine so [5,6,7] (λw9 hw9=>by rintro _ rfl _ rfl _ rfl;exact .fin (zV rfl cal_word_Sub rfl (cWSub (x:=(f (o+i))) (y:=(((wd y i)*q+ov+0)%18446744073709551616)) (z:=bo) (by first | omega | exact xH _ _ | exact Nat.mod_lt _ zo) (by first | omega | exact xH _ _ | exact Nat.mod_lt _ zo) zo))) ?_
   refine so [8] (λw9 hw9=>by rintro _ ⟨x36_0,x36_1,rfl,hx36_0,hx36_1⟩;exact .fin (zG rfl ⟨Grow.refl _,⟨x36_0,x36_1,rfl,hx36_0,hx36_1⟩⟩)) ?_
   refine so [9] (λw9 hw9=>by rintro _ ⟨x27_0,x27_1,rfl,hx27_0,hx27_1⟩;exact .fin (xU rfl rfl rfl ⟨Grow.refl _,hx27_0⟩)) ?_
   refine sl [9] (λw9 hw9=>by rintro _ ⟨x27_0,x27_1,rfl,hx27_0,hx27_1⟩;exact .fin (⟨_,λw2 _=>xA rfl rfl rfl w2,hx27_1⟩)) ?_
   exact so [0,1] (λw9 hw9=>by rintro _ rfl _ rfl;exact .fin (yL (k:=i) rfl rfl rfl (rfl) zo (j:=o+i) (rfl))) (.nil _ _)
  rintro w9 hw9 v28-v29-v30-v31-v32-v33-v34-v35-v36-v27-_ rfl _ rfl _ rfl-
  have W9:Mod g w w9:=W8.trans hw9
  replace B4:=B4.grow hw9
  replace Rg:=Rg.below hw9
  replace hb:=MR.mono _ hw9 hb
  have KK:Kept [] w9 w9:=λ_ _=>rfl
  refine fr ([.slice (some ⟨g,o,none⟩) (nw y+1) (c),vb,Ut q,u,pt b4,u,.bool (false),Ut (((wd y i)*q+ov+0)/18446744073709551616),Ut bo,It i,Ut (((wd y i)*q+ov+0)/18446744073709551616),Ut (((wd y i)*q+ov+0)%18446744073709551616),v12,It (nw y),It i,.bool (decide ((((i:Nat):Int):Int)<(((nw y:Nat):Int):Int))),v16,v17,v18,v19,v20,v21,v22,v23,v24,v25,v26,v27,v28,v29,v30,v31,v32,v33,v34,v35,v36,Ut (sbW (f (o+i)) (((wd y i)*q+ov+0)%18446744073709551616) bo),Ut (sbB (f (o+i)) (((wd y i)*q+ov+0)%18446744073709551616) bo),.pointer (some ⟨g,o+i,none⟩),(tt4 40)]++us 17) ?_
  change zO _ _ _ _ [_,_] ⟨_,[]⟩ _
  refine zN rfl ?_
  refine jL (i:=o+i) (v:=sbW (f (o+i)) (((wd y i)*q+ov+0)%18446744073709551616) bo) rfl rfl rfl Rg zo λw10 P10 R'=>⟨λ_=>Kept.put KK P10 (λ_ hk=>(by cases hk)),?_⟩
  replace KK:=Kept.put KK P10 (λ_ hk=>(by cases hk))
  have M10:Mod g w9 w10:=P10.toMod
  have W10:Mod g w w10:=W9.step M10
  replace B4:=B4.mod M10 rfl n_b4_g
  replace hb:=natF_mod hb M10 rfl
  replace Rg:=R';clear R'
  change zO _ _ _ _ [_] ⟨_,[]⟩ _
  refine zN rfl ?_
  refine zU rfl ⟨λ_=>KK,?_⟩
  refine yG ?_
  change Code.wp _ _ _ ⟨List.toArray (List.set _ 8 _),[]⟩ _
  refine rg (λc d v a w h=>NL c d v a w h) [(40,.eq (.int .i64 (((i+1:Nat):Int))))] [] [] [] 58 1 ?_ ?_
  ·exact so [] (λw11 hw11=>.fin (kV rfl rfl rfl (r:=((i+1:Nat):Int)) (by rw[IntKind.wrap_i64];omega) ⟨Grow.refl _,rfl⟩)) (.nil _ _)
  rintro w11 hw11 _ rfl-
  have W11:Mod g w w11:=W10.trans hw11
  replace B4:=B4.grow hw11
  replace Rg:=Rg.below hw11
  replace hb:=MR.mono _ hw11 hb
  have KK:Kept [] w11 w11:=λ_ _=>rfl
  refine fr ([.slice (some ⟨g,o,none⟩) (nw y+1) (c),vb,Ut q,u,pt b4,u,.bool (false),Ut (((wd y i)*q+ov+0)/18446744073709551616),Ut (sbB (f (o+i)) (((wd y i)*q+ov+0)%18446744073709551616) bo),It i,Ut (((wd y i)*q+ov+0)/18446744073709551616),Ut (((wd y i)*q+ov+0)%18446744073709551616),v12,It (nw y),It i,.bool (decide ((((i:Nat):Int):Int)<(((nw y:Nat):Int):Int))),v16,v17,v18,v19,v20,v21,v22,v23,v24,v25,v26,v27,v28,v29,v30,v31,v32,v33,v34,v35,v36,Ut (sbW (f (o+i)) (((wd y i)*q+ov+0)%18446744073709551616) bo),Ut (sbB (f (o+i)) (((wd y i)*q+ov+0)%18446744073709551616) bo),.pointer (some ⟨g,o+i,none⟩),It (i+1)]++us 17) ?_
  change zO _ _ _ _ [_] ⟨_,[]⟩ _
  refine zN rfl ?_
  refine zG rfl ⟨λ_=>KK,?_⟩
  refine yG ?_
  refine⟨_,?_,i+1,((wd y i)*q+ov+0)/18446744073709551616,sbB (f (o+i)) (((wd y i)*q+ov+0)%18446744073709551616) bo,upd (f) (o+i) (sbW (f (o+i)) (((wd y i)*q+ov+0)%18446744073709551616) bo),rfl,⟨by omega,t_step hT zo hq⟩,λd=>([Ut (((wd y i)*q+ov+0)/18446744073709551616),Ut (sbB (f (o+i)) (((wd y i)*q+ov+0)%18446744073709551616) bo),It i,Ut (((wd y i)*q+ov+0)/18446744073709551616),Ut (((wd y i)*q+ov+0)%18446744073709551616),v12,It (nw y),It (i+1),.bool (decide ((((i:Nat):Int):Int)<(((nw y:Nat):Int):Int))),v16,v17,v18,v19,v20,v21,v22,v23,v24,v25,v26,v27,v28,v29,v30,v31,v32,v33,v34,v35,v36,Ut (sbW (f (o+i)) (((wd y i)*q+ov+0)%18446744073709551616) bo),Ut (sbB (f (o+i)) (((wd y i)*q+ov+0)%18446744073709551616) bo),.pointer (some ⟨g,o+i,none⟩),It (i+1)]:List Value).getD (d-7) undef,by kernel_rfl,W11,B4,Rg,hb⟩
  rw[hnn4];omega
 ·have hi1:i=nw y:=Nat.le_antisymm hi (by simpa using hlt)
  rw[hi1] at hT
  have hfi:=hT.1 (o+nw y) zo
  refine wp_exit ?_
  change Code.wp _ _ _ ⟨_,[]⟩ _
  refine wp_seq ?_
  refine rg (λc d v a w h=>NL c d v a w h) [(42,.eq (.slice (some ⟨g,o,none⟩) (nw y+1) (c))),(43,.natF ((λk=>k=g)) (y)),(44,.eq (.int .i64 (((nw y:Nat):Int)))),(45,.eq (.slice (some ⟨g,o,none⟩) (nw y+1) (c))),(46,.natF ((λk=>k=g)) (y)),(47,.eq (.int .i64 (((nw y:Nat):Int)))),(48,.eq (.pointer (some ⟨g,o+(nw y),none⟩))),(49,.eq (.int .u64 (((f (o+(nw y)):Nat):Int)))),(50,.eq (.int .u64 (((ov:Nat):Int)))),(51,.eq (.int .u64 (((bo:Nat):Int)))),(52,.tup2 (.eq (.int .u64 (((sbW (f (o+(nw y))) ov bo:Nat):Int)))) (.eq (.int .u64 (((sbB (f (o+(nw y))) ov bo:Nat):Int))))),(41,.tup2 (.eq (.int .u64 (((sbW (f (o+(nw y))) ov bo:Nat):Int)))) (.eq (.int .u64 (((sbB (f (o+(nw y))) ov bo:Nat):Int))))),(53,.eq (.int .u64 (((sbW (f (o+(nw y))) ov bo:Nat):Int)))),(54,.eq (.int .u64 (((sbB (f (o+(nw y))) ov bo:Nat):Int)))),(55,.eq (.pointer (some ⟨g,o+(nw y),none⟩)))] [] [13] [] 58 15 ?_ ?_
  ·refine so [] (λw12 hw12=>.fin (zG rfl ⟨Grow.refl _,rfl⟩)) ?_
   refine so [] (λw12 hw12=>.fin (zS rfl rfl yB (B4.grow hw12) (jN))) ?_
   refine so [1] (λw12 hw12=>by rintro v43 h43;exact .fin (zV rfl yI rfl (cLenF h43))) ?_
   refine so [] (λw12 hw12=>.fin (zG rfl ⟨Grow.refl _,rfl⟩)) ?_
   refine so [] (λw12 hw12=>.fin (zS rfl rfl yB (B4.grow hw12) (jN))) ?_
   refine so [4] (λw12 hw12=>by rintro v46 h46;exact .fin (zV rfl yI rfl (cLenF h46))) ?_
   refine so [3,5] (λw12 hw12=>by rintro _ rfl _ rfl;exact .fin (yL (k:=nw y) rfl rfl rfl (rfl) zo (j:=o+(nw y)) (rfl))) ?_
   refine so [6] (λw12 hw12=>by rintro _ rfl;exact .fin (kJ rfl rfl (Rg.below hw12) zo)) ?_
   refine so [] (λw12 hw12=>.fin (zG rfl ⟨Grow.refl _,rfl⟩)) ?_
   refine so [] (λw12 hw12=>.fin (zG rfl ⟨Grow.refl _,rfl⟩)) ?_
   refine so [7,8,9] (λw12 hw12=>by rintro _ rfl _ rfl _ rfl;exact .fin (zV rfl cal_word_Sub rfl (cWSub (x:=(f (o+(nw y)))) (y:=ov) (z:=bo) (by first | omega | exact xH _ _ | exact Nat.mod_lt _ zo) (by first | omega | exact xH _ _ | exact Nat.mod_lt _ zo) zo))) ?_
   refine so [10] (λw12 hw12=>by rintro _ ⟨x52_0,x52_1,rfl,hx52_0,hx52_1⟩;exact .fin (zG rfl ⟨Grow.refl _,⟨x52_0,x52_1,rfl,hx52_0,hx52_1⟩⟩)) ?_
   refine so [11] (λw12 hw12=>by rintro _ ⟨x41_0,x41_1,rfl,hx41_0,hx41_1⟩;exact .fin (xU rfl rfl rfl ⟨Grow.refl _,hx41_0⟩)) ?_
   refine sl [11] (λw12 hw12=>by rintro _ ⟨x41_0,x41_1,rfl,hx41_0,hx41_1⟩;exact .fin (⟨_,λw2 _=>xA rfl rfl rfl w2,hx41_1⟩)) ?_
   exact so [0,2] (λw12 hw12=>by rintro _ rfl _ rfl;exact .fin (yL (k:=nw y) rfl rfl rfl (rfl) zo (j:=o+(nw y)) (rfl))) (.nil _ _)
  rintro w12 hw12 v42-v43-v44-v45-v46-v47-v48-v49-v50-v51-v52-v41-_ rfl _ rfl _ rfl-
  have W12:Mod g w w12:=W5.trans hw12
  replace Rg:=Rg.below hw12
  have KK:Kept [] w12 w12:=λ_ _=>rfl
  refine fr [.slice (some ⟨g,o,none⟩) (nw y+1) (c),vb,Ut q,u,pt b4,u,.bool (false),Ut ov,Ut bo,(tt4 9),(tt4 10),(tt4 11),v12,It (nw y),It i,.bool (decide ((((i:Nat):Int):Int)<(((nw y:Nat):Int):Int))),(tt4 16),(tt4 17),(tt4 18),(tt4 19),(tt4 20),(tt4 21),(tt4 22),(tt4 23),(tt4 24),(tt4 25),(tt4 26),(tt4 27),(tt4 28),(tt4 29),(tt4 30),(tt4 31),(tt4 32),(tt4 33),(tt4 34),(tt4 35),(tt4 36),(tt4 37),(tt4 38),(tt4 39),(tt4 40),v41,v42,v43,v44,v45,v46,v47,v48,v49,v50,v51,v52,Ut (sbW (f (o+(nw y))) ov bo),Ut (sbB (f (o+(nw y))) ov bo),.pointer (some ⟨g,o+(nw y),none⟩),u,u] ?_
  change zO _ _ _ _ [_,_] ⟨_,[]⟩ _
  refine zN rfl ?_
  refine jL (i:=o+(nw y)) (v:=sbW (f (o+(nw y))) ov bo) rfl rfl rfl Rg zo λw13 P13 R'=>⟨λ_=>Kept.put KK P13 (λ_ hk=>(by cases hk)),?_⟩
  replace KK:=Kept.put KK P13 (λ_ hk=>(by cases hk))
  have M13:Mod g w12 w13:=P13.toMod
  have W13:Mod g w w13:=W12.step M13
  replace Rg:=R';clear R'
  change zO _ _ _ _ [_] ⟨_,[]⟩ _
  refine zN rfl ?_
  refine zU rfl ⟨λ_=>KK,?_⟩
  refine yG ?_
  change Code.wp _ _ _ ⟨List.toArray (List.set _ 8 _),[]⟩ _
  refine wp_seq ?_
  refine rg (λc d v a w h=>NL c d v a w h) [(56,.eq (.int .u64 (((sbB (f (o+(nw y))) ov bo:Nat):Int)))),(57,.eq (.bool ((((sbB (f (o+(nw y))) ov bo:Nat):Int):Int)==(1:Int)))),(6,.eq (.bool ((((sbB (f (o+(nw y))) ov bo:Nat):Int):Int)==(1:Int))))] [] [] [] 58 3 ?_ ?_
  ·refine so [] (λw14 hw14=>.fin (zG rfl ⟨Grow.refl _,rfl⟩)) ?_
   refine so [0] (λw14 hw14=>by rintro _ rfl;exact .fin (yld_eql rfl rfl rfl ⟨Grow.refl _,rfl⟩)) ?_
   exact so [1] (λw14 hw14=>by rintro _ rfl;exact .fin (zU rfl ⟨Grow.refl _,rfl⟩)) (.nil _ _)
  rintro w14 hw14 v56-v57-_ rfl-
  have W14:Mod g w w14:=W13.trans hw14
  replace Rg:=Rg.below hw14
  refine fr [.slice (some ⟨g,o,none⟩) (nw y+1) (c),vb,Ut q,u,pt b4,u,.bool ((((sbB (f (o+(nw y))) ov bo:Nat):Int):Int)==(1:Int)),Ut ov,Ut (sbB (f (o+(nw y))) ov bo),(tt4 9),(tt4 10),(tt4 11),v12,It (nw y),It i,.bool (decide ((((i:Nat):Int):Int)<(((nw y:Nat):Int):Int))),(tt4 16),(tt4 17),(tt4 18),(tt4 19),(tt4 20),(tt4 21),(tt4 22),(tt4 23),(tt4 24),(tt4 25),(tt4 26),(tt4 27),(tt4 28),(tt4 29),(tt4 30),(tt4 31),(tt4 32),(tt4 33),(tt4 34),(tt4 35),(tt4 36),(tt4 37),(tt4 38),(tt4 39),(tt4 40),v41,v42,v43,v44,v45,v46,v47,v48,v49,v50,v51,v52,Ut (sbW (f (o+(nw y))) ov bo),Ut (sbB (f (o+(nw y))) ov bo),.pointer (some ⟨g,o+(nw y),none⟩),v56,v57] ?_
  refine nx ?_
  refine wp_ret ?_
  change bodyPost Tryz.prog Tryz.f154 (RetB g L (λv f=>∃b,v=.bool (decide (b=1))/\TRes q y o (nw y) f0 f N b) w) .ret _ _
  exact body_slotB rfl W14 Rg ⟨_,by show Value.bool _=_;congr 1;exact sb_one,t_end hT zo⟩ rfl
set_option maxHeartbeats 2000000 in
theorem cBack{g o c L N y:Nat}{f0:Nat->Nat}{vb:Value}{w:World}(R0:Blk w g 177 (wa f0 L))(hb:(MR.natF ((λk=>k=g)) (y)).R w vb)(hN:o+nw y<N)(hL:N<=L)(hs:nw y<=1099511627776)(hf0:Wf f0 N):Calls Tryz.prog 155 #[.slice (some ⟨g,o,none⟩) (nw y+1) (c),vb] w (RetB g L (λ_ f=>∃c,BkRes y o (nw y) f0 f N c) w):=by
 have _:=hs
 have _:=hL
 have Rg:=R0
 refine calls_enter (a:=⟨List.toArray ([.slice (some ⟨g,o,none⟩) (nw y+1) (c),vb]++us 33),[]⟩) Tryz.func155 rfl zk ?_
 have NL:NoLook (bodyPost Tryz.prog Tryz.f155 (RetB g L (λ_ f=>∃c,BkRes y o (nw y) f0 f N c) w)):=noLook_body
 refine wp_seq ?_
 refine rg (λc d v a w h=>NL c d v a w h) [(3,.ptr 72 (.natF ((λk=>k=g)) (y)))] [0] [] [] 35 1 ?_ ?_
 ·exact sn [] (λw1 hw1=>.fin (yld_newBox rfl rfl (MR.mono _ hw1 hb))) (.nil _ _)
 rintro w1 hw1 _ ⟨b3,rfl,B3⟩ hN
 have W1:Mod g w w1:=(Mod.refl g w).trans hw1
 have n_b3_g:b3≠g:=Nat.ne_of_gt (Nat.lt_of_lt_of_le Rg.lt hN.1.1)
 clear hN
 replace Rg:=Rg.below hw1
 replace hb:=MR.mono _ hw1 hb
 refine fr ([.slice (some ⟨g,o,none⟩) (nw y+1) (c),vb,u,pt b3]++us 31) ?_
 refine nx ?_
 refine wp_seq ?_
 refine rg (λc d v a w h=>NL c d v a w h) [(4,.eq (.int .u64 (0)))] [] [] [] 35 1 ?_ ?_
 ·exact so [] (λw2 hw2=>.fin (zU rfl ⟨Grow.refl _,rfl⟩)) (.nil _ _)
 rintro w2 hw2 _ rfl-
 have W2:Mod g w w2:=W1.trans hw2
 replace B3:=B3.grow hw2
 replace Rg:=Rg.below hw2
 replace hb:=MR.mono _ hw2 hb
 refine fr ([.slice (some ⟨g,o,none⟩) (nw y+1) (c),vb,u,pt b3,.int .u64 (0)]++us 30) ?_
 refine nx ?_
 refine wp_seq ?_
 refine wp_seq ?_
 refine rg (λc d v a w h=>NL c d v a w h) [(6,.natF ((λk=>k=g)) (y)),(7,.eq (.int .i64 (((nw y:Nat):Int)))),(8,.eq (.int .i64 (0)))] [] [] [] 35 3 ?_ ?_
 ·refine so [] (λw3 hw3=>.fin (zS rfl rfl yB (B3.grow hw3) (jN))) ?_
  refine so [0] (λw3 hw3=>by rintro v6 h6;exact .fin (zV rfl yI rfl (cLenF h6))) ?_
  exact so [] (λw3 hw3=>.fin (zG rfl ⟨Grow.refl _,rfl⟩)) (.nil _ _)
 rintro w3 hw3 v6-_ rfl _ rfl-
 have W3:Mod g w w3:=W2.trans hw3
 replace B3:=B3.grow hw3
 replace Rg:=Rg.below hw3
 replace hb:=MR.mono _ hw3 hb
 refine fr ([.slice (some ⟨g,o,none⟩) (nw y+1) (c),vb,u,pt b3,.int .u64 (0),u,v6,It (nw y),.int .i64 (0)]++us 26) ?_
 refine nx ?_
 refine wp_block ?_
 refine wp_loop_ghost (λnn ac4 w4=>∃(i:Nat) (ca:Nat) (f:Nat->Nat),nn=nw y-i/\(i<=nw y/\BkInv y o f0 f N i ca)/\∃tt4:Nat->Value,ac4=⟨List.toArray ([.slice (some ⟨g,o,none⟩) (nw y+1) (c),vb,u,pt b3,Ut ca,(tt4 5),v6,It (nw y),It i,(tt4 9),(tt4 10),(tt4 11),(tt4 12),(tt4 13),(tt4 14),(tt4 15),(tt4 16),(tt4 17),(tt4 18),(tt4 19),(tt4 20),(tt4 21),(tt4 22),(tt4 23),(tt4 24),(tt4 25),(tt4 26)]++us 8),[]⟩/\Mod g w w4/\Box w4 b3 72 (.natF ((λk=>k=g)) (y))/\Blk w4 g 177 (wa (f) (L))/\(MR.natF ((λk=>k=g)) (y)).R w4 vb) (nw y-0) ⟨0,0,f0,rfl,⟨by omega,bk_start hf0⟩,λd=>([.int .u64 (0),u,v6,It (nw y),.int .i64 (0),u,u,u,u,u,u,u,u,u,u,u,u,u,u,u,u,u,u]:List Value).getD (d-4) undef,by kernel_rfl,W3,B3,Rg,hb⟩ ?_
 clear B3 Rg hb
 rintro nn4 _ w4 ⟨i,ca,f,hnn4,⟨hi,hT⟩,tt4,rfl,W4,B3,Rg,hb⟩
 have hca:=hT.2.1
 refine wp_seq ?_
 refine rg (λc d v a w h=>NL c d v a w h) [(9,.eq (.bool (decide ((((i:Nat):Int):Int)<(((nw y:Nat):Int):Int)))))] [] [] [] 35 1 ?_ ?_
 ·exact so [] (λw5 hw5=>.fin (yld_lss rfl rfl rfl ⟨Grow.refl _,rfl⟩)) (.nil _ _)
 rintro w5 hw5 _ rfl-
 have W5:Mod g w w5:=W4.trans hw5
 replace B3:=B3.grow hw5
 replace Rg:=Rg.below hw5
 replace hb:=MR.mono _ hw5 hb
 refine fr ([.slice (some ⟨g,o,none⟩) (nw y+1) (c),vb,u,pt b3,Ut ca,(tt4 5),v6,It (nw y),It i,.bool (decide ((((i:Nat):Int):Int)<(((nw y:Nat):Int):Int))),(tt4 10),(tt4 11),(tt4 12),(tt4 13),(tt4 14),(tt4 15),(tt4 16),(tt4 17),(tt4 18),(tt4 19),(tt4 20),(tt4 21),(tt4 22),(tt4 23),(tt4 24),(tt4 25),(tt4 26)]++us 8) ?_
 refine nx ?_
 refine wp_seq ?_
 refine wp_cond_split (t:=decide ((((i:Nat):Int):Int)<(((nw y:Nat):Int):Int))) rfl (λhlt=>?_) (λhlt=>?_)
 ·have hlt1:i<nw y:=by simpa using hlt
  have hfi:=hT.1 (o+i) zo
  refine wp_skip ?_
  change Code.wp _ _ _ ⟨_,[]⟩ _
  refine wp_seq ?_
  refine wp_block ?_
  refine wp_seq ?_
  refine rg (λc d v a w h=>NL c d v a w h) [(10,.eq (.int .i64 (((i:Nat):Int)))),(5,.eq (.int .i64 (((i:Nat):Int))))] [] [] [] 35 2 ?_ ?_
  ·refine so [] (λw6 hw6=>.fin (zG rfl ⟨Grow.refl _,rfl⟩)) ?_
   exact so [0] (λw6 hw6=>by rintro _ rfl;exact .fin (zU rfl ⟨Grow.refl _,rfl⟩)) (.nil _ _)
  rintro w6 hw6 v10-_ rfl-
  have W6:Mod g w w6:=W5.trans hw6
  replace B3:=B3.grow hw6
  replace Rg:=Rg.below hw6
  replace hb:=MR.mono _ hw6 hb
  refine fr ([.slice (some ⟨g,o,none⟩) (nw y+1) (c),vb,u,pt b3,Ut ca,It i,v6,It (nw y),It i,.bool (decide ((((i:Nat):Int):Int)<(((nw y:Nat):Int):Int))),v10,(tt4 11),(tt4 12),(tt4 13),(tt4 14),(tt4 15),(tt4 16),(tt4 17),(tt4 18),(tt4 19),(tt4 20),(tt4 21),(tt4 22),(tt4 23),(tt4 24),(tt4 25),(tt4 26)]++us 8) ?_
  refine nx ?_
  refine rg (λc d v a w h=>NL c d v a w h) [(12,.eq (.slice (some ⟨g,o,none⟩) (nw y+1) (c))),(13,.eq (.int .i64 (((i:Nat):Int)))),(14,.eq (.slice (some ⟨g,o,none⟩) (nw y+1) (c))),(15,.eq (.int .i64 (((i:Nat):Int)))),(16,.eq (.pointer (some ⟨g,o+i,none⟩))),(17,.eq (.int .u64 (((f (o+i):Nat):Int)))),(18,.natF ((λk=>k=g)) (y)),(19,.eq (.int .i64 (((i:Nat):Int)))),(20,.eq (.int .u64 (((wd y i:Nat):Int)))),(21,.eq (.int .u64 (((ca:Nat):Int)))),(22,.tup2 (.eq (.int .u64 (((((f (o+i))+(wd y i)+ca)%18446744073709551616:Nat):Int)))) (.eq (.int .u64 (((((f (o+i))+(wd y i)+ca)/18446744073709551616:Nat):Int))))),(11,.tup2 (.eq (.int .u64 (((((f (o+i))+(wd y i)+ca)%18446744073709551616:Nat):Int)))) (.eq (.int .u64 (((((f (o+i))+(wd y i)+ca)/18446744073709551616:Nat):Int))))),(23,.eq (.int .u64 (((((f (o+i))+(wd y i)+ca)%18446744073709551616:Nat):Int)))),(24,.eq (.int .u64 (((((f (o+i))+(wd y i)+ca)/18446744073709551616:Nat):Int)))),(25,.eq (.pointer (some ⟨g,o+i,none⟩)))] [] [13] [] 35 15 ?_ ?_
  ·refine so [] (λw7 hw7=>.fin (zG rfl ⟨Grow.refl _,rfl⟩)) ?_
   refine so [] (λw7 hw7=>.fin (zG rfl ⟨Grow.refl _,rfl⟩)) ?_
   refine so [] (λw7 hw7=>.fin (zG rfl ⟨Grow.refl _,rfl⟩)) ?_
   refine so [] (λw7 hw7=>.fin (zG rfl ⟨Grow.refl _,rfl⟩)) ?_
   refine so [2,3] (λw7 hw7=>by rintro _ rfl _ rfl;exact .fin (yL (k:=i) rfl rfl rfl (rfl) zo (j:=o+i) (rfl))) ?_
   refine so [4] (λw7 hw7=>by rintro _ rfl;exact .fin (kJ rfl rfl (Rg.below hw7) zo)) ?_
   refine so [] (λw7 hw7=>.fin (zS rfl rfl yB (B3.grow hw7) (jN))) ?_
   refine so [] (λw7 hw7=>.fin (zG rfl ⟨Grow.refl _,rfl⟩)) ?_
   refine so [6,7] (λw7 hw7=>by rintro v18 h18 _ rfl;exact .fin (zV rfl xD rfl (cWordF (k:=i) h18))) ?_
   refine so [] (λw7 hw7=>.fin (zG rfl ⟨Grow.refl _,rfl⟩)) ?_
   refine so [5,8,9] (λw7 hw7=>by rintro _ rfl _ rfl _ rfl;exact .fin (zV rfl cal_word_Add rfl (cWAdd (x:=(f (o+i))) (y:=(wd y i)) (z:=ca) (by first | omega | exact xH _ _ | exact Nat.mod_lt _ zo) (by first | omega | exact xH _ _ | exact Nat.mod_lt _ zo) zo))) ?_
   refine so [10] (λw7 hw7=>by rintro _ ⟨x22_0,x22_1,rfl,hx22_0,hx22_1⟩;exact .fin (zG rfl ⟨Grow.refl _,⟨x22_0,x22_1,rfl,hx22_0,hx22_1⟩⟩)) ?_
   refine so [11] (λw7 hw7=>by rintro _ ⟨x11_0,x11_1,rfl,hx11_0,hx11_1⟩;exact .fin (xU rfl rfl rfl ⟨Grow.refl _,hx11_0⟩)) ?_
   refine sl [11] (λw7 hw7=>by rintro _ ⟨x11_0,x11_1,rfl,hx11_0,hx11_1⟩;exact .fin (⟨_,λw2 _=>xA rfl rfl rfl w2,hx11_1⟩)) ?_
   exact so [0,1] (λw7 hw7=>by rintro _ rfl _ rfl;exact .fin (yL (k:=i) rfl rfl rfl (rfl) zo (j:=o+i) (rfl))) (.nil _ _)
  rintro w7 hw7 v12-v13-v14-v15-v16-v17-v18-v19-v20-v21-v22-v11-_ rfl _ rfl _ rfl-
  have W7:Mod g w w7:=W6.trans hw7
  replace B3:=B3.grow hw7
  replace Rg:=Rg.below hw7
  replace hb:=MR.mono _ hw7 hb
  have KK:Kept [] w7 w7:=λ_ _=>rfl
  refine fr ([.slice (some ⟨g,o,none⟩) (nw y+1) (c),vb,u,pt b3,Ut ca,It i,v6,It (nw y),It i,.bool (decide ((((i:Nat):Int):Int)<(((nw y:Nat):Int):Int))),v10,v11,v12,v13,v14,v15,v16,v17,v18,v19,v20,v21,v22,Ut (((f (o+i))+(wd y i)+ca)%18446744073709551616),Ut (((f (o+i))+(wd y i)+ca)/18446744073709551616),.pointer (some ⟨g,o+i,none⟩),(tt4 26)]++us 8) ?_
  change zO _ _ _ _ [_,_] ⟨_,[]⟩ _
  refine zN rfl ?_
  refine jL (i:=o+i) (v:=((f (o+i))+(wd y i)+ca)%18446744073709551616) rfl rfl rfl Rg zo λw8 P8 R'=>⟨λ_=>Kept.put KK P8 (λ_ hk=>(by cases hk)),?_⟩
  replace KK:=Kept.put KK P8 (λ_ hk=>(by cases hk))
  have M8:Mod g w7 w8:=P8.toMod
  have W8:Mod g w w8:=W7.step M8
  replace B3:=B3.mod M8 rfl n_b3_g
  replace hb:=natF_mod hb M8 rfl
  replace Rg:=R';clear R'
  change zO _ _ _ _ [_] ⟨_,[]⟩ _
  refine zN rfl ?_
  refine zU rfl ⟨λ_=>KK,?_⟩
  refine yG ?_
  change Code.wp _ _ _ ⟨List.toArray (List.set _ 4 _),[]⟩ _
  refine rg (λc d v a w h=>NL c d v a w h) [(26,.eq (.int .i64 (((i+1:Nat):Int))))] [] [] [] 35 1 ?_ ?_
  ·exact so [] (λw9 hw9=>.fin (kV rfl rfl rfl (r:=((i+1:Nat):Int)) (by rw[IntKind.wrap_i64];omega) ⟨Grow.refl _,rfl⟩)) (.nil _ _)
  rintro w9 hw9 _ rfl-
  have W9:Mod g w w9:=W8.trans hw9
  replace B3:=B3.grow hw9
  replace Rg:=Rg.below hw9
  replace hb:=MR.mono _ hw9 hb
  have KK:Kept [] w9 w9:=λ_ _=>rfl
  refine fr ([.slice (some ⟨g,o,none⟩) (nw y+1) (c),vb,u,pt b3,Ut (((f (o+i))+(wd y i)+ca)/18446744073709551616),It i,v6,It (nw y),It i,.bool (decide ((((i:Nat):Int):Int)<(((nw y:Nat):Int):Int))),v10,v11,v12,v13,v14,v15,v16,v17,v18,v19,v20,v21,v22,Ut (((f (o+i))+(wd y i)+ca)%18446744073709551616),Ut (((f (o+i))+(wd y i)+ca)/18446744073709551616),.pointer (some ⟨g,o+i,none⟩),It (i+1)]++us 8) ?_
  change zO _ _ _ _ [_] ⟨_,[]⟩ _
  refine zN rfl ?_
  refine zG rfl ⟨λ_=>KK,?_⟩
  refine yG ?_
  refine⟨_,?_,i+1,((f (o+i))+(wd y i)+ca)/18446744073709551616,upd (f) (o+i) (((f (o+i))+(wd y i)+ca)%18446744073709551616),rfl,⟨by omega,bk_step hT zo⟩,λd=>([Ut (((f (o+i))+(wd y i)+ca)/18446744073709551616),It i,v6,It (nw y),It (i+1),.bool (decide ((((i:Nat):Int):Int)<(((nw y:Nat):Int):Int))),v10,v11,v12,v13,v14,v15,v16,v17,v18,v19,v20,v21,v22,Ut (((f (o+i))+(wd y i)+ca)%18446744073709551616),Ut (((f (o+i))+(wd y i)+ca)/18446744073709551616),.pointer (some ⟨g,o+i,none⟩),It (i+1)]:List Value).getD (d-4) undef,by kernel_rfl,W9,B3,Rg,hb⟩
  rw[hnn4];omega
 ·have hi1:i=nw y:=Nat.le_antisymm hi (by simpa using hlt)
  rw[hi1] at hT
  have hfi:=hT.1 (o+nw y) zo
  refine wp_exit ?_
  change Code.wp _ _ _ ⟨_,[]⟩ _
  refine rg (λc d v a w h=>NL c d v a w h) [(27,.eq (.slice (some ⟨g,o,none⟩) (nw y+1) (c))),(28,.natF ((λk=>k=g)) (y)),(29,.eq (.int .i64 (((nw y:Nat):Int)))),(30,.eq (.pointer (some ⟨g,o+(nw y),none⟩))),(31,.eq (.int .u64 (((f (o+(nw y)):Nat):Int)))),(32,.eq (.int .u64 (((ca:Nat):Int)))),(33,.eq (.int .u64 ((((f (o+nw y)+ca)%18446744073709551616:Nat):Int)))),(34,.eq (.pointer (some ⟨g,o+(nw y),none⟩)))] [] [] [] 35 8 ?_ ?_
  ·refine so [] (λw10 hw10=>.fin (zG rfl ⟨Grow.refl _,rfl⟩)) ?_
   refine so [] (λw10 hw10=>.fin (zS rfl rfl yB (B3.grow hw10) (jN))) ?_
   refine so [1] (λw10 hw10=>by rintro v28 h28;exact .fin (zV rfl yI rfl (cLenF h28))) ?_
   refine so [0,2] (λw10 hw10=>by rintro _ rfl _ rfl;exact .fin (yL (k:=nw y) rfl rfl rfl (rfl) zo (j:=o+(nw y)) (rfl))) ?_
   refine so [3] (λw10 hw10=>by rintro _ rfl;exact .fin (kJ rfl rfl (Rg.below hw10) zo)) ?_
   refine so [] (λw10 hw10=>.fin (zG rfl ⟨Grow.refl _,rfl⟩)) ?_
   refine so [4,5] (λw10 hw10=>by rintro _ rfl _ rfl;exact .fin (kV rfl rfl rfl (r:=(((f (o+nw y)+ca)%18446744073709551616:Nat):Int)) (by rw[IntKind.wrap_u64];omega) ⟨Grow.refl _,rfl⟩)) ?_
   exact so [0,2] (λw10 hw10=>by rintro _ rfl _ rfl;exact .fin (yL (k:=nw y) rfl rfl rfl (rfl) zo (j:=o+(nw y)) (rfl))) (.nil _ _)
  rintro w10 hw10 v27-v28-v29-v30-v31-v32-_ rfl _ rfl-
  have W10:Mod g w w10:=W5.trans hw10
  replace Rg:=Rg.below hw10
  have KK:Kept [] w10 w10:=λ_ _=>rfl
  refine fr [.slice (some ⟨g,o,none⟩) (nw y+1) (c),vb,u,pt b3,Ut ca,(tt4 5),v6,It (nw y),It i,.bool (decide ((((i:Nat):Int):Int)<(((nw y:Nat):Int):Int))),(tt4 10),(tt4 11),(tt4 12),(tt4 13),(tt4 14),(tt4 15),(tt4 16),(tt4 17),(tt4 18),(tt4 19),(tt4 20),(tt4 21),(tt4 22),(tt4 23),(tt4 24),(tt4 25),(tt4 26),v27,v28,v29,v30,v31,v32,Ut ((f (o+nw y)+ca)%18446744073709551616),.pointer (some ⟨g,o+(nw y),none⟩)] ?_
  change zO _ _ _ _ [_] ⟨_,[]⟩ _
  refine zN rfl ?_
  refine jL (i:=o+(nw y)) (v:=(f (o+nw y)+ca)%18446744073709551616) rfl rfl rfl Rg zo λw11 P11 R'=>⟨λ_=>Kept.put KK P11 (λ_ hk=>(by cases hk)),?_⟩
  have M11:Mod g w10 w11:=P11.toMod
  have W11:Mod g w w11:=W10.step M11
  replace Rg:=R';clear R'
  refine yG ?_
  change bodyPost Tryz.prog Tryz.f155 (RetB g L (λ_ f=>∃c,BkRes y o (nw y) f0 f N c) w) .ret _ _
  exact body_noneB rfl W11 Rg (λ_=>bk_end hT zo) rfl
open Go.RowKit
section
local instance fzG:Fz:=⟨true,none⟩
theorem cWDiv{x y z:Nat}{w:World}(hy:y<18446744073709551616)(hz:z<18446744073709551616):Calls Tryz.prog 157 #[.int .u64 (x:Int),.int .u64 (y:Int),.int .u64 (z:Int)] w (Ret (.tup3 (.eq (.int .u64 ((if x<z then divQ x y z else 0:Nat):Int))) (.eq (.int .u64 ((if x<z then divR x y z else 0:Nat):Int))) (.eq (.bool (decide (x<z))))) w):=by
 by_cases h:x<z
 ·rw[if_pos h,if_pos h,decide_eq_true h];exact cWDiv_yes h hy hz
 ·rw[if_neg h,if_neg h,decide_eq_false h];exact cWDiv_no zo
theorem sWDiv{x y z:Nat}(hy:y<18446744073709551616)(hz:z<18446744073709551616):CallOK Tryz.prog 157 [uZ (x:Int),uZ (y:Int),uZ (z:Int)] (.cn (uZ ((if x<z then divQ x y z else 0:Nat):Int)) (.cn (uZ ((if x<z then divR x y z else 0:Nat):Int)) (.cn (bX (decide (x<z))) .nl))) []:=by
 refine .of_ret (m:=.tup3 (.eq (.int .u64 ((if x<z then divQ x y z else 0:Nat):Int))) (.eq (.int .u64 ((if x<z then divR x y z else 0:Nat):Int))) (.eq (.bool (decide (x<z))))) (zL Tryz.func157 rfl zk) (λ_ _ _ v h=>by obtain⟨a,b,c,rfl,h1,h2,h3⟩:=h;exact⟨a,[b,c],rfl,h1,b,[c],rfl,h2,c,[],rfl,h3,rfl⟩) λη F w vals h=>?_
 match vals,h with
 | [v0,v1,v2],h=>obtain rfl:=h.1;obtain rfl:=h.2.1;obtain rfl:=h.2.2.1;exact cWDiv hy hz
theorem sWAdd{x y:Nat}(hx:x<18446744073709551616)(hy:y<18446744073709551616):CallOK Tryz.prog 145 [uZ (x:Int),uZ (y:Int),uZ ((0:Nat):Int)] (.cn (uZ (((x+y+0)%18446744073709551616:Nat):Int)) (.cn (uZ (((x+y+0)/18446744073709551616:Nat):Int)) .nl)) []:=by
 refine .of_ret (m:=.tup2 (.eq (.int .u64 (((x+y+0)%18446744073709551616:Nat):Int))) (.eq (.int .u64 (((x+y+0)/18446744073709551616:Nat):Int)))) (zL Tryz.func145 rfl zk) (λ_ _ _ v h=>by obtain⟨x,y,rfl,h1,h2⟩:=h;exact⟨x,[y],rfl,h1,y,[],rfl,h2,rfl⟩) λη F w vals h=>?_
 match vals,h with
 | [v0,v1,v2],h=>obtain rfl:=h.1;obtain rfl:=h.2.1;obtain rfl:=h.2.2.1;exact cWAdd hx hy (Nat.zero_le 1)
theorem sWMul{x y:Nat}(hx:x<18446744073709551616)(hy:y<18446744073709551616):CallOK Tryz.prog 149 [uZ (x:Int),uZ (y:Int)] (.cn (uZ (((x*y)/18446744073709551616:Nat):Int)) (.cn (uZ (((x*y)%18446744073709551616:Nat):Int)) .nl)) []:=by
 refine .of_ret (m:=.tup2 (.eq (.int .u64 (((x*y)/18446744073709551616:Nat):Int))) (.eq (.int .u64 (((x*y)%18446744073709551616:Nat):Int)))) (zL Tryz.func149 rfl zk) (λ_ _ _ v h=>by obtain⟨x,y,rfl,h1,h2⟩:=h;exact⟨x,[y],rfl,h1,y,[],rfl,h2,rfl⟩) λη F w vals h=>?_
 match vals,h with
 | [v0,v1],h=>obtain rfl:=h.1;obtain rfl:=h.2.1;exact cWMul hx hy
theorem g_test{u0:Nat}(hu:u0<18446744073709551616)(q v0 r:Nat):(bif decide ((((q*v0)/18446744073709551616:Nat):Int)<(r:Int)) then true else(bif decide ((((q*v0)/18446744073709551616:Nat):Int)=(r:Int)) then decide ((((q*v0)%18446744073709551616:Nat):Int)<=(u0:Int)) else false))=decide (q*v0<=r*18446744073709551616+u0):=by
 have:=Nat.mod_add_div (q*v0) 18446744073709551616
 have hm:=Nat.mod_lt (q*v0) (show 0<18446744073709551616 by omega)
 generalize q*v0=p at*
 by_cases h1:(((p/18446744073709551616:Nat):Int)<(r:Int))
 ·rw[decide_eq_true h1];exact(decide_eq_true zo).symm
 ·rw[decide_eq_false h1]
  by_cases h2:(((p/18446744073709551616:Nat):Int)=(r:Int))
  ·rw[decide_eq_true h2];exact decide_eq_decide.2 zo
  ·rw[decide_eq_false h2];exact(decide_eq_false zo).symm
def gS (u2 u1 v1:Nat):Nat×Nat:=if u2<v1 then(divQ u2 u1 v1,divR u2 u1 v1) else(18446744073709551615,u1+v1)
theorem gS_yes{u2 u1 v1:Nat}(h:u2<v1):gS u2 u1 v1=(divQ u2 u1 v1,divR u2 u1 v1):=if_pos h
theorem gS_no{u2 u1 v1:Nat}(h:u2=v1):gS u2 u1 v1=(18446744073709551615,u1+v1):=if_neg zo
theorem sGuess{u2 u1 u0 v1 v0:Nat}(h21:u2<=v1)(hv:0<v1)(b1:u1<18446744073709551616)(b0:u0<18446744073709551616)(c1:v1<18446744073709551616)(c0:v0<18446744073709551616):CallOK Tryz.prog 153 [uZ (u2:Int),uZ (u1:Int),uZ (u0:Int),uZ (v1:Int),uZ (v0:Int)] (uZ (gq u2 u1 u0 v1 v0:Int)) []:=by
 exact kP (ch:=[.reg 1 [(3,.callS (c3 (uZ ((if u2<v1 then divQ u2 u1 v1 else 0:Nat):Int)) (uZ ((if u2<v1 then divR u2 u1 v1 else 0:Nat):Int)) (bX (decide (u2<v1)))) [])],.reg 5 [(2,.call [uZ (u1:Int),uZ (v1:Int),uZ ((0:Nat):Int)] (c2 (uZ (((u1+v1+0)%18446744073709551616:Nat):Int)) (uZ (((u1+v1+0)/18446744073709551616:Nat):Int))) [])],.loop 8 (Nat×Nat) (λg=>GInv u2 u1 u0 v1 v0 g.1 g.2) (λg=>g.1) (λg=>⟨[(2,uZ (u0:Int)),(3,uZ (v1:Int)),(4,uZ (v0:Int)),(11,uZ ((g.1:Nat):Int)),(12,uZ ((g.2:Nat):Int))],[],0⟩) [] (λ_=>[]) (λg=>[.reg 8 [(2,.callS (c2 (uZ (((g.1*v0)/18446744073709551616:Nat):Int)) (uZ (((g.1*v0)%18446744073709551616:Nat):Int))) [])],.reg 11 [(1,.z ((g.1-1:Nat):Int))],.reg 13 [(2,.call [uZ ((g.2:Nat):Int),uZ (v1:Int),uZ ((0:Nat):Int)] (c2 (uZ (((g.2+v1+0)%18446744073709551616:Nat):Int)) (uZ (((g.2+v1+0)/18446744073709551616:Nat):Int))) [])]]),.loop 8 (Nat×Nat) (λg=>GInv u2 u1 u0 v1 v0 g.1 g.2) (λg=>g.1) (λg=>⟨[(2,uZ (u0:Int)),(3,uZ (v1:Int)),(4,uZ (v0:Int)),(11,uZ ((g.1:Nat):Int)),(12,uZ ((g.2:Nat):Int))],[],0⟩) [] (λ_=>[]) (λg=>[.reg 8 [(2,.callS (c2 (uZ (((g.1*v0)/18446744073709551616:Nat):Int)) (uZ (((g.1*v0)%18446744073709551616:Nat):Int))) [])],.reg 11 [(1,.z ((g.1-1:Nat):Int))],.reg 13 [(2,.call [uZ ((g.2:Nat):Int),uZ (v1:Int),uZ ((0:Nat):Int)] (c2 (uZ (((g.2+v1+0)%18446744073709551616:Nat):Int)) (uZ (((g.2+v1+0)/18446744073709551616:Nat):Int))) [])]])]) Tryz.func153 (let y0:=(decide ((((u1+v1+0)/18446744073709551616:Nat):Int)=1));(CallOK Tryz.prog 157 [uZ (u2:Int),uZ (u1:Int),uZ (v1:Int)] (c3 (uZ ((if u2<v1 then divQ u2 u1 v1 else 0:Nat):Int)) (uZ ((if u2<v1 then divR u2 u1 v1 else 0:Nat):Int)) (bX (decide (u2<v1)))) [])/\(((!(decide (u2<v1)))=true->(CallOK Tryz.prog 145 [uZ (u1:Int),uZ (v1:Int),uZ ((0:Nat):Int)] (c2 (uZ (((u1+v1+0)%18446744073709551616:Nat):Int)) (uZ (((u1+v1+0)/18446744073709551616:Nat):Int))) [])/\_/\_/\((0:Int)=((0:Nat):Int))/\((y0=true->(((18446744073709551615:Int)=(gq u2 u1 u0 v1 v0:Int))))/\(y0=false->(((λX1 X2 X3:Prop=>∃g0:Nat×Nat,X1/\X2/\X3/\((18446744073709551615:Int)=((g0.1:Nat):Int))/\((((u1+v1+0)%18446744073709551616:Nat):Int)=((g0.2:Nat):Int))/\(GInv u2 u1 u0 v1 v0 g0.1 g0.2)) _ _ _)/\∀g:Nat×Nat,(GInv u2 u1 u0 v1 v0 g.1 g.2)->(CallOK Tryz.prog 149 [uZ ((g.1:Nat):Int),uZ (v0:Int)] (c2 (uZ (((g.1*v0)/18446744073709551616:Nat):Int)) (uZ (((g.1*v0)%18446744073709551616:Nat):Int))) [])/\_/\_/\_/\_/\_/\_/\(((decide ((((g.1*v0)/18446744073709551616:Nat):Int)<((g.2:Nat):Int)))==false)=true->(decide ((((g.1*v0)/18446744073709551616:Nat):Int)=((g.2:Nat):Int)))=true->((((decide ((((g.1*v0)/18446744073709551616:Nat):Int)<((g.2:Nat):Int)))==false)&&true)&&((decide ((((g.1*v0)/18446744073709551616:Nat):Int)=((g.2:Nat):Int)))==true))=true)/\((!(decide ((((g.1*v0)/18446744073709551616:Nat):Int)<((g.2:Nat):Int))))=true->((decide ((((g.1*v0)/18446744073709551616:Nat):Int)<((g.2:Nat):Int)))==false)=true)/\(((bif (decide ((((g.1*v0)/18446744073709551616:Nat):Int)<((g.2:Nat):Int))) then true else(bif (decide ((((g.1*v0)/18446744073709551616:Nat):Int)=((g.2:Nat):Int))) then(decide ((((g.1*v0)%18446744073709551616:Nat):Int)<=(u0:Int))) else false))=true->((((g.1:Nat):Int)=(gq u2 u1 u0 v1 v0:Int))))/\((bif (decide ((((g.1*v0)/18446744073709551616:Nat):Int)<((g.2:Nat):Int))) then true else(bif (decide ((((g.1*v0)/18446744073709551616:Nat):Int)=((g.2:Nat):Int))) then(decide ((((g.1*v0)%18446744073709551616:Nat):Int)<=(u0:Int))) else false))=false->(IntKind.wrap .u64 (((g.1:Nat):Int)-1)=(((g.1-1:Nat):Int)))/\(CallOK Tryz.prog 145 [uZ ((g.2:Nat):Int),uZ (v1:Int),uZ ((0:Nat):Int)] (c2 (uZ (((g.2+v1+0)%18446744073709551616:Nat):Int)) (uZ (((g.2+v1+0)/18446744073709551616:Nat):Int))) [])/\_/\_/\((0:Int)=((0:Nat):Int))/\(((decide ((((g.2+v1+0)/18446744073709551616:Nat):Int)=1))=true->((((g.1-1:Nat):Int)=(gq u2 u1 u0 v1 v0:Int))))/\((decide ((((g.2+v1+0)/18446744073709551616:Nat):Int)=1))=false->((λX1 X2 X3:Prop=>∃g1:Nat×Nat,X1/\X2/\X3/\(((g.1-1:Nat):Int)=((g1.1:Nat):Int))/\((((g.2+v1+0)%18446744073709551616:Nat):Int)=((g1.2:Nat):Int))/\(GInv u2 u1 u0 v1 v0 g1.1 g1.2)/\(g1.1<g.1)) _ _ _)))))))))/\((!(decide (u2<v1)))=false->(((λX1 X2 X3:Prop=>∃g0:Nat×Nat,X1/\X2/\X3/\(((if u2<v1 then divQ u2 u1 v1 else 0:Nat):Int)=((g0.1:Nat):Int))/\(((if u2<v1 then divR u2 u1 v1 else 0:Nat):Int)=((g0.2:Nat):Int))/\(GInv u2 u1 u0 v1 v0 g0.1 g0.2)) _ _ _)/\∀g:Nat×Nat,(GInv u2 u1 u0 v1 v0 g.1 g.2)->(CallOK Tryz.prog 149 [uZ ((g.1:Nat):Int),uZ (v0:Int)] (c2 (uZ (((g.1*v0)/18446744073709551616:Nat):Int)) (uZ (((g.1*v0)%18446744073709551616:Nat):Int))) [])/\_/\_/\_/\_/\_/\_/\(((decide ((((g.1*v0)/18446744073709551616:Nat):Int)<((g.2:Nat):Int)))==false)=true->(decide ((((g.1*v0)/18446744073709551616:Nat):Int)=((g.2:Nat):Int)))=true->((((decide ((((g.1*v0)/18446744073709551616:Nat):Int)<((g.2:Nat):Int)))==false)&&true)&&((decide ((((g.1*v0)/18446744073709551616:Nat):Int)=((g.2:Nat):Int)))==true))=true)/\((!(decide ((((g.1*v0)/18446744073709551616:Nat):Int)<((g.2:Nat):Int))))=true->((decide ((((g.1*v0)/18446744073709551616:Nat):Int)<((g.2:Nat):Int)))==false)=true)/\(((bif (decide ((((g.1*v0)/18446744073709551616:Nat):Int)<((g.2:Nat):Int))) then true else(bif (decide ((((g.1*v0)/18446744073709551616:Nat):Int)=((g.2:Nat):Int))) then(decide ((((g.1*v0)%18446744073709551616:Nat):Int)<=(u0:Int))) else false))=true->((((g.1:Nat):Int)=(gq u2 u1 u0 v1 v0:Int))))/\((bif (decide ((((g.1*v0)/18446744073709551616:Nat):Int)<((g.2:Nat):Int))) then true else(bif (decide ((((g.1*v0)/18446744073709551616:Nat):Int)=((g.2:Nat):Int))) then(decide ((((g.1*v0)%18446744073709551616:Nat):Int)<=(u0:Int))) else false))=false->(IntKind.wrap .u64 (((g.1:Nat):Int)-1)=(((g.1-1:Nat):Int)))/\(CallOK Tryz.prog 145 [uZ ((g.2:Nat):Int),uZ (v1:Int),uZ ((0:Nat):Int)] (c2 (uZ (((g.2+v1+0)%18446744073709551616:Nat):Int)) (uZ (((g.2+v1+0)/18446744073709551616:Nat):Int))) [])/\_/\_/\((0:Int)=((0:Nat):Int))/\(((decide ((((g.2+v1+0)/18446744073709551616:Nat):Int)=1))=true->((((g.1-1:Nat):Int)=(gq u2 u1 u0 v1 v0:Int))))/\((decide ((((g.2+v1+0)/18446744073709551616:Nat):Int)=1))=false->((λX1 X2 X3:Prop=>∃g1:Nat×Nat,X1/\X2/\X3/\(((g.1-1:Nat):Int)=((g1.1:Nat):Int))/\((((g.2+v1+0)%18446744073709551616:Nat):Int)=((g1.2:Nat):Int))/\(GInv u2 u1 u0 v1 v0 g1.1 g1.2)/\(g1.1<g.1)) _ _ _)))))))))
  ⟨(sWDiv b1 c1),λhc27=>have he:u2=v1:=(by simp at hc27;omega);⟨(sWAdd b1 c1),(rf (u1:Int)),(rf (v1:Int)),zo,λhc35=>have hc35:=dT hc35;(by rw[←g_over he c0 zo hv];rfl),λhc35=>have hc35:=dF hc35;⟨⟨gS u2 u1 v1,(rf (u0:Int)),(rf (v1:Int)),(rf (v0:Int)),(by first | (rw[gS_yes hlt,if_pos hlt]) | (rw[gS_no he];rfl)),(by first | (rw[gS_yes hlt,if_pos hlt]) | (rw[gS_no he,Nat.mod_eq_of_lt zo];rfl)),(by first | (rw[gS_yes hlt];exact g_start_yes hlt b1 c1 b0) | (rw[gS_no he];exact g_start_no he zo))⟩,λg hg=>have hgq:=hg.1;have hgr:=hg.2.1;⟨(sWMul hgq c0),(idB ((decide ((((g.1*v0)/18446744073709551616:Nat):Int)<((g.2:Nat):Int)))==false)),(idB ((decide ((((g.1*v0)/18446744073709551616:Nat):Int)<((g.2:Nat):Int)))==false)),(idB ((decide ((((g.1*v0)/18446744073709551616:Nat):Int)<((g.2:Nat):Int)))==false)),(idB ((((decide ((((g.1*v0)/18446744073709551616:Nat):Int)<((g.2:Nat):Int)))==false)&&true)&&((decide ((((g.1*v0)/18446744073709551616:Nat):Int)=((g.2:Nat):Int)))==true))),(idB ((((decide ((((g.1*v0)/18446744073709551616:Nat):Int)<((g.2:Nat):Int)))==false)&&true)&&((decide ((((g.1*v0)/18446744073709551616:Nat):Int)=((g.2:Nat):Int)))==true))),(idB ((decide ((((g.1*v0)/18446744073709551616:Nat):Int)<((g.2:Nat):Int)))==false)),(λhg=>(by first | (simp;done) | simp_all)),(by first | (simp;done) | simp_all),λhc55=>have hd:=of_decide_eq_true ((g_test b0 _ _ _).symm.trans hc55);(congrArg (λx:Nat=>(x:Int)) (g_done hv hg hd)),λhc55=>have hd:=Nat.lt_of_not_le (of_decide_eq_false ((g_test b0 _ _ _).symm.trans hc55));have hl:=g_less hv hg hd;⟨(by rw[IntKind.wrap_u64];omega),(sWAdd hgr c1),(rf ((g.2:Nat):Int)),(rf (v1:Int)),zo,λhc66=>have hc66:=dT hc66;(congrArg (λx:Nat=>(x:Int)) (g_down_over hv c0 hg hd zo)),λhc66=>have hc66:=dF hc66;⟨(g.1-1,g.2+v1),(rf (u0:Int)),(rf (v1:Int)),(rf (v0:Int)),rfl,(by rw[Nat.mod_eq_of_lt zo];rfl),(g_down hv hg hd zo),(Nat.sub_lt hl.1 zo)⟩⟩⟩⟩⟩,λhc27=>have hlt:u2<v1:=(by simpa using hc27);⟨⟨gS u2 u1 v1,(rf (u0:Int)),(rf (v1:Int)),(rf (v0:Int)),(by first | (rw[gS_yes hlt,if_pos hlt]) | (rw[gS_no he];rfl)),(by first | (rw[gS_yes hlt,if_pos hlt]) | (rw[gS_no he,Nat.mod_eq_of_lt zo];rfl)),(by first | (rw[gS_yes hlt];exact g_start_yes hlt b1 c1 b0) | (rw[gS_no he];exact g_start_no he zo))⟩,λg hg=>have hgq:=hg.1;have hgr:=hg.2.1;⟨(sWMul hgq c0),(idB ((decide ((((g.1*v0)/18446744073709551616:Nat):Int)<((g.2:Nat):Int)))==false)),(idB ((decide ((((g.1*v0)/18446744073709551616:Nat):Int)<((g.2:Nat):Int)))==false)),(idB ((decide ((((g.1*v0)/18446744073709551616:Nat):Int)<((g.2:Nat):Int)))==false)),(idB ((((decide ((((g.1*v0)/18446744073709551616:Nat):Int)<((g.2:Nat):Int)))==false)&&true)&&((decide ((((g.1*v0)/18446744073709551616:Nat):Int)=((g.2:Nat):Int)))==true))),(idB ((((decide ((((g.1*v0)/18446744073709551616:Nat):Int)<((g.2:Nat):Int)))==false)&&true)&&((decide ((((g.1*v0)/18446744073709551616:Nat):Int)=((g.2:Nat):Int)))==true))),(idB ((decide ((((g.1*v0)/18446744073709551616:Nat):Int)<((g.2:Nat):Int)))==false)),(λhg=>(by first | (simp;done) | simp_all)),(by first | (simp;done) | simp_all),λhc55=>have hd:=of_decide_eq_true ((g_test b0 _ _ _).symm.trans hc55);(congrArg (λx:Nat=>(x:Int)) (g_done hv hg hd)),λhc55=>have hd:=Nat.lt_of_not_le (of_decide_eq_false ((g_test b0 _ _ _).symm.trans hc55));have hl:=g_less hv hg hd;⟨(by rw[IntKind.wrap_u64];omega),(sWAdd hgr c1),(rf ((g.2:Nat):Int)),(rf (v1:Int)),zo,λhc66=>have hc66:=dT hc66;(congrArg (λx:Nat=>(x:Int)) (g_down_over hv c0 hg hd zo)),λhc66=>have hc66:=dF hc66;⟨(g.1-1,g.2+v1),(rf (u0:Int)),(rf (v1:Int)),(rf (v0:Int)),rfl,(by rw[Nat.mod_eq_of_lt zo];rfl),(g_down hv hg hd zo),(Nat.sub_lt hl.1 zo)⟩⟩⟩⟩⟩
theorem cGuess{u2 u1 u0 v1 v0:Nat}{w:World}(h21:u2<=v1)(hv:0<v1)(b1:u1<18446744073709551616)(b0:u0<18446744073709551616)(c1:v1<18446744073709551616)(c0:v0<18446744073709551616):Calls Tryz.prog 153 #[.int .u64 ((u2:Int)),.int .u64 ((u1:Int)),.int .u64 ((u0:Int)),.int .u64 ((v1:Int)),.int .u64 ((v0:Int))] w (Ret (.eq (.int .u64 (((gq u2 u1 u0 v1 v0:Nat):Int)))) w):=
 (sGuess h21 hv b1 b0 c1 c0).ret (λ_ _ _ _ h=>h) (vals:=[.int .u64 ((u2:Int)),.int .u64 ((u1:Int)),.int .u64 ((u0:Int)),.int .u64 ((v1:Int)),.int .u64 ((v0:Int))]) ⟨rfl,rfl,rfl,rfl,rfl,trivial⟩
end
def szq (q:Rat):Nat:=nw q.num.natAbs+nw q.den
def LIM:Nat:=68719476736
theorem nw_le_of{x k:Nat}(h:x<2^(64*k)):nw x<=k:=(kD x k).2 h
theorem xN(x y:Nat):nw (x*y)<=nw x+nw y:=by
 refine nw_le_of ?_
 rw[Nat.mul_add,Nat.pow_add]
 rcases Nat.eq_zero_or_pos y with rfl | hy
 ·rw[Nat.mul_zero];exact Nat.mul_pos (Nat.two_pow_pos _) (Nat.two_pow_pos _)
 ·exact Nat.mul_lt_mul_of_lt_of_le (kE x) (Nat.le_of_lt (kE y)) (Nat.two_pow_pos _)
theorem kU{x y:Nat}(h:x<=y):nw x<=nw y:=nw_le_of (Nat.lt_of_le_of_lt h (kE y))
theorem nw_add(x y:Nat):nw (x+y)<=max (nw x) (nw y)+1:=by
 refine nw_le_of ?_
 have h1:=kE x
 have h2:=kE y
 have m1:2^(64*nw x)<=2^(64*max (nw x) (nw y)):=Nat.pow_le_pow_right zo zo
 have m2:2^(64*nw y)<=2^(64*max (nw x) (nw y)):=Nat.pow_le_pow_right zo zo
 rw[p64]
 omega
theorem natAbs_add_nat(a b:Int):(a+b).natAbs<=a.natAbs+b.natAbs:=Int.natAbs_add_le a b
theorem gcd_eq(a b:Int):b.gcd a=Nat.gcd a.natAbs b.natAbs:=by rw[Int.gcd_comm];rfl
theorem new_num(a b:Int)(hb:b≠0):(Rat.divInt a b).num=signed (decide (a<0)!=decide (b<0)) (a.natAbs/Nat.gcd a.natAbs b.natAbs):=by
 rw[Rat.num_divInt,gcd_eq]
 have hg:(Nat.gcd a.natAbs b.natAbs:Nat)∣a.natAbs:=Nat.gcd_dvd_left _ _
 generalize hG:Nat.gcd a.natAbs b.natAbs=g at*
 obtain⟨k,hk⟩:=hg
 have hg0:0<g:=by
  rw[←hG]
  exact Nat.gcd_pos_of_pos_right _ zo
 rw[hk,Nat.mul_div_cancel_left _ hg0]
 have key:∀s:Int,(s*((g*k:Nat):Int))/(g:Int)=s*k:=λs=>by
  rw[Int.natCast_mul,←Int.mul_assoc,Int.mul_comm s,Int.mul_assoc,Int.mul_ediv_cancel_left _ zo]
 rcases Int.lt_or_lt_of_ne hb with hb | hb
 ·rw[Int.sign_eq_neg_one_of_neg hb]
  by_cases ha:a<0
  ·have e:-1*a=1*((g*k:Nat):Int):=by omega
   rw[e,key]
   simp[signed,ha,hb]
  ·have e:-1*a=-1*((g*k:Nat):Int):=by omega
   rw[e,key]
   simp[signed,ha,hb]
 ·rw[Int.sign_eq_one_of_pos hb]
  have hb':¬b<0:=by omega
  by_cases ha:a<0
  ·have e:1*a=-1*((g*k:Nat):Int):=by omega
   rw[e,key]
   simp[signed,ha,hb']
  ·have e:1*a=1*((g*k:Nat):Int):=by omega
   rw[e,key]
   simp[signed,ha,hb']
theorem new_den(a b:Int)(hb:b≠0):(Rat.divInt a b).den=b.natAbs/Nat.gcd a.natAbs b.natAbs:=by
 rw[Rat.den_divInt,if_neg hb,gcd_eq]
theorem divInt_zero(a:Int):Rat.divInt a 0=0:=by simp
def cmpQ (p q:Rat):Int:=if p<q then-1 else if p=q then 0 else 1
theorem cmpQ_eq(p q:Rat):cmpV (p.num*q.den) (q.num*p.den)=cmpQ p q:=by
 unfold cmpV cmpQ
 have h1:=Rat.lt_iff p q
 have h2:p=q↔p.num*q.den=q.num*p.den:=by
  constructor
  ·rintro rfl;rfl
  ·intro h
   refine Rat.le_antisymm ((Rat.le_iff p q).2 zo) ((Rat.le_iff q p).2 zo)
 by_cases hlt:p<q
 ·rw[if_pos hlt,if_pos (h1.1 hlt)]
 ·rw[if_neg hlt,if_neg (mt h1.2 hlt)]
  by_cases he:p=q
  ·rw[if_pos he,if_pos (h2.1 he)]
  ·rw[if_neg he,if_neg (mt h2.2 he)]
theorem denW_ne{q:Rat}(h:q.den≠1):denW q=q.den:=by unfold denW;rw[if_neg h]
theorem denW_zero(q:Rat):denW q=0↔q.den=1:=by
 unfold denW
 have:=q.den_nz
 split<;>simp_all
theorem uint_one(d:Nat):(xI d&&((uintV d:Int)==1))=decide (d=1):=by
 unfold xI uintV
 by_cases h:d<18446744073709551616
 ·rw[if_pos h,decide_eq_true h]
  by_cases e:d=1
  ·subst e;rfl
  ·simp[e];omega
 ·rw[if_neg h,decide_eq_false h,decide_eq_false zo];rfl
theorem szq_num(q:Rat):nw q.num.natAbs<=szq q:=by unfold szq;omega
theorem szq_den(q:Rat):nw q.den<=szq q:=by unfold szq;omega
theorem szq_divInt(a b:Int)(hb:b≠0):szq (Rat.divInt a b)<=nw a.natAbs+nw b.natAbs:=by
 unfold szq
 rw[new_den a b hb,new_num a b hb]
 have e:∀(s:Bool) (x:Nat),(signed s x).natAbs=x:=λs x=>by cases s<;>simp[signed]
 rw[e]
 have h1:=kU (Nat.div_le_self a.natAbs (Nat.gcd a.natAbs b.natAbs))
 have h2:=kU (Nat.div_le_self b.natAbs (Nat.gcd a.natAbs b.natAbs))
 omega
theorem mul_as(p q:Rat):p*q=Rat.divInt (p.num*q.num) ((p.den*q.den:Nat):Int):=by rw[Rat.mul_def'];rfl
theorem add_as(p q:Rat):p+q=Rat.divInt (p.num*q.den+q.num*p.den) ((p.den*q.den:Nat):Int):=by rw[Rat.add_def'];rfl
theorem den_ne(p:Rat):(p.den:Int)≠0:=by have:=p.den_nz;omega
theorem den2_ne(p q:Rat):((p.den*q.den:Nat):Int)≠0:=by
 have h1:=Nat.pos_of_ne_zero p.den_nz
 have h2:=Nat.pos_of_ne_zero q.den_nz
 have:=Nat.mul_pos h1 h2
 omega
theorem szq_mul(p q:Rat):szq (p*q)<=szq p+szq q:=by
 rw[mul_as]
 have h:=szq_divInt (p.num*q.num) ((p.den*q.den:Nat):Int) (den2_ne p q)
 rw[Int.natAbs_mul,Int.natAbs_natCast] at h
 have h1:=xN p.num.natAbs q.num.natAbs
 have h2:=xN p.den q.den
 unfold szq at*
 omega
theorem szq_add(p q:Rat):szq (p+q)<=szq p+szq q+szq p+szq q+1:=by
 rw[add_as]
 have h:=szq_divInt (p.num*q.den+q.num*p.den) ((p.den*q.den:Nat):Int) (den2_ne p q)
 rw[Int.natAbs_natCast] at h
 have h0:=kU (natAbs_add_nat (p.num*q.den) (q.num*p.den))
 rw[Int.natAbs_mul,Int.natAbs_mul,Int.natAbs_natCast,Int.natAbs_natCast] at h0
 have h3:=nw_add (p.num.natAbs*q.den) (q.num.natAbs*p.den)
 have h4:=xN p.num.natAbs q.den
 have h5:=xN q.num.natAbs p.den
 have h2:=xN p.den q.den
 unfold szq at*
 omega
theorem szq_neg(p:Rat):szq (-p)=szq p:=by unfold szq;rw[Rat.neg_num,Rat.neg_den,Int.natAbs_neg]
theorem szq_inv(p:Rat):szq p⁻¹<=szq p+1:=by
 rw[Rat.inv_def]
 by_cases h:p.num=0
 ·rw[h,divInt_zero];unfold szq;simp;exact Nat.le_trans (by decide:nw 0+nw 1<=1) zo
 ·have:=szq_divInt p.den p.num h
  rw[Int.natAbs_natCast] at this
  unfold szq at*
  omega
open Go.RowKit
def shf (x k:Nat) (i:Nat):Nat:=if i<k then 0 else wd x (i-k)
theorem wf_shf(x k n:Nat):Wf (shf x k) n:=λi _=>by
 unfold shf
 split
 ·omega
 ·exact xH _ _
theorem val_shf_low(x k:Nat):∀n,n<=k->val (shf x k) n=0
 | 0,_=>rfl
 | n+1,h=>by
  rw[val,val_shf_low x k n zo]
  unfold shf
  rw[if_pos zo,Nat.zero_mul]
theorem val_shf(x k:Nat):∀n,val (shf x k) (k+n)=val (wd x) n*2^(64*k)
 | 0=>by rw[Nat.add_zero,val_shf_low x k k (Nat.le_refl _)];simp[val]
 | n+1=>by
  rw[←Nat.add_assoc,val,val_shf x k n,val,Nat.add_mul]
  congr 1
  unfold shf
  rw[if_neg zo,show k+n-k=n by omega,Nat.mul_assoc,←Nat.pow_add,Nat.mul_add,Nat.add_comm (64*k)]
theorem val_shf_all(x k:Nat):val (shf x k) (k+nw x)=x*2^(64*k):=by rw[val_shf,jD x _ (Nat.le_refl _)]
theorem kara(a0 a1 b0 b1 B:Nat):a0*b0+(((a0+a1)*(b0+b1)-(a0*b0+a1*b1))*B+a1*b1*(B*B))=(a0+a1*B)*(b0+b1*B):=by
 have e:(a0+a1)*(b0+b1)-(a0*b0+a1*b1)=a0*b1+a1*b0:=by
  rw[Nat.add_mul,Nat.mul_add,Nat.mul_add];omega
 rw[e]
 simp only[Nat.add_mul,Nat.mul_add]
 have h1:a1*B*b0=a1*b0*B:=by rw[Nat.mul_assoc,Nat.mul_comm B,←Nat.mul_assoc]
 have h2:a1*B*(b1*B)=a1*b1*(B*B):=by rw[Nat.mul_assoc,←Nat.mul_assoc B,Nat.mul_comm B b1,Nat.mul_assoc b1,←Nat.mul_assoc]
 have h3:a0*(b1*B)=a0*b1*B:=by rw[Nat.mul_assoc]
 omega
structure MulFacts (x y k:Nat):Prop where
 k0:k<=68719476736
 m1:max (nw (x%2^(64*k))) (nw (y%2^(64*k)))<max (nw x) (nw y)
 m2:max (nw (x/2^(64*k))) (nw (y/2^(64*k)))<max (nw x) (nw y)
 m3:max (nw (x%2^(64*k)+x/2^(64*k))) (nw (y%2^(64*k)+y/2^(64*k)))<max (nw x) (nw y)
 l1:nw (x%2^(64*k))+nw (y%2^(64*k))<=LIM
 l2:nw (x/2^(64*k))+nw (y/2^(64*k))<=LIM
 l3:nw (x%2^(64*k)+x/2^(64*k))+nw (y%2^(64*k)+y/2^(64*k))<=LIM
 s1:Small (x%2^(64*k)+x/2^(64*k))
 s2:Small (y%2^(64*k)+y/2^(64*k))
 s3:Small (x%2^(64*k)*(y%2^(64*k))+x/2^(64*k)*(y/2^(64*k)))
 r1:nw ((x%2^(64*k)+x/2^(64*k))*(y%2^(64*k)+y/2^(64*k))-(x%2^(64*k)*(y%2^(64*k))+x/2^(64*k)*(y/2^(64*k))))+k<=137438953472
 r2:nw (x/2^(64*k)*(y/2^(64*k)))+2*k<=137438953472
 s4:Small (((x%2^(64*k)+x/2^(64*k))*(y%2^(64*k)+y/2^(64*k))-(x%2^(64*k)*(y%2^(64*k))+x/2^(64*k)*(y/2^(64*k))))*2^(64*k)+x/2^(64*k)*(y/2^(64*k))*2^(64*(2*k)))
 s5:Small (x%2^(64*k)*(y%2^(64*k))+(((x%2^(64*k)+x/2^(64*k))*(y%2^(64*k)+y/2^(64*k))-(x%2^(64*k)*(y%2^(64*k))+x/2^(64*k)*(y/2^(64*k))))*2^(64*k)+x/2^(64*k)*(y/2^(64*k))*2^(64*(2*k))))
 eq:x%2^(64*k)*(y%2^(64*k))+(((x%2^(64*k)+x/2^(64*k))*(y%2^(64*k)+y/2^(64*k))-(x%2^(64*k)*(y%2^(64*k))+x/2^(64*k)*(y/2^(64*k))))*2^(64*k)+x/2^(64*k)*(y/2^(64*k))*2^(64*(2*k)))=x*y
theorem nw_mod(x k:Nat):nw (x%2^(64*k))<=k:=nw_le_of (Nat.mod_lt _ (Nat.two_pow_pos _))
theorem mul_facts{x y k:Nat}(hk:k=(max (nw x) (nw y)+1)/2)(hx:8<=nw x)(hy:8<=nw y)(hl:nw x+nw y<=LIM):MulFacts x y k:=by
 have a0:=nw_mod x k
 have b0:=nw_mod y k
 have a1:=nw_div x k
 have b1:=nw_div y k
 have sa:=nw_add (x%2^(64*k)) (x/2^(64*k))
 have sb:=nw_add (y%2^(64*k)) (y/2^(64*k))
 have p1:=xN (x%2^(64*k)) (y%2^(64*k))
 have p2:=xN (x/2^(64*k)) (y/2^(64*k))
 have sp:=nw_add (x%2^(64*k)*(y%2^(64*k))) (x/2^(64*k)*(y/2^(64*k)))
 have pb:=xN (x%2^(64*k)+x/2^(64*k)) (y%2^(64*k)+y/2^(64*k))
 have pm:=kU (Nat.sub_le ((x%2^(64*k)+x/2^(64*k))*(y%2^(64*k)+y/2^(64*k))) (x%2^(64*k)*(y%2^(64*k))+x/2^(64*k)*(y/2^(64*k))))
 have e:x%2^(64*k)*(y%2^(64*k))+(((x%2^(64*k)+x/2^(64*k))*(y%2^(64*k)+y/2^(64*k))-(x%2^(64*k)*(y%2^(64*k))+x/2^(64*k)*(y/2^(64*k))))*2^(64*k)+x/2^(64*k)*(y/2^(64*k))*2^(64*(2*k)))=x*y:=by
  have h2:2^(64*(2*k))=2^(64*k)*2^(64*k):=by rw[←Nat.pow_add];congr 1;omega
  rw[h2,kara]
  rw[Nat.mul_comm (x/_),Nat.mul_comm (y/_),Nat.mod_add_div,Nat.mod_add_div]
 have hxy:=xN x y
 unfold LIM at*
 refine⟨by omega,by omega,by omega,by omega,by unfold LIM;omega,by unfold LIM;omega,by unfold LIM;omega,by unfold Small;omega,by unfold Small;omega,by unfold Small;omega,by omega,by omega,?_,?_,e⟩
 ·have:=kU (Nat.le_trans (Nat.le_add_left _ _) (Nat.le_of_eq e))
  unfold Small
  omega
 ·rw[e];unfold Small;omega
open Go.RowKit
theorem cal_nat_Nat_Words:yJ Tryz.prog 144:=zL Tryz.func144 rfl zk
theorem cal_nat_Of:yJ Tryz.prog 110:=zL Tryz.func110 rfl zk
set_option maxHeartbeats 2000000 in
theorem cRaised{x k:Nat}{va:Value}{w:World}(ha:(MR.nat (x)).R w va)(hs:nw x+k<=137438953472):Calls Tryz.prog 128 #[va,.int .i64 (((k:Nat):Int))] w (Ret (.nat (x*2^(64*k))) w):=by
 have _:=hs
 refine calls_enter (a:=⟨List.toArray ([va,It k]++us 9),[]⟩) Tryz.func128 rfl zk ?_
 have NL:NoLook (bodyPost Tryz.prog Tryz.f128 (Ret (.nat (x*2^(64*k))) w)):=noLook_body
 refine wp_seq ?_
 refine rg (λc d v a w h=>NL c d v a w h) [(2,.ptr 72 (.nat (x))),(4,.ptr 72 (.nat (0)))] [0,1] [] [] 11 2 ?_ ?_
 ·refine sn [] (λw1 hw1=>.fin (yld_newBox rfl rfl (MR.mono _ hw1 ha))) ?_
  exact sn [] (λw1 hw1=>.fin (kI rfl zeroNat zNat)) (.nil _ _)
 rintro w1 hw1 _ ⟨b2,rfl,B2⟩ _ ⟨b4,rfl,B4⟩ hN
 have W1:Grow w w1:=(Grow.refl w).trans hw1
 have g_b4:w.heap.size<=b4:=Nat.le_trans (Grow.refl w).size hN.2.2.1.1
 clear hN
 refine fr ([va,It k,pt b2,u,pt b4]++us 6) ?_
 refine nx ?_
 refine wp_seq ?_
 refine rg (λc d v a w h=>NL c d v a w h) [(5,.eq (.int .i64 (((k:Nat):Int)))),(6,.row (λ_=>0) k),(7,.nat (x)),(8,.uns (wd (x)) (nw (x))),(9,.uns (shf x k) (k+nw x)),(10,.nat (val (shf x k) (k+nw x)))] [] [] [] 11 6 ?_ ?_
 ·refine so [] (λw2 hw2=>.fin (zG rfl ⟨Grow.refl _,rfl⟩)) ?_
  refine so [0] (λw2 hw2=>by rintro _ rfl;exact .fin (yld_make64 rfl rfl rfl zo)) ?_
  refine so [] (λw2 hw2=>.fin (zS rfl rfl yB (B2.grow hw2) (yN _))) ?_
  refine so [2] (λw2 hw2=>by rintro v7 h7;exact .fin (zV rfl cal_nat_Nat_Words rfl (cNatWords h7))) ?_
  refine so [1,3] (λw2 hw2=>by rintro v6 h6 v8 h8;exact .fin (yld_append64 rfl h6 h8 zo zo)) ?_
  exact so [4] (λw2 hw2=>by rintro v9 h9;exact .fin (zV rfl cal_nat_Of rfl (cNatOfU h9 (wf_shf x k _) zo))) (.nil _ _)
 rintro w2 hw2 v5-v6-v7-v8-v9-v10 h10-
 have W2:Grow w w2:=W1.trans hw2
 replace B4:=B4.grow hw2
 have KK:Kept [] w2 w2:=λ_ _=>rfl
 refine fr [va,It k,pt b2,u,pt b4,v5,v6,v7,v8,v9,v10] ?_
 change zO _ _ _ _ [_] ⟨_,[]⟩ _
 refine zN rfl ?_
 refine yS (R':=.nat (val (shf x k) (k+nw x))) (b:=b4) rfl rfl yB.size B4 (yN _) h10 (yN _) (St.nat _) (by decide) g_b4 λw3 P3 E3 B'=>⟨λ_=>Kept.put KK P3 (λ_ hk=>(by cases hk)),?_⟩
 have W3:Grow w w3:=W2.put P3 g_b4
 replace B4:=B';clear B'
 refine nx ?_
 have BR:Box w3 b4 72 (.nat (x*2^(64*k))):=(by have e:(val (shf x k) (k+nw x):Nat)=x*2^(64*k):=(val_shf_all x k);rw[←e];exact B4)
 refine wp_ret ?_
 change bodyPost Tryz.prog Tryz.f128 (Ret (.nat (x*2^(64*k))) w) .ret _ _
 exact body_cell (b:=b4) rfl rfl yB BR (yN _) rfl W3
open Go.RowKit
theorem cal_nat_Cmp:yJ Tryz.prog 84:=zL Tryz.func84 rfl zk
theorem dm_lt{x y:Nat}(h:cmpV x y<0):x<y:=by unfold cmpV at h;split at h<;>(try split at h)<;>omega
theorem dm_ge{x y:Nat}(h:¬cmpV x y<0):y<=x:=by unfold cmpV at h;split at h<;>(try split at h)<;>omega
theorem dm_mono{x y:Nat}(h:y<=x):nw y<=nw x:=(kD _ _).2 (Nat.lt_of_le_of_lt h (kE x))
theorem nw_shl(x:Nat){s:Nat}(hs:s<64):nw x<=nw (x*2^s)/\nw (x*2^s)<=nw x+1:=by
 refine⟨dm_mono (Nat.le_mul_of_pos_right x (Nat.two_pow_pos s)),(kD _ _).2 ?_⟩
 rw[p64]
 have h1:=kE x
 have h2:2^s<=18446744073709551616:=Nat.pow_le_pow_right (n:=2) zo (Nat.le_of_lt hs)
 rw[Nat.mul_comm 18446744073709551616]
 exact Nat.lt_of_lt_of_le (Nat.mul_lt_mul_of_pos_right h1 (Nat.two_pow_pos s)) (Nat.mul_le_mul_left _ h2)
theorem wd_one{y:Nat}(h:nw y<=1):wd y 0=y:=by
 have:=(kD y 1).1 h
 unfold wd
 simp
 omega
theorem dm_rem{d:Nat}(x:Nat)(h:d<18446744073709551616):(if d=0 then 0 else x%d)<18446744073709551616:=by
 split
 ·omega
 ·exact Nat.lt_trans (Nat.mod_lt _ zo) h
theorem u64_pred{q:Nat}(h:q<18446744073709551616)(h0:0<q):IntKind.u64.wrap (((q:Nat):Int)-1)=((q-1:Nat):Int):=by rw[IntKind.wrap_u64];omega
theorem upd_same{f:Nat->Nat}{k v:Nat}:upd f k v k=v:=by unfold upd;rw[if_pos rfl]
theorem cal_word_Lead:yJ Tryz.prog 151:=zL Tryz.func151 rfl zk
theorem cal_quot_ByWord:yJ Tryz.prog 150:=zL Tryz.func150 rfl zk
theorem cal_nat_Nat_Shl:yJ Tryz.prog 152:=zL Tryz.func152 rfl zk
theorem cal_quot_guess:yJ Tryz.prog 153:=zL Tryz.func153 rfl zk
theorem cal_quot_take:yJ Tryz.prog 154:=zL Tryz.func154 rfl zk
theorem cal_quot_back:yJ Tryz.prog 155:=zL Tryz.func155 rfl zk
theorem cal_nat_Nat_Shr:yJ Tryz.prog 156:=zL Tryz.func156 rfl zk
set_option maxHeartbeats 2000000 in
theorem cQuotDivMod{x y:Nat}{va:Value}{vb:Value}{w:World}(ha:(MR.nat (x)).R w va)(hb:(MR.nat (y)).R w vb)(hsx:nw x<1099511627776):Calls Tryz.prog 148 #[va,vb] w (Ret (.tup3 (.nat (x/y)) (.nat (if y=0 then 0 else x%y)) (.eq (.bool (!decide (y=0))))) w):=by
 have _:=hsx
 have hsy:nw y<=1099511627776:=NatAt.small hb
 obtain⟨s,hs⟩:∃s,s=xE (wd y (nw y-1)):=⟨_,rfl⟩
 refine calls_enter (a:=⟨List.toArray ([va,vb]++us 146),[]⟩) Tryz.func148 rfl zk ?_
 have NL:NoLook (bodyPost Tryz.prog Tryz.f148 (Ret (.tup3 (.nat (x/y)) (.nat (if y=0 then 0 else x%y)) (.eq (.bool (!decide (y=0))))) w)):=noLook_body
 refine wp_seq ?_
 refine rg (λc d v a w h=>NL c d v a w h) [(2,.ptr 72 (.nat (x))),(3,.ptr 72 (.nat (y))),(4,.ptr 72 (.nat (0))),(5,.ptr 72 (.nat (0))),(6,.eq (.bool (false)))] [0,1,2,3] [] [] 148 5 ?_ ?_
 ·refine sn [] (λw1 hw1=>.fin (yld_newBox rfl rfl (MR.mono _ hw1 ha))) ?_
  refine sn [] (λw1 hw1=>.fin (yld_newBox rfl rfl (MR.mono _ hw1 hb))) ?_
  refine sn [] (λw1 hw1=>.fin (kI rfl zeroNat zNat)) ?_
  refine sn [] (λw1 hw1=>.fin (kI rfl zeroNat zNat)) ?_
  exact so [] (λw1 hw1=>.fin (zU rfl ⟨Grow.refl _,rfl⟩)) (.nil _ _)
 rintro w1 hw1 _ ⟨b2,rfl,B2⟩ _ ⟨b3,rfl,B3⟩ _ ⟨b4,rfl,B4⟩ _ ⟨b5,rfl,B5⟩ _ rfl hN
 have W1:Grow w w1:=(Grow.refl w).trans hw1
 have n_b2_b4:b2≠b4:=hN.2.1 2 (by simp)
 have n_b2_b5:b2≠b5:=hN.2.1 3 (by simp)
 have n_b3_b4:b3≠b4:=hN.2.2.2.1 2 (by simp)
 have n_b3_b5:b3≠b5:=hN.2.2.2.1 3 (by simp)
 have g_b4:w.heap.size<=b4:=Nat.le_trans (Grow.refl w).size hN.2.2.2.2.1.1
 have n_b4_b5:b4≠b5:=hN.2.2.2.2.2.1 3 (by simp)
 have g_b5:w.heap.size<=b5:=Nat.le_trans (Grow.refl w).size hN.2.2.2.2.2.2.1.1
 clear hN
 replace hb:=MR.mono _ hw1 hb
 refine fr ([va,vb,pt b2,pt b3,pt b4,pt b5,.bool (false)]++us 141) ?_
 refine nx ?_
 refine wp_seq ?_
 refine wp_seq ?_
 refine rg (λc d v a w h=>NL c d v a w h) [(19,.nat (y)),(20,.eq (.int .i64 (((nw y:Nat):Int)))),(21,.eq (.bool (decide ((((nw y:Nat):Int):Int)<=(1:Int)))))] [] [] [] 148 3 ?_ ?_
 ·refine so [] (λw2 hw2=>.fin (zS rfl rfl yB (B3.grow hw2) (yN _))) ?_
  refine so [0] (λw2 hw2=>by rintro v19 h19;exact .fin (zV rfl yI rfl (cNatLen h19))) ?_
  exact so [1] (λw2 hw2=>by rintro _ rfl;exact .fin (yld_leq rfl rfl rfl ⟨Grow.refl _,rfl⟩)) (.nil _ _)
 rintro w2 hw2 v19-v20-_ rfl-
 have W2:Grow w w2:=W1.trans hw2
 replace B2:=B2.grow hw2
 replace B3:=B3.grow hw2
 replace B4:=B4.grow hw2
 replace B5:=B5.grow hw2
 replace hb:=MR.mono _ hw2 hb
 refine fr ([va,vb,pt b2,pt b3,pt b4,pt b5,.bool (false),u,u,u,u,u,u,u,u,u,u,u,u,v19,v20,.bool (decide ((((nw y:Nat):Int):Int)<=(1:Int)))]++us 126) ?_
 refine nx ?_
 refine wp_cond_split (t:=decide ((((nw y:Nat):Int):Int)<=(1:Int))) rfl (λh1=>?_) (λh1=>?_)
 ·have hy1:nw y<=1:=by have:=of_decide_eq_true h1;omega
  have ey:wd y 0=y:=wd_one hy1
  have hrB:(if wd y 0=0 then 0 else x%wd y 0)<18446744073709551616:=dm_rem x (xH y 0)
  refine wp_seq ?_
  refine rg (λc d v a w h=>NL c d v a w h) [(23,.nat (x)),(24,.nat (y)),(25,.eq (.int .u64 (((wd y 0:Nat):Int)))),(26,.tup3 (.nat (x/(wd y 0))) (.eq (.int .u64 (((if wd y 0=0 then 0 else x%(wd y 0):Nat):Int)))) (.eq (.bool (!decide (wd y 0=0))))),(22,.tup3 (.nat (x/(wd y 0))) (.eq (.int .u64 (((if wd y 0=0 then 0 else x%(wd y 0):Nat):Int)))) (.eq (.bool (!decide (wd y 0=0))))),(27,.nat (x/(wd y 0))),(28,.eq (.int .u64 (((if wd y 0=0 then 0 else x%(wd y 0):Nat):Int)))),(29,.eq (.bool (!decide (wd y 0=0)))),(7,.ptr 72 (.nat (0)))] [8] [6,7] [] 148 9 ?_ ?_
  ·refine so [] (λw3 hw3=>.fin (zS rfl rfl yB (B2.grow hw3) (yN _))) ?_
   refine so [] (λw3 hw3=>.fin (zS rfl rfl yB (B3.grow hw3) (yN _))) ?_
   refine so [1] (λw3 hw3=>by rintro v24 h24;exact .fin (zV rfl xD rfl (cWord0 (k:=0) h24 rfl))) ?_
   refine so [0,2] (λw3 hw3=>by rintro v23 h23 _ rfl;exact .fin (zV rfl cal_quot_ByWord rfl (cByWord (d:=wd y 0) h23 (xH _ _)))) ?_
   refine so [3] (λw3 hw3=>by rintro _ ⟨x26_0,x26_1,x26_2,rfl,hx26_0,hx26_1,hx26_2⟩;exact .fin (zG rfl ⟨Grow.refl _,⟨x26_0,x26_1,x26_2,rfl,hx26_0,hx26_1,hx26_2⟩⟩)) ?_
   refine so [4] (λw3 hw3=>by rintro _ ⟨x22_0,x22_1,x22_2,rfl,hx22_0,hx22_1,hx22_2⟩;exact .fin (xU rfl rfl rfl ⟨Grow.refl _,hx22_0⟩)) ?_
   refine sl [4] (λw3 hw3=>by rintro _ ⟨x22_0,x22_1,x22_2,rfl,hx22_0,hx22_1,hx22_2⟩;exact .fin (⟨_,λw2 _=>xA rfl rfl rfl w2,hx22_1⟩)) ?_
   refine sl [4] (λw3 hw3=>by rintro _ ⟨x22_0,x22_1,x22_2,rfl,hx22_0,hx22_1,hx22_2⟩;exact .fin (⟨_,λw2 _=>xA rfl rfl rfl w2,hx22_2⟩)) ?_
   exact sn [] (λw3 hw3=>.fin (kI rfl zeroNat zNat)) (.nil _ _)
  rintro w3 hw3 v23-v24-v25-v26-v22-v27 h27 _ rfl _ rfl _ ⟨b7,rfl,B7⟩ hN
  have W3:Grow w w3:=W2.trans hw3
  have g_b7:w.heap.size<=b7:=Nat.le_trans W2.size hN.1.1
  have n_b2_b7:b2≠b7:=Nat.ne_of_lt (Nat.lt_of_lt_of_le B2.lt hN.1.1)
  have n_b3_b7:b3≠b7:=Nat.ne_of_lt (Nat.lt_of_lt_of_le B3.lt hN.1.1)
  have n_b4_b7:b4≠b7:=Nat.ne_of_lt (Nat.lt_of_lt_of_le B4.lt hN.1.1)
  have n_b5_b7:b5≠b7:=Nat.ne_of_lt (Nat.lt_of_lt_of_le B5.lt hN.1.1)
  clear hN
  replace B2:=B2.grow hw3
  replace B3:=B3.grow hw3
  replace B4:=B4.grow hw3
  replace B5:=B5.grow hw3
  replace hb:=MR.mono _ hw3 hb
  have KK:Kept [] w3 w3:=λ_ _=>rfl
  refine fr ([va,vb,pt b2,pt b3,pt b4,pt b5,.bool (false),pt b7,u,u,u,u,u,u,u,u,u,u,u,v19,v20,.bool (decide ((((nw y:Nat):Int):Int)<=(1:Int))),v22,v23,v24,v25,v26,v27,Ut (if wd y 0=0 then 0 else x%(wd y 0)),.bool (!decide (wd y 0=0))]++us 118) ?_
  change zO _ _ _ _ [_,_,_] ⟨_,[]⟩ _
  refine zN rfl ?_
  refine yS (R':=.nat (x/(wd y 0))) (b:=b7) rfl rfl yB.size B7 (yN _) h27 (yN _) (St.nat _) (by decide) g_b7 λw4 P4 E4 B'=>⟨λ_=>Kept.put KK P4 (λ_ hk=>(by cases hk)),?_⟩
  replace KK:=Kept.put KK P4 (λ_ hk=>(by cases hk))
  have W4:Grow w w4:=W3.put P4 g_b7
  replace B2:=B2.put (St.nat _) P4 E4 n_b2_b7
  replace B3:=B3.put (St.nat _) P4 E4 n_b3_b7
  replace B4:=B4.put (St.nat _) P4 E4 n_b4_b7
  replace B5:=B5.put (St.nat _) P4 E4 n_b5_b7
  replace B7:=B';clear B'
  replace hb:=MR.put hb (St.nat _) E4
  change zO _ _ _ _ [_,_] ⟨_,[]⟩ _
  refine zN rfl ?_
  refine zU rfl ⟨λ_=>KK,?_⟩
  change zO _ _ _ _ [_] ⟨List.toArray (List.set _ 8 _),[]⟩ _
  refine zN rfl ?_
  refine zU rfl ⟨λ_=>KK,?_⟩
  refine yG ?_
  change Code.wp _ _ _ ⟨List.toArray (List.set _ 9 _),[]⟩ _
  refine wp_seq ?_
  refine rg (λc d v a w h=>NL c d v a w h) [(30,.nat (x/(wd y 0))),(31,.eq (.int .u64 (((if wd y 0=0 then 0 else x%(wd y 0):Nat):Int)))),(32,.lits ([if wd y 0=0 then 0 else x%wd y 0])),(33,.nat (if wd y 0=0 then 0 else x%wd y 0)),(34,.eq (.bool (!decide (wd y 0=0))))] [] [4] [] 148 5 ?_ ?_
  ·refine so [] (λw5 hw5=>.fin (zS rfl rfl yB (B7.grow hw5) (yN _))) ?_
   refine so [] (λw5 hw5=>.fin (zG rfl ⟨Grow.refl _,rfl⟩)) ?_
   refine so [1] (λw5 hw5=>by rintro _ rfl;exact .fin (yld_lit rfl rfl)) ?_
   refine so [2] (λw5 hw5=>by rintro v32 h32;exact .fin (zV rfl cal_nat_Of rfl (cNatOf1 h32 zo))) ?_
   exact sl [] (λw5 hw5=>.fin (lazy_move rfl rfl rfl)) (.nil _ _)
  rintro w5 hw5 v30 h30 v31-v32-v33 h33 _ rfl-
  have W5:Grow w w5:=W4.trans hw5
  replace B2:=B2.grow hw5
  replace B3:=B3.grow hw5
  replace B4:=B4.grow hw5
  replace B5:=B5.grow hw5
  replace hb:=MR.mono _ hw5 hb
  have KK:Kept [] w5 w5:=λ_ _=>rfl
  refine fr ([va,vb,pt b2,pt b3,pt b4,pt b5,.bool (false),pt b7,Ut (if wd y 0=0 then 0 else x%(wd y 0)),.bool (!decide (wd y 0=0)),u,u,u,u,u,u,u,u,u,v19,v20,.bool (decide ((((nw y:Nat):Int):Int)<=(1:Int))),v22,v23,v24,v25,v26,v27,Ut (if wd y 0=0 then 0 else x%(wd y 0)),.bool (!decide (wd y 0=0)),v30,v31,v32,v33,.bool (!decide (wd y 0=0))]++us 113) ?_
  change zO _ _ _ _ [_,_,_] ⟨_,[]⟩ _
  refine zN rfl ?_
  refine yS (R':=.nat (x/(wd y 0))) (b:=b4) rfl rfl yB.size B4 (yN _) h30 (yN _) (St.nat _) (by decide) g_b4 λw6 P6 E6 B'=>⟨λ_=>Kept.put KK P6 (λ_ hk=>(by cases hk)),?_⟩
  replace KK:=Kept.put KK P6 (λ_ hk=>(by cases hk))
  have W6:Grow w w6:=W5.put P6 g_b4
  replace B2:=B2.put (St.nat _) P6 E6 n_b2_b4
  replace B3:=B3.put (St.nat _) P6 E6 n_b3_b4
  replace B5:=B5.put (St.nat _) P6 E6 (Ne.symm n_b4_b5)
  replace B4:=B';clear B'
  replace hb:=MR.put hb (St.nat _) E6
  replace h33:=MR.put h33 (St.nat _) E6
  change zO _ _ _ _ [_,_] ⟨_,[]⟩ _
  refine zN rfl ?_
  refine yS (R':=.nat (if wd y 0=0 then 0 else x%wd y 0)) (b:=b5) rfl rfl yB.size B5 (yN _) h33 (yN _) (St.nat _) (by decide) g_b5 λw7 P7 E7 B'=>⟨λ_=>Kept.put KK P7 (λ_ hk=>(by cases hk)),?_⟩
  replace KK:=Kept.put KK P7 (λ_ hk=>(by cases hk))
  have W7:Grow w w7:=W6.put P7 g_b5
  replace B2:=B2.put (St.nat _) P7 E7 n_b2_b5
  replace B3:=B3.put (St.nat _) P7 E7 n_b3_b5
  replace B4:=B4.put (St.nat _) P7 E7 n_b4_b5
  replace B5:=B';clear B'
  replace hb:=MR.put hb (St.nat _) E7
  change zO _ _ _ _ [_] ⟨_,[]⟩ _
  refine zN rfl ?_
  refine zU rfl ⟨λ_=>KK,?_⟩
  refine yG ?_
  change Code.wp _ _ _ ⟨List.toArray (List.set _ 6 _),[]⟩ _
  have BR:Box w7 b4 72 (.nat (x/y)):=(by have e:(x/(wd y 0):Nat)=x/y:=(by first | (rw[ey];done) | exact(Nat.div_eq_of_lt hxy).symm | (rw[if_neg hy0,Nat.mod_eq_of_lt hxy];done) | exact(jK hD).1 | (rw[if_neg hy0];exact(jK hD).2) | (simp[hy0];done));rw[←e];exact B4)
  have BR2:Box w7 b5 72 (.nat (if y=0 then 0 else x%y)):=(by have e:(if wd y 0=0 then 0 else x%wd y 0:Nat)=if y=0 then 0 else x%y:=(by first | (rw[ey];done) | exact(Nat.div_eq_of_lt hxy).symm | (rw[if_neg hy0,Nat.mod_eq_of_lt hxy];done) | exact(jK hD).1 | (rw[if_neg hy0];exact(jK hD).2) | (simp[hy0];done));rw[←e];exact B5)
  refine wp_ret ?_
  change bodyPost Tryz.prog Tryz.f148 (Ret (.tup3 (.nat (x/y)) (.nat (if y=0 then 0 else x%y)) (.eq (.bool (!decide (y=0))))) w) .ret _ _
  exact uH (b:=b4) (b':=b5) rfl rfl yB BR (yN _) rfl yB BR2 (yN _) (by show Value.bool _=Value.bool _;rw[show(!decide (wd y 0=0))=(!decide (y=0)) from(by first | (rw[ey];done) | exact(Nat.div_eq_of_lt hxy).symm | (rw[if_neg hy0,Nat.mod_eq_of_lt hxy];done) | exact(jK hD).1 | (rw[if_neg hy0];exact(jK hD).2) | (simp[hy0];done))]) rfl W7
 ·have h2:2<=nw y:=by have:=of_decide_eq_false h1;omega
  refine wp_skip ?_
  change Code.wp _ _ _ ⟨_,[]⟩ _
  refine wp_seq ?_
  refine wp_seq ?_
  refine rg (λc d v a w h=>NL c d v a w h) [(35,.nat (x)),(36,.nat (y)),(37,.eq (.int .i64 (cmpV ((x:Nat)) ((y:Nat))))),(38,.eq (.bool (decide ((cmpV ((x:Nat)) ((y:Nat)):Int)<(0:Int)))))] [] [] [] 148 4 ?_ ?_
  ·refine so [] (λw8 hw8=>.fin (zS rfl rfl yB (B2.grow hw8) (yN _))) ?_
   refine so [] (λw8 hw8=>.fin (zS rfl rfl yB (B3.grow hw8) (yN _))) ?_
   refine so [0,1] (λw8 hw8=>by rintro v35 h35 v36 h36;exact .fin (zV rfl cal_nat_Cmp rfl (cNatCmp h35 h36))) ?_
   exact so [2] (λw8 hw8=>by rintro _ rfl;exact .fin (yld_lss rfl rfl rfl ⟨Grow.refl _,rfl⟩)) (.nil _ _)
  rintro w8 hw8 v35-v36-v37-_ rfl-
  have W8:Grow w w8:=W2.trans hw8
  replace B2:=B2.grow hw8
  replace B3:=B3.grow hw8
  replace B4:=B4.grow hw8
  replace B5:=B5.grow hw8
  replace hb:=MR.mono _ hw8 hb
  refine fr ([va,vb,pt b2,pt b3,pt b4,pt b5,.bool (false),u,u,u,u,u,u,u,u,u,u,u,u,v19,v20,.bool (decide ((((nw y:Nat):Int):Int)<=(1:Int))),u,u,u,u,u,u,u,u,u,u,u,u,u,v35,v36,v37,.bool (decide ((cmpV ((x:Nat)) ((y:Nat)):Int)<(0:Int)))]++us 109) ?_
  refine nx ?_
  refine wp_cond_split (t:=decide ((cmpV ((x:Nat)) ((y:Nat)):Int)<(0:Int))) rfl (λhlt=>?_) (λhlt=>?_)
  ·have hxy:x<y:=dm_lt (of_decide_eq_true hlt)
   have hy0:y≠0:=by omega
   refine wp_seq ?_
   refine rg (λc d v a w h=>NL c d v a w h) [(39,.nat (0)),(40,.nat (x))] [] [1] [b2] 148 2 ?_ ?_
   ·refine so [] (λw9 hw9=>.fin (yld_build (ps:=[]) rfl rfl zk ⟨Grow.refl _,zNat _⟩)) ?_
    exact sl [] (λw9 hw9=>.fin (lazy_loadBox rfl rfl yB (B2.grow hw9) (yN _) (by simp))) (.nil _ _)
   rintro w9 hw9 v39 h39 v40 h40-
   have W9:Grow w w9:=W8.trans hw9
   replace B2:=B2.grow hw9
   replace B3:=B3.grow hw9
   replace B4:=B4.grow hw9
   replace B5:=B5.grow hw9
   replace hb:=MR.mono _ hw9 hb
   have KK:Kept [b2] w9 w9:=λ_ _=>rfl
   refine fr ([va,vb,pt b2,pt b3,pt b4,pt b5,.bool (false),u,u,u,u,u,u,u,u,u,u,u,u,v19,v20,.bool (decide ((((nw y:Nat):Int):Int)<=(1:Int))),u,u,u,u,u,u,u,u,u,u,u,u,u,v35,v36,v37,.bool (decide ((cmpV ((x:Nat)) ((y:Nat)):Int)<(0:Int))),v39,v40]++us 107) ?_
   change zO _ _ _ _ [_,_,_] ⟨_,[]⟩ _
   refine zN rfl ?_
   refine yS (R':=.nat (0)) (b:=b4) rfl rfl yB.size B4 (yN _) h39 (yN _) (St.nat _) (by decide) g_b4 λw10 P10 E10 B'=>⟨λ_=>Kept.put KK P10 (by simp only[List.mem_cons,List.not_mem_nil,or_false,forall_eq];exact n_b2_b4),?_⟩
   replace KK:=Kept.put KK P10 (by simp only[List.mem_cons,List.not_mem_nil,or_false,forall_eq];exact n_b2_b4)
   have W10:Grow w w10:=W9.put P10 g_b4
   replace B2:=B2.put (St.nat _) P10 E10 n_b2_b4
   replace B3:=B3.put (St.nat _) P10 E10 n_b3_b4
   replace B5:=B5.put (St.nat _) P10 E10 (Ne.symm n_b4_b5)
   replace B4:=B';clear B'
   replace hb:=MR.put hb (St.nat _) E10
   replace h40:=MR.put h40 (St.nat _) E10
   change zO _ _ _ _ [_,_] ⟨_,[]⟩ _
   refine zN rfl ?_
   refine yS (R':=.nat (x)) (b:=b5) rfl rfl yB.size B5 (yN _) h40 (yN _) (St.nat _) (by decide) g_b5 λw11 P11 E11 B'=>⟨λ_=>Kept.put KK P11 (by simp only[List.mem_cons,List.not_mem_nil,or_false,forall_eq];exact n_b2_b5),?_⟩
   replace KK:=Kept.put KK P11 (by simp only[List.mem_cons,List.not_mem_nil,or_false,forall_eq];exact n_b2_b5)
   have W11:Grow w w11:=W10.put P11 g_b5
   replace B2:=B2.put (St.nat _) P11 E11 n_b2_b5
   replace B3:=B3.put (St.nat _) P11 E11 n_b3_b5
   replace B4:=B4.put (St.nat _) P11 E11 n_b4_b5
   replace B5:=B';clear B'
   replace hb:=MR.put hb (St.nat _) E11
   change zO _ _ _ _ [_] ⟨_,[]⟩ _
   refine zN rfl ?_
   refine zU rfl ⟨λ_=>KK,?_⟩
   refine yG ?_
   change Code.wp _ _ _ ⟨List.toArray (List.set _ 6 _),[]⟩ _
   have BR:Box w11 b4 72 (.nat (x/y)):=(by have e:(0:Nat)=x/y:=(by first | (rw[ey];done) | exact(Nat.div_eq_of_lt hxy).symm | (rw[if_neg hy0,Nat.mod_eq_of_lt hxy];done) | exact(jK hD).1 | (rw[if_neg hy0];exact(jK hD).2) | (simp[hy0];done));rw[←e];exact B4)
   have BR2:Box w11 b5 72 (.nat (if y=0 then 0 else x%y)):=(by have e:(x:Nat)=if y=0 then 0 else x%y:=(by first | (rw[ey];done) | exact(Nat.div_eq_of_lt hxy).symm | (rw[if_neg hy0,Nat.mod_eq_of_lt hxy];done) | exact(jK hD).1 | (rw[if_neg hy0];exact(jK hD).2) | (simp[hy0];done));rw[←e];exact B5)
   refine wp_ret ?_
   change bodyPost Tryz.prog Tryz.f148 (Ret (.tup3 (.nat (x/y)) (.nat (if y=0 then 0 else x%y)) (.eq (.bool (!decide (y=0))))) w) .ret _ _
   exact uH (b:=b4) (b':=b5) rfl rfl yB BR (yN _) rfl yB BR2 (yN _) (by show Value.bool _=Value.bool _;rw[show(true)=(!decide (y=0)) from(by first | (rw[ey];done) | exact(Nat.div_eq_of_lt hxy).symm | (rw[if_neg hy0,Nat.mod_eq_of_lt hxy];done) | exact(jK hD).1 | (rw[if_neg hy0];exact(jK hD).2) | (simp[hy0];done))]) rfl W11
  ·have hxy:y<=x:=dm_ge (of_decide_eq_false hlt)
   have hnxy:nw y<=nw x:=dm_mono hxy
   have hy0:y≠0:=λh=>by rw[h,nw_zero] at h2;omega
   obtain⟨hmV,hs64⟩:=nw_shift hy0 hs
   have hSy:Small (y*2^s):=by show nw _<=_;omega
   obtain⟨hNx,hNx1⟩:=nw_shl x hs64
   have hSx:Small (x*2^s):=by show nw _<=_;omega
   have h2V:2<=nw (y*2^s):=by omega
   refine wp_skip ?_
   change Code.wp _ _ _ ⟨_,[]⟩ _
   refine wp_seq ?_
   refine rg (λc d v a w h=>NL c d v a w h) [(41,.nat (y)),(42,.nat (y)),(43,.eq (.int .i64 (((nw y:Nat):Int)))),(44,.eq (.int .i64 (((nw y-1:Nat):Int)))),(45,.eq (.int .u64 (((wd y (nw y-1):Nat):Int)))),(46,.eq (.int .i64 (((s:Nat):Int)))),(10,.eq (.int .i64 (((s:Nat):Int))))] [] [] [] 148 7 ?_ ?_
   ·refine so [] (λw12 hw12=>.fin (zS rfl rfl yB (B3.grow hw12) (yN _))) ?_
    refine so [] (λw12 hw12=>.fin (zS rfl rfl yB (B3.grow hw12) (yN _))) ?_
    refine so [1] (λw12 hw12=>by rintro v42 h42;exact .fin (zV rfl yI rfl (cNatLen h42))) ?_
    refine so [2] (λw12 hw12=>by rintro _ rfl;exact .fin (jR rfl rfl rfl (r:=((nw y-1:Nat):Int)) (by rw[IntKind.wrap_i64];omega) ⟨Grow.refl _,rfl⟩)) ?_
    refine so [0,3] (λw12 hw12=>by rintro v41 h41 _ rfl;exact .fin (zV rfl xD rfl (cWord0 (k:=(nw y-1)) h41 rfl))) ?_
    refine so [4] (λw12 hw12=>by rintro _ rfl;exact .fin (yld_as (R:=.eq (.int .i64 (((xE (wd y (nw y-1)):Nat):Int)))) (R2:=.eq (.int .i64 (((s:Nat):Int)))) (zV rfl cal_word_Lead rfl (cLead (xH _ _))) (λh=>h.trans (by rw[hs])))) ?_
    exact so [5] (λw12 hw12=>by rintro _ rfl;exact .fin (zU rfl ⟨Grow.refl _,rfl⟩)) (.nil _ _)
   rintro w12 hw12 v41-v42-v43-v44-v45-v46-_ rfl-
   have W12:Grow w w12:=W8.trans hw12
   replace B2:=B2.grow hw12
   replace B3:=B3.grow hw12
   replace B4:=B4.grow hw12
   replace B5:=B5.grow hw12
   replace hb:=MR.mono _ hw12 hb
   refine fr ([va,vb,pt b2,pt b3,pt b4,pt b5,.bool (false),u,u,u,It s,u,u,u,u,u,u,u,u,v19,v20,.bool (decide ((((nw y:Nat):Int):Int)<=(1:Int))),u,u,u,u,u,u,u,u,u,u,u,u,u,v35,v36,v37,.bool (decide ((cmpV ((x:Nat)) ((y:Nat)):Int)<(0:Int))),u,u,v41,v42,v43,v44,v45,v46]++us 101) ?_
   refine nx ?_
   refine wp_seq ?_
   refine rg (λc d v a w h=>NL c d v a w h) [(48,.nat (y)),(49,.eq (.int .i64 (((s:Nat):Int)))),(50,.tup2 (.nat (y*2^s)) (.eq (.bool (true)))),(47,.tup2 (.nat (y*2^s)) (.eq (.bool (true)))),(51,.nat (y*2^s)),(52,.eq (.bool (true))),(11,.ptr 72 (.nat (0)))] [6] [5] [] 148 7 ?_ ?_
   ·refine so [] (λw13 hw13=>.fin (zS rfl rfl yB (B3.grow hw13) (yN _))) ?_
    refine so [] (λw13 hw13=>.fin (zG rfl ⟨Grow.refl _,rfl⟩)) ?_
    refine so [0,1] (λw13 hw13=>by rintro v48 h48 _ rfl;exact .fin (zV rfl cal_nat_Nat_Shl rfl (cShl (k:=s) h48 hs64 hSy))) ?_
    refine so [2] (λw13 hw13=>by rintro _ ⟨x50_0,x50_1,rfl,hx50_0,hx50_1⟩;exact .fin (zG rfl ⟨Grow.refl _,⟨x50_0,x50_1,rfl,hx50_0,hx50_1⟩⟩)) ?_
    refine so [3] (λw13 hw13=>by rintro _ ⟨x47_0,x47_1,rfl,hx47_0,hx47_1⟩;exact .fin (xU rfl rfl rfl ⟨Grow.refl _,hx47_0⟩)) ?_
    refine sl [3] (λw13 hw13=>by rintro _ ⟨x47_0,x47_1,rfl,hx47_0,hx47_1⟩;exact .fin (⟨_,λw2 _=>xA rfl rfl rfl w2,hx47_1⟩)) ?_
    exact sn [] (λw13 hw13=>.fin (kI rfl zeroNat zNat)) (.nil _ _)
   rintro w13 hw13 v48-v49-v50-v47-v51 h51 _ rfl _ ⟨b11,rfl,B11⟩ hN
   have W13:Grow w w13:=W12.trans hw13
   have g_b11:w.heap.size<=b11:=Nat.le_trans W12.size hN.1.1
   have n_b2_b11:b2≠b11:=Nat.ne_of_lt (Nat.lt_of_lt_of_le B2.lt hN.1.1)
   have n_b3_b11:b3≠b11:=Nat.ne_of_lt (Nat.lt_of_lt_of_le B3.lt hN.1.1)
   have n_b4_b11:b4≠b11:=Nat.ne_of_lt (Nat.lt_of_lt_of_le B4.lt hN.1.1)
   have n_b5_b11:b5≠b11:=Nat.ne_of_lt (Nat.lt_of_lt_of_le B5.lt hN.1.1)
   clear hN
   replace B2:=B2.grow hw13
   replace B3:=B3.grow hw13
   replace B4:=B4.grow hw13
   replace B5:=B5.grow hw13
   replace hb:=MR.mono _ hw13 hb
   have KK:Kept [] w13 w13:=λ_ _=>rfl
   refine fr ([va,vb,pt b2,pt b3,pt b4,pt b5,.bool (false),u,u,u,It s,pt b11,u,u,u,u,u,u,u,v19,v20,.bool (decide ((((nw y:Nat):Int):Int)<=(1:Int))),u,u,u,u,u,u,u,u,u,u,u,u,u,v35,v36,v37,.bool (decide ((cmpV ((x:Nat)) ((y:Nat)):Int)<(0:Int))),u,u,v41,v42,v43,v44,v45,v46,v47,v48,v49,v50,v51,.bool (true)]++us 95) ?_
   change zO _ _ _ _ [_,_] ⟨_,[]⟩ _
   refine zN rfl ?_
   refine yS (R':=.nat (y*2^s)) (b:=b11) rfl rfl yB.size B11 (yN _) h51 (yN _) (St.nat _) (by decide) g_b11 λw14 P14 E14 B'=>⟨λ_=>Kept.put KK P14 (λ_ hk=>(by cases hk)),?_⟩
   replace KK:=Kept.put KK P14 (λ_ hk=>(by cases hk))
   have W14:Grow w w14:=W13.put P14 g_b11
   replace B2:=B2.put (St.nat _) P14 E14 n_b2_b11
   replace B3:=B3.put (St.nat _) P14 E14 n_b3_b11
   replace B4:=B4.put (St.nat _) P14 E14 n_b4_b11
   replace B5:=B5.put (St.nat _) P14 E14 n_b5_b11
   replace B11:=B';clear B'
   replace hb:=MR.put hb (St.nat _) E14
   change zO _ _ _ _ [_] ⟨_,[]⟩ _
   refine zN rfl ?_
   refine zU rfl ⟨λ_=>KK,?_⟩
   refine yG ?_
   change Code.wp _ _ _ ⟨List.toArray (List.set _ 12 _),[]⟩ _
   refine wp_seq ?_
   refine rg (λc d v a w h=>NL c d v a w h) [(54,.nat (x)),(55,.eq (.int .i64 (((s:Nat):Int)))),(56,.tup2 (.nat (x*2^s)) (.eq (.bool (true)))),(53,.tup2 (.nat (x*2^s)) (.eq (.bool (true)))),(57,.nat (x*2^s)),(58,.eq (.bool (true))),(13,.ptr 72 (.nat (0)))] [6] [5] [] 148 7 ?_ ?_
   ·refine so [] (λw15 hw15=>.fin (zS rfl rfl yB (B2.grow hw15) (yN _))) ?_
    refine so [] (λw15 hw15=>.fin (zG rfl ⟨Grow.refl _,rfl⟩)) ?_
    refine so [0,1] (λw15 hw15=>by rintro v54 h54 _ rfl;exact .fin (zV rfl cal_nat_Nat_Shl rfl (cShl (k:=s) h54 hs64 hSx))) ?_
    refine so [2] (λw15 hw15=>by rintro _ ⟨x56_0,x56_1,rfl,hx56_0,hx56_1⟩;exact .fin (zG rfl ⟨Grow.refl _,⟨x56_0,x56_1,rfl,hx56_0,hx56_1⟩⟩)) ?_
    refine so [3] (λw15 hw15=>by rintro _ ⟨x53_0,x53_1,rfl,hx53_0,hx53_1⟩;exact .fin (xU rfl rfl rfl ⟨Grow.refl _,hx53_0⟩)) ?_
    refine sl [3] (λw15 hw15=>by rintro _ ⟨x53_0,x53_1,rfl,hx53_0,hx53_1⟩;exact .fin (⟨_,λw2 _=>xA rfl rfl rfl w2,hx53_1⟩)) ?_
    exact sn [] (λw15 hw15=>.fin (kI rfl zeroNat zNat)) (.nil _ _)
   rintro w15 hw15 v54-v55-v56-v53-v57 h57 _ rfl _ ⟨b13,rfl,B13⟩ hN
   have W15:Grow w w15:=W14.trans hw15
   have g_b13:w.heap.size<=b13:=Nat.le_trans W14.size hN.1.1
   have n_b2_b13:b2≠b13:=Nat.ne_of_lt (Nat.lt_of_lt_of_le B2.lt hN.1.1)
   have n_b3_b13:b3≠b13:=Nat.ne_of_lt (Nat.lt_of_lt_of_le B3.lt hN.1.1)
   have n_b4_b13:b4≠b13:=Nat.ne_of_lt (Nat.lt_of_lt_of_le B4.lt hN.1.1)
   have n_b5_b13:b5≠b13:=Nat.ne_of_lt (Nat.lt_of_lt_of_le B5.lt hN.1.1)
   have n_b11_b13:b11≠b13:=Nat.ne_of_lt (Nat.lt_of_lt_of_le B11.lt hN.1.1)
   clear hN
   replace B2:=B2.grow hw15
   replace B3:=B3.grow hw15
   replace B4:=B4.grow hw15
   replace B5:=B5.grow hw15
   replace B11:=B11.grow hw15
   replace hb:=MR.mono _ hw15 hb
   have KK:Kept [] w15 w15:=λ_ _=>rfl
   refine fr ([va,vb,pt b2,pt b3,pt b4,pt b5,.bool (false),u,u,u,It s,pt b11,.bool (true),pt b13,u,u,u,u,u,v19,v20,.bool (decide ((((nw y:Nat):Int):Int)<=(1:Int))),u,u,u,u,u,u,u,u,u,u,u,u,u,v35,v36,v37,.bool (decide ((cmpV ((x:Nat)) ((y:Nat)):Int)<(0:Int))),u,u,v41,v42,v43,v44,v45,v46,v47,v48,v49,v50,v51,.bool (true),v53,v54,v55,v56,v57,.bool (true)]++us 89) ?_
   change zO _ _ _ _ [_,_] ⟨_,[]⟩ _
   refine zN rfl ?_
   refine yS (R':=.nat (x*2^s)) (b:=b13) rfl rfl yB.size B13 (yN _) h57 (yN _) (St.nat _) (by decide) g_b13 λw16 P16 E16 B'=>⟨λ_=>Kept.put KK P16 (λ_ hk=>(by cases hk)),?_⟩
   replace KK:=Kept.put KK P16 (λ_ hk=>(by cases hk))
   have W16:Grow w w16:=W15.put P16 g_b13
   replace B2:=B2.put (St.nat _) P16 E16 n_b2_b13
   replace B3:=B3.put (St.nat _) P16 E16 n_b3_b13
   replace B4:=B4.put (St.nat _) P16 E16 n_b4_b13
   replace B5:=B5.put (St.nat _) P16 E16 n_b5_b13
   replace B11:=B11.put (St.nat _) P16 E16 n_b11_b13
   replace B13:=B';clear B'
   replace hb:=MR.put hb (St.nat _) E16
   change zO _ _ _ _ [_] ⟨_,[]⟩ _
   refine zN rfl ?_
   refine zU rfl ⟨λ_=>KK,?_⟩
   refine yG ?_
   change Code.wp _ _ _ ⟨List.toArray (List.set _ 14 _),[]⟩ _
   refine wp_seq ?_
   have C2:=B2
   have lt_b2:=B2.lt
   have C3:=B3
   have lt_b3:=B3.lt
   have C4:=B4
   have lt_b4:=B4.lt
   have C5:=B5
   have lt_b5:=B5.lt
   have C11:=B11
   have lt_b11:=B11.lt
   have C13:=B13
   have lt_b13:=B13.lt
   refine rg (λc d v a w h=>NL c d v a w h) [(59,.nat (x*2^s)),(60,.own w16.heap.size (wd (x*2^s)) (nw (x*2^s))),(61,.lits ([0,0])),(62,.own w16.heap.size (wd (x*2^s)) (nw (x*2^s)+2)),(63,.nat (x)),(64,.eq (.int .i64 (((nw x:Nat):Int)))),(65,.eq (.int .i64 (((nw x+1:Nat):Int)))),(66,.own w16.heap.size (wd (x*2^s)) (nw x+1)),(15,.own w16.heap.size (wd (x*2^s)) (nw x+1))] [] [] [] 148 9 ?_ ?_
   ·refine so [] (λw17 hw17=>.fin (zS rfl rfl yB (B13.grow hw17) (yN _))) ?_
    refine so [0] (λw17 hw17=>by rintro v59 h59;exact .fin (zV rfl cal_nat_Nat_Words rfl (cWords0 h59 zo zo hw17.size))) ?_
    refine so [] (λw17 hw17=>.fin (yld_lit00 rfl rfl rfl)) ?_
    refine so [1,2] (λw17 hw17=>by rintro v60 h60 v61 h61;exact .fin (yld_append_zeros rfl h60 h61 zo zo hw17.size (λi hi=>wd_high _ i hi) rfl)) ?_
    refine so [] (λw17 hw17=>.fin (zS rfl rfl yB (B2.grow hw17) (yN _))) ?_
    refine so [4] (λw17 hw17=>by rintro v63 h63;exact .fin (zV rfl yI rfl (cNatLen h63))) ?_
    refine so [5] (λw17 hw17=>by rintro _ rfl;exact .fin (kV rfl rfl rfl (r:=((nw x+1:Nat):Int)) (by rw[IntKind.wrap_i64];omega) ⟨Grow.refl _,rfl⟩)) ?_
    refine so [3,6] (λw17 hw17=>by rintro v62 h62 _ rfl;exact .fin (yld_sliceO (m:=nw x+1) rfl h62 rfl rfl zo zo)) ?_
    exact so [7] (λw17 hw17=>by rintro v66 h66;exact .fin (zU rfl ⟨Grow.refl _,h66⟩)) (.nil _ _)
   rintro w17 hw17 v59-v60-v61-v62-v63-v64-v65-v66-v15 h15-
   have W17:Grow w w17:=W16.trans hw17
   replace B2:=B2.grow hw17
   replace B3:=B3.grow hw17
   replace B4:=B4.grow hw17
   replace B5:=B5.grow hw17
   replace B11:=B11.grow hw17
   replace B13:=B13.grow hw17
   replace hb:=MR.mono _ hw17 hb
   obtain⟨ru,cu,rfl,gBu,hcu,hcmu,Ru⟩:=h15
   have g_ru:w.heap.size<=ru:=Nat.le_trans W16.size gBu
   have n_b2_ru:b2≠ru:=Nat.ne_of_lt (Nat.lt_of_lt_of_le lt_b2 gBu)
   have n_b3_ru:b3≠ru:=Nat.ne_of_lt (Nat.lt_of_lt_of_le lt_b3 gBu)
   have n_b4_ru:b4≠ru:=Nat.ne_of_lt (Nat.lt_of_lt_of_le lt_b4 gBu)
   have n_b5_ru:b5≠ru:=Nat.ne_of_lt (Nat.lt_of_lt_of_le lt_b5 gBu)
   have n_b11_ru:b11≠ru:=Nat.ne_of_lt (Nat.lt_of_lt_of_le lt_b11 gBu)
   have n_b13_ru:b13≠ru:=Nat.ne_of_lt (Nat.lt_of_lt_of_le lt_b13 gBu)
   refine fr ((va::vb::pt b2::pt b3::pt b4::pt b5::.bool (false)::u::u::u::It s::pt b11::.bool (true)::pt b13::.bool (true)::.slice (some ⟨ru,0,none⟩) (nw x+1) (cu)::u::u::u::v19::v20::.bool (decide ((((nw y:Nat):Int):Int)<=(1:Int)))::u::u::u::u::u::u::u::u::u::u::u::u::u::v35::v36::v37::.bool (decide ((cmpV ((x:Nat)) ((y:Nat)):Int)<(0:Int)))::u::u::v41::v42::v43::v44::v45::v46::v47::v48::v49::v50::v51::.bool (true)::v53::v54::v55::v56::v57::.bool (true)::v59::v60::v61::v62::v63::v64::v65::v66::[])++us 81) ?_
   refine nx ?_
   refine wp_seq ?_
   refine rg (λc d v a w h=>NL c d v a w h) [(67,.nat (y*2^s)),(68,.eq (.int .i64 (((nw (y*2^s):Nat):Int)))),(16,.eq (.int .i64 (((nw (y*2^s):Nat):Int))))] [] [] [] 148 3 ?_ ?_
   ·refine so [] (λw18 hw18=>.fin (zS rfl rfl yB (B11.grow hw18) (yN _))) ?_
    refine so [0] (λw18 hw18=>by rintro v67 h67;exact .fin (zV rfl yI rfl (cNatLen h67))) ?_
    exact so [1] (λw18 hw18=>by rintro _ rfl;exact .fin (zU rfl ⟨Grow.refl _,rfl⟩)) (.nil _ _)
   rintro w18 hw18 v67-v68-_ rfl-
   have W18:Grow w w18:=W17.trans hw18
   replace B2:=B2.grow hw18
   replace B3:=B3.grow hw18
   replace B4:=B4.grow hw18
   replace B5:=B5.grow hw18
   replace B11:=B11.grow hw18
   replace B13:=B13.grow hw18
   replace Ru:=Ru.below hw18
   replace hb:=MR.mono _ hw18 hb
   refine fr ((va::vb::pt b2::pt b3::pt b4::pt b5::.bool (false)::u::u::u::It s::pt b11::.bool (true)::pt b13::.bool (true)::.slice (some ⟨ru,0,none⟩) (nw x+1) (cu)::It (nw (y*2^s))::u::u::v19::v20::.bool (decide ((((nw y:Nat):Int):Int)<=(1:Int)))::u::u::u::u::u::u::u::u::u::u::u::u::u::v35::v36::v37::.bool (decide ((cmpV ((x:Nat)) ((y:Nat)):Int)<(0:Int)))::u::u::v41::v42::v43::v44::v45::v46::v47::v48::v49::v50::v51::.bool (true)::v53::v54::v55::v56::v57::.bool (true)::v59::v60::v61::v62::v63::v64::v65::v66::v67::v68::[])++us 79) ?_
   refine nx ?_
   refine wp_seq ?_
   have lt_ru:=Ru.lt
   have lt2_b2:=B2.lt
   have lt2_b3:=B3.lt
   have lt2_b4:=B4.lt
   have lt2_b5:=B5.lt
   have lt2_b11:=B11.lt
   have lt2_b13:=B13.lt
   refine rg (λc d v a w h=>NL c d v a w h) [(69,.nat (x)),(70,.eq (.int .i64 (((nw x:Nat):Int)))),(71,.eq (.int .i64 (((nw (y*2^s):Nat):Int)))),(72,.eq (.int .i64 (((nw x-nw (y*2^s):Nat):Int)))),(73,.eq (.int .i64 (((nw x-nw (y*2^s)+1:Nat):Int)))),(74,.own w18.heap.size (λ_=>0) (nw x-nw (y*2^s)+1)),(17,.own w18.heap.size (λ_=>0) (nw x-nw (y*2^s)+1))] [] [] [] 148 7 ?_ ?_
   ·refine so [] (λw19 hw19=>.fin (zS rfl rfl yB (B2.grow hw19) (yN _))) ?_
    refine so [0] (λw19 hw19=>by rintro v69 h69;exact .fin (zV rfl yI rfl (cNatLen h69))) ?_
    refine so [] (λw19 hw19=>.fin (zG rfl ⟨Grow.refl _,rfl⟩)) ?_
    refine so [1,2] (λw19 hw19=>by rintro _ rfl _ rfl;exact .fin (jR rfl rfl rfl (r:=((nw x-nw (y*2^s):Nat):Int)) (by rw[IntKind.wrap_i64];omega) ⟨Grow.refl _,rfl⟩)) ?_
    refine so [3] (λw19 hw19=>by rintro _ rfl;exact .fin (kV rfl rfl rfl (r:=((nw x-nw (y*2^s)+1:Nat):Int)) (by rw[IntKind.wrap_i64];omega) ⟨Grow.refl _,rfl⟩)) ?_
    refine so [4] (λw19 hw19=>by rintro _ rfl;exact .fin (yld_makeO rfl rfl rfl zo hw19.size)) ?_
    exact so [5] (λw19 hw19=>by rintro v74 h74;exact .fin (zU rfl ⟨Grow.refl _,h74⟩)) (.nil _ _)
   rintro w19 hw19 v69-v70-v71-v72-v73-v74-v17 h17-
   have W19:Grow w w19:=W18.trans hw19
   replace B2:=B2.grow hw19
   replace B3:=B3.grow hw19
   replace B4:=B4.grow hw19
   replace B5:=B5.grow hw19
   replace B11:=B11.grow hw19
   replace B13:=B13.grow hw19
   replace Ru:=Ru.below hw19
   replace hb:=MR.mono _ hw19 hb
   obtain⟨rq,cq,rfl,gBq,hcq,hcmq,Rq⟩:=h17
   have g_rq:w.heap.size<=rq:=Nat.le_trans W18.size gBq
   have n_ru_rq:ru≠rq:=Nat.ne_of_lt (Nat.lt_of_lt_of_le lt_ru gBq)
   have G9:Grow w16 w19:=Grow.trans (Grow.trans (hw17) hw18) hw19
   have G11:Grow w16 w18:=Grow.trans (hw17) hw18
   have n_b2_rq:b2≠rq:=Nat.ne_of_lt (Nat.lt_of_lt_of_le lt2_b2 gBq)
   replace B2:=(Box.natF (F:=λk=>k=ru∨k=rq) C2 (by rintro k (rfl | rfl);exact gBu;exact Nat.le_trans G11.size gBq)).grow G9
   have n_b3_rq:b3≠rq:=Nat.ne_of_lt (Nat.lt_of_lt_of_le lt2_b3 gBq)
   replace B3:=(Box.natF (F:=λk=>k=ru∨k=rq) C3 (by rintro k (rfl | rfl);exact gBu;exact Nat.le_trans G11.size gBq)).grow G9
   have n_b4_rq:b4≠rq:=Nat.ne_of_lt (Nat.lt_of_lt_of_le lt2_b4 gBq)
   replace B4:=(Box.natF (F:=λk=>k=ru∨k=rq) C4 (by rintro k (rfl | rfl);exact gBu;exact Nat.le_trans G11.size gBq)).grow G9
   have n_b5_rq:b5≠rq:=Nat.ne_of_lt (Nat.lt_of_lt_of_le lt2_b5 gBq)
   replace B5:=(Box.natF (F:=λk=>k=ru∨k=rq) C5 (by rintro k (rfl | rfl);exact gBu;exact Nat.le_trans G11.size gBq)).grow G9
   have n_b11_rq:b11≠rq:=Nat.ne_of_lt (Nat.lt_of_lt_of_le lt2_b11 gBq)
   replace B11:=(Box.natF (F:=λk=>k=ru∨k=rq) C11 (by rintro k (rfl | rfl);exact gBu;exact Nat.le_trans G11.size gBq)).grow G9
   have n_b13_rq:b13≠rq:=Nat.ne_of_lt (Nat.lt_of_lt_of_le lt2_b13 gBq)
   replace B13:=(Box.natF (F:=λk=>k=ru∨k=rq) C13 (by rintro k (rfl | rfl);exact gBu;exact Nat.le_trans G11.size gBq)).grow G9
   clear C2 C3 C4 C5 C11 C13
   refine fr ((va::vb::pt b2::pt b3::pt b4::pt b5::.bool (false)::u::u::u::It s::pt b11::.bool (true)::pt b13::.bool (true)::.slice (some ⟨ru,0,none⟩) (nw x+1) (cu)::It (nw (y*2^s))::.slice (some ⟨rq,0,none⟩) (nw x-nw (y*2^s)+1) (cq)::u::v19::v20::.bool (decide ((((nw y:Nat):Int):Int)<=(1:Int)))::u::u::u::u::u::u::u::u::u::u::u::u::u::v35::v36::v37::.bool (decide ((cmpV ((x:Nat)) ((y:Nat)):Int)<(0:Int)))::u::u::v41::v42::v43::v44::v45::v46::v47::v48::v49::v50::v51::.bool (true)::v53::v54::v55::v56::v57::.bool (true)::v59::v60::v61::v62::v63::v64::v65::v66::v67::v68::v69::v70::v71::v72::v73::v74::[])++us 73) ?_
   refine nx ?_
   refine wp_seq ?_
   refine wp_seq ?_
   refine rg (λc d v a w h=>NL c d v a w h) [(75,.eq (.slice (some ⟨rq,0,none⟩) (nw x-nw (y*2^s)+1) (cq))),(76,.eq (.int .i64 (((nw x-nw (y*2^s)+1:Nat):Int)))),(77,.eq (.int .i64 ((((nw x-nw (y*2^s)+1:Nat):Int))-1))),(18,.eq (.int .i64 ((((nw x-nw (y*2^s)+1:Nat):Int))-1)))] [] [] [] 148 4 ?_ ?_
   ·refine so [] (λw20 hw20=>.fin (zG rfl ⟨Grow.refl _,rfl⟩)) ?_
    refine so [0] (λw20 hw20=>by rintro _ rfl;exact .fin (yld_lenE rfl rfl)) ?_
    refine so [1] (λw20 hw20=>by rintro _ rfl;exact .fin (jR rfl rfl rfl (r:=(((nw x-nw (y*2^s)+1:Nat):Int))-1) (by rw[IntKind.wrap_i64];omega) ⟨Grow.refl _,rfl⟩)) ?_
    exact so [2] (λw20 hw20=>by rintro _ rfl;exact .fin (zU rfl ⟨Grow.refl _,rfl⟩)) (.nil _ _)
   rintro w20 hw20 v75-v76-v77-_ rfl-
   have W20:Grow w w20:=W19.trans hw20
   replace B2:=B2.grow hw20
   replace B3:=B3.grow hw20
   replace B4:=B4.grow hw20
   replace B5:=B5.grow hw20
   replace B11:=B11.grow hw20
   replace B13:=B13.grow hw20
   replace Ru:=Ru.below hw20
   replace Rq:=Rq.below hw20
   refine fr ((va::vb::pt b2::pt b3::pt b4::pt b5::.bool (false)::u::u::u::It s::pt b11::.bool (true)::pt b13::.bool (true)::.slice (some ⟨ru,0,none⟩) (nw x+1) (cu)::It (nw (y*2^s))::.slice (some ⟨rq,0,none⟩) (nw x-nw (y*2^s)+1) (cq)::.int .i64 ((((nw x-nw (y*2^s)+1:Nat):Int))-1)::v19::v20::.bool (decide ((((nw y:Nat):Int):Int)<=(1:Int)))::u::u::u::u::u::u::u::u::u::u::u::u::u::v35::v36::v37::.bool (decide ((cmpV ((x:Nat)) ((y:Nat)):Int)<(0:Int)))::u::u::v41::v42::v43::v44::v45::v46::v47::v48::v49::v50::v51::.bool (true)::v53::v54::v55::v56::v57::.bool (true)::v59::v60::v61::v62::v63::v64::v65::v66::v67::v68::v69::v70::v71::v72::v73::v74::v75::v76::v77::[])++us 70) ?_
   refine nx ?_
   refine wp_block ?_
   refine wp_loop_ghost (λnn ac21 w21=>∃(j:Nat) (fu:Nat->Nat) (fq:Nat->Nat),nn=j/\(j<=nw x-nw (y*2^s)+1/\DInv (x*2^s) (y*2^s) (nw x+1) (nw x-nw (y*2^s)+1) j fu fq)/\∃tt21:Nat->Value,ac21=⟨List.toArray ((va::vb::pt b2::pt b3::pt b4::pt b5::.bool (false)::u::u::u::It s::pt b11::.bool (true)::pt b13::.bool (true)::.slice (some ⟨ru,0,none⟩) (nw x+1) (cu)::It (nw (y*2^s))::.slice (some ⟨rq,0,none⟩) (nw x-nw (y*2^s)+1) (cq)::.int .i64 (((j:Nat):Int)-1)::v19::v20::.bool (decide ((((nw y:Nat):Int):Int)<=(1:Int)))::u::u::u::u::u::u::u::u::u::u::u::u::u::v35::v36::v37::.bool (decide ((cmpV ((x:Nat)) ((y:Nat)):Int)<(0:Int)))::u::u::v41::v42::v43::v44::v45::v46::v47::v48::v49::v50::v51::.bool (true)::v53::v54::v55::v56::v57::.bool (true)::v59::v60::v61::v62::v63::v64::v65::v66::v67::v68::v69::v70::v71::v72::v73::v74::v75::v76::v77::(tt21 78)::(tt21 79)::(tt21 80)::(tt21 81)::(tt21 82)::(tt21 83)::(tt21 84)::(tt21 85)::(tt21 86)::(tt21 87)::(tt21 88)::(tt21 89)::(tt21 90)::(tt21 91)::(tt21 92)::(tt21 93)::(tt21 94)::(tt21 95)::(tt21 96)::(tt21 97)::(tt21 98)::(tt21 99)::(tt21 100)::(tt21 101)::(tt21 102)::(tt21 103)::(tt21 104)::(tt21 105)::(tt21 106)::(tt21 107)::(tt21 108)::(tt21 109)::(tt21 110)::(tt21 111)::(tt21 112)::(tt21 113)::(tt21 114)::(tt21 115)::(tt21 116)::(tt21 117)::(tt21 118)::(tt21 119)::(tt21 120)::(tt21 121)::(tt21 122)::(tt21 123)::(tt21 124)::(tt21 125)::(tt21 126)::(tt21 127)::(tt21 128)::(tt21 129)::(tt21 130)::(tt21 131)::(tt21 132)::(tt21 133)::(tt21 134)::(tt21 135)::(tt21 136)::(tt21 137)::(tt21 138)::(tt21 139)::(tt21 140)::(tt21 141)::[])++us 6),[]⟩/\Grow w w21/\Box w21 b2 72 (.natF (λk=>k=ru∨k=rq) (x))/\Box w21 b3 72 (.natF (λk=>k=ru∨k=rq) (y))/\Box w21 b4 72 (.natF (λk=>k=ru∨k=rq) (0))/\Box w21 b5 72 (.natF (λk=>k=ru∨k=rq) (0))/\Box w21 b11 72 (.natF (λk=>k=ru∨k=rq) (y*2^s))/\Box w21 b13 72 (.natF (λk=>k=ru∨k=rq) (x*2^s))/\Blk w21 ru 177 (wa (fu) (cu))/\Blk w21 rq 177 (wa (fq) (cq))) (nw x-nw (y*2^s)+1) ⟨nw x-nw (y*2^s)+1,wd (x*2^s),λ_=>0,rfl,⟨Nat.le_refl _,d_start hNx1 zo hy0⟩,λd=>((.int .i64 ((((nw x-nw (y*2^s)+1:Nat):Int))-1)::v19::v20::.bool (decide ((((nw y:Nat):Int):Int)<=(1:Int)))::u::u::u::u::u::u::u::u::u::u::u::u::u::v35::v36::v37::.bool (decide ((cmpV ((x:Nat)) ((y:Nat)):Int)<(0:Int)))::u::u::v41::v42::v43::v44::v45::v46::v47::v48::v49::v50::v51::.bool (true)::v53::v54::v55::v56::v57::.bool (true)::v59::v60::v61::v62::v63::v64::v65::v66::v67::v68::v69::v70::v71::v72::v73::v74::v75::v76::v77::u::u::u::u::u::u::u::u::u::u::u::u::u::u::u::u::u::u::u::u::u::u::u::u::u::u::u::u::u::u::u::u::u::u::u::u::u::u::u::u::u::u::u::u::u::u::u::u::u::u::u::u::u::u::u::u::u::u::u::u::u::u::u::u::[]):List Value).getD (d-18) undef,by kernel_rfl,W20,B2,B3,B4,B5,B11,B13,Ru,Rq⟩ ?_
   clear B2 B3 B4 B5 B11 B13 Ru Rq
   rintro nn21 _ w21 ⟨j,fu,fq,hnn21,⟨hj,hD⟩,tt21,rfl,W21,B2,B3,B4,B5,B11,B13,Ru,Rq⟩
   refine wp_seq ?_
   refine wp_seq ?_
   refine rg (λc d v a w h=>NL c d v a w h) [(78,.eq (.int .i64 (((j:Nat):Int)-1))),(79,.eq (.bool (decide ((((j:Nat):Int)-1:Int)>=(0:Int)))))] [] [] [] 148 2 ?_ ?_
   ·refine so [] (λw22 hw22=>.fin (zG rfl ⟨Grow.refl _,rfl⟩)) ?_
    exact so [0] (λw22 hw22=>by rintro _ rfl;exact .fin (yld_geq rfl rfl rfl ⟨Grow.refl _,rfl⟩)) (.nil _ _)
   rintro w22 hw22 v78-_ rfl-
   have W22:Grow w w22:=W21.trans hw22
   replace B2:=B2.grow hw22
   replace B3:=B3.grow hw22
   replace B4:=B4.grow hw22
   replace B5:=B5.grow hw22
   replace B11:=B11.grow hw22
   replace B13:=B13.grow hw22
   replace Ru:=Ru.below hw22
   replace Rq:=Rq.below hw22
   refine fr ((va::vb::pt b2::pt b3::pt b4::pt b5::.bool (false)::u::u::u::It s::pt b11::.bool (true)::pt b13::.bool (true)::.slice (some ⟨ru,0,none⟩) (nw x+1) (cu)::It (nw (y*2^s))::.slice (some ⟨rq,0,none⟩) (nw x-nw (y*2^s)+1) (cq)::.int .i64 (((j:Nat):Int)-1)::v19::v20::.bool (decide ((((nw y:Nat):Int):Int)<=(1:Int)))::u::u::u::u::u::u::u::u::u::u::u::u::u::v35::v36::v37::.bool (decide ((cmpV ((x:Nat)) ((y:Nat)):Int)<(0:Int)))::u::u::v41::v42::v43::v44::v45::v46::v47::v48::v49::v50::v51::.bool (true)::v53::v54::v55::v56::v57::.bool (true)::v59::v60::v61::v62::v63::v64::v65::v66::v67::v68::v69::v70::v71::v72::v73::v74::v75::v76::v77::v78::.bool (decide ((((j:Nat):Int)-1:Int)>=(0:Int)))::(tt21 80)::(tt21 81)::(tt21 82)::(tt21 83)::(tt21 84)::(tt21 85)::(tt21 86)::(tt21 87)::(tt21 88)::(tt21 89)::(tt21 90)::(tt21 91)::(tt21 92)::(tt21 93)::(tt21 94)::(tt21 95)::(tt21 96)::(tt21 97)::(tt21 98)::(tt21 99)::(tt21 100)::(tt21 101)::(tt21 102)::(tt21 103)::(tt21 104)::(tt21 105)::(tt21 106)::(tt21 107)::(tt21 108)::(tt21 109)::(tt21 110)::(tt21 111)::(tt21 112)::(tt21 113)::(tt21 114)::(tt21 115)::(tt21 116)::(tt21 117)::(tt21 118)::(tt21 119)::(tt21 120)::(tt21 121)::(tt21 122)::(tt21 123)::(tt21 124)::(tt21 125)::(tt21 126)::(tt21 127)::(tt21 128)::(tt21 129)::(tt21 130)::(tt21 131)::(tt21 132)::(tt21 133)::(tt21 134)::(tt21 135)::(tt21 136)::(tt21 137)::(tt21 138)::(tt21 139)::(tt21 140)::(tt21 141)::[])++us 6) ?_
   refine nx ?_
   refine wp_cond_split (t:=decide ((((j:Nat):Int)-1:Int)>=(0:Int))) rfl (λhge=>?_) (λhge=>?_)
   ·have hj0:0<j:=by have:=of_decide_eq_true hge;omega
    have hD1:DInv (x*2^s) (y*2^s) (nw x+1) (nw x-nw (y*2^s)+1) (j-1+1) fu fq:=by rw[Nat.sub_add_cancel hj0];exact hD
    have hkN:j-1+nw (y*2^s)<nw x+1:=by omega
    have hkQ:j-1<nw x-nw (y*2^s)+1:=by omega
    obtain⟨hg1,hg2⟩:=d_guess rfl h2V hkN hD1
    refine wp_skip ?_
    change Code.wp _ _ _ ⟨_,[]⟩ _
    refine wp_seq ?_
    refine wp_block ?_
    refine wp_seq ?_
    refine rg (λc d v a w h=>NL c d v a w h) [(82,.eq (.slice (some ⟨rq,0,none⟩) (nw x-nw (y*2^s)+1) (cq))),(83,.eq (.int .i64 (((j:Nat):Int)-1))),(84,.eq (.slice (some ⟨ru,0,none⟩) (nw x+1) (cu))),(85,.eq (.int .i64 (((j:Nat):Int)-1))),(86,.eq (.int .i64 (((nw (y*2^s):Nat):Int)))),(87,.eq (.int .i64 ((((j:Nat):Int)-1)+(((nw (y*2^s):Nat):Int))))),(88,.eq (.pointer (some ⟨ru,(j-1+nw (y*2^s)),none⟩))),(89,.eq (.int .u64 (((fu ((j-1+nw (y*2^s))):Nat):Int)))),(90,.eq (.slice (some ⟨ru,0,none⟩) (nw x+1) (cu))),(91,.eq (.int .i64 (((j:Nat):Int)-1))),(92,.eq (.int .i64 (((nw (y*2^s):Nat):Int)))),(93,.eq (.int .i64 ((((j:Nat):Int)-1)+(((nw (y*2^s):Nat):Int))))),(94,.eq (.int .i64 (((((j:Nat):Int)-1)+(((nw (y*2^s):Nat):Int)))-1))),(95,.eq (.pointer (some ⟨ru,(j-1+nw (y*2^s)-1),none⟩))),(96,.eq (.int .u64 (((fu ((j-1+nw (y*2^s)-1)):Nat):Int)))),(97,.eq (.slice (some ⟨ru,0,none⟩) (nw x+1) (cu))),(98,.eq (.int .i64 (((j:Nat):Int)-1))),(99,.eq (.int .i64 (((nw (y*2^s):Nat):Int)))),(100,.eq (.int .i64 ((((j:Nat):Int)-1)+(((nw (y*2^s):Nat):Int))))),(101,.eq (.int .i64 (((((j:Nat):Int)-1)+(((nw (y*2^s):Nat):Int)))-2))),(102,.eq (.pointer (some ⟨ru,(j-1+nw (y*2^s)-2),none⟩))),(103,.eq (.int .u64 (((fu ((j-1+nw (y*2^s)-2)):Nat):Int)))),(104,.natF (λk=>k=ru∨k=rq) (y*2^s)),(105,.eq (.int .i64 (((nw (y*2^s):Nat):Int)))),(106,.eq (.int .i64 (((nw (y*2^s)-1:Nat):Int)))),(107,.eq (.int .u64 (((wd (y*2^s) (nw (y*2^s)-1):Nat):Int)))),(108,.natF (λk=>k=ru∨k=rq) (y*2^s)),(109,.eq (.int .i64 (((nw (y*2^s):Nat):Int)))),(110,.eq (.int .i64 (((nw (y*2^s)-2:Nat):Int)))),(111,.eq (.int .u64 (((wd (y*2^s) (nw (y*2^s)-2):Nat):Int)))),(112,.eq (.int .u64 (((dq fu (y*2^s) (j-1) (nw (y*2^s)):Nat):Int)))),(113,.eq (.pointer (some ⟨rq,(j-1),none⟩)))] [] [] [] 148 32 ?_ ?_
    ·refine so [] (λw23 hw23=>.fin (zG rfl ⟨Grow.refl _,rfl⟩)) ?_
     refine so [] (λw23 hw23=>.fin (zG rfl ⟨Grow.refl _,rfl⟩)) ?_
     refine so [] (λw23 hw23=>.fin (zG rfl ⟨Grow.refl _,rfl⟩)) ?_
     refine so [] (λw23 hw23=>.fin (zG rfl ⟨Grow.refl _,rfl⟩)) ?_
     refine so [] (λw23 hw23=>.fin (zG rfl ⟨Grow.refl _,rfl⟩)) ?_
     refine so [3,4] (λw23 hw23=>by rintro _ rfl _ rfl;exact .fin (kV rfl rfl rfl (r:=(((j:Nat):Int)-1)+(((nw (y*2^s):Nat):Int))) (by rw[IntKind.wrap_i64];omega) ⟨Grow.refl _,rfl⟩)) ?_
     refine so [2,5] (λw23 hw23=>by rintro _ rfl _ rfl;exact .fin (yL (k:=j-1+nw (y*2^s)) rfl rfl rfl zo zo (j:=(j-1+nw (y*2^s))) zo)) ?_
     refine so [6] (λw23 hw23=>by rintro _ rfl;exact .fin (kJ rfl rfl (Ru.below hw23) zo)) ?_
     refine so [] (λw23 hw23=>.fin (zG rfl ⟨Grow.refl _,rfl⟩)) ?_
     refine so [] (λw23 hw23=>.fin (zG rfl ⟨Grow.refl _,rfl⟩)) ?_
     refine so [] (λw23 hw23=>.fin (zG rfl ⟨Grow.refl _,rfl⟩)) ?_
     refine so [9,10] (λw23 hw23=>by rintro _ rfl _ rfl;exact .fin (kV rfl rfl rfl (r:=(((j:Nat):Int)-1)+(((nw (y*2^s):Nat):Int))) (by rw[IntKind.wrap_i64];omega) ⟨Grow.refl _,rfl⟩)) ?_
     refine so [11] (λw23 hw23=>by rintro _ rfl;exact .fin (jR rfl rfl rfl (r:=((((j:Nat):Int)-1)+(((nw (y*2^s):Nat):Int)))-1) (by rw[IntKind.wrap_i64];omega) ⟨Grow.refl _,rfl⟩)) ?_
     refine so [8,12] (λw23 hw23=>by rintro _ rfl _ rfl;exact .fin (yL (k:=j-1+nw (y*2^s)-1) rfl rfl rfl zo zo (j:=(j-1+nw (y*2^s)-1)) zo)) ?_
     refine so [13] (λw23 hw23=>by rintro _ rfl;exact .fin (kJ rfl rfl (Ru.below hw23) zo)) ?_
     refine so [] (λw23 hw23=>.fin (zG rfl ⟨Grow.refl _,rfl⟩)) ?_
     refine so [] (λw23 hw23=>.fin (zG rfl ⟨Grow.refl _,rfl⟩)) ?_
     refine so [] (λw23 hw23=>.fin (zG rfl ⟨Grow.refl _,rfl⟩)) ?_
     refine so [16,17] (λw23 hw23=>by rintro _ rfl _ rfl;exact .fin (kV rfl rfl rfl (r:=(((j:Nat):Int)-1)+(((nw (y*2^s):Nat):Int))) (by rw[IntKind.wrap_i64];omega) ⟨Grow.refl _,rfl⟩)) ?_
     refine so [18] (λw23 hw23=>by rintro _ rfl;exact .fin (jR rfl rfl rfl (r:=((((j:Nat):Int)-1)+(((nw (y*2^s):Nat):Int)))-2) (by rw[IntKind.wrap_i64];omega) ⟨Grow.refl _,rfl⟩)) ?_
     refine so [15,19] (λw23 hw23=>by rintro _ rfl _ rfl;exact .fin (yL (k:=j-1+nw (y*2^s)-2) rfl rfl rfl zo zo (j:=(j-1+nw (y*2^s)-2)) zo)) ?_
     refine so [20] (λw23 hw23=>by rintro _ rfl;exact .fin (kJ rfl rfl (Ru.below hw23) zo)) ?_
     refine so [] (λw23 hw23=>.fin (zS rfl rfl yB (B11.grow hw23) (jN))) ?_
     refine so [] (λw23 hw23=>.fin (zG rfl ⟨Grow.refl _,rfl⟩)) ?_
     refine so [23] (λw23 hw23=>by rintro _ rfl;exact .fin (jR rfl rfl rfl (r:=((nw (y*2^s)-1:Nat):Int)) (by rw[IntKind.wrap_i64];omega) ⟨Grow.refl _,rfl⟩)) ?_
     refine so [22,24] (λw23 hw23=>by rintro v104 h104 _ rfl;exact .fin (zV rfl xD rfl (cWordF (k:=(nw (y*2^s)-1)) h104))) ?_
     refine so [] (λw23 hw23=>.fin (zS rfl rfl yB (B11.grow hw23) (jN))) ?_
     refine so [] (λw23 hw23=>.fin (zG rfl ⟨Grow.refl _,rfl⟩)) ?_
     refine so [27] (λw23 hw23=>by rintro _ rfl;exact .fin (jR rfl rfl rfl (r:=((nw (y*2^s)-2:Nat):Int)) (by rw[IntKind.wrap_i64];omega) ⟨Grow.refl _,rfl⟩)) ?_
     refine so [26,28] (λw23 hw23=>by rintro v108 h108 _ rfl;exact .fin (zV rfl xD rfl (cWordF (k:=(nw (y*2^s)-2)) h108))) ?_
     refine so [7,14,21,25,29] (λw23 hw23=>by rintro _ rfl _ rfl _ rfl _ rfl _ rfl;exact .fin (yld_as (R:=.eq (.int .u64 (((gq (fu ((j-1+nw (y*2^s)))) (fu ((j-1+nw (y*2^s)-1))) (fu ((j-1+nw (y*2^s)-2))) (wd (y*2^s) (nw (y*2^s)-1)) (wd (y*2^s) (nw (y*2^s)-2)):Nat):Int)))) (R2:=.eq (.int .u64 (((dq fu (y*2^s) (j-1) (nw (y*2^s)):Nat):Int)))) (zV rfl cal_quot_guess rfl (cGuess (u2:=(fu ((j-1+nw (y*2^s))))) (u1:=(fu ((j-1+nw (y*2^s)-1)))) (u0:=(fu ((j-1+nw (y*2^s)-2)))) (v1:=(wd (y*2^s) (nw (y*2^s)-1))) (v0:=(wd (y*2^s) (nw (y*2^s)-2))) hg1 hg2 (hD.1 _ zo) (hD.1 _ zo) (xH _ _) (xH _ _))) (λh=>h))) ?_
     exact so [0,1] (λw23 hw23=>by rintro _ rfl _ rfl;exact .fin (yL (k:=j-1) rfl rfl rfl zo zo (j:=(j-1)) zo)) (.nil _ _)
    rintro w23 hw23 v82-v83-v84-v85-v86-v87-v88-v89-v90-v91-v92-v93-v94-v95-v96-v97-v98-v99-v100-v101-v102-v103-v104-v105-v106-v107-v108-v109-v110-v111-_ rfl _ rfl-
    have W23:Grow w w23:=W22.trans hw23
    replace B2:=B2.grow hw23
    replace B3:=B3.grow hw23
    replace B4:=B4.grow hw23
    replace B5:=B5.grow hw23
    replace B11:=B11.grow hw23
    replace B13:=B13.grow hw23
    replace Ru:=Ru.below hw23
    replace Rq:=Rq.below hw23
    have KK:Kept [] w23 w23:=λ_ _=>rfl
    refine fr ((va::vb::pt b2::pt b3::pt b4::pt b5::.bool (false)::u::u::u::It s::pt b11::.bool (true)::pt b13::.bool (true)::.slice (some ⟨ru,0,none⟩) (nw x+1) (cu)::It (nw (y*2^s))::.slice (some ⟨rq,0,none⟩) (nw x-nw (y*2^s)+1) (cq)::.int .i64 (((j:Nat):Int)-1)::v19::v20::.bool (decide ((((nw y:Nat):Int):Int)<=(1:Int)))::u::u::u::u::u::u::u::u::u::u::u::u::u::v35::v36::v37::.bool (decide ((cmpV ((x:Nat)) ((y:Nat)):Int)<(0:Int)))::u::u::v41::v42::v43::v44::v45::v46::v47::v48::v49::v50::v51::.bool (true)::v53::v54::v55::v56::v57::.bool (true)::v59::v60::v61::v62::v63::v64::v65::v66::v67::v68::v69::v70::v71::v72::v73::v74::v75::v76::v77::v78::.bool (decide ((((j:Nat):Int)-1:Int)>=(0:Int)))::(tt21 80)::(tt21 81)::v82::v83::v84::v85::v86::v87::v88::v89::v90::v91::v92::v93::v94::v95::v96::v97::v98::v99::v100::v101::v102::v103::v104::v105::v106::v107::v108::v109::v110::v111::Ut (dq fu (y*2^s) (j-1) (nw (y*2^s)))::.pointer (some ⟨rq,(j-1),none⟩)::(tt21 114)::(tt21 115)::(tt21 116)::(tt21 117)::(tt21 118)::(tt21 119)::(tt21 120)::(tt21 121)::(tt21 122)::(tt21 123)::(tt21 124)::(tt21 125)::(tt21 126)::(tt21 127)::(tt21 128)::(tt21 129)::(tt21 130)::(tt21 131)::(tt21 132)::(tt21 133)::(tt21 134)::(tt21 135)::(tt21 136)::(tt21 137)::(tt21 138)::(tt21 139)::(tt21 140)::(tt21 141)::[])++us 6) ?_
    change zO _ _ _ _ [_] ⟨_,[]⟩ _
    refine zN rfl ?_
    refine jL (i:=(j-1)) (v:=dq fu (y*2^s) (j-1) (nw (y*2^s))) rfl rfl rfl Rq zo λw24 P24 R'=>⟨λ_=>Kept.put KK P24 (λ_ hk=>(by cases hk)),?_⟩
    replace KK:=Kept.put KK P24 (λ_ hk=>(by cases hk))
    have M24:Mod rq w23 w24:=P24.toMod
    have W24:Grow w w24:=W23.mod M24 g_rq
    replace B2:=B2.mod M24 (.inr rfl) n_b2_rq
    replace B3:=B3.mod M24 (.inr rfl) n_b3_rq
    replace B4:=B4.mod M24 (.inr rfl) n_b4_rq
    replace B5:=B5.mod M24 (.inr rfl) n_b5_rq
    replace B11:=B11.mod M24 (.inr rfl) n_b11_rq
    replace B13:=B13.mod M24 (.inr rfl) n_b13_rq
    replace Ru:=Ru.mod M24 n_ru_rq
    replace Rq:=R';clear R'
    refine nx ?_
    refine wp_seq ?_
    refine rg (λc d v a w h=>NL c d v a w h) [(114,.eq (.slice (some ⟨ru,0,none⟩) (nw x+1) (cu))),(115,.eq (.int .i64 (((j:Nat):Int)-1))),(116,.eq (.int .i64 (((j:Nat):Int)-1))),(117,.eq (.int .i64 (((nw (y*2^s):Nat):Int)))),(118,.eq (.int .i64 ((((j:Nat):Int)-1)+(((nw (y*2^s):Nat):Int))))),(119,.eq (.int .i64 (((((j:Nat):Int)-1)+(((nw (y*2^s):Nat):Int)))+1))),(120,.eq (.slice (some ⟨ru,(j-1),none⟩) (nw (y*2^s)+1) (cu-(j-1)))),(121,.natF (λk=>k=ru∨k=rq) (y*2^s)),(122,.eq (.slice (some ⟨rq,0,none⟩) (nw x-nw (y*2^s)+1) (cq))),(123,.eq (.int .i64 (((j:Nat):Int)-1))),(124,.eq (.pointer (some ⟨rq,(j-1),none⟩))),(125,.eq (.int .u64 (((dq fu (y*2^s) (j-1) (nw (y*2^s)):Nat):Int))))] [] [] [] 148 12 ?_ ?_
    ·refine so [] (λw25 hw25=>.fin (zG rfl ⟨Grow.refl _,rfl⟩)) ?_
     refine so [] (λw25 hw25=>.fin (zG rfl ⟨Grow.refl _,rfl⟩)) ?_
     refine so [] (λw25 hw25=>.fin (zG rfl ⟨Grow.refl _,rfl⟩)) ?_
     refine so [] (λw25 hw25=>.fin (zG rfl ⟨Grow.refl _,rfl⟩)) ?_
     refine so [2,3] (λw25 hw25=>by rintro _ rfl _ rfl;exact .fin (kV rfl rfl rfl (r:=(((j:Nat):Int)-1)+(((nw (y*2^s):Nat):Int))) (by rw[IntKind.wrap_i64];omega) ⟨Grow.refl _,rfl⟩)) ?_
     refine so [4] (λw25 hw25=>by rintro _ rfl;exact .fin (kV rfl rfl rfl (r:=((((j:Nat):Int)-1)+(((nw (y*2^s):Nat):Int)))+1) (by rw[IntKind.wrap_i64];omega) ⟨Grow.refl _,rfl⟩)) ?_
     refine so [0,1,5] (λw25 hw25=>by rintro _ rfl _ rfl _ rfl;exact .fin (yld_sliceE (l:=j-1) (r:=j-1+nw (y*2^s)+1) (j:=(j-1)) (m:=nw (y*2^s)+1) rfl rfl rfl rfl zo zo zo zo zo zo)) ?_
     refine so [] (λw25 hw25=>.fin (zS rfl rfl yB (B11.grow hw25) (jN))) ?_
     refine so [] (λw25 hw25=>.fin (zG rfl ⟨Grow.refl _,rfl⟩)) ?_
     refine so [] (λw25 hw25=>.fin (zG rfl ⟨Grow.refl _,rfl⟩)) ?_
     refine so [8,9] (λw25 hw25=>by rintro _ rfl _ rfl;exact .fin (yL (k:=j-1) rfl rfl rfl zo zo (j:=(j-1)) zo)) ?_
     exact so [10] (λw25 hw25=>by rintro _ rfl;exact .fin (yld_as (R:=.eq (.int .u64 ((((upd (fq) ((j-1)) (dq fu (y*2^s) (j-1) (nw (y*2^s)))) ((j-1)):Nat):Int)))) (R2:=.eq (.int .u64 (((dq fu (y*2^s) (j-1) (nw (y*2^s)):Nat):Int)))) (kJ rfl rfl (Rq.below hw25) zo) (λh=>h.trans (by rw[upd_same])))) (.nil _ _)
    rintro w25 hw25 v114-v115-v116-v117-v118-v119-_ rfl v121 h121 v122-v123-v124-_ rfl-
    have W25:Grow w w25:=W24.trans hw25
    replace B2:=B2.grow hw25
    replace B3:=B3.grow hw25
    replace B4:=B4.grow hw25
    replace B5:=B5.grow hw25
    replace B11:=B11.grow hw25
    replace B13:=B13.grow hw25
    replace Ru:=Ru.below hw25
    replace Rq:=Rq.below hw25
    have KK:Kept [] w25 w25:=λ_ _=>rfl
    refine fr ((va::vb::pt b2::pt b3::pt b4::pt b5::.bool (false)::u::u::u::It s::pt b11::.bool (true)::pt b13::.bool (true)::.slice (some ⟨ru,0,none⟩) (nw x+1) (cu)::It (nw (y*2^s))::.slice (some ⟨rq,0,none⟩) (nw x-nw (y*2^s)+1) (cq)::.int .i64 (((j:Nat):Int)-1)::v19::v20::.bool (decide ((((nw y:Nat):Int):Int)<=(1:Int)))::u::u::u::u::u::u::u::u::u::u::u::u::u::v35::v36::v37::.bool (decide ((cmpV ((x:Nat)) ((y:Nat)):Int)<(0:Int)))::u::u::v41::v42::v43::v44::v45::v46::v47::v48::v49::v50::v51::.bool (true)::v53::v54::v55::v56::v57::.bool (true)::v59::v60::v61::v62::v63::v64::v65::v66::v67::v68::v69::v70::v71::v72::v73::v74::v75::v76::v77::v78::.bool (decide ((((j:Nat):Int)-1:Int)>=(0:Int)))::(tt21 80)::(tt21 81)::v82::v83::v84::v85::v86::v87::v88::v89::v90::v91::v92::v93::v94::v95::v96::v97::v98::v99::v100::v101::v102::v103::v104::v105::v106::v107::v108::v109::v110::v111::Ut (dq fu (y*2^s) (j-1) (nw (y*2^s)))::.pointer (some ⟨rq,(j-1),none⟩)::v114::v115::v116::v117::v118::v119::.slice (some ⟨ru,(j-1),none⟩) (nw (y*2^s)+1) (cu-(j-1))::v121::v122::v123::v124::Ut (dq fu (y*2^s) (j-1) (nw (y*2^s)))::(tt21 126)::(tt21 127)::(tt21 128)::(tt21 129)::(tt21 130)::(tt21 131)::(tt21 132)::(tt21 133)::(tt21 134)::(tt21 135)::(tt21 136)::(tt21 137)::(tt21 138)::(tt21 139)::(tt21 140)::(tt21 141)::[])++us 6) ?_
    change zO _ _ _ _ [_] ⟨_,[]⟩ _
    refine zN rfl ?_
    refine zV rfl cal_quot_take rfl ((cTake (N:=nw x+1) Ru (NatAt.sub h121 λk hk=>.inl hk) (dq_lt _ _ _ _) hkN hcu zo hD.1).mono ?_)
    rintro _ w26 ⟨_,fT,rfl,M26,R',bT,rfl,hT9⟩
    refine⟨_,rfl,λh=>absurd rfl h,?_⟩
    have W26:Grow w w26:=W25.mod M26 g_ru
    replace B2:=B2.mod M26 (.inl rfl) n_b2_ru
    replace B3:=B3.mod M26 (.inl rfl) n_b3_ru
    replace B4:=B4.mod M26 (.inl rfl) n_b4_ru
    replace B5:=B5.mod M26 (.inl rfl) n_b5_ru
    replace B11:=B11.mod M26 (.inl rfl) n_b11_ru
    replace B13:=B13.mod M26 (.inl rfl) n_b13_ru
    replace Rq:=Rq.mod M26 (Ne.symm n_ru_rq)
    replace Ru:=R';clear R'
    refine yG ?_
    change Code.wp _ _ _ ⟨List.toArray (List.set _ 126 _),[]⟩ _
    refine wp_cond_split (t:=decide (bT=1)) rfl (λhb=>?_) (λhb=>?_)
    ·have hb1:bT=1:=of_decide_eq_true hb
     have hT1:=hT9
     rw[hb1] at hT1
     have hneg:=d_neg rfl h2V hkN hD1 hT1
     refine wp_seq ?_
     refine rg (λc d v a w h=>NL c d v a w h) [(127,.eq (.slice (some ⟨rq,0,none⟩) (nw x-nw (y*2^s)+1) (cq))),(128,.eq (.int .i64 (((j:Nat):Int)-1))),(129,.eq (.pointer (some ⟨rq,(j-1),none⟩))),(130,.eq (.int .u64 (((dq fu (y*2^s) (j-1) (nw (y*2^s)):Nat):Int)))),(131,.eq (.int .u64 (((dq fu (y*2^s) (j-1) (nw (y*2^s))-1:Nat):Int)))),(132,.eq (.pointer (some ⟨rq,(j-1),none⟩)))] [] [] [] 148 6 ?_ ?_
     ·refine so [] (λw27 hw27=>.fin (zG rfl ⟨Grow.refl _,rfl⟩)) ?_
      refine so [] (λw27 hw27=>.fin (zG rfl ⟨Grow.refl _,rfl⟩)) ?_
      refine so [0,1] (λw27 hw27=>by rintro _ rfl _ rfl;exact .fin (yL (k:=j-1) rfl rfl rfl zo zo (j:=(j-1)) zo)) ?_
      refine so [2] (λw27 hw27=>by rintro _ rfl;exact .fin (yld_as (R:=.eq (.int .u64 ((((upd (fq) ((j-1)) (dq fu (y*2^s) (j-1) (nw (y*2^s)))) ((j-1)):Nat):Int)))) (R2:=.eq (.int .u64 (((dq fu (y*2^s) (j-1) (nw (y*2^s)):Nat):Int)))) (kJ rfl rfl (Rq.below hw27) zo) (λh=>h.trans (by rw[upd_same])))) ?_
      refine so [3] (λw27 hw27=>by rintro _ rfl;exact .fin (jR rfl rfl rfl (r:=((dq fu (y*2^s) (j-1) (nw (y*2^s))-1:Nat):Int)) (u64_pred (dq_lt _ _ _ _) hneg.2) ⟨Grow.refl _,rfl⟩)) ?_
      exact so [0,1] (λw27 hw27=>by rintro _ rfl _ rfl;exact .fin (yL (k:=j-1) rfl rfl rfl zo zo (j:=(j-1)) zo)) (.nil _ _)
     rintro w27 hw27 v127-v128-v129-v130-_ rfl _ rfl-
     have W27:Grow w w27:=W26.trans hw27
     replace B2:=B2.grow hw27
     replace B3:=B3.grow hw27
     replace B4:=B4.grow hw27
     replace B5:=B5.grow hw27
     replace B11:=B11.grow hw27
     replace B13:=B13.grow hw27
     replace Ru:=Ru.below hw27
     replace Rq:=Rq.below hw27
     have KK:Kept [] w27 w27:=λ_ _=>rfl
     refine fr ((va::vb::pt b2::pt b3::pt b4::pt b5::.bool (false)::u::u::u::It s::pt b11::.bool (true)::pt b13::.bool (true)::.slice (some ⟨ru,0,none⟩) (nw x+1) (cu)::It (nw (y*2^s))::.slice (some ⟨rq,0,none⟩) (nw x-nw (y*2^s)+1) (cq)::.int .i64 (((j:Nat):Int)-1)::v19::v20::.bool (decide ((((nw y:Nat):Int):Int)<=(1:Int)))::u::u::u::u::u::u::u::u::u::u::u::u::u::v35::v36::v37::.bool (decide ((cmpV ((x:Nat)) ((y:Nat)):Int)<(0:Int)))::u::u::v41::v42::v43::v44::v45::v46::v47::v48::v49::v50::v51::.bool (true)::v53::v54::v55::v56::v57::.bool (true)::v59::v60::v61::v62::v63::v64::v65::v66::v67::v68::v69::v70::v71::v72::v73::v74::v75::v76::v77::v78::.bool (decide ((((j:Nat):Int)-1:Int)>=(0:Int)))::(tt21 80)::(tt21 81)::v82::v83::v84::v85::v86::v87::v88::v89::v90::v91::v92::v93::v94::v95::v96::v97::v98::v99::v100::v101::v102::v103::v104::v105::v106::v107::v108::v109::v110::v111::Ut (dq fu (y*2^s) (j-1) (nw (y*2^s)))::.pointer (some ⟨rq,(j-1),none⟩)::v114::v115::v116::v117::v118::v119::.slice (some ⟨ru,(j-1),none⟩) (nw (y*2^s)+1) (cu-(j-1))::v121::v122::v123::v124::Ut (dq fu (y*2^s) (j-1) (nw (y*2^s)))::.bool (decide (bT=1))::v127::v128::v129::v130::Ut (dq fu (y*2^s) (j-1) (nw (y*2^s))-1)::.pointer (some ⟨rq,(j-1),none⟩)::(tt21 133)::(tt21 134)::(tt21 135)::(tt21 136)::(tt21 137)::(tt21 138)::(tt21 139)::(tt21 140)::(tt21 141)::[])++us 6) ?_
     change zO _ _ _ _ [_] ⟨_,[]⟩ _
     refine zN rfl ?_
     refine jL (i:=(j-1)) (v:=dq fu (y*2^s) (j-1) (nw (y*2^s))-1) rfl rfl rfl Rq zo λw28 P28 R'=>⟨λ_=>Kept.put KK P28 (λ_ hk=>(by cases hk)),?_⟩
     replace KK:=Kept.put KK P28 (λ_ hk=>(by cases hk))
     have M28:Mod rq w27 w28:=P28.toMod
     have W28:Grow w w28:=W27.mod M28 g_rq
     replace B2:=B2.mod M28 (.inr rfl) n_b2_rq
     replace B3:=B3.mod M28 (.inr rfl) n_b3_rq
     replace B4:=B4.mod M28 (.inr rfl) n_b4_rq
     replace B5:=B5.mod M28 (.inr rfl) n_b5_rq
     replace B11:=B11.mod M28 (.inr rfl) n_b11_rq
     replace B13:=B13.mod M28 (.inr rfl) n_b13_rq
     replace Ru:=Ru.mod M28 n_ru_rq
     replace Rq:=R';clear R'
     refine nx ?_
     refine rg (λc d v a w h=>NL c d v a w h) [(133,.eq (.slice (some ⟨ru,0,none⟩) (nw x+1) (cu))),(134,.eq (.int .i64 (((j:Nat):Int)-1))),(135,.eq (.int .i64 (((j:Nat):Int)-1))),(136,.eq (.int .i64 (((nw (y*2^s):Nat):Int)))),(137,.eq (.int .i64 ((((j:Nat):Int)-1)+(((nw (y*2^s):Nat):Int))))),(138,.eq (.int .i64 (((((j:Nat):Int)-1)+(((nw (y*2^s):Nat):Int)))+1))),(139,.eq (.slice (some ⟨ru,(j-1),none⟩) (nw (y*2^s)+1) (cu-(j-1)))),(140,.natF (λk=>k=ru∨k=rq) (y*2^s))] [] [] [] 148 8 ?_ ?_
     ·refine so [] (λw29 hw29=>.fin (zG rfl ⟨Grow.refl _,rfl⟩)) ?_
      refine so [] (λw29 hw29=>.fin (zG rfl ⟨Grow.refl _,rfl⟩)) ?_
      refine so [] (λw29 hw29=>.fin (zG rfl ⟨Grow.refl _,rfl⟩)) ?_
      refine so [] (λw29 hw29=>.fin (zG rfl ⟨Grow.refl _,rfl⟩)) ?_
      refine so [2,3] (λw29 hw29=>by rintro _ rfl _ rfl;exact .fin (kV rfl rfl rfl (r:=(((j:Nat):Int)-1)+(((nw (y*2^s):Nat):Int))) (by rw[IntKind.wrap_i64];omega) ⟨Grow.refl _,rfl⟩)) ?_
      refine so [4] (λw29 hw29=>by rintro _ rfl;exact .fin (kV rfl rfl rfl (r:=((((j:Nat):Int)-1)+(((nw (y*2^s):Nat):Int)))+1) (by rw[IntKind.wrap_i64];omega) ⟨Grow.refl _,rfl⟩)) ?_
      refine so [0,1,5] (λw29 hw29=>by rintro _ rfl _ rfl _ rfl;exact .fin (yld_sliceE (l:=j-1) (r:=j-1+nw (y*2^s)+1) (j:=(j-1)) (m:=nw (y*2^s)+1) rfl rfl rfl rfl zo zo zo zo zo zo)) ?_
      exact so [] (λw29 hw29=>.fin (zS rfl rfl yB (B11.grow hw29) (jN))) (.nil _ _)
     rintro w29 hw29 v133-v134-v135-v136-v137-v138-_ rfl v140 h140-
     have W29:Grow w w29:=W28.trans hw29
     replace B2:=B2.grow hw29
     replace B3:=B3.grow hw29
     replace B4:=B4.grow hw29
     replace B5:=B5.grow hw29
     replace B11:=B11.grow hw29
     replace B13:=B13.grow hw29
     replace Ru:=Ru.below hw29
     replace Rq:=Rq.below hw29
     have KK:Kept [] w29 w29:=λ_ _=>rfl
     refine fr ((va::vb::pt b2::pt b3::pt b4::pt b5::.bool (false)::u::u::u::It s::pt b11::.bool (true)::pt b13::.bool (true)::.slice (some ⟨ru,0,none⟩) (nw x+1) (cu)::It (nw (y*2^s))::.slice (some ⟨rq,0,none⟩) (nw x-nw (y*2^s)+1) (cq)::.int .i64 (((j:Nat):Int)-1)::v19::v20::.bool (decide ((((nw y:Nat):Int):Int)<=(1:Int)))::u::u::u::u::u::u::u::u::u::u::u::u::u::v35::v36::v37::.bool (decide ((cmpV ((x:Nat)) ((y:Nat)):Int)<(0:Int)))::u::u::v41::v42::v43::v44::v45::v46::v47::v48::v49::v50::v51::.bool (true)::v53::v54::v55::v56::v57::.bool (true)::v59::v60::v61::v62::v63::v64::v65::v66::v67::v68::v69::v70::v71::v72::v73::v74::v75::v76::v77::v78::.bool (decide ((((j:Nat):Int)-1:Int)>=(0:Int)))::(tt21 80)::(tt21 81)::v82::v83::v84::v85::v86::v87::v88::v89::v90::v91::v92::v93::v94::v95::v96::v97::v98::v99::v100::v101::v102::v103::v104::v105::v106::v107::v108::v109::v110::v111::Ut (dq fu (y*2^s) (j-1) (nw (y*2^s)))::.pointer (some ⟨rq,(j-1),none⟩)::v114::v115::v116::v117::v118::v119::.slice (some ⟨ru,(j-1),none⟩) (nw (y*2^s)+1) (cu-(j-1))::v121::v122::v123::v124::Ut (dq fu (y*2^s) (j-1) (nw (y*2^s)))::.bool (decide (bT=1))::v127::v128::v129::v130::Ut (dq fu (y*2^s) (j-1) (nw (y*2^s))-1)::.pointer (some ⟨rq,(j-1),none⟩)::v133::v134::v135::v136::v137::v138::.slice (some ⟨ru,(j-1),none⟩) (nw (y*2^s)+1) (cu-(j-1))::v140::(tt21 141)::[])++us 6) ?_
     change zO _ _ _ _ [_] ⟨_,[]⟩ _
     refine zN rfl ?_
     refine zV rfl cal_quot_back rfl ((cBack (N:=nw x+1) Ru (NatAt.sub h140 λk hk=>.inl hk) hkN hcu zo hT9.1).mono ?_)
     rintro _ w30 ⟨vB,fB,rfl,M30,R',cB,hBk⟩
     refine⟨_,rfl,λh=>absurd rfl h,?_⟩
     have W30:Grow w w30:=W29.mod M30 g_ru
     replace B2:=B2.mod M30 (.inl rfl) n_b2_ru
     replace B3:=B3.mod M30 (.inl rfl) n_b3_ru
     replace B4:=B4.mod M30 (.inl rfl) n_b4_ru
     replace B5:=B5.mod M30 (.inl rfl) n_b5_ru
     replace B11:=B11.mod M30 (.inl rfl) n_b11_ru
     replace B13:=B13.mod M30 (.inl rfl) n_b13_ru
     replace Rq:=Rq.mod M30 (Ne.symm n_ru_rq)
     replace Ru:=R';clear R'
     refine yG ?_
     change Code.wp _ _ _ ⟨List.toArray (List.set _ 141 _),[]⟩ _
     refine rg (λc d v a w h=>NL c d v a w h) [(80,.eq (.int .i64 (((j:Nat):Int)-1))),(81,.eq (.int .i64 (((j-1:Nat):Int)-1)))] [] [] [] 148 2 ?_ ?_
     ·refine so [] (λw31 hw31=>.fin (zG rfl ⟨Grow.refl _,rfl⟩)) ?_
      exact so [0] (λw31 hw31=>by rintro _ rfl;exact .fin (jR rfl rfl rfl (r:=((j-1:Nat):Int)-1) (by rw[IntKind.wrap_i64];omega) ⟨Grow.refl _,rfl⟩)) (.nil _ _)
     rintro w31 hw31 v80-_ rfl-
     have W31:Grow w w31:=W30.trans hw31
     replace B2:=B2.grow hw31
     replace B3:=B3.grow hw31
     replace B4:=B4.grow hw31
     replace B5:=B5.grow hw31
     replace B11:=B11.grow hw31
     replace B13:=B13.grow hw31
     replace Ru:=Ru.below hw31
     replace Rq:=Rq.below hw31
     have KK:Kept [] w31 w31:=λ_ _=>rfl
     refine fr ((va::vb::pt b2::pt b3::pt b4::pt b5::.bool (false)::u::u::u::It s::pt b11::.bool (true)::pt b13::.bool (true)::.slice (some ⟨ru,0,none⟩) (nw x+1) (cu)::It (nw (y*2^s))::.slice (some ⟨rq,0,none⟩) (nw x-nw (y*2^s)+1) (cq)::.int .i64 (((j:Nat):Int)-1)::v19::v20::.bool (decide ((((nw y:Nat):Int):Int)<=(1:Int)))::u::u::u::u::u::u::u::u::u::u::u::u::u::v35::v36::v37::.bool (decide ((cmpV ((x:Nat)) ((y:Nat)):Int)<(0:Int)))::u::u::v41::v42::v43::v44::v45::v46::v47::v48::v49::v50::v51::.bool (true)::v53::v54::v55::v56::v57::.bool (true)::v59::v60::v61::v62::v63::v64::v65::v66::v67::v68::v69::v70::v71::v72::v73::v74::v75::v76::v77::v78::.bool (decide ((((j:Nat):Int)-1:Int)>=(0:Int)))::v80::.int .i64 (((j-1:Nat):Int)-1)::v82::v83::v84::v85::v86::v87::v88::v89::v90::v91::v92::v93::v94::v95::v96::v97::v98::v99::v100::v101::v102::v103::v104::v105::v106::v107::v108::v109::v110::v111::Ut (dq fu (y*2^s) (j-1) (nw (y*2^s)))::.pointer (some ⟨rq,(j-1),none⟩)::v114::v115::v116::v117::v118::v119::.slice (some ⟨ru,(j-1),none⟩) (nw (y*2^s)+1) (cu-(j-1))::v121::v122::v123::v124::Ut (dq fu (y*2^s) (j-1) (nw (y*2^s)))::.bool (decide (bT=1))::v127::v128::v129::v130::Ut (dq fu (y*2^s) (j-1) (nw (y*2^s))-1)::.pointer (some ⟨rq,(j-1),none⟩)::v133::v134::v135::v136::v137::v138::.slice (some ⟨ru,(j-1),none⟩) (nw (y*2^s)+1) (cu-(j-1))::v140::vB::[])++us 6) ?_
     change zO _ _ _ _ [_] ⟨_,[]⟩ _
     refine zN rfl ?_
     refine zU rfl ⟨λ_=>KK,?_⟩
     refine yG ?_
     refine⟨_,?_,j-1,fB,upd (upd (fq) ((j-1)) (dq fu (y*2^s) (j-1) (nw (y*2^s)))) ((j-1)) (dq fu (y*2^s) (j-1) (nw (y*2^s))-1),rfl,by first | exact⟨by omega,d_back rfl h2V hkN hD1 hT1 hBk hkQ⟩ | exact⟨by omega,d_fit rfl h2V hkN hD1 hT9 hb0 hkQ⟩,λd=>((.int .i64 (((j-1:Nat):Int)-1)::v19::v20::.bool (decide ((((nw y:Nat):Int):Int)<=(1:Int)))::u::u::u::u::u::u::u::u::u::u::u::u::u::v35::v36::v37::.bool (decide ((cmpV ((x:Nat)) ((y:Nat)):Int)<(0:Int)))::u::u::v41::v42::v43::v44::v45::v46::v47::v48::v49::v50::v51::.bool (true)::v53::v54::v55::v56::v57::.bool (true)::v59::v60::v61::v62::v63::v64::v65::v66::v67::v68::v69::v70::v71::v72::v73::v74::v75::v76::v77::v78::.bool (decide ((((j:Nat):Int)-1:Int)>=(0:Int)))::v80::.int .i64 (((j-1:Nat):Int)-1)::v82::v83::v84::v85::v86::v87::v88::v89::v90::v91::v92::v93::v94::v95::v96::v97::v98::v99::v100::v101::v102::v103::v104::v105::v106::v107::v108::v109::v110::v111::Ut (dq fu (y*2^s) (j-1) (nw (y*2^s)))::.pointer (some ⟨rq,(j-1),none⟩)::v114::v115::v116::v117::v118::v119::.slice (some ⟨ru,(j-1),none⟩) (nw (y*2^s)+1) (cu-(j-1))::v121::v122::v123::v124::Ut (dq fu (y*2^s) (j-1) (nw (y*2^s)))::.bool (decide (bT=1))::v127::v128::v129::v130::Ut (dq fu (y*2^s) (j-1) (nw (y*2^s))-1)::.pointer (some ⟨rq,(j-1),none⟩)::v133::v134::v135::v136::v137::v138::.slice (some ⟨ru,(j-1),none⟩) (nw (y*2^s)+1) (cu-(j-1))::v140::vB::[]):List Value).getD (d-18) undef,by kernel_rfl,W31,B2,B3,B4,B5,B11,B13,Ru,Rq⟩
     rw[hnn21];omega
    ·have hb0:bT≠1:=of_decide_eq_false hb
     refine wp_skip ?_
     change Code.wp _ _ _ ⟨_,[]⟩ _
     refine rg (λc d v a w h=>NL c d v a w h) [(80,.eq (.int .i64 (((j:Nat):Int)-1))),(81,.eq (.int .i64 (((j-1:Nat):Int)-1)))] [] [] [] 148 2 ?_ ?_
     ·refine so [] (λw32 hw32=>.fin (zG rfl ⟨Grow.refl _,rfl⟩)) ?_
      exact so [0] (λw32 hw32=>by rintro _ rfl;exact .fin (jR rfl rfl rfl (r:=((j-1:Nat):Int)-1) (by rw[IntKind.wrap_i64];omega) ⟨Grow.refl _,rfl⟩)) (.nil _ _)
     rintro w32 hw32 v80-_ rfl-
     have W32:Grow w w32:=W26.trans hw32
     replace B2:=B2.grow hw32
     replace B3:=B3.grow hw32
     replace B4:=B4.grow hw32
     replace B5:=B5.grow hw32
     replace B11:=B11.grow hw32
     replace B13:=B13.grow hw32
     replace Ru:=Ru.below hw32
     replace Rq:=Rq.below hw32
     have KK:Kept [] w32 w32:=λ_ _=>rfl
     refine fr ((va::vb::pt b2::pt b3::pt b4::pt b5::.bool (false)::u::u::u::It s::pt b11::.bool (true)::pt b13::.bool (true)::.slice (some ⟨ru,0,none⟩) (nw x+1) (cu)::It (nw (y*2^s))::.slice (some ⟨rq,0,none⟩) (nw x-nw (y*2^s)+1) (cq)::.int .i64 (((j:Nat):Int)-1)::v19::v20::.bool (decide ((((nw y:Nat):Int):Int)<=(1:Int)))::u::u::u::u::u::u::u::u::u::u::u::u::u::v35::v36::v37::.bool (decide ((cmpV ((x:Nat)) ((y:Nat)):Int)<(0:Int)))::u::u::v41::v42::v43::v44::v45::v46::v47::v48::v49::v50::v51::.bool (true)::v53::v54::v55::v56::v57::.bool (true)::v59::v60::v61::v62::v63::v64::v65::v66::v67::v68::v69::v70::v71::v72::v73::v74::v75::v76::v77::v78::.bool (decide ((((j:Nat):Int)-1:Int)>=(0:Int)))::v80::.int .i64 (((j-1:Nat):Int)-1)::v82::v83::v84::v85::v86::v87::v88::v89::v90::v91::v92::v93::v94::v95::v96::v97::v98::v99::v100::v101::v102::v103::v104::v105::v106::v107::v108::v109::v110::v111::Ut (dq fu (y*2^s) (j-1) (nw (y*2^s)))::.pointer (some ⟨rq,(j-1),none⟩)::v114::v115::v116::v117::v118::v119::.slice (some ⟨ru,(j-1),none⟩) (nw (y*2^s)+1) (cu-(j-1))::v121::v122::v123::v124::Ut (dq fu (y*2^s) (j-1) (nw (y*2^s)))::.bool (decide (bT=1))::(tt21 127)::(tt21 128)::(tt21 129)::(tt21 130)::(tt21 131)::(tt21 132)::(tt21 133)::(tt21 134)::(tt21 135)::(tt21 136)::(tt21 137)::(tt21 138)::(tt21 139)::(tt21 140)::(tt21 141)::[])++us 6) ?_
     change zO _ _ _ _ [_] ⟨_,[]⟩ _
     refine zN rfl ?_
     refine zU rfl ⟨λ_=>KK,?_⟩
     refine yG ?_
     refine⟨_,?_,j-1,fT,upd (fq) ((j-1)) (dq fu (y*2^s) (j-1) (nw (y*2^s))),rfl,by first | exact⟨by omega,d_back rfl h2V hkN hD1 hT1 hBk hkQ⟩ | exact⟨by omega,d_fit rfl h2V hkN hD1 hT9 hb0 hkQ⟩,λd=>((.int .i64 (((j-1:Nat):Int)-1)::v19::v20::.bool (decide ((((nw y:Nat):Int):Int)<=(1:Int)))::u::u::u::u::u::u::u::u::u::u::u::u::u::v35::v36::v37::.bool (decide ((cmpV ((x:Nat)) ((y:Nat)):Int)<(0:Int)))::u::u::v41::v42::v43::v44::v45::v46::v47::v48::v49::v50::v51::.bool (true)::v53::v54::v55::v56::v57::.bool (true)::v59::v60::v61::v62::v63::v64::v65::v66::v67::v68::v69::v70::v71::v72::v73::v74::v75::v76::v77::v78::.bool (decide ((((j:Nat):Int)-1:Int)>=(0:Int)))::v80::.int .i64 (((j-1:Nat):Int)-1)::v82::v83::v84::v85::v86::v87::v88::v89::v90::v91::v92::v93::v94::v95::v96::v97::v98::v99::v100::v101::v102::v103::v104::v105::v106::v107::v108::v109::v110::v111::Ut (dq fu (y*2^s) (j-1) (nw (y*2^s)))::.pointer (some ⟨rq,(j-1),none⟩)::v114::v115::v116::v117::v118::v119::.slice (some ⟨ru,(j-1),none⟩) (nw (y*2^s)+1) (cu-(j-1))::v121::v122::v123::v124::Ut (dq fu (y*2^s) (j-1) (nw (y*2^s)))::.bool (decide (bT=1))::(tt21 127)::(tt21 128)::(tt21 129)::(tt21 130)::(tt21 131)::(tt21 132)::(tt21 133)::(tt21 134)::(tt21 135)::(tt21 136)::(tt21 137)::(tt21 138)::(tt21 139)::(tt21 140)::(tt21 141)::[]):List Value).getD (d-18) undef,by kernel_rfl,W32,B2,B3,B4,B5,B11,B13,Ru,Rq⟩
     rw[hnn21];omega
   ·have hj0:j=0:=by have:=of_decide_eq_false hge;omega
    rw[hj0] at hD
    refine wp_exit ?_
    change Code.wp _ _ _ ⟨_,[]⟩ _
    refine wp_seq ?_
    refine rg (λc d v a w h=>NL c d v a w h) [(142,.eq (.slice (some ⟨rq,0,none⟩) (nw x-nw (y*2^s)+1) (cq))),(143,.nat (val fq (nw x-nw (y*2^s)+1))),(144,.eq (.slice (some ⟨ru,0,none⟩) (nw x+1) (cu))),(145,.nat (val fu (nw x+1))),(146,.eq (.int .i64 (((s:Nat):Int)))),(147,.nat ((val fu (nw x+1))/2^s))] [] [] [] 148 6 ?_ ?_
    ·refine so [] (λw33 hw33=>.fin (zG rfl ⟨Grow.refl _,rfl⟩)) ?_
     refine so [0] (λw33 hw33=>by rintro _ rfl;exact .fin (zV rfl cal_nat_Of rfl (cNatOfU (uns_row (Rq.below hw33) hcq hcmq) hD.2.1 zo))) ?_
     refine so [] (λw33 hw33=>.fin (zG rfl ⟨Grow.refl _,rfl⟩)) ?_
     refine so [2] (λw33 hw33=>by rintro _ rfl;exact .fin (zV rfl cal_nat_Of rfl (cNatOfU (uns_row (Ru.below hw33) hcu hcmu) hD.1 zo))) ?_
     refine so [] (λw33 hw33=>.fin (zG rfl ⟨Grow.refl _,rfl⟩)) ?_
     exact so [3,4] (λw33 hw33=>by rintro v145 h145 _ rfl;exact .fin (zV rfl cal_nat_Nat_Shr rfl (cShr (k:=s) h145 hs64))) (.nil _ _)
    rintro w33 hw33 v142-v143 h143 v144-v145-v146-v147 h147-
    have W33:Grow w w33:=W22.trans hw33
    replace B4:=B4.grow hw33
    replace B5:=B5.grow hw33
    replace Ru:=Ru.below hw33
    replace Rq:=Rq.below hw33
    have KK:Kept [] w33 w33:=λ_ _=>rfl
    refine fr (va::vb::pt b2::pt b3::pt b4::pt b5::.bool (false)::u::u::u::It s::pt b11::.bool (true)::pt b13::.bool (true)::.slice (some ⟨ru,0,none⟩) (nw x+1) (cu)::It (nw (y*2^s))::.slice (some ⟨rq,0,none⟩) (nw x-nw (y*2^s)+1) (cq)::.int .i64 (((j:Nat):Int)-1)::v19::v20::.bool (decide ((((nw y:Nat):Int):Int)<=(1:Int)))::u::u::u::u::u::u::u::u::u::u::u::u::u::v35::v36::v37::.bool (decide ((cmpV ((x:Nat)) ((y:Nat)):Int)<(0:Int)))::u::u::v41::v42::v43::v44::v45::v46::v47::v48::v49::v50::v51::.bool (true)::v53::v54::v55::v56::v57::.bool (true)::v59::v60::v61::v62::v63::v64::v65::v66::v67::v68::v69::v70::v71::v72::v73::v74::v75::v76::v77::v78::.bool (decide ((((j:Nat):Int)-1:Int)>=(0:Int)))::(tt21 80)::(tt21 81)::(tt21 82)::(tt21 83)::(tt21 84)::(tt21 85)::(tt21 86)::(tt21 87)::(tt21 88)::(tt21 89)::(tt21 90)::(tt21 91)::(tt21 92)::(tt21 93)::(tt21 94)::(tt21 95)::(tt21 96)::(tt21 97)::(tt21 98)::(tt21 99)::(tt21 100)::(tt21 101)::(tt21 102)::(tt21 103)::(tt21 104)::(tt21 105)::(tt21 106)::(tt21 107)::(tt21 108)::(tt21 109)::(tt21 110)::(tt21 111)::(tt21 112)::(tt21 113)::(tt21 114)::(tt21 115)::(tt21 116)::(tt21 117)::(tt21 118)::(tt21 119)::(tt21 120)::(tt21 121)::(tt21 122)::(tt21 123)::(tt21 124)::(tt21 125)::(tt21 126)::(tt21 127)::(tt21 128)::(tt21 129)::(tt21 130)::(tt21 131)::(tt21 132)::(tt21 133)::(tt21 134)::(tt21 135)::(tt21 136)::(tt21 137)::(tt21 138)::(tt21 139)::(tt21 140)::(tt21 141)::v142::v143::v144::v145::v146::v147::[]) ?_
    change zO _ _ _ _ [_,_,_] ⟨_,[]⟩ _
    refine zN rfl ?_
    refine yS (R':=.nat (val fq (nw x-nw (y*2^s)+1))) (b:=b4) rfl rfl yB.size B4 (jN) h143 (yN _) (St.nat _) (by decide) g_b4 λw34 P34 E34 B'=>⟨λ_=>Kept.put KK P34 (λ_ hk=>(by cases hk)),?_⟩
    replace KK:=Kept.put KK P34 (λ_ hk=>(by cases hk))
    have W34:Grow w w34:=W33.put P34 g_b4
    replace B5:=B5.put (St.natF) P34 E34 (Ne.symm n_b4_b5)
    replace B4:=B';clear B'
    replace h147:=MR.put h147 (St.nat _) E34
    change zO _ _ _ _ [_,_] ⟨_,[]⟩ _
    refine zN rfl ?_
    refine yS (R':=.nat ((val fu (nw x+1))/2^s)) (b:=b5) rfl rfl yB.size B5 (jN) h147 (yN _) (St.nat _) (by decide) g_b5 λw35 P35 E35 B'=>⟨λ_=>Kept.put KK P35 (λ_ hk=>(by cases hk)),?_⟩
    replace KK:=Kept.put KK P35 (λ_ hk=>(by cases hk))
    have W35:Grow w w35:=W34.put P35 g_b5
    replace B4:=B4.put (St.nat _) P35 E35 n_b4_b5
    replace B5:=B';clear B'
    change zO _ _ _ _ [_] ⟨_,[]⟩ _
    refine zN rfl ?_
    refine zU rfl ⟨λ_=>KK,?_⟩
    refine yG ?_
    change Code.wp _ _ _ ⟨List.toArray (List.set _ 6 _),[]⟩ _
    have BR:Box w35 b4 72 (.nat (x/y)):=(by have e:(val fq (nw x-nw (y*2^s)+1):Nat)=x/y:=(by first | (rw[ey];done) | exact(Nat.div_eq_of_lt hxy).symm | (rw[if_neg hy0,Nat.mod_eq_of_lt hxy];done) | exact(jK hD).1 | (rw[if_neg hy0];exact(jK hD).2) | (simp[hy0];done));rw[←e];exact B4)
    have BR2:Box w35 b5 72 (.nat (if y=0 then 0 else x%y)):=(by have e:((val fu (nw x+1))/2^s:Nat)=if y=0 then 0 else x%y:=(by first | (rw[ey];done) | exact(Nat.div_eq_of_lt hxy).symm | (rw[if_neg hy0,Nat.mod_eq_of_lt hxy];done) | exact(jK hD).1 | (rw[if_neg hy0];exact(jK hD).2) | (simp[hy0];done));rw[←e];exact B5)
    refine wp_ret ?_
    change bodyPost Tryz.prog Tryz.f148 (Ret (.tup3 (.nat (x/y)) (.nat (if y=0 then 0 else x%y)) (.eq (.bool (!decide (y=0))))) w) .ret _ _
    exact uH (b:=b4) (b':=b5) rfl rfl yB BR (yN _) rfl yB BR2 (yN _) (by show Value.bool _=Value.bool _;rw[show(true)=(!decide (y=0)) from(by first | (rw[ey];done) | exact(Nat.div_eq_of_lt hxy).symm | (rw[if_neg hy0,Nat.mod_eq_of_lt hxy];done) | exact(jK hD).1 | (rw[if_neg hy0];exact(jK hD).2) | (simp[hy0];done))]) rfl W35
open Go.RowKit
theorem sCut{x k:Nat}(h0:0<nw x)(hk:k<=1099511627776):CallOK Tryz.prog 125 [.nat x,iN k] (.cn (.nat (x%2^(64*k))) (.cn (.nat (x/2^(64*k))) .nl)) []:=by
 refine .of_ret (m:=.tup2 (.nat (x%2^(64*k))) (.nat (x/2^(64*k)))) (zL Tryz.func125 rfl zk) (λ_ _ _ v h=>by obtain⟨a,b,rfl,h1,h2⟩:=h;exact⟨a,[b],rfl,⟨h1,rfl⟩,b,[],rfl,⟨h2,rfl⟩,rfl⟩) λη F w vals h=>?_
 match vals,h with
 | [v0,v1],h=>
  obtain rfl:v1=.int .i64 (k:Int):=h.2.1
  exact cCut h.1.1 h0 hk
theorem sRaised{x k:Nat}(hs:nw x+k<=137438953472):CallOK Tryz.prog 128 [.nat x,iN k] (.nat (x*2^(64*k))) []:=by
 refine .of_ret (m:=.nat (x*2^(64*k))) (zL Tryz.func128 rfl zk) (λ_ _ _ v h=>⟨h,rfl⟩) λη F w vals h=>?_
 match vals,h with
 | [v0,v1],h=>
  obtain rfl:v1=.int .i64 (k:Int):=h.2.1
  exact cRaised h.1.1 hs
theorem sMulStep{x y:Nat}(hs:nw x+nw y<=LIM)(ih:∀{x' y':Nat},max (nw x') (nw y')<max (nw x) (nw y)->nw x'+nw y'<=LIM->CallOK Tryz.prog 104 [.nat x',.nat y'] (.nat (x'*y')) []):CallOK Tryz.prog 104 [.nat x,.nat y] (.nat (x*y)) []:=by
 have hl:nw x+nw y<=68719476736:=hs
 obtain⟨k,hk⟩:∃k,k=(max (nw x) (nw y)+1)/2:=⟨_,rfl⟩
 exact kP (ch:=[.reg 1 [(1,.callS (iN (nw x)) []),(3,.callS (iN (nw y)) [])],.reg 2 [(2,.callS (.nat (x*y)) [])],.reg 3 [(1,.callS (iN (nw x)) []),(3,.callS (iN (nw y)) []),(5,.z ((max (nw x) (nw y)+1:Nat):Int)),(6,.z (k:Int))],.reg 4 [(2,.callS (c2 (.nat (x%2^(64*k))) (.nat (x/2^(64*k)))) [])],.reg 5 [(2,.callS (c2 (.nat (y%2^(64*k))) (.nat (y/2^(64*k)))) [])],.reg 6 [(2,.callS (.nat ((x%2^(64*k))*(y%2^(64*k)))) []),(5,.callS (.nat ((x/2^(64*k))*(y/2^(64*k)))) [])],.reg 7 [(2,.callS (.nat ((x%2^(64*k))+(x/2^(64*k)))) []),(5,.callS (.nat ((y%2^(64*k))+(y/2^(64*k)))) []),(6,.callS (.nat (((x%2^(64*k))+(x/2^(64*k)))*((y%2^(64*k))+(y/2^(64*k))))) [])],.reg 8 [(3,.callS (.nat (((x%2^(64*k))*(y%2^(64*k)))+((x/2^(64*k))*(y/2^(64*k))))) []),(4,.callS (c2 (.nat ((((x%2^(64*k))+(x/2^(64*k)))*((y%2^(64*k))+(y/2^(64*k))))-(((x%2^(64*k))*(y%2^(64*k)))+((x/2^(64*k))*(y/2^(64*k)))))) (bX (decide ((((x%2^(64*k))*(y%2^(64*k)))+((x/2^(64*k))*(y/2^(64*k))))<=(((x%2^(64*k))+(x/2^(64*k)))*((y%2^(64*k))+(y/2^(64*k)))))))) [])],.reg 9 [(3,.callS (.nat (((((x%2^(64*k))+(x/2^(64*k)))*((y%2^(64*k))+(y/2^(64*k))))-(((x%2^(64*k))*(y%2^(64*k)))+((x/2^(64*k))*(y/2^(64*k)))))*2^(64*k))) []),(6,.z ((2*k:Nat):Int)),(7,.callS (.nat (((x/2^(64*k))*(y/2^(64*k)))*2^(64*(2*k)))) []),(8,.callS (.nat ((((((x%2^(64*k))+(x/2^(64*k)))*((y%2^(64*k))+(y/2^(64*k))))-(((x%2^(64*k))*(y%2^(64*k)))+((x/2^(64*k))*(y/2^(64*k)))))*2^(64*k))+(((x/2^(64*k))*(y/2^(64*k)))*2^(64*(2*k))))) []),(9,.callS (.nat (((x%2^(64*k))*(y%2^(64*k)))+((((((x%2^(64*k))+(x/2^(64*k)))*((y%2^(64*k))+(y/2^(64*k))))-(((x%2^(64*k))*(y%2^(64*k)))+((x/2^(64*k))*(y/2^(64*k)))))*2^(64*k))+(((x/2^(64*k))*(y/2^(64*k)))*2^(64*(2*k)))))) [])]]) Tryz.func104 (_/\_/\(((decide ((min (((nw x:Nat):Int):Int) (nw y:Int):Int)<8))=true->_/\(_))/\((decide ((min (((nw x:Nat):Int):Int) (nw y:Int):Int)<8))=false->_/\_/\(IntKind.wrap .i64 ((max (((nw x:Nat):Int):Int) (nw y:Int):Int)+1)=(((max (nw x) (nw y)+1:Nat):Int)))/\((2:Int)≠0)/\(IntKind.wrap .i64 (((max (nw x) (nw y)+1:Nat):Int).tdiv 2)=((k:Int)))/\(CallOK Tryz.prog 125 [.nat x,iN k] (c2 (.nat (x%2^(64*k))) (.nat (x/2^(64*k)))) [])/\(CallOK Tryz.prog 125 [.nat y,iN k] (c2 (.nat (y%2^(64*k))) (.nat (y/2^(64*k)))) [])/\(CallOK Tryz.prog 104 [.nat (x%2^(64*k)),.nat (y%2^(64*k))] (.nat ((x%2^(64*k))*(y%2^(64*k)))) [])/\(CallOK Tryz.prog 104 [.nat (x/2^(64*k)),.nat (y/2^(64*k))] (.nat ((x/2^(64*k))*(y/2^(64*k)))) [])/\_/\_/\(CallOK Tryz.prog 104 [.nat ((x%2^(64*k))+(x/2^(64*k))),.nat ((y%2^(64*k))+(y/2^(64*k)))] (.nat (((x%2^(64*k))+(x/2^(64*k)))*((y%2^(64*k))+(y/2^(64*k))))) [])/\_/\_/\(CallOK Tryz.prog 128 [.nat ((((x%2^(64*k))+(x/2^(64*k)))*((y%2^(64*k))+(y/2^(64*k))))-(((x%2^(64*k))*(y%2^(64*k)))+((x/2^(64*k))*(y/2^(64*k))))),iN k] (.nat (((((x%2^(64*k))+(x/2^(64*k)))*((y%2^(64*k))+(y/2^(64*k))))-(((x%2^(64*k))*(y%2^(64*k)))+((x/2^(64*k))*(y/2^(64*k)))))*2^(64*k))) [])/\(IntKind.wrap .i64 ((2:Int)*(k:Int))=(((2*k:Nat):Int)))/\(CallOK Tryz.prog 128 [.nat ((x/2^(64*k))*(y/2^(64*k))),iN (2*k)] (.nat (((x/2^(64*k))*(y/2^(64*k)))*2^(64*(2*k)))) [])/\_/\_/\(((((x%2^(64*k))*(y%2^(64*k)))+((((((x%2^(64*k))+(x/2^(64*k)))*((y%2^(64*k))+(y/2^(64*k))))-(((x%2^(64*k))*(y%2^(64*k)))+((x/2^(64*k))*(y/2^(64*k)))))*2^(64*k))+(((x/2^(64*k))*(y/2^(64*k)))*2^(64*(2*k)))):Nat)=(x*y))))))
  ⟨sNatLen (x:=x),sNatLen (x:=y),λhc20=>have hc20:=dT hc20;⟨sSchool (x:=x) (y:=y) zo,(rf (x*y:Nat))⟩,λhc20=>have hc20:=dF hc20;have MF:=mul_facts hk zo zo hs;have hk0:=MF.k0;⟨sNatLen (x:=x),sNatLen (x:=y),(by rw[IntKind.wrap_i64];omega),zd,(by rw[IntKind.wrap_i64,Int.tdiv_eq_ediv_of_nonneg zo];omega),sCut zo zo,sCut zo zo,ih MF.m1 MF.l1,ih MF.m2 MF.l2,sNatAdd (x:=x%2^(64*k)) (y:=x/2^(64*k)) MF.s1,sNatAdd (x:=y%2^(64*k)) (y:=y/2^(64*k)) MF.s2,ih MF.m3 MF.l3,sNatAdd (x:=(x%2^(64*k))*(y%2^(64*k))) (y:=(x/2^(64*k))*(y/2^(64*k))) MF.s3,sNatSub (x:=((x%2^(64*k))+(x/2^(64*k)))*((y%2^(64*k))+(y/2^(64*k)))) (y:=((x%2^(64*k))*(y%2^(64*k)))+((x/2^(64*k))*(y/2^(64*k)))),sRaised MF.r1,(by rw[IntKind.wrap_i64];omega),sRaised MF.r2,sNatAdd (x:=((((x%2^(64*k))+(x/2^(64*k)))*((y%2^(64*k))+(y/2^(64*k))))-(((x%2^(64*k))*(y%2^(64*k)))+((x/2^(64*k))*(y/2^(64*k)))))*2^(64*k)) (y:=((x/2^(64*k))*(y/2^(64*k)))*2^(64*(2*k))) MF.s4,sNatAdd (x:=(x%2^(64*k))*(y%2^(64*k))) (y:=(((((x%2^(64*k))+(x/2^(64*k)))*((y%2^(64*k))+(y/2^(64*k))))-(((x%2^(64*k))*(y%2^(64*k)))+((x/2^(64*k))*(y/2^(64*k)))))*2^(64*k))+(((x/2^(64*k))*(y/2^(64*k)))*2^(64*(2*k)))) MF.s5,MF.eq⟩⟩
theorem sMulAll:∀(N:Nat) {x y:Nat},max (nw x) (nw y)<N->nw x+nw y<=LIM->CallOK Tryz.prog 104 [.nat x,.nat y] (.nat (x*y)) []
 | 0,_,_,h,_=>absurd h zo
 | N+1,_,_,h,hs=>sMulStep hs λhlt hs'=>sMulAll N zo hs'
theorem sMul{x y:Nat}(hs:nw x+nw y<=LIM):CallOK Tryz.prog 104 [.nat x,.nat y] (.nat (x*y)) []:=sMulAll _ (Nat.lt_succ_self _) hs
open Go.RowKit
theorem small_add(p q:Rat)(h:szq p+szq q<=17179869184):Small ((p.num*(q.den:Int)).natAbs+(q.num*(p.den:Int)).natAbs):=by
 rw[Int.natAbs_mul,Int.natAbs_mul,Int.natAbs_natCast,Int.natAbs_natCast]
 have h3:=nw_add (p.num.natAbs*q.den) (q.num.natAbs*p.den)
 have h4:=xN p.num.natAbs q.den
 have h5:=xN q.num.natAbs p.den
 unfold Small
 unfold szq at h
 omega
theorem new_add(p q:Rat)(h:szq p+szq q<=17179869184):nw (p.num*(q.den:Int)+q.num*(p.den:Int)).natAbs<1099511627776/\nw (((p.den*q.den:Nat):Int)).natAbs<1099511627776:=by
 have h0:=kU (natAbs_add_nat (p.num*q.den) (q.num*p.den))
 rw[Int.natAbs_mul,Int.natAbs_mul,Int.natAbs_natCast,Int.natAbs_natCast] at h0
 have h3:=nw_add (p.num.natAbs*q.den) (q.num.natAbs*p.den)
 have h4:=xN p.num.natAbs q.den
 have h5:=xN q.num.natAbs p.den
 have h2:=xN p.den q.den
 rw[Int.natAbs_natCast]
 unfold szq at*
 omega
theorem new_mul(p q:Rat)(h:szq p+szq q<=17179869184):nw (p.num*q.num).natAbs<1099511627776/\nw (((p.den*q.den:Nat):Int)).natAbs<1099511627776:=by
 rw[Int.natAbs_mul,Int.natAbs_natCast]
 have h1:=xN p.num.natAbs q.num.natAbs
 have h2:=xN p.den q.den
 unfold szq at*
 omega
theorem new_of{p:Int}(h1:-9223372036854775808<=p)(h2:p<9223372036854775808):nw p.natAbs<1099511627776:=by
 have:=nw_le_of (x:=p.natAbs) (k:=1) zo
 omega
theorem cmp_same(p q:Rat):(cmpQ p q==0)=decide (p=q):=by
 unfold cmpQ
 by_cases h:p<q
 ·have:p≠q:=λe=>by subst e;exact Rat.lt_irrefl h
  simp[h,this]
 ·by_cases e:p=q<;>simp[h,e]
theorem sign_zero(q:Rat):(q.num.sign==0)=decide (q=0):=by
 rw[Bool.eq_iff_iff]
 simp[Int.sign_eq_zero_iff_zero]
theorem num_zero(q:Rat):(!decide (q.num=0))=!decide (q=0):=by
 congr 1
 rw[Bool.eq_iff_iff]
 simp
theorem neg_denW(q:Rat):denW (-q)=denW q:=by unfold denW;simp
end Go.Proofs.YtjhfkgpjcdbjaaaGreatDoor
