/- The parts Cut, Row64, SyM, DivP, DivW, DivP2, DivD, DivC, Take, Guess, RatM, MulM, MulR. -/
import Derived.Test.YtgighdoacajmfaaGreatDoorQ3
set_option maxRecDepth 100000
namespace Go.Proofs.YtgighdoacajmfaaGreatDoor
open Go.RowKit
theorem wd_div(x k i:Nat):wd (x/2^(64*k)) i=wd x (k+i):=by
 unfold wd
 rw[Nat.div_div_eq_div_mul,←Nat.pow_add,←Nat.mul_add]
theorem nw_div(x k:Nat):nw (x/2^(64*k))≤nw x-k:=by
 rw[nw_le,Nat.div_lt_iff_lt_mul (Nat.two_pow_pos _),←Nat.pow_add,←Nat.mul_add]
 exact Nat.lt_of_lt_of_le (lt_nw x) (Nat.pow_le_pow_right zo zo)
theorem val_high(x k:Nat):val (fun i=>wd x (k+i)) (nw x-k)=x/2^(64*k):=by
 rw[←val_all (x/2^(64*k)) _ (nw_div x k)]
 exact val_congr _ _ _ fun i _=>(wd_div x k i).symm
theorem USlice.from{F:Nat→Prop}{w:World}{g o n:Nat}{f:Nat→Nat}(h:USlice F w (some ⟨g,o,none⟩) n f)(k:Nat):USlice F w (some ⟨g,o+k,none⟩) (n-k) (fun i=>f (k+i)):=fun i hi=>by
 obtain⟨g',o',e,h1,h2,h3⟩:=h (k+i) zo
 simp only[Option.some.injEq,Addr.mk.injEq,and_true] at e
 obtain⟨rfl,rfl⟩:=e
 exact⟨g,o+k,rfl,h1,h2,by rw[Nat.add_assoc];exact h3⟩
theorem USlice.upto{F:Nat→Prop}{w:World}{A:Option Addr}{n:Nat}{f:Nat→Nat}(h:USlice F w A n f)(k:Nat)(hk:k≤n):USlice F w A k f:=fun i hi=>h i zo
theorem div_none(x k:Nat)(h:nw x≤k):x/2^(64*k)=0:=Nat.div_eq_of_lt ((nw_le x k).1 h)
set_option maxHeartbeats 2000000 in
theorem pCut_lo(F:Nat→Prop)(va:Value)(x k:Nat)(w:World)(hF:Lows F w)(ha:NatAt F w va x)(h0:0<nw x)(hk:k≤1099511627776)(hm:k≤nw x):
  Calls Tryz.prog 129 #[va,.int .i64 (k:Nat)] w fun e w'=>∃v u,e=.returned (.tuple #[v,u])∧NatAt F w' v (x%2^(64*k))∧NatAt F w' u (x/2^(64*k))∧Below w.heap.size w w':=by
 have hx:=ha.own (G:=Own F [w.heap.size+1,w.heap.size+1+1]) (Own.new (by simp;omega))
 have hsx:=ha.small
 obtain⟨A,n,c,rfl⟩:=ha.form
 clear ha
 unfold Small at hsx
 have hx0:=Lib.hid hx
 clear hx
 have hm0:(0:Int)≤(k:Nat):=by omega
 have hm1:((k:Nat):Int)≤nw x:=by omega
 have hm2:(k:Int)≤(nw x:Int):=by omega
 have hm3:nw x-k≤1099511627776:=by omega
 have l0:=((Blk.new w 43 #[.slice A n c]).alloc (.cells #[.slice none 0 0] 43)).alloc (.cells #[.slice none 0 0] 43)
 have l1:=(Blk.new_at (w.alloc (.cells #[.slice A n c] 43)) 43 #[.slice none 0 0] (w.heap.size+1) (by simp)).alloc (.cells #[.slice none 0 0] 43)
 have l2:=Blk.new_at ((w.alloc (.cells #[.slice A n c] 43)).alloc (.cells #[.slice none 0 0] 43)) 43 #[.slice none 0 0] (w.heap.size+1+1) (by simp)
 have C:=Cur.start (Own F [w.heap.size+1,w.heap.size+1+1]) w
 go_enter Tryz.func129,Tryz.ntmps129
 go_wp2_with fail
 refine(nWords (Own F [w.heap.size+1,w.heap.size+1+1]) _ x _ (NatAt.keep hx0.out Kz)).mono ?_
 rintro e wM ⟨v0,rfl,hg,hb⟩
 obtain⟨B,d,rfl,hsl,hd1,hd2,_,_⟩:=hg
 (obtain⟨K,C⟩:=Cur.step C Kz hb;have BW:=below_next (w:=w) Wz hb;have l0:=Blk.next l0 (fun h=>Bz) hb;have l1:=Blk.next l1 (fun h=>Bz) hb;have l2:=Blk.next l2 (fun h=>Bz) hb;have c0:=l0.cell;have f0:=l0.frozen;have z0:=l0.lt;have c1:=l1.cell;have f1:=l1.frozen;have z1:=l1.lt;have c2:=l2.cell;have f2:=l2.frozen;have z2:=l2.lt)
 have hL:Lows (Own F [w.heap.size+1,w.heap.size+1+1]) (((w.alloc (.cells #[.slice A n c] 43)).alloc (.cells #[.slice none 0 0] 43)).alloc (.cells #[.slice none 0 0] 43)):=(Lows.own hF (by first | (simp;done) | (simp;omega) | omega) (by first | (simp;done) | (simp;omega) | omega))
 have hsl:=hsl _ hL
 obtain⟨g,o,rfl,hg1,hg2,_⟩:=hsl 0 h0
 have hd3:(d:Int)≤9223372036854775807:=by unfold maxLen at hd2;omega
 have hd4:(nw x:Int)≤d:=by omega
 have hd5:((k:Nat):Int)≤d:=by omega
 have HS:=Lib.hid hsl
 clear hsl hg2
 obtain⟨wO,rfl⟩:∃z:World,z=wM:=⟨_,rfl⟩
 have KO:Keeps (Own F [w.heap.size+1,w.heap.size+1+1]) wO wO:=Keeps.refl _ _
 by_cases hdk:d=k
 ·have hnx:nw x≤k:=by omega
  obtain rfl:k=d:=hdk.symm
  have hnx2:=Lib.hid hnx
  clear hnx hdk
  go_wp2_with fail
  refine wp_region_T 9 (fun w'=>0≤w'.heap.size) (by kernel_rfl) (Nat.zero_le _) (fun hHeld=>?_)
  (refine wpAnyT_take (i:=0) (v:=?_) rfl (by kernel_rfl) (by kernel_rfl) (by kernel_rfl) (by kernel_rfl) (by kernel_rfl) (fun _ _ _ h=>h) (Or.inl ⟨by rfl,?_⟩) (by assumption) ?_;rotate_left;focus (intro w hSw;(try dsimp only at hSw);go_simp;(try with_reducible rfl));(try simp only[Act.put,List.setIfInBounds_toArray,List.set_cons_zero,List.set_cons_succ]));(refine wpAnyT_take (i:=1) (v:=?_) rfl (by kernel_rfl) (by kernel_rfl) (by kernel_rfl) (by kernel_rfl) (by kernel_rfl) (fun _ _ _ h=>h) (Or.inl ⟨by rfl,?_⟩) (by assumption) ?_;rotate_left;focus (intro w hSw;(try dsimp only at hSw);go_simp;(try with_reducible rfl));(try simp only[Act.put,List.setIfInBounds_toArray,List.set_cons_zero,List.set_cons_succ]));(refine wpAnyT_take (i:=2) (v:=?_) rfl (by kernel_rfl) (by kernel_rfl) (by kernel_rfl) (by kernel_rfl) (by kernel_rfl) (fun _ _ _ h=>h) (Or.inl ⟨by rfl,?_⟩) (by assumption) ?_;rotate_left;focus (intro w hSw;(try dsimp only at hSw);go_simp;(try with_reducible rfl));(try simp only[Act.put,List.setIfInBounds_toArray,List.set_cons_zero,List.set_cons_succ]));(refine wpAnyT_take (i:=4) (v:=?_) rfl (by kernel_rfl) (by kernel_rfl) (by kernel_rfl) (by kernel_rfl) (by kernel_rfl) (fun _ _ _ h=>h) (Or.inl ⟨by rfl,?_⟩) (by assumption) ?_;rotate_left;focus (intro w hSw;(try dsimp only at hSw);go_simp;(try with_reducible rfl));(try simp only[Act.put,List.setIfInBounds_toArray,List.set_cons_zero,List.set_cons_succ]));(refine wpAnyT_take (i:=5) (v:=?_) rfl (by kernel_rfl) (by kernel_rfl) (by kernel_rfl) (by kernel_rfl) (by kernel_rfl) (fun _ _ _ h=>h) (Or.inl ⟨by rfl,?_⟩) (by assumption) ?_;rotate_left;focus (intro w hSw;(try dsimp only at hSw);go_simp;(try with_reducible rfl));(try simp only[Act.put,List.setIfInBounds_toArray,List.set_cons_zero,List.set_cons_succ]));(refine wpAnyT_take (i:=6) (v:=?_) rfl (by kernel_rfl) (by kernel_rfl) (by kernel_rfl) (by kernel_rfl) (by kernel_rfl) (fun _ _ _ h=>h) (Or.inl ⟨by rfl,?_⟩) (by assumption) ?_;rotate_left;focus (intro w hSw;(try dsimp only at hSw);go_simp;(try with_reducible rfl));(try simp only[Act.put,List.setIfInBounds_toArray,List.set_cons_zero,List.set_cons_succ]))
  (refine wpAnyT_ready (rs:=[3]) (by kernel_rfl) (by simp) ?_;refine AllReadyT.cons rfl (fun KK hK=>?_) AllReadyT.nil;go_simp;(go_at_call 89;refine(nOf (Own F [w.heap.size+1,w.heap.size+1+1]) (some ⟨g,o,none⟩) k k (wd x) _ (Lows.own hF (by first | (simp;done) | (simp;omega) | omega) (by first | (simp;done) | (simp;omega) | omega)) (USlice.keep (HS.out.upto k zo) Kz) (wf_wd x k) zo (fun e=>(by cases e))).mono ?_;rintro e wM ⟨v',rfl,hr,hb⟩;obtain⟨A1,n1,c1',rfl⟩:=hr.form;(obtain⟨K,C⟩:=Cur.step C Kz hb;have BW:=below_next (w:=w) Wz hb;have l1:=Blk.next l1 (fun h=>Bz) hb;have l2:=Blk.next l2 (fun h=>Bz) hb;have c1:=l1.cell;have f1:=l1.frozen;have z1:=l1.lt;have c2:=l2.cell;have f2:=l2.frozen;have z2:=l2.lt));rw[val_wd] at hr;have H1:=Lib.hid hr;clear hr;go_wp2_with fail;refine hK.out _ _ (fun _=>Nat.zero_le _) (fun hHeld=>?_);have hHeld:=hHeld (by decide);clear hK KK;(try simp only[Act.put,List.setIfInBounds_toArray,List.set_cons_zero,List.set_cons_succ]))
  obtain⟨wP,rfl⟩:∃z:World,z=wM:=⟨_,rfl⟩
  have KP:Keeps (Own F [w.heap.size+1,w.heap.size+1+1]) wP wP:=Keeps.refl _ _
  have KOP:Keeps (Own F [w.heap.size+1,w.heap.size+1+1]) wO wP:=Kz
  (refine wpAnyT_ready (rs:=[7]) (by kernel_rfl) (by simp) ?_;refine AllReadyT.cons rfl (fun KK hK=>?_) AllReadyT.nil;go_simp;(go_at_call 89;refine(nOf (Own F [w.heap.size+1,w.heap.size+1+1]) (some ⟨g,o,none⟩) 0 0 (fun _=>0) _ (Lows.own hF (by first | (simp;done) | (simp;omega) | omega) (by first | (simp;done) | (simp;omega) | omega)) (fun i hi=>by omega) (fun i hi=>by omega) zo (fun e=>(by cases e))).mono ?_;rintro e wM ⟨v',rfl,hr,hb⟩;obtain⟨A2,n2,c2',rfl⟩:=hr.form;(obtain⟨K,C⟩:=Cur.step C Kz hb;have BW:=below_next (w:=w) Wz hb;have l1:=Blk.next l1 (fun h=>Bz) hb;have l2:=Blk.next l2 (fun h=>Bz) hb;have c1:=l1.cell;have f1:=l1.frozen;have z1:=l1.lt;have c2:=l2.cell;have f2:=l2.frozen;have z2:=l2.lt));rw[show val (fun _=>0) 0=x/2^(64*k) from(div_none x k hnx2.out).symm] at hr;have H2:=Lib.hid hr;clear hr;go_wp2_with fail;refine hK.out _ _ (fun _=>Nat.zero_le _) (fun hHeld=>?_);have hHeld:=hHeld (by decide);clear hK KK;(try simp only[Act.put,List.setIfInBounds_toArray,List.set_cons_zero,List.set_cons_succ]))
  have KPQ:Keeps (Own F [w.heap.size+1,w.heap.size+1+1]) wP wM:=Kz
  (refine wpAnyT_ready (rs:=[8]) (by kernel_rfl) (by simp) ?_;refine AllReadyT.cons rfl (fun KK hK=>?_) AllReadyT.nil;go_simp;skip;refine hK.out _ _ (fun _=>Nat.zero_le _) (fun hHeld=>?_);have hHeld:=hHeld (by decide);clear hK KK;(try simp only[Act.put,List.setIfInBounds_toArray,List.set_cons_zero,List.set_cons_succ]))
  (refine wpAnyT_ready (rs:=[9]) (by kernel_rfl) (by simp) ?_;refine AllReadyT.cons rfl (fun KK hK=>?_) AllReadyT.nil;go_simp;skip;refine hK.out _ _ (fun h=>absurd h (by decide)) (fun _=>?_);refine wpAnyT_done (by kernel_rfl) ?_ _;clear hK KK)
  go_wp2_with fail
  exact bodyPost_ret (v:=.tuple #[.agg #[.slice A1 n1 c1'],.agg #[.slice A2 n2 c2']]) (by simp[results,Tryz.results129,go_sem,c1,c2]) rfl ⟨_,_,rfl,(H1.out.keep Kz).sub Own.sub,(H2.out.keep Kz).sub Own.sub,Wz⟩
 ·have hdi:¬(d:Int)-((k:Nat):Int)=0:=by omega
  go_wp2_with fail
  refine wp_region_T 9 (fun w'=>0≤w'.heap.size) (by kernel_rfl) (Nat.zero_le _) (fun hHeld=>?_)
  (refine wpAnyT_take (i:=0) (v:=?_) rfl (by kernel_rfl) (by kernel_rfl) (by kernel_rfl) (by kernel_rfl) (by kernel_rfl) (fun _ _ _ h=>h) (Or.inl ⟨by rfl,?_⟩) (by assumption) ?_;rotate_left;focus (intro w hSw;(try dsimp only at hSw);go_simp;(try with_reducible rfl));(try simp only[Act.put,List.setIfInBounds_toArray,List.set_cons_zero,List.set_cons_succ]));(refine wpAnyT_take (i:=1) (v:=?_) rfl (by kernel_rfl) (by kernel_rfl) (by kernel_rfl) (by kernel_rfl) (by kernel_rfl) (fun _ _ _ h=>h) (Or.inl ⟨by rfl,?_⟩) (by assumption) ?_;rotate_left;focus (intro w hSw;(try dsimp only at hSw);go_simp;(try with_reducible rfl));(try simp only[Act.put,List.setIfInBounds_toArray,List.set_cons_zero,List.set_cons_succ]));(refine wpAnyT_take (i:=2) (v:=?_) rfl (by kernel_rfl) (by kernel_rfl) (by kernel_rfl) (by kernel_rfl) (by kernel_rfl) (fun _ _ _ h=>h) (Or.inl ⟨by rfl,?_⟩) (by assumption) ?_;rotate_left;focus (intro w hSw;(try dsimp only at hSw);go_simp;(try with_reducible rfl));(try simp only[Act.put,List.setIfInBounds_toArray,List.set_cons_zero,List.set_cons_succ]));(refine wpAnyT_take (i:=4) (v:=?_) rfl (by kernel_rfl) (by kernel_rfl) (by kernel_rfl) (by kernel_rfl) (by kernel_rfl) (fun _ _ _ h=>h) (Or.inl ⟨by rfl,?_⟩) (by assumption) ?_;rotate_left;focus (intro w hSw;(try dsimp only at hSw);go_simp;(try with_reducible rfl));(try simp only[Act.put,List.setIfInBounds_toArray,List.set_cons_zero,List.set_cons_succ]));(refine wpAnyT_take (i:=5) (v:=?_) rfl (by kernel_rfl) (by kernel_rfl) (by kernel_rfl) (by kernel_rfl) (by kernel_rfl) (fun _ _ _ h=>h) (Or.inl ⟨by rfl,?_⟩) (by assumption) ?_;rotate_left;focus (intro w hSw;(try dsimp only at hSw);go_simp;(try with_reducible rfl));(try simp only[Act.put,List.setIfInBounds_toArray,List.set_cons_zero,List.set_cons_succ]));(refine wpAnyT_take (i:=6) (v:=?_) rfl (by kernel_rfl) (by kernel_rfl) (by kernel_rfl) (by kernel_rfl) (by kernel_rfl) (fun _ _ _ h=>h) (Or.inl ⟨by rfl,?_⟩) (by assumption) ?_;rotate_left;focus (intro w hSw;(try dsimp only at hSw);go_simp;(try with_reducible rfl));(try simp only[Act.put,List.setIfInBounds_toArray,List.set_cons_zero,List.set_cons_succ]))
  (refine wpAnyT_ready (rs:=[3]) (by kernel_rfl) (by simp) ?_;refine AllReadyT.cons rfl (fun KK hK=>?_) AllReadyT.nil;go_simp;(go_at_call 89;refine(nOf (Own F [w.heap.size+1,w.heap.size+1+1]) (some ⟨g,o,none⟩) k d (wd x) _ (Lows.own hF (by first | (simp;done) | (simp;omega) | omega) (by first | (simp;done) | (simp;omega) | omega)) (USlice.keep (HS.out.upto k zo) Kz) (wf_wd x k) zo (fun e=>(by cases e))).mono ?_;rintro e wM ⟨v',rfl,hr,hb⟩;obtain⟨A1,n1,c1',rfl⟩:=hr.form;(obtain⟨K,C⟩:=Cur.step C Kz hb;have BW:=below_next (w:=w) Wz hb;have l1:=Blk.next l1 (fun h=>Bz) hb;have l2:=Blk.next l2 (fun h=>Bz) hb;have c1:=l1.cell;have f1:=l1.frozen;have z1:=l1.lt;have c2:=l2.cell;have f2:=l2.frozen;have z2:=l2.lt));rw[val_wd] at hr;have H1:=Lib.hid hr;clear hr;go_wp2_with fail;refine hK.out _ _ (fun _=>Nat.zero_le _) (fun hHeld=>?_);have hHeld:=hHeld (by decide);clear hK KK;(try simp only[Act.put,List.setIfInBounds_toArray,List.set_cons_zero,List.set_cons_succ]))
  obtain⟨wP,rfl⟩:∃z:World,z=wM:=⟨_,rfl⟩
  have KP:Keeps (Own F [w.heap.size+1,w.heap.size+1+1]) wP wP:=Keeps.refl _ _
  have KOP:Keeps (Own F [w.heap.size+1,w.heap.size+1+1]) wO wP:=Kz
  (refine wpAnyT_ready (rs:=[7]) (by kernel_rfl) (by simp) ?_;refine AllReadyT.cons rfl (fun KK hK=>?_) AllReadyT.nil;go_simp;(go_at_call 89;refine(nOf (Own F [w.heap.size+1,w.heap.size+1+1]) (some ⟨g,o+k,none⟩) (nw x-k) (d-k) (fun i=>wd x (k+i)) _ (Lows.own hF (by first | (simp;done) | (simp;omega) | omega) (by first | (simp;done) | (simp;omega) | omega)) (USlice.keep (HS.out.from k) Kz) (fun i _=>wd_lt _ _) hm3 (fun e=>(by cases e))).mono ?_;rintro e wM ⟨v',rfl,hr,hb⟩;obtain⟨A2,n2,c2',rfl⟩:=hr.form;(obtain⟨K,C⟩:=Cur.step C Kz hb;have BW:=below_next (w:=w) Wz hb;have l1:=Blk.next l1 (fun h=>Bz) hb;have l2:=Blk.next l2 (fun h=>Bz) hb;have c1:=l1.cell;have f1:=l1.frozen;have z1:=l1.lt;have c2:=l2.cell;have f2:=l2.frozen;have z2:=l2.lt));rw[val_high] at hr;have H2:=Lib.hid hr;clear hr;go_wp2_with fail;refine hK.out _ _ (fun _=>Nat.zero_le _) (fun hHeld=>?_);have hHeld:=hHeld (by decide);clear hK KK;(try simp only[Act.put,List.setIfInBounds_toArray,List.set_cons_zero,List.set_cons_succ]))
  have KPQ:Keeps (Own F [w.heap.size+1,w.heap.size+1+1]) wP wM:=Kz
  (refine wpAnyT_ready (rs:=[8]) (by kernel_rfl) (by simp) ?_;refine AllReadyT.cons rfl (fun KK hK=>?_) AllReadyT.nil;go_simp;skip;refine hK.out _ _ (fun _=>Nat.zero_le _) (fun hHeld=>?_);have hHeld:=hHeld (by decide);clear hK KK;(try simp only[Act.put,List.setIfInBounds_toArray,List.set_cons_zero,List.set_cons_succ]))
  (refine wpAnyT_ready (rs:=[9]) (by kernel_rfl) (by simp) ?_;refine AllReadyT.cons rfl (fun KK hK=>?_) AllReadyT.nil;go_simp;skip;refine hK.out _ _ (fun h=>absurd h (by decide)) (fun _=>?_);refine wpAnyT_done (by kernel_rfl) ?_ _;clear hK KK)
  go_wp2_with fail
  exact bodyPost_ret (v:=.tuple #[.agg #[.slice A1 n1 c1'],.agg #[.slice A2 n2 c2']]) (by simp[results,Tryz.results129,go_sem,c1,c2]) rfl ⟨_,_,rfl,(H1.out.keep Kz).sub Own.sub,(H2.out.keep Kz).sub Own.sub,Wz⟩
set_option maxHeartbeats 2000000 in
theorem pCut_hi(F:Nat→Prop)(va:Value)(x k:Nat)(w:World)(hF:Lows F w)(ha:NatAt F w va x)(h0:0<nw x)(_hk:k≤1099511627776)(hm:nw x<k):
  Calls Tryz.prog 129 #[va,.int .i64 (k:Nat)] w fun e w'=>∃v u,e=.returned (.tuple #[v,u])∧NatAt F w' v (x%2^(64*nw x))∧NatAt F w' u (x/2^(64*nw x))∧Below w.heap.size w w':=by
 have hx:=ha.own (G:=Own F [w.heap.size+1,w.heap.size+1+1]) (Own.new (by simp;omega))
 have hsx:=ha.small
 obtain⟨A,n,c,rfl⟩:=ha.form
 clear ha
 unfold Small at hsx
 have hx0:=Lib.hid hx
 clear hx
 have hm0:(0:Int)≤(nw x:Nat):=by omega
 have hm1:((nw x:Nat):Int)≤nw x:=by omega
 have hm2:(nw x:Int)<(k:Int):=by omega
 have hm3:nw x-nw x≤1099511627776:=by omega
 have l0:=((Blk.new w 43 #[.slice A n c]).alloc (.cells #[.slice none 0 0] 43)).alloc (.cells #[.slice none 0 0] 43)
 have l1:=(Blk.new_at (w.alloc (.cells #[.slice A n c] 43)) 43 #[.slice none 0 0] (w.heap.size+1) (by simp)).alloc (.cells #[.slice none 0 0] 43)
 have l2:=Blk.new_at ((w.alloc (.cells #[.slice A n c] 43)).alloc (.cells #[.slice none 0 0] 43)) 43 #[.slice none 0 0] (w.heap.size+1+1) (by simp)
 have C:=Cur.start (Own F [w.heap.size+1,w.heap.size+1+1]) w
 go_enter Tryz.func129,Tryz.ntmps129
 go_wp2_with fail
 refine(nWords (Own F [w.heap.size+1,w.heap.size+1+1]) _ x _ (NatAt.keep hx0.out Kz)).mono ?_
 rintro e wM ⟨v0,rfl,hg,hb⟩
 obtain⟨B,d,rfl,hsl,hd1,hd2,_,_⟩:=hg
 (obtain⟨K,C⟩:=Cur.step C Kz hb;have BW:=below_next (w:=w) Wz hb;have l0:=Blk.next l0 (fun h=>Bz) hb;have l1:=Blk.next l1 (fun h=>Bz) hb;have l2:=Blk.next l2 (fun h=>Bz) hb;have c0:=l0.cell;have f0:=l0.frozen;have z0:=l0.lt;have c1:=l1.cell;have f1:=l1.frozen;have z1:=l1.lt;have c2:=l2.cell;have f2:=l2.frozen;have z2:=l2.lt)
 have hL:Lows (Own F [w.heap.size+1,w.heap.size+1+1]) (((w.alloc (.cells #[.slice A n c] 43)).alloc (.cells #[.slice none 0 0] 43)).alloc (.cells #[.slice none 0 0] 43)):=(Lows.own hF (by first | (simp;done) | (simp;omega) | omega) (by first | (simp;done) | (simp;omega) | omega))
 have hsl:=hsl _ hL
 obtain⟨g,o,rfl,hg1,hg2,_⟩:=hsl 0 h0
 have hd3:(d:Int)≤9223372036854775807:=by unfold maxLen at hd2;omega
 have hd4:(nw x:Int)≤d:=by omega
 have hd5:((nw x:Nat):Int)≤d:=by omega
 have HS:=Lib.hid hsl
 clear hsl hg2
 obtain⟨wO,rfl⟩:∃z:World,z=wM:=⟨_,rfl⟩
 have KO:Keeps (Own F [w.heap.size+1,w.heap.size+1+1]) wO wO:=Keeps.refl _ _
 by_cases hdk:d=nw x
 ·have hnx:nw x≤nw x:=by omega
  obtain rfl:nw x=d:=hdk.symm
  have hnx2:=Lib.hid hnx
  clear hnx hdk
  go_wp2_with fail
  refine wp_region_T 9 (fun w'=>0≤w'.heap.size) (by kernel_rfl) (Nat.zero_le _) (fun hHeld=>?_)
  (refine wpAnyT_take (i:=0) (v:=?_) rfl (by kernel_rfl) (by kernel_rfl) (by kernel_rfl) (by kernel_rfl) (by kernel_rfl) (fun _ _ _ h=>h) (Or.inl ⟨by rfl,?_⟩) (by assumption) ?_;rotate_left;focus (intro w hSw;(try dsimp only at hSw);go_simp;(try with_reducible rfl));(try simp only[Act.put,List.setIfInBounds_toArray,List.set_cons_zero,List.set_cons_succ]));(refine wpAnyT_take (i:=1) (v:=?_) rfl (by kernel_rfl) (by kernel_rfl) (by kernel_rfl) (by kernel_rfl) (by kernel_rfl) (fun _ _ _ h=>h) (Or.inl ⟨by rfl,?_⟩) (by assumption) ?_;rotate_left;focus (intro w hSw;(try dsimp only at hSw);go_simp;(try with_reducible rfl));(try simp only[Act.put,List.setIfInBounds_toArray,List.set_cons_zero,List.set_cons_succ]));(refine wpAnyT_take (i:=2) (v:=?_) rfl (by kernel_rfl) (by kernel_rfl) (by kernel_rfl) (by kernel_rfl) (by kernel_rfl) (fun _ _ _ h=>h) (Or.inl ⟨by rfl,?_⟩) (by assumption) ?_;rotate_left;focus (intro w hSw;(try dsimp only at hSw);go_simp;(try with_reducible rfl));(try simp only[Act.put,List.setIfInBounds_toArray,List.set_cons_zero,List.set_cons_succ]));(refine wpAnyT_take (i:=4) (v:=?_) rfl (by kernel_rfl) (by kernel_rfl) (by kernel_rfl) (by kernel_rfl) (by kernel_rfl) (fun _ _ _ h=>h) (Or.inl ⟨by rfl,?_⟩) (by assumption) ?_;rotate_left;focus (intro w hSw;(try dsimp only at hSw);go_simp;(try with_reducible rfl));(try simp only[Act.put,List.setIfInBounds_toArray,List.set_cons_zero,List.set_cons_succ]));(refine wpAnyT_take (i:=5) (v:=?_) rfl (by kernel_rfl) (by kernel_rfl) (by kernel_rfl) (by kernel_rfl) (by kernel_rfl) (fun _ _ _ h=>h) (Or.inl ⟨by rfl,?_⟩) (by assumption) ?_;rotate_left;focus (intro w hSw;(try dsimp only at hSw);go_simp;(try with_reducible rfl));(try simp only[Act.put,List.setIfInBounds_toArray,List.set_cons_zero,List.set_cons_succ]));(refine wpAnyT_take (i:=6) (v:=?_) rfl (by kernel_rfl) (by kernel_rfl) (by kernel_rfl) (by kernel_rfl) (by kernel_rfl) (fun _ _ _ h=>h) (Or.inl ⟨by rfl,?_⟩) (by assumption) ?_;rotate_left;focus (intro w hSw;(try dsimp only at hSw);go_simp;(try with_reducible rfl));(try simp only[Act.put,List.setIfInBounds_toArray,List.set_cons_zero,List.set_cons_succ]))
  (refine wpAnyT_ready (rs:=[3]) (by kernel_rfl) (by simp) ?_;refine AllReadyT.cons rfl (fun KK hK=>?_) AllReadyT.nil;go_simp;(go_at_call 89;refine(nOf (Own F [w.heap.size+1,w.heap.size+1+1]) (some ⟨g,o,none⟩) (nw x) (nw x) (wd x) _ (Lows.own hF (by first | (simp;done) | (simp;omega) | omega) (by first | (simp;done) | (simp;omega) | omega)) (USlice.keep (HS.out.upto (nw x) zo) Kz) (wf_wd x (nw x)) zo (fun e=>(by cases e))).mono ?_;rintro e wM ⟨v',rfl,hr,hb⟩;obtain⟨A1,n1,c1',rfl⟩:=hr.form;(obtain⟨K,C⟩:=Cur.step C Kz hb;have BW:=below_next (w:=w) Wz hb;have l1:=Blk.next l1 (fun h=>Bz) hb;have l2:=Blk.next l2 (fun h=>Bz) hb;have c1:=l1.cell;have f1:=l1.frozen;have z1:=l1.lt;have c2:=l2.cell;have f2:=l2.frozen;have z2:=l2.lt));rw[val_wd] at hr;have H1:=Lib.hid hr;clear hr;go_wp2_with fail;refine hK.out _ _ (fun _=>Nat.zero_le _) (fun hHeld=>?_);have hHeld:=hHeld (by decide);clear hK KK;(try simp only[Act.put,List.setIfInBounds_toArray,List.set_cons_zero,List.set_cons_succ]))
  obtain⟨wP,rfl⟩:∃z:World,z=wM:=⟨_,rfl⟩
  have KP:Keeps (Own F [w.heap.size+1,w.heap.size+1+1]) wP wP:=Keeps.refl _ _
  have KOP:Keeps (Own F [w.heap.size+1,w.heap.size+1+1]) wO wP:=Kz
  (refine wpAnyT_ready (rs:=[7]) (by kernel_rfl) (by simp) ?_;refine AllReadyT.cons rfl (fun KK hK=>?_) AllReadyT.nil;go_simp;(go_at_call 89;refine(nOf (Own F [w.heap.size+1,w.heap.size+1+1]) (some ⟨g,o,none⟩) 0 0 (fun _=>0) _ (Lows.own hF (by first | (simp;done) | (simp;omega) | omega) (by first | (simp;done) | (simp;omega) | omega)) (fun i hi=>by omega) (fun i hi=>by omega) zo (fun e=>(by cases e))).mono ?_;rintro e wM ⟨v',rfl,hr,hb⟩;obtain⟨A2,n2,c2',rfl⟩:=hr.form;(obtain⟨K,C⟩:=Cur.step C Kz hb;have BW:=below_next (w:=w) Wz hb;have l1:=Blk.next l1 (fun h=>Bz) hb;have l2:=Blk.next l2 (fun h=>Bz) hb;have c1:=l1.cell;have f1:=l1.frozen;have z1:=l1.lt;have c2:=l2.cell;have f2:=l2.frozen;have z2:=l2.lt));rw[show val (fun _=>0) 0=x/2^(64*(nw x)) from(div_none x (nw x) hnx2.out).symm] at hr;have H2:=Lib.hid hr;clear hr;go_wp2_with fail;refine hK.out _ _ (fun _=>Nat.zero_le _) (fun hHeld=>?_);have hHeld:=hHeld (by decide);clear hK KK;(try simp only[Act.put,List.setIfInBounds_toArray,List.set_cons_zero,List.set_cons_succ]))
  have KPQ:Keeps (Own F [w.heap.size+1,w.heap.size+1+1]) wP wM:=Kz
  (refine wpAnyT_ready (rs:=[8]) (by kernel_rfl) (by simp) ?_;refine AllReadyT.cons rfl (fun KK hK=>?_) AllReadyT.nil;go_simp;skip;refine hK.out _ _ (fun _=>Nat.zero_le _) (fun hHeld=>?_);have hHeld:=hHeld (by decide);clear hK KK;(try simp only[Act.put,List.setIfInBounds_toArray,List.set_cons_zero,List.set_cons_succ]))
  (refine wpAnyT_ready (rs:=[9]) (by kernel_rfl) (by simp) ?_;refine AllReadyT.cons rfl (fun KK hK=>?_) AllReadyT.nil;go_simp;skip;refine hK.out _ _ (fun h=>absurd h (by decide)) (fun _=>?_);refine wpAnyT_done (by kernel_rfl) ?_ _;clear hK KK)
  go_wp2_with fail
  exact bodyPost_ret (v:=.tuple #[.agg #[.slice A1 n1 c1'],.agg #[.slice A2 n2 c2']]) (by simp[results,Tryz.results129,go_sem,c1,c2]) rfl ⟨_,_,rfl,(H1.out.keep Kz).sub Own.sub,(H2.out.keep Kz).sub Own.sub,Wz⟩
 ·have hdi:¬(d:Int)-((nw x:Nat):Int)=0:=by omega
  go_wp2_with fail
  refine wp_region_T 9 (fun w'=>0≤w'.heap.size) (by kernel_rfl) (Nat.zero_le _) (fun hHeld=>?_)
  (refine wpAnyT_take (i:=0) (v:=?_) rfl (by kernel_rfl) (by kernel_rfl) (by kernel_rfl) (by kernel_rfl) (by kernel_rfl) (fun _ _ _ h=>h) (Or.inl ⟨by rfl,?_⟩) (by assumption) ?_;rotate_left;focus (intro w hSw;(try dsimp only at hSw);go_simp;(try with_reducible rfl));(try simp only[Act.put,List.setIfInBounds_toArray,List.set_cons_zero,List.set_cons_succ]));(refine wpAnyT_take (i:=1) (v:=?_) rfl (by kernel_rfl) (by kernel_rfl) (by kernel_rfl) (by kernel_rfl) (by kernel_rfl) (fun _ _ _ h=>h) (Or.inl ⟨by rfl,?_⟩) (by assumption) ?_;rotate_left;focus (intro w hSw;(try dsimp only at hSw);go_simp;(try with_reducible rfl));(try simp only[Act.put,List.setIfInBounds_toArray,List.set_cons_zero,List.set_cons_succ]));(refine wpAnyT_take (i:=2) (v:=?_) rfl (by kernel_rfl) (by kernel_rfl) (by kernel_rfl) (by kernel_rfl) (by kernel_rfl) (fun _ _ _ h=>h) (Or.inl ⟨by rfl,?_⟩) (by assumption) ?_;rotate_left;focus (intro w hSw;(try dsimp only at hSw);go_simp;(try with_reducible rfl));(try simp only[Act.put,List.setIfInBounds_toArray,List.set_cons_zero,List.set_cons_succ]));(refine wpAnyT_take (i:=4) (v:=?_) rfl (by kernel_rfl) (by kernel_rfl) (by kernel_rfl) (by kernel_rfl) (by kernel_rfl) (fun _ _ _ h=>h) (Or.inl ⟨by rfl,?_⟩) (by assumption) ?_;rotate_left;focus (intro w hSw;(try dsimp only at hSw);go_simp;(try with_reducible rfl));(try simp only[Act.put,List.setIfInBounds_toArray,List.set_cons_zero,List.set_cons_succ]));(refine wpAnyT_take (i:=5) (v:=?_) rfl (by kernel_rfl) (by kernel_rfl) (by kernel_rfl) (by kernel_rfl) (by kernel_rfl) (fun _ _ _ h=>h) (Or.inl ⟨by rfl,?_⟩) (by assumption) ?_;rotate_left;focus (intro w hSw;(try dsimp only at hSw);go_simp;(try with_reducible rfl));(try simp only[Act.put,List.setIfInBounds_toArray,List.set_cons_zero,List.set_cons_succ]));(refine wpAnyT_take (i:=6) (v:=?_) rfl (by kernel_rfl) (by kernel_rfl) (by kernel_rfl) (by kernel_rfl) (by kernel_rfl) (fun _ _ _ h=>h) (Or.inl ⟨by rfl,?_⟩) (by assumption) ?_;rotate_left;focus (intro w hSw;(try dsimp only at hSw);go_simp;(try with_reducible rfl));(try simp only[Act.put,List.setIfInBounds_toArray,List.set_cons_zero,List.set_cons_succ]))
  (refine wpAnyT_ready (rs:=[3]) (by kernel_rfl) (by simp) ?_;refine AllReadyT.cons rfl (fun KK hK=>?_) AllReadyT.nil;go_simp;(go_at_call 89;refine(nOf (Own F [w.heap.size+1,w.heap.size+1+1]) (some ⟨g,o,none⟩) (nw x) d (wd x) _ (Lows.own hF (by first | (simp;done) | (simp;omega) | omega) (by first | (simp;done) | (simp;omega) | omega)) (USlice.keep (HS.out.upto (nw x) zo) Kz) (wf_wd x (nw x)) zo (fun e=>(by cases e))).mono ?_;rintro e wM ⟨v',rfl,hr,hb⟩;obtain⟨A1,n1,c1',rfl⟩:=hr.form;(obtain⟨K,C⟩:=Cur.step C Kz hb;have BW:=below_next (w:=w) Wz hb;have l1:=Blk.next l1 (fun h=>Bz) hb;have l2:=Blk.next l2 (fun h=>Bz) hb;have c1:=l1.cell;have f1:=l1.frozen;have z1:=l1.lt;have c2:=l2.cell;have f2:=l2.frozen;have z2:=l2.lt));rw[val_wd] at hr;have H1:=Lib.hid hr;clear hr;go_wp2_with fail;refine hK.out _ _ (fun _=>Nat.zero_le _) (fun hHeld=>?_);have hHeld:=hHeld (by decide);clear hK KK;(try simp only[Act.put,List.setIfInBounds_toArray,List.set_cons_zero,List.set_cons_succ]))
  obtain⟨wP,rfl⟩:∃z:World,z=wM:=⟨_,rfl⟩
  have KP:Keeps (Own F [w.heap.size+1,w.heap.size+1+1]) wP wP:=Keeps.refl _ _
  have KOP:Keeps (Own F [w.heap.size+1,w.heap.size+1+1]) wO wP:=Kz
  (refine wpAnyT_ready (rs:=[7]) (by kernel_rfl) (by simp) ?_;refine AllReadyT.cons rfl (fun KK hK=>?_) AllReadyT.nil;go_simp;(go_at_call 89;refine(nOf (Own F [w.heap.size+1,w.heap.size+1+1]) (some ⟨g,o+nw x,none⟩) 0 (d-nw x) (fun _=>0) _ (Lows.own hF (by first | (simp;done) | (simp;omega) | omega) (by first | (simp;done) | (simp;omega) | omega)) (fun i hi=>by omega) (fun i hi=>by omega) zo (fun e=>(by cases e))).mono ?_;rintro e wM ⟨v',rfl,hr,hb⟩;obtain⟨A2,n2,c2',rfl⟩:=hr.form;(obtain⟨K,C⟩:=Cur.step C Kz hb;have BW:=below_next (w:=w) Wz hb;have l1:=Blk.next l1 (fun h=>Bz) hb;have l2:=Blk.next l2 (fun h=>Bz) hb;have c1:=l1.cell;have f1:=l1.frozen;have z1:=l1.lt;have c2:=l2.cell;have f2:=l2.frozen;have z2:=l2.lt));rw[show val (fun _=>0) 0=x/2^(64*(nw x)) from(div_none x (nw x) (Nat.le_refl _)).symm] at hr;have H2:=Lib.hid hr;clear hr;go_wp2_with fail;refine hK.out _ _ (fun _=>Nat.zero_le _) (fun hHeld=>?_);have hHeld:=hHeld (by decide);clear hK KK;(try simp only[Act.put,List.setIfInBounds_toArray,List.set_cons_zero,List.set_cons_succ]))
  have KPQ:Keeps (Own F [w.heap.size+1,w.heap.size+1+1]) wP wM:=Kz
  (refine wpAnyT_ready (rs:=[8]) (by kernel_rfl) (by simp) ?_;refine AllReadyT.cons rfl (fun KK hK=>?_) AllReadyT.nil;go_simp;skip;refine hK.out _ _ (fun _=>Nat.zero_le _) (fun hHeld=>?_);have hHeld:=hHeld (by decide);clear hK KK;(try simp only[Act.put,List.setIfInBounds_toArray,List.set_cons_zero,List.set_cons_succ]))
  (refine wpAnyT_ready (rs:=[9]) (by kernel_rfl) (by simp) ?_;refine AllReadyT.cons rfl (fun KK hK=>?_) AllReadyT.nil;go_simp;skip;refine hK.out _ _ (fun h=>absurd h (by decide)) (fun _=>?_);refine wpAnyT_done (by kernel_rfl) ?_ _;clear hK KK)
  go_wp2_with fail
  exact bodyPost_ret (v:=.tuple #[.agg #[.slice A1 n1 c1'],.agg #[.slice A2 n2 c2']]) (by simp[results,Tryz.results129,go_sem,c1,c2]) rfl ⟨_,_,rfl,(H1.out.keep Kz).sub Own.sub,(H2.out.keep Kz).sub Own.sub,Wz⟩
theorem pCut(F:Nat→Prop)(va:Value)(x k:Nat)(w:World)(hF:Lows F w)(ha:NatAt F w va x)(h0:0<nw x)(hk:k≤1099511627776):
  Calls Tryz.prog 129 #[va,.int .i64 (k:Nat)] w fun e w'=>∃v u,e=.returned (.tuple #[v,u])∧NatAt F w' v (x%2^(64*k))∧NatAt F w' u (x/2^(64*k))∧Below w.heap.size w w':=by
 by_cases h:k≤nw x
 ·exact pCut_lo F va x k w hF ha h0 hk h
 ·have h':nw x<k:=by omega
  have e1:x%2^(64*nw x)=x%2^(64*k):=by rw[Nat.mod_eq_of_lt (lt_nw x),Nat.mod_eq_of_lt ((nw_le x k).1 zo)]
  have e2:x/2^(64*nw x)=x/2^(64*k):=by rw[div_none x _ (Nat.le_refl _),div_none x k zo]
  have:=pCut_hi F va x k w hF ha h0 hk h'
  rw[e1,e2] at this
  exact this
open Go.RowKit
def MR.row (f:Nat→Nat) (n:Nat):MR:=⟨fun w v=>∃g,v=.slice (some ⟨g,0,none⟩) n n∧Blk w g 145 (wa f n),fun h ⟨g,e,k⟩=>⟨g,e,k.below h⟩⟩
def MR.uns (f:Nat→Nat) (n:Nat):MR:=⟨fun w v=>∃A c,v=.slice A n c∧USlice (fun _=>False) w A n f∧n≤c∧c≤maxLen∧Nilled A n c,fun h ⟨A,c,e,k,r⟩=>⟨A,c,e,k.keep (Keeps.of_below h),r⟩⟩
section
variable {va vb:Value} {x y:Nat} {w:World} {f:Nat→Nat} {n:Nat}
theorem cNatWords(ha:(MR.nat x).R w va):Calls Tryz.prog 155 #[va] w (Ret (.uns (wd x) (nw x)) w):=
 (nWords (fun _=>False) va x w ha).mono fun _ _ ⟨v,e,⟨A,c,e1,h1,h2,h3,h4,_⟩,hb⟩=>⟨v,e,hb,A,c,e1,h1 _ (fun _ h=>h.elim),h2,h3,h4⟩
theorem cNatOfU(h:(MR.uns f n).R w va)(hw:Wf f n)(hn:n≤1099511627776):Calls Tryz.prog 89 #[va] w (Ret (.nat (val f n)) w):=by
 obtain⟨A,c,rfl,h1,h2,h3,h4⟩:=h
 exact(nOf (fun _=>False) A n c f w (lows0 w) h1 hw hn h4).mono fun _ _ ⟨v,e,h1,h2⟩=>⟨v,e,h2,h1⟩
theorem cCut(ha:(MR.nat x).R w va){k:Nat}(h0:0<nw x)(hk:k≤1099511627776):Calls Tryz.prog 129 #[va,.int .i64 ((k:Nat):Int)] w (Ret (.tup2 (.nat (x%2^(64*k))) (.nat (x/2^(64*k)))) w):=
 (pCut (fun _=>False) va x k w (lows0 w) ha h0 hk).mono fun _ _ ⟨v,u,e,h1,h2,hb⟩=>⟨_,e,hb,v,u,rfl,h1,h2⟩
theorem cSchool(ha:(MR.nat x).R w va)(hb:(MR.nat y).R w vb)(hs:nw x+nw y≤1099511627776):Calls Tryz.prog 128 #[va,vb] w (Ret (.nat (x*y)) w):=
 (pSchool (fun _=>False) va vb x y w (lows0 w) ha hb hs).mono fun _ _ ⟨v,e,h1,h2⟩=>⟨v,e,h2,h1⟩
end
section
variable {o:Oper} {ρ:Operand→Value} {w:World} {x y:Operand}
theorem yld_make64{k:Nat}(h:o.op=.makeSlice 41 x y)(hx:ρ x=.int .i64 ((k:Nat):Int))(hy:ρ y=.int .i64 ((k:Nat):Int))(hk:k≤35184372088832):Yld Tryz.prog o ρ w (fun v w'=>Grow w w'∧(MR.row (fun _=>0) k).R w' v):=by
 unfold Yld execOp
 rw[h]
 simp only[hx,hy,Sem.run_bind,mk64 k hk,Result.andThen_ok]
 exact⟨(Grow.refl w).alloc _,_,rfl,Blk.new w _ _⟩
theorem wa_cells{f:Nat→Nat}{n:Nat}(j:Nat)(v:Value)(h:(words f n)[j]?=some v):(wa f n)[j]?=some v:=by unfold wa;simpa using h
theorem yld_append64{f g:Nat→Nat}{k n:Nat}(h:o.op=.call {callee:=.builtin .append,args:=#[x,y],argTypes:=#[41,41]})(hx:(MR.row f k).R w (ρ x))(hy:(MR.uns g n).R w (ρ y))(hk:k≤137438953472)(hn:n≤137438953472):
  Yld Tryz.prog o ρ w (fun v w'=>Grow w w'∧(MR.uns (fun i=>if i<k then f i else g (i-k)) (k+n)).R w' v):=by
 obtain⟨r,ex,hB⟩:=hx
 obtain⟨A,c,ey,hS,hc1,hc2,hnil⟩:=hy
 obtain⟨i0,hi0,hz0,hz1,hz2⟩:=infoParts u64Info
 rcases Nat.eq_zero_or_pos n with rfl | hn0
 ·have hrun:(Builtin.append_ #[41,41] o.type #[.slice (some ⟨r,0,none⟩) k k,.slice A 0 c]).run Tryz.prog w=.ok (.slice (some ⟨r,0,none⟩) k k) w:=by
   cases A<;>simp[Builtin.append_,run_underlying Tryz.underlying41,sizeOf,typeInfo,hi0,Builtin.lenOf,Builtin.firstCells,storeCells,loadCells,loadCellsFrom]
  refine yld_val (v:=.slice (some ⟨r,0,none⟩) k k) (by unfold execOp;rw[h];simp[resolve,invoke,builtin,ex,ey,hrun]) ⟨Grow.refl _,some ⟨r,0,none⟩,k,rfl,fun i hi=>?_,by omega,by unfold maxLen;omega,fun e=>by cases e⟩
  exact⟨r,0,rfl,id,hB.lt,by rw[Nat.zero_add,hB.cell,wa_at f k i zo];show _=some (Value.int _ (((if i<k then f i else g (i-k):Nat)):Int));rw[if_pos zo]⟩
 ·obtain⟨ga,oa,rfl,_,_,_⟩:=hS 0 hn0
  have hrun:=run_append_grow (P:=Tryz.prog) w 41 o.type 145 i0 (.int .u64 0) Tryz.underlying41 hi0 hz0 ⟨r,0,none⟩ k k (words f k) (by rw[words_length,hz1,Nat.mul_one])
   (fun j v hj=>by rw[add_plain,hB.cell,Nat.zero_add];exact wa_cells j v hj) ⟨ga,oa,none⟩ n c (words g n) (by rw[words_length,hz1,Nat.mul_one])
   (fun j v hj => by
    have hlt:j<n:=by
     have:=(List.getElem?_eq_some_iff.1 hj).1
     rwa [words_length] at this
    obtain⟨g',o',e,_,_,hcell⟩:=hS j hlt
    simp only[Option.some.injEq,Addr.mk.injEq,and_true] at e
    obtain⟨rfl,rfl⟩:=e
    rw[words_at g n j hlt] at hj
    rw[add_plain,hcell];exact hj)
   zo zo (growslice_fits zo (by rw[hz2];omega))
  have hcap:=grownCap_ge w (k+n) k 145
  have hcap2:=grownCap_le_maxLen w (k+n) k 145 (by unfold maxLen;omega)
  have hexec:(execOp ρ o).run Tryz.prog w=.ok (.value (.slice (some ⟨w.heap.size,0,none⟩) (k+n) (grownCap w (k+n) k 145))) (w.drew.alloc (.cells ((words f k).toArray++(words g n).toArray++Builtin.zeroCells (Value.int .u64 0).cells (grownCap w (k+n) k 145-(k+n))) 145)):=by
   unfold execOp;rw[h];simp[resolve,invoke,builtin,ex,ey,hrun]
  unfold Yld
  rw[hexec]
  refine⟨((Grow.refl w).drew).alloc _,some ⟨w.heap.size,0,none⟩,_,rfl,fun i hi=>?_,hcap,hcap2,fun e=>by cases e⟩
  have hb:Blk (w.drew.alloc (.cells ((words f k).toArray++(words g n).toArray++Builtin.zeroCells (Value.int .u64 0).cells (grownCap w (k+n) k 145-(k+n))) 145)) w.heap.size 145 _:=Blk.new w.drew 145 ((words f k).toArray++(words g n).toArray++Builtin.zeroCells (Value.int .u64 0).cells (grownCap w (k+n) k 145-(k+n)))
  refine⟨_,0,rfl,id,hb.lt,?_⟩
  rw[Nat.zero_add,hb.cell]
  rw[Array.getElem?_append_left (by simp[words_length];omega)]
  show _=some (Value.int _ (((if i<k then f i else g (i-k):Nat)):Int))
  by_cases hik:i<k
  ·rw[Array.getElem?_append_left (by simpa [words_length] using hik),if_pos hik]
   have:=words_at f k i hik
   simpa using this
  ·rw[Array.getElem?_append_right (by simp[words_length];omega),if_neg hik]
   have:=words_at g n (i-k) zo
   simpa [words_length] using this
end
open Go.RowKit
instance fzT:Fz:=⟨true,some (.iface 169 (.agg #[.pointer (some ⟨1,37,none⟩)]))⟩
theorem ownsOf_nil(nx k i:Nat):(ownsOf nx [] k).get i=none:=by
 unfold ownsOf
 split<;>cases i<;>rfl
abbrev mE (f:Nat→Nat→Rat) (n i:Nat):SV:=.sl 3 (fun j=>.rat (f i j)) n
abbrev gE (k:Nat→Nat) (p d:Nat→Nat→Int) (i:Nat):SV:=.sl 2 (fun j=>.agg (.cn (.ex (.int .i64 (p i j))) (.cn (.ex (.int .i64 (d i j))) (.nl)))) (k i)
abbrev iN (n:Nat):SV:=.ex (.int .i64 ((n:Nat):Int))
abbrev bX (b:Bool):SV:=.ex (.bool b)
abbrev c2 (a b:SV):SV:=.cn a (.cn b .nl)
abbrev c3 (a b c:SV):SV:=.cn a (.cn b (.cn c .nl))
abbrev vE (f:Nat→Rat) (n:Nat):SV:=.sl 3 (fun i=>.rat (f i)) n
theorem dT{p:Prop} [Decidable p]:decide p=true→p:=of_decide_eq_true
theorem dF{p:Prop} [Decidable p]:decide p=false→¬p:=of_decide_eq_false
theorem kP [Fz]{f:FuncId}{fn:Func}{c:Code}{As:List SV}{R:SV}{news:List Hl}{ch:List CE}(hf:Tryz.prog.funcs[f]?=some fn)(p:Prop)(h:p)(hb:fn.body=some c:=by exact rfl)(hn:(fn.name== "runtime.NumGoroutine")=false:=by kernel_rfl)(hl:decide (As.length≤fn.ntmps)=true:=by kernel_rfl)
  (e:p=pre (noAll As) (vc Tryz.prog fn.ntmps c (retK Tryz.prog fn R news) ⟨⟨startF 0 As,[],0⟩,ch,0⟩):=by kernel_rfl):CallOK Tryz.prog f As R news:=callOK_P hMix hf hb hn hl p e h
theorem CallOK.of_ret [Fz]{P:Program}{f:FuncId}{As:List SV}{R:SV}{m:MR}(cal:Callable P f)(hm:∀η F w v,m.R w v→R.R η F w v)(h:∀η F w vals,ArgsR As η F w vals→Calls P f vals.toArray w (Ret m w)):CallOK P f As R []:=
 ⟨cal, fun η0 F w vals hF hA => (h η0 F w vals hA).mono fun e w' ⟨v, e1, g, hR⟩ => ⟨v, fun _ _ => none, e1,
  ⟨.of_grow g,(fun k i o hk=>by rw[ownsOf_nil] at hk;cases hk),(fun k i o _ _ hk=>by rw[ownsOf_nil] at hk;cases hk),(fun k i o _ _ _ _ _ _ hk=>by rw[ownsOf_nil] at hk;cases hk),fun _ _ _=>rfl,hF.lt,hF.gl,fun _ h=>h⟩,hm _ _ _ _ hR⟩⟩
theorem CallOK.told{P:Program}{f:FuncId}{As:List SV}{R R':SV}{news news':List Hl}(ss:List (Nat×Src))(h:CallOK P f As R news)(hc:conj (conv ss ⟨[(0,R)],newsL 0 news,news.length⟩ ⟨[(0,R')],newsL 0 news',news'.length⟩)):CallOK P f As R' news':=
 ⟨h.cal, fun η0 F w vals hF hA => (h.run η0 F w vals hF hA).mono fun e w' ⟨v, η, e1, hp, hR⟩ => by
  have hs:(Stt.ss ⟨[(0,R)],newsL 0 news,news.length⟩).own=ownsOf 0 news:=funext fun k=>newsL_lk news 0 k
  have hs':(Stt.ss ⟨[(0,R')],newsL 0 news',news'.length⟩).own=ownsOf 0 news':=funext fun k=>newsL_lk news' 0 k
  have hS2:Sat (fun _=>False) F w 1 (Stt.ss ⟨[(0,R)],newsL 0 news,news.length⟩) η ⟨#[v],[]⟩ w':=⟨by rw[hs];exact hp,fun t=>by
   rw[hs]
   show(if t=0 then R else SV.any).R _ _ _ _
   split
   ·rename_i e;subst e;exact hR
   ·trivial,rfl,rfl⟩
  have hC:=hS2.conv hc
  have h1:=hC.hp
  have h2:=hC.sl 0
  rw[hs'] at h1 h2
  exact⟨v,etaC ss η,e1,h1,h2⟩⟩
theorem CallOK.frzV{P:Program}{f:FuncId}{As:List SV}{T:TypeId}{n:Nat}{q:Nat→Rat}(h:CallOK P f As (.own 0 0) [.one (.row T 3 (fun i=>.rat (q i)) n)]):CallOK P f As (.sl 3 (fun i=>.rat (q i)) n) []:=
 h.told [] (Eq.mp (α:=n=n∧∀j,j<n→q j=q j) (by kernel_rfl) ⟨rfl,fun _ _=>rfl⟩)
theorem CallOK.frzV2{P:Program}{f:FuncId}{As:List SV}{T:TypeId}{n:Nat}{q:Nat→Rat}{b:Bool}(h:CallOK P f As (.cn (.own 0 0) (.cn (.ex (.bool b)) .nl)) [.one (.row T 3 (fun i=>.rat (q i)) n)]):CallOK P f As (.cn (.sl 3 (fun i=>.rat (q i)) n) (.cn (.ex (.bool b)) .nl)) []:=
 h.told [] (Eq.mp (α:=n=n∧(∀j,j<n→q j=q j)∧b=b) (by kernel_rfl) ⟨rfl,fun _ _=>rfl,rfl⟩)
def SV.nf:SV→Prop
 | .nat _=>False
 | .int _=>False
 | .rat _=>False
 | .sl _ E _=>∀i,(E i).nf
 | .ep a=>a.nf
 | .cn a b=>a.nf∧b.nf
 | .agg l=>l.nf
 | .opt _ a=>a.nf
 | .ifc _ a=>a.nf
 | .alt _ a b=>a.nf∧b.nf
 | _=>True
theorem SV.nf_ok{i j:Fz}{η:Eta}{A:Nat→Prop}{w:World}:∀(a:SV) (v:Value),a.nf→@SV.R i a η A w v→@SV.R j a η A w v:=by
 intro a
 induction a with
 | nat x=>intro _ h;exact h.elim
 | int x=>intro _ h;exact h.elim
 | rat x=>intro _ h;exact h.elim
 | sl s E n ih=>
  rintro v h ⟨A0,c,e,h0,h1,h2,k⟩
  refine⟨A0,c,e,h0,h1,h2,fun i hi=>?_⟩
  obtain⟨g,o,e1,e2,e3,e0,e4,e5,e6⟩:=k i hi
  exact⟨g,o,e1,e2,e3,e0,e4,ih i _ (h i) e5,e6⟩
 | ep a ih=>
  rintro v h ⟨g,o,e1,e2,e3,e0,e5,e6⟩
  exact⟨g,o,e1,e2,e3,e0,ih _ h e5,e6⟩
 | cn a b iha ihb=>
  rintro v h ⟨x,xs,e,h1,h2⟩
  exact⟨x,xs,e,iha _ h.1 h1,ihb _ h.2 h2⟩
 | agg l ih=>
  rintro v h ⟨vs,e,h1⟩
  exact⟨vs,e,ih _ h h1⟩
 | opt c a ih=>
  rintro v h ⟨h1,h2⟩
  exact⟨fun hc=>ih _ h (h1 hc),h2⟩
 | ifc T a ih=>
  rintro v h ⟨u,e,h1⟩
  exact⟨u,e,ih _ h h1⟩
 | alt c a b iha ihb=>
  rintro v h ⟨h1,h2⟩
  exact⟨fun hc=>iha _ h.1 (h1 hc),fun hc=>ihb _ h.2 (h2 hc)⟩
 | _=>intro _ _ h;exact h
def nfs:List SV→Prop
 | []=>True
 | a::l=>a.nf∧nfs l
theorem args_nf{i j:Fz}{η:Eta}{F:Nat→Prop}{w:World}:∀(As:List SV) (vs:List Value),nfs As→@ArgsR i As η F w vs→@ArgsR j As η F w vs
 | [],[],_,_=>trivial
 | a::l,v::vs,hn,h=>⟨SV.nf_ok a v hn.1 h.1,args_nf l vs hn.2 h.2⟩
 | [],_::_,_,h=>h.elim
 | _::_,[],_,h=>h.elim
theorem av_nil{F:Nat→Prop}{η:Eta}:Av F (ownsOf 0 []) η=F:=funext fun b=>propext ⟨fun h=>h.elim id (fun⟨k,i,o,_,h1,_⟩=>by rw[ownsOf_nil] at h1;cases h1),.inl⟩
theorem CallOK.off{P:Program}{f:FuncId}{As:List SV}{R:SV}(h:@CallOK ⟨false,none⟩ P f As R [])(hA:nfs As)(hR:R.nf):CallOK P f As R []:=
 ⟨@CallOK.cal ⟨false, none⟩ _ _ _ _ _ h, fun η0 F w vals hF ha => (@CallOK.run ⟨false, none⟩ _ _ _ _ _ h η0 F w vals (@Fl.mk ⟨false, none⟩ F w hF.lt fun _ e => by cases e) (args_nf As vals hA ha)).mono fun e w' ⟨v, η, e1, hp, hr⟩ => ⟨v, η, e1,
  ⟨.of_grow (@ModM.grow ⟨false, none⟩ _ _ (@Hp.mod ⟨false, none⟩ _ _ _ _ _ _ hp)), (fun k i o hk => by rw [ownsOf_nil] at hk; cases hk), (fun k i o _ _ hk => by rw [ownsOf_nil] at hk; cases hk), (fun k i o _ _ _ _ _ _ hk => by rw [ownsOf_nil] at hk; cases hk), fun k i hk => @Hp.born ⟨false, none⟩ _ _ _ _ _ _ hp k i hk, hF.lt, hF.gl, fun _ h => h⟩, by
   rw[av_nil] at hr⊢
   exact SV.nf_ok R v hR hr⟩⟩
theorem CallOK.args{P:Program}{f:FuncId}{As As':List SV}{R:SV}{news:List Hl}(h:CallOK P f As R news)(hA:∀η F w vals,ArgsR As' η F w vals→ArgsR As η F w vals):CallOK P f As' R news:=
 ⟨h.cal,fun η0 F w vals hF ha=>h.run η0 F w vals hF (hA _ _ _ _ ha)⟩
theorem CallOK.res{P:Program}{f:FuncId}{As:List SV}{R R':SV}(h:CallOK P f As R [])(hR:∀η A w v,R.R η A w v→R'.R η A w v):CallOK P f As R' []:=
 ⟨h.cal,fun η0 F w vals hF ha=>(h.run η0 F w vals hF ha).mono fun _ _ ⟨v,η,e1,hp,hr⟩=>⟨v,η,e1,hp,hR _ _ _ _ hr⟩⟩
theorem CallOK.ret [Fz]{P:Program}{f:FuncId}{As:List SV}{R:SV}{m:MR}(h:CallOK P f As R [])(hm:∀η A w v,R.R η A w v→m.R w v){w:World}{vals:List Value}(hA:ArgsR As (fun _ _=>none) (fun _=>False) w vals)(hg:Gl w:=by intro _ e;cases e):Calls P f vals.toArray w (Ret m w):=
 (h.run (fun _ _=>none) (fun _=>False) w vals ⟨fun _ h=>h.elim,hg⟩ hA).mono fun _ _ ⟨v,_,e1,hp,hR⟩=>⟨v,e1,hp.mod.grow,hm _ _ _ _ hR⟩
theorem int_open{z:Int}{η:Eta}{A:Nat→Prop}{w:World}{v:Value}(h:(SV.int z).R η A w v):(SV.agg (.cn (.ex (.bool (decide (z<0)))) (.cn (.nat z.natAbs) .nl))).R η A w v:=by
 obtain⟨⟨s,rfl,h⟩,on⟩:=h
 exact⟨[.bool _,.agg #[s]],rfl,_,_,rfl,rfl,_,_,rfl,⟨h,on⟩,rfl⟩
theorem rat_open{q:Rat}{η:Eta}{A:Nat→Prop}{w:World}{v:Value}(h:(SV.rat q).R η A w v):(SV.agg (.cn (.int q.num) (.cn (.nat (denW q)) .nl))).R η A w v:=by
 obtain⟨⟨s,t,rfl,h1,h2⟩,on⟩:=h
 exact⟨[.agg #[.bool _,s],.agg #[t]],rfl,_,_,rfl,⟨⟨s,rfl,h1⟩,on⟩,_,_,rfl,⟨h2,on⟩,rfl⟩
theorem rat_close{q:Rat}{η:Eta}{A:Nat→Prop}{w:World}{v:Value}(h:(SV.agg (.cn (.int q.num) (.cn (.nat (denW q)) .nl))).R η A w v):(SV.rat q).R η A w v:=by
 obtain⟨vs,rfl,x,xs,e,⟨⟨s,rfl,h1⟩,_⟩,y,ys,e2,⟨hn,on⟩,e3⟩:=h
 obtain rfl:=tup_inj e
 obtain rfl:=tup_inj e2
 obtain rfl:ys=[]:=tup_inj e3
 have hn':=hn
 obtain⟨B,c,rfl,_⟩:=hn
 exact⟨⟨s,_,rfl,h1,hn'⟩,on⟩
theorem rat_close1{q:Rat}(hd:q.den=1){η:Eta}{A:Nat→Prop}{w:World}{v:Value}(h:(SV.agg (.cn (.int q.num) (.cn (.ex (.slice none 0 0)) .nl))).R η A w v):(SV.rat q).R η A w v:=by
 obtain⟨vs,rfl,x,xs,e,⟨⟨s,rfl,h1⟩,on⟩,y,ys,e2,rfl,e3⟩:=h
 obtain rfl:=tup_inj e
 obtain rfl:=tup_inj e2
 obtain rfl:ys=[]:=tup_inj e3
 exact⟨⟨s,_,rfl,h1,by unfold denW;rw[if_pos hd];exact NatAt.zero _ w⟩,on⟩
theorem argI1{z:Int}{η:Eta}{F:Nat→Prop}{w:World}:∀vals,ArgsR [.int z] η F w vals→ArgsR [.agg (.cn (.ex (.bool (decide (z<0)))) (.cn (.nat z.natAbs) .nl))] η F w vals
 | [_],h=>⟨int_open h.1,trivial⟩
 | [],h=>h.elim
 | _::_::_,h=>h.2.elim
theorem argI2{y z:Int}{η:Eta}{F:Nat→Prop}{w:World}:∀vals,ArgsR [.int y,.int z] η F w vals→ArgsR [.agg (.cn (.ex (.bool (decide (y<0)))) (.cn (.nat y.natAbs) .nl)),.agg (.cn (.ex (.bool (decide (z<0)))) (.cn (.nat z.natAbs) .nl))] η F w vals
 | [_,_],h=>⟨int_open h.1,int_open h.2.1,trivial⟩
 | [],h=>h.elim
 | [_],h=>h.2.elim
 | _::_::_::_,h=>h.2.2.elim
theorem argQ1{q:Rat}{η:Eta}{F:Nat→Prop}{w:World}:∀vals,ArgsR [.rat q] η F w vals→ArgsR [.agg (.cn (.int q.num) (.cn (.nat (denW q)) .nl))] η F w vals
 | [_],h=>⟨rat_open h.1,trivial⟩
 | [],h=>h.elim
 | _::_::_,h=>h.2.elim
theorem argQ2{p q:Rat}{η:Eta}{F:Nat→Prop}{w:World}:∀vals,ArgsR [.rat p,.rat q] η F w vals→ArgsR [.agg (.cn (.int p.num) (.cn (.nat (denW p)) .nl)),.agg (.cn (.int q.num) (.cn (.nat (denW q)) .nl))] η F w vals
 | [_,_],h=>⟨rat_open h.1,rat_open h.2.1,trivial⟩
 | [],h=>h.elim
 | [_],h=>h.2.elim
 | _::_::_::_,h=>h.2.2.elim
theorem sNatCmp{x y:Nat}:CallOK Tryz.prog 157 [.nat x,.nat y] (.ex (.int .i64 (cmpV ((x:Nat):Int) ((y:Nat):Int)))) []:=by
 refine .of_ret (m:=.eq (.int .i64 (cmpV x y))) (callable_of Tryz.func157 rfl (by kernel_rfl)) (fun _ _ _ v h=>h) fun η F w vals h=>?_
 match vals,h with
 | [v0,v1],h=>exact cNatCmp h.1.1 h.2.1.1
theorem sNatAdd{x y:Nat}(hs:Small (x+y)):CallOK Tryz.prog 130 [.nat x,.nat y] (.nat (x+y)) []:=by
 refine .of_ret (m:=.nat (x+y)) (callable_of Tryz.func130 rfl (by kernel_rfl)) (fun _ _ _ v h=>⟨h,rfl⟩) fun η F w vals h=>?_
 match vals,h with
 | [v0,v1],h=>exact cNatAdd h.1.1 h.2.1.1 hs
theorem sNatSub{x y:Nat}:CallOK Tryz.prog 131 [.nat x,.nat y] (.cn (.nat (x-y)) (.cn (.ex (.bool (decide (y≤x)))) (.nl))) []:=by
 refine .of_ret (m:=.tup2 (.nat (x-y)) (.eq (.bool (decide (y≤x))))) (callable_of Tryz.func131 rfl (by kernel_rfl)) (fun _ _ _ v h=>by obtain⟨x,y,rfl,h1,h2⟩:=h;exact⟨x,[y],rfl,⟨h1,rfl⟩,y,[],rfl,h2,rfl⟩) fun η F w vals h=>?_
 match vals,h with
 | [v0,v1],h=>exact cNatSub h.1.1 h.2.1.1
theorem sNatLen{x:Nat}:CallOK Tryz.prog 127 [.nat x] (.ex (.int .i64 ((nw x:Nat):Int))) []:=by
 refine .of_ret (m:=.eq (.int .i64 ((nw x:Nat):Int))) (callable_of Tryz.func127 rfl (by kernel_rfl)) (fun _ _ _ v h=>h) fun η F w vals h=>?_
 match vals,h with
 | [v0],h=>exact cNatLen h.1.1
theorem sNatUint{x:Nat}:CallOK Tryz.prog 152 [.nat x] (.cn (.ex (.int .u64 ((uintV x:Nat):Int))) (.cn (.ex (.bool (uintOk x))) (.nl))) []:=by
 refine .of_ret (m:=.tup2 (.eq (.int .u64 ((uintV x:Nat):Int))) (.eq (.bool (uintOk x)))) (callable_of Tryz.func152 rfl (by kernel_rfl)) (fun _ _ _ v h=>by obtain⟨x,y,rfl,h1,h2⟩:=h;exact⟨x,[y],rfl,h1,y,[],rfl,h2,rfl⟩) fun η F w vals h=>?_
 match vals,h with
 | [v0],h=>exact cNatUint h.1.1
theorem sNatZero{x:Nat}:CallOK Tryz.prog 117 [.nat x] (.ex (.bool (decide (x=0)))) []:=by
 refine .of_ret (m:=.eq (.bool (decide (x=0)))) (callable_of Tryz.func117 rfl (by kernel_rfl)) (fun _ _ _ v h=>h) fun η F w vals h=>?_
 match vals,h with
 | [v0],h=>exact cNatZero h.1.1
theorem sIntNew{b:Bool}{x:Nat}:CallOK Tryz.prog 88 [.ex (.bool b),.nat x] (.int (signed b x)) []:=by
 refine .of_ret (m:=.int (signed b x)) (callable_of Tryz.func88 rfl (by kernel_rfl)) (fun _ _ _ v h=>⟨h,rfl⟩) fun η F w vals h=>?_
 match vals,h with
 | [v0,v1],h=>exact(by obtain rfl:=h.1;exact cNew h.2.1.1)
theorem sSchool{x y:Nat}(hs:nw x+nw y≤1099511627776):CallOK Tryz.prog 128 [.nat x,.nat y] (.nat (x*y)) []:=by
 refine .of_ret (m:=.nat (x*y)) (callable_of Tryz.func128 rfl (by kernel_rfl)) (fun _ _ _ v h=>⟨h,rfl⟩) fun η F w vals h=>?_
 match vals,h with
 | [v0,v1],h=>exact cSchool h.1.1 h.2.1.1 hs
theorem sNatOf{f:Nat→Nat}{n:Nat}(hn:n≤1099511627776)(hw:Wf f n):CallOK Tryz.prog 89 [.sl 1 (fun i=>.ex (.int .u64 ((f i:Nat):Int))) n] (.nat (val f n)) []:=by
 refine .of_ret (m:=.nat (val f n)) (callable_of Tryz.func89 rfl (by kernel_rfl)) (fun _ _ _ v h=>⟨h,rfl⟩) fun η F w vals h=>?_
 match vals,h with
 | [v0],h=>
  obtain⟨A,c,rfl,h1,h2,h3,h4⟩:=h.1
  exact(nOf (fun _=>False) A n c f w (lows0 w) (fun i hi=>by
   obtain⟨g,o,ea,hg,hl,e,⟨hs,ho⟩,he,hc⟩:=h4 i hi
   obtain rfl:e=.int .u64 ((f i:Nat):Int):=he
   exact⟨g,o,ea,id,hl,by have:=hc 0 (.int .u64 ((f i:Nat):Int)) rfl;rw[show o+1*i+0=o+i by omega] at this;exact this⟩) hw hn h1).mono fun _ _ ⟨v,e,h1,h2⟩=>⟨v,e,h2,h1⟩
theorem sNatOf1{k:Nat}(hk:k<18446744073709551616):CallOK Tryz.prog 89 [.sl 1 (fun _=>.ex (.int .u64 ((k:Nat):Int))) 1] (.nat k) []:=by
 have h:=sNatOf (f:=fun _=>k) (n:=1) (by decide) (fun _ _=>hk)
 have e:val (fun _=>k) 1=k:=by simp[val]
 rw[e] at h
 exact h
open Go.RowKit
def gq (u2 u1 u0 v1 v0:Nat):Nat:=min 18446744073709551615 (((u2*18446744073709551616+u1)*18446744073709551616+u0)/(v1*18446744073709551616+v0))
def GInv (u2 u1 u0 v1 v0 q r:Nat):Prop:=q<18446744073709551616∧r<18446744073709551616∧r+q*v1=u2*18446744073709551616+u1∧gq u2 u1 u0 v1 v0≤q
section
variable {u2 u1 u0 v1 v0 q r:Nat}
theorem gq_of(hv:0<v1)(hq:q<18446744073709551616)(h1:gq u2 u1 u0 v1 v0≤q)(h2:q*(v1*18446744073709551616+v0)≤(u2*18446744073709551616+u1)*18446744073709551616+u0):q=gq u2 u1 u0 v1 v0:=by
 have h3:q≤((u2*18446744073709551616+u1)*18446744073709551616+u0)/(v1*18446744073709551616+v0):=(Nat.le_div_iff_mul_le zo).2 h2
 have h4:q≤gq u2 u1 u0 v1 v0:=by unfold gq;omega
 omega
theorem lin_le{q v1 v0 r U:Nat}(h:r+q*v1=U)(u0:Nat):q*(v1*18446744073709551616+v0)≤U*18446744073709551616+u0↔q*v0≤r*18446744073709551616+u0:=by
 subst h
 rw[Nat.mul_add,←Nat.mul_assoc,Nat.add_mul]
 omega
theorem g_start_yes(h:u2<v1)(h1:u1<18446744073709551616)(hv1:v1<18446744073709551616)(h0:u0<18446744073709551616):GInv u2 u1 u0 v1 v0 (divQ u2 u1 v1) (divR u2 u1 v1):=by
 have hq:divQ u2 u1 v1<18446744073709551616:=by
  unfold divQ
  rw[Nat.div_lt_iff_lt_mul zo]
  have:(u2+1)*18446744073709551616≤v1*18446744073709551616:=Nat.mul_le_mul_right _ h
  rw[Nat.mul_comm 18446744073709551616 v1]
  omega
 have hr:divR u2 u1 v1<v1:=Nat.mod_lt _ zo
 have he:divR u2 u1 v1+divQ u2 u1 v1*v1=u2*18446744073709551616+u1:=by
  unfold divR divQ
  have:=Nat.mod_add_div (u2*18446744073709551616+u1) v1
  rw[Nat.mul_comm v1] at this
  exact this
 refine⟨hq,by omega,he,?_⟩
 have:((u2*18446744073709551616+u1)*18446744073709551616+u0)/(v1*18446744073709551616+v0)<divQ u2 u1 v1+1:=by
  rw[Nat.div_lt_iff_lt_mul zo]
  have e:(divQ u2 u1 v1+1)*(v1*18446744073709551616+v0)=(divQ u2 u1 v1+1)*v1*18446744073709551616+(divQ u2 u1 v1+1)*v0:=by rw[Nat.mul_add,Nat.mul_assoc]
  rw[e]
  have h5:u2*18446744073709551616+u1+1≤(divQ u2 u1 v1+1)*v1:=by rw[Nat.add_mul,Nat.one_mul];omega
  have h6:=Nat.mul_le_mul_right 18446744073709551616 h5
  omega
 unfold gq;omega
theorem g_over(he:u2=v1)(hv0:v0<18446744073709551616)(h:18446744073709551616≤u1+v1)(hv:0<v1):18446744073709551615=gq u2 u1 u0 v1 v0:=by
 subst he
 refine gq_of hv zo (by unfold gq;omega) ?_
 rw[lin_le (r:=u1+u2) (U:=u2*18446744073709551616+u1) zo]
 omega
theorem g_start_no(he:u2=v1)(h:u1+v1<18446744073709551616):GInv u2 u1 u0 v1 v0 18446744073709551615 (u1+v1):=by
 subst he
 refine⟨by omega,h,by omega,by unfold gq;omega⟩
theorem g_done(hv:0<v1)(hi:GInv u2 u1 u0 v1 v0 q r)(h:q*v0≤r*18446744073709551616+u0):q=gq u2 u1 u0 v1 v0:=
 gq_of hv hi.1 hi.2.2.2 ((lin_le hi.2.2.1 u0).2 h)
theorem g_less(hv:0<v1)(hi:GInv u2 u1 u0 v1 v0 q r)(h:r*18446744073709551616+u0<q*v0):0<q∧gq u2 u1 u0 v1 v0≤q-1:=by
 unfold gq
 have h1:¬q*(v1*18446744073709551616+v0)≤(u2*18446744073709551616+u1)*18446744073709551616+u0:=fun hh=>by
  have:=(lin_le hi.2.2.1 u0).1 hh
  omega
 have h2:((u2*18446744073709551616+u1)*18446744073709551616+u0)/(v1*18446744073709551616+v0)<q:=(Nat.div_lt_iff_lt_mul zo).2 (Nat.lt_of_not_le h1)
 have h3:0<q:=Nat.lt_of_le_of_lt (Nat.zero_le _) h2
 clear h1 h hi
 generalize ((u2*18446744073709551616+u1)*18446744073709551616+u0)/(v1*18446744073709551616+v0)=z at*
 exact⟨h3,by omega⟩
theorem g_down(hv:0<v1)(hi:GInv u2 u1 u0 v1 v0 q r)(h:r*18446744073709551616+u0<q*v0)(hr:r+v1<18446744073709551616):GInv u2 u1 u0 v1 v0 (q-1) (r+v1):=by
 obtain⟨h1,h2⟩:=g_less hv hi h
 obtain⟨a1,a2,a3,a4⟩:=hi
 refine⟨by omega,hr,?_,h2⟩
 obtain⟨p,rfl⟩:∃p,q=p+1:=⟨q-1,by omega⟩
 rw[Nat.add_mul,Nat.one_mul] at a3
 rw[Nat.add_sub_cancel];omega
theorem g_down_over(hv:0<v1)(hv0:v0<18446744073709551616)(hi:GInv u2 u1 u0 v1 v0 q r)(h:r*18446744073709551616+u0<q*v0)(hr:18446744073709551616≤r+v1):q-1=gq u2 u1 u0 v1 v0:=by
 obtain⟨h1,h2⟩:=g_less hv hi h
 obtain⟨a1,a2,a3,a4⟩:=hi
 obtain⟨p,rfl⟩:∃p,q=p+1:=⟨q-1,by omega⟩
 rw[Nat.add_mul,Nat.one_mul] at a3
 rw[Nat.add_sub_cancel] at*
 refine gq_of hv zo h2 ((lin_le (r:=r+v1) zo u0).2 ?_)
 have e1:p*v0≤18446744073709551615*v0:=Nat.mul_le_mul_right _ zo
 have e2:18446744073709551616*18446744073709551616≤(r+v1)*18446744073709551616:=Nat.mul_le_mul_right _ hr
 omega
end
theorem knuth{U V W P B qh:Nat}(hW:0<W)(hP:0<P)(hB:0<B)(hV:B*W≤V)(hU:U<V*(B*P))(hq:qh=min (B-1) (U/(W*P)/(V/W))):
  U<(qh+1)*(V*P)∧qh*(V*P)≤U+V*P:=by
 have hVW:0<V/W:=Nat.div_pos (Nat.le_trans (Nat.le_mul_of_pos_left W hB) hV) hW
 have hWP:0<W*P:=Nat.mul_pos hW hP
 constructor
 ·by_cases h:B-1≤U/(W*P)/(V/W)
  ·have:qh+1=B:=by omega
   rw[this,Nat.mul_left_comm];exact hU
  ·have h1:U/(W*P)/(V/W)<qh+1:=by omega
   rw[Nat.div_lt_iff_lt_mul hVW] at h1
   have h2:U/(W*P)<(qh+1)*(V/W):=h1
   have h3:U<(qh+1)*(V/W)*(W*P):=(Nat.div_lt_iff_lt_mul hWP).1 h2
   refine Nat.lt_of_lt_of_le h3 ?_
   rw[Nat.mul_assoc]
   refine Nat.mul_le_mul_left _ ?_
   rw[←Nat.mul_assoc]
   exact Nat.mul_le_mul_right _ (Nat.div_mul_le_self _ _)
 ·have h1:qh≤U/(W*P)/(V/W):=by omega
  have h2:qh*(V/W)≤U/(W*P):=(Nat.le_div_iff_mul_le hVW).1 h1
  have h3:qh*(V/W)*(W*P)≤U:=(Nat.le_div_iff_mul_le hWP).1 h2
  have h4:V≤V/W*W+W:=by
   have:=Nat.mod_add_div V W
   have h5:=Nat.mod_lt V hW
   rw[Nat.mul_comm (V/W)];omega
  have h5:qh*(V*P)≤qh*((V/W*W+W)*P):=Nat.mul_le_mul_left _ (Nat.mul_le_mul_right _ h4)
  have h6:qh*((V/W*W+W)*P)=qh*(V/W)*(W*P)+qh*W*P:=by
   rw[Nat.add_mul,Nat.mul_add];congr 1<;>simp only[Nat.mul_assoc]
  have h7:qh*W*P≤V*P:=Nat.mul_le_mul_right _ (Nat.le_trans (Nat.mul_le_mul_right _ zo) hV)
  omega
theorem high_zero{f:Nat→Nat}{N j:Nat}(hw:Wf f N)(h:val f N<2^(64*j)):∀i,j≤i→i<N→f i=0:=fun i h1 h2=>by
 rw[←wd_val f N i hw h2]
 exact wd_high _ _ (Nat.le_trans ((nw_le _ _).2 h) h1)
theorem low_of_zero{f:Nat→Nat}{N j:Nat}(hw:Wf f N)(hj:j≤N)(h:∀i,j≤i→i<N→f i=0):val f N<2^(64*j):=by
 rw[val_ext f j N hj h]
 exact val_lt f j fun i hi=>hw i zo
theorem div_add_small{a b c:Nat}(h:a<b):(a+c*b)/b=c:=by
 rw[Nat.add_mul_div_right _ _ zo,Nat.div_eq_of_lt h,Nat.zero_add]
theorem top3{f:Nat→Nat}{N j:Nat}(hw:Wf f N)(hj:j+3≤N)(h:val f N<2^(64*(j+3))):val f N/2^(64*j)=(f (j+2)*18446744073709551616+f (j+1))*18446744073709551616+f j:=by
 have e:val f N=val f j+((f (j+2)*18446744073709551616+f (j+1))*18446744073709551616+f j)*2^(64*j):=by
  rw[val_ext f (j+3) N hj (high_zero hw h),val,val,val,p64 (j+1),p64 j]
  simp only[Nat.add_mul,Nat.mul_assoc]
  omega
 rw[e,div_add_small (val_lt f j fun i hi=>hw i zo)]
theorem top2{V m:Nat}(h:nw V≤m+2):V/2^(64*m)=wd V (m+1)*18446744073709551616+wd V m:=by
 have e:V=val (wd V) m+(wd V (m+1)*18446744073709551616+wd V m)*2^(64*m):=by
  have h1:=val_all V (m+2) h
  rw[val,val,p64 m] at h1
  simp only[Nat.add_mul,Nat.mul_assoc]
  omega
 have h2:=div_add_small (c:=wd V (m+1)*18446744073709551616+wd V m) (val_lt (wd V) m (wf_wd V m))
 rw[←e] at h2
 exact h2
open Go.RowKit
structure Mod (g:Nat) (w w':World):Prop where
 os:w'.os=w.os
 tape:w'.tape=w.tape
 output:w'.output=w.output
 size:w.heap.size≤w'.heap.size
 block:∀k,k<w.heap.size→k≠g→w'.heap[k]?=w.heap[k]?
section
variable {g:Nat} {a b c w w':World} {F:Nat→Prop} {x:Nat} {v:Value}
theorem Mod.refl(g:Nat)(w:World):Mod g w w:=⟨rfl,rfl,rfl,Nat.le_refl _,fun _ _ _=>rfl⟩
theorem Mod.step(h:Mod g a b)(k:Mod g b c):Mod g a c:=
 ⟨k.os.trans h.os,k.tape.trans h.tape,k.output.trans h.output,Nat.le_trans h.size k.size,fun i hi hg=>(k.block i (Nat.lt_of_lt_of_le hi h.size) hg).trans (h.block i hi hg)⟩
theorem Grow.toMod(g:Nat)(h:Grow a b):Mod g a b:=⟨h.os,h.tape,h.output,h.size,fun k hk _=>h.block k hk⟩
theorem Mod.trans(h:Mod g a b)(k:Grow b c):Mod g a c:=h.step (k.toMod g)
theorem Put.toMod(p:Put a b g):Mod g a b:=⟨p.os,p.tape,p.output,by rw[p.size];exact Nat.le_refl _,fun k _ hk=>p.other k hk⟩
theorem Grow.mod(h:Grow w a)(m:Mod g a b)(hg:w.heap.size≤g):Grow w b:=
 Below.trans h ⟨m.os,m.tape,m.output,m.size,fun i hi=>m.block i (Nat.lt_of_lt_of_le hi h.size) zo⟩
def MR.natF (F:Nat→Prop) (x:Nat):MR:=⟨fun w v=>NatAt F w v x,fun h k=>NatAt.keep k (Keeps.of_below h)⟩
theorem natF_mod(h:(MR.natF F x).R w v)(m:Mod g w w')(hF:F g):(MR.natF F x).R w' v:=
 NatAt.keep h ⟨m.size,fun k hk hf=>m.block k hk fun e=>hf (e▸hF)⟩
theorem Box.mod{k:Nat}{T:TypeId}(h:Box w k T (.natF F x))(m:Mod g w w')(hF:F g)(hne:k≠g):Box w' k T (.natF F x):=by
 obtain⟨v,hb,h⟩:=h
 exact⟨v,(m.block k hb.lt hne).trans hb,natF_mod h m hF⟩
theorem Box.natF{k:Nat}{T:TypeId}(h:Box w k T (.nat x))(hF:∀k,F k→w.heap.size≤k):Box w k T (.natF F x):=by
 obtain⟨v,hb,h⟩:=h
 exact⟨v,hb,NatAt.own h fun k hk=>.inr (hF k hk)⟩
theorem Blk.mod{k:Nat}{t:TypeId}{cs:Array Value}(h:Blk w k t cs)(m:Mod g w w')(hne:k≠g):Blk w' k t cs:=(m.block k h.lt hne).trans h
theorem shNatF{F:Nat→Prop}{x:Nat}:Shape (.natF F x) 1:=fun {w v} h=>by
 obtain⟨A,c,rfl,_⟩:NatAt _ w v x:=h
 exact⟨_,rfl,rfl,by simp[Value.oneCell']⟩
theorem St.natF{B:Nat}{F:Nat→Prop}{x:Nat}:St B (.natF F x):=fun {w w' v} e h=>by
 obtain⟨A,c,rfl,h1,h2,hs,h3⟩:NatAt _ w v x:=h
 refine⟨A,c,rfl,h1,h2,hs,fun i hi=>?_⟩
 obtain⟨g,o,e',⟨hf,hu⟩,hl,hc⟩:=h3 i hi
 exact⟨g,o,e',⟨hf,hu.ext e⟩,Nat.lt_of_lt_of_le hl e.1,(World.cell?_of_block (w:=w) (e.2.1 g hu)).trans hc⟩
theorem cLenF(ha:(MR.natF F x).R w v):Calls Tryz.prog 127 #[v] w (Ret (.eq (.int .i64 ((nw x:Nat):Int))) w):=
 (nLen F v x w ha).mono fun _ _ ⟨e,h2⟩=>⟨_,e,h2,rfl⟩
theorem cWordF{k:Nat}(ha:(MR.natF F x).R w v):Calls Tryz.prog 154 #[v,.int .i64 ((k:Nat):Int)] w (Ret (.eq (.int .u64 ((wd x k:Nat):Int))) w):=
 (nWord F v x k zo w ha).mono fun _ _ ⟨e,h2⟩=>⟨_,e,h2,by simp;rfl⟩
end
def RetB (g L:Nat) (Φ:Value→(Nat→Nat)→Prop) (w:World) (e:Ending) (w':World):Prop:=∃v f,e=.returned v∧Mod g w w'∧Blk w' g 145 (wa f L)∧Φ v f
section
variable {P:Program} {fn:Func} {w0 w:World} {a:Act} {s g L:Nat} {f:Nat→Nat} {Φ:Value→(Nat→Nat)→Prop}
theorem body_slotB(hr:fn.results=#[.tmp s])(hW:Mod g w0 w)(hB:Blk w g 145 (wa f L))(hΦ:Φ (a.tmps.getD s undef) f)(hd:a.defers=[]):bodyPost P fn (RetB g L Φ w0) .ret a w:=by
 refine bodyPost_ret (v:=a.tmps.getD s undef) ?_ hd ⟨_,f,rfl,hW,hB,hΦ⟩
 unfold results
 rw[hr]
 simp
theorem body_noneB(hr:fn.results=#[])(hW:Mod g w0 w)(hB:Blk w g 145 (wa f L))(hΦ:∀v,Φ v f)(hd:a.defers=[]):bodyPost P fn (RetB g L Φ w0) .ret a w:=by
 refine bodyPost_ret (v:=.tuple #[]) ?_ hd ⟨_,f,rfl,hW,hB,hΦ _⟩
 unfold results
 rw[hr]
 simp
end
section
variable {o:Oper} {ρ:Operand→Value} {w:World} {x y:Operand} {f:Nat→Nat} {g oo n c i k L:Nat} {z:Int}
theorem yld_indexE(h:o.op=.indexAddr 41 x y)(hx:ρ x=.slice (some ⟨g,oo,none⟩) n c)(hy:ρ y=.int .i64 z)(hz:z=((k:Nat):Int))(hk:k<n){j:Nat}(hj:oo+k=j):Yld Tryz.prog o ρ w (fun v w'=>Grow w w'∧(MR.eq (.pointer (some ⟨g,j,none⟩))).R w' v):=by
 subst hj
 obtain⟨i0,hi0,_,hz1,_⟩:=infoParts u64Info
 have hrun:(execOp ρ o).run Tryz.prog w=.ok (.value (.pointer (some ⟨g,oo+k,none⟩))) w:=by
  unfold execOp
  rw[h]
  have h1:(0:Int)≤(k:Int)∧(k:Int)<(n:Int):=by omega
  simp[Instr.indexAt,hx,hy,hz,asIntOf,run_underlying Tryz.underlying41,sizeOf,typeInfo,hi0,hz1,hk,add_plain]
 exact yld_val hrun ⟨Grow.refl _,rfl⟩
theorem yld_loadE(h:o.op=.load 145 x)(hx:ρ x=.pointer (some ⟨g,i,none⟩))(hB:Blk w g 145 (wa f L))(hi:i<L):Yld Tryz.prog o ρ w (fun v w'=>Grow w w'∧(MR.eq (.int .u64 ((f i:Nat):Int))).R w' v):=by
 have hc:w.cell? ⟨g,i,none⟩=some (.int .u64 (f i:Nat)):=by rw[hB.cell,wa_at f L i hi]
 exact yld_load (v:=.int .u64 ((f i:Nat):Int)) h (by rw[hx];simp[Instr.loadAt,Instr.sureAddr,loadVar,Sem.run_bind,hc]) ⟨Grow.refl _,rfl⟩
theorem yld_storeE{v:Nat}{Φ:Value→World→Prop}(h:o.op=.store 145 x y)(hx:ρ x=.pointer (some ⟨g,i,none⟩))(hy:ρ y=.int .u64 ((v:Nat):Int))(hB:Blk w g 145 (wa f L))(hi:i<L)
  (K:∀w',Put w w' g→Blk w' g 145 (wa (upd f i v) L)→Φ undef w'):Yld Tryz.prog o ρ w Φ:=by
 have hc:w.cell? ⟨g,i,none⟩=some (.int .u64 (f i:Nat)):=by rw[hB.cell,wa_at f L i hi]
 have hf:=hB.frozen i
 refine yld_store (w':=w.setCell ⟨g,i,none⟩ (.int .u64 (v:Nat))) h ?_ (K _ ?_ ?_)
 ·rw[hx,hy];simp[Instr.storeAt,Instr.sureAddr,storeVar,Sem.run_bind,Value.cells,storeCells,add_plain];rw[run_store (hv:=rfl)];simp[hc,hf]
 ·exact⟨by simp[World.setCell],fun k hk=>Below.heap_setCell w _ _ k hk,rfl,rfl,rfl⟩
 ·rw[←wa_upd];exact hB.set_ i _
theorem yld_sliceE{p q:Int}{l r:Nat}{x2 y2:Operand}(h:o.op=.slice 41 x (some x2) (some y2) none)(hx:ρ x=.slice (some ⟨g,oo,none⟩) n c)(hp:ρ x2=.int .i64 p)(hq:ρ y2=.int .i64 q)(ep:p=((l:Nat):Int))(eq:q=((r:Nat):Int))(hl:l<r)(hr:r≤c){j m:Nat}(hj:oo+l=j)(hm:r-l=m):
  Yld Tryz.prog o ρ w (fun v w'=>Grow w w'∧(MR.eq (.slice (some ⟨g,j,none⟩) m (c-l))).R w' v):=by
 subst hj hm ep eq
 obtain⟨i0,hi0,_,hz1,_⟩:=infoParts u64Info
 have hcl:¬c=l:=by omega
 have hE:Tryz.prog.underlying 41=some (.slice (Tryz.prog.elem 41)):=by kernel_rfl
 have hs:(sizeOf (Tryz.prog.elem 41)).run Tryz.prog w=.ok 1 w:=by
  rw[show Tryz.prog.elem 41=145 by kernel_rfl]
  simp[sizeOf,typeInfo,hi0,hz1]
 have hrun:(execOp ρ o).run Tryz.prog w=.ok (.value (.slice (some ⟨g,oo+l,none⟩) (r-l) (c-l))) w:=by
  unfold execOp
  rw[h]
  simp only[hx,hp,hq,Option.map_some,Option.map_none,Sem.run_bind,run_sliceAt_slice w _ _ _ _ _ hE]
  rw[run_slice_lh w _ _ _ _ hE _ _ _ _ zo zo zo,hs]
  simp[sliced,hcl,add_plain]
 exact yld_val hrun ⟨Grow.refl _,rfl⟩
end
section
variable {w:World} {x y z:Nat}
theorem cWAdd(hx:x<18446744073709551616)(hy:y<18446744073709551616)(hz:z≤1):Calls Tryz.prog 156 #[.int .u64 ((x:Nat):Int),.int .u64 ((y:Nat):Int),.int .u64 ((z:Nat):Int)] w (Ret (.tup2 (.eq (.int .u64 (((x+y+z)%18446744073709551616:Nat):Int))) (.eq (.int .u64 (((x+y+z)/18446744073709551616:Nat):Int)))) w):=
 (wAdd x y z ⟨by omega, by omega⟩ ⟨by omega, by omega⟩ zo zo w).mono fun e w' ⟨s, d, he, ⟨⟨h1, h2⟩, h3, h4, h5⟩, hw⟩ => by
  subst hw
  exact⟨_,he,Grow.refl _,_,_,rfl,by show Value.int _ _=_;congr 1;omega,by show Value.int _ _=_;congr 1;omega⟩
def sbW (x y z:Nat):Nat:=(x+36893488147419103232-y-z)%18446744073709551616
def sbB (x y z:Nat):Nat:=if x<y+z then 1 else 0
theorem cWSub(hx:x<18446744073709551616)(hy:y<18446744073709551616)(hz:z≤1):Calls Tryz.prog 158 #[.int .u64 ((x:Nat):Int),.int .u64 ((y:Nat):Int),.int .u64 ((z:Nat):Int)] w (Ret (.tup2 (.eq (.int .u64 ((sbW x y z:Nat):Int))) (.eq (.int .u64 ((sbB x y z:Nat):Int)))) w):=
 (wSub x y z ⟨by omega, by omega⟩ ⟨by omega, by omega⟩ zo zo w).mono fun e w' ⟨s, d, he, ⟨⟨h1, h2⟩, h3, h4, h5⟩, hw⟩ => by
  subst hw
  exact⟨_,he,Grow.refl _,_,_,rfl,by show Value.int _ _=_;congr 1;unfold sbW;omega,by show Value.int _ _=_;congr 1;unfold sbB;split<;>omega⟩
theorem sb_eq(hx:x<18446744073709551616)(hy:y<18446744073709551616)(hz:z≤1):sbW x y z<18446744073709551616∧sbB x y z≤1∧sbW x y z+y+z=x+18446744073709551616*sbB x y z:=by
 unfold sbW sbB;split<;>omega
theorem mulRel_eq{x y a b:Nat}{hi lo:Int}(h:MulRel x y a b hi lo):hi=(((x*y+a+b)/18446744073709551616:Nat):Int)∧lo=(((x*y+a+b)%18446744073709551616:Nat):Int):=by
 obtain⟨hi',lo',rfl,rfl,h1,h2,h3⟩:=mulRel_nat h
 constructor<;>(congr 1;omega)
theorem cWMul(hx:x<18446744073709551616)(hy:y<18446744073709551616):Calls Tryz.prog 169 #[.int .u64 ((x:Nat):Int),.int .u64 ((y:Nat):Int)] w (Ret (.tup2 (.eq (.int .u64 (((x*y)/18446744073709551616:Nat):Int))) (.eq (.int .u64 (((x*y)%18446744073709551616:Nat):Int)))) w):=
 (wMul x y ⟨by omega, by omega⟩ ⟨by omega, by omega⟩ w).mono fun e w' ⟨s, d, he, hr, hw⟩ => by
  subst hw
  obtain⟨e1,e2⟩:=mulRel_eq (a:=0) (b:=0) hr
  exact⟨_,he,Grow.refl _,_,_,rfl,by show Value.int _ _=_;rw[e1];rfl,by show Value.int _ _=_;rw[e2];rfl⟩
theorem cWMulAdd{a b:Nat}(hx:x<18446744073709551616)(hy:y<18446744073709551616)(ha:a<18446744073709551616)(hb:b<18446744073709551616):Calls Tryz.prog 153 #[.int .u64 ((x:Nat):Int),.int .u64 ((y:Nat):Int),.int .u64 ((a:Nat):Int),.int .u64 ((b:Nat):Int)] w (Ret (.tup2 (.eq (.int .u64 (((x*y+a+b)/18446744073709551616:Nat):Int))) (.eq (.int .u64 (((x*y+a+b)%18446744073709551616:Nat):Int)))) w):=
 (wMulAdd x y a b ⟨by omega, by omega⟩ ⟨by omega, by omega⟩ ⟨by omega, by omega⟩ ⟨by omega, by omega⟩ w).mono fun e w' ⟨s, d, he, hr, hw⟩ => by
  subst hw
  obtain⟨e1,e2⟩:=mulRel_eq hr
  exact⟨_,he,Grow.refl _,_,_,rfl,by show Value.int _ _=_;rw[e1],by show Value.int _ _=_;rw[e2]⟩
theorem drawn_grow{a b:World}(h:Drawn a b):Grow a b:=by
 obtain⟨n,rfl⟩:=h
 exact below_drewN (Below.refl _ _) n
theorem cWDiv_yes(h:x<z)(hy:y<18446744073709551616)(hz:z<18446744073709551616):Calls Tryz.prog 183 #[.int .u64 ((x:Nat):Int),.int .u64 ((y:Nat):Int),.int .u64 ((z:Nat):Int)] w (Ret (.tup3 (.eq (.int .u64 ((divQ x y z:Nat):Int))) (.eq (.int .u64 ((divR x y z:Nat):Int))) (.eq (.bool true))) w):=
 (wDiv_yes x y z h hy hz w).mono fun _ _ ⟨he,hw⟩=>⟨_,he,drawn_grow hw,_,_,_,rfl,rfl,rfl,rfl⟩
theorem cWDiv_no(h:z≤x):Calls Tryz.prog 183 #[.int .u64 ((x:Nat):Int),.int .u64 ((y:Nat):Int),.int .u64 ((z:Nat):Int)] w (Ret (.tup3 (.eq (.int .u64 ((0:Nat):Int))) (.eq (.int .u64 ((0:Nat):Int))) (.eq (.bool false))) w):=
 (wDiv_no x y z zo w).mono fun e w' ⟨he, hw⟩ => by
  subst hw
  exact⟨_,he,Grow.refl _,_,_,_,rfl,rfl,rfl,rfl⟩
end
open Go.RowKit
section
variable {q y o N i over b c:Nat} {f0 f:Nat→Nat}
def TInv (q y o:Nat) (f0 f:Nat→Nat) (N i over b:Nat):Prop:=
 Wf f N∧over<18446744073709551616∧b≤1∧val f N+q*(y%2^(64*i))*2^(64*o)=val f0 N+(over+b)*2^(64*(o+i))∧∀j,(j<o∨o+i≤j)→f j=f0 j
theorem t_start(hw:Wf f0 N):TInv q y o f0 f0 N 0 0 0:=⟨hw,by omega,by omega,by simp[Nat.mod_one],fun _ _=>rfl⟩
theorem p64o(o i:Nat):2^(64*(o+(i+1)))=18446744073709551616*2^(64*(o+i)):=by rw[show o+(i+1)=o+i+1 from rfl];exact p64 _
theorem t_lin{A F C S Q Z0 OV BO QW HB LO BB:Nat}(e1:A+F=C+S)(e2:C+Q=Z0+(OV+BO))(e3:HB+LO=QW+OV)(e4:S+LO+BO=F+BB):A+(Q+QW)=Z0+(HB+BB):=by omega
theorem upd_far{j k v:Nat}(h:j≠k):upd f k v j=f j:=by unfold upd;rw[if_neg h]
theorem t_step(h:TInv q y o f0 f N i over b)(hN:o+i<N)(hq:q<18446744073709551616):
  TInv q y o f0 (upd f (o+i) (sbW (f (o+i)) ((wd y i*q+over+0)%18446744073709551616) b)) N (i+1) ((wd y i*q+over+0)/18446744073709551616) (sbB (f (o+i)) ((wd y i*q+over+0)%18446744073709551616) b):=by
 obtain⟨h1,h2,h3,h4,h5⟩:=h
 obtain⟨s1,s2,s3⟩:=sb_eq (x:=f (o+i)) (y:=(wd y i*q+over+0)%18446744073709551616) (z:=b) (h1 _ hN) (Nat.mod_lt _ zo) h3
 have hd:=Nat.mod_add_div (wd y i*q+over+0) 18446744073709551616
 have hlim:wd y i*q≤18446744073709551615*18446744073709551615:=Nat.mul_le_mul (by have:=wd_lt y i;omega) zo
 generalize hs:sbW (f (o+i)) ((wd y i*q+over+0)%18446744073709551616) b=s at*
 generalize hb:sbB (f (o+i)) ((wd y i*q+over+0)%18446744073709551616) b=b' at*
 generalize hh:(wd y i*q+over+0)/18446744073709551616=hi at*
 generalize hl:(wd y i*q+over+0)%18446744073709551616=lo at*
 refine⟨wf_upd _ _ _ _ h1 s1,by omega,s2,?_,fun j hj=>?_⟩
 ·have e1:=val_swap f (o+i) s N hN
  have eE:2^(64*(o+i))=2^(64*i)*2^(64*o):=by rw[←Nat.pow_add,←Nat.mul_add,Nat.add_comm]
  have e3:hi*18446744073709551616*2^(64*(o+i))+lo*2^(64*(o+i))=q*wd y i*2^(64*(o+i))+over*2^(64*(o+i)):=by
   rw[←Nat.add_mul,←Nat.add_mul];congr 1;rw[Nat.mul_comm q];omega
  have e4:s*2^(64*(o+i))+lo*2^(64*(o+i))+b*2^(64*(o+i))=f (o+i)*2^(64*(o+i))+b'*18446744073709551616*2^(64*(o+i)):=by
   rw[←Nat.add_mul,←Nat.add_mul,←Nat.add_mul];congr 1;omega
  rw[Nat.add_mul] at h4
  have:=t_lin e1 h4 e3 e4
  rw[p64o o i,mod_succ,Nat.mul_add q,Nat.add_mul (q*_),←Nat.mul_assoc q,Nat.mul_assoc (q*wd y i),←eE,←Nat.mul_assoc (hi+b'),Nat.add_mul hi,Nat.add_mul]
  exact this
 ·rw[upd_far zo];exact h5 j zo
def TRes (q y o m:Nat) (f0 f:Nat→Nat) (N b:Nat):Prop:=
 Wf f N∧b≤1∧val f N+q*y*2^(64*o)=val f0 N+b*2^(64*(o+m+1))∧∀j,(j<o∨o+m+1≤j)→f j=f0 j
theorem t_end(h:TInv q y o f0 f N (nw y) over b)(hN:o+nw y<N):TRes q y o (nw y) f0 (upd f (o+nw y) (sbW (f (o+nw y)) over b)) N (sbB (f (o+nw y)) over b):=by
 obtain⟨h1,h2,h3,h4,h5⟩:=h
 obtain⟨s1,s2,s3⟩:=sb_eq (x:=f (o+nw y)) (y:=over) (z:=b) (h1 _ hN) h2 h3
 generalize hs:sbW (f (o+nw y)) over b=s at*
 generalize hb:sbB (f (o+nw y)) over b=b' at*
 refine⟨wf_upd _ _ _ _ h1 s1,s2,?_,fun j hj=>?_⟩
 ·have e1:=val_swap f (o+nw y) s N hN
  have e4:s*2^(64*(o+nw y))+over*2^(64*(o+nw y))+b*2^(64*(o+nw y))=f (o+nw y)*2^(64*(o+nw y))+b'*18446744073709551616*2^(64*(o+nw y)):=by
   rw[←Nat.add_mul,←Nat.add_mul,←Nat.add_mul];congr 1;omega
  rw[Nat.mod_eq_of_lt (lt_nw y),Nat.add_mul] at h4
  rw[p64,←Nat.mul_assoc b']
  omega
 ·rw[upd_far zo];exact h5 j zo
def BkInv (y o:Nat) (f0 f:Nat→Nat) (N i c:Nat):Prop:=
 Wf f N∧c≤1∧val f N+c*2^(64*(o+i))=val f0 N+y%2^(64*i)*2^(64*o)∧∀j,(j<o∨o+i≤j)→f j=f0 j
theorem bk_start(hw:Wf f0 N):BkInv y o f0 f0 N 0 0:=⟨hw,by omega,by simp[Nat.mod_one],fun _ _=>rfl⟩
theorem bk_step(h:BkInv y o f0 f N i c)(hN:o+i<N):
  BkInv y o f0 (upd f (o+i) ((f (o+i)+wd y i+c)%18446744073709551616)) N (i+1) ((f (o+i)+wd y i+c)/18446744073709551616):=by
 obtain⟨h1,h3,h4,h5⟩:=h
 have hf:=h1 _ hN
 have hy:=wd_lt y i
 have hd:=Nat.mod_add_div (f (o+i)+wd y i+c) 18446744073709551616
 have hm:=Nat.mod_lt (f (o+i)+wd y i+c) (show 0<18446744073709551616 by omega)
 have hc:(f (o+i)+wd y i+c)/18446744073709551616≤1:=by omega
 generalize (f (o+i)+wd y i+c)%18446744073709551616=s at*
 generalize (f (o+i)+wd y i+c)/18446744073709551616=c' at*
 refine⟨wf_upd _ _ _ _ h1 hm,hc,?_,fun j hj=>?_⟩
 ·have e1:=val_swap f (o+i) s N hN
  have eE:2^(64*(o+i))=2^(64*i)*2^(64*o):=by rw[←Nat.pow_add,←Nat.mul_add,Nat.add_comm]
  have e4:s*2^(64*(o+i))+c'*18446744073709551616*2^(64*(o+i))=f (o+i)*2^(64*(o+i))+wd y i*2^(64*(o+i))+c*2^(64*(o+i)):=by
   rw[←Nat.add_mul,←Nat.add_mul,←Nat.add_mul];congr 1;omega
  rw[p64o o i,mod_succ,Nat.add_mul (y%_),Nat.mul_assoc (wd y i),←eE,←Nat.mul_assoc c']
  omega
 ·rw[upd_far zo];exact h5 j zo
def BkRes (y o m:Nat) (f0 f:Nat→Nat) (N c:Nat):Prop:=
 Wf f N∧val f N+c*2^(64*(o+m+1))=val f0 N+y*2^(64*o)∧∀j,(j<o∨o+m+1≤j)→f j=f0 j
theorem bk_end(h:BkInv y o f0 f N (nw y) c)(hN:o+nw y<N):∃c',BkRes y o (nw y) f0 (upd f (o+nw y) ((f (o+nw y)+c)%18446744073709551616)) N c':=by
 obtain⟨h1,h3,h4,h5⟩:=h
 refine⟨(f (o+nw y)+c)/18446744073709551616,?_⟩
 have hd:=Nat.mod_add_div (f (o+nw y)+c) 18446744073709551616
 have hm:=Nat.mod_lt (f (o+nw y)+c) (show 0<18446744073709551616 by omega)
 generalize (f (o+nw y)+c)%18446744073709551616=s at*
 generalize (f (o+nw y)+c)/18446744073709551616=c' at*
 refine⟨wf_upd _ _ _ _ h1 hm,?_,fun j hj=>?_⟩
 ·have e1:=val_swap f (o+nw y) s N hN
  have e4:s*2^(64*(o+nw y))+c'*18446744073709551616*2^(64*(o+nw y))=f (o+nw y)*2^(64*(o+nw y))+c*2^(64*(o+nw y)):=by
   rw[←Nat.add_mul,←Nat.add_mul];congr 1;omega
  rw[Nat.mod_eq_of_lt (lt_nw y)] at h4
  rw[p64,←Nat.mul_assoc c']
  omega
 ·rw[upd_far zo];exact h5 j zo
end
open Go.RowKit
def DInv (X V N Q j:Nat) (f g:Nat→Nat):Prop:=Wf f N∧Wf g Q∧(∀i,i<j→g i=0)∧val f N+val g Q*V=X∧val f N<V*2^(64*j)
def dq (f:Nat→Nat) (V k m:Nat):Nat:=gq (f (k+m)) (f (k+m-1)) (f (k+m-2)) (wd V (m-1)) (wd V (m-2))
theorem gq_lt(a b c d e:Nat):gq a b c d e<18446744073709551616:=by unfold gq;omega
theorem dq_lt(f:Nat→Nat)(V k m:Nat):dq f V k m<18446744073709551616:=gq_lt _ _ _ _ _
section
variable {X V N Q j k m:Nat} {f g f' f'':Nat→Nat} {b c:Nat}
theorem lo_V(hm:nw V=m)(h2:2≤m):18446744073709551616*2^(64*(m-2))≤V:=by
 rcases Nat.lt_or_ge V (18446744073709551616*2^(64*(m-2))) with h | h
 ·rw[←p64] at h
  have:=(nw_le V _).2 h
  omega
 ·exact h
theorem pow_V(k m:Nat)(h2:2≤m):2^(64*(k+m+1))=18446744073709551616*(18446744073709551616*(18446744073709551616*(2^(64*(m-2))*2^(64*k)))):=by
 rw[show k+m+1=(((m-2)+k)+1+1)+1 by omega,p64,p64,p64,←Nat.pow_add,←Nat.mul_add]
theorem hi_V(hm:nw V=m)(h2:2≤m):V<18446744073709551616*(18446744073709551616*2^(64*(m-2))):=by
 have:=lt_nw V
 rw[hm,show m=(m-2)+1+1 by omega,p64,p64] at this
 exact this
theorem d_words(hm:nw V=m)(h2:2≤m)(hk:k+m<N)(hi:DInv X V N Q (k+1) f g):
  dq f V k m=min (18446744073709551616-1) (val f N/(2^(64*(m-2))*2^(64*k))/(V/2^(64*(m-2)))):=by
 obtain⟨h1,_,_,_,h5⟩:=hi
 have hV:=hi_V hm h2
 have hU:val f N<2^(64*((k+m-2)+3)):=by
  rw[show(k+m-2)+3=k+m+1 by omega,pow_V k m h2]
  rw[p64] at h5
  have:=Nat.mul_le_mul_right (18446744073709551616*2^(64*k)) (Nat.le_of_lt hV)
  refine Nat.lt_of_lt_of_le h5 (Nat.le_trans this (Nat.le_of_eq ?_))
  simp only[Nat.mul_assoc,Nat.mul_left_comm,Nat.mul_comm]
 have e3:=top3 h1 (show(k+m-2)+3≤N by omega) hU
 have e2:=top2 (V:=V) (m:=m-2) zo
 have eW:2^(64*(m-2))*2^(64*k)=2^(64*(k+m-2)):=by rw[←Nat.pow_add,←Nat.mul_add];congr 2;omega
 rw[eW,e3,e2]
 unfold dq gq
 rw[show k+m-2+2=k+m by omega,show k+m-2+1=k+m-1 by omega,show m-2+1=m-1 by omega]
theorem d_guess(hm:nw V=m)(h2:2≤m)(hk:k+m<N)(hi:DInv X V N Q (k+1) f g):f (k+m)≤wd V (m-1)∧0<wd V (m-1):=by
 obtain⟨h1,_,_,_,h5⟩:=hi
 have e2:=top2 (V:=V) (m:=m-2) zo
 rw[show m-2+1=m-1 by omega] at e2
 have hlo:=lo_V hm h2
 have hW:0<2^(64*(m-2)):=Nat.two_pow_pos _
 have hv0:=wd_lt V (m-2)
 have hVd:18446744073709551616≤V/2^(64*(m-2)):=(Nat.le_div_iff_mul_le hW).2 hlo
 refine⟨?_,by omega⟩
 have hVs:V<(wd V (m-1)+1)*(18446744073709551616*2^(64*(m-2))):=by
  have:V/2^(64*(m-2))<(wd V (m-1)+1)*18446744073709551616:=by omega
  have:=(Nat.div_lt_iff_lt_mul hW).1 this
  rw[Nat.mul_assoc] at this
  exact this
 have hU:f (k+m)*2^(64*(k+m))≤val f N:=by
  have:=val_wd (val f N) (k+m+1)
  have hw:=wd_val f N (k+m) h1 hk
  have hle:val f N%2^(64*(k+m+1))≤val f N:=Nat.mod_le _ _
  rw[←this,val,hw] at hle
  omega
 have eP:2^(64*(k+m))=18446744073709551616*(18446744073709551616*2^(64*(m-2)))*2^(64*k):=by
  rw[show k+m=((m-2)+k)+1+1 by omega,p64,p64,Nat.mul_assoc,Nat.mul_assoc,←Nat.pow_add,←Nat.mul_add]
 rw[p64] at h5
 rcases Nat.lt_or_ge (wd V (m-1)) (f (k+m)) with h | h
 ·exfalso
  have a1:V*(18446744073709551616*2^(64*k))≤(wd V (m-1)+1)*(18446744073709551616*2^(64*(m-2)))*(18446744073709551616*2^(64*k)):=Nat.mul_le_mul_right _ (Nat.le_of_lt hVs)
  have a2:(wd V (m-1)+1)*2^(64*(k+m))≤f (k+m)*2^(64*(k+m)):=Nat.mul_le_mul_right _ h
  have a3:(wd V (m-1)+1)*(18446744073709551616*2^(64*(m-2)))*(18446744073709551616*2^(64*k))=(wd V (m-1)+1)*2^(64*(k+m)):=by
   rw[eP];simp only[Nat.mul_assoc,Nat.mul_left_comm,Nat.mul_comm]
  omega
 ·exact h
theorem d_knuth(hm:nw V=m)(h2:2≤m)(hk:k+m<N)(hi:DInv X V N Q (k+1) f g):val f N<(dq f V k m+1)*(V*2^(64*k))∧dq f V k m*(V*2^(64*k))≤val f N+V*2^(64*k):=by
 have h5:=hi.2.2.2.2
 rw[p64] at h5
 exact knuth (Nat.two_pow_pos _) (Nat.two_pow_pos _) zo (lo_V hm h2) h5 (d_words hm h2 hk hi)
theorem d_high(hm:nw V=m)(h2:2≤m)(_hk:k+m<N)(hi:DInv X V N Q (k+1) f g):∀i,k+m+1≤i→i<N→f i=0:=by
 obtain⟨h1,_,_,_,h5⟩:=hi
 refine high_zero h1 ?_
 have hV:=hi_V hm h2
 rw[pow_V k m h2]
 rw[p64] at h5
 have:=Nat.mul_le_mul_right (18446744073709551616*2^(64*k)) (Nat.le_of_lt hV)
 refine Nat.lt_of_lt_of_le h5 (Nat.le_trans this (Nat.le_of_eq ?_))
 simp only[Nat.mul_assoc,Nat.mul_left_comm,Nat.mul_comm]
theorem g_set(hg:Wf g Q)(hz:∀i,i<k+1→g i=0)(hkQ:k<Q){q:Nat}(hq:q<18446744073709551616):Wf (upd g k q) Q∧(∀i,i<k→upd g k q i=0)∧val (upd g k q) Q=val g Q+q*2^(64*k):=by
 refine⟨wf_upd _ _ _ _ hg hq,fun i hi=>?_,?_⟩
 ·rw[upd_far zo];exact hz i zo
 ·have:=val_swap g k q Q hkQ
  rw[hz k zo] at this
  omega
theorem d_fit(hm:nw V=m)(h2:2≤m)(hk:k+m<N)(hi:DInv X V N Q (k+1) f g)(ht:TRes (dq f V k m) V k m f f' N b)(hb:b≠1)(hkQ:k<Q):DInv X V N Q k f' (upd g k (dq f V k m)):=by
 obtain⟨kn1,_⟩:=d_knuth hm h2 hk hi
 obtain⟨_,hg,hz,hX,h5⟩:=hi
 obtain⟨t1,t2,t3,t4⟩:=ht
 obtain rfl:b=0:=by omega
 obtain⟨g1,g2,g3⟩:=g_set hg hz hkQ (dq_lt f V k m)
 rw[Nat.mul_assoc] at t3
 rw[Nat.add_mul,Nat.one_mul] at kn1
 refine⟨t1,g1,g2,?_,by omega⟩
 have e:dq f V k m*2^(64*k)*V=dq f V k m*(V*2^(64*k)):=by rw[Nat.mul_assoc,Nat.mul_comm (2^(64*k)) V]
 rw[g3,Nat.add_mul,e]
 omega
theorem d_neg(hm:nw V=m)(h2:2≤m)(hk:k+m<N)(hi:DInv X V N Q (k+1) f g)(ht:TRes (dq f V k m) V k m f f' N 1):val f N<dq f V k m*(V*2^(64*k))∧0<dq f V k m:=by
 have hz:=d_high hm h2 hk hi
 obtain⟨t1,t2,t3,t4⟩:=ht
 have hlow:val f' N<2^(64*(k+m+1)):=low_of_zero t1 zo fun i h1 h2=>by rw[t4 i (.inr h1)];exact hz i h1 h2
 rw[Nat.mul_assoc,Nat.one_mul] at t3
 have:val f N<dq f V k m*(V*2^(64*k)):=by omega
 refine⟨this,?_⟩
 rcases Nat.eq_zero_or_pos (dq f V k m) with h | h
 ·rw[h,Nat.zero_mul] at this;omega
 ·exact h
theorem d_back(hm:nw V=m)(h2:2≤m)(hk:k+m<N)(hi:DInv X V N Q (k+1) f g)(ht:TRes (dq f V k m) V k m f f' N 1)(hbk:BkRes V k m f' f'' N c)(hkQ:k<Q):DInv X V N Q k f'' (upd (upd g k (dq f V k m)) k (dq f V k m-1)):=by
 obtain⟨_,kn2⟩:=d_knuth hm h2 hk hi
 obtain⟨n1,n2⟩:=d_neg hm h2 hk hi ht
 have hhz:=d_high hm h2 hk hi
 obtain⟨_,hg,hz,hX,h5⟩:=hi
 obtain⟨t1,t2,t3,t4⟩:=ht
 obtain⟨b1,b2,b3⟩:=hbk
 have hlt:=dq_lt f V k m
 obtain⟨g1,g2,g3⟩:=g_set hg hz hkQ hlt
 generalize hq:dq f V k m=q at*
 obtain⟨p,rfl⟩:∃p,q=p+1:=⟨q-1,by omega⟩
 rw[Nat.add_sub_cancel]
 have hlow:val f'' N<2^(64*(k+m+1)):=low_of_zero b1 zo fun i h1 h2=>by rw[b3 i (.inr h1),t4 i (.inr h1)];exact hhz i h1 h2
 have hlow1:val f' N<2^(64*(k+m+1)):=low_of_zero t1 zo fun i h1 h2=>by rw[t4 i (.inr h1)];exact hhz i h1 h2
 rw[Nat.mul_assoc,Nat.one_mul,Nat.add_mul,Nat.one_mul] at t3
 rw[Nat.add_mul,Nat.one_mul] at n1 kn2
 have hc:c=1:=by
  rcases c with _ | _ | c
  ·exfalso;rw[Nat.zero_mul] at b2;omega
  ·rfl
  ·exfalso
   rw[Nat.add_mul (c+1),Nat.add_mul c,Nat.one_mul] at b2
   have hVP:V*2^(64*k)<2^(64*(k+m+1)):=by
    have hV:=hi_V hm h2
    have:=Nat.mul_lt_mul_of_pos_right hV (Nat.two_pow_pos (64*k))
    rw[pow_V k m h2]
    have e:18446744073709551616*(18446744073709551616*2^(64*(m-2)))*2^(64*k)=18446744073709551616*(18446744073709551616*(2^(64*(m-2))*2^(64*k))):=by simp only[Nat.mul_assoc]
    rw[e] at this
    omega
   omega
 subst hc
 rw[Nat.one_mul] at b2
 refine⟨b1,wf_upd _ _ _ _ g1 zo,fun i hi=>?_,?_,by omega⟩
 ·rw[upd_far zo];exact g2 i hi
 ·have hs:=val_swap (upd g k (p+1)) k p Q hkQ
  have e0:upd g k (p+1) k=p+1:=by unfold upd;rw[if_pos rfl]
  rw[e0,g3,Nat.add_mul p,Nat.one_mul] at hs
  have e1:val (upd (upd g k (p+1)) k p) Q=val g Q+p*2^(64*k):=by omega
  have e:p*2^(64*k)*V=p*(V*2^(64*k)):=by rw[Nat.mul_assoc,Nat.mul_comm (2^(64*k)) V]
  rw[e1,Nat.add_mul,e]
  omega
end
theorem nw_shift{y s:Nat}(h0:y≠0)(hs:s=leadz (wd y (nw y-1))):nw (y*2^s)=nw y∧s<64:=by
 have hb:=blen_nw y h0
 have hw:=blen_wd y (nw y-1)
 have hn:0<nw y:=Nat.pos_of_ne_zero fun h=>h0 ((nw_eq_zero y).1 h)
 have hbp:0<Wd.blen (wd y (nw y-1)):=by
  have hp:=Wd.blen_pos y h0
  have e:nw y=(Wd.blen y+63)/64:=rfl
  omega
 unfold leadz at hs
 have hlt:y*2^s<2^(64*nw y):=by
  have h1:=Wd.lt_two_pow_blen y
  have h2:y*2^s<2^Wd.blen y*2^s:=Nat.mul_lt_mul_of_pos_right h1 (Nat.two_pow_pos _)
  rw[←Nat.pow_add] at h2
  refine Nat.lt_of_lt_of_le h2 (Nat.pow_le_pow_right zo ?_)
  omega
 have h1:=(nw_le _ _).2 hlt
 refine⟨Nat.le_antisymm h1 ?_,by omega⟩
 refine(nw_le y _).2 (Nat.lt_of_le_of_lt (Nat.le_mul_of_pos_right y (Nat.two_pow_pos s)) (lt_nw _))
theorem val_zero(n:Nat):val (fun _=>0) n=0:=by
 induction n with
 | zero=>rfl
 | succ n ih=>rw[val,ih];simp
theorem d_start{x y s N Q:Nat}(hN:nw (x*2^s)≤N)(hQ:nw x+1=Q+nw y)(h0:y≠0):DInv (x*2^s) (y*2^s) N Q Q (wd (x*2^s)) (fun _=>0):=by
 refine⟨wf_wd _ _,fun i hi=>by show 0<_;omega,fun _ _=>rfl,by rw[val_all _ _ hN,val_zero];simp,?_⟩
 rw[val_all _ _ hN]
 have hy:2^(64*(nw y-1))≤y:=by
  rcases Nat.lt_or_ge y (2^(64*(nw y-1))) with h | h
  ·have:=(nw_le _ _).2 h
   have hn:0<nw y:=Nat.pos_of_ne_zero fun h=>h0 ((nw_eq_zero y).1 h)
   omega
  ·exact h
 have hn:0<nw y:=Nat.pos_of_ne_zero fun h=>h0 ((nw_eq_zero y).1 h)
 have h1:x<y*2^(64*Q):=by
  refine Nat.lt_of_lt_of_le (lt_nw x) (Nat.le_trans (Nat.le_of_eq ?_) (Nat.mul_le_mul_right _ hy))
  rw[←Nat.pow_add];congr 1;omega
 have h2:=Nat.mul_lt_mul_of_pos_right h1 (Nat.two_pow_pos s)
 rw[Nat.mul_assoc,Nat.mul_comm (2^(64*Q)),←Nat.mul_assoc] at h2
 exact h2
theorem d_end{x y s N Q:Nat}{f g:Nat→Nat}(h:DInv (x*2^s) (y*2^s) N Q 0 f g):val g Q=x/y∧val f N/2^s=x%y:=by
 obtain⟨_,_,_,hX,h5⟩:=h
 simp only[Nat.mul_zero,Nat.pow_zero,Nat.mul_one] at h5
 have hs:0<2^s:=Nat.two_pow_pos s
 have hy:0<y:=by
  rcases Nat.eq_zero_or_pos y with h | h
  ·subst h;simp at h5
  ·exact h
 have hq:val g Q=x*2^s/(y*2^s):=by
  rw[←hX,Nat.add_mul_div_right _ _ (Nat.mul_pos hy hs),Nat.div_eq_of_lt h5,Nat.zero_add]
 have hr:val f N=x*2^s%(y*2^s):=by
  rw[←hX,Nat.add_mul_mod_self_right,Nat.mod_eq_of_lt h5]
 constructor
 ·rw[hq,Nat.mul_div_mul_right _ _ hs]
 ·rw[hr,Nat.mul_mod_mul_right,Nat.mul_div_cancel _ hs]
open Go.RowKit
def MR.own (B:Nat) (f:Nat→Nat) (n:Nat):MR:=⟨fun w v=>∃g c,v=.slice (some ⟨g,0,none⟩) n c∧B≤g∧n≤c∧c≤maxLen∧Blk w g 145 (wa f c),fun h ⟨g,c,e,hB,h1,h2,k⟩=>⟨g,c,e,hB,h1,h2,k.below h⟩⟩
theorem own_cells(f:Nat→Nat)(n k:Nat)(hz:∀i,n≤i→f i=0):(words f n).toArray++Builtin.zeroCells (Value.int .u64 0).cells k=wa f (n+k):=by
 apply Array.ext_getElem?
 intro i
 by_cases h1:i<n
 ·rw[Array.getElem?_append_left (by simpa [words_length] using h1),wa_at f _ i zo]
  have:=words_at f n i h1
  simpa using this
 ·rw[Array.getElem?_append_right (by simp[words_length];omega)]
  by_cases h2:i<n+k
  ·rw[wa_at f _ i h2,hz i zo]
   have hk:i-n<k:=by omega
   simp[Builtin.zeroCells,Value.cells,words_length,hk,Nat.mod_one]
  ·have e1:(Builtin.zeroCells (Value.int .u64 0).cells k)[i-(words f n).toArray.size]?=none:=Array.getElem?_eq_none (by rw[size_zeroCells];simp[Value.cells,words_length];omega)
   have e2:(wa f (n+k))[i]?=none:=Array.getElem?_eq_none (by unfold wa;simp[words_length];omega)
   rw[e1,e2]
section
variable {P:Program} {ops:Array Oper} {rest:List Oper} {o:Oper} {a:Act} {Q:Exit→Act→World→Prop} {w:World}
theorem wpList_yld(hgd:o.guard=none)(h:Yld P o a.eval w (fun v w'=>wpList P ops Q rest (a.put o.dst v) w')):wpList P ops Q (o::rest) a w:=
 wpList_plain hgd fun _ hK=>Yld.wp h fun _ _ hv=>hK _ _ hv
end
theorem setRow_same{w:World}{g:Nat}{cs:Array Value}{t:TypeId}(h:w.heap[g]?=some (.cells cs t (0,0))):w.setRow g cs=w:=by
 unfold World.setRow
 have e:w.heap.modify g (fun | .cells _ e fr=>.cells cs e fr | o=>o)=w.heap:=by
  apply Array.ext_getElem?
  intro i
  simp only[Array.getElem?_modify]
  by_cases hi:g=i
  ·subst hi
   rw[if_pos rfl,h]
   rfl
  ·rw[if_neg hi]
 exact congrArg (fun x=>{w with heap:=x}) e
section
variable {o:Oper} {ρ:Operand→Value} {w:World} {x y:Operand} {f:Nat→Nat} {n c B:Nat} {F:Nat→Prop}
theorem yld_append_fresh{a b:Addr}(h:o.op=.call {callee:=.builtin .append,args:=#[x,y],argTypes:=#[41,41]})(hx:ρ x=.slice (some b) 0 0)(hy:ρ y=.slice (some a) n c)(hS:USlice F w (some a) n f)(hn0:0<n)(hn:n≤1099511627776)(hB:B≤w.heap.size)(hz:∀i,n≤i→f i=0):
  Yld Tryz.prog o ρ w (fun v w'=>Grow w w'∧(MR.own B f n).R w' v):=by
 obtain⟨i0,hi0,hz0,hz1,hz2⟩:=infoParts u64Info
 have hrun:=run_append_grow (P:=Tryz.prog) w 41 o.type 145 i0 (.int .u64 0) Tryz.underlying41 hi0 hz0 b 0 0 [] (by simp)
  (fun j v hj=>by simp at hj) a n c (words f n) (by rw[words_length,hz1,Nat.mul_one])
  (fun j v hj => by
   have hlt:j<n:=by
    have:=(List.getElem?_eq_some_iff.1 hj).1
    rwa [words_length] at this
   obtain⟨g',o',e,_,_,hcell⟩:=hS j hlt
   obtain rfl:a=⟨g',o',none⟩:=Option.some.inj e
   rw[words_at f n j hlt] at hj
   rw[add_plain,hcell];exact hj)
  zo zo (growslice_fits zo (by rw[hz2];omega))
 have hcap:=grownCap_ge w (0+n) 0 145
 have hcap2:=grownCap_le_maxLen w (0+n) 0 145 (by unfold maxLen;omega)
 simp only[Nat.zero_add] at hrun hcap hcap2
 have hcells:=own_cells f n (grownCap w n 0 145-n) hz
 rw[show n+(grownCap w n 0 145-n)=grownCap w n 0 145 by omega] at hcells
 have hexec:(execOp ρ o).run Tryz.prog w=.ok (.value (.slice (some ⟨w.heap.size,0,none⟩) n (grownCap w n 0 145))) (w.drew.alloc (.cells (wa f (grownCap w n 0 145)) 145)):=by
  unfold execOp;rw[h,←hcells];simp[resolve,invoke,builtin,hx,hy,hrun]
 unfold Yld
 rw[hexec]
 exact⟨((Grow.refl w).drew).alloc _,w.heap.size,_,rfl,hB,hcap,hcap2,Blk.new w.drew 145 _⟩
theorem yld_append_zeros{r:Nat}(h:o.op=.call {callee:=.builtin .append,args:=#[x,y],argTypes:=#[41,41]})(hx:(MR.own B f n).R w (ρ x))(hy:(MR.lits [0,0]).R w (ρ y))(hn0:0<n)(hn:n≤1099511627776)(hB:B≤w.heap.size)(hz:∀i,n≤i→f i=0)(hr:n+2=r):
  Yld Tryz.prog o ρ w (fun v w'=>Grow w w'∧(MR.own B f r).R w' v):=by
 subst hr
 obtain⟨g,c,ex,hBg,hc,hcm,hblk⟩:=hx
 obtain⟨q,ey,hS⟩:=hy
 obtain⟨i0,hi0,hz0,hz1,hz2⟩:=infoParts u64Info
 have hz01:(words (fun i=>[0,0].getD i 0) 2)=words (fun i=>f (n+i)) 2:=by
  simp[words,List.range_succ,hz]
 have hnews:∀j v,(words (fun i=>f (n+i)) 2)[j]?=some v→w.cell? ((⟨q,0,none⟩:Addr).add j)=some v:=fun j v hj=>by
  rw[←hz01] at hj
  have hlt:j<2:=by
   have:=(List.getElem?_eq_some_iff.1 hj).1
   rwa [words_length] at this
  obtain⟨g',o',e,_,_,hcell⟩:=hS j hlt
  simp only[Option.some.injEq,Addr.mk.injEq,and_true] at e
  obtain⟨rfl,rfl⟩:=e
  rw[words_at _ 2 j hlt] at hj
  rw[add_plain,hcell];exact hj
 rcases Nat.lt_or_ge c (n+2) with hg | hg
 ·have hrun:=run_append_grow (P:=Tryz.prog) w 41 o.type 145 i0 (.int .u64 0) Tryz.underlying41 hi0 hz0 ⟨g,0,none⟩ n c (words f n) (by rw[words_length,hz1,Nat.mul_one])
   (fun j v hj => by
    have hlt:j<n:=by
     have:=(List.getElem?_eq_some_iff.1 hj).1
     rwa [words_length] at this
    rw[words_at f n j hlt] at hj
    rw[add_plain,hblk.cell,Nat.zero_add,wa_at f c j zo];exact hj) ⟨q,0,none⟩ 2 2 (words (fun i=>f (n+i)) 2) (by rw[words_length,hz1])
   hnews hg zo (growslice_fits zo (by rw[hz2];omega))
  have hcap:=grownCap_ge w (n+2) c 145
  have hcap2:=grownCap_le_maxLen w (n+2) c 145 (by unfold maxLen;omega)
  have hcells:=own_cells f (n+2) (grownCap w (n+2) c 145-(n+2)) (fun i hi=>hz i zo)
  rw[show n+2+(grownCap w (n+2) c 145-(n+2))=grownCap w (n+2) c 145 by omega] at hcells
  have hw2:(words f n).toArray++(words (fun i=>f (n+i)) 2).toArray=(words f (n+2)).toArray:=by
   simp[words,List.range_succ]
  rw[hw2,hcells] at hrun
  have hexec:(execOp ρ o).run Tryz.prog w=.ok (.value (.slice (some ⟨w.heap.size,0,none⟩) (n+2) (grownCap w (n+2) c 145))) (w.drew.alloc (.cells (wa f (grownCap w (n+2) c 145)) 145)):=by
   unfold execOp;rw[h];simp[resolve,invoke,builtin,ex,ey,hrun]
  unfold Yld
  rw[hexec]
  exact⟨((Grow.refl w).drew).alloc _,w.heap.size,_,rfl,hB,hcap,hcap2,Blk.new w.drew 145 _⟩
 ·have hsz:(wa f c).size=c:=by unfold wa;simp[words_length]
  have hrun:=run_append_room (P:=Tryz.prog) w 41 o.type 145 i0 Tryz.underlying41 hi0 g n c (wa f c) hblk ⟨q,0,none⟩ 2 2 (words (fun i=>f (n+i)) 2) (by rw[words_length,hz1])
   hnews (words_one _ _) hg (by rw[hz1,words_length,hsz];omega)
  have hsame:((wa f c).toList.take (n*i0.size)++words (fun i=>f (n+i)) 2++(wa f c).toList.drop (n*i0.size+(words (fun i=>f (n+i)) 2).length)).toArray=wa f c:=by
   rw[hz1,Nat.mul_one,words_length]
   apply Array.toList_inj.1
   show _=(wa f c).toList
   have ew:words (fun i=>f (n+i)) 2=((wa f c).toList.drop n).take 2:=by
    apply List.ext_getElem?
    intro j
    by_cases hj:j<2
    ·rw[words_at _ 2 j hj,List.getElem?_take_of_lt hj,List.getElem?_drop,Array.getElem?_toList,wa_at f c (n+j) zo]
    ·rw[List.getElem?_eq_none (by rw[words_length];omega),List.getElem?_eq_none (by simp;omega)]
   rw[ew,List.append_assoc]
   have:((wa f c).toList.drop n).take 2++(wa f c).toList.drop (n+2)=(wa f c).toList.drop n:=by
    rw[←List.drop_drop]
    exact List.take_append_drop 2 _
   rw[this]
   exact List.take_append_drop n _
  rw[hsame] at hrun
  have hheap:w.heap[g]?=some (.cells (wa f c) 145 (0,0)):=hblk
  have hrow:w.setRow g (wa f c)=w:=setRow_same hheap
  rw[hrow] at hrun
  exact yld_val (v:=.slice (some ⟨g,0,none⟩) (n+2) c) (by unfold execOp;rw[h];simp[resolve,invoke,builtin,ex,ey,hrun]) ⟨Grow.refl _,g,c,rfl,hBg,hg,hcm,hblk⟩
end
set_option maxHeartbeats 400000 in
theorem clone_own(B:Nat)(F:Nat→Prop)(a:Addr)(n c:Nat)(f:Nat→Nat)(w:World)(h:USlice F w (some a) n f)(hn0:0<n)(hn:n≤1099511627776)(hB:B≤w.heap.size)(hz:∀i,n≤i→f i=0):
    Calls Tryz.prog 120 #[.slice (some a) n c] w fun e w'=>∃v,e=.returned v∧(MR.own B f n).R w' v∧Grow w w':=by
  obtain⟨i0,hi0,hz0,hz1,hz2⟩:=infoParts u64Info
  have hnil:=fun(w:World) (n c n' c':Nat)=>Lib.run_eql_slice_nil (P:=Tryz.prog) w 41 145 (some a) n c n' c' Tryz.underlying41
  have HZ:=Lib.hid (And.intro h hz)
  clear h hz
  go_enter Tryz.func120,Tryz.ntmps120
  go_wp2_with (
    (at_builtin
     refine wpList_yld rfl ((yld_append_fresh (B:=B) rfl rfl rfl (HZ.out.1.keep (Keeps.alloc (Keeps.refl _ _) _)) hn0 hn (by simp;omega) HZ.out.2).mono ?_)))
  intro v' w1 hg hown
  have HOwn:=Lib.hid (And.intro hown (((Grow.refl w).alloc _).trans hg))
  clear hg hown hnil HZ
  go_wp2
  go_ret
  exact⟨v',rfl,HOwn.out.1,HOwn.out.2⟩
set_option maxHeartbeats 400000 in
theorem cWords0{va:Value}{x B:Nat}{w:World}(ha:(MR.nat x).R w va)(h0:0<nw x)(hn:nw x≤1099511627776)(hB:B≤w.heap.size):Calls Tryz.prog 155 #[va] w (Ret (.own B (wd x) (nw x)) w):=by
 obtain⟨A,c,rfl,h1,h2,hsm,h3⟩:NatAt _ w va x:=ha
 have h3:=h3.slice
 obtain⟨g,oo,rfl,_⟩:=h3 0 h0
 have H3:=Lib.hid h3
 clear h3 h1 h2 hsm
 go_enter Tryz.func155,Tryz.ntmps155
 go_wp2_with fail
 refine(clone_own B (fun _=>False) _ _ c (wd x) _ (H3.out.keep Kz) h0 hn (by simp;omega) (fun i hi=>wd_high x i hi)).mono ?_
 rintro e wM ⟨v0,rfl,hown,hb⟩
 have BW:=below_next (w:=w) Wz hb
 have HH:=Lib.hid (And.intro hown BW)
 clear hown hb H3 BW
 go_wp2_with fail
 go_ret
 exact⟨_,rfl,HH.out.2,HH.out.1⟩
section
variable {o:Oper} {ρ:Operand→Value} {w:World} {x y:Operand} {f:Nat→Nat} {n k B:Nat} {z:Int}
theorem yld_lit00(h:o.op=.buildSlice 41 2 #[(0,x),(1,y)])(hx:ρ x=.int .u64 ((0:Nat):Int))(hy:ρ y=.int .u64 ((0:Nat):Int)):Yld Tryz.prog o ρ w (fun v w'=>Grow w w'∧(MR.lits [0,0]).R w' v):=by
 obtain⟨i0,hi0,hz0,hz1,hz2⟩:=infoParts u64Info
 have hrun:(Instr.buildSlice 41 2 #[(0,.int .u64 ((0:Nat):Int)),(1,.int .u64 ((0:Nat):Int))]).run Tryz.prog w=.ok (.slice (some ⟨w.heap.size,0,none⟩) 2 2) (w.alloc (.cells #[.int .u64 ((0:Nat):Int),.int .u64 ((0:Nat):Int)] 145)):=by
  simp[Instr.buildSlice,Sem.run_bind,run_underlying Tryz.underlying41 w,sizeOf,zeroValue,typeInfo,hi0,hz0,hz1,newRow,Instr.fill,Value.cells]
  rw[show Array.range 2=#[0,1] from by decide]
  simp
 unfold Yld execOp
 rw[h]
 have e:(#[(0,x),(1,y)]:Array (Nat×Operand)).map (fun(i,x)=>(i,ρ x))=#[(0,.int .u64 ((0:Nat):Int)),(1,.int .u64 ((0:Nat):Int))]:=by simp[hx,hy]
 simp only[e,Sem.run_bind,hrun,Result.andThen_ok]
 refine⟨(Grow.refl w).alloc _,w.heap.size,rfl,fun i hi=>?_⟩
 have hb:=Blk.new w 145 #[.int .u64 ((0:Nat):Int),.int .u64 ((0:Nat):Int)]
 refine⟨w.heap.size,0,rfl,id,hb.lt,?_⟩
 rw[hb.cell]
 simp only[List.length_cons,List.length_nil] at hi
 rcases i with _ | _ | i
 ·rfl
 ·rfl
 ·omega
theorem yld_makeO(h:o.op=.makeSlice 41 x y)(hx:ρ x=.int .i64 ((k:Nat):Int))(hy:ρ y=.int .i64 ((k:Nat):Int))(hk:k≤35184372088832)(hB:B≤w.heap.size):Yld Tryz.prog o ρ w (fun v w'=>Grow w w'∧(MR.own B (fun _=>0) k).R w' v):=by
 unfold Yld execOp
 rw[h]
 simp only[hx,hy,Sem.run_bind,mk64 k hk,Result.andThen_ok]
 exact⟨(Grow.refl w).alloc _,_,_,rfl,hB,Nat.le_refl _,by unfold maxLen;omega,Blk.new w _ _⟩
theorem yld_sliceO{y2:Operand}{m:Nat}(h:o.op=.slice 41 x none (some y2) none)(hx:(MR.own B f n).R w (ρ x))(hq:ρ y2=.int .i64 z)(ez:z=((m:Nat):Int))(hm0:0<m)(hm:m≤n):
  Yld Tryz.prog o ρ w (fun v w'=>Grow w w'∧(MR.own B f m).R w' v):=by
 subst ez
 obtain⟨g,c,ex,hB,h1,h2,hb⟩:=hx
 obtain⟨i0,hi0,_,hz1,_⟩:=infoParts u64Info
 have hE:Tryz.prog.underlying 41=some (.slice (Tryz.prog.elem 41)):=by kernel_rfl
 have hs:(sizeOf (Tryz.prog.elem 41)).run Tryz.prog w=.ok 1 w:=by
  rw[show Tryz.prog.elem 41=145 by kernel_rfl]
  simp[sizeOf,typeInfo,hi0,hz1]
 have hc:¬c=0:=by omega
 have hrun:(execOp ρ o).run Tryz.prog w=.ok (.value (.slice (some ⟨g,0,none⟩) m c)) w:=by
  unfold execOp
  rw[h]
  simp only[ex,hq,Option.map_some,Option.map_none,Sem.run_bind,run_sliceAt_slice w _ _ _ _ _ hE]
  rw[run_slice_h w _ _ _ _ hE _ _ zo zo,hs]
  simp[sliced,add_plain]
 exact yld_val hrun ⟨Grow.refl _,g,c,rfl,hB,by omega,h2,hb⟩
theorem yld_lenE{A:Option Addr}{c:Nat}(h:o.op=.call {callee:=.builtin .len,args:=#[x],argTypes:=#[41]})(hx:ρ x=.slice A n c):Yld Tryz.prog o ρ w (fun v w'=>Grow w w'∧(MR.eq (.int .i64 ((n:Nat):Int))).R w' v):=
 yld_val (v:=.int .i64 (n:Nat)) (by unfold execOp;rw[h];simp[resolve,invoke,builtin,hx,Builtin.len_,run_underlying Tryz.underlying41,goInt]) ⟨Grow.refl _,rfl⟩
end
theorem uns_row{w:World}{g n L:Nat}{f:Nat→Nat}(h:Blk w g 145 (wa f L))(h1:n≤L)(h2:L≤maxLen):(MR.uns f n).R w (.slice (some ⟨g,0,none⟩) n L):=
 ⟨_,_,rfl,fun i hi=>⟨g,0,rfl,id,h.lt,by rw[Nat.zero_add,h.cell,wa_at f L i zo]⟩,h1,h2,fun e=>by cases e⟩
section
variable {va:Value} {x k:Nat} {w:World}
theorem cWord0(ha:(MR.nat x).R w va){z:Int}(hz:z=((k:Nat):Int)):Calls Tryz.prog 154 #[va,.int .i64 z] w (Ret (.eq (.int .u64 ((wd x k:Nat):Int))) w):=by
 subst hz
 exact(nWord (fun _=>False) va x k zo w ha).mono fun _ _ ⟨e,h2⟩=>⟨_,e,h2,by simp;rfl⟩
theorem cLead(hx:x<18446744073709551616):Calls Tryz.prog 175 #[.int .u64 ((x:Nat):Int)] w (Ret (.eq (.int .i64 ((leadz x:Nat):Int))) w):=
 (wLead x hx w).mono fun _ _ ⟨e,h2⟩=>⟨_,e,drawn_grow h2,rfl⟩
theorem cShl(ha:(MR.nat x).R w va)(hk:k<64)(hs:Small (x*2^k)):Calls Tryz.prog 176 #[va,.int .i64 ((k:Nat):Int)] w (Ret (.tup2 (.nat (x*2^k)) (.eq (.bool true))) w):=
 (nShl (fun _=>False) va x k w (lows0 w) ha hk hs).mono fun _ _ ⟨v,e,h1,h2⟩=>⟨_,e,h2,v,_,rfl,h1,rfl⟩
theorem cShr(ha:(MR.nat x).R w va)(hk:k<64):Calls Tryz.prog 180 #[va,.int .i64 ((k:Nat):Int)] w (Ret (.nat (x/2^k)) w):=
 (nShr (fun _=>False) va x k w (lows0 w) ha hk).mono fun _ _ ⟨v,e,h1,h2⟩=>⟨v,e,h2,h1⟩
theorem cByWord{d:Nat}(ha:(MR.nat x).R w va)(hd:d<18446744073709551616):Calls Tryz.prog 174 #[va,.int .u64 ((d:Nat):Int)] w (Ret (.tup3 (.nat (x/d)) (.eq (.int .u64 ((if d=0 then 0 else x%d:Nat):Int))) (.eq (.bool (!decide (d=0))))) w):=by
 by_cases h:d=0
 ·subst h
  exact(qByWord_no (fun _=>False) va x w ha).mono fun _ _ ⟨e,h2⟩=>⟨_,e,h2,_,_,_,rfl,by rw[Nat.div_zero];exact zNat _,rfl,rfl⟩
 ·refine(qByWord (fun _=>False) va x d w (lows0 w) ha zo hd).mono fun _ _ ⟨v,e,h1,h2⟩=>⟨_,e,h2,v,_,_,rfl,h1,?_,?_⟩
  ·show Value.int _ _=_
   rw[if_neg h];congr 2;unfold remV;simp
  ·show Value.bool _=_
   simp[h]
end
open Go.RowKit
theorem sb_one{x y z:Nat}:(((sbB x y z:Nat):Int)==1)=decide (sbB x y z=1):=by
 rw[Bool.eq_iff_iff];simp;omega
theorem cal_nat_Nat_Len:Callable Tryz.prog 127:=callable_of Tryz.func127 rfl (by kernel_rfl)
theorem cal_nat_Nat_Word:Callable Tryz.prog 154:=callable_of Tryz.func154 rfl (by kernel_rfl)
theorem cal_word_Add:Callable Tryz.prog 156:=callable_of Tryz.func156 rfl (by kernel_rfl)
theorem cal_word_Sub:Callable Tryz.prog 158:=callable_of Tryz.func158 rfl (by kernel_rfl)
theorem cal_word_MulAdd:Callable Tryz.prog 153:=callable_of Tryz.func153 rfl (by kernel_rfl)
set_option maxHeartbeats 2000000 in
theorem cTake{g o c L N y q:Nat}{f0:Nat→Nat}{vb:Value}{w:World}(R0:Blk w g 145 (wa f0 L))(hb:(MR.natF ((fun k=>k=g)) (y)).R w vb)(hq:q<18446744073709551616)(hN:o+nw y<N)(hL:N≤L)(hs:nw y≤1099511627776)(hf0:Wf f0 N):Calls Tryz.prog 178 #[.slice (some ⟨g,o,none⟩) (nw y+1) (c),vb,.int .u64 (((q:Nat):Int))] w (RetB g L (fun v f=>∃b,v=.bool (decide (b=1))∧TRes q y o (nw y) f0 f N b) w):=by
 have _:=hs
 have _:=hL
 have Rg:=R0
 refine calls_enter (a:=⟨List.toArray ([.slice (some ⟨g,o,none⟩) (nw y+1) (c),vb,Ut q]++us 55),[]⟩) Tryz.func178 rfl (by kernel_rfl) ?_
 have NL:NoLook (bodyPost Tryz.prog Tryz.f178 (RetB g L (fun v f=>∃b,v=.bool (decide (b=1))∧TRes q y o (nw y) f0 f N b) w)):=noLook_body
 refine wp_seq ?_
 refine rg (fun c d v a w h=>NL c d v a w h) [(4,.ptr 43 (.natF ((fun k=>k=g)) (y))),(6,.eq (.bool (false)))] [0] [] [] 58 2 ?_ ?_
 ·refine sn [] (fun w1 hw1=>.fin (yld_newBox rfl rfl (MR.mono _ hw1 hb))) ?_
  exact so [] (fun w1 hw1=>.fin (yld_assign rfl ⟨Grow.refl _,rfl⟩)) (.nil _ _)
 rintro w1 hw1 _ ⟨b4,rfl,B4⟩ _ rfl hN
 have W1:Mod g w w1:=(Mod.refl g w).trans hw1
 have n_b4_g:b4≠g:=Nat.ne_of_gt (Nat.lt_of_lt_of_le Rg.lt hN.1.1)
 clear hN
 replace Rg:=Rg.below hw1
 replace hb:=MR.mono _ hw1 hb
 refine fr ([.slice (some ⟨g,o,none⟩) (nw y+1) (c),vb,Ut q,u,pt b4,u,.bool (false)]++us 51) ?_
 refine nx ?_
 refine wp_seq ?_
 refine rg (fun c d v a w h=>NL c d v a w h) [(7,.eq (.int .u64 (0))),(8,.eq (.int .u64 (0)))] [] [] [] 58 2 ?_ ?_
 ·refine so [] (fun w2 hw2=>.fin (yld_assign rfl ⟨Grow.refl _,rfl⟩)) ?_
  exact so [] (fun w2 hw2=>.fin (yld_assign rfl ⟨Grow.refl _,rfl⟩)) (.nil _ _)
 rintro w2 hw2 _ rfl _ rfl-
 have W2:Mod g w w2:=W1.trans hw2
 replace B4:=B4.grow hw2
 replace Rg:=Rg.below hw2
 replace hb:=MR.mono _ hw2 hb
 refine fr ([.slice (some ⟨g,o,none⟩) (nw y+1) (c),vb,Ut q,u,pt b4,u,.bool (false),.int .u64 (0),.int .u64 (0)]++us 49) ?_
 refine nx ?_
 refine wp_seq ?_
 refine wp_seq ?_
 refine rg (fun c d v a w h=>NL c d v a w h) [(12,.natF ((fun k=>k=g)) (y)),(13,.eq (.int .i64 (((nw y:Nat):Int)))),(14,.eq (.int .i64 (0)))] [] [] [] 58 3 ?_ ?_
 ·refine so [] (fun w3 hw3=>.fin (yld_loadBox rfl rfl aggNat (B4.grow hw3) (shNatF))) ?_
  refine so [0] (fun w3 hw3=>by rintro v12 h12;exact .fin (yld_call rfl cal_nat_Nat_Len rfl (cLenF h12))) ?_
  exact so [] (fun w3 hw3=>.fin (yld_move rfl ⟨Grow.refl _,rfl⟩)) (.nil _ _)
 rintro w3 hw3 v12-_ rfl _ rfl-
 have W3:Mod g w w3:=W2.trans hw3
 replace B4:=B4.grow hw3
 replace Rg:=Rg.below hw3
 replace hb:=MR.mono _ hw3 hb
 refine fr ([.slice (some ⟨g,o,none⟩) (nw y+1) (c),vb,Ut q,u,pt b4,u,.bool (false),.int .u64 (0),.int .u64 (0),u,u,u,v12,It (nw y),.int .i64 (0)]++us 43) ?_
 refine nx ?_
 refine wp_block ?_
 refine wp_loop_ghost (fun nn ac4 w4=>∃(i:Nat) (ov:Nat) (bo:Nat) (f:Nat→Nat),nn=nw y-i∧(i≤nw y∧TInv q y o f0 f N i ov bo)∧∃tt4:Nat→Value,ac4=⟨List.toArray ([.slice (some ⟨g,o,none⟩) (nw y+1) (c),vb,Ut q,u,pt b4,u,.bool (false),Ut ov,Ut bo,(tt4 9),(tt4 10),(tt4 11),v12,It (nw y),It i,(tt4 15),(tt4 16),(tt4 17),(tt4 18),(tt4 19),(tt4 20),(tt4 21),(tt4 22),(tt4 23),(tt4 24),(tt4 25),(tt4 26),(tt4 27),(tt4 28),(tt4 29),(tt4 30),(tt4 31),(tt4 32),(tt4 33),(tt4 34),(tt4 35),(tt4 36),(tt4 37),(tt4 38),(tt4 39),(tt4 40)]++us 17),[]⟩∧Mod g w w4∧Box w4 b4 43 (.natF ((fun k=>k=g)) (y))∧Blk w4 g 145 (wa (f) (L))∧(MR.natF ((fun k=>k=g)) (y)).R w4 vb) (nw y-0) ⟨0,0,0,f0,rfl,⟨by omega,t_start hf0⟩,fun d=>([.int .u64 (0),.int .u64 (0),u,u,u,v12,It (nw y),.int .i64 (0),u,u,u,u,u,u,u,u,u,u,u,u,u,u,u,u,u,u,u,u,u,u,u,u,u,u]:List Value).getD (d-7) undef,by kernel_rfl,W3,B4,Rg,hb⟩ ?_
 clear B4 Rg hb
 rintro nn4 _ w4 ⟨i,ov,bo,f,hnn4,⟨hi,hT⟩,tt4,rfl,W4,B4,Rg,hb⟩
 have hov:=hT.2.1;have hbo:=hT.2.2.1
 refine wp_seq ?_
 refine rg (fun c d v a w h=>NL c d v a w h) [(15,.eq (.bool (decide ((((i:Nat):Int):Int)<(((nw y:Nat):Int):Int)))))] [] [] [] 58 1 ?_ ?_
 ·exact so [] (fun w5 hw5=>.fin (yld_lss rfl rfl rfl ⟨Grow.refl _,rfl⟩)) (.nil _ _)
 rintro w5 hw5 _ rfl-
 have W5:Mod g w w5:=W4.trans hw5
 replace B4:=B4.grow hw5
 replace Rg:=Rg.below hw5
 replace hb:=MR.mono _ hw5 hb
 refine fr ([.slice (some ⟨g,o,none⟩) (nw y+1) (c),vb,Ut q,u,pt b4,u,.bool (false),Ut ov,Ut bo,(tt4 9),(tt4 10),(tt4 11),v12,It (nw y),It i,.bool (decide ((((i:Nat):Int):Int)<(((nw y:Nat):Int):Int))),(tt4 16),(tt4 17),(tt4 18),(tt4 19),(tt4 20),(tt4 21),(tt4 22),(tt4 23),(tt4 24),(tt4 25),(tt4 26),(tt4 27),(tt4 28),(tt4 29),(tt4 30),(tt4 31),(tt4 32),(tt4 33),(tt4 34),(tt4 35),(tt4 36),(tt4 37),(tt4 38),(tt4 39),(tt4 40)]++us 17) ?_
 refine nx ?_
 refine wp_seq ?_
 refine wp_cond_split (t:=decide ((((i:Nat):Int):Int)<(((nw y:Nat):Int):Int))) rfl (fun hlt=>?_) (fun hlt=>?_)
 ·have hlt1:i<nw y:=by simpa using hlt
  have hfi:=hT.1 (o+i) zo
  refine wp_skip ?_
  change Code.wp _ _ _ ⟨_,[]⟩ _
  refine wp_seq ?_
  refine wp_block ?_
  refine wp_seq ?_
  refine rg (fun c d v a w h=>NL c d v a w h) [(16,.eq (.int .i64 (((i:Nat):Int)))),(9,.eq (.int .i64 (((i:Nat):Int))))] [] [] [] 58 2 ?_ ?_
  ·refine so [] (fun w6 hw6=>.fin (yld_move rfl ⟨Grow.refl _,rfl⟩)) ?_
   exact so [0] (fun w6 hw6=>by rintro _ rfl;exact .fin (yld_assign rfl ⟨Grow.refl _,rfl⟩)) (.nil _ _)
  rintro w6 hw6 v16-_ rfl-
  have W6:Mod g w w6:=W5.trans hw6
  replace B4:=B4.grow hw6
  replace Rg:=Rg.below hw6
  replace hb:=MR.mono _ hw6 hb
  refine fr ([.slice (some ⟨g,o,none⟩) (nw y+1) (c),vb,Ut q,u,pt b4,u,.bool (false),Ut ov,Ut bo,It i,(tt4 10),(tt4 11),v12,It (nw y),It i,.bool (decide ((((i:Nat):Int):Int)<(((nw y:Nat):Int):Int))),v16,(tt4 17),(tt4 18),(tt4 19),(tt4 20),(tt4 21),(tt4 22),(tt4 23),(tt4 24),(tt4 25),(tt4 26),(tt4 27),(tt4 28),(tt4 29),(tt4 30),(tt4 31),(tt4 32),(tt4 33),(tt4 34),(tt4 35),(tt4 36),(tt4 37),(tt4 38),(tt4 39),(tt4 40)]++us 17) ?_
  refine nx ?_
  refine wp_seq ?_
  refine rg (fun c d v a w h=>NL c d v a w h) [(18,.natF ((fun k=>k=g)) (y)),(19,.eq (.int .i64 (((i:Nat):Int)))),(20,.eq (.int .u64 (((wd y i:Nat):Int)))),(21,.eq (.int .u64 (((q:Nat):Int)))),(22,.eq (.int .u64 (((ov:Nat):Int)))),(23,.tup2 (.eq (.int .u64 (((((wd y i)*q+ov+0)/18446744073709551616:Nat):Int)))) (.eq (.int .u64 (((((wd y i)*q+ov+0)%18446744073709551616:Nat):Int))))),(17,.tup2 (.eq (.int .u64 (((((wd y i)*q+ov+0)/18446744073709551616:Nat):Int)))) (.eq (.int .u64 (((((wd y i)*q+ov+0)%18446744073709551616:Nat):Int))))),(24,.eq (.int .u64 (((((wd y i)*q+ov+0)/18446744073709551616:Nat):Int)))),(25,.eq (.int .u64 (((((wd y i)*q+ov+0)%18446744073709551616:Nat):Int)))),(10,.eq (.int .u64 (((((wd y i)*q+ov+0)/18446744073709551616:Nat):Int)))),(11,.eq (.int .u64 (((((wd y i)*q+ov+0)%18446744073709551616:Nat):Int))))] [] [] [] 58 11 ?_ ?_
  ·refine so [] (fun w7 hw7=>.fin (yld_loadBox rfl rfl aggNat (B4.grow hw7) (shNatF))) ?_
   refine so [] (fun w7 hw7=>.fin (yld_move rfl ⟨Grow.refl _,rfl⟩)) ?_
   refine so [0,1] (fun w7 hw7=>by rintro v18 h18 _ rfl;exact .fin (yld_call rfl cal_nat_Nat_Word rfl (cWordF (k:=i) h18))) ?_
   refine so [] (fun w7 hw7=>.fin (yld_move rfl ⟨Grow.refl _,rfl⟩)) ?_
   refine so [] (fun w7 hw7=>.fin (yld_move rfl ⟨Grow.refl _,rfl⟩)) ?_
   refine so [2,3,4] (fun w7 hw7=>by rintro _ rfl _ rfl _ rfl;exact .fin (yld_call rfl cal_word_MulAdd rfl (cWMulAdd (x:=(wd y i)) (y:=q) (a:=ov) (b:=0) (by first | omega | exact wd_lt _ _ | exact Nat.mod_lt _ zo) (by first | omega | exact wd_lt _ _ | exact Nat.mod_lt _ zo) (by first | omega | exact wd_lt _ _ | exact Nat.mod_lt _ zo) (by first | omega | exact wd_lt _ _ | exact Nat.mod_lt _ zo)))) ?_
   refine so [5] (fun w7 hw7=>by rintro _ ⟨x23_0,x23_1,rfl,hx23_0,hx23_1⟩;exact .fin (yld_move rfl ⟨Grow.refl _,⟨x23_0,x23_1,rfl,hx23_0,hx23_1⟩⟩)) ?_
   refine so [6] (fun w7 hw7=>by rintro _ ⟨x17_0,x17_1,rfl,hx17_0,hx17_1⟩;exact .fin (yld_extract rfl rfl rfl ⟨Grow.refl _,hx17_0⟩)) ?_
   refine so [6] (fun w7 hw7=>by rintro _ ⟨x17_0,x17_1,rfl,hx17_0,hx17_1⟩;exact .fin (yld_extract rfl rfl rfl ⟨Grow.refl _,hx17_1⟩)) ?_
   refine so [7] (fun w7 hw7=>by rintro _ rfl;exact .fin (yld_assign rfl ⟨Grow.refl _,rfl⟩)) ?_
   exact so [8] (fun w7 hw7=>by rintro _ rfl;exact .fin (yld_assign rfl ⟨Grow.refl _,rfl⟩)) (.nil _ _)
  rintro w7 hw7 v18-v19-v20-v21-v22-v23-v17-v24-v25-_ rfl _ rfl-
  have W7:Mod g w w7:=W6.trans hw7
  replace B4:=B4.grow hw7
  replace Rg:=Rg.below hw7
  replace hb:=MR.mono _ hw7 hb
  refine fr ([.slice (some ⟨g,o,none⟩) (nw y+1) (c),vb,Ut q,u,pt b4,u,.bool (false),Ut ov,Ut bo,It i,Ut (((wd y i)*q+ov+0)/18446744073709551616),Ut (((wd y i)*q+ov+0)%18446744073709551616),v12,It (nw y),It i,.bool (decide ((((i:Nat):Int):Int)<(((nw y:Nat):Int):Int))),v16,v17,v18,v19,v20,v21,v22,v23,v24,v25,(tt4 26),(tt4 27),(tt4 28),(tt4 29),(tt4 30),(tt4 31),(tt4 32),(tt4 33),(tt4 34),(tt4 35),(tt4 36),(tt4 37),(tt4 38),(tt4 39),(tt4 40)]++us 17) ?_
  refine nx ?_
  refine wp_seq ?_
  refine rg (fun c d v a w h=>NL c d v a w h) [(26,.eq (.int .u64 (((((wd y i)*q+ov+0)/18446744073709551616:Nat):Int)))),(7,.eq (.int .u64 (((((wd y i)*q+ov+0)/18446744073709551616:Nat):Int))))] [] [] [] 58 2 ?_ ?_
  ·refine so [] (fun w8 hw8=>.fin (yld_move rfl ⟨Grow.refl _,rfl⟩)) ?_
   exact so [0] (fun w8 hw8=>by rintro _ rfl;exact .fin (yld_assign rfl ⟨Grow.refl _,rfl⟩)) (.nil _ _)
  rintro w8 hw8 v26-_ rfl-
  have W8:Mod g w w8:=W7.trans hw8
  replace B4:=B4.grow hw8
  replace Rg:=Rg.below hw8
  replace hb:=MR.mono _ hw8 hb
  refine fr ([.slice (some ⟨g,o,none⟩) (nw y+1) (c),vb,Ut q,u,pt b4,u,.bool (false),Ut (((wd y i)*q+ov+0)/18446744073709551616),Ut bo,It i,Ut (((wd y i)*q+ov+0)/18446744073709551616),Ut (((wd y i)*q+ov+0)%18446744073709551616),v12,It (nw y),It i,.bool (decide ((((i:Nat):Int):Int)<(((nw y:Nat):Int):Int))),v16,v17,v18,v19,v20,v21,v22,v23,v24,v25,v26,(tt4 27),(tt4 28),(tt4 29),(tt4 30),(tt4 31),(tt4 32),(tt4 33),(tt4 34),(tt4 35),(tt4 36),(tt4 37),(tt4 38),(tt4 39),(tt4 40)]++us 17) ?_
  refine nx ?_
  refine rg (fun c d v a w h=>NL c d v a w h) [(28,.eq (.slice (some ⟨g,o,none⟩) (nw y+1) (c))),(29,.eq (.int .i64 (((i:Nat):Int)))),(30,.eq (.slice (some ⟨g,o,none⟩) (nw y+1) (c))),(31,.eq (.int .i64 (((i:Nat):Int)))),(32,.eq (.pointer (some ⟨g,o+i,none⟩))),(33,.eq (.int .u64 (((f (o+i):Nat):Int)))),(34,.eq (.int .u64 (((((wd y i)*q+ov+0)%18446744073709551616:Nat):Int)))),(35,.eq (.int .u64 (((bo:Nat):Int)))),(36,.tup2 (.eq (.int .u64 (((sbW (f (o+i)) (((wd y i)*q+ov+0)%18446744073709551616) bo:Nat):Int)))) (.eq (.int .u64 (((sbB (f (o+i)) (((wd y i)*q+ov+0)%18446744073709551616) bo:Nat):Int))))),(27,.tup2 (.eq (.int .u64 (((sbW (f (o+i)) (((wd y i)*q+ov+0)%18446744073709551616) bo:Nat):Int)))) (.eq (.int .u64 (((sbB (f (o+i)) (((wd y i)*q+ov+0)%18446744073709551616) bo:Nat):Int))))),(37,.eq (.int .u64 (((sbW (f (o+i)) (((wd y i)*q+ov+0)%18446744073709551616) bo:Nat):Int)))),(38,.eq (.int .u64 (((sbB (f (o+i)) (((wd y i)*q+ov+0)%18446744073709551616) bo:Nat):Int)))),(39,.eq (.pointer (some ⟨g,o+i,none⟩)))] [] [11] [] 58 13 ?_ ?_
  ·refine so [] (fun w9 hw9=>.fin (yld_move rfl ⟨Grow.refl _,rfl⟩)) ?_
   refine so [] (fun w9 hw9=>.fin (yld_move rfl ⟨Grow.refl _,rfl⟩)) ?_
   refine so [] (fun w9 hw9=>.fin (yld_move rfl ⟨Grow.refl _,rfl⟩)) ?_
   refine so [] (fun w9 hw9=>.fin (yld_move rfl ⟨Grow.refl _,rfl⟩)) ?_
   refine so [2,3] (fun w9 hw9=>by rintro _ rfl _ rfl;exact .fin (yld_indexE (k:=i) rfl rfl rfl (rfl) zo (j:=o+i) (rfl))) ?_
   refine so [4] (fun w9 hw9=>by rintro _ rfl;exact .fin (yld_loadE rfl rfl (Rg.below hw9) zo)) ?_
   refine so [] (fun w9 hw9=>.fin (yld_move rfl ⟨Grow.refl _,rfl⟩)) ?_
   refine so [] (fun w9 hw9=>.fin (yld_move rfl ⟨Grow.refl _,rfl⟩)) ?_
   refine so [5,6,7] (fun w9 hw9=>by rintro _ rfl _ rfl _ rfl;exact .fin (yld_call rfl cal_word_Sub rfl (cWSub (x:=(f (o+i))) (y:=(((wd y i)*q+ov+0)%18446744073709551616)) (z:=bo) (by first | omega | exact wd_lt _ _ | exact Nat.mod_lt _ zo) (by first | omega | exact wd_lt _ _ | exact Nat.mod_lt _ zo) zo))) ?_
   refine so [8] (fun w9 hw9=>by rintro _ ⟨x36_0,x36_1,rfl,hx36_0,hx36_1⟩;exact .fin (yld_move rfl ⟨Grow.refl _,⟨x36_0,x36_1,rfl,hx36_0,hx36_1⟩⟩)) ?_
   refine so [9] (fun w9 hw9=>by rintro _ ⟨x27_0,x27_1,rfl,hx27_0,hx27_1⟩;exact .fin (yld_extract rfl rfl rfl ⟨Grow.refl _,hx27_0⟩)) ?_
   refine sl [9] (fun w9 hw9=>by rintro _ ⟨x27_0,x27_1,rfl,hx27_0,hx27_1⟩;exact .fin (⟨_,fun w2 _=>pure_extract rfl rfl rfl w2,hx27_1⟩)) ?_
   exact so [0,1] (fun w9 hw9=>by rintro _ rfl _ rfl;exact .fin (yld_indexE (k:=i) rfl rfl rfl (rfl) zo (j:=o+i) (rfl))) (.nil _ _)
  rintro w9 hw9 v28-v29-v30-v31-v32-v33-v34-v35-v36-v27-_ rfl _ rfl _ rfl-
  have W9:Mod g w w9:=W8.trans hw9
  replace B4:=B4.grow hw9
  replace Rg:=Rg.below hw9
  replace hb:=MR.mono _ hw9 hb
  have KK:Kept [] w9 w9:=fun _ _=>rfl
  refine fr ([.slice (some ⟨g,o,none⟩) (nw y+1) (c),vb,Ut q,u,pt b4,u,.bool (false),Ut (((wd y i)*q+ov+0)/18446744073709551616),Ut bo,It i,Ut (((wd y i)*q+ov+0)/18446744073709551616),Ut (((wd y i)*q+ov+0)%18446744073709551616),v12,It (nw y),It i,.bool (decide ((((i:Nat):Int):Int)<(((nw y:Nat):Int):Int))),v16,v17,v18,v19,v20,v21,v22,v23,v24,v25,v26,v27,v28,v29,v30,v31,v32,v33,v34,v35,v36,Ut (sbW (f (o+i)) (((wd y i)*q+ov+0)%18446744073709551616) bo),Ut (sbB (f (o+i)) (((wd y i)*q+ov+0)%18446744073709551616) bo),.pointer (some ⟨g,o+i,none⟩),(tt4 40)]++us 17) ?_
  change wpListS _ _ _ _ [_,_] ⟨_,[]⟩ _
  refine wpListS_yld rfl ?_
  refine yld_storeE (i:=o+i) (v:=sbW (f (o+i)) (((wd y i)*q+ov+0)%18446744073709551616) bo) rfl rfl rfl Rg zo fun w10 P10 R'=>⟨fun _=>Kept.put KK P10 (fun _ hk=>(by cases hk)),?_⟩
  replace KK:=Kept.put KK P10 (fun _ hk=>(by cases hk))
  have M10:Mod g w9 w10:=P10.toMod
  have W10:Mod g w w10:=W9.step M10
  replace B4:=B4.mod M10 rfl n_b4_g
  replace hb:=natF_mod hb M10 rfl
  replace Rg:=R';clear R'
  change wpListS _ _ _ _ [_] ⟨_,[]⟩ _
  refine wpListS_yld rfl ?_
  refine yld_assign rfl ⟨fun _=>KK,?_⟩
  refine wpListS_nil ?_
  change Code.wp _ _ _ ⟨List.toArray (List.set _ 8 _),[]⟩ _
  refine rg (fun c d v a w h=>NL c d v a w h) [(40,.eq (.int .i64 (((i+1:Nat):Int))))] [] [] [] 58 1 ?_ ?_
  ·exact so [] (fun w11 hw11=>.fin (yld_add rfl rfl rfl (r:=((i+1:Nat):Int)) (by rw[IntKind.wrap_i64];omega) ⟨Grow.refl _,rfl⟩)) (.nil _ _)
  rintro w11 hw11 _ rfl-
  have W11:Mod g w w11:=W10.trans hw11
  replace B4:=B4.grow hw11
  replace Rg:=Rg.below hw11
  replace hb:=MR.mono _ hw11 hb
  have KK:Kept [] w11 w11:=fun _ _=>rfl
  refine fr ([.slice (some ⟨g,o,none⟩) (nw y+1) (c),vb,Ut q,u,pt b4,u,.bool (false),Ut (((wd y i)*q+ov+0)/18446744073709551616),Ut (sbB (f (o+i)) (((wd y i)*q+ov+0)%18446744073709551616) bo),It i,Ut (((wd y i)*q+ov+0)/18446744073709551616),Ut (((wd y i)*q+ov+0)%18446744073709551616),v12,It (nw y),It i,.bool (decide ((((i:Nat):Int):Int)<(((nw y:Nat):Int):Int))),v16,v17,v18,v19,v20,v21,v22,v23,v24,v25,v26,v27,v28,v29,v30,v31,v32,v33,v34,v35,v36,Ut (sbW (f (o+i)) (((wd y i)*q+ov+0)%18446744073709551616) bo),Ut (sbB (f (o+i)) (((wd y i)*q+ov+0)%18446744073709551616) bo),.pointer (some ⟨g,o+i,none⟩),It (i+1)]++us 17) ?_
  change wpListS _ _ _ _ [_] ⟨_,[]⟩ _
  refine wpListS_yld rfl ?_
  refine yld_move rfl ⟨fun _=>KK,?_⟩
  refine wpListS_nil ?_
  refine⟨_,?_,i+1,((wd y i)*q+ov+0)/18446744073709551616,sbB (f (o+i)) (((wd y i)*q+ov+0)%18446744073709551616) bo,upd (f) (o+i) (sbW (f (o+i)) (((wd y i)*q+ov+0)%18446744073709551616) bo),rfl,⟨by omega,t_step hT zo hq⟩,fun d=>([Ut (((wd y i)*q+ov+0)/18446744073709551616),Ut (sbB (f (o+i)) (((wd y i)*q+ov+0)%18446744073709551616) bo),It i,Ut (((wd y i)*q+ov+0)/18446744073709551616),Ut (((wd y i)*q+ov+0)%18446744073709551616),v12,It (nw y),It (i+1),.bool (decide ((((i:Nat):Int):Int)<(((nw y:Nat):Int):Int))),v16,v17,v18,v19,v20,v21,v22,v23,v24,v25,v26,v27,v28,v29,v30,v31,v32,v33,v34,v35,v36,Ut (sbW (f (o+i)) (((wd y i)*q+ov+0)%18446744073709551616) bo),Ut (sbB (f (o+i)) (((wd y i)*q+ov+0)%18446744073709551616) bo),.pointer (some ⟨g,o+i,none⟩),It (i+1)]:List Value).getD (d-7) undef,by kernel_rfl,W11,B4,Rg,hb⟩
  rw[hnn4];omega
 ·have hi1:i=nw y:=Nat.le_antisymm hi (by simpa using hlt)
  rw[hi1] at hT
  have hfi:=hT.1 (o+nw y) zo
  refine wp_exit ?_
  change Code.wp _ _ _ ⟨_,[]⟩ _
  refine wp_seq ?_
  refine rg (fun c d v a w h=>NL c d v a w h) [(42,.eq (.slice (some ⟨g,o,none⟩) (nw y+1) (c))),(43,.natF ((fun k=>k=g)) (y)),(44,.eq (.int .i64 (((nw y:Nat):Int)))),(45,.eq (.slice (some ⟨g,o,none⟩) (nw y+1) (c))),(46,.natF ((fun k=>k=g)) (y)),(47,.eq (.int .i64 (((nw y:Nat):Int)))),(48,.eq (.pointer (some ⟨g,o+(nw y),none⟩))),(49,.eq (.int .u64 (((f (o+(nw y)):Nat):Int)))),(50,.eq (.int .u64 (((ov:Nat):Int)))),(51,.eq (.int .u64 (((bo:Nat):Int)))),(52,.tup2 (.eq (.int .u64 (((sbW (f (o+(nw y))) ov bo:Nat):Int)))) (.eq (.int .u64 (((sbB (f (o+(nw y))) ov bo:Nat):Int))))),(41,.tup2 (.eq (.int .u64 (((sbW (f (o+(nw y))) ov bo:Nat):Int)))) (.eq (.int .u64 (((sbB (f (o+(nw y))) ov bo:Nat):Int))))),(53,.eq (.int .u64 (((sbW (f (o+(nw y))) ov bo:Nat):Int)))),(54,.eq (.int .u64 (((sbB (f (o+(nw y))) ov bo:Nat):Int)))),(55,.eq (.pointer (some ⟨g,o+(nw y),none⟩)))] [] [13] [] 58 15 ?_ ?_
  ·refine so [] (fun w12 hw12=>.fin (yld_move rfl ⟨Grow.refl _,rfl⟩)) ?_
   refine so [] (fun w12 hw12=>.fin (yld_loadBox rfl rfl aggNat (B4.grow hw12) (shNatF))) ?_
   refine so [1] (fun w12 hw12=>by rintro v43 h43;exact .fin (yld_call rfl cal_nat_Nat_Len rfl (cLenF h43))) ?_
   refine so [] (fun w12 hw12=>.fin (yld_move rfl ⟨Grow.refl _,rfl⟩)) ?_
   refine so [] (fun w12 hw12=>.fin (yld_loadBox rfl rfl aggNat (B4.grow hw12) (shNatF))) ?_
   refine so [4] (fun w12 hw12=>by rintro v46 h46;exact .fin (yld_call rfl cal_nat_Nat_Len rfl (cLenF h46))) ?_
   refine so [3,5] (fun w12 hw12=>by rintro _ rfl _ rfl;exact .fin (yld_indexE (k:=nw y) rfl rfl rfl (rfl) zo (j:=o+(nw y)) (rfl))) ?_
   refine so [6] (fun w12 hw12=>by rintro _ rfl;exact .fin (yld_loadE rfl rfl (Rg.below hw12) zo)) ?_
   refine so [] (fun w12 hw12=>.fin (yld_move rfl ⟨Grow.refl _,rfl⟩)) ?_
   refine so [] (fun w12 hw12=>.fin (yld_move rfl ⟨Grow.refl _,rfl⟩)) ?_
   refine so [7,8,9] (fun w12 hw12=>by rintro _ rfl _ rfl _ rfl;exact .fin (yld_call rfl cal_word_Sub rfl (cWSub (x:=(f (o+(nw y)))) (y:=ov) (z:=bo) (by first | omega | exact wd_lt _ _ | exact Nat.mod_lt _ zo) (by first | omega | exact wd_lt _ _ | exact Nat.mod_lt _ zo) zo))) ?_
   refine so [10] (fun w12 hw12=>by rintro _ ⟨x52_0,x52_1,rfl,hx52_0,hx52_1⟩;exact .fin (yld_move rfl ⟨Grow.refl _,⟨x52_0,x52_1,rfl,hx52_0,hx52_1⟩⟩)) ?_
   refine so [11] (fun w12 hw12=>by rintro _ ⟨x41_0,x41_1,rfl,hx41_0,hx41_1⟩;exact .fin (yld_extract rfl rfl rfl ⟨Grow.refl _,hx41_0⟩)) ?_
   refine sl [11] (fun w12 hw12=>by rintro _ ⟨x41_0,x41_1,rfl,hx41_0,hx41_1⟩;exact .fin (⟨_,fun w2 _=>pure_extract rfl rfl rfl w2,hx41_1⟩)) ?_
   exact so [0,2] (fun w12 hw12=>by rintro _ rfl _ rfl;exact .fin (yld_indexE (k:=nw y) rfl rfl rfl (rfl) zo (j:=o+(nw y)) (rfl))) (.nil _ _)
  rintro w12 hw12 v42-v43-v44-v45-v46-v47-v48-v49-v50-v51-v52-v41-_ rfl _ rfl _ rfl-
  have W12:Mod g w w12:=W5.trans hw12
  replace Rg:=Rg.below hw12
  have KK:Kept [] w12 w12:=fun _ _=>rfl
  refine fr [.slice (some ⟨g,o,none⟩) (nw y+1) (c),vb,Ut q,u,pt b4,u,.bool (false),Ut ov,Ut bo,(tt4 9),(tt4 10),(tt4 11),v12,It (nw y),It i,.bool (decide ((((i:Nat):Int):Int)<(((nw y:Nat):Int):Int))),(tt4 16),(tt4 17),(tt4 18),(tt4 19),(tt4 20),(tt4 21),(tt4 22),(tt4 23),(tt4 24),(tt4 25),(tt4 26),(tt4 27),(tt4 28),(tt4 29),(tt4 30),(tt4 31),(tt4 32),(tt4 33),(tt4 34),(tt4 35),(tt4 36),(tt4 37),(tt4 38),(tt4 39),(tt4 40),v41,v42,v43,v44,v45,v46,v47,v48,v49,v50,v51,v52,Ut (sbW (f (o+(nw y))) ov bo),Ut (sbB (f (o+(nw y))) ov bo),.pointer (some ⟨g,o+(nw y),none⟩),u,u] ?_
  change wpListS _ _ _ _ [_,_] ⟨_,[]⟩ _
  refine wpListS_yld rfl ?_
  refine yld_storeE (i:=o+(nw y)) (v:=sbW (f (o+(nw y))) ov bo) rfl rfl rfl Rg zo fun w13 P13 R'=>⟨fun _=>Kept.put KK P13 (fun _ hk=>(by cases hk)),?_⟩
  replace KK:=Kept.put KK P13 (fun _ hk=>(by cases hk))
  have M13:Mod g w12 w13:=P13.toMod
  have W13:Mod g w w13:=W12.step M13
  replace Rg:=R';clear R'
  change wpListS _ _ _ _ [_] ⟨_,[]⟩ _
  refine wpListS_yld rfl ?_
  refine yld_assign rfl ⟨fun _=>KK,?_⟩
  refine wpListS_nil ?_
  change Code.wp _ _ _ ⟨List.toArray (List.set _ 8 _),[]⟩ _
  refine wp_seq ?_
  refine rg (fun c d v a w h=>NL c d v a w h) [(56,.eq (.int .u64 (((sbB (f (o+(nw y))) ov bo:Nat):Int)))),(57,.eq (.bool ((((sbB (f (o+(nw y))) ov bo:Nat):Int):Int)==(1:Int)))),(6,.eq (.bool ((((sbB (f (o+(nw y))) ov bo:Nat):Int):Int)==(1:Int))))] [] [] [] 58 3 ?_ ?_
  ·refine so [] (fun w14 hw14=>.fin (yld_move rfl ⟨Grow.refl _,rfl⟩)) ?_
   refine so [0] (fun w14 hw14=>by rintro _ rfl;exact .fin (yld_eql rfl rfl rfl ⟨Grow.refl _,rfl⟩)) ?_
   exact so [1] (fun w14 hw14=>by rintro _ rfl;exact .fin (yld_assign rfl ⟨Grow.refl _,rfl⟩)) (.nil _ _)
  rintro w14 hw14 v56-v57-_ rfl-
  have W14:Mod g w w14:=W13.trans hw14
  replace Rg:=Rg.below hw14
  refine fr [.slice (some ⟨g,o,none⟩) (nw y+1) (c),vb,Ut q,u,pt b4,u,.bool ((((sbB (f (o+(nw y))) ov bo:Nat):Int):Int)==(1:Int)),Ut ov,Ut (sbB (f (o+(nw y))) ov bo),(tt4 9),(tt4 10),(tt4 11),v12,It (nw y),It i,.bool (decide ((((i:Nat):Int):Int)<(((nw y:Nat):Int):Int))),(tt4 16),(tt4 17),(tt4 18),(tt4 19),(tt4 20),(tt4 21),(tt4 22),(tt4 23),(tt4 24),(tt4 25),(tt4 26),(tt4 27),(tt4 28),(tt4 29),(tt4 30),(tt4 31),(tt4 32),(tt4 33),(tt4 34),(tt4 35),(tt4 36),(tt4 37),(tt4 38),(tt4 39),(tt4 40),v41,v42,v43,v44,v45,v46,v47,v48,v49,v50,v51,v52,Ut (sbW (f (o+(nw y))) ov bo),Ut (sbB (f (o+(nw y))) ov bo),.pointer (some ⟨g,o+(nw y),none⟩),v56,v57] ?_
  refine nx ?_
  refine wp_ret ?_
  change bodyPost Tryz.prog Tryz.f178 (RetB g L (fun v f=>∃b,v=.bool (decide (b=1))∧TRes q y o (nw y) f0 f N b) w) .ret _ _
  exact body_slotB rfl W14 Rg ⟨_,by show Value.bool _=_;congr 1;exact sb_one,t_end hT zo⟩ rfl
set_option maxHeartbeats 2000000 in
theorem cBack{g o c L N y:Nat}{f0:Nat→Nat}{vb:Value}{w:World}(R0:Blk w g 145 (wa f0 L))(hb:(MR.natF ((fun k=>k=g)) (y)).R w vb)(hN:o+nw y<N)(hL:N≤L)(hs:nw y≤1099511627776)(hf0:Wf f0 N):Calls Tryz.prog 179 #[.slice (some ⟨g,o,none⟩) (nw y+1) (c),vb] w (RetB g L (fun _ f=>∃c,BkRes y o (nw y) f0 f N c) w):=by
 have _:=hs
 have _:=hL
 have Rg:=R0
 refine calls_enter (a:=⟨List.toArray ([.slice (some ⟨g,o,none⟩) (nw y+1) (c),vb]++us 33),[]⟩) Tryz.func179 rfl (by kernel_rfl) ?_
 have NL:NoLook (bodyPost Tryz.prog Tryz.f179 (RetB g L (fun _ f=>∃c,BkRes y o (nw y) f0 f N c) w)):=noLook_body
 refine wp_seq ?_
 refine rg (fun c d v a w h=>NL c d v a w h) [(3,.ptr 43 (.natF ((fun k=>k=g)) (y)))] [0] [] [] 35 1 ?_ ?_
 ·exact sn [] (fun w1 hw1=>.fin (yld_newBox rfl rfl (MR.mono _ hw1 hb))) (.nil _ _)
 rintro w1 hw1 _ ⟨b3,rfl,B3⟩ hN
 have W1:Mod g w w1:=(Mod.refl g w).trans hw1
 have n_b3_g:b3≠g:=Nat.ne_of_gt (Nat.lt_of_lt_of_le Rg.lt hN.1.1)
 clear hN
 replace Rg:=Rg.below hw1
 replace hb:=MR.mono _ hw1 hb
 refine fr ([.slice (some ⟨g,o,none⟩) (nw y+1) (c),vb,u,pt b3]++us 31) ?_
 refine nx ?_
 refine wp_seq ?_
 refine rg (fun c d v a w h=>NL c d v a w h) [(4,.eq (.int .u64 (0)))] [] [] [] 35 1 ?_ ?_
 ·exact so [] (fun w2 hw2=>.fin (yld_assign rfl ⟨Grow.refl _,rfl⟩)) (.nil _ _)
 rintro w2 hw2 _ rfl-
 have W2:Mod g w w2:=W1.trans hw2
 replace B3:=B3.grow hw2
 replace Rg:=Rg.below hw2
 replace hb:=MR.mono _ hw2 hb
 refine fr ([.slice (some ⟨g,o,none⟩) (nw y+1) (c),vb,u,pt b3,.int .u64 (0)]++us 30) ?_
 refine nx ?_
 refine wp_seq ?_
 refine wp_seq ?_
 refine rg (fun c d v a w h=>NL c d v a w h) [(6,.natF ((fun k=>k=g)) (y)),(7,.eq (.int .i64 (((nw y:Nat):Int)))),(8,.eq (.int .i64 (0)))] [] [] [] 35 3 ?_ ?_
 ·refine so [] (fun w3 hw3=>.fin (yld_loadBox rfl rfl aggNat (B3.grow hw3) (shNatF))) ?_
  refine so [0] (fun w3 hw3=>by rintro v6 h6;exact .fin (yld_call rfl cal_nat_Nat_Len rfl (cLenF h6))) ?_
  exact so [] (fun w3 hw3=>.fin (yld_move rfl ⟨Grow.refl _,rfl⟩)) (.nil _ _)
 rintro w3 hw3 v6-_ rfl _ rfl-
 have W3:Mod g w w3:=W2.trans hw3
 replace B3:=B3.grow hw3
 replace Rg:=Rg.below hw3
 replace hb:=MR.mono _ hw3 hb
 refine fr ([.slice (some ⟨g,o,none⟩) (nw y+1) (c),vb,u,pt b3,.int .u64 (0),u,v6,It (nw y),.int .i64 (0)]++us 26) ?_
 refine nx ?_
 refine wp_block ?_
 refine wp_loop_ghost (fun nn ac4 w4=>∃(i:Nat) (ca:Nat) (f:Nat→Nat),nn=nw y-i∧(i≤nw y∧BkInv y o f0 f N i ca)∧∃tt4:Nat→Value,ac4=⟨List.toArray ([.slice (some ⟨g,o,none⟩) (nw y+1) (c),vb,u,pt b3,Ut ca,(tt4 5),v6,It (nw y),It i,(tt4 9),(tt4 10),(tt4 11),(tt4 12),(tt4 13),(tt4 14),(tt4 15),(tt4 16),(tt4 17),(tt4 18),(tt4 19),(tt4 20),(tt4 21),(tt4 22),(tt4 23),(tt4 24),(tt4 25),(tt4 26)]++us 8),[]⟩∧Mod g w w4∧Box w4 b3 43 (.natF ((fun k=>k=g)) (y))∧Blk w4 g 145 (wa (f) (L))∧(MR.natF ((fun k=>k=g)) (y)).R w4 vb) (nw y-0) ⟨0,0,f0,rfl,⟨by omega,bk_start hf0⟩,fun d=>([.int .u64 (0),u,v6,It (nw y),.int .i64 (0),u,u,u,u,u,u,u,u,u,u,u,u,u,u,u,u,u,u]:List Value).getD (d-4) undef,by kernel_rfl,W3,B3,Rg,hb⟩ ?_
 clear B3 Rg hb
 rintro nn4 _ w4 ⟨i,ca,f,hnn4,⟨hi,hT⟩,tt4,rfl,W4,B3,Rg,hb⟩
 have hca:=hT.2.1
 refine wp_seq ?_
 refine rg (fun c d v a w h=>NL c d v a w h) [(9,.eq (.bool (decide ((((i:Nat):Int):Int)<(((nw y:Nat):Int):Int)))))] [] [] [] 35 1 ?_ ?_
 ·exact so [] (fun w5 hw5=>.fin (yld_lss rfl rfl rfl ⟨Grow.refl _,rfl⟩)) (.nil _ _)
 rintro w5 hw5 _ rfl-
 have W5:Mod g w w5:=W4.trans hw5
 replace B3:=B3.grow hw5
 replace Rg:=Rg.below hw5
 replace hb:=MR.mono _ hw5 hb
 refine fr ([.slice (some ⟨g,o,none⟩) (nw y+1) (c),vb,u,pt b3,Ut ca,(tt4 5),v6,It (nw y),It i,.bool (decide ((((i:Nat):Int):Int)<(((nw y:Nat):Int):Int))),(tt4 10),(tt4 11),(tt4 12),(tt4 13),(tt4 14),(tt4 15),(tt4 16),(tt4 17),(tt4 18),(tt4 19),(tt4 20),(tt4 21),(tt4 22),(tt4 23),(tt4 24),(tt4 25),(tt4 26)]++us 8) ?_
 refine nx ?_
 refine wp_seq ?_
 refine wp_cond_split (t:=decide ((((i:Nat):Int):Int)<(((nw y:Nat):Int):Int))) rfl (fun hlt=>?_) (fun hlt=>?_)
 ·have hlt1:i<nw y:=by simpa using hlt
  have hfi:=hT.1 (o+i) zo
  refine wp_skip ?_
  change Code.wp _ _ _ ⟨_,[]⟩ _
  refine wp_seq ?_
  refine wp_block ?_
  refine wp_seq ?_
  refine rg (fun c d v a w h=>NL c d v a w h) [(10,.eq (.int .i64 (((i:Nat):Int)))),(5,.eq (.int .i64 (((i:Nat):Int))))] [] [] [] 35 2 ?_ ?_
  ·refine so [] (fun w6 hw6=>.fin (yld_move rfl ⟨Grow.refl _,rfl⟩)) ?_
   exact so [0] (fun w6 hw6=>by rintro _ rfl;exact .fin (yld_assign rfl ⟨Grow.refl _,rfl⟩)) (.nil _ _)
  rintro w6 hw6 v10-_ rfl-
  have W6:Mod g w w6:=W5.trans hw6
  replace B3:=B3.grow hw6
  replace Rg:=Rg.below hw6
  replace hb:=MR.mono _ hw6 hb
  refine fr ([.slice (some ⟨g,o,none⟩) (nw y+1) (c),vb,u,pt b3,Ut ca,It i,v6,It (nw y),It i,.bool (decide ((((i:Nat):Int):Int)<(((nw y:Nat):Int):Int))),v10,(tt4 11),(tt4 12),(tt4 13),(tt4 14),(tt4 15),(tt4 16),(tt4 17),(tt4 18),(tt4 19),(tt4 20),(tt4 21),(tt4 22),(tt4 23),(tt4 24),(tt4 25),(tt4 26)]++us 8) ?_
  refine nx ?_
  refine rg (fun c d v a w h=>NL c d v a w h) [(12,.eq (.slice (some ⟨g,o,none⟩) (nw y+1) (c))),(13,.eq (.int .i64 (((i:Nat):Int)))),(14,.eq (.slice (some ⟨g,o,none⟩) (nw y+1) (c))),(15,.eq (.int .i64 (((i:Nat):Int)))),(16,.eq (.pointer (some ⟨g,o+i,none⟩))),(17,.eq (.int .u64 (((f (o+i):Nat):Int)))),(18,.natF ((fun k=>k=g)) (y)),(19,.eq (.int .i64 (((i:Nat):Int)))),(20,.eq (.int .u64 (((wd y i:Nat):Int)))),(21,.eq (.int .u64 (((ca:Nat):Int)))),(22,.tup2 (.eq (.int .u64 (((((f (o+i))+(wd y i)+ca)%18446744073709551616:Nat):Int)))) (.eq (.int .u64 (((((f (o+i))+(wd y i)+ca)/18446744073709551616:Nat):Int))))),(11,.tup2 (.eq (.int .u64 (((((f (o+i))+(wd y i)+ca)%18446744073709551616:Nat):Int)))) (.eq (.int .u64 (((((f (o+i))+(wd y i)+ca)/18446744073709551616:Nat):Int))))),(23,.eq (.int .u64 (((((f (o+i))+(wd y i)+ca)%18446744073709551616:Nat):Int)))),(24,.eq (.int .u64 (((((f (o+i))+(wd y i)+ca)/18446744073709551616:Nat):Int)))),(25,.eq (.pointer (some ⟨g,o+i,none⟩)))] [] [13] [] 35 15 ?_ ?_
  ·refine so [] (fun w7 hw7=>.fin (yld_move rfl ⟨Grow.refl _,rfl⟩)) ?_
   refine so [] (fun w7 hw7=>.fin (yld_move rfl ⟨Grow.refl _,rfl⟩)) ?_
   refine so [] (fun w7 hw7=>.fin (yld_move rfl ⟨Grow.refl _,rfl⟩)) ?_
   refine so [] (fun w7 hw7=>.fin (yld_move rfl ⟨Grow.refl _,rfl⟩)) ?_
   refine so [2,3] (fun w7 hw7=>by rintro _ rfl _ rfl;exact .fin (yld_indexE (k:=i) rfl rfl rfl (rfl) zo (j:=o+i) (rfl))) ?_
   refine so [4] (fun w7 hw7=>by rintro _ rfl;exact .fin (yld_loadE rfl rfl (Rg.below hw7) zo)) ?_
   refine so [] (fun w7 hw7=>.fin (yld_loadBox rfl rfl aggNat (B3.grow hw7) (shNatF))) ?_
   refine so [] (fun w7 hw7=>.fin (yld_move rfl ⟨Grow.refl _,rfl⟩)) ?_
   refine so [6,7] (fun w7 hw7=>by rintro v18 h18 _ rfl;exact .fin (yld_call rfl cal_nat_Nat_Word rfl (cWordF (k:=i) h18))) ?_
   refine so [] (fun w7 hw7=>.fin (yld_move rfl ⟨Grow.refl _,rfl⟩)) ?_
   refine so [5,8,9] (fun w7 hw7=>by rintro _ rfl _ rfl _ rfl;exact .fin (yld_call rfl cal_word_Add rfl (cWAdd (x:=(f (o+i))) (y:=(wd y i)) (z:=ca) (by first | omega | exact wd_lt _ _ | exact Nat.mod_lt _ zo) (by first | omega | exact wd_lt _ _ | exact Nat.mod_lt _ zo) zo))) ?_
   refine so [10] (fun w7 hw7=>by rintro _ ⟨x22_0,x22_1,rfl,hx22_0,hx22_1⟩;exact .fin (yld_move rfl ⟨Grow.refl _,⟨x22_0,x22_1,rfl,hx22_0,hx22_1⟩⟩)) ?_
   refine so [11] (fun w7 hw7=>by rintro _ ⟨x11_0,x11_1,rfl,hx11_0,hx11_1⟩;exact .fin (yld_extract rfl rfl rfl ⟨Grow.refl _,hx11_0⟩)) ?_
   refine sl [11] (fun w7 hw7=>by rintro _ ⟨x11_0,x11_1,rfl,hx11_0,hx11_1⟩;exact .fin (⟨_,fun w2 _=>pure_extract rfl rfl rfl w2,hx11_1⟩)) ?_
   exact so [0,1] (fun w7 hw7=>by rintro _ rfl _ rfl;exact .fin (yld_indexE (k:=i) rfl rfl rfl (rfl) zo (j:=o+i) (rfl))) (.nil _ _)
  rintro w7 hw7 v12-v13-v14-v15-v16-v17-v18-v19-v20-v21-v22-v11-_ rfl _ rfl _ rfl-
  have W7:Mod g w w7:=W6.trans hw7
  replace B3:=B3.grow hw7
  replace Rg:=Rg.below hw7
  replace hb:=MR.mono _ hw7 hb
  have KK:Kept [] w7 w7:=fun _ _=>rfl
  refine fr ([.slice (some ⟨g,o,none⟩) (nw y+1) (c),vb,u,pt b3,Ut ca,It i,v6,It (nw y),It i,.bool (decide ((((i:Nat):Int):Int)<(((nw y:Nat):Int):Int))),v10,v11,v12,v13,v14,v15,v16,v17,v18,v19,v20,v21,v22,Ut (((f (o+i))+(wd y i)+ca)%18446744073709551616),Ut (((f (o+i))+(wd y i)+ca)/18446744073709551616),.pointer (some ⟨g,o+i,none⟩),(tt4 26)]++us 8) ?_
  change wpListS _ _ _ _ [_,_] ⟨_,[]⟩ _
  refine wpListS_yld rfl ?_
  refine yld_storeE (i:=o+i) (v:=((f (o+i))+(wd y i)+ca)%18446744073709551616) rfl rfl rfl Rg zo fun w8 P8 R'=>⟨fun _=>Kept.put KK P8 (fun _ hk=>(by cases hk)),?_⟩
  replace KK:=Kept.put KK P8 (fun _ hk=>(by cases hk))
  have M8:Mod g w7 w8:=P8.toMod
  have W8:Mod g w w8:=W7.step M8
  replace B3:=B3.mod M8 rfl n_b3_g
  replace hb:=natF_mod hb M8 rfl
  replace Rg:=R';clear R'
  change wpListS _ _ _ _ [_] ⟨_,[]⟩ _
  refine wpListS_yld rfl ?_
  refine yld_assign rfl ⟨fun _=>KK,?_⟩
  refine wpListS_nil ?_
  change Code.wp _ _ _ ⟨List.toArray (List.set _ 4 _),[]⟩ _
  refine rg (fun c d v a w h=>NL c d v a w h) [(26,.eq (.int .i64 (((i+1:Nat):Int))))] [] [] [] 35 1 ?_ ?_
  ·exact so [] (fun w9 hw9=>.fin (yld_add rfl rfl rfl (r:=((i+1:Nat):Int)) (by rw[IntKind.wrap_i64];omega) ⟨Grow.refl _,rfl⟩)) (.nil _ _)
  rintro w9 hw9 _ rfl-
  have W9:Mod g w w9:=W8.trans hw9
  replace B3:=B3.grow hw9
  replace Rg:=Rg.below hw9
  replace hb:=MR.mono _ hw9 hb
  have KK:Kept [] w9 w9:=fun _ _=>rfl
  refine fr ([.slice (some ⟨g,o,none⟩) (nw y+1) (c),vb,u,pt b3,Ut (((f (o+i))+(wd y i)+ca)/18446744073709551616),It i,v6,It (nw y),It i,.bool (decide ((((i:Nat):Int):Int)<(((nw y:Nat):Int):Int))),v10,v11,v12,v13,v14,v15,v16,v17,v18,v19,v20,v21,v22,Ut (((f (o+i))+(wd y i)+ca)%18446744073709551616),Ut (((f (o+i))+(wd y i)+ca)/18446744073709551616),.pointer (some ⟨g,o+i,none⟩),It (i+1)]++us 8) ?_
  change wpListS _ _ _ _ [_] ⟨_,[]⟩ _
  refine wpListS_yld rfl ?_
  refine yld_move rfl ⟨fun _=>KK,?_⟩
  refine wpListS_nil ?_
  refine⟨_,?_,i+1,((f (o+i))+(wd y i)+ca)/18446744073709551616,upd (f) (o+i) (((f (o+i))+(wd y i)+ca)%18446744073709551616),rfl,⟨by omega,bk_step hT zo⟩,fun d=>([Ut (((f (o+i))+(wd y i)+ca)/18446744073709551616),It i,v6,It (nw y),It (i+1),.bool (decide ((((i:Nat):Int):Int)<(((nw y:Nat):Int):Int))),v10,v11,v12,v13,v14,v15,v16,v17,v18,v19,v20,v21,v22,Ut (((f (o+i))+(wd y i)+ca)%18446744073709551616),Ut (((f (o+i))+(wd y i)+ca)/18446744073709551616),.pointer (some ⟨g,o+i,none⟩),It (i+1)]:List Value).getD (d-4) undef,by kernel_rfl,W9,B3,Rg,hb⟩
  rw[hnn4];omega
 ·have hi1:i=nw y:=Nat.le_antisymm hi (by simpa using hlt)
  rw[hi1] at hT
  have hfi:=hT.1 (o+nw y) zo
  refine wp_exit ?_
  change Code.wp _ _ _ ⟨_,[]⟩ _
  refine rg (fun c d v a w h=>NL c d v a w h) [(27,.eq (.slice (some ⟨g,o,none⟩) (nw y+1) (c))),(28,.natF ((fun k=>k=g)) (y)),(29,.eq (.int .i64 (((nw y:Nat):Int)))),(30,.eq (.pointer (some ⟨g,o+(nw y),none⟩))),(31,.eq (.int .u64 (((f (o+(nw y)):Nat):Int)))),(32,.eq (.int .u64 (((ca:Nat):Int)))),(33,.eq (.int .u64 ((((f (o+nw y)+ca)%18446744073709551616:Nat):Int)))),(34,.eq (.pointer (some ⟨g,o+(nw y),none⟩)))] [] [] [] 35 8 ?_ ?_
  ·refine so [] (fun w10 hw10=>.fin (yld_move rfl ⟨Grow.refl _,rfl⟩)) ?_
   refine so [] (fun w10 hw10=>.fin (yld_loadBox rfl rfl aggNat (B3.grow hw10) (shNatF))) ?_
   refine so [1] (fun w10 hw10=>by rintro v28 h28;exact .fin (yld_call rfl cal_nat_Nat_Len rfl (cLenF h28))) ?_
   refine so [0,2] (fun w10 hw10=>by rintro _ rfl _ rfl;exact .fin (yld_indexE (k:=nw y) rfl rfl rfl (rfl) zo (j:=o+(nw y)) (rfl))) ?_
   refine so [3] (fun w10 hw10=>by rintro _ rfl;exact .fin (yld_loadE rfl rfl (Rg.below hw10) zo)) ?_
   refine so [] (fun w10 hw10=>.fin (yld_move rfl ⟨Grow.refl _,rfl⟩)) ?_
   refine so [4,5] (fun w10 hw10=>by rintro _ rfl _ rfl;exact .fin (yld_add rfl rfl rfl (r:=(((f (o+nw y)+ca)%18446744073709551616:Nat):Int)) (by rw[IntKind.wrap_u64];omega) ⟨Grow.refl _,rfl⟩)) ?_
   exact so [0,2] (fun w10 hw10=>by rintro _ rfl _ rfl;exact .fin (yld_indexE (k:=nw y) rfl rfl rfl (rfl) zo (j:=o+(nw y)) (rfl))) (.nil _ _)
  rintro w10 hw10 v27-v28-v29-v30-v31-v32-_ rfl _ rfl-
  have W10:Mod g w w10:=W5.trans hw10
  replace Rg:=Rg.below hw10
  have KK:Kept [] w10 w10:=fun _ _=>rfl
  refine fr [.slice (some ⟨g,o,none⟩) (nw y+1) (c),vb,u,pt b3,Ut ca,(tt4 5),v6,It (nw y),It i,.bool (decide ((((i:Nat):Int):Int)<(((nw y:Nat):Int):Int))),(tt4 10),(tt4 11),(tt4 12),(tt4 13),(tt4 14),(tt4 15),(tt4 16),(tt4 17),(tt4 18),(tt4 19),(tt4 20),(tt4 21),(tt4 22),(tt4 23),(tt4 24),(tt4 25),(tt4 26),v27,v28,v29,v30,v31,v32,Ut ((f (o+nw y)+ca)%18446744073709551616),.pointer (some ⟨g,o+(nw y),none⟩)] ?_
  change wpListS _ _ _ _ [_] ⟨_,[]⟩ _
  refine wpListS_yld rfl ?_
  refine yld_storeE (i:=o+(nw y)) (v:=(f (o+nw y)+ca)%18446744073709551616) rfl rfl rfl Rg zo fun w11 P11 R'=>⟨fun _=>Kept.put KK P11 (fun _ hk=>(by cases hk)),?_⟩
  have M11:Mod g w10 w11:=P11.toMod
  have W11:Mod g w w11:=W10.step M11
  replace Rg:=R';clear R'
  refine wpListS_nil ?_
  change bodyPost Tryz.prog Tryz.f179 (RetB g L (fun _ f=>∃c,BkRes y o (nw y) f0 f N c) w) .ret _ _
  exact body_noneB rfl W11 Rg (fun _=>bk_end hT zo) rfl
open Go.RowKit
local instance fzG:Fz:=⟨true,none⟩
theorem cWDiv{x y z:Nat}{w:World}(hy:y<18446744073709551616)(hz:z<18446744073709551616):Calls Tryz.prog 183 #[.int .u64 (x:Int),.int .u64 (y:Int),.int .u64 (z:Int)] w (Ret (.tup3 (.eq (.int .u64 ((if x<z then divQ x y z else 0:Nat):Int))) (.eq (.int .u64 ((if x<z then divR x y z else 0:Nat):Int))) (.eq (.bool (decide (x<z))))) w):=by
 by_cases h:x<z
 ·rw[if_pos h,if_pos h,decide_eq_true h];exact cWDiv_yes h hy hz
 ·rw[if_neg h,if_neg h,decide_eq_false h];exact cWDiv_no zo
theorem sWDiv{x y z:Nat}(hy:y<18446744073709551616)(hz:z<18446744073709551616):CallOK Tryz.prog 183 [.ex (.int .u64 (x:Int)),.ex (.int .u64 (y:Int)),.ex (.int .u64 (z:Int))] (.cn (.ex (.int .u64 ((if x<z then divQ x y z else 0:Nat):Int))) (.cn (.ex (.int .u64 ((if x<z then divR x y z else 0:Nat):Int))) (.cn (bX (decide (x<z))) .nl))) []:=by
 refine .of_ret (m:=.tup3 (.eq (.int .u64 ((if x<z then divQ x y z else 0:Nat):Int))) (.eq (.int .u64 ((if x<z then divR x y z else 0:Nat):Int))) (.eq (.bool (decide (x<z))))) (callable_of Tryz.func183 rfl (by kernel_rfl)) (fun _ _ _ v h=>by obtain⟨a,b,c,rfl,h1,h2,h3⟩:=h;exact⟨a,[b,c],rfl,h1,b,[c],rfl,h2,c,[],rfl,h3,rfl⟩) fun η F w vals h=>?_
 match vals,h with
 | [v0,v1,v2],h=>obtain rfl:=h.1;obtain rfl:=h.2.1;obtain rfl:=h.2.2.1;exact cWDiv hy hz
theorem sWAdd{x y:Nat}(hx:x<18446744073709551616)(hy:y<18446744073709551616):CallOK Tryz.prog 156 [.ex (.int .u64 (x:Int)),.ex (.int .u64 (y:Int)),.ex (.int .u64 ((0:Nat):Int))] (.cn (.ex (.int .u64 (((x+y+0)%18446744073709551616:Nat):Int))) (.cn (.ex (.int .u64 (((x+y+0)/18446744073709551616:Nat):Int))) .nl)) []:=by
 refine .of_ret (m:=.tup2 (.eq (.int .u64 (((x+y+0)%18446744073709551616:Nat):Int))) (.eq (.int .u64 (((x+y+0)/18446744073709551616:Nat):Int)))) (callable_of Tryz.func156 rfl (by kernel_rfl)) (fun _ _ _ v h=>by obtain⟨x,y,rfl,h1,h2⟩:=h;exact⟨x,[y],rfl,h1,y,[],rfl,h2,rfl⟩) fun η F w vals h=>?_
 match vals,h with
 | [v0,v1,v2],h=>obtain rfl:=h.1;obtain rfl:=h.2.1;obtain rfl:=h.2.2.1;exact cWAdd hx hy (Nat.zero_le 1)
theorem sWMul{x y:Nat}(hx:x<18446744073709551616)(hy:y<18446744073709551616):CallOK Tryz.prog 169 [.ex (.int .u64 (x:Int)),.ex (.int .u64 (y:Int))] (.cn (.ex (.int .u64 (((x*y)/18446744073709551616:Nat):Int))) (.cn (.ex (.int .u64 (((x*y)%18446744073709551616:Nat):Int))) .nl)) []:=by
 refine .of_ret (m:=.tup2 (.eq (.int .u64 (((x*y)/18446744073709551616:Nat):Int))) (.eq (.int .u64 (((x*y)%18446744073709551616:Nat):Int)))) (callable_of Tryz.func169 rfl (by kernel_rfl)) (fun _ _ _ v h=>by obtain⟨x,y,rfl,h1,h2⟩:=h;exact⟨x,[y],rfl,h1,y,[],rfl,h2,rfl⟩) fun η F w vals h=>?_
 match vals,h with
 | [v0,v1],h=>obtain rfl:=h.1;obtain rfl:=h.2.1;exact cWMul hx hy
theorem g_test{u0:Nat}(hu:u0<18446744073709551616)(q v0 r:Nat):(bif decide ((((q*v0)/18446744073709551616:Nat):Int)<(r:Int)) then true else(bif decide ((((q*v0)/18446744073709551616:Nat):Int)=(r:Int)) then decide ((((q*v0)%18446744073709551616:Nat):Int)≤(u0:Int)) else false))=decide (q*v0≤r*18446744073709551616+u0):=by
 have:=Nat.mod_add_div (q*v0) 18446744073709551616
 have hm:=Nat.mod_lt (q*v0) (show 0<18446744073709551616 by omega)
 generalize q*v0=p at*
 by_cases h1:(((p/18446744073709551616:Nat):Int)<(r:Int))
 ·rw[decide_eq_true h1];exact(decide_eq_true zo).symm
 ·rw[decide_eq_false h1]
  by_cases h2:(((p/18446744073709551616:Nat):Int)=(r:Int))
  ·rw[decide_eq_true h2];exact decide_eq_decide.2 zo
  ·rw[decide_eq_false h2];exact(decide_eq_false zo).symm
def gS (u2 u1 v1:Nat):Nat×Nat:=if u2<v1 then(divQ u2 u1 v1,divR u2 u1 v1) else(18446744073709551615,u1+v1)
theorem gS_yes{u2 u1 v1:Nat}(h:u2<v1):gS u2 u1 v1=(divQ u2 u1 v1,divR u2 u1 v1):=if_pos h
theorem gS_no{u2 u1 v1:Nat}(h:u2=v1):gS u2 u1 v1=(18446744073709551615,u1+v1):=if_neg zo
theorem sGuess{u2 u1 u0 v1 v0:Nat}(h21:u2≤v1)(hv:0<v1)(b1:u1<18446744073709551616)(b0:u0<18446744073709551616)(c1:v1<18446744073709551616)(c0:v0<18446744073709551616):CallOK Tryz.prog 177 [.ex (.int .u64 (u2:Int)),.ex (.int .u64 (u1:Int)),.ex (.int .u64 (u0:Int)),.ex (.int .u64 (v1:Int)),.ex (.int .u64 (v0:Int))] (.ex (.int .u64 (gq u2 u1 u0 v1 v0:Int))) []:=by
 exact kP (ch:=[.reg 1 [(3,.callS (c3 (.ex (.int .u64 ((if u2<v1 then divQ u2 u1 v1 else 0:Nat):Int))) (.ex (.int .u64 ((if u2<v1 then divR u2 u1 v1 else 0:Nat):Int))) (bX (decide (u2<v1)))) [])],.reg 5 [(2,.call [.ex (.int .u64 (u1:Int)),.ex (.int .u64 (v1:Int)),.ex (.int .u64 ((0:Nat):Int))] (c2 (.ex (.int .u64 (((u1+v1+0)%18446744073709551616:Nat):Int))) (.ex (.int .u64 (((u1+v1+0)/18446744073709551616:Nat):Int)))) [])],.loop 8 (Nat×Nat) (fun g=>GInv u2 u1 u0 v1 v0 g.1 g.2) (fun g=>g.1) (fun g=>⟨[(2,.ex (.int .u64 (u0:Int))),(3,.ex (.int .u64 (v1:Int))),(4,.ex (.int .u64 (v0:Int))),(11,.ex (.int .u64 ((g.1:Nat):Int))),(12,.ex (.int .u64 ((g.2:Nat):Int)))],[],0⟩) [] (fun _=>[]) (fun g=>[.reg 8 [(2,.callS (c2 (.ex (.int .u64 (((g.1*v0)/18446744073709551616:Nat):Int))) (.ex (.int .u64 (((g.1*v0)%18446744073709551616:Nat):Int)))) [])],.reg 11 [(1,.z ((g.1-1:Nat):Int))],.reg 13 [(2,.call [.ex (.int .u64 ((g.2:Nat):Int)),.ex (.int .u64 (v1:Int)),.ex (.int .u64 ((0:Nat):Int))] (c2 (.ex (.int .u64 (((g.2+v1+0)%18446744073709551616:Nat):Int))) (.ex (.int .u64 (((g.2+v1+0)/18446744073709551616:Nat):Int)))) [])]]),.loop 8 (Nat×Nat) (fun g=>GInv u2 u1 u0 v1 v0 g.1 g.2) (fun g=>g.1) (fun g=>⟨[(2,.ex (.int .u64 (u0:Int))),(3,.ex (.int .u64 (v1:Int))),(4,.ex (.int .u64 (v0:Int))),(11,.ex (.int .u64 ((g.1:Nat):Int))),(12,.ex (.int .u64 ((g.2:Nat):Int)))],[],0⟩) [] (fun _=>[]) (fun g=>[.reg 8 [(2,.callS (c2 (.ex (.int .u64 (((g.1*v0)/18446744073709551616:Nat):Int))) (.ex (.int .u64 (((g.1*v0)%18446744073709551616:Nat):Int)))) [])],.reg 11 [(1,.z ((g.1-1:Nat):Int))],.reg 13 [(2,.call [.ex (.int .u64 ((g.2:Nat):Int)),.ex (.int .u64 (v1:Int)),.ex (.int .u64 ((0:Nat):Int))] (c2 (.ex (.int .u64 (((g.2+v1+0)%18446744073709551616:Nat):Int))) (.ex (.int .u64 (((g.2+v1+0)/18446744073709551616:Nat):Int)))) [])]])]) Tryz.func177 (let y0:=(decide ((((u1+v1+0)/18446744073709551616:Nat):Int)=1));(CallOK Tryz.prog 183 [.ex (.int .u64 (u2:Int)),.ex (.int .u64 (u1:Int)),.ex (.int .u64 (v1:Int))] (c3 (.ex (.int .u64 ((if u2<v1 then divQ u2 u1 v1 else 0:Nat):Int))) (.ex (.int .u64 ((if u2<v1 then divR u2 u1 v1 else 0:Nat):Int))) (bX (decide (u2<v1)))) [])∧(((!(decide (u2<v1)))=true→(CallOK Tryz.prog 156 [.ex (.int .u64 (u1:Int)),.ex (.int .u64 (v1:Int)),.ex (.int .u64 ((0:Nat):Int))] (c2 (.ex (.int .u64 (((u1+v1+0)%18446744073709551616:Nat):Int))) (.ex (.int .u64 (((u1+v1+0)/18446744073709551616:Nat):Int)))) [])∧_∧_∧((0:Int)=((0:Nat):Int))∧((y0=true→(((18446744073709551615:Int)=(gq u2 u1 u0 v1 v0:Int))))∧(y0=false→(((fun X1 X2 X3:Prop=>∃g0:Nat×Nat,X1∧X2∧X3∧((18446744073709551615:Int)=((g0.1:Nat):Int))∧((((u1+v1+0)%18446744073709551616:Nat):Int)=((g0.2:Nat):Int))∧(GInv u2 u1 u0 v1 v0 g0.1 g0.2)) _ _ _)∧∀g:Nat×Nat,(GInv u2 u1 u0 v1 v0 g.1 g.2)→(CallOK Tryz.prog 169 [.ex (.int .u64 ((g.1:Nat):Int)),.ex (.int .u64 (v0:Int))] (c2 (.ex (.int .u64 (((g.1*v0)/18446744073709551616:Nat):Int))) (.ex (.int .u64 (((g.1*v0)%18446744073709551616:Nat):Int)))) [])∧(((decide ((((g.1*v0)/18446744073709551616:Nat):Int)<((g.2:Nat):Int)))==false)=true→((decide ((((g.1*v0)/18446744073709551616:Nat):Int)<((g.2:Nat):Int)))==false)=true)∧(((decide ((((g.1*v0)/18446744073709551616:Nat):Int)<((g.2:Nat):Int)))==false)=true→((decide ((((g.1*v0)/18446744073709551616:Nat):Int)<((g.2:Nat):Int)))==false)=true)∧(((decide ((((g.1*v0)/18446744073709551616:Nat):Int)<((g.2:Nat):Int)))==false)=true→((decide ((((g.1*v0)/18446744073709551616:Nat):Int)<((g.2:Nat):Int)))==false)=true)∧(((((decide ((((g.1*v0)/18446744073709551616:Nat):Int)<((g.2:Nat):Int)))==false)&&true)&&((decide ((((g.1*v0)/18446744073709551616:Nat):Int)=((g.2:Nat):Int)))==true))=true→((((decide ((((g.1*v0)/18446744073709551616:Nat):Int)<((g.2:Nat):Int)))==false)&&true)&&((decide ((((g.1*v0)/18446744073709551616:Nat):Int)=((g.2:Nat):Int)))==true))=true)∧(((((decide ((((g.1*v0)/18446744073709551616:Nat):Int)<((g.2:Nat):Int)))==false)&&true)&&((decide ((((g.1*v0)/18446744073709551616:Nat):Int)=((g.2:Nat):Int)))==true))=true→((((decide ((((g.1*v0)/18446744073709551616:Nat):Int)<((g.2:Nat):Int)))==false)&&true)&&((decide ((((g.1*v0)/18446744073709551616:Nat):Int)=((g.2:Nat):Int)))==true))=true)∧(((decide ((((g.1*v0)/18446744073709551616:Nat):Int)<((g.2:Nat):Int)))==false)=true→((decide ((((g.1*v0)/18446744073709551616:Nat):Int)<((g.2:Nat):Int)))==false)=true)∧(((decide ((((g.1*v0)/18446744073709551616:Nat):Int)<((g.2:Nat):Int)))==false)=true→(decide ((((g.1*v0)/18446744073709551616:Nat):Int)=((g.2:Nat):Int)))=true→((((decide ((((g.1*v0)/18446744073709551616:Nat):Int)<((g.2:Nat):Int)))==false)&&true)&&((decide ((((g.1*v0)/18446744073709551616:Nat):Int)=((g.2:Nat):Int)))==true))=true)∧((!(decide ((((g.1*v0)/18446744073709551616:Nat):Int)<((g.2:Nat):Int))))=true→((decide ((((g.1*v0)/18446744073709551616:Nat):Int)<((g.2:Nat):Int)))==false)=true)∧(((bif (decide ((((g.1*v0)/18446744073709551616:Nat):Int)<((g.2:Nat):Int))) then true else(bif (decide ((((g.1*v0)/18446744073709551616:Nat):Int)=((g.2:Nat):Int))) then(decide ((((g.1*v0)%18446744073709551616:Nat):Int)≤(u0:Int))) else false))=true→((((g.1:Nat):Int)=(gq u2 u1 u0 v1 v0:Int))))∧((bif (decide ((((g.1*v0)/18446744073709551616:Nat):Int)<((g.2:Nat):Int))) then true else(bif (decide ((((g.1*v0)/18446744073709551616:Nat):Int)=((g.2:Nat):Int))) then(decide ((((g.1*v0)%18446744073709551616:Nat):Int)≤(u0:Int))) else false))=false→(IntKind.wrap .u64 (((g.1:Nat):Int)-1)=(((g.1-1:Nat):Int)))∧(CallOK Tryz.prog 156 [.ex (.int .u64 ((g.2:Nat):Int)),.ex (.int .u64 (v1:Int)),.ex (.int .u64 ((0:Nat):Int))] (c2 (.ex (.int .u64 (((g.2+v1+0)%18446744073709551616:Nat):Int))) (.ex (.int .u64 (((g.2+v1+0)/18446744073709551616:Nat):Int)))) [])∧_∧_∧((0:Int)=((0:Nat):Int))∧(((decide ((((g.2+v1+0)/18446744073709551616:Nat):Int)=1))=true→((((g.1-1:Nat):Int)=(gq u2 u1 u0 v1 v0:Int))))∧((decide ((((g.2+v1+0)/18446744073709551616:Nat):Int)=1))=false→((fun X1 X2 X3:Prop=>∃g1:Nat×Nat,X1∧X2∧X3∧(((g.1-1:Nat):Int)=((g1.1:Nat):Int))∧((((g.2+v1+0)%18446744073709551616:Nat):Int)=((g1.2:Nat):Int))∧(GInv u2 u1 u0 v1 v0 g1.1 g1.2)∧(g1.1<g.1)) _ _ _)))))))))∧((!(decide (u2<v1)))=false→(((fun X1 X2 X3:Prop=>∃g0:Nat×Nat,X1∧X2∧X3∧(((if u2<v1 then divQ u2 u1 v1 else 0:Nat):Int)=((g0.1:Nat):Int))∧(((if u2<v1 then divR u2 u1 v1 else 0:Nat):Int)=((g0.2:Nat):Int))∧(GInv u2 u1 u0 v1 v0 g0.1 g0.2)) _ _ _)∧∀g:Nat×Nat,(GInv u2 u1 u0 v1 v0 g.1 g.2)→(CallOK Tryz.prog 169 [.ex (.int .u64 ((g.1:Nat):Int)),.ex (.int .u64 (v0:Int))] (c2 (.ex (.int .u64 (((g.1*v0)/18446744073709551616:Nat):Int))) (.ex (.int .u64 (((g.1*v0)%18446744073709551616:Nat):Int)))) [])∧(((decide ((((g.1*v0)/18446744073709551616:Nat):Int)<((g.2:Nat):Int)))==false)=true→((decide ((((g.1*v0)/18446744073709551616:Nat):Int)<((g.2:Nat):Int)))==false)=true)∧(((decide ((((g.1*v0)/18446744073709551616:Nat):Int)<((g.2:Nat):Int)))==false)=true→((decide ((((g.1*v0)/18446744073709551616:Nat):Int)<((g.2:Nat):Int)))==false)=true)∧(((decide ((((g.1*v0)/18446744073709551616:Nat):Int)<((g.2:Nat):Int)))==false)=true→((decide ((((g.1*v0)/18446744073709551616:Nat):Int)<((g.2:Nat):Int)))==false)=true)∧(((((decide ((((g.1*v0)/18446744073709551616:Nat):Int)<((g.2:Nat):Int)))==false)&&true)&&((decide ((((g.1*v0)/18446744073709551616:Nat):Int)=((g.2:Nat):Int)))==true))=true→((((decide ((((g.1*v0)/18446744073709551616:Nat):Int)<((g.2:Nat):Int)))==false)&&true)&&((decide ((((g.1*v0)/18446744073709551616:Nat):Int)=((g.2:Nat):Int)))==true))=true)∧(((((decide ((((g.1*v0)/18446744073709551616:Nat):Int)<((g.2:Nat):Int)))==false)&&true)&&((decide ((((g.1*v0)/18446744073709551616:Nat):Int)=((g.2:Nat):Int)))==true))=true→((((decide ((((g.1*v0)/18446744073709551616:Nat):Int)<((g.2:Nat):Int)))==false)&&true)&&((decide ((((g.1*v0)/18446744073709551616:Nat):Int)=((g.2:Nat):Int)))==true))=true)∧(((decide ((((g.1*v0)/18446744073709551616:Nat):Int)<((g.2:Nat):Int)))==false)=true→((decide ((((g.1*v0)/18446744073709551616:Nat):Int)<((g.2:Nat):Int)))==false)=true)∧(((decide ((((g.1*v0)/18446744073709551616:Nat):Int)<((g.2:Nat):Int)))==false)=true→(decide ((((g.1*v0)/18446744073709551616:Nat):Int)=((g.2:Nat):Int)))=true→((((decide ((((g.1*v0)/18446744073709551616:Nat):Int)<((g.2:Nat):Int)))==false)&&true)&&((decide ((((g.1*v0)/18446744073709551616:Nat):Int)=((g.2:Nat):Int)))==true))=true)∧((!(decide ((((g.1*v0)/18446744073709551616:Nat):Int)<((g.2:Nat):Int))))=true→((decide ((((g.1*v0)/18446744073709551616:Nat):Int)<((g.2:Nat):Int)))==false)=true)∧(((bif (decide ((((g.1*v0)/18446744073709551616:Nat):Int)<((g.2:Nat):Int))) then true else(bif (decide ((((g.1*v0)/18446744073709551616:Nat):Int)=((g.2:Nat):Int))) then(decide ((((g.1*v0)%18446744073709551616:Nat):Int)≤(u0:Int))) else false))=true→((((g.1:Nat):Int)=(gq u2 u1 u0 v1 v0:Int))))∧((bif (decide ((((g.1*v0)/18446744073709551616:Nat):Int)<((g.2:Nat):Int))) then true else(bif (decide ((((g.1*v0)/18446744073709551616:Nat):Int)=((g.2:Nat):Int))) then(decide ((((g.1*v0)%18446744073709551616:Nat):Int)≤(u0:Int))) else false))=false→(IntKind.wrap .u64 (((g.1:Nat):Int)-1)=(((g.1-1:Nat):Int)))∧(CallOK Tryz.prog 156 [.ex (.int .u64 ((g.2:Nat):Int)),.ex (.int .u64 (v1:Int)),.ex (.int .u64 ((0:Nat):Int))] (c2 (.ex (.int .u64 (((g.2+v1+0)%18446744073709551616:Nat):Int))) (.ex (.int .u64 (((g.2+v1+0)/18446744073709551616:Nat):Int)))) [])∧_∧_∧((0:Int)=((0:Nat):Int))∧(((decide ((((g.2+v1+0)/18446744073709551616:Nat):Int)=1))=true→((((g.1-1:Nat):Int)=(gq u2 u1 u0 v1 v0:Int))))∧((decide ((((g.2+v1+0)/18446744073709551616:Nat):Int)=1))=false→((fun X1 X2 X3:Prop=>∃g1:Nat×Nat,X1∧X2∧X3∧(((g.1-1:Nat):Int)=((g1.1:Nat):Int))∧((((g.2+v1+0)%18446744073709551616:Nat):Int)=((g1.2:Nat):Int))∧(GInv u2 u1 u0 v1 v0 g1.1 g1.2)∧(g1.1<g.1)) _ _ _)))))))))
  ⟨(sWDiv b1 c1),fun hc27=>have he:u2=v1:=(by simp at hc27;omega);⟨(sWAdd b1 c1),(rf (u1:Int)),(rf (v1:Int)),zo,fun hc35=>have hc35:=dT hc35;(by rw[←g_over he c0 zo hv];rfl),fun hc35=>have hc35:=dF hc35;⟨⟨gS u2 u1 v1,(rf (u0:Int)),(rf (v1:Int)),(rf (v0:Int)),(by first | (rw[gS_yes hlt,if_pos hlt]) | (rw[gS_no he];rfl)),(by first | (rw[gS_yes hlt,if_pos hlt]) | (rw[gS_no he,Nat.mod_eq_of_lt zo];rfl)),(by first | (rw[gS_yes hlt];exact g_start_yes hlt b1 c1 b0) | (rw[gS_no he];exact g_start_no he zo))⟩,fun g hg=>have hgq:=hg.1;have hgr:=hg.2.1;⟨(sWMul hgq c0),id,id,id,id,id,id,(fun hg=>(by first | (simp;done) | simp_all)),(by first | (simp;done) | simp_all),fun hc55=>have hd:=of_decide_eq_true ((g_test b0 _ _ _).symm.trans hc55);(congrArg (fun x:Nat=>(x:Int)) (g_done hv hg hd)),fun hc55=>have hd:=Nat.lt_of_not_le (of_decide_eq_false ((g_test b0 _ _ _).symm.trans hc55));have hl:=g_less hv hg hd;⟨(by rw[IntKind.wrap_u64];omega),(sWAdd hgr c1),(rf ((g.2:Nat):Int)),(rf (v1:Int)),zo,fun hc66=>have hc66:=dT hc66;(congrArg (fun x:Nat=>(x:Int)) (g_down_over hv c0 hg hd zo)),fun hc66=>have hc66:=dF hc66;⟨(g.1-1,g.2+v1),(rf (u0:Int)),(rf (v1:Int)),(rf (v0:Int)),rfl,(by rw[Nat.mod_eq_of_lt zo];rfl),(g_down hv hg hd zo),(Nat.sub_lt hl.1 zo)⟩⟩⟩⟩⟩,fun hc27=>have hlt:u2<v1:=(by simpa using hc27);⟨⟨gS u2 u1 v1,(rf (u0:Int)),(rf (v1:Int)),(rf (v0:Int)),(by first | (rw[gS_yes hlt,if_pos hlt]) | (rw[gS_no he];rfl)),(by first | (rw[gS_yes hlt,if_pos hlt]) | (rw[gS_no he,Nat.mod_eq_of_lt zo];rfl)),(by first | (rw[gS_yes hlt];exact g_start_yes hlt b1 c1 b0) | (rw[gS_no he];exact g_start_no he zo))⟩,fun g hg=>have hgq:=hg.1;have hgr:=hg.2.1;⟨(sWMul hgq c0),id,id,id,id,id,id,(fun hg=>(by first | (simp;done) | simp_all)),(by first | (simp;done) | simp_all),fun hc55=>have hd:=of_decide_eq_true ((g_test b0 _ _ _).symm.trans hc55);(congrArg (fun x:Nat=>(x:Int)) (g_done hv hg hd)),fun hc55=>have hd:=Nat.lt_of_not_le (of_decide_eq_false ((g_test b0 _ _ _).symm.trans hc55));have hl:=g_less hv hg hd;⟨(by rw[IntKind.wrap_u64];omega),(sWAdd hgr c1),(rf ((g.2:Nat):Int)),(rf (v1:Int)),zo,fun hc66=>have hc66:=dT hc66;(congrArg (fun x:Nat=>(x:Int)) (g_down_over hv c0 hg hd zo)),fun hc66=>have hc66:=dF hc66;⟨(g.1-1,g.2+v1),(rf (u0:Int)),(rf (v1:Int)),(rf (v0:Int)),rfl,(by rw[Nat.mod_eq_of_lt zo];rfl),(g_down hv hg hd zo),(Nat.sub_lt hl.1 zo)⟩⟩⟩⟩⟩
theorem cGuess{u2 u1 u0 v1 v0:Nat}{w:World}(h21:u2≤v1)(hv:0<v1)(b1:u1<18446744073709551616)(b0:u0<18446744073709551616)(c1:v1<18446744073709551616)(c0:v0<18446744073709551616):Calls Tryz.prog 177 #[.int .u64 ((u2:Int)),.int .u64 ((u1:Int)),.int .u64 ((u0:Int)),.int .u64 ((v1:Int)),.int .u64 ((v0:Int))] w (Ret (.eq (.int .u64 (((gq u2 u1 u0 v1 v0:Nat):Int)))) w):=
 (sGuess h21 hv b1 b0 c1 c0).ret (fun _ _ _ _ h=>h) (vals:=[.int .u64 ((u2:Int)),.int .u64 ((u1:Int)),.int .u64 ((u0:Int)),.int .u64 ((v1:Int)),.int .u64 ((v0:Int))]) ⟨rfl,rfl,rfl,rfl,rfl,trivial⟩
def szq (q:Rat):Nat:=nw q.num.natAbs+nw q.den
def LIM:Nat:=68719476736
theorem nw_le_of{x k:Nat}(h:x<2^(64*k)):nw x≤k:=(nw_le x k).2 h
theorem nw_mul(x y:Nat):nw (x*y)≤nw x+nw y:=by
 refine nw_le_of ?_
 rw[Nat.mul_add,Nat.pow_add]
 rcases Nat.eq_zero_or_pos y with rfl | hy
 ·rw[Nat.mul_zero];exact Nat.mul_pos (Nat.two_pow_pos _) (Nat.two_pow_pos _)
 ·exact Nat.mul_lt_mul_of_lt_of_le (lt_nw x) (Nat.le_of_lt (lt_nw y)) (Nat.two_pow_pos _)
theorem nw_mono'{x y:Nat}(h:x≤y):nw x≤nw y:=nw_le_of (Nat.lt_of_le_of_lt h (lt_nw y))
theorem nw_add(x y:Nat):nw (x+y)≤max (nw x) (nw y)+1:=by
 refine nw_le_of ?_
 have h1:=lt_nw x
 have h2:=lt_nw y
 have m1:2^(64*nw x)≤2^(64*max (nw x) (nw y)):=Nat.pow_le_pow_right zo zo
 have m2:2^(64*nw y)≤2^(64*max (nw x) (nw y)):=Nat.pow_le_pow_right zo zo
 rw[p64]
 omega
theorem natAbs_add_nat(a b:Int):(a+b).natAbs≤a.natAbs+b.natAbs:=Int.natAbs_add_le a b
theorem gcd_eq(a b:Int):b.gcd a=Nat.gcd a.natAbs b.natAbs:=by rw[Int.gcd_comm];rfl
theorem new_num(a b:Int)(hb:b≠0):(Rat.divInt a b).num=signed (decide (a<0)!=decide (b<0)) (a.natAbs/Nat.gcd a.natAbs b.natAbs):=by
 rw[Rat.num_divInt,gcd_eq]
 have hg:(Nat.gcd a.natAbs b.natAbs:Nat)∣a.natAbs:=Nat.gcd_dvd_left _ _
 generalize hG:Nat.gcd a.natAbs b.natAbs=g at*
 obtain⟨k,hk⟩:=hg
 have hg0:0<g:=by
  rw[←hG]
  exact Nat.gcd_pos_of_pos_right _ zo
 rw[hk,Nat.mul_div_cancel_left _ hg0]
 have key:∀s:Int,(s*((g*k:Nat):Int))/(g:Int)=s*k:=fun s=>by
  rw[Int.natCast_mul,←Int.mul_assoc,Int.mul_comm s,Int.mul_assoc,Int.mul_ediv_cancel_left _ zo]
 rcases Int.lt_or_lt_of_ne hb with hb | hb
 ·rw[Int.sign_eq_neg_one_of_neg hb]
  by_cases ha:a<0
  ·have e:-1*a=1*((g*k:Nat):Int):=by omega
   rw[e,key]
   simp[signed,ha,hb]
  ·have e:-1*a=-1*((g*k:Nat):Int):=by omega
   rw[e,key]
   simp[signed,ha,hb]
 ·rw[Int.sign_eq_one_of_pos hb]
  have hb':¬b<0:=by omega
  by_cases ha:a<0
  ·have e:1*a=-1*((g*k:Nat):Int):=by omega
   rw[e,key]
   simp[signed,ha,hb']
  ·have e:1*a=1*((g*k:Nat):Int):=by omega
   rw[e,key]
   simp[signed,ha,hb']
theorem new_den(a b:Int)(hb:b≠0):(Rat.divInt a b).den=b.natAbs/Nat.gcd a.natAbs b.natAbs:=by
 rw[Rat.den_divInt,if_neg hb,gcd_eq]
theorem divInt_zero(a:Int):Rat.divInt a 0=0:=by simp
def cmpQ (p q:Rat):Int:=if p<q then-1 else if p=q then 0 else 1
theorem cmpQ_eq(p q:Rat):cmpV (p.num*q.den) (q.num*p.den)=cmpQ p q:=by
 unfold cmpV cmpQ
 have h1:=Rat.lt_iff p q
 have h2:p=q↔p.num*q.den=q.num*p.den:=by
  constructor
  ·rintro rfl;rfl
  ·intro h
   refine Rat.le_antisymm ((Rat.le_iff p q).2 zo) ((Rat.le_iff q p).2 zo)
 by_cases hlt:p<q
 ·rw[if_pos hlt,if_pos (h1.1 hlt)]
 ·rw[if_neg hlt,if_neg (mt h1.2 hlt)]
  by_cases he:p=q
  ·rw[if_pos he,if_pos (h2.1 he)]
  ·rw[if_neg he,if_neg (mt h2.2 he)]
theorem denW_ne{q:Rat}(h:q.den≠1):denW q=q.den:=by unfold denW;rw[if_neg h]
theorem denW_zero(q:Rat):denW q=0↔q.den=1:=by
 unfold denW
 have:=q.den_nz
 split<;>simp_all
theorem uint_one(d:Nat):(uintOk d&&((uintV d:Int)==1))=decide (d=1):=by
 unfold uintOk uintV
 by_cases h:d<18446744073709551616
 ·rw[if_pos h,decide_eq_true h]
  by_cases e:d=1
  ·subst e;rfl
  ·simp[e];omega
 ·rw[if_neg h,decide_eq_false h,decide_eq_false zo];rfl
theorem szq_num(q:Rat):nw q.num.natAbs≤szq q:=by unfold szq;omega
theorem szq_den(q:Rat):nw q.den≤szq q:=by unfold szq;omega
theorem szq_divInt(a b:Int)(hb:b≠0):szq (Rat.divInt a b)≤nw a.natAbs+nw b.natAbs:=by
 unfold szq
 rw[new_den a b hb,new_num a b hb]
 have e:∀(s:Bool) (x:Nat),(signed s x).natAbs=x:=fun s x=>by cases s<;>simp[signed]
 rw[e]
 have h1:=nw_mono' (Nat.div_le_self a.natAbs (Nat.gcd a.natAbs b.natAbs))
 have h2:=nw_mono' (Nat.div_le_self b.natAbs (Nat.gcd a.natAbs b.natAbs))
 omega
theorem mul_as(p q:Rat):p*q=Rat.divInt (p.num*q.num) ((p.den*q.den:Nat):Int):=by rw[Rat.mul_def'];rfl
theorem add_as(p q:Rat):p+q=Rat.divInt (p.num*q.den+q.num*p.den) ((p.den*q.den:Nat):Int):=by rw[Rat.add_def'];rfl
theorem den2_ne(p q:Rat):((p.den*q.den:Nat):Int)≠0:=by
 have h1:=Nat.pos_of_ne_zero p.den_nz
 have h2:=Nat.pos_of_ne_zero q.den_nz
 have:=Nat.mul_pos h1 h2
 omega
theorem szq_mul(p q:Rat):szq (p*q)≤szq p+szq q:=by
 rw[mul_as]
 have h:=szq_divInt (p.num*q.num) ((p.den*q.den:Nat):Int) (den2_ne p q)
 rw[Int.natAbs_mul,Int.natAbs_natCast] at h
 have h1:=nw_mul p.num.natAbs q.num.natAbs
 have h2:=nw_mul p.den q.den
 unfold szq at*
 omega
theorem szq_add(p q:Rat):szq (p+q)≤szq p+szq q+szq p+szq q+1:=by
 rw[add_as]
 have h:=szq_divInt (p.num*q.den+q.num*p.den) ((p.den*q.den:Nat):Int) (den2_ne p q)
 rw[Int.natAbs_natCast] at h
 have h0:=nw_mono' (natAbs_add_nat (p.num*q.den) (q.num*p.den))
 rw[Int.natAbs_mul,Int.natAbs_mul,Int.natAbs_natCast,Int.natAbs_natCast] at h0
 have h3:=nw_add (p.num.natAbs*q.den) (q.num.natAbs*p.den)
 have h4:=nw_mul p.num.natAbs q.den
 have h5:=nw_mul q.num.natAbs p.den
 have h2:=nw_mul p.den q.den
 unfold szq at*
 omega
theorem szq_neg(p:Rat):szq (-p)=szq p:=by unfold szq;rw[Rat.neg_num,Rat.neg_den,Int.natAbs_neg]
theorem szq_inv(p:Rat):szq p⁻¹≤szq p+1:=by
 rw[Rat.inv_def]
 by_cases h:p.num=0
 ·rw[h,divInt_zero];unfold szq;simp;exact Nat.le_trans (by decide:nw 0+nw 1≤1) zo
 ·have:=szq_divInt p.den p.num h
  rw[Int.natAbs_natCast] at this
  unfold szq at*
  omega
open Go.RowKit
def shf (x k:Nat) (i:Nat):Nat:=if i<k then 0 else wd x (i-k)
theorem wf_shf(x k n:Nat):Wf (shf x k) n:=fun i _=>by
 unfold shf
 split
 ·omega
 ·exact wd_lt _ _
theorem val_shf_low(x k:Nat):∀n,n≤k→val (shf x k) n=0
 | 0,_=>rfl
 | n+1,h=>by
  rw[val,val_shf_low x k n zo]
  unfold shf
  rw[if_pos zo,Nat.zero_mul]
theorem val_shf(x k:Nat):∀n,val (shf x k) (k+n)=val (wd x) n*2^(64*k)
 | 0=>by rw[Nat.add_zero,val_shf_low x k k (Nat.le_refl _)];simp[val]
 | n+1=>by
  rw[←Nat.add_assoc,val,val_shf x k n,val,Nat.add_mul]
  congr 1
  unfold shf
  rw[if_neg zo,show k+n-k=n by omega,Nat.mul_assoc,←Nat.pow_add,Nat.mul_add,Nat.add_comm (64*k)]
theorem val_shf_all(x k:Nat):val (shf x k) (k+nw x)=x*2^(64*k):=by rw[val_shf,val_all x _ (Nat.le_refl _)]
theorem kara(a0 a1 b0 b1 B:Nat):a0*b0+(((a0+a1)*(b0+b1)-(a0*b0+a1*b1))*B+a1*b1*(B*B))=(a0+a1*B)*(b0+b1*B):=by
 have e:(a0+a1)*(b0+b1)-(a0*b0+a1*b1)=a0*b1+a1*b0:=by
  rw[Nat.add_mul,Nat.mul_add,Nat.mul_add];omega
 rw[e]
 simp only[Nat.add_mul,Nat.mul_add]
 have h1:a1*B*b0=a1*b0*B:=by rw[Nat.mul_assoc,Nat.mul_comm B,←Nat.mul_assoc]
 have h2:a1*B*(b1*B)=a1*b1*(B*B):=by rw[Nat.mul_assoc,←Nat.mul_assoc B,Nat.mul_comm B b1,Nat.mul_assoc b1,←Nat.mul_assoc]
 have h3:a0*(b1*B)=a0*b1*B:=by rw[Nat.mul_assoc]
 omega
structure MulFacts (x y k:Nat):Prop where
 k0:k≤68719476736
 m1:max (nw (x%2^(64*k))) (nw (y%2^(64*k)))<max (nw x) (nw y)
 m2:max (nw (x/2^(64*k))) (nw (y/2^(64*k)))<max (nw x) (nw y)
 m3:max (nw (x%2^(64*k)+x/2^(64*k))) (nw (y%2^(64*k)+y/2^(64*k)))<max (nw x) (nw y)
 l1:nw (x%2^(64*k))+nw (y%2^(64*k))≤LIM
 l2:nw (x/2^(64*k))+nw (y/2^(64*k))≤LIM
 l3:nw (x%2^(64*k)+x/2^(64*k))+nw (y%2^(64*k)+y/2^(64*k))≤LIM
 s1:Small (x%2^(64*k)+x/2^(64*k))
 s2:Small (y%2^(64*k)+y/2^(64*k))
 s3:Small (x%2^(64*k)*(y%2^(64*k))+x/2^(64*k)*(y/2^(64*k)))
 r1:nw ((x%2^(64*k)+x/2^(64*k))*(y%2^(64*k)+y/2^(64*k))-(x%2^(64*k)*(y%2^(64*k))+x/2^(64*k)*(y/2^(64*k))))+k≤137438953472
 r2:nw (x/2^(64*k)*(y/2^(64*k)))+2*k≤137438953472
 s4:Small (((x%2^(64*k)+x/2^(64*k))*(y%2^(64*k)+y/2^(64*k))-(x%2^(64*k)*(y%2^(64*k))+x/2^(64*k)*(y/2^(64*k))))*2^(64*k)+x/2^(64*k)*(y/2^(64*k))*2^(64*(2*k)))
 s5:Small (x%2^(64*k)*(y%2^(64*k))+(((x%2^(64*k)+x/2^(64*k))*(y%2^(64*k)+y/2^(64*k))-(x%2^(64*k)*(y%2^(64*k))+x/2^(64*k)*(y/2^(64*k))))*2^(64*k)+x/2^(64*k)*(y/2^(64*k))*2^(64*(2*k))))
 eq:x%2^(64*k)*(y%2^(64*k))+(((x%2^(64*k)+x/2^(64*k))*(y%2^(64*k)+y/2^(64*k))-(x%2^(64*k)*(y%2^(64*k))+x/2^(64*k)*(y/2^(64*k))))*2^(64*k)+x/2^(64*k)*(y/2^(64*k))*2^(64*(2*k)))=x*y
theorem nw_mod(x k:Nat):nw (x%2^(64*k))≤k:=nw_le_of (Nat.mod_lt _ (Nat.two_pow_pos _))
theorem mul_facts{x y k:Nat}(hk:k=(max (nw x) (nw y)+1)/2)(hx:8≤nw x)(hy:8≤nw y)(hl:nw x+nw y≤LIM):MulFacts x y k:=by
 have a0:=nw_mod x k
 have b0:=nw_mod y k
 have a1:=nw_div x k
 have b1:=nw_div y k
 have sa:=nw_add (x%2^(64*k)) (x/2^(64*k))
 have sb:=nw_add (y%2^(64*k)) (y/2^(64*k))
 have p1:=nw_mul (x%2^(64*k)) (y%2^(64*k))
 have p2:=nw_mul (x/2^(64*k)) (y/2^(64*k))
 have sp:=nw_add (x%2^(64*k)*(y%2^(64*k))) (x/2^(64*k)*(y/2^(64*k)))
 have pb:=nw_mul (x%2^(64*k)+x/2^(64*k)) (y%2^(64*k)+y/2^(64*k))
 have pm:=nw_mono' (Nat.sub_le ((x%2^(64*k)+x/2^(64*k))*(y%2^(64*k)+y/2^(64*k))) (x%2^(64*k)*(y%2^(64*k))+x/2^(64*k)*(y/2^(64*k))))
 have e:x%2^(64*k)*(y%2^(64*k))+(((x%2^(64*k)+x/2^(64*k))*(y%2^(64*k)+y/2^(64*k))-(x%2^(64*k)*(y%2^(64*k))+x/2^(64*k)*(y/2^(64*k))))*2^(64*k)+x/2^(64*k)*(y/2^(64*k))*2^(64*(2*k)))=x*y:=by
  have h2:2^(64*(2*k))=2^(64*k)*2^(64*k):=by rw[←Nat.pow_add];congr 1;omega
  rw[h2,kara]
  rw[Nat.mul_comm (x/_),Nat.mul_comm (y/_),Nat.mod_add_div,Nat.mod_add_div]
 have hxy:=nw_mul x y
 unfold LIM at*
 refine⟨by omega,by omega,by omega,by omega,by unfold LIM;omega,by unfold LIM;omega,by unfold LIM;omega,by unfold Small;omega,by unfold Small;omega,by unfold Small;omega,by omega,by omega,?_,?_,e⟩
 ·have:=nw_mono' (Nat.le_trans (Nat.le_add_left _ _) (Nat.le_of_eq e))
  unfold Small
  omega
 ·rw[e];unfold Small;omega
open Go.RowKit
theorem cal_nat_Nat_Words:Callable Tryz.prog 155:=callable_of Tryz.func155 rfl (by kernel_rfl)
theorem cal_nat_Of:Callable Tryz.prog 89:=callable_of Tryz.func89 rfl (by kernel_rfl)
set_option maxHeartbeats 2000000 in
theorem cRaised{x k:Nat}{va:Value}{w:World}(ha:(MR.nat (x)).R w va)(hs:nw x+k≤137438953472):Calls Tryz.prog 132 #[va,.int .i64 (((k:Nat):Int))] w (Ret (.nat (x*2^(64*k))) w):=by
 have _:=hs
 refine calls_enter (a:=⟨List.toArray ([va,It k]++us 9),[]⟩) Tryz.func132 rfl (by kernel_rfl) ?_
 have NL:NoLook (bodyPost Tryz.prog Tryz.f132 (Ret (.nat (x*2^(64*k))) w)):=noLook_body
 refine wp_seq ?_
 refine rg (fun c d v a w h=>NL c d v a w h) [(2,.ptr 43 (.nat (x))),(4,.ptr 43 (.nat (0)))] [0,1] [] [] 11 2 ?_ ?_
 ·refine sn [] (fun w1 hw1=>.fin (yld_newBox rfl rfl (MR.mono _ hw1 ha))) ?_
  exact sn [] (fun w1 hw1=>.fin (yld_newAlloc rfl zeroNat zNat)) (.nil _ _)
 rintro w1 hw1 _ ⟨b2,rfl,B2⟩ _ ⟨b4,rfl,B4⟩ hN
 have W1:Grow w w1:=(Grow.refl w).trans hw1
 have g_b4:w.heap.size≤b4:=Nat.le_trans (Grow.refl w).size hN.2.2.1.1
 clear hN
 refine fr ([va,It k,pt b2,u,pt b4]++us 6) ?_
 refine nx ?_
 refine wp_seq ?_
 refine rg (fun c d v a w h=>NL c d v a w h) [(5,.eq (.int .i64 (((k:Nat):Int)))),(6,.row (fun _=>0) k),(7,.nat (x)),(8,.uns (wd (x)) (nw (x))),(9,.uns (shf x k) (k+nw x)),(10,.nat (val (shf x k) (k+nw x)))] [] [] [] 11 6 ?_ ?_
 ·refine so [] (fun w2 hw2=>.fin (yld_move rfl ⟨Grow.refl _,rfl⟩)) ?_
  refine so [0] (fun w2 hw2=>by rintro _ rfl;exact .fin (yld_make64 rfl rfl rfl zo)) ?_
  refine so [] (fun w2 hw2=>.fin (yld_loadBox rfl rfl aggNat (B2.grow hw2) (shNat _))) ?_
  refine so [2] (fun w2 hw2=>by rintro v7 h7;exact .fin (yld_call rfl cal_nat_Nat_Words rfl (cNatWords h7))) ?_
  refine so [1,3] (fun w2 hw2=>by rintro v6 h6 v8 h8;exact .fin (yld_append64 rfl h6 h8 zo zo)) ?_
  exact so [4] (fun w2 hw2=>by rintro v9 h9;exact .fin (yld_call rfl cal_nat_Of rfl (cNatOfU h9 (wf_shf x k _) zo))) (.nil _ _)
 rintro w2 hw2 v5-v6-v7-v8-v9-v10 h10-
 have W2:Grow w w2:=W1.trans hw2
 replace B4:=B4.grow hw2
 have KK:Kept [] w2 w2:=fun _ _=>rfl
 refine fr [va,It k,pt b2,u,pt b4,v5,v6,v7,v8,v9,v10] ?_
 change wpListS _ _ _ _ [_] ⟨_,[]⟩ _
 refine wpListS_yld rfl ?_
 refine yld_storeBox (R':=.nat (val (shf x k) (k+nw x))) (b:=b4) rfl rfl aggNat.size B4 (shNat _) h10 (shNat _) (St.nat _) (by decide) g_b4 fun w3 P3 E3 B'=>⟨fun _=>Kept.put KK P3 (fun _ hk=>(by cases hk)),?_⟩
 have W3:Grow w w3:=W2.put P3 g_b4
 replace B4:=B';clear B'
 refine nx ?_
 have BR:Box w3 b4 43 (.nat (x*2^(64*k))):=(by have e:(val (shf x k) (k+nw x):Nat)=x*2^(64*k):=(val_shf_all x k);rw[←e];exact B4)
 refine wp_ret ?_
 change bodyPost Tryz.prog Tryz.f132 (Ret (.nat (x*2^(64*k))) w) .ret _ _
 exact body_cell (b:=b4) rfl rfl aggNat BR (shNat _) rfl W3
end Go.Proofs.YtgighdoacajmfaaGreatDoor
