/- The parts DivMod, SMu, RatM2, SB, VecM, SV, SL, SA, SG, Det, Red, Lin, Del, Ht, DetI, SE, Lu, SU. -/
import Derived.Test.YtgighdoacajmfaaGreatDoorQ4
set_option maxRecDepth 100000
namespace Go.Proofs.YtgighdoacajmfaaGreatDoor
open Go.RowKit
theorem cal_nat_Cmp:Callable Tryz.prog 157:=callable_of Tryz.func157 rfl (by kernel_rfl)
theorem dm_lt{x y:Nat}(h:cmpV x y<0):x<y:=by unfold cmpV at h;split at h<;>(try split at h)<;>omega
theorem dm_ge{x y:Nat}(h:¬cmpV x y<0):y≤x:=by unfold cmpV at h;split at h<;>(try split at h)<;>omega
theorem dm_mono{x y:Nat}(h:y≤x):nw y≤nw x:=(nw_le _ _).2 (Nat.lt_of_le_of_lt h (lt_nw x))
theorem nw_shl(x:Nat){s:Nat}(hs:s<64):nw x≤nw (x*2^s)∧nw (x*2^s)≤nw x+1:=by
 refine⟨dm_mono (Nat.le_mul_of_pos_right x (Nat.two_pow_pos s)),(nw_le _ _).2 ?_⟩
 rw[p64]
 have h1:=lt_nw x
 have h2:2^s≤18446744073709551616:=Nat.pow_le_pow_right (n:=2) zo (Nat.le_of_lt hs)
 rw[Nat.mul_comm 18446744073709551616]
 exact Nat.lt_of_lt_of_le (Nat.mul_lt_mul_of_pos_right h1 (Nat.two_pow_pos s)) (Nat.mul_le_mul_left _ h2)
theorem wd_one{y:Nat}(h:nw y≤1):wd y 0=y:=by
 have:=(nw_le y 1).1 h
 unfold wd
 simp
 omega
theorem dm_rem{d:Nat}(x:Nat)(h:d<18446744073709551616):(if d=0 then 0 else x%d)<18446744073709551616:=by
 split
 ·omega
 ·exact Nat.lt_trans (Nat.mod_lt _ zo) h
theorem u64_pred{q:Nat}(h:q<18446744073709551616)(h0:0<q):IntKind.u64.wrap (((q:Nat):Int)-1)=((q-1:Nat):Int):=by rw[IntKind.wrap_u64];omega
theorem upd_same{f:Nat→Nat}{k v:Nat}:upd f k v k=v:=by unfold upd;rw[if_pos rfl]
theorem cal_word_Lead:Callable Tryz.prog 175:=callable_of Tryz.func175 rfl (by kernel_rfl)
theorem cal_quot_ByWord:Callable Tryz.prog 174:=callable_of Tryz.func174 rfl (by kernel_rfl)
theorem cal_nat_Nat_Shl:Callable Tryz.prog 176:=callable_of Tryz.func176 rfl (by kernel_rfl)
theorem cal_quot_guess:Callable Tryz.prog 177:=callable_of Tryz.func177 rfl (by kernel_rfl)
theorem cal_quot_take:Callable Tryz.prog 178:=callable_of Tryz.func178 rfl (by kernel_rfl)
theorem cal_quot_back:Callable Tryz.prog 179:=callable_of Tryz.func179 rfl (by kernel_rfl)
theorem cal_nat_Nat_Shr:Callable Tryz.prog 180:=callable_of Tryz.func180 rfl (by kernel_rfl)
set_option maxHeartbeats 2000000 in
theorem cQuotDivMod{x y:Nat}{va:Value}{vb:Value}{w:World}(ha:(MR.nat (x)).R w va)(hb:(MR.nat (y)).R w vb)(hsx:nw x<1099511627776):Calls Tryz.prog 168 #[va,vb] w (Ret (.tup3 (.nat (x/y)) (.nat (if y=0 then 0 else x%y)) (.eq (.bool (!decide (y=0))))) w):=by
 have _:=hsx
 have hsy:nw y≤1099511627776:=NatAt.small hb
 obtain⟨s,hs⟩:∃s,s=leadz (wd y (nw y-1)):=⟨_,rfl⟩
 refine calls_enter (a:=⟨List.toArray ([va,vb]++us 146),[]⟩) Tryz.func168 rfl (by kernel_rfl) ?_
 have NL:NoLook (bodyPost Tryz.prog Tryz.f168 (Ret (.tup3 (.nat (x/y)) (.nat (if y=0 then 0 else x%y)) (.eq (.bool (!decide (y=0))))) w)):=noLook_body
 refine wp_seq ?_
 refine rg (fun c d v a w h=>NL c d v a w h) [(2,.ptr 43 (.nat (x))),(3,.ptr 43 (.nat (y))),(4,.ptr 43 (.nat (0))),(5,.ptr 43 (.nat (0))),(6,.eq (.bool (false)))] [0,1,2,3] [] [] 148 5 ?_ ?_
 ·refine sn [] (fun w1 hw1=>.fin (yld_newBox rfl rfl (MR.mono _ hw1 ha))) ?_
  refine sn [] (fun w1 hw1=>.fin (yld_newBox rfl rfl (MR.mono _ hw1 hb))) ?_
  refine sn [] (fun w1 hw1=>.fin (yld_newAlloc rfl zeroNat zNat)) ?_
  refine sn [] (fun w1 hw1=>.fin (yld_newAlloc rfl zeroNat zNat)) ?_
  exact so [] (fun w1 hw1=>.fin (yld_assign rfl ⟨Grow.refl _,rfl⟩)) (.nil _ _)
 rintro w1 hw1 _ ⟨b2,rfl,B2⟩ _ ⟨b3,rfl,B3⟩ _ ⟨b4,rfl,B4⟩ _ ⟨b5,rfl,B5⟩ _ rfl hN
 have W1:Grow w w1:=(Grow.refl w).trans hw1
 have n_b2_b4:b2≠b4:=hN.2.1 2 (by simp)
 have n_b2_b5:b2≠b5:=hN.2.1 3 (by simp)
 have n_b3_b4:b3≠b4:=hN.2.2.2.1 2 (by simp)
 have n_b3_b5:b3≠b5:=hN.2.2.2.1 3 (by simp)
 have g_b4:w.heap.size≤b4:=Nat.le_trans (Grow.refl w).size hN.2.2.2.2.1.1
 have n_b4_b5:b4≠b5:=hN.2.2.2.2.2.1 3 (by simp)
 have g_b5:w.heap.size≤b5:=Nat.le_trans (Grow.refl w).size hN.2.2.2.2.2.2.1.1
 clear hN
 replace hb:=MR.mono _ hw1 hb
 refine fr ([va,vb,pt b2,pt b3,pt b4,pt b5,.bool (false)]++us 141) ?_
 refine nx ?_
 refine wp_seq ?_
 refine wp_seq ?_
 refine rg (fun c d v a w h=>NL c d v a w h) [(19,.nat (y)),(20,.eq (.int .i64 (((nw y:Nat):Int)))),(21,.eq (.bool (decide ((((nw y:Nat):Int):Int)≤(1:Int)))))] [] [] [] 148 3 ?_ ?_
 ·refine so [] (fun w2 hw2=>.fin (yld_loadBox rfl rfl aggNat (B3.grow hw2) (shNat _))) ?_
  refine so [0] (fun w2 hw2=>by rintro v19 h19;exact .fin (yld_call rfl cal_nat_Nat_Len rfl (cNatLen h19))) ?_
  exact so [1] (fun w2 hw2=>by rintro _ rfl;exact .fin (yld_leq rfl rfl rfl ⟨Grow.refl _,rfl⟩)) (.nil _ _)
 rintro w2 hw2 v19-v20-_ rfl-
 have W2:Grow w w2:=W1.trans hw2
 replace B2:=B2.grow hw2
 replace B3:=B3.grow hw2
 replace B4:=B4.grow hw2
 replace B5:=B5.grow hw2
 replace hb:=MR.mono _ hw2 hb
 refine fr ([va,vb,pt b2,pt b3,pt b4,pt b5,.bool (false),u,u,u,u,u,u,u,u,u,u,u,u,v19,v20,.bool (decide ((((nw y:Nat):Int):Int)≤(1:Int)))]++us 126) ?_
 refine nx ?_
 refine wp_cond_split (t:=decide ((((nw y:Nat):Int):Int)≤(1:Int))) rfl (fun h1=>?_) (fun h1=>?_)
 ·have hy1:nw y≤1:=by have:=of_decide_eq_true h1;omega
  have ey:wd y 0=y:=wd_one hy1
  have hrB:(if wd y 0=0 then 0 else x%wd y 0)<18446744073709551616:=dm_rem x (wd_lt y 0)
  refine wp_seq ?_
  refine rg (fun c d v a w h=>NL c d v a w h) [(23,.nat (x)),(24,.nat (y)),(25,.eq (.int .u64 (((wd y 0:Nat):Int)))),(26,.tup3 (.nat (x/(wd y 0))) (.eq (.int .u64 (((if wd y 0=0 then 0 else x%(wd y 0):Nat):Int)))) (.eq (.bool (!decide (wd y 0=0))))),(22,.tup3 (.nat (x/(wd y 0))) (.eq (.int .u64 (((if wd y 0=0 then 0 else x%(wd y 0):Nat):Int)))) (.eq (.bool (!decide (wd y 0=0))))),(27,.nat (x/(wd y 0))),(28,.eq (.int .u64 (((if wd y 0=0 then 0 else x%(wd y 0):Nat):Int)))),(29,.eq (.bool (!decide (wd y 0=0)))),(7,.ptr 43 (.nat (0)))] [8] [6,7] [] 148 9 ?_ ?_
  ·refine so [] (fun w3 hw3=>.fin (yld_loadBox rfl rfl aggNat (B2.grow hw3) (shNat _))) ?_
   refine so [] (fun w3 hw3=>.fin (yld_loadBox rfl rfl aggNat (B3.grow hw3) (shNat _))) ?_
   refine so [1] (fun w3 hw3=>by rintro v24 h24;exact .fin (yld_call rfl cal_nat_Nat_Word rfl (cWord0 (k:=0) h24 rfl))) ?_
   refine so [0,2] (fun w3 hw3=>by rintro v23 h23 _ rfl;exact .fin (yld_call rfl cal_quot_ByWord rfl (cByWord (d:=wd y 0) h23 (wd_lt _ _)))) ?_
   refine so [3] (fun w3 hw3=>by rintro _ ⟨x26_0,x26_1,x26_2,rfl,hx26_0,hx26_1,hx26_2⟩;exact .fin (yld_move rfl ⟨Grow.refl _,⟨x26_0,x26_1,x26_2,rfl,hx26_0,hx26_1,hx26_2⟩⟩)) ?_
   refine so [4] (fun w3 hw3=>by rintro _ ⟨x22_0,x22_1,x22_2,rfl,hx22_0,hx22_1,hx22_2⟩;exact .fin (yld_extract rfl rfl rfl ⟨Grow.refl _,hx22_0⟩)) ?_
   refine sl [4] (fun w3 hw3=>by rintro _ ⟨x22_0,x22_1,x22_2,rfl,hx22_0,hx22_1,hx22_2⟩;exact .fin (⟨_,fun w2 _=>pure_extract rfl rfl rfl w2,hx22_1⟩)) ?_
   refine sl [4] (fun w3 hw3=>by rintro _ ⟨x22_0,x22_1,x22_2,rfl,hx22_0,hx22_1,hx22_2⟩;exact .fin (⟨_,fun w2 _=>pure_extract rfl rfl rfl w2,hx22_2⟩)) ?_
   exact sn [] (fun w3 hw3=>.fin (yld_newAlloc rfl zeroNat zNat)) (.nil _ _)
  rintro w3 hw3 v23-v24-v25-v26-v22-v27 h27 _ rfl _ rfl _ ⟨b7,rfl,B7⟩ hN
  have W3:Grow w w3:=W2.trans hw3
  have g_b7:w.heap.size≤b7:=Nat.le_trans W2.size hN.1.1
  have n_b2_b7:b2≠b7:=Nat.ne_of_lt (Nat.lt_of_lt_of_le B2.lt hN.1.1)
  have n_b3_b7:b3≠b7:=Nat.ne_of_lt (Nat.lt_of_lt_of_le B3.lt hN.1.1)
  have n_b4_b7:b4≠b7:=Nat.ne_of_lt (Nat.lt_of_lt_of_le B4.lt hN.1.1)
  have n_b5_b7:b5≠b7:=Nat.ne_of_lt (Nat.lt_of_lt_of_le B5.lt hN.1.1)
  clear hN
  replace B2:=B2.grow hw3
  replace B3:=B3.grow hw3
  replace B4:=B4.grow hw3
  replace B5:=B5.grow hw3
  replace hb:=MR.mono _ hw3 hb
  have KK:Kept [] w3 w3:=fun _ _=>rfl
  refine fr ([va,vb,pt b2,pt b3,pt b4,pt b5,.bool (false),pt b7,u,u,u,u,u,u,u,u,u,u,u,v19,v20,.bool (decide ((((nw y:Nat):Int):Int)≤(1:Int))),v22,v23,v24,v25,v26,v27,Ut (if wd y 0=0 then 0 else x%(wd y 0)),.bool (!decide (wd y 0=0))]++us 118) ?_
  change wpListS _ _ _ _ [_,_,_] ⟨_,[]⟩ _
  refine wpListS_yld rfl ?_
  refine yld_storeBox (R':=.nat (x/(wd y 0))) (b:=b7) rfl rfl aggNat.size B7 (shNat _) h27 (shNat _) (St.nat _) (by decide) g_b7 fun w4 P4 E4 B'=>⟨fun _=>Kept.put KK P4 (fun _ hk=>(by cases hk)),?_⟩
  replace KK:=Kept.put KK P4 (fun _ hk=>(by cases hk))
  have W4:Grow w w4:=W3.put P4 g_b7
  replace B2:=B2.put (St.nat _) P4 E4 n_b2_b7
  replace B3:=B3.put (St.nat _) P4 E4 n_b3_b7
  replace B4:=B4.put (St.nat _) P4 E4 n_b4_b7
  replace B5:=B5.put (St.nat _) P4 E4 n_b5_b7
  replace B7:=B';clear B'
  replace hb:=MR.put hb (St.nat _) E4
  change wpListS _ _ _ _ [_,_] ⟨_,[]⟩ _
  refine wpListS_yld rfl ?_
  refine yld_assign rfl ⟨fun _=>KK,?_⟩
  change wpListS _ _ _ _ [_] ⟨List.toArray (List.set _ 8 _),[]⟩ _
  refine wpListS_yld rfl ?_
  refine yld_assign rfl ⟨fun _=>KK,?_⟩
  refine wpListS_nil ?_
  change Code.wp _ _ _ ⟨List.toArray (List.set _ 9 _),[]⟩ _
  refine wp_seq ?_
  refine rg (fun c d v a w h=>NL c d v a w h) [(30,.nat (x/(wd y 0))),(31,.eq (.int .u64 (((if wd y 0=0 then 0 else x%(wd y 0):Nat):Int)))),(32,.lits ([if wd y 0=0 then 0 else x%wd y 0])),(33,.nat (if wd y 0=0 then 0 else x%wd y 0)),(34,.eq (.bool (!decide (wd y 0=0))))] [] [4] [] 148 5 ?_ ?_
  ·refine so [] (fun w5 hw5=>.fin (yld_loadBox rfl rfl aggNat (B7.grow hw5) (shNat _))) ?_
   refine so [] (fun w5 hw5=>.fin (yld_move rfl ⟨Grow.refl _,rfl⟩)) ?_
   refine so [1] (fun w5 hw5=>by rintro _ rfl;exact .fin (yld_lit rfl rfl)) ?_
   refine so [2] (fun w5 hw5=>by rintro v32 h32;exact .fin (yld_call rfl cal_nat_Of rfl (cNatOf1 h32 zo))) ?_
   exact sl [] (fun w5 hw5=>.fin (lazy_move rfl rfl rfl)) (.nil _ _)
  rintro w5 hw5 v30 h30 v31-v32-v33 h33 _ rfl-
  have W5:Grow w w5:=W4.trans hw5
  replace B2:=B2.grow hw5
  replace B3:=B3.grow hw5
  replace B4:=B4.grow hw5
  replace B5:=B5.grow hw5
  replace hb:=MR.mono _ hw5 hb
  have KK:Kept [] w5 w5:=fun _ _=>rfl
  refine fr ([va,vb,pt b2,pt b3,pt b4,pt b5,.bool (false),pt b7,Ut (if wd y 0=0 then 0 else x%(wd y 0)),.bool (!decide (wd y 0=0)),u,u,u,u,u,u,u,u,u,v19,v20,.bool (decide ((((nw y:Nat):Int):Int)≤(1:Int))),v22,v23,v24,v25,v26,v27,Ut (if wd y 0=0 then 0 else x%(wd y 0)),.bool (!decide (wd y 0=0)),v30,v31,v32,v33,.bool (!decide (wd y 0=0))]++us 113) ?_
  change wpListS _ _ _ _ [_,_,_] ⟨_,[]⟩ _
  refine wpListS_yld rfl ?_
  refine yld_storeBox (R':=.nat (x/(wd y 0))) (b:=b4) rfl rfl aggNat.size B4 (shNat _) h30 (shNat _) (St.nat _) (by decide) g_b4 fun w6 P6 E6 B'=>⟨fun _=>Kept.put KK P6 (fun _ hk=>(by cases hk)),?_⟩
  replace KK:=Kept.put KK P6 (fun _ hk=>(by cases hk))
  have W6:Grow w w6:=W5.put P6 g_b4
  replace B2:=B2.put (St.nat _) P6 E6 n_b2_b4
  replace B3:=B3.put (St.nat _) P6 E6 n_b3_b4
  replace B5:=B5.put (St.nat _) P6 E6 (Ne.symm n_b4_b5)
  replace B4:=B';clear B'
  replace hb:=MR.put hb (St.nat _) E6
  replace h33:=MR.put h33 (St.nat _) E6
  change wpListS _ _ _ _ [_,_] ⟨_,[]⟩ _
  refine wpListS_yld rfl ?_
  refine yld_storeBox (R':=.nat (if wd y 0=0 then 0 else x%wd y 0)) (b:=b5) rfl rfl aggNat.size B5 (shNat _) h33 (shNat _) (St.nat _) (by decide) g_b5 fun w7 P7 E7 B'=>⟨fun _=>Kept.put KK P7 (fun _ hk=>(by cases hk)),?_⟩
  replace KK:=Kept.put KK P7 (fun _ hk=>(by cases hk))
  have W7:Grow w w7:=W6.put P7 g_b5
  replace B2:=B2.put (St.nat _) P7 E7 n_b2_b5
  replace B3:=B3.put (St.nat _) P7 E7 n_b3_b5
  replace B4:=B4.put (St.nat _) P7 E7 n_b4_b5
  replace B5:=B';clear B'
  replace hb:=MR.put hb (St.nat _) E7
  change wpListS _ _ _ _ [_] ⟨_,[]⟩ _
  refine wpListS_yld rfl ?_
  refine yld_assign rfl ⟨fun _=>KK,?_⟩
  refine wpListS_nil ?_
  change Code.wp _ _ _ ⟨List.toArray (List.set _ 6 _),[]⟩ _
  have BR:Box w7 b4 43 (.nat (x/y)):=(by have e:(x/(wd y 0):Nat)=x/y:=(by first | (rw[ey];done) | exact(Nat.div_eq_of_lt hxy).symm | (rw[if_neg hy0,Nat.mod_eq_of_lt hxy];done) | exact(d_end hD).1 | (rw[if_neg hy0];exact(d_end hD).2) | (simp[hy0];done));rw[←e];exact B4)
  have BR2:Box w7 b5 43 (.nat (if y=0 then 0 else x%y)):=(by have e:(if wd y 0=0 then 0 else x%wd y 0:Nat)=if y=0 then 0 else x%y:=(by first | (rw[ey];done) | exact(Nat.div_eq_of_lt hxy).symm | (rw[if_neg hy0,Nat.mod_eq_of_lt hxy];done) | exact(d_end hD).1 | (rw[if_neg hy0];exact(d_end hD).2) | (simp[hy0];done));rw[←e];exact B5)
  refine wp_ret ?_
  change bodyPost Tryz.prog Tryz.f168 (Ret (.tup3 (.nat (x/y)) (.nat (if y=0 then 0 else x%y)) (.eq (.bool (!decide (y=0))))) w) .ret _ _
  exact body_cell2_slot (b:=b4) (b':=b5) rfl rfl aggNat BR (shNat _) rfl aggNat BR2 (shNat _) (by show Value.bool _=Value.bool _;rw[show(!decide (wd y 0=0))=(!decide (y=0)) from(by first | (rw[ey];done) | exact(Nat.div_eq_of_lt hxy).symm | (rw[if_neg hy0,Nat.mod_eq_of_lt hxy];done) | exact(d_end hD).1 | (rw[if_neg hy0];exact(d_end hD).2) | (simp[hy0];done))]) rfl W7
 ·have h2:2≤nw y:=by have:=of_decide_eq_false h1;omega
  refine wp_skip ?_
  change Code.wp _ _ _ ⟨_,[]⟩ _
  refine wp_seq ?_
  refine wp_seq ?_
  refine rg (fun c d v a w h=>NL c d v a w h) [(35,.nat (x)),(36,.nat (y)),(37,.eq (.int .i64 (cmpV ((x:Nat)) ((y:Nat))))),(38,.eq (.bool (decide ((cmpV ((x:Nat)) ((y:Nat)):Int)<(0:Int)))))] [] [] [] 148 4 ?_ ?_
  ·refine so [] (fun w8 hw8=>.fin (yld_loadBox rfl rfl aggNat (B2.grow hw8) (shNat _))) ?_
   refine so [] (fun w8 hw8=>.fin (yld_loadBox rfl rfl aggNat (B3.grow hw8) (shNat _))) ?_
   refine so [0,1] (fun w8 hw8=>by rintro v35 h35 v36 h36;exact .fin (yld_call rfl cal_nat_Cmp rfl (cNatCmp h35 h36))) ?_
   exact so [2] (fun w8 hw8=>by rintro _ rfl;exact .fin (yld_lss rfl rfl rfl ⟨Grow.refl _,rfl⟩)) (.nil _ _)
  rintro w8 hw8 v35-v36-v37-_ rfl-
  have W8:Grow w w8:=W2.trans hw8
  replace B2:=B2.grow hw8
  replace B3:=B3.grow hw8
  replace B4:=B4.grow hw8
  replace B5:=B5.grow hw8
  replace hb:=MR.mono _ hw8 hb
  refine fr ([va,vb,pt b2,pt b3,pt b4,pt b5,.bool (false),u,u,u,u,u,u,u,u,u,u,u,u,v19,v20,.bool (decide ((((nw y:Nat):Int):Int)≤(1:Int))),u,u,u,u,u,u,u,u,u,u,u,u,u,v35,v36,v37,.bool (decide ((cmpV ((x:Nat)) ((y:Nat)):Int)<(0:Int)))]++us 109) ?_
  refine nx ?_
  refine wp_cond_split (t:=decide ((cmpV ((x:Nat)) ((y:Nat)):Int)<(0:Int))) rfl (fun hlt=>?_) (fun hlt=>?_)
  ·have hxy:x<y:=dm_lt (of_decide_eq_true hlt)
   have hy0:y≠0:=by omega
   refine wp_seq ?_
   refine rg (fun c d v a w h=>NL c d v a w h) [(39,.nat (0)),(40,.nat (x))] [] [1] [b2] 148 2 ?_ ?_
   ·refine so [] (fun w9 hw9=>.fin (yld_build (ps:=[]) rfl rfl (by kernel_rfl) ⟨Grow.refl _,zNat _⟩)) ?_
    exact sl [] (fun w9 hw9=>.fin (lazy_loadBox rfl rfl aggNat (B2.grow hw9) (shNat _) (by simp))) (.nil _ _)
   rintro w9 hw9 v39 h39 v40 h40-
   have W9:Grow w w9:=W8.trans hw9
   replace B2:=B2.grow hw9
   replace B3:=B3.grow hw9
   replace B4:=B4.grow hw9
   replace B5:=B5.grow hw9
   replace hb:=MR.mono _ hw9 hb
   have KK:Kept [b2] w9 w9:=fun _ _=>rfl
   refine fr ([va,vb,pt b2,pt b3,pt b4,pt b5,.bool (false),u,u,u,u,u,u,u,u,u,u,u,u,v19,v20,.bool (decide ((((nw y:Nat):Int):Int)≤(1:Int))),u,u,u,u,u,u,u,u,u,u,u,u,u,v35,v36,v37,.bool (decide ((cmpV ((x:Nat)) ((y:Nat)):Int)<(0:Int))),v39,v40]++us 107) ?_
   change wpListS _ _ _ _ [_,_,_] ⟨_,[]⟩ _
   refine wpListS_yld rfl ?_
   refine yld_storeBox (R':=.nat (0)) (b:=b4) rfl rfl aggNat.size B4 (shNat _) h39 (shNat _) (St.nat _) (by decide) g_b4 fun w10 P10 E10 B'=>⟨fun _=>Kept.put KK P10 (by simp only[List.mem_cons,List.not_mem_nil,or_false,forall_eq];exact n_b2_b4),?_⟩
   replace KK:=Kept.put KK P10 (by simp only[List.mem_cons,List.not_mem_nil,or_false,forall_eq];exact n_b2_b4)
   have W10:Grow w w10:=W9.put P10 g_b4
   replace B2:=B2.put (St.nat _) P10 E10 n_b2_b4
   replace B3:=B3.put (St.nat _) P10 E10 n_b3_b4
   replace B5:=B5.put (St.nat _) P10 E10 (Ne.symm n_b4_b5)
   replace B4:=B';clear B'
   replace hb:=MR.put hb (St.nat _) E10
   replace h40:=MR.put h40 (St.nat _) E10
   change wpListS _ _ _ _ [_,_] ⟨_,[]⟩ _
   refine wpListS_yld rfl ?_
   refine yld_storeBox (R':=.nat (x)) (b:=b5) rfl rfl aggNat.size B5 (shNat _) h40 (shNat _) (St.nat _) (by decide) g_b5 fun w11 P11 E11 B'=>⟨fun _=>Kept.put KK P11 (by simp only[List.mem_cons,List.not_mem_nil,or_false,forall_eq];exact n_b2_b5),?_⟩
   replace KK:=Kept.put KK P11 (by simp only[List.mem_cons,List.not_mem_nil,or_false,forall_eq];exact n_b2_b5)
   have W11:Grow w w11:=W10.put P11 g_b5
   replace B2:=B2.put (St.nat _) P11 E11 n_b2_b5
   replace B3:=B3.put (St.nat _) P11 E11 n_b3_b5
   replace B4:=B4.put (St.nat _) P11 E11 n_b4_b5
   replace B5:=B';clear B'
   replace hb:=MR.put hb (St.nat _) E11
   change wpListS _ _ _ _ [_] ⟨_,[]⟩ _
   refine wpListS_yld rfl ?_
   refine yld_assign rfl ⟨fun _=>KK,?_⟩
   refine wpListS_nil ?_
   change Code.wp _ _ _ ⟨List.toArray (List.set _ 6 _),[]⟩ _
   have BR:Box w11 b4 43 (.nat (x/y)):=(by have e:(0:Nat)=x/y:=(by first | (rw[ey];done) | exact(Nat.div_eq_of_lt hxy).symm | (rw[if_neg hy0,Nat.mod_eq_of_lt hxy];done) | exact(d_end hD).1 | (rw[if_neg hy0];exact(d_end hD).2) | (simp[hy0];done));rw[←e];exact B4)
   have BR2:Box w11 b5 43 (.nat (if y=0 then 0 else x%y)):=(by have e:(x:Nat)=if y=0 then 0 else x%y:=(by first | (rw[ey];done) | exact(Nat.div_eq_of_lt hxy).symm | (rw[if_neg hy0,Nat.mod_eq_of_lt hxy];done) | exact(d_end hD).1 | (rw[if_neg hy0];exact(d_end hD).2) | (simp[hy0];done));rw[←e];exact B5)
   refine wp_ret ?_
   change bodyPost Tryz.prog Tryz.f168 (Ret (.tup3 (.nat (x/y)) (.nat (if y=0 then 0 else x%y)) (.eq (.bool (!decide (y=0))))) w) .ret _ _
   exact body_cell2_slot (b:=b4) (b':=b5) rfl rfl aggNat BR (shNat _) rfl aggNat BR2 (shNat _) (by show Value.bool _=Value.bool _;rw[show(true)=(!decide (y=0)) from(by first | (rw[ey];done) | exact(Nat.div_eq_of_lt hxy).symm | (rw[if_neg hy0,Nat.mod_eq_of_lt hxy];done) | exact(d_end hD).1 | (rw[if_neg hy0];exact(d_end hD).2) | (simp[hy0];done))]) rfl W11
  ·have hxy:y≤x:=dm_ge (of_decide_eq_false hlt)
   have hnxy:nw y≤nw x:=dm_mono hxy
   have hy0:y≠0:=fun h=>by rw[h,nw_zero] at h2;omega
   obtain⟨hmV,hs64⟩:=nw_shift hy0 hs
   have hSy:Small (y*2^s):=by show nw _≤_;omega
   obtain⟨hNx,hNx1⟩:=nw_shl x hs64
   have hSx:Small (x*2^s):=by show nw _≤_;omega
   have h2V:2≤nw (y*2^s):=by omega
   refine wp_skip ?_
   change Code.wp _ _ _ ⟨_,[]⟩ _
   refine wp_seq ?_
   refine rg (fun c d v a w h=>NL c d v a w h) [(41,.nat (y)),(42,.nat (y)),(43,.eq (.int .i64 (((nw y:Nat):Int)))),(44,.eq (.int .i64 (((nw y-1:Nat):Int)))),(45,.eq (.int .u64 (((wd y (nw y-1):Nat):Int)))),(46,.eq (.int .i64 (((s:Nat):Int)))),(10,.eq (.int .i64 (((s:Nat):Int))))] [] [] [] 148 7 ?_ ?_
   ·refine so [] (fun w12 hw12=>.fin (yld_loadBox rfl rfl aggNat (B3.grow hw12) (shNat _))) ?_
    refine so [] (fun w12 hw12=>.fin (yld_loadBox rfl rfl aggNat (B3.grow hw12) (shNat _))) ?_
    refine so [1] (fun w12 hw12=>by rintro v42 h42;exact .fin (yld_call rfl cal_nat_Nat_Len rfl (cNatLen h42))) ?_
    refine so [2] (fun w12 hw12=>by rintro _ rfl;exact .fin (yld_sub rfl rfl rfl (r:=((nw y-1:Nat):Int)) (by rw[IntKind.wrap_i64];omega) ⟨Grow.refl _,rfl⟩)) ?_
    refine so [0,3] (fun w12 hw12=>by rintro v41 h41 _ rfl;exact .fin (yld_call rfl cal_nat_Nat_Word rfl (cWord0 (k:=(nw y-1)) h41 rfl))) ?_
    refine so [4] (fun w12 hw12=>by rintro _ rfl;exact .fin (yld_as (R:=.eq (.int .i64 (((leadz (wd y (nw y-1)):Nat):Int)))) (R2:=.eq (.int .i64 (((s:Nat):Int)))) (yld_call rfl cal_word_Lead rfl (cLead (wd_lt _ _))) (fun h=>h.trans (by rw[hs])))) ?_
    exact so [5] (fun w12 hw12=>by rintro _ rfl;exact .fin (yld_assign rfl ⟨Grow.refl _,rfl⟩)) (.nil _ _)
   rintro w12 hw12 v41-v42-v43-v44-v45-v46-_ rfl-
   have W12:Grow w w12:=W8.trans hw12
   replace B2:=B2.grow hw12
   replace B3:=B3.grow hw12
   replace B4:=B4.grow hw12
   replace B5:=B5.grow hw12
   replace hb:=MR.mono _ hw12 hb
   refine fr ([va,vb,pt b2,pt b3,pt b4,pt b5,.bool (false),u,u,u,It s,u,u,u,u,u,u,u,u,v19,v20,.bool (decide ((((nw y:Nat):Int):Int)≤(1:Int))),u,u,u,u,u,u,u,u,u,u,u,u,u,v35,v36,v37,.bool (decide ((cmpV ((x:Nat)) ((y:Nat)):Int)<(0:Int))),u,u,v41,v42,v43,v44,v45,v46]++us 101) ?_
   refine nx ?_
   refine wp_seq ?_
   refine rg (fun c d v a w h=>NL c d v a w h) [(48,.nat (y)),(49,.eq (.int .i64 (((s:Nat):Int)))),(50,.tup2 (.nat (y*2^s)) (.eq (.bool (true)))),(47,.tup2 (.nat (y*2^s)) (.eq (.bool (true)))),(51,.nat (y*2^s)),(52,.eq (.bool (true))),(11,.ptr 43 (.nat (0)))] [6] [5] [] 148 7 ?_ ?_
   ·refine so [] (fun w13 hw13=>.fin (yld_loadBox rfl rfl aggNat (B3.grow hw13) (shNat _))) ?_
    refine so [] (fun w13 hw13=>.fin (yld_move rfl ⟨Grow.refl _,rfl⟩)) ?_
    refine so [0,1] (fun w13 hw13=>by rintro v48 h48 _ rfl;exact .fin (yld_call rfl cal_nat_Nat_Shl rfl (cShl (k:=s) h48 hs64 hSy))) ?_
    refine so [2] (fun w13 hw13=>by rintro _ ⟨x50_0,x50_1,rfl,hx50_0,hx50_1⟩;exact .fin (yld_move rfl ⟨Grow.refl _,⟨x50_0,x50_1,rfl,hx50_0,hx50_1⟩⟩)) ?_
    refine so [3] (fun w13 hw13=>by rintro _ ⟨x47_0,x47_1,rfl,hx47_0,hx47_1⟩;exact .fin (yld_extract rfl rfl rfl ⟨Grow.refl _,hx47_0⟩)) ?_
    refine sl [3] (fun w13 hw13=>by rintro _ ⟨x47_0,x47_1,rfl,hx47_0,hx47_1⟩;exact .fin (⟨_,fun w2 _=>pure_extract rfl rfl rfl w2,hx47_1⟩)) ?_
    exact sn [] (fun w13 hw13=>.fin (yld_newAlloc rfl zeroNat zNat)) (.nil _ _)
   rintro w13 hw13 v48-v49-v50-v47-v51 h51 _ rfl _ ⟨b11,rfl,B11⟩ hN
   have W13:Grow w w13:=W12.trans hw13
   have g_b11:w.heap.size≤b11:=Nat.le_trans W12.size hN.1.1
   have n_b2_b11:b2≠b11:=Nat.ne_of_lt (Nat.lt_of_lt_of_le B2.lt hN.1.1)
   have n_b3_b11:b3≠b11:=Nat.ne_of_lt (Nat.lt_of_lt_of_le B3.lt hN.1.1)
   have n_b4_b11:b4≠b11:=Nat.ne_of_lt (Nat.lt_of_lt_of_le B4.lt hN.1.1)
   have n_b5_b11:b5≠b11:=Nat.ne_of_lt (Nat.lt_of_lt_of_le B5.lt hN.1.1)
   clear hN
   replace B2:=B2.grow hw13
   replace B3:=B3.grow hw13
   replace B4:=B4.grow hw13
   replace B5:=B5.grow hw13
   replace hb:=MR.mono _ hw13 hb
   have KK:Kept [] w13 w13:=fun _ _=>rfl
   refine fr ([va,vb,pt b2,pt b3,pt b4,pt b5,.bool (false),u,u,u,It s,pt b11,u,u,u,u,u,u,u,v19,v20,.bool (decide ((((nw y:Nat):Int):Int)≤(1:Int))),u,u,u,u,u,u,u,u,u,u,u,u,u,v35,v36,v37,.bool (decide ((cmpV ((x:Nat)) ((y:Nat)):Int)<(0:Int))),u,u,v41,v42,v43,v44,v45,v46,v47,v48,v49,v50,v51,.bool (true)]++us 95) ?_
   change wpListS _ _ _ _ [_,_] ⟨_,[]⟩ _
   refine wpListS_yld rfl ?_
   refine yld_storeBox (R':=.nat (y*2^s)) (b:=b11) rfl rfl aggNat.size B11 (shNat _) h51 (shNat _) (St.nat _) (by decide) g_b11 fun w14 P14 E14 B'=>⟨fun _=>Kept.put KK P14 (fun _ hk=>(by cases hk)),?_⟩
   replace KK:=Kept.put KK P14 (fun _ hk=>(by cases hk))
   have W14:Grow w w14:=W13.put P14 g_b11
   replace B2:=B2.put (St.nat _) P14 E14 n_b2_b11
   replace B3:=B3.put (St.nat _) P14 E14 n_b3_b11
   replace B4:=B4.put (St.nat _) P14 E14 n_b4_b11
   replace B5:=B5.put (St.nat _) P14 E14 n_b5_b11
   replace B11:=B';clear B'
   replace hb:=MR.put hb (St.nat _) E14
   change wpListS _ _ _ _ [_] ⟨_,[]⟩ _
   refine wpListS_yld rfl ?_
   refine yld_assign rfl ⟨fun _=>KK,?_⟩
   refine wpListS_nil ?_
   change Code.wp _ _ _ ⟨List.toArray (List.set _ 12 _),[]⟩ _
   refine wp_seq ?_
   refine rg (fun c d v a w h=>NL c d v a w h) [(54,.nat (x)),(55,.eq (.int .i64 (((s:Nat):Int)))),(56,.tup2 (.nat (x*2^s)) (.eq (.bool (true)))),(53,.tup2 (.nat (x*2^s)) (.eq (.bool (true)))),(57,.nat (x*2^s)),(58,.eq (.bool (true))),(13,.ptr 43 (.nat (0)))] [6] [5] [] 148 7 ?_ ?_
   ·refine so [] (fun w15 hw15=>.fin (yld_loadBox rfl rfl aggNat (B2.grow hw15) (shNat _))) ?_
    refine so [] (fun w15 hw15=>.fin (yld_move rfl ⟨Grow.refl _,rfl⟩)) ?_
    refine so [0,1] (fun w15 hw15=>by rintro v54 h54 _ rfl;exact .fin (yld_call rfl cal_nat_Nat_Shl rfl (cShl (k:=s) h54 hs64 hSx))) ?_
    refine so [2] (fun w15 hw15=>by rintro _ ⟨x56_0,x56_1,rfl,hx56_0,hx56_1⟩;exact .fin (yld_move rfl ⟨Grow.refl _,⟨x56_0,x56_1,rfl,hx56_0,hx56_1⟩⟩)) ?_
    refine so [3] (fun w15 hw15=>by rintro _ ⟨x53_0,x53_1,rfl,hx53_0,hx53_1⟩;exact .fin (yld_extract rfl rfl rfl ⟨Grow.refl _,hx53_0⟩)) ?_
    refine sl [3] (fun w15 hw15=>by rintro _ ⟨x53_0,x53_1,rfl,hx53_0,hx53_1⟩;exact .fin (⟨_,fun w2 _=>pure_extract rfl rfl rfl w2,hx53_1⟩)) ?_
    exact sn [] (fun w15 hw15=>.fin (yld_newAlloc rfl zeroNat zNat)) (.nil _ _)
   rintro w15 hw15 v54-v55-v56-v53-v57 h57 _ rfl _ ⟨b13,rfl,B13⟩ hN
   have W15:Grow w w15:=W14.trans hw15
   have g_b13:w.heap.size≤b13:=Nat.le_trans W14.size hN.1.1
   have n_b2_b13:b2≠b13:=Nat.ne_of_lt (Nat.lt_of_lt_of_le B2.lt hN.1.1)
   have n_b3_b13:b3≠b13:=Nat.ne_of_lt (Nat.lt_of_lt_of_le B3.lt hN.1.1)
   have n_b4_b13:b4≠b13:=Nat.ne_of_lt (Nat.lt_of_lt_of_le B4.lt hN.1.1)
   have n_b5_b13:b5≠b13:=Nat.ne_of_lt (Nat.lt_of_lt_of_le B5.lt hN.1.1)
   have n_b11_b13:b11≠b13:=Nat.ne_of_lt (Nat.lt_of_lt_of_le B11.lt hN.1.1)
   clear hN
   replace B2:=B2.grow hw15
   replace B3:=B3.grow hw15
   replace B4:=B4.grow hw15
   replace B5:=B5.grow hw15
   replace B11:=B11.grow hw15
   replace hb:=MR.mono _ hw15 hb
   have KK:Kept [] w15 w15:=fun _ _=>rfl
   refine fr ([va,vb,pt b2,pt b3,pt b4,pt b5,.bool (false),u,u,u,It s,pt b11,.bool (true),pt b13,u,u,u,u,u,v19,v20,.bool (decide ((((nw y:Nat):Int):Int)≤(1:Int))),u,u,u,u,u,u,u,u,u,u,u,u,u,v35,v36,v37,.bool (decide ((cmpV ((x:Nat)) ((y:Nat)):Int)<(0:Int))),u,u,v41,v42,v43,v44,v45,v46,v47,v48,v49,v50,v51,.bool (true),v53,v54,v55,v56,v57,.bool (true)]++us 89) ?_
   change wpListS _ _ _ _ [_,_] ⟨_,[]⟩ _
   refine wpListS_yld rfl ?_
   refine yld_storeBox (R':=.nat (x*2^s)) (b:=b13) rfl rfl aggNat.size B13 (shNat _) h57 (shNat _) (St.nat _) (by decide) g_b13 fun w16 P16 E16 B'=>⟨fun _=>Kept.put KK P16 (fun _ hk=>(by cases hk)),?_⟩
   replace KK:=Kept.put KK P16 (fun _ hk=>(by cases hk))
   have W16:Grow w w16:=W15.put P16 g_b13
   replace B2:=B2.put (St.nat _) P16 E16 n_b2_b13
   replace B3:=B3.put (St.nat _) P16 E16 n_b3_b13
   replace B4:=B4.put (St.nat _) P16 E16 n_b4_b13
   replace B5:=B5.put (St.nat _) P16 E16 n_b5_b13
   replace B11:=B11.put (St.nat _) P16 E16 n_b11_b13
   replace B13:=B';clear B'
   replace hb:=MR.put hb (St.nat _) E16
   change wpListS _ _ _ _ [_] ⟨_,[]⟩ _
   refine wpListS_yld rfl ?_
   refine yld_assign rfl ⟨fun _=>KK,?_⟩
   refine wpListS_nil ?_
   change Code.wp _ _ _ ⟨List.toArray (List.set _ 14 _),[]⟩ _
   refine wp_seq ?_
   have C2:=B2
   have lt_b2:=B2.lt
   have C3:=B3
   have lt_b3:=B3.lt
   have C4:=B4
   have lt_b4:=B4.lt
   have C5:=B5
   have lt_b5:=B5.lt
   have C11:=B11
   have lt_b11:=B11.lt
   have C13:=B13
   have lt_b13:=B13.lt
   refine rg (fun c d v a w h=>NL c d v a w h) [(59,.nat (x*2^s)),(60,.own w16.heap.size (wd (x*2^s)) (nw (x*2^s))),(61,.lits ([0,0])),(62,.own w16.heap.size (wd (x*2^s)) (nw (x*2^s)+2)),(63,.nat (x)),(64,.eq (.int .i64 (((nw x:Nat):Int)))),(65,.eq (.int .i64 (((nw x+1:Nat):Int)))),(66,.own w16.heap.size (wd (x*2^s)) (nw x+1)),(15,.own w16.heap.size (wd (x*2^s)) (nw x+1))] [] [] [] 148 9 ?_ ?_
   ·refine so [] (fun w17 hw17=>.fin (yld_loadBox rfl rfl aggNat (B13.grow hw17) (shNat _))) ?_
    refine so [0] (fun w17 hw17=>by rintro v59 h59;exact .fin (yld_call rfl cal_nat_Nat_Words rfl (cWords0 h59 zo zo hw17.size))) ?_
    refine so [] (fun w17 hw17=>.fin (yld_lit00 rfl rfl rfl)) ?_
    refine so [1,2] (fun w17 hw17=>by rintro v60 h60 v61 h61;exact .fin (yld_append_zeros rfl h60 h61 zo zo hw17.size (fun i hi=>wd_high _ i hi) rfl)) ?_
    refine so [] (fun w17 hw17=>.fin (yld_loadBox rfl rfl aggNat (B2.grow hw17) (shNat _))) ?_
    refine so [4] (fun w17 hw17=>by rintro v63 h63;exact .fin (yld_call rfl cal_nat_Nat_Len rfl (cNatLen h63))) ?_
    refine so [5] (fun w17 hw17=>by rintro _ rfl;exact .fin (yld_add rfl rfl rfl (r:=((nw x+1:Nat):Int)) (by rw[IntKind.wrap_i64];omega) ⟨Grow.refl _,rfl⟩)) ?_
    refine so [3,6] (fun w17 hw17=>by rintro v62 h62 _ rfl;exact .fin (yld_sliceO (m:=nw x+1) rfl h62 rfl rfl zo zo)) ?_
    exact so [7] (fun w17 hw17=>by rintro v66 h66;exact .fin (yld_assign rfl ⟨Grow.refl _,h66⟩)) (.nil _ _)
   rintro w17 hw17 v59-v60-v61-v62-v63-v64-v65-v66-v15 h15-
   have W17:Grow w w17:=W16.trans hw17
   replace B2:=B2.grow hw17
   replace B3:=B3.grow hw17
   replace B4:=B4.grow hw17
   replace B5:=B5.grow hw17
   replace B11:=B11.grow hw17
   replace B13:=B13.grow hw17
   replace hb:=MR.mono _ hw17 hb
   obtain⟨ru,cu,rfl,gBu,hcu,hcmu,Ru⟩:=h15
   have g_ru:w.heap.size≤ru:=Nat.le_trans W16.size gBu
   have n_b2_ru:b2≠ru:=Nat.ne_of_lt (Nat.lt_of_lt_of_le lt_b2 gBu)
   have n_b3_ru:b3≠ru:=Nat.ne_of_lt (Nat.lt_of_lt_of_le lt_b3 gBu)
   have n_b4_ru:b4≠ru:=Nat.ne_of_lt (Nat.lt_of_lt_of_le lt_b4 gBu)
   have n_b5_ru:b5≠ru:=Nat.ne_of_lt (Nat.lt_of_lt_of_le lt_b5 gBu)
   have n_b11_ru:b11≠ru:=Nat.ne_of_lt (Nat.lt_of_lt_of_le lt_b11 gBu)
   have n_b13_ru:b13≠ru:=Nat.ne_of_lt (Nat.lt_of_lt_of_le lt_b13 gBu)
   refine fr ((va::vb::pt b2::pt b3::pt b4::pt b5::.bool (false)::u::u::u::It s::pt b11::.bool (true)::pt b13::.bool (true)::.slice (some ⟨ru,0,none⟩) (nw x+1) (cu)::u::u::u::v19::v20::.bool (decide ((((nw y:Nat):Int):Int)≤(1:Int)))::u::u::u::u::u::u::u::u::u::u::u::u::u::v35::v36::v37::.bool (decide ((cmpV ((x:Nat)) ((y:Nat)):Int)<(0:Int)))::u::u::v41::v42::v43::v44::v45::v46::v47::v48::v49::v50::v51::.bool (true)::v53::v54::v55::v56::v57::.bool (true)::v59::v60::v61::v62::v63::v64::v65::v66::[])++us 81) ?_
   refine nx ?_
   refine wp_seq ?_
   refine rg (fun c d v a w h=>NL c d v a w h) [(67,.nat (y*2^s)),(68,.eq (.int .i64 (((nw (y*2^s):Nat):Int)))),(16,.eq (.int .i64 (((nw (y*2^s):Nat):Int))))] [] [] [] 148 3 ?_ ?_
   ·refine so [] (fun w18 hw18=>.fin (yld_loadBox rfl rfl aggNat (B11.grow hw18) (shNat _))) ?_
    refine so [0] (fun w18 hw18=>by rintro v67 h67;exact .fin (yld_call rfl cal_nat_Nat_Len rfl (cNatLen h67))) ?_
    exact so [1] (fun w18 hw18=>by rintro _ rfl;exact .fin (yld_assign rfl ⟨Grow.refl _,rfl⟩)) (.nil _ _)
   rintro w18 hw18 v67-v68-_ rfl-
   have W18:Grow w w18:=W17.trans hw18
   replace B2:=B2.grow hw18
   replace B3:=B3.grow hw18
   replace B4:=B4.grow hw18
   replace B5:=B5.grow hw18
   replace B11:=B11.grow hw18
   replace B13:=B13.grow hw18
   replace Ru:=Ru.below hw18
   replace hb:=MR.mono _ hw18 hb
   refine fr ((va::vb::pt b2::pt b3::pt b4::pt b5::.bool (false)::u::u::u::It s::pt b11::.bool (true)::pt b13::.bool (true)::.slice (some ⟨ru,0,none⟩) (nw x+1) (cu)::It (nw (y*2^s))::u::u::v19::v20::.bool (decide ((((nw y:Nat):Int):Int)≤(1:Int)))::u::u::u::u::u::u::u::u::u::u::u::u::u::v35::v36::v37::.bool (decide ((cmpV ((x:Nat)) ((y:Nat)):Int)<(0:Int)))::u::u::v41::v42::v43::v44::v45::v46::v47::v48::v49::v50::v51::.bool (true)::v53::v54::v55::v56::v57::.bool (true)::v59::v60::v61::v62::v63::v64::v65::v66::v67::v68::[])++us 79) ?_
   refine nx ?_
   refine wp_seq ?_
   have lt_ru:=Ru.lt
   have lt2_b2:=B2.lt
   have lt2_b3:=B3.lt
   have lt2_b4:=B4.lt
   have lt2_b5:=B5.lt
   have lt2_b11:=B11.lt
   have lt2_b13:=B13.lt
   refine rg (fun c d v a w h=>NL c d v a w h) [(69,.nat (x)),(70,.eq (.int .i64 (((nw x:Nat):Int)))),(71,.eq (.int .i64 (((nw (y*2^s):Nat):Int)))),(72,.eq (.int .i64 (((nw x-nw (y*2^s):Nat):Int)))),(73,.eq (.int .i64 (((nw x-nw (y*2^s)+1:Nat):Int)))),(74,.own w18.heap.size (fun _=>0) (nw x-nw (y*2^s)+1)),(17,.own w18.heap.size (fun _=>0) (nw x-nw (y*2^s)+1))] [] [] [] 148 7 ?_ ?_
   ·refine so [] (fun w19 hw19=>.fin (yld_loadBox rfl rfl aggNat (B2.grow hw19) (shNat _))) ?_
    refine so [0] (fun w19 hw19=>by rintro v69 h69;exact .fin (yld_call rfl cal_nat_Nat_Len rfl (cNatLen h69))) ?_
    refine so [] (fun w19 hw19=>.fin (yld_move rfl ⟨Grow.refl _,rfl⟩)) ?_
    refine so [1,2] (fun w19 hw19=>by rintro _ rfl _ rfl;exact .fin (yld_sub rfl rfl rfl (r:=((nw x-nw (y*2^s):Nat):Int)) (by rw[IntKind.wrap_i64];omega) ⟨Grow.refl _,rfl⟩)) ?_
    refine so [3] (fun w19 hw19=>by rintro _ rfl;exact .fin (yld_add rfl rfl rfl (r:=((nw x-nw (y*2^s)+1:Nat):Int)) (by rw[IntKind.wrap_i64];omega) ⟨Grow.refl _,rfl⟩)) ?_
    refine so [4] (fun w19 hw19=>by rintro _ rfl;exact .fin (yld_makeO rfl rfl rfl zo hw19.size)) ?_
    exact so [5] (fun w19 hw19=>by rintro v74 h74;exact .fin (yld_assign rfl ⟨Grow.refl _,h74⟩)) (.nil _ _)
   rintro w19 hw19 v69-v70-v71-v72-v73-v74-v17 h17-
   have W19:Grow w w19:=W18.trans hw19
   replace B2:=B2.grow hw19
   replace B3:=B3.grow hw19
   replace B4:=B4.grow hw19
   replace B5:=B5.grow hw19
   replace B11:=B11.grow hw19
   replace B13:=B13.grow hw19
   replace Ru:=Ru.below hw19
   replace hb:=MR.mono _ hw19 hb
   obtain⟨rq,cq,rfl,gBq,hcq,hcmq,Rq⟩:=h17
   have g_rq:w.heap.size≤rq:=Nat.le_trans W18.size gBq
   have n_ru_rq:ru≠rq:=Nat.ne_of_lt (Nat.lt_of_lt_of_le lt_ru gBq)
   have G9:Grow w16 w19:=Grow.trans (Grow.trans (hw17) hw18) hw19
   have G11:Grow w16 w18:=Grow.trans (hw17) hw18
   have n_b2_rq:b2≠rq:=Nat.ne_of_lt (Nat.lt_of_lt_of_le lt2_b2 gBq)
   replace B2:=(Box.natF (F:=fun k=>k=ru∨k=rq) C2 (by rintro k (rfl | rfl);exact gBu;exact Nat.le_trans G11.size gBq)).grow G9
   have n_b3_rq:b3≠rq:=Nat.ne_of_lt (Nat.lt_of_lt_of_le lt2_b3 gBq)
   replace B3:=(Box.natF (F:=fun k=>k=ru∨k=rq) C3 (by rintro k (rfl | rfl);exact gBu;exact Nat.le_trans G11.size gBq)).grow G9
   have n_b4_rq:b4≠rq:=Nat.ne_of_lt (Nat.lt_of_lt_of_le lt2_b4 gBq)
   replace B4:=(Box.natF (F:=fun k=>k=ru∨k=rq) C4 (by rintro k (rfl | rfl);exact gBu;exact Nat.le_trans G11.size gBq)).grow G9
   have n_b5_rq:b5≠rq:=Nat.ne_of_lt (Nat.lt_of_lt_of_le lt2_b5 gBq)
   replace B5:=(Box.natF (F:=fun k=>k=ru∨k=rq) C5 (by rintro k (rfl | rfl);exact gBu;exact Nat.le_trans G11.size gBq)).grow G9
   have n_b11_rq:b11≠rq:=Nat.ne_of_lt (Nat.lt_of_lt_of_le lt2_b11 gBq)
   replace B11:=(Box.natF (F:=fun k=>k=ru∨k=rq) C11 (by rintro k (rfl | rfl);exact gBu;exact Nat.le_trans G11.size gBq)).grow G9
   have n_b13_rq:b13≠rq:=Nat.ne_of_lt (Nat.lt_of_lt_of_le lt2_b13 gBq)
   replace B13:=(Box.natF (F:=fun k=>k=ru∨k=rq) C13 (by rintro k (rfl | rfl);exact gBu;exact Nat.le_trans G11.size gBq)).grow G9
   clear C2 C3 C4 C5 C11 C13
   refine fr ((va::vb::pt b2::pt b3::pt b4::pt b5::.bool (false)::u::u::u::It s::pt b11::.bool (true)::pt b13::.bool (true)::.slice (some ⟨ru,0,none⟩) (nw x+1) (cu)::It (nw (y*2^s))::.slice (some ⟨rq,0,none⟩) (nw x-nw (y*2^s)+1) (cq)::u::v19::v20::.bool (decide ((((nw y:Nat):Int):Int)≤(1:Int)))::u::u::u::u::u::u::u::u::u::u::u::u::u::v35::v36::v37::.bool (decide ((cmpV ((x:Nat)) ((y:Nat)):Int)<(0:Int)))::u::u::v41::v42::v43::v44::v45::v46::v47::v48::v49::v50::v51::.bool (true)::v53::v54::v55::v56::v57::.bool (true)::v59::v60::v61::v62::v63::v64::v65::v66::v67::v68::v69::v70::v71::v72::v73::v74::[])++us 73) ?_
   refine nx ?_
   refine wp_seq ?_
   refine wp_seq ?_
   refine rg (fun c d v a w h=>NL c d v a w h) [(75,.eq (.slice (some ⟨rq,0,none⟩) (nw x-nw (y*2^s)+1) (cq))),(76,.eq (.int .i64 (((nw x-nw (y*2^s)+1:Nat):Int)))),(77,.eq (.int .i64 ((((nw x-nw (y*2^s)+1:Nat):Int))-1))),(18,.eq (.int .i64 ((((nw x-nw (y*2^s)+1:Nat):Int))-1)))] [] [] [] 148 4 ?_ ?_
   ·refine so [] (fun w20 hw20=>.fin (yld_move rfl ⟨Grow.refl _,rfl⟩)) ?_
    refine so [0] (fun w20 hw20=>by rintro _ rfl;exact .fin (yld_lenE rfl rfl)) ?_
    refine so [1] (fun w20 hw20=>by rintro _ rfl;exact .fin (yld_sub rfl rfl rfl (r:=(((nw x-nw (y*2^s)+1:Nat):Int))-1) (by rw[IntKind.wrap_i64];omega) ⟨Grow.refl _,rfl⟩)) ?_
    exact so [2] (fun w20 hw20=>by rintro _ rfl;exact .fin (yld_assign rfl ⟨Grow.refl _,rfl⟩)) (.nil _ _)
   rintro w20 hw20 v75-v76-v77-_ rfl-
   have W20:Grow w w20:=W19.trans hw20
   replace B2:=B2.grow hw20
   replace B3:=B3.grow hw20
   replace B4:=B4.grow hw20
   replace B5:=B5.grow hw20
   replace B11:=B11.grow hw20
   replace B13:=B13.grow hw20
   replace Ru:=Ru.below hw20
   replace Rq:=Rq.below hw20
   refine fr ((va::vb::pt b2::pt b3::pt b4::pt b5::.bool (false)::u::u::u::It s::pt b11::.bool (true)::pt b13::.bool (true)::.slice (some ⟨ru,0,none⟩) (nw x+1) (cu)::It (nw (y*2^s))::.slice (some ⟨rq,0,none⟩) (nw x-nw (y*2^s)+1) (cq)::.int .i64 ((((nw x-nw (y*2^s)+1:Nat):Int))-1)::v19::v20::.bool (decide ((((nw y:Nat):Int):Int)≤(1:Int)))::u::u::u::u::u::u::u::u::u::u::u::u::u::v35::v36::v37::.bool (decide ((cmpV ((x:Nat)) ((y:Nat)):Int)<(0:Int)))::u::u::v41::v42::v43::v44::v45::v46::v47::v48::v49::v50::v51::.bool (true)::v53::v54::v55::v56::v57::.bool (true)::v59::v60::v61::v62::v63::v64::v65::v66::v67::v68::v69::v70::v71::v72::v73::v74::v75::v76::v77::[])++us 70) ?_
   refine nx ?_
   refine wp_block ?_
   refine wp_loop_ghost (fun nn ac21 w21=>∃(j:Nat) (fu:Nat→Nat) (fq:Nat→Nat),nn=j∧(j≤nw x-nw (y*2^s)+1∧DInv (x*2^s) (y*2^s) (nw x+1) (nw x-nw (y*2^s)+1) j fu fq)∧∃tt21:Nat→Value,ac21=⟨List.toArray ((va::vb::pt b2::pt b3::pt b4::pt b5::.bool (false)::u::u::u::It s::pt b11::.bool (true)::pt b13::.bool (true)::.slice (some ⟨ru,0,none⟩) (nw x+1) (cu)::It (nw (y*2^s))::.slice (some ⟨rq,0,none⟩) (nw x-nw (y*2^s)+1) (cq)::.int .i64 (((j:Nat):Int)-1)::v19::v20::.bool (decide ((((nw y:Nat):Int):Int)≤(1:Int)))::u::u::u::u::u::u::u::u::u::u::u::u::u::v35::v36::v37::.bool (decide ((cmpV ((x:Nat)) ((y:Nat)):Int)<(0:Int)))::u::u::v41::v42::v43::v44::v45::v46::v47::v48::v49::v50::v51::.bool (true)::v53::v54::v55::v56::v57::.bool (true)::v59::v60::v61::v62::v63::v64::v65::v66::v67::v68::v69::v70::v71::v72::v73::v74::v75::v76::v77::(tt21 78)::(tt21 79)::(tt21 80)::(tt21 81)::(tt21 82)::(tt21 83)::(tt21 84)::(tt21 85)::(tt21 86)::(tt21 87)::(tt21 88)::(tt21 89)::(tt21 90)::(tt21 91)::(tt21 92)::(tt21 93)::(tt21 94)::(tt21 95)::(tt21 96)::(tt21 97)::(tt21 98)::(tt21 99)::(tt21 100)::(tt21 101)::(tt21 102)::(tt21 103)::(tt21 104)::(tt21 105)::(tt21 106)::(tt21 107)::(tt21 108)::(tt21 109)::(tt21 110)::(tt21 111)::(tt21 112)::(tt21 113)::(tt21 114)::(tt21 115)::(tt21 116)::(tt21 117)::(tt21 118)::(tt21 119)::(tt21 120)::(tt21 121)::(tt21 122)::(tt21 123)::(tt21 124)::(tt21 125)::(tt21 126)::(tt21 127)::(tt21 128)::(tt21 129)::(tt21 130)::(tt21 131)::(tt21 132)::(tt21 133)::(tt21 134)::(tt21 135)::(tt21 136)::(tt21 137)::(tt21 138)::(tt21 139)::(tt21 140)::(tt21 141)::[])++us 6),[]⟩∧Grow w w21∧Box w21 b2 43 (.natF (fun k=>k=ru∨k=rq) (x))∧Box w21 b3 43 (.natF (fun k=>k=ru∨k=rq) (y))∧Box w21 b4 43 (.natF (fun k=>k=ru∨k=rq) (0))∧Box w21 b5 43 (.natF (fun k=>k=ru∨k=rq) (0))∧Box w21 b11 43 (.natF (fun k=>k=ru∨k=rq) (y*2^s))∧Box w21 b13 43 (.natF (fun k=>k=ru∨k=rq) (x*2^s))∧Blk w21 ru 145 (wa (fu) (cu))∧Blk w21 rq 145 (wa (fq) (cq))) (nw x-nw (y*2^s)+1) ⟨nw x-nw (y*2^s)+1,wd (x*2^s),fun _=>0,rfl,⟨Nat.le_refl _,d_start hNx1 zo hy0⟩,fun d=>((.int .i64 ((((nw x-nw (y*2^s)+1:Nat):Int))-1)::v19::v20::.bool (decide ((((nw y:Nat):Int):Int)≤(1:Int)))::u::u::u::u::u::u::u::u::u::u::u::u::u::v35::v36::v37::.bool (decide ((cmpV ((x:Nat)) ((y:Nat)):Int)<(0:Int)))::u::u::v41::v42::v43::v44::v45::v46::v47::v48::v49::v50::v51::.bool (true)::v53::v54::v55::v56::v57::.bool (true)::v59::v60::v61::v62::v63::v64::v65::v66::v67::v68::v69::v70::v71::v72::v73::v74::v75::v76::v77::u::u::u::u::u::u::u::u::u::u::u::u::u::u::u::u::u::u::u::u::u::u::u::u::u::u::u::u::u::u::u::u::u::u::u::u::u::u::u::u::u::u::u::u::u::u::u::u::u::u::u::u::u::u::u::u::u::u::u::u::u::u::u::u::[]):List Value).getD (d-18) undef,by kernel_rfl,W20,B2,B3,B4,B5,B11,B13,Ru,Rq⟩ ?_
   clear B2 B3 B4 B5 B11 B13 Ru Rq
   rintro nn21 _ w21 ⟨j,fu,fq,hnn21,⟨hj,hD⟩,tt21,rfl,W21,B2,B3,B4,B5,B11,B13,Ru,Rq⟩
   refine wp_seq ?_
   refine wp_seq ?_
   refine rg (fun c d v a w h=>NL c d v a w h) [(78,.eq (.int .i64 (((j:Nat):Int)-1))),(79,.eq (.bool (decide ((((j:Nat):Int)-1:Int)≥(0:Int)))))] [] [] [] 148 2 ?_ ?_
   ·refine so [] (fun w22 hw22=>.fin (yld_move rfl ⟨Grow.refl _,rfl⟩)) ?_
    exact so [0] (fun w22 hw22=>by rintro _ rfl;exact .fin (yld_geq rfl rfl rfl ⟨Grow.refl _,rfl⟩)) (.nil _ _)
   rintro w22 hw22 v78-_ rfl-
   have W22:Grow w w22:=W21.trans hw22
   replace B2:=B2.grow hw22
   replace B3:=B3.grow hw22
   replace B4:=B4.grow hw22
   replace B5:=B5.grow hw22
   replace B11:=B11.grow hw22
   replace B13:=B13.grow hw22
   replace Ru:=Ru.below hw22
   replace Rq:=Rq.below hw22
   refine fr ((va::vb::pt b2::pt b3::pt b4::pt b5::.bool (false)::u::u::u::It s::pt b11::.bool (true)::pt b13::.bool (true)::.slice (some ⟨ru,0,none⟩) (nw x+1) (cu)::It (nw (y*2^s))::.slice (some ⟨rq,0,none⟩) (nw x-nw (y*2^s)+1) (cq)::.int .i64 (((j:Nat):Int)-1)::v19::v20::.bool (decide ((((nw y:Nat):Int):Int)≤(1:Int)))::u::u::u::u::u::u::u::u::u::u::u::u::u::v35::v36::v37::.bool (decide ((cmpV ((x:Nat)) ((y:Nat)):Int)<(0:Int)))::u::u::v41::v42::v43::v44::v45::v46::v47::v48::v49::v50::v51::.bool (true)::v53::v54::v55::v56::v57::.bool (true)::v59::v60::v61::v62::v63::v64::v65::v66::v67::v68::v69::v70::v71::v72::v73::v74::v75::v76::v77::v78::.bool (decide ((((j:Nat):Int)-1:Int)≥(0:Int)))::(tt21 80)::(tt21 81)::(tt21 82)::(tt21 83)::(tt21 84)::(tt21 85)::(tt21 86)::(tt21 87)::(tt21 88)::(tt21 89)::(tt21 90)::(tt21 91)::(tt21 92)::(tt21 93)::(tt21 94)::(tt21 95)::(tt21 96)::(tt21 97)::(tt21 98)::(tt21 99)::(tt21 100)::(tt21 101)::(tt21 102)::(tt21 103)::(tt21 104)::(tt21 105)::(tt21 106)::(tt21 107)::(tt21 108)::(tt21 109)::(tt21 110)::(tt21 111)::(tt21 112)::(tt21 113)::(tt21 114)::(tt21 115)::(tt21 116)::(tt21 117)::(tt21 118)::(tt21 119)::(tt21 120)::(tt21 121)::(tt21 122)::(tt21 123)::(tt21 124)::(tt21 125)::(tt21 126)::(tt21 127)::(tt21 128)::(tt21 129)::(tt21 130)::(tt21 131)::(tt21 132)::(tt21 133)::(tt21 134)::(tt21 135)::(tt21 136)::(tt21 137)::(tt21 138)::(tt21 139)::(tt21 140)::(tt21 141)::[])++us 6) ?_
   refine nx ?_
   refine wp_cond_split (t:=decide ((((j:Nat):Int)-1:Int)≥(0:Int))) rfl (fun hge=>?_) (fun hge=>?_)
   ·have hj0:0<j:=by have:=of_decide_eq_true hge;omega
    have hD1:DInv (x*2^s) (y*2^s) (nw x+1) (nw x-nw (y*2^s)+1) (j-1+1) fu fq:=by rw[Nat.sub_add_cancel hj0];exact hD
    have hkN:j-1+nw (y*2^s)<nw x+1:=by omega
    have hkQ:j-1<nw x-nw (y*2^s)+1:=by omega
    obtain⟨hg1,hg2⟩:=d_guess rfl h2V hkN hD1
    refine wp_skip ?_
    change Code.wp _ _ _ ⟨_,[]⟩ _
    refine wp_seq ?_
    refine wp_block ?_
    refine wp_seq ?_
    refine rg (fun c d v a w h=>NL c d v a w h) [(82,.eq (.slice (some ⟨rq,0,none⟩) (nw x-nw (y*2^s)+1) (cq))),(83,.eq (.int .i64 (((j:Nat):Int)-1))),(84,.eq (.slice (some ⟨ru,0,none⟩) (nw x+1) (cu))),(85,.eq (.int .i64 (((j:Nat):Int)-1))),(86,.eq (.int .i64 (((nw (y*2^s):Nat):Int)))),(87,.eq (.int .i64 ((((j:Nat):Int)-1)+(((nw (y*2^s):Nat):Int))))),(88,.eq (.pointer (some ⟨ru,(j-1+nw (y*2^s)),none⟩))),(89,.eq (.int .u64 (((fu ((j-1+nw (y*2^s))):Nat):Int)))),(90,.eq (.slice (some ⟨ru,0,none⟩) (nw x+1) (cu))),(91,.eq (.int .i64 (((j:Nat):Int)-1))),(92,.eq (.int .i64 (((nw (y*2^s):Nat):Int)))),(93,.eq (.int .i64 ((((j:Nat):Int)-1)+(((nw (y*2^s):Nat):Int))))),(94,.eq (.int .i64 (((((j:Nat):Int)-1)+(((nw (y*2^s):Nat):Int)))-1))),(95,.eq (.pointer (some ⟨ru,(j-1+nw (y*2^s)-1),none⟩))),(96,.eq (.int .u64 (((fu ((j-1+nw (y*2^s)-1)):Nat):Int)))),(97,.eq (.slice (some ⟨ru,0,none⟩) (nw x+1) (cu))),(98,.eq (.int .i64 (((j:Nat):Int)-1))),(99,.eq (.int .i64 (((nw (y*2^s):Nat):Int)))),(100,.eq (.int .i64 ((((j:Nat):Int)-1)+(((nw (y*2^s):Nat):Int))))),(101,.eq (.int .i64 (((((j:Nat):Int)-1)+(((nw (y*2^s):Nat):Int)))-2))),(102,.eq (.pointer (some ⟨ru,(j-1+nw (y*2^s)-2),none⟩))),(103,.eq (.int .u64 (((fu ((j-1+nw (y*2^s)-2)):Nat):Int)))),(104,.natF (fun k=>k=ru∨k=rq) (y*2^s)),(105,.eq (.int .i64 (((nw (y*2^s):Nat):Int)))),(106,.eq (.int .i64 (((nw (y*2^s)-1:Nat):Int)))),(107,.eq (.int .u64 (((wd (y*2^s) (nw (y*2^s)-1):Nat):Int)))),(108,.natF (fun k=>k=ru∨k=rq) (y*2^s)),(109,.eq (.int .i64 (((nw (y*2^s):Nat):Int)))),(110,.eq (.int .i64 (((nw (y*2^s)-2:Nat):Int)))),(111,.eq (.int .u64 (((wd (y*2^s) (nw (y*2^s)-2):Nat):Int)))),(112,.eq (.int .u64 (((dq fu (y*2^s) (j-1) (nw (y*2^s)):Nat):Int)))),(113,.eq (.pointer (some ⟨rq,(j-1),none⟩)))] [] [] [] 148 32 ?_ ?_
    ·refine so [] (fun w23 hw23=>.fin (yld_move rfl ⟨Grow.refl _,rfl⟩)) ?_
     refine so [] (fun w23 hw23=>.fin (yld_move rfl ⟨Grow.refl _,rfl⟩)) ?_
     refine so [] (fun w23 hw23=>.fin (yld_move rfl ⟨Grow.refl _,rfl⟩)) ?_
     refine so [] (fun w23 hw23=>.fin (yld_move rfl ⟨Grow.refl _,rfl⟩)) ?_
     refine so [] (fun w23 hw23=>.fin (yld_move rfl ⟨Grow.refl _,rfl⟩)) ?_
     refine so [3,4] (fun w23 hw23=>by rintro _ rfl _ rfl;exact .fin (yld_add rfl rfl rfl (r:=(((j:Nat):Int)-1)+(((nw (y*2^s):Nat):Int))) (by rw[IntKind.wrap_i64];omega) ⟨Grow.refl _,rfl⟩)) ?_
     refine so [2,5] (fun w23 hw23=>by rintro _ rfl _ rfl;exact .fin (yld_indexE (k:=j-1+nw (y*2^s)) rfl rfl rfl zo zo (j:=(j-1+nw (y*2^s))) zo)) ?_
     refine so [6] (fun w23 hw23=>by rintro _ rfl;exact .fin (yld_loadE rfl rfl (Ru.below hw23) zo)) ?_
     refine so [] (fun w23 hw23=>.fin (yld_move rfl ⟨Grow.refl _,rfl⟩)) ?_
     refine so [] (fun w23 hw23=>.fin (yld_move rfl ⟨Grow.refl _,rfl⟩)) ?_
     refine so [] (fun w23 hw23=>.fin (yld_move rfl ⟨Grow.refl _,rfl⟩)) ?_
     refine so [9,10] (fun w23 hw23=>by rintro _ rfl _ rfl;exact .fin (yld_add rfl rfl rfl (r:=(((j:Nat):Int)-1)+(((nw (y*2^s):Nat):Int))) (by rw[IntKind.wrap_i64];omega) ⟨Grow.refl _,rfl⟩)) ?_
     refine so [11] (fun w23 hw23=>by rintro _ rfl;exact .fin (yld_sub rfl rfl rfl (r:=((((j:Nat):Int)-1)+(((nw (y*2^s):Nat):Int)))-1) (by rw[IntKind.wrap_i64];omega) ⟨Grow.refl _,rfl⟩)) ?_
     refine so [8,12] (fun w23 hw23=>by rintro _ rfl _ rfl;exact .fin (yld_indexE (k:=j-1+nw (y*2^s)-1) rfl rfl rfl zo zo (j:=(j-1+nw (y*2^s)-1)) zo)) ?_
     refine so [13] (fun w23 hw23=>by rintro _ rfl;exact .fin (yld_loadE rfl rfl (Ru.below hw23) zo)) ?_
     refine so [] (fun w23 hw23=>.fin (yld_move rfl ⟨Grow.refl _,rfl⟩)) ?_
     refine so [] (fun w23 hw23=>.fin (yld_move rfl ⟨Grow.refl _,rfl⟩)) ?_
     refine so [] (fun w23 hw23=>.fin (yld_move rfl ⟨Grow.refl _,rfl⟩)) ?_
     refine so [16,17] (fun w23 hw23=>by rintro _ rfl _ rfl;exact .fin (yld_add rfl rfl rfl (r:=(((j:Nat):Int)-1)+(((nw (y*2^s):Nat):Int))) (by rw[IntKind.wrap_i64];omega) ⟨Grow.refl _,rfl⟩)) ?_
     refine so [18] (fun w23 hw23=>by rintro _ rfl;exact .fin (yld_sub rfl rfl rfl (r:=((((j:Nat):Int)-1)+(((nw (y*2^s):Nat):Int)))-2) (by rw[IntKind.wrap_i64];omega) ⟨Grow.refl _,rfl⟩)) ?_
     refine so [15,19] (fun w23 hw23=>by rintro _ rfl _ rfl;exact .fin (yld_indexE (k:=j-1+nw (y*2^s)-2) rfl rfl rfl zo zo (j:=(j-1+nw (y*2^s)-2)) zo)) ?_
     refine so [20] (fun w23 hw23=>by rintro _ rfl;exact .fin (yld_loadE rfl rfl (Ru.below hw23) zo)) ?_
     refine so [] (fun w23 hw23=>.fin (yld_loadBox rfl rfl aggNat (B11.grow hw23) (shNatF))) ?_
     refine so [] (fun w23 hw23=>.fin (yld_move rfl ⟨Grow.refl _,rfl⟩)) ?_
     refine so [23] (fun w23 hw23=>by rintro _ rfl;exact .fin (yld_sub rfl rfl rfl (r:=((nw (y*2^s)-1:Nat):Int)) (by rw[IntKind.wrap_i64];omega) ⟨Grow.refl _,rfl⟩)) ?_
     refine so [22,24] (fun w23 hw23=>by rintro v104 h104 _ rfl;exact .fin (yld_call rfl cal_nat_Nat_Word rfl (cWordF (k:=(nw (y*2^s)-1)) h104))) ?_
     refine so [] (fun w23 hw23=>.fin (yld_loadBox rfl rfl aggNat (B11.grow hw23) (shNatF))) ?_
     refine so [] (fun w23 hw23=>.fin (yld_move rfl ⟨Grow.refl _,rfl⟩)) ?_
     refine so [27] (fun w23 hw23=>by rintro _ rfl;exact .fin (yld_sub rfl rfl rfl (r:=((nw (y*2^s)-2:Nat):Int)) (by rw[IntKind.wrap_i64];omega) ⟨Grow.refl _,rfl⟩)) ?_
     refine so [26,28] (fun w23 hw23=>by rintro v108 h108 _ rfl;exact .fin (yld_call rfl cal_nat_Nat_Word rfl (cWordF (k:=(nw (y*2^s)-2)) h108))) ?_
     refine so [7,14,21,25,29] (fun w23 hw23=>by rintro _ rfl _ rfl _ rfl _ rfl _ rfl;exact .fin (yld_as (R:=.eq (.int .u64 (((gq (fu ((j-1+nw (y*2^s)))) (fu ((j-1+nw (y*2^s)-1))) (fu ((j-1+nw (y*2^s)-2))) (wd (y*2^s) (nw (y*2^s)-1)) (wd (y*2^s) (nw (y*2^s)-2)):Nat):Int)))) (R2:=.eq (.int .u64 (((dq fu (y*2^s) (j-1) (nw (y*2^s)):Nat):Int)))) (yld_call rfl cal_quot_guess rfl (cGuess (u2:=(fu ((j-1+nw (y*2^s))))) (u1:=(fu ((j-1+nw (y*2^s)-1)))) (u0:=(fu ((j-1+nw (y*2^s)-2)))) (v1:=(wd (y*2^s) (nw (y*2^s)-1))) (v0:=(wd (y*2^s) (nw (y*2^s)-2))) hg1 hg2 (hD.1 _ zo) (hD.1 _ zo) (wd_lt _ _) (wd_lt _ _))) (fun h=>h))) ?_
     exact so [0,1] (fun w23 hw23=>by rintro _ rfl _ rfl;exact .fin (yld_indexE (k:=j-1) rfl rfl rfl zo zo (j:=(j-1)) zo)) (.nil _ _)
    rintro w23 hw23 v82-v83-v84-v85-v86-v87-v88-v89-v90-v91-v92-v93-v94-v95-v96-v97-v98-v99-v100-v101-v102-v103-v104-v105-v106-v107-v108-v109-v110-v111-_ rfl _ rfl-
    have W23:Grow w w23:=W22.trans hw23
    replace B2:=B2.grow hw23
    replace B3:=B3.grow hw23
    replace B4:=B4.grow hw23
    replace B5:=B5.grow hw23
    replace B11:=B11.grow hw23
    replace B13:=B13.grow hw23
    replace Ru:=Ru.below hw23
    replace Rq:=Rq.below hw23
    have KK:Kept [] w23 w23:=fun _ _=>rfl
    refine fr ((va::vb::pt b2::pt b3::pt b4::pt b5::.bool (false)::u::u::u::It s::pt b11::.bool (true)::pt b13::.bool (true)::.slice (some ⟨ru,0,none⟩) (nw x+1) (cu)::It (nw (y*2^s))::.slice (some ⟨rq,0,none⟩) (nw x-nw (y*2^s)+1) (cq)::.int .i64 (((j:Nat):Int)-1)::v19::v20::.bool (decide ((((nw y:Nat):Int):Int)≤(1:Int)))::u::u::u::u::u::u::u::u::u::u::u::u::u::v35::v36::v37::.bool (decide ((cmpV ((x:Nat)) ((y:Nat)):Int)<(0:Int)))::u::u::v41::v42::v43::v44::v45::v46::v47::v48::v49::v50::v51::.bool (true)::v53::v54::v55::v56::v57::.bool (true)::v59::v60::v61::v62::v63::v64::v65::v66::v67::v68::v69::v70::v71::v72::v73::v74::v75::v76::v77::v78::.bool (decide ((((j:Nat):Int)-1:Int)≥(0:Int)))::(tt21 80)::(tt21 81)::v82::v83::v84::v85::v86::v87::v88::v89::v90::v91::v92::v93::v94::v95::v96::v97::v98::v99::v100::v101::v102::v103::v104::v105::v106::v107::v108::v109::v110::v111::Ut (dq fu (y*2^s) (j-1) (nw (y*2^s)))::.pointer (some ⟨rq,(j-1),none⟩)::(tt21 114)::(tt21 115)::(tt21 116)::(tt21 117)::(tt21 118)::(tt21 119)::(tt21 120)::(tt21 121)::(tt21 122)::(tt21 123)::(tt21 124)::(tt21 125)::(tt21 126)::(tt21 127)::(tt21 128)::(tt21 129)::(tt21 130)::(tt21 131)::(tt21 132)::(tt21 133)::(tt21 134)::(tt21 135)::(tt21 136)::(tt21 137)::(tt21 138)::(tt21 139)::(tt21 140)::(tt21 141)::[])++us 6) ?_
    change wpListS _ _ _ _ [_] ⟨_,[]⟩ _
    refine wpListS_yld rfl ?_
    refine yld_storeE (i:=(j-1)) (v:=dq fu (y*2^s) (j-1) (nw (y*2^s))) rfl rfl rfl Rq zo fun w24 P24 R'=>⟨fun _=>Kept.put KK P24 (fun _ hk=>(by cases hk)),?_⟩
    replace KK:=Kept.put KK P24 (fun _ hk=>(by cases hk))
    have M24:Mod rq w23 w24:=P24.toMod
    have W24:Grow w w24:=W23.mod M24 g_rq
    replace B2:=B2.mod M24 (.inr rfl) n_b2_rq
    replace B3:=B3.mod M24 (.inr rfl) n_b3_rq
    replace B4:=B4.mod M24 (.inr rfl) n_b4_rq
    replace B5:=B5.mod M24 (.inr rfl) n_b5_rq
    replace B11:=B11.mod M24 (.inr rfl) n_b11_rq
    replace B13:=B13.mod M24 (.inr rfl) n_b13_rq
    replace Ru:=Ru.mod M24 n_ru_rq
    replace Rq:=R';clear R'
    refine nx ?_
    refine wp_seq ?_
    refine rg (fun c d v a w h=>NL c d v a w h) [(114,.eq (.slice (some ⟨ru,0,none⟩) (nw x+1) (cu))),(115,.eq (.int .i64 (((j:Nat):Int)-1))),(116,.eq (.int .i64 (((j:Nat):Int)-1))),(117,.eq (.int .i64 (((nw (y*2^s):Nat):Int)))),(118,.eq (.int .i64 ((((j:Nat):Int)-1)+(((nw (y*2^s):Nat):Int))))),(119,.eq (.int .i64 (((((j:Nat):Int)-1)+(((nw (y*2^s):Nat):Int)))+1))),(120,.eq (.slice (some ⟨ru,(j-1),none⟩) (nw (y*2^s)+1) (cu-(j-1)))),(121,.natF (fun k=>k=ru∨k=rq) (y*2^s)),(122,.eq (.slice (some ⟨rq,0,none⟩) (nw x-nw (y*2^s)+1) (cq))),(123,.eq (.int .i64 (((j:Nat):Int)-1))),(124,.eq (.pointer (some ⟨rq,(j-1),none⟩))),(125,.eq (.int .u64 (((dq fu (y*2^s) (j-1) (nw (y*2^s)):Nat):Int))))] [] [] [] 148 12 ?_ ?_
    ·refine so [] (fun w25 hw25=>.fin (yld_move rfl ⟨Grow.refl _,rfl⟩)) ?_
     refine so [] (fun w25 hw25=>.fin (yld_move rfl ⟨Grow.refl _,rfl⟩)) ?_
     refine so [] (fun w25 hw25=>.fin (yld_move rfl ⟨Grow.refl _,rfl⟩)) ?_
     refine so [] (fun w25 hw25=>.fin (yld_move rfl ⟨Grow.refl _,rfl⟩)) ?_
     refine so [2,3] (fun w25 hw25=>by rintro _ rfl _ rfl;exact .fin (yld_add rfl rfl rfl (r:=(((j:Nat):Int)-1)+(((nw (y*2^s):Nat):Int))) (by rw[IntKind.wrap_i64];omega) ⟨Grow.refl _,rfl⟩)) ?_
     refine so [4] (fun w25 hw25=>by rintro _ rfl;exact .fin (yld_add rfl rfl rfl (r:=((((j:Nat):Int)-1)+(((nw (y*2^s):Nat):Int)))+1) (by rw[IntKind.wrap_i64];omega) ⟨Grow.refl _,rfl⟩)) ?_
     refine so [0,1,5] (fun w25 hw25=>by rintro _ rfl _ rfl _ rfl;exact .fin (yld_sliceE (l:=j-1) (r:=j-1+nw (y*2^s)+1) (j:=(j-1)) (m:=nw (y*2^s)+1) rfl rfl rfl rfl zo zo zo zo zo zo)) ?_
     refine so [] (fun w25 hw25=>.fin (yld_loadBox rfl rfl aggNat (B11.grow hw25) (shNatF))) ?_
     refine so [] (fun w25 hw25=>.fin (yld_move rfl ⟨Grow.refl _,rfl⟩)) ?_
     refine so [] (fun w25 hw25=>.fin (yld_move rfl ⟨Grow.refl _,rfl⟩)) ?_
     refine so [8,9] (fun w25 hw25=>by rintro _ rfl _ rfl;exact .fin (yld_indexE (k:=j-1) rfl rfl rfl zo zo (j:=(j-1)) zo)) ?_
     exact so [10] (fun w25 hw25=>by rintro _ rfl;exact .fin (yld_as (R:=.eq (.int .u64 ((((upd (fq) ((j-1)) (dq fu (y*2^s) (j-1) (nw (y*2^s)))) ((j-1)):Nat):Int)))) (R2:=.eq (.int .u64 (((dq fu (y*2^s) (j-1) (nw (y*2^s)):Nat):Int)))) (yld_loadE rfl rfl (Rq.below hw25) zo) (fun h=>h.trans (by rw[upd_same])))) (.nil _ _)
    rintro w25 hw25 v114-v115-v116-v117-v118-v119-_ rfl v121 h121 v122-v123-v124-_ rfl-
    have W25:Grow w w25:=W24.trans hw25
    replace B2:=B2.grow hw25
    replace B3:=B3.grow hw25
    replace B4:=B4.grow hw25
    replace B5:=B5.grow hw25
    replace B11:=B11.grow hw25
    replace B13:=B13.grow hw25
    replace Ru:=Ru.below hw25
    replace Rq:=Rq.below hw25
    have KK:Kept [] w25 w25:=fun _ _=>rfl
    refine fr ((va::vb::pt b2::pt b3::pt b4::pt b5::.bool (false)::u::u::u::It s::pt b11::.bool (true)::pt b13::.bool (true)::.slice (some ⟨ru,0,none⟩) (nw x+1) (cu)::It (nw (y*2^s))::.slice (some ⟨rq,0,none⟩) (nw x-nw (y*2^s)+1) (cq)::.int .i64 (((j:Nat):Int)-1)::v19::v20::.bool (decide ((((nw y:Nat):Int):Int)≤(1:Int)))::u::u::u::u::u::u::u::u::u::u::u::u::u::v35::v36::v37::.bool (decide ((cmpV ((x:Nat)) ((y:Nat)):Int)<(0:Int)))::u::u::v41::v42::v43::v44::v45::v46::v47::v48::v49::v50::v51::.bool (true)::v53::v54::v55::v56::v57::.bool (true)::v59::v60::v61::v62::v63::v64::v65::v66::v67::v68::v69::v70::v71::v72::v73::v74::v75::v76::v77::v78::.bool (decide ((((j:Nat):Int)-1:Int)≥(0:Int)))::(tt21 80)::(tt21 81)::v82::v83::v84::v85::v86::v87::v88::v89::v90::v91::v92::v93::v94::v95::v96::v97::v98::v99::v100::v101::v102::v103::v104::v105::v106::v107::v108::v109::v110::v111::Ut (dq fu (y*2^s) (j-1) (nw (y*2^s)))::.pointer (some ⟨rq,(j-1),none⟩)::v114::v115::v116::v117::v118::v119::.slice (some ⟨ru,(j-1),none⟩) (nw (y*2^s)+1) (cu-(j-1))::v121::v122::v123::v124::Ut (dq fu (y*2^s) (j-1) (nw (y*2^s)))::(tt21 126)::(tt21 127)::(tt21 128)::(tt21 129)::(tt21 130)::(tt21 131)::(tt21 132)::(tt21 133)::(tt21 134)::(tt21 135)::(tt21 136)::(tt21 137)::(tt21 138)::(tt21 139)::(tt21 140)::(tt21 141)::[])++us 6) ?_
    change wpListS _ _ _ _ [_] ⟨_,[]⟩ _
    refine wpListS_yld rfl ?_
    refine yld_call rfl cal_quot_take rfl ((cTake (N:=nw x+1) Ru (NatAt.sub h121 fun k hk=>.inl hk) (dq_lt _ _ _ _) hkN hcu zo hD.1).mono ?_)
    rintro _ w26 ⟨_,fT,rfl,M26,R',bT,rfl,hT9⟩
    refine⟨_,rfl,fun h=>absurd rfl h,?_⟩
    have W26:Grow w w26:=W25.mod M26 g_ru
    replace B2:=B2.mod M26 (.inl rfl) n_b2_ru
    replace B3:=B3.mod M26 (.inl rfl) n_b3_ru
    replace B4:=B4.mod M26 (.inl rfl) n_b4_ru
    replace B5:=B5.mod M26 (.inl rfl) n_b5_ru
    replace B11:=B11.mod M26 (.inl rfl) n_b11_ru
    replace B13:=B13.mod M26 (.inl rfl) n_b13_ru
    replace Rq:=Rq.mod M26 (Ne.symm n_ru_rq)
    replace Ru:=R';clear R'
    refine wpListS_nil ?_
    change Code.wp _ _ _ ⟨List.toArray (List.set _ 126 _),[]⟩ _
    refine wp_cond_split (t:=decide (bT=1)) rfl (fun hb=>?_) (fun hb=>?_)
    ·have hb1:bT=1:=of_decide_eq_true hb
     have hT1:=hT9
     rw[hb1] at hT1
     have hneg:=d_neg rfl h2V hkN hD1 hT1
     refine wp_seq ?_
     refine rg (fun c d v a w h=>NL c d v a w h) [(127,.eq (.slice (some ⟨rq,0,none⟩) (nw x-nw (y*2^s)+1) (cq))),(128,.eq (.int .i64 (((j:Nat):Int)-1))),(129,.eq (.pointer (some ⟨rq,(j-1),none⟩))),(130,.eq (.int .u64 (((dq fu (y*2^s) (j-1) (nw (y*2^s)):Nat):Int)))),(131,.eq (.int .u64 (((dq fu (y*2^s) (j-1) (nw (y*2^s))-1:Nat):Int)))),(132,.eq (.pointer (some ⟨rq,(j-1),none⟩)))] [] [] [] 148 6 ?_ ?_
     ·refine so [] (fun w27 hw27=>.fin (yld_move rfl ⟨Grow.refl _,rfl⟩)) ?_
      refine so [] (fun w27 hw27=>.fin (yld_move rfl ⟨Grow.refl _,rfl⟩)) ?_
      refine so [0,1] (fun w27 hw27=>by rintro _ rfl _ rfl;exact .fin (yld_indexE (k:=j-1) rfl rfl rfl zo zo (j:=(j-1)) zo)) ?_
      refine so [2] (fun w27 hw27=>by rintro _ rfl;exact .fin (yld_as (R:=.eq (.int .u64 ((((upd (fq) ((j-1)) (dq fu (y*2^s) (j-1) (nw (y*2^s)))) ((j-1)):Nat):Int)))) (R2:=.eq (.int .u64 (((dq fu (y*2^s) (j-1) (nw (y*2^s)):Nat):Int)))) (yld_loadE rfl rfl (Rq.below hw27) zo) (fun h=>h.trans (by rw[upd_same])))) ?_
      refine so [3] (fun w27 hw27=>by rintro _ rfl;exact .fin (yld_sub rfl rfl rfl (r:=((dq fu (y*2^s) (j-1) (nw (y*2^s))-1:Nat):Int)) (u64_pred (dq_lt _ _ _ _) hneg.2) ⟨Grow.refl _,rfl⟩)) ?_
      exact so [0,1] (fun w27 hw27=>by rintro _ rfl _ rfl;exact .fin (yld_indexE (k:=j-1) rfl rfl rfl zo zo (j:=(j-1)) zo)) (.nil _ _)
     rintro w27 hw27 v127-v128-v129-v130-_ rfl _ rfl-
     have W27:Grow w w27:=W26.trans hw27
     replace B2:=B2.grow hw27
     replace B3:=B3.grow hw27
     replace B4:=B4.grow hw27
     replace B5:=B5.grow hw27
     replace B11:=B11.grow hw27
     replace B13:=B13.grow hw27
     replace Ru:=Ru.below hw27
     replace Rq:=Rq.below hw27
     have KK:Kept [] w27 w27:=fun _ _=>rfl
     refine fr ((va::vb::pt b2::pt b3::pt b4::pt b5::.bool (false)::u::u::u::It s::pt b11::.bool (true)::pt b13::.bool (true)::.slice (some ⟨ru,0,none⟩) (nw x+1) (cu)::It (nw (y*2^s))::.slice (some ⟨rq,0,none⟩) (nw x-nw (y*2^s)+1) (cq)::.int .i64 (((j:Nat):Int)-1)::v19::v20::.bool (decide ((((nw y:Nat):Int):Int)≤(1:Int)))::u::u::u::u::u::u::u::u::u::u::u::u::u::v35::v36::v37::.bool (decide ((cmpV ((x:Nat)) ((y:Nat)):Int)<(0:Int)))::u::u::v41::v42::v43::v44::v45::v46::v47::v48::v49::v50::v51::.bool (true)::v53::v54::v55::v56::v57::.bool (true)::v59::v60::v61::v62::v63::v64::v65::v66::v67::v68::v69::v70::v71::v72::v73::v74::v75::v76::v77::v78::.bool (decide ((((j:Nat):Int)-1:Int)≥(0:Int)))::(tt21 80)::(tt21 81)::v82::v83::v84::v85::v86::v87::v88::v89::v90::v91::v92::v93::v94::v95::v96::v97::v98::v99::v100::v101::v102::v103::v104::v105::v106::v107::v108::v109::v110::v111::Ut (dq fu (y*2^s) (j-1) (nw (y*2^s)))::.pointer (some ⟨rq,(j-1),none⟩)::v114::v115::v116::v117::v118::v119::.slice (some ⟨ru,(j-1),none⟩) (nw (y*2^s)+1) (cu-(j-1))::v121::v122::v123::v124::Ut (dq fu (y*2^s) (j-1) (nw (y*2^s)))::.bool (decide (bT=1))::v127::v128::v129::v130::Ut (dq fu (y*2^s) (j-1) (nw (y*2^s))-1)::.pointer (some ⟨rq,(j-1),none⟩)::(tt21 133)::(tt21 134)::(tt21 135)::(tt21 136)::(tt21 137)::(tt21 138)::(tt21 139)::(tt21 140)::(tt21 141)::[])++us 6) ?_
     change wpListS _ _ _ _ [_] ⟨_,[]⟩ _
     refine wpListS_yld rfl ?_
     refine yld_storeE (i:=(j-1)) (v:=dq fu (y*2^s) (j-1) (nw (y*2^s))-1) rfl rfl rfl Rq zo fun w28 P28 R'=>⟨fun _=>Kept.put KK P28 (fun _ hk=>(by cases hk)),?_⟩
     replace KK:=Kept.put KK P28 (fun _ hk=>(by cases hk))
     have M28:Mod rq w27 w28:=P28.toMod
     have W28:Grow w w28:=W27.mod M28 g_rq
     replace B2:=B2.mod M28 (.inr rfl) n_b2_rq
     replace B3:=B3.mod M28 (.inr rfl) n_b3_rq
     replace B4:=B4.mod M28 (.inr rfl) n_b4_rq
     replace B5:=B5.mod M28 (.inr rfl) n_b5_rq
     replace B11:=B11.mod M28 (.inr rfl) n_b11_rq
     replace B13:=B13.mod M28 (.inr rfl) n_b13_rq
     replace Ru:=Ru.mod M28 n_ru_rq
     replace Rq:=R';clear R'
     refine nx ?_
     refine rg (fun c d v a w h=>NL c d v a w h) [(133,.eq (.slice (some ⟨ru,0,none⟩) (nw x+1) (cu))),(134,.eq (.int .i64 (((j:Nat):Int)-1))),(135,.eq (.int .i64 (((j:Nat):Int)-1))),(136,.eq (.int .i64 (((nw (y*2^s):Nat):Int)))),(137,.eq (.int .i64 ((((j:Nat):Int)-1)+(((nw (y*2^s):Nat):Int))))),(138,.eq (.int .i64 (((((j:Nat):Int)-1)+(((nw (y*2^s):Nat):Int)))+1))),(139,.eq (.slice (some ⟨ru,(j-1),none⟩) (nw (y*2^s)+1) (cu-(j-1)))),(140,.natF (fun k=>k=ru∨k=rq) (y*2^s))] [] [] [] 148 8 ?_ ?_
     ·refine so [] (fun w29 hw29=>.fin (yld_move rfl ⟨Grow.refl _,rfl⟩)) ?_
      refine so [] (fun w29 hw29=>.fin (yld_move rfl ⟨Grow.refl _,rfl⟩)) ?_
      refine so [] (fun w29 hw29=>.fin (yld_move rfl ⟨Grow.refl _,rfl⟩)) ?_
      refine so [] (fun w29 hw29=>.fin (yld_move rfl ⟨Grow.refl _,rfl⟩)) ?_
      refine so [2,3] (fun w29 hw29=>by rintro _ rfl _ rfl;exact .fin (yld_add rfl rfl rfl (r:=(((j:Nat):Int)-1)+(((nw (y*2^s):Nat):Int))) (by rw[IntKind.wrap_i64];omega) ⟨Grow.refl _,rfl⟩)) ?_
      refine so [4] (fun w29 hw29=>by rintro _ rfl;exact .fin (yld_add rfl rfl rfl (r:=((((j:Nat):Int)-1)+(((nw (y*2^s):Nat):Int)))+1) (by rw[IntKind.wrap_i64];omega) ⟨Grow.refl _,rfl⟩)) ?_
      refine so [0,1,5] (fun w29 hw29=>by rintro _ rfl _ rfl _ rfl;exact .fin (yld_sliceE (l:=j-1) (r:=j-1+nw (y*2^s)+1) (j:=(j-1)) (m:=nw (y*2^s)+1) rfl rfl rfl rfl zo zo zo zo zo zo)) ?_
      exact so [] (fun w29 hw29=>.fin (yld_loadBox rfl rfl aggNat (B11.grow hw29) (shNatF))) (.nil _ _)
     rintro w29 hw29 v133-v134-v135-v136-v137-v138-_ rfl v140 h140-
     have W29:Grow w w29:=W28.trans hw29
     replace B2:=B2.grow hw29
     replace B3:=B3.grow hw29
     replace B4:=B4.grow hw29
     replace B5:=B5.grow hw29
     replace B11:=B11.grow hw29
     replace B13:=B13.grow hw29
     replace Ru:=Ru.below hw29
     replace Rq:=Rq.below hw29
     have KK:Kept [] w29 w29:=fun _ _=>rfl
     refine fr ((va::vb::pt b2::pt b3::pt b4::pt b5::.bool (false)::u::u::u::It s::pt b11::.bool (true)::pt b13::.bool (true)::.slice (some ⟨ru,0,none⟩) (nw x+1) (cu)::It (nw (y*2^s))::.slice (some ⟨rq,0,none⟩) (nw x-nw (y*2^s)+1) (cq)::.int .i64 (((j:Nat):Int)-1)::v19::v20::.bool (decide ((((nw y:Nat):Int):Int)≤(1:Int)))::u::u::u::u::u::u::u::u::u::u::u::u::u::v35::v36::v37::.bool (decide ((cmpV ((x:Nat)) ((y:Nat)):Int)<(0:Int)))::u::u::v41::v42::v43::v44::v45::v46::v47::v48::v49::v50::v51::.bool (true)::v53::v54::v55::v56::v57::.bool (true)::v59::v60::v61::v62::v63::v64::v65::v66::v67::v68::v69::v70::v71::v72::v73::v74::v75::v76::v77::v78::.bool (decide ((((j:Nat):Int)-1:Int)≥(0:Int)))::(tt21 80)::(tt21 81)::v82::v83::v84::v85::v86::v87::v88::v89::v90::v91::v92::v93::v94::v95::v96::v97::v98::v99::v100::v101::v102::v103::v104::v105::v106::v107::v108::v109::v110::v111::Ut (dq fu (y*2^s) (j-1) (nw (y*2^s)))::.pointer (some ⟨rq,(j-1),none⟩)::v114::v115::v116::v117::v118::v119::.slice (some ⟨ru,(j-1),none⟩) (nw (y*2^s)+1) (cu-(j-1))::v121::v122::v123::v124::Ut (dq fu (y*2^s) (j-1) (nw (y*2^s)))::.bool (decide (bT=1))::v127::v128::v129::v130::Ut (dq fu (y*2^s) (j-1) (nw (y*2^s))-1)::.pointer (some ⟨rq,(j-1),none⟩)::v133::v134::v135::v136::v137::v138::.slice (some ⟨ru,(j-1),none⟩) (nw (y*2^s)+1) (cu-(j-1))::v140::(tt21 141)::[])++us 6) ?_
     change wpListS _ _ _ _ [_] ⟨_,[]⟩ _
     refine wpListS_yld rfl ?_
     refine yld_call rfl cal_quot_back rfl ((cBack (N:=nw x+1) Ru (NatAt.sub h140 fun k hk=>.inl hk) hkN hcu zo hT9.1).mono ?_)
     rintro _ w30 ⟨vB,fB,rfl,M30,R',cB,hBk⟩
     refine⟨_,rfl,fun h=>absurd rfl h,?_⟩
     have W30:Grow w w30:=W29.mod M30 g_ru
     replace B2:=B2.mod M30 (.inl rfl) n_b2_ru
     replace B3:=B3.mod M30 (.inl rfl) n_b3_ru
     replace B4:=B4.mod M30 (.inl rfl) n_b4_ru
     replace B5:=B5.mod M30 (.inl rfl) n_b5_ru
     replace B11:=B11.mod M30 (.inl rfl) n_b11_ru
     replace B13:=B13.mod M30 (.inl rfl) n_b13_ru
     replace Rq:=Rq.mod M30 (Ne.symm n_ru_rq)
     replace Ru:=R';clear R'
     refine wpListS_nil ?_
     change Code.wp _ _ _ ⟨List.toArray (List.set _ 141 _),[]⟩ _
     refine rg (fun c d v a w h=>NL c d v a w h) [(80,.eq (.int .i64 (((j:Nat):Int)-1))),(81,.eq (.int .i64 (((j-1:Nat):Int)-1)))] [] [] [] 148 2 ?_ ?_
     ·refine so [] (fun w31 hw31=>.fin (yld_move rfl ⟨Grow.refl _,rfl⟩)) ?_
      exact so [0] (fun w31 hw31=>by rintro _ rfl;exact .fin (yld_sub rfl rfl rfl (r:=((j-1:Nat):Int)-1) (by rw[IntKind.wrap_i64];omega) ⟨Grow.refl _,rfl⟩)) (.nil _ _)
     rintro w31 hw31 v80-_ rfl-
     have W31:Grow w w31:=W30.trans hw31
     replace B2:=B2.grow hw31
     replace B3:=B3.grow hw31
     replace B4:=B4.grow hw31
     replace B5:=B5.grow hw31
     replace B11:=B11.grow hw31
     replace B13:=B13.grow hw31
     replace Ru:=Ru.below hw31
     replace Rq:=Rq.below hw31
     have KK:Kept [] w31 w31:=fun _ _=>rfl
     refine fr ((va::vb::pt b2::pt b3::pt b4::pt b5::.bool (false)::u::u::u::It s::pt b11::.bool (true)::pt b13::.bool (true)::.slice (some ⟨ru,0,none⟩) (nw x+1) (cu)::It (nw (y*2^s))::.slice (some ⟨rq,0,none⟩) (nw x-nw (y*2^s)+1) (cq)::.int .i64 (((j:Nat):Int)-1)::v19::v20::.bool (decide ((((nw y:Nat):Int):Int)≤(1:Int)))::u::u::u::u::u::u::u::u::u::u::u::u::u::v35::v36::v37::.bool (decide ((cmpV ((x:Nat)) ((y:Nat)):Int)<(0:Int)))::u::u::v41::v42::v43::v44::v45::v46::v47::v48::v49::v50::v51::.bool (true)::v53::v54::v55::v56::v57::.bool (true)::v59::v60::v61::v62::v63::v64::v65::v66::v67::v68::v69::v70::v71::v72::v73::v74::v75::v76::v77::v78::.bool (decide ((((j:Nat):Int)-1:Int)≥(0:Int)))::v80::.int .i64 (((j-1:Nat):Int)-1)::v82::v83::v84::v85::v86::v87::v88::v89::v90::v91::v92::v93::v94::v95::v96::v97::v98::v99::v100::v101::v102::v103::v104::v105::v106::v107::v108::v109::v110::v111::Ut (dq fu (y*2^s) (j-1) (nw (y*2^s)))::.pointer (some ⟨rq,(j-1),none⟩)::v114::v115::v116::v117::v118::v119::.slice (some ⟨ru,(j-1),none⟩) (nw (y*2^s)+1) (cu-(j-1))::v121::v122::v123::v124::Ut (dq fu (y*2^s) (j-1) (nw (y*2^s)))::.bool (decide (bT=1))::v127::v128::v129::v130::Ut (dq fu (y*2^s) (j-1) (nw (y*2^s))-1)::.pointer (some ⟨rq,(j-1),none⟩)::v133::v134::v135::v136::v137::v138::.slice (some ⟨ru,(j-1),none⟩) (nw (y*2^s)+1) (cu-(j-1))::v140::vB::[])++us 6) ?_
     change wpListS _ _ _ _ [_] ⟨_,[]⟩ _
     refine wpListS_yld rfl ?_
     refine yld_assign rfl ⟨fun _=>KK,?_⟩
     refine wpListS_nil ?_
     refine⟨_,?_,j-1,fB,upd (upd (fq) ((j-1)) (dq fu (y*2^s) (j-1) (nw (y*2^s)))) ((j-1)) (dq fu (y*2^s) (j-1) (nw (y*2^s))-1),rfl,by first | exact⟨by omega,d_back rfl h2V hkN hD1 hT1 hBk hkQ⟩ | exact⟨by omega,d_fit rfl h2V hkN hD1 hT9 hb0 hkQ⟩,fun d=>((.int .i64 (((j-1:Nat):Int)-1)::v19::v20::.bool (decide ((((nw y:Nat):Int):Int)≤(1:Int)))::u::u::u::u::u::u::u::u::u::u::u::u::u::v35::v36::v37::.bool (decide ((cmpV ((x:Nat)) ((y:Nat)):Int)<(0:Int)))::u::u::v41::v42::v43::v44::v45::v46::v47::v48::v49::v50::v51::.bool (true)::v53::v54::v55::v56::v57::.bool (true)::v59::v60::v61::v62::v63::v64::v65::v66::v67::v68::v69::v70::v71::v72::v73::v74::v75::v76::v77::v78::.bool (decide ((((j:Nat):Int)-1:Int)≥(0:Int)))::v80::.int .i64 (((j-1:Nat):Int)-1)::v82::v83::v84::v85::v86::v87::v88::v89::v90::v91::v92::v93::v94::v95::v96::v97::v98::v99::v100::v101::v102::v103::v104::v105::v106::v107::v108::v109::v110::v111::Ut (dq fu (y*2^s) (j-1) (nw (y*2^s)))::.pointer (some ⟨rq,(j-1),none⟩)::v114::v115::v116::v117::v118::v119::.slice (some ⟨ru,(j-1),none⟩) (nw (y*2^s)+1) (cu-(j-1))::v121::v122::v123::v124::Ut (dq fu (y*2^s) (j-1) (nw (y*2^s)))::.bool (decide (bT=1))::v127::v128::v129::v130::Ut (dq fu (y*2^s) (j-1) (nw (y*2^s))-1)::.pointer (some ⟨rq,(j-1),none⟩)::v133::v134::v135::v136::v137::v138::.slice (some ⟨ru,(j-1),none⟩) (nw (y*2^s)+1) (cu-(j-1))::v140::vB::[]):List Value).getD (d-18) undef,by kernel_rfl,W31,B2,B3,B4,B5,B11,B13,Ru,Rq⟩
     rw[hnn21];omega
    ·have hb0:bT≠1:=of_decide_eq_false hb
     refine wp_skip ?_
     change Code.wp _ _ _ ⟨_,[]⟩ _
     refine rg (fun c d v a w h=>NL c d v a w h) [(80,.eq (.int .i64 (((j:Nat):Int)-1))),(81,.eq (.int .i64 (((j-1:Nat):Int)-1)))] [] [] [] 148 2 ?_ ?_
     ·refine so [] (fun w32 hw32=>.fin (yld_move rfl ⟨Grow.refl _,rfl⟩)) ?_
      exact so [0] (fun w32 hw32=>by rintro _ rfl;exact .fin (yld_sub rfl rfl rfl (r:=((j-1:Nat):Int)-1) (by rw[IntKind.wrap_i64];omega) ⟨Grow.refl _,rfl⟩)) (.nil _ _)
     rintro w32 hw32 v80-_ rfl-
     have W32:Grow w w32:=W26.trans hw32
     replace B2:=B2.grow hw32
     replace B3:=B3.grow hw32
     replace B4:=B4.grow hw32
     replace B5:=B5.grow hw32
     replace B11:=B11.grow hw32
     replace B13:=B13.grow hw32
     replace Ru:=Ru.below hw32
     replace Rq:=Rq.below hw32
     have KK:Kept [] w32 w32:=fun _ _=>rfl
     refine fr ((va::vb::pt b2::pt b3::pt b4::pt b5::.bool (false)::u::u::u::It s::pt b11::.bool (true)::pt b13::.bool (true)::.slice (some ⟨ru,0,none⟩) (nw x+1) (cu)::It (nw (y*2^s))::.slice (some ⟨rq,0,none⟩) (nw x-nw (y*2^s)+1) (cq)::.int .i64 (((j:Nat):Int)-1)::v19::v20::.bool (decide ((((nw y:Nat):Int):Int)≤(1:Int)))::u::u::u::u::u::u::u::u::u::u::u::u::u::v35::v36::v37::.bool (decide ((cmpV ((x:Nat)) ((y:Nat)):Int)<(0:Int)))::u::u::v41::v42::v43::v44::v45::v46::v47::v48::v49::v50::v51::.bool (true)::v53::v54::v55::v56::v57::.bool (true)::v59::v60::v61::v62::v63::v64::v65::v66::v67::v68::v69::v70::v71::v72::v73::v74::v75::v76::v77::v78::.bool (decide ((((j:Nat):Int)-1:Int)≥(0:Int)))::v80::.int .i64 (((j-1:Nat):Int)-1)::v82::v83::v84::v85::v86::v87::v88::v89::v90::v91::v92::v93::v94::v95::v96::v97::v98::v99::v100::v101::v102::v103::v104::v105::v106::v107::v108::v109::v110::v111::Ut (dq fu (y*2^s) (j-1) (nw (y*2^s)))::.pointer (some ⟨rq,(j-1),none⟩)::v114::v115::v116::v117::v118::v119::.slice (some ⟨ru,(j-1),none⟩) (nw (y*2^s)+1) (cu-(j-1))::v121::v122::v123::v124::Ut (dq fu (y*2^s) (j-1) (nw (y*2^s)))::.bool (decide (bT=1))::(tt21 127)::(tt21 128)::(tt21 129)::(tt21 130)::(tt21 131)::(tt21 132)::(tt21 133)::(tt21 134)::(tt21 135)::(tt21 136)::(tt21 137)::(tt21 138)::(tt21 139)::(tt21 140)::(tt21 141)::[])++us 6) ?_
     change wpListS _ _ _ _ [_] ⟨_,[]⟩ _
     refine wpListS_yld rfl ?_
     refine yld_assign rfl ⟨fun _=>KK,?_⟩
     refine wpListS_nil ?_
     refine⟨_,?_,j-1,fT,upd (fq) ((j-1)) (dq fu (y*2^s) (j-1) (nw (y*2^s))),rfl,by first | exact⟨by omega,d_back rfl h2V hkN hD1 hT1 hBk hkQ⟩ | exact⟨by omega,d_fit rfl h2V hkN hD1 hT9 hb0 hkQ⟩,fun d=>((.int .i64 (((j-1:Nat):Int)-1)::v19::v20::.bool (decide ((((nw y:Nat):Int):Int)≤(1:Int)))::u::u::u::u::u::u::u::u::u::u::u::u::u::v35::v36::v37::.bool (decide ((cmpV ((x:Nat)) ((y:Nat)):Int)<(0:Int)))::u::u::v41::v42::v43::v44::v45::v46::v47::v48::v49::v50::v51::.bool (true)::v53::v54::v55::v56::v57::.bool (true)::v59::v60::v61::v62::v63::v64::v65::v66::v67::v68::v69::v70::v71::v72::v73::v74::v75::v76::v77::v78::.bool (decide ((((j:Nat):Int)-1:Int)≥(0:Int)))::v80::.int .i64 (((j-1:Nat):Int)-1)::v82::v83::v84::v85::v86::v87::v88::v89::v90::v91::v92::v93::v94::v95::v96::v97::v98::v99::v100::v101::v102::v103::v104::v105::v106::v107::v108::v109::v110::v111::Ut (dq fu (y*2^s) (j-1) (nw (y*2^s)))::.pointer (some ⟨rq,(j-1),none⟩)::v114::v115::v116::v117::v118::v119::.slice (some ⟨ru,(j-1),none⟩) (nw (y*2^s)+1) (cu-(j-1))::v121::v122::v123::v124::Ut (dq fu (y*2^s) (j-1) (nw (y*2^s)))::.bool (decide (bT=1))::(tt21 127)::(tt21 128)::(tt21 129)::(tt21 130)::(tt21 131)::(tt21 132)::(tt21 133)::(tt21 134)::(tt21 135)::(tt21 136)::(tt21 137)::(tt21 138)::(tt21 139)::(tt21 140)::(tt21 141)::[]):List Value).getD (d-18) undef,by kernel_rfl,W32,B2,B3,B4,B5,B11,B13,Ru,Rq⟩
     rw[hnn21];omega
   ·have hj0:j=0:=by have:=of_decide_eq_false hge;omega
    rw[hj0] at hD
    refine wp_exit ?_
    change Code.wp _ _ _ ⟨_,[]⟩ _
    refine wp_seq ?_
    refine rg (fun c d v a w h=>NL c d v a w h) [(142,.eq (.slice (some ⟨rq,0,none⟩) (nw x-nw (y*2^s)+1) (cq))),(143,.nat (val fq (nw x-nw (y*2^s)+1))),(144,.eq (.slice (some ⟨ru,0,none⟩) (nw x+1) (cu))),(145,.nat (val fu (nw x+1))),(146,.eq (.int .i64 (((s:Nat):Int)))),(147,.nat ((val fu (nw x+1))/2^s))] [] [] [] 148 6 ?_ ?_
    ·refine so [] (fun w33 hw33=>.fin (yld_move rfl ⟨Grow.refl _,rfl⟩)) ?_
     refine so [0] (fun w33 hw33=>by rintro _ rfl;exact .fin (yld_call rfl cal_nat_Of rfl (cNatOfU (uns_row (Rq.below hw33) hcq hcmq) hD.2.1 zo))) ?_
     refine so [] (fun w33 hw33=>.fin (yld_move rfl ⟨Grow.refl _,rfl⟩)) ?_
     refine so [2] (fun w33 hw33=>by rintro _ rfl;exact .fin (yld_call rfl cal_nat_Of rfl (cNatOfU (uns_row (Ru.below hw33) hcu hcmu) hD.1 zo))) ?_
     refine so [] (fun w33 hw33=>.fin (yld_move rfl ⟨Grow.refl _,rfl⟩)) ?_
     exact so [3,4] (fun w33 hw33=>by rintro v145 h145 _ rfl;exact .fin (yld_call rfl cal_nat_Nat_Shr rfl (cShr (k:=s) h145 hs64))) (.nil _ _)
    rintro w33 hw33 v142-v143 h143 v144-v145-v146-v147 h147-
    have W33:Grow w w33:=W22.trans hw33
    replace B4:=B4.grow hw33
    replace B5:=B5.grow hw33
    replace Ru:=Ru.below hw33
    replace Rq:=Rq.below hw33
    have KK:Kept [] w33 w33:=fun _ _=>rfl
    refine fr (va::vb::pt b2::pt b3::pt b4::pt b5::.bool (false)::u::u::u::It s::pt b11::.bool (true)::pt b13::.bool (true)::.slice (some ⟨ru,0,none⟩) (nw x+1) (cu)::It (nw (y*2^s))::.slice (some ⟨rq,0,none⟩) (nw x-nw (y*2^s)+1) (cq)::.int .i64 (((j:Nat):Int)-1)::v19::v20::.bool (decide ((((nw y:Nat):Int):Int)≤(1:Int)))::u::u::u::u::u::u::u::u::u::u::u::u::u::v35::v36::v37::.bool (decide ((cmpV ((x:Nat)) ((y:Nat)):Int)<(0:Int)))::u::u::v41::v42::v43::v44::v45::v46::v47::v48::v49::v50::v51::.bool (true)::v53::v54::v55::v56::v57::.bool (true)::v59::v60::v61::v62::v63::v64::v65::v66::v67::v68::v69::v70::v71::v72::v73::v74::v75::v76::v77::v78::.bool (decide ((((j:Nat):Int)-1:Int)≥(0:Int)))::(tt21 80)::(tt21 81)::(tt21 82)::(tt21 83)::(tt21 84)::(tt21 85)::(tt21 86)::(tt21 87)::(tt21 88)::(tt21 89)::(tt21 90)::(tt21 91)::(tt21 92)::(tt21 93)::(tt21 94)::(tt21 95)::(tt21 96)::(tt21 97)::(tt21 98)::(tt21 99)::(tt21 100)::(tt21 101)::(tt21 102)::(tt21 103)::(tt21 104)::(tt21 105)::(tt21 106)::(tt21 107)::(tt21 108)::(tt21 109)::(tt21 110)::(tt21 111)::(tt21 112)::(tt21 113)::(tt21 114)::(tt21 115)::(tt21 116)::(tt21 117)::(tt21 118)::(tt21 119)::(tt21 120)::(tt21 121)::(tt21 122)::(tt21 123)::(tt21 124)::(tt21 125)::(tt21 126)::(tt21 127)::(tt21 128)::(tt21 129)::(tt21 130)::(tt21 131)::(tt21 132)::(tt21 133)::(tt21 134)::(tt21 135)::(tt21 136)::(tt21 137)::(tt21 138)::(tt21 139)::(tt21 140)::(tt21 141)::v142::v143::v144::v145::v146::v147::[]) ?_
    change wpListS _ _ _ _ [_,_,_] ⟨_,[]⟩ _
    refine wpListS_yld rfl ?_
    refine yld_storeBox (R':=.nat (val fq (nw x-nw (y*2^s)+1))) (b:=b4) rfl rfl aggNat.size B4 (shNatF) h143 (shNat _) (St.nat _) (by decide) g_b4 fun w34 P34 E34 B'=>⟨fun _=>Kept.put KK P34 (fun _ hk=>(by cases hk)),?_⟩
    replace KK:=Kept.put KK P34 (fun _ hk=>(by cases hk))
    have W34:Grow w w34:=W33.put P34 g_b4
    replace B5:=B5.put (St.natF) P34 E34 (Ne.symm n_b4_b5)
    replace B4:=B';clear B'
    replace h147:=MR.put h147 (St.nat _) E34
    change wpListS _ _ _ _ [_,_] ⟨_,[]⟩ _
    refine wpListS_yld rfl ?_
    refine yld_storeBox (R':=.nat ((val fu (nw x+1))/2^s)) (b:=b5) rfl rfl aggNat.size B5 (shNatF) h147 (shNat _) (St.nat _) (by decide) g_b5 fun w35 P35 E35 B'=>⟨fun _=>Kept.put KK P35 (fun _ hk=>(by cases hk)),?_⟩
    replace KK:=Kept.put KK P35 (fun _ hk=>(by cases hk))
    have W35:Grow w w35:=W34.put P35 g_b5
    replace B4:=B4.put (St.nat _) P35 E35 n_b4_b5
    replace B5:=B';clear B'
    change wpListS _ _ _ _ [_] ⟨_,[]⟩ _
    refine wpListS_yld rfl ?_
    refine yld_assign rfl ⟨fun _=>KK,?_⟩
    refine wpListS_nil ?_
    change Code.wp _ _ _ ⟨List.toArray (List.set _ 6 _),[]⟩ _
    have BR:Box w35 b4 43 (.nat (x/y)):=(by have e:(val fq (nw x-nw (y*2^s)+1):Nat)=x/y:=(by first | (rw[ey];done) | exact(Nat.div_eq_of_lt hxy).symm | (rw[if_neg hy0,Nat.mod_eq_of_lt hxy];done) | exact(d_end hD).1 | (rw[if_neg hy0];exact(d_end hD).2) | (simp[hy0];done));rw[←e];exact B4)
    have BR2:Box w35 b5 43 (.nat (if y=0 then 0 else x%y)):=(by have e:((val fu (nw x+1))/2^s:Nat)=if y=0 then 0 else x%y:=(by first | (rw[ey];done) | exact(Nat.div_eq_of_lt hxy).symm | (rw[if_neg hy0,Nat.mod_eq_of_lt hxy];done) | exact(d_end hD).1 | (rw[if_neg hy0];exact(d_end hD).2) | (simp[hy0];done));rw[←e];exact B5)
    refine wp_ret ?_
    change bodyPost Tryz.prog Tryz.f168 (Ret (.tup3 (.nat (x/y)) (.nat (if y=0 then 0 else x%y)) (.eq (.bool (!decide (y=0))))) w) .ret _ _
    exact body_cell2_slot (b:=b4) (b':=b5) rfl rfl aggNat BR (shNat _) rfl aggNat BR2 (shNat _) (by show Value.bool _=Value.bool _;rw[show(true)=(!decide (y=0)) from(by first | (rw[ey];done) | exact(Nat.div_eq_of_lt hxy).symm | (rw[if_neg hy0,Nat.mod_eq_of_lt hxy];done) | exact(d_end hD).1 | (rw[if_neg hy0];exact(d_end hD).2) | (simp[hy0];done))]) rfl W35
open Go.RowKit
theorem sCut{x k:Nat}(h0:0<nw x)(hk:k≤1099511627776):CallOK Tryz.prog 129 [.nat x,iN k] (.cn (.nat (x%2^(64*k))) (.cn (.nat (x/2^(64*k))) .nl)) []:=by
 refine .of_ret (m:=.tup2 (.nat (x%2^(64*k))) (.nat (x/2^(64*k)))) (callable_of Tryz.func129 rfl (by kernel_rfl)) (fun _ _ _ v h=>by obtain⟨a,b,rfl,h1,h2⟩:=h;exact⟨a,[b],rfl,⟨h1,rfl⟩,b,[],rfl,⟨h2,rfl⟩,rfl⟩) fun η F w vals h=>?_
 match vals,h with
 | [v0,v1],h=>
  obtain rfl:v1=.int .i64 (k:Int):=h.2.1
  exact cCut h.1.1 h0 hk
theorem sRaised{x k:Nat}(hs:nw x+k≤137438953472):CallOK Tryz.prog 132 [.nat x,iN k] (.nat (x*2^(64*k))) []:=by
 refine .of_ret (m:=.nat (x*2^(64*k))) (callable_of Tryz.func132 rfl (by kernel_rfl)) (fun _ _ _ v h=>⟨h,rfl⟩) fun η F w vals h=>?_
 match vals,h with
 | [v0,v1],h=>
  obtain rfl:v1=.int .i64 (k:Int):=h.2.1
  exact cRaised h.1.1 hs
theorem sMulStep{x y:Nat}(hs:nw x+nw y≤LIM)(ih:∀{x' y':Nat},max (nw x') (nw y')<max (nw x) (nw y)→nw x'+nw y'≤LIM→CallOK Tryz.prog 94 [.nat x',.nat y'] (.nat (x'*y')) []):CallOK Tryz.prog 94 [.nat x,.nat y] (.nat (x*y)) []:=by
 have hl:nw x+nw y≤68719476736:=hs
 obtain⟨k,hk⟩:∃k,k=(max (nw x) (nw y)+1)/2:=⟨_,rfl⟩
 exact kP (ch:=[.reg 1 [(1,.callS (iN (nw x)) []),(3,.callS (iN (nw y)) [])],.reg 2 [(2,.callS (.nat (x*y)) [])],.reg 3 [(1,.callS (iN (nw x)) []),(3,.callS (iN (nw y)) []),(5,.z ((max (nw x) (nw y)+1:Nat):Int)),(6,.z (k:Int))],.reg 4 [(2,.callS (c2 (.nat (x%2^(64*k))) (.nat (x/2^(64*k)))) [])],.reg 5 [(2,.callS (c2 (.nat (y%2^(64*k))) (.nat (y/2^(64*k)))) [])],.reg 6 [(2,.callS (.nat ((x%2^(64*k))*(y%2^(64*k)))) []),(5,.callS (.nat ((x/2^(64*k))*(y/2^(64*k)))) [])],.reg 7 [(2,.callS (.nat ((x%2^(64*k))+(x/2^(64*k)))) []),(5,.callS (.nat ((y%2^(64*k))+(y/2^(64*k)))) []),(6,.callS (.nat (((x%2^(64*k))+(x/2^(64*k)))*((y%2^(64*k))+(y/2^(64*k))))) [])],.reg 8 [(3,.callS (.nat (((x%2^(64*k))*(y%2^(64*k)))+((x/2^(64*k))*(y/2^(64*k))))) []),(4,.callS (c2 (.nat ((((x%2^(64*k))+(x/2^(64*k)))*((y%2^(64*k))+(y/2^(64*k))))-(((x%2^(64*k))*(y%2^(64*k)))+((x/2^(64*k))*(y/2^(64*k)))))) (bX (decide ((((x%2^(64*k))*(y%2^(64*k)))+((x/2^(64*k))*(y/2^(64*k))))≤(((x%2^(64*k))+(x/2^(64*k)))*((y%2^(64*k))+(y/2^(64*k)))))))) [])],.reg 9 [(3,.callS (.nat (((((x%2^(64*k))+(x/2^(64*k)))*((y%2^(64*k))+(y/2^(64*k))))-(((x%2^(64*k))*(y%2^(64*k)))+((x/2^(64*k))*(y/2^(64*k)))))*2^(64*k))) []),(6,.z ((2*k:Nat):Int)),(7,.callS (.nat (((x/2^(64*k))*(y/2^(64*k)))*2^(64*(2*k)))) []),(8,.callS (.nat ((((((x%2^(64*k))+(x/2^(64*k)))*((y%2^(64*k))+(y/2^(64*k))))-(((x%2^(64*k))*(y%2^(64*k)))+((x/2^(64*k))*(y/2^(64*k)))))*2^(64*k))+(((x/2^(64*k))*(y/2^(64*k)))*2^(64*(2*k))))) []),(9,.callS (.nat (((x%2^(64*k))*(y%2^(64*k)))+((((((x%2^(64*k))+(x/2^(64*k)))*((y%2^(64*k))+(y/2^(64*k))))-(((x%2^(64*k))*(y%2^(64*k)))+((x/2^(64*k))*(y/2^(64*k)))))*2^(64*k))+(((x/2^(64*k))*(y/2^(64*k)))*2^(64*(2*k)))))) [])]]) Tryz.func94 (_∧_∧(((decide ((min (((nw x:Nat):Int):Int) (nw y:Int):Int)<8))=true→_∧(_))∧((decide ((min (((nw x:Nat):Int):Int) (nw y:Int):Int)<8))=false→_∧_∧(IntKind.wrap .i64 ((max (((nw x:Nat):Int):Int) (nw y:Int):Int)+1)=(((max (nw x) (nw y)+1:Nat):Int)))∧((2:Int)≠0)∧(IntKind.wrap .i64 (((max (nw x) (nw y)+1:Nat):Int).tdiv 2)=((k:Int)))∧(CallOK Tryz.prog 129 [.nat x,iN k] (c2 (.nat (x%2^(64*k))) (.nat (x/2^(64*k)))) [])∧(CallOK Tryz.prog 129 [.nat y,iN k] (c2 (.nat (y%2^(64*k))) (.nat (y/2^(64*k)))) [])∧(CallOK Tryz.prog 94 [.nat (x%2^(64*k)),.nat (y%2^(64*k))] (.nat ((x%2^(64*k))*(y%2^(64*k)))) [])∧(CallOK Tryz.prog 94 [.nat (x/2^(64*k)),.nat (y/2^(64*k))] (.nat ((x/2^(64*k))*(y/2^(64*k)))) [])∧_∧_∧(CallOK Tryz.prog 94 [.nat ((x%2^(64*k))+(x/2^(64*k))),.nat ((y%2^(64*k))+(y/2^(64*k)))] (.nat (((x%2^(64*k))+(x/2^(64*k)))*((y%2^(64*k))+(y/2^(64*k))))) [])∧_∧_∧(CallOK Tryz.prog 132 [.nat ((((x%2^(64*k))+(x/2^(64*k)))*((y%2^(64*k))+(y/2^(64*k))))-(((x%2^(64*k))*(y%2^(64*k)))+((x/2^(64*k))*(y/2^(64*k))))),iN k] (.nat (((((x%2^(64*k))+(x/2^(64*k)))*((y%2^(64*k))+(y/2^(64*k))))-(((x%2^(64*k))*(y%2^(64*k)))+((x/2^(64*k))*(y/2^(64*k)))))*2^(64*k))) [])∧(IntKind.wrap .i64 ((2:Int)*(k:Int))=(((2*k:Nat):Int)))∧(CallOK Tryz.prog 132 [.nat ((x/2^(64*k))*(y/2^(64*k))),iN (2*k)] (.nat (((x/2^(64*k))*(y/2^(64*k)))*2^(64*(2*k)))) [])∧_∧_∧(((((x%2^(64*k))*(y%2^(64*k)))+((((((x%2^(64*k))+(x/2^(64*k)))*((y%2^(64*k))+(y/2^(64*k))))-(((x%2^(64*k))*(y%2^(64*k)))+((x/2^(64*k))*(y/2^(64*k)))))*2^(64*k))+(((x/2^(64*k))*(y/2^(64*k)))*2^(64*(2*k)))):Nat)=(x*y))))))
  ⟨sNatLen (x:=x),sNatLen (x:=y),fun hc20=>have hc20:=dT hc20;⟨sSchool (x:=x) (y:=y) zo,(rf (x*y:Nat))⟩,fun hc20=>have hc20:=dF hc20;have MF:=mul_facts hk zo zo hs;have hk0:=MF.k0;⟨sNatLen (x:=x),sNatLen (x:=y),(by rw[IntKind.wrap_i64];omega),(by decide),(by rw[IntKind.wrap_i64,Int.tdiv_eq_ediv_of_nonneg zo];omega),sCut zo zo,sCut zo zo,ih MF.m1 MF.l1,ih MF.m2 MF.l2,sNatAdd (x:=x%2^(64*k)) (y:=x/2^(64*k)) MF.s1,sNatAdd (x:=y%2^(64*k)) (y:=y/2^(64*k)) MF.s2,ih MF.m3 MF.l3,sNatAdd (x:=(x%2^(64*k))*(y%2^(64*k))) (y:=(x/2^(64*k))*(y/2^(64*k))) MF.s3,sNatSub (x:=((x%2^(64*k))+(x/2^(64*k)))*((y%2^(64*k))+(y/2^(64*k)))) (y:=((x%2^(64*k))*(y%2^(64*k)))+((x/2^(64*k))*(y/2^(64*k)))),sRaised MF.r1,(by rw[IntKind.wrap_i64];omega),sRaised MF.r2,sNatAdd (x:=((((x%2^(64*k))+(x/2^(64*k)))*((y%2^(64*k))+(y/2^(64*k))))-(((x%2^(64*k))*(y%2^(64*k)))+((x/2^(64*k))*(y/2^(64*k)))))*2^(64*k)) (y:=((x/2^(64*k))*(y/2^(64*k)))*2^(64*(2*k))) MF.s4,sNatAdd (x:=(x%2^(64*k))*(y%2^(64*k))) (y:=(((((x%2^(64*k))+(x/2^(64*k)))*((y%2^(64*k))+(y/2^(64*k))))-(((x%2^(64*k))*(y%2^(64*k)))+((x/2^(64*k))*(y/2^(64*k)))))*2^(64*k))+(((x/2^(64*k))*(y/2^(64*k)))*2^(64*(2*k)))) MF.s5,MF.eq⟩⟩
theorem sMulAll:∀(N:Nat) {x y:Nat},max (nw x) (nw y)<N→nw x+nw y≤LIM→CallOK Tryz.prog 94 [.nat x,.nat y] (.nat (x*y)) []
 | 0,_,_,h,_=>absurd h zo
 | N+1,_,_,h,hs=>sMulStep hs fun hlt hs'=>sMulAll N zo hs'
theorem sMul{x y:Nat}(hs:nw x+nw y≤LIM):CallOK Tryz.prog 94 [.nat x,.nat y] (.nat (x*y)) []:=sMulAll _ (Nat.lt_succ_self _) hs
open Go.RowKit
theorem small_add(p q:Rat)(h:szq p+szq q≤17179869184):Small ((p.num*(q.den:Int)).natAbs+(q.num*(p.den:Int)).natAbs):=by
 rw[Int.natAbs_mul,Int.natAbs_mul,Int.natAbs_natCast,Int.natAbs_natCast]
 have h3:=nw_add (p.num.natAbs*q.den) (q.num.natAbs*p.den)
 have h4:=nw_mul p.num.natAbs q.den
 have h5:=nw_mul q.num.natAbs p.den
 unfold Small
 unfold szq at h
 omega
theorem new_add(p q:Rat)(h:szq p+szq q≤17179869184):nw (p.num*(q.den:Int)+q.num*(p.den:Int)).natAbs<1099511627776∧nw (((p.den*q.den:Nat):Int)).natAbs<1099511627776:=by
 have h0:=nw_mono' (natAbs_add_nat (p.num*q.den) (q.num*p.den))
 rw[Int.natAbs_mul,Int.natAbs_mul,Int.natAbs_natCast,Int.natAbs_natCast] at h0
 have h3:=nw_add (p.num.natAbs*q.den) (q.num.natAbs*p.den)
 have h4:=nw_mul p.num.natAbs q.den
 have h5:=nw_mul q.num.natAbs p.den
 have h2:=nw_mul p.den q.den
 rw[Int.natAbs_natCast]
 unfold szq at*
 omega
theorem new_mul(p q:Rat)(h:szq p+szq q≤17179869184):nw (p.num*q.num).natAbs<1099511627776∧nw (((p.den*q.den:Nat):Int)).natAbs<1099511627776:=by
 rw[Int.natAbs_mul,Int.natAbs_natCast]
 have h1:=nw_mul p.num.natAbs q.num.natAbs
 have h2:=nw_mul p.den q.den
 unfold szq at*
 omega
theorem new_of{p:Int}(h1:-9223372036854775808≤p)(h2:p<9223372036854775808):nw p.natAbs<1099511627776:=by
 have:=nw_le_of (x:=p.natAbs) (k:=1) zo
 omega
theorem sign_zero(q:Rat):(q.num.sign==0)=decide (q=0):=by
 rw[Bool.eq_iff_iff]
 simp[Int.sign_eq_zero_iff_zero]
theorem num_zero(q:Rat):(!decide (q.num=0))=!decide (q=0):=by
 congr 1
 rw[Bool.eq_iff_iff]
 simp
theorem neg_denW(q:Rat):denW (-q)=denW q:=by unfold denW;simp
open Go.RowKit
theorem LIM_eq:LIM=68719476736:=by unfold LIM;rfl
theorem sQuotDivMod{x y:Nat}(hs:nw x<1099511627776):CallOK Tryz.prog 168 [.nat x,.nat y] (.cn (.nat (x/y)) (.cn (.nat (if y=0 then 0 else x%y)) (.cn (bX (!decide (y=0))) .nl))) []:=by
 refine .of_ret (m:=.tup3 (.nat (x/y)) (.nat (if y=0 then 0 else x%y)) (.eq (.bool (!decide (y=0))))) (callable_of Tryz.func168 rfl (by kernel_rfl)) (fun _ _ _ v h=>by obtain⟨a,b,c,rfl,h1,h2,h3⟩:=h;exact⟨a,[b,c],rfl,⟨h1,rfl⟩,b,[c],rfl,⟨h2,rfl⟩,c,[],rfl,h3,rfl⟩) fun η F w vals h=>?_
 match vals,h with
 | [v0,v1],h=>exact cQuotDivMod h.1.1 h.2.1.1 hs
theorem sQuotDivModP{x y:Nat}(hy:y≠0)(hs:nw x<1099511627776):CallOK Tryz.prog 168 [.nat x,.nat y] (.cn (.nat (x/y)) (.cn (.nat (x%y)) (.cn (bX true) .nl))) []:=by
 have h:=sQuotDivMod (x:=x) (y:=y) hs
 rw[if_neg hy,decide_eq_false hy] at h
 exact h
theorem gcd_turn{x y:Nat}{g:Nat×Nat}(h:Nat.gcd g.1 g.2=Nat.gcd x y∧nw g.1<1099511627776∧nw g.2<1099511627776)(hz:g.2≠0):Nat.gcd g.2 (g.1%g.2)=Nat.gcd x y∧nw g.2<1099511627776∧nw (g.1%g.2)<1099511627776:=by
 have:=nw_mono' (Nat.le_of_lt (Nat.mod_lt g.1 (Nat.pos_of_ne_zero hz)))
 exact⟨by rw[←h.1,Nat.gcd_comm g.1,Nat.gcd_comm g.2,←Nat.gcd_rec],h.2.2,by omega⟩
theorem natAbs_sg(b:Bool)(x:Nat):(signed b x).natAbs=x:=by unfold signed;split<;>omega
theorem signed_false(x:Nat):signed false x=(x:Int):=rfl
theorem signed_neg(z:Int):signed (!(decide (z<0))) z.natAbs=-z:=by
 unfold signed
 by_cases h:z<0<;>simp[h]<;>omega
theorem signed_mul2(y z:Int):signed (!((decide (y<0))==(decide (z<0)))) (y.natAbs*z.natAbs)=y*z:=by
 have e:((y.natAbs*z.natAbs:Nat):Int)=(y.natAbs:Int)*(z.natAbs:Int):=rfl
 unfold signed
 by_cases h:y<0<;>by_cases k:z<0<;>simp only[h,k,decide_true,decide_false,BEq.rfl,Bool.not_true,Bool.false_eq_true,if_false,e]
 ·rw[Int.ofNat_natAbs_of_nonpos zo,Int.ofNat_natAbs_of_nonpos zo,Int.neg_mul_neg]
 ·rw[Int.ofNat_natAbs_of_nonpos zo,Int.natAbs_of_nonneg zo,Int.neg_mul,Int.neg_neg];simp
 ·rw[Int.natAbs_of_nonneg zo,Int.ofNat_natAbs_of_nonpos zo,Int.mul_neg,Int.neg_neg];simp
 ·rw[Int.natAbs_of_nonneg zo,Int.natAbs_of_nonneg zo]
theorem signed_add1{y z:Int}(h:((decide (y<0))==(decide (z<0)))=true):signed (decide (y<0)) (y.natAbs+z.natAbs)=y+z:=by
 unfold signed
 by_cases hy:y<0<;>by_cases hz:z<0<;>simp[hy,hz] at h⊢<;>omega
theorem signed_add2{y z:Int}(h:((decide (y<0))==(decide (z<0)))=false)(k:z.natAbs≤y.natAbs):signed (decide (y<0)) (y.natAbs-z.natAbs)=y+z:=by
 unfold signed
 by_cases hy:y<0<;>by_cases hz:z<0<;>simp[hy,hz] at h⊢<;>omega
theorem signed_add3{y z:Int}(h:((decide (y<0))==(decide (z<0)))=false)(k:y.natAbs≤z.natAbs):signed (decide (z<0)) (z.natAbs-y.natAbs)=y+z:=by
 unfold signed
 by_cases hy:y<0<;>by_cases hz:z<0<;>simp[hy,hz] at h⊢<;>omega
theorem new_num2(a b:Int)(hb:b≠0):signed (!((decide (a<0))==(decide (b<0)))) (a.natAbs/Nat.gcd a.natAbs b.natAbs)=(Rat.divInt a b).num:=(new_num a b hb).symm
theorem new_den2(a b:Int)(hb:b≠0):b.natAbs/Nat.gcd a.natAbs b.natAbs=(Rat.divInt a b).den:=(new_den a b hb).symm
theorem cmpS1{y z:Int}(h:(bif !((decide (y<0))==(decide (z<0))) then decide (y<0) else false)=true):-1=cmpV y z:=by
 by_cases hy:y<0<;>by_cases hz:z<0<;>simp[hy,hz] at h
 unfold cmpV;rw[if_pos zo]
theorem cmpS2{y z:Int}(h:(bif !((decide (y<0))==(decide (z<0))) then decide (y<0) else false)=false)(k:(!((decide (y<0))==(decide (z<0))))=true):1=cmpV y z:=by
 by_cases hy:y<0<;>by_cases hz:z<0<;>simp[hy,hz] at h k
 unfold cmpV;rw[if_neg zo,if_neg zo]
theorem cmpS3{y z:Int}(k:(!((decide (y<0))==(decide (z<0))))=false)(hy:y<0):cmpV ((z.natAbs:Nat):Int) ((y.natAbs:Nat):Int)=cmpV y z:=by
 have hz:z<0:=by simpa [hy] using k
 unfold cmpV
 by_cases h:y<z
 ·rw[if_pos h,if_pos zo]
 ·by_cases e:y=z
  ·rw[if_neg h,if_neg zo,if_pos e,if_pos zo]
  ·rw[if_neg h,if_neg zo,if_neg e,if_neg zo]
theorem cmpS4{y z:Int}(k:(!((decide (y<0))==(decide (z<0))))=false)(hy:¬y<0):cmpV ((y.natAbs:Nat):Int) ((z.natAbs:Nat):Int)=cmpV y z:=by
 have hz:¬z<0:=by simpa [hy] using k
 rw[Int.natAbs_of_nonneg zo,Int.natAbs_of_nonneg zo]
theorem uint_one'(d:Nat):(bif uintOk d then decide (((uintV d:Nat):Int)=1) else false)=decide (d=1):=by
 rw[←uint_one];cases uintOk d<;>rfl
theorem sQuotDiv{x y:Nat}(hs:nw x<1099511627776):CallOK Tryz.prog 151 [.nat x,.nat y] (c2 (.nat (x/y)) (bX (!decide (y=0)))) []:=by
 exact kP (ch:=[.reg 1 [(2,.callS (c3 (.nat (x/y)) (.nat (if y=0 then 0 else x%y)) (bX (!decide (y=0)))) [])]]) Tryz.func151 (_∧(_∧_))
  ⟨sQuotDivMod (x:=x) (y:=y) zo,(rf (x/y:Nat)),(rf (!decide (y=0):Bool))⟩
theorem sQuotModP{x y:Nat}(hy:y≠0)(hs:nw x<1099511627776):CallOK Tryz.prog 167 [.nat x,.nat y] (c2 (.nat (x%y)) (bX true)) []:=by
 exact kP (ch:=[.reg 1 [(2,.callS (c3 (.nat (x/y)) (.nat (x%y)) (bX true)) [])]]) Tryz.func167 (_∧(_∧_))
  ⟨sQuotDivModP (x:=x) (y:=y) (by assumption) zo,(rf (x%y:Nat)),(rf (true:Bool))⟩
theorem sGcdOf{x y:Nat}(hx:nw x<1099511627776)(hy:nw y<1099511627776):CallOK Tryz.prog 150 [.nat x,.nat y] (.nat (Nat.gcd x y)) []:=by
 exact kP (ch:=[.loop 1 (Nat×Nat) (fun g=>(Nat.gcd g.1 g.2=Nat.gcd x y∧nw g.1<1099511627776∧nw g.2<1099511627776)) (fun g=>g.2) (fun g=>⟨[(2,.own 0 0),(3,.own 1 0),(4,.own 2 0)],[(0,.one (.var 43 (.nat g.1))),(1,.one (.var 43 (.nat g.2))),(2,.one (.var 43 (.ex (.agg #[.slice none 0 0]))))],3⟩) [(0,.id 0),(1,.id 1),(2,.id 2)] (fun _=>[(0,.id 0),(1,.id 1),(2,.id 2)]) (fun g=>[.reg 1 [(1,.callS (bX (decide (g.2=0))) [])],.reg 2 [(2,.callS (c2 (.nat (g.1%g.2)) (bX true)) [])]])]) Tryz.func150 ((((fun X1 X2 X3:Prop=>∃g0:Nat×Nat,X1∧X2∧X3∧((x:Nat)=g0.1)∧((y:Nat)=g0.2)∧((.agg #[.slice none 0 0]:Value)=.agg #[.slice none 0 0])∧((Nat.gcd g0.1 g0.2=Nat.gcd x y∧nw g0.1<1099511627776∧nw g0.2<1099511627776))) _ _ _)∧∀g:Nat×Nat,(Nat.gcd g.1 g.2=Nat.gcd x y∧nw g.1<1099511627776∧nw g.2<1099511627776)→_∧(((!(decide (g.2=0)))=true→_∧((fun X1 X2 X3:Prop=>∃g1:Nat×Nat,X1∧X2∧X3∧((g.2:Nat)=g1.1)∧((g.1%g.2:Nat)=g1.2)∧((.agg #[.slice none 0 0]:Value)=.agg #[.slice none 0 0])∧((Nat.gcd g1.1 g1.2=Nat.gcd x y∧nw g1.1<1099511627776∧nw g1.2<1099511627776))∧(g1.2<g.2)) _ _ _))∧((!(decide (g.2=0)))=false→(((g.1:Nat)=(Nat.gcd x y)))))))
  ⟨⟨(x,y),(rf 0),(rf 0),(rf 0),rfl,rfl,rfl,rfl,hx,hy⟩,fun g hg=>have hg2:=hg.2;⟨sNatZero (x:=g.2),fun hc9=>have hz:g.2≠0:=(by simpa using hc9);⟨sQuotModP (x:=g.1) (y:=g.2) hz hg2.1,(g.2,g.1%g.2),(rf 0),(rf 0),(rf 0),rfl,rfl,rfl,gcd_turn hg hz,(Nat.mod_lt _ (Nat.pos_of_ne_zero hz))⟩,fun hc9=>have hz:g.2=0:=(by simpa using hc9);(by rw[←hg.1,hz,Nat.gcd_zero_right])⟩⟩
theorem sGcdReduce{x y:Nat}(hx:nw x<1099511627776)(hy:nw y<1099511627776):CallOK Tryz.prog 123 [.nat x,.nat y] (c2 (.nat (x/Nat.gcd x y)) (.nat (y/Nat.gcd x y))) []:=by
 exact kP (ch:=[.reg 1 [(2,.callS (.nat (Nat.gcd x y)) [])],.reg 2 [(1,.callS (bX (decide (Nat.gcd x y=0))) [])],.reg 4 [(2,.callS (c2 (.nat (x/(Nat.gcd x y))) (bX (!decide ((Nat.gcd x y)=0)))) [])],.reg 5 [(2,.callS (c2 (.nat (y/(Nat.gcd x y))) (bX (!decide ((Nat.gcd x y)=0)))) [])]]) Tryz.func123 (_∧_∧(((decide (Nat.gcd x y=0))=true→(((x:Nat)=(x/Nat.gcd x y))∧((y:Nat)=(y/Nat.gcd x y))))∧((decide (Nat.gcd x y=0))=false→_∧_∧(((x/(Nat.gcd x y):Nat)=(x/Nat.gcd x y))∧((y/(Nat.gcd x y):Nat)=(y/Nat.gcd x y))))))
  ⟨sGcdOf (x:=x) (y:=y) zo zo,sNatZero (x:=Nat.gcd x y),fun hc15=>have hc15:=dT hc15;have h0:=Nat.gcd_eq_zero_iff.1 hc15;⟨(by rw[h0.1,Nat.zero_div]),(by rw[h0.2,Nat.zero_div])⟩,fun hc15=>have hc15:=dF hc15;⟨sQuotDiv (x:=x) (y:=Nat.gcd x y) zo,sQuotDiv (x:=y) (y:=Nat.gcd x y) zo,rfl,rfl⟩⟩
theorem sIntBelowG{z:Int}:CallOK Tryz.prog 126 [.agg (c2 (bX (decide (z<0))) (.nat z.natAbs))] (bX (decide (z<0))) []:=by
 exact kP (ch:=[]) Tryz.func126 ((_))
  (rf (decide (z<0):Bool))
theorem sIntBelow{z:Int}:CallOK Tryz.prog 126 [.int z] (bX (decide (z<0))) []:=(sIntBelowG).args fun _ _ _=>argI1
theorem sIntAbsG{z:Int}:CallOK Tryz.prog 124 [.agg (c2 (bX (decide (z<0))) (.nat z.natAbs))] (.nat z.natAbs) []:=by
 exact kP (ch:=[]) Tryz.func124 ((_))
  (rf (z.natAbs:Nat))
theorem sIntAbs{z:Int}:CallOK Tryz.prog 124 [.int z] (.nat z.natAbs) []:=(sIntAbsG).args fun _ _ _=>argI1
theorem sIntSignG{z:Int}:CallOK Tryz.prog 85 [.agg (c2 (bX (decide (z<0))) (.nat z.natAbs))] (.ex (.int .i64 z.sign)) []:=by
 exact kP (ch:=[.reg 3 [(2,.callS (bX (decide (z.natAbs=0))) [])]]) Tryz.func85 ((((decide (z<0))=true→(((-1:Int)=z.sign)))∧((decide (z<0))=false→_∧(((decide (z.natAbs=0))=true→(((0:Int)=z.sign)))∧((decide (z.natAbs=0))=false→(((1:Int)=z.sign)))))))
  ⟨fun hc3=>have hc3:=dT hc3;(Int.sign_eq_neg_one_of_neg hc3).symm,fun hc3=>have hc3:=dF hc3;⟨sNatZero (x:=z.natAbs),fun hc6=>have hc6:=dT hc6;(by rw[Int.natAbs_eq_zero.1 hc6];rfl),fun hc6=>have hc6:=dF hc6;(Int.sign_eq_one_of_pos zo).symm⟩⟩
theorem sIntSign{z:Int}:CallOK Tryz.prog 85 [.int z] (.ex (.int .i64 z.sign)) []:=(sIntSignG).args fun _ _ _=>argI1
theorem sIntNegG{z:Int}:CallOK Tryz.prog 116 [.agg (c2 (bX (decide (z<0))) (.nat z.natAbs))] (.int (-z)) []:=by
 exact kP (ch:=[.reg 1 [(5,.callS (.int (signed (!(decide (z<0))) z.natAbs)) [])]]) Tryz.func116 (_∧(((signed (!(decide (z<0))) z.natAbs:Int)=(-z))))
  ⟨sIntNew (b:=! (decide (z<0))) (x:=z.natAbs),(signed_neg z)⟩
theorem sIntNeg{z:Int}:CallOK Tryz.prog 116 [.int z] (.int (-z)) []:=(sIntNegG).args fun _ _ _=>argI1
theorem sIntCmpG{y z:Int}:CallOK Tryz.prog 133 [.agg (c2 (bX (decide (y<0))) (.nat y.natAbs)),.agg (c2 (bX (decide (z<0))) (.nat z.natAbs))] (.ex (.int .i64 (cmpV y z))) []:=by
 exact kP (ch:=[.reg 6 [(4,.callS (.ex (.int .i64 (cmpV ((z.natAbs:Nat):Int) ((y.natAbs:Nat):Int)))) [])],.reg 7 [(4,.callS (.ex (.int .i64 (cmpV ((y.natAbs:Nat):Int) ((z.natAbs:Nat):Int)))) [])]]) Tryz.func133 ((((!((decide (y<0))==(decide (z<0))))==true)=true→((!((decide (y<0))==(decide (z<0))))==true)=true)∧((!((decide (y<0))==(decide (z<0))))=true→((!((decide (y<0))==(decide (z<0))))==true)=true)∧(((bif (!((decide (y<0))==(decide (z<0)))) then(decide (y<0)) else false)=true→(((-1:Int)=(cmpV y z))))∧((bif (!((decide (y<0))==(decide (z<0)))) then(decide (y<0)) else false)=false→(((!((decide (y<0))==(decide (z<0))))=true→(((1:Int)=(cmpV y z))))∧((!((decide (y<0))==(decide (z<0))))=false→(((decide (y<0))=true→_∧(((cmpV ((z.natAbs:Nat):Int) ((y.natAbs:Nat):Int):Int)=(cmpV y z))))∧((decide (y<0))=false→_∧(((cmpV ((y.natAbs:Nat):Int) ((z.natAbs:Nat):Int):Int)=(cmpV y z))))))))))
  ⟨id,(by simp),fun hc5=>(cmpS1 hc5),fun hc5=>⟨fun hc15=>(cmpS2 hc5 hc15),fun hc15=>⟨fun hc21=>have hc21:=dT hc21;⟨sNatCmp (x:=z.natAbs) (y:=y.natAbs),(cmpS3 hc15 hc21)⟩,fun hc21=>have hc21:=dF hc21;⟨sNatCmp (x:=y.natAbs) (y:=z.natAbs),(cmpS4 hc15 hc21)⟩⟩⟩⟩
theorem sIntCmp{y z:Int}:CallOK Tryz.prog 133 [.int y,.int z] (.ex (.int .i64 (cmpV y z))) []:=(sIntCmpG).args fun _ _ _=>argI2
theorem sIntAddG{y z:Int}(hs:Small (y.natAbs+z.natAbs)):CallOK Tryz.prog 122 [.agg (c2 (bX (decide (y<0))) (.nat y.natAbs)),.agg (c2 (bX (decide (z<0))) (.nat z.natAbs))] (.int (y+z)) []:=by
 exact kP (ch:=[.reg 2 [(6,.callS (.nat (y.natAbs+z.natAbs)) []),(7,.callS (.int (signed (decide (y<0)) (y.natAbs+z.natAbs))) [])],.reg 3 [(4,.callS (c2 (.nat (y.natAbs-z.natAbs)) (bX (decide (z.natAbs≤y.natAbs)))) [])],.reg 5 [(3,.callS (.int (signed (decide (y<0)) (y.natAbs-z.natAbs))) [])],.reg 6 [(4,.callS (c2 (.nat (z.natAbs-y.natAbs)) (bX (decide (y.natAbs≤z.natAbs)))) [])],.reg 7 [(3,.callS (.int (signed (decide (z<0)) (z.natAbs-y.natAbs))) [])]]) Tryz.func122 (((((decide (y<0))==(decide (z<0)))=true→_∧_∧(((signed (decide (y<0)) (y.natAbs+z.natAbs):Int)=(y+z))))∧(((decide (y<0))==(decide (z<0)))=false→_∧(((decide (z.natAbs≤y.natAbs))=true→_∧(((signed (decide (y<0)) (y.natAbs-z.natAbs):Int)=(y+z))))∧((decide (z.natAbs≤y.natAbs))=false→_∧_∧(((signed (decide (z<0)) (z.natAbs-y.natAbs):Int)=(y+z))))))))
  ⟨fun hc13=>⟨sNatAdd (x:=y.natAbs) (y:=z.natAbs) (by assumption),sIntNew (b:=decide (y<0)) (x:=y.natAbs+z.natAbs),(signed_add1 hc13)⟩,fun hc13=>⟨sNatSub (x:=y.natAbs) (y:=z.natAbs),fun hc30=>have hc30:=dT hc30;⟨sIntNew (b:=decide (y<0)) (x:=y.natAbs-z.natAbs),(signed_add2 hc13 hc30)⟩,fun hc30=>have hc30:=dF hc30;⟨sNatSub (x:=z.natAbs) (y:=y.natAbs),sIntNew (b:=decide (z<0)) (x:=z.natAbs-y.natAbs),(signed_add3 hc13 (Nat.le_of_not_le hc30))⟩⟩⟩
theorem sIntAdd{y z:Int}(hs:Small (y.natAbs+z.natAbs)):CallOK Tryz.prog 122 [.int y,.int z] (.int (y+z)) []:=(sIntAddG hs).args fun _ _ _=>argI2
theorem sIntMulG{y z:Int}(hs:nw y.natAbs+nw z.natAbs≤LIM):CallOK Tryz.prog 93 [.agg (c2 (bX (decide (y<0))) (.nat y.natAbs)),.agg (c2 (bX (decide (z<0))) (.nat z.natAbs))] (.int (y*z)) []:=by
 exact kP (ch:=[.reg 1 [(9,.callS (.nat (y.natAbs*z.natAbs)) []),(10,.callS (.int (signed (!((decide (y<0))==(decide (z<0)))) (y.natAbs*z.natAbs))) [])]]) Tryz.func93 (_∧_∧(((signed (!((decide (y<0))==(decide (z<0)))) (y.natAbs*z.natAbs):Int)=(y*z))))
  ⟨sMul (x:=y.natAbs) (y:=z.natAbs) hs,sIntNew (b:=! ((decide (y<0))==(decide (z<0)))) (x:=y.natAbs*z.natAbs),(signed_mul2 y z)⟩
theorem sIntMul{y z:Int}(hs:nw y.natAbs+nw z.natAbs≤LIM):CallOK Tryz.prog 93 [.int y,.int z] (.int (y*z)) []:=(sIntMulG hs).args fun _ _ _=>argI2
theorem sIntOf{x:Int}(hl:-9223372036854775808≤x)(hu:x<9223372036854775808):CallOK Tryz.prog 51 [.ex (.int .i64 x)] (.int x) []:=by
 exact kP (ch:=[.reg 2 [(1,.z (x+18446744073709551616)),(2,.z ((x.natAbs:Nat):Int)),(4,.callS (.nat x.natAbs) []),(5,.callS (.int (signed true x.natAbs)) [])],.reg 3 [(1,.z ((x.natAbs:Nat):Int)),(3,.callS (.nat x.natAbs) []),(4,.callS (.int (signed false x.natAbs)) [])]]) Tryz.func51 ((((decide ((x:Int)<0))=true→(IntKind.wrap .u64 (x:Int)=(x+18446744073709551616))∧(IntKind.wrap .u64 (0-(x+18446744073709551616))=(((x.natAbs:Nat):Int)))∧_∧_∧(((signed true x.natAbs:Int)=x)))∧((decide ((x:Int)<0))=false→(IntKind.wrap .u64 (x:Int)=(((x.natAbs:Nat):Int)))∧_∧_∧(((signed false x.natAbs:Int)=x)))))
  ⟨fun hc4=>have hc4:=dT hc4;⟨(by rw[IntKind.wrap_u64];omega),(by rw[IntKind.wrap_u64];omega),sNatOf1 (k:=x.natAbs) zo,sIntNew (b:=true) (x:=x.natAbs),(by unfold signed;rw[if_pos rfl];omega)⟩,fun hc4=>have hc4:=dF hc4;⟨(by rw[IntKind.wrap_u64];omega),sNatOf1 (k:=x.natAbs) zo,sIntNew (b:=false) (x:=x.natAbs),(by unfold signed;rw[if_neg (by decide)];omega)⟩⟩
theorem sRatDenG{q:Rat}:CallOK Tryz.prog 95 [.agg (c2 (.int q.num) (.nat (denW q)))] (.nat q.den) []:=by
 exact kP (ch:=[.reg 1 [(2,.callS (bX (decide (denW q=0))) [])],.reg 2 [(1,.callS (.nat 1) [])]]) Tryz.func95 (_∧(((decide (denW q=0))=true→(CallOK Tryz.prog 89 [.sl 1 (fun _=>.ex (.int .u64 1)) 1] (.nat 1) [])∧(((1:Nat)=q.den)))∧((decide (denW q=0))=false→(((denW q:Nat)=q.den)))))
  ⟨sNatZero (x:=denW q),fun hc5=>have hc5:=dT hc5;⟨sNatOf1 (k:=1) (by decide),((denW_zero q).1 hc5).symm⟩,fun hc5=>have hc5:=dF hc5;(denW_ne fun e=>hc5 ((denW_zero q).2 e))⟩
theorem sRatBelowG{q:Rat}:CallOK Tryz.prog 121 [.agg (c2 (.int q.num) (.nat (denW q)))] (.int ((q.den:Nat):Int)) []:=by
 exact kP (ch:=[.reg 1 [(1,.callS (.nat q.den) []),(2,.callS (.int (signed false q.den)) [])]]) Tryz.func121 (_∧_∧(((signed false q.den:Int)=((q.den:Nat):Int))))
  ⟨sRatDenG (q:=q),sIntNew (b:=false) (x:=q.den),rfl⟩
theorem sRatZeroG{q:Rat}:CallOK Tryz.prog 44 [.agg (c2 (.int q.num) (.nat (denW q)))] (bX (decide (q=0))) []:=by
 exact kP (ch:=[.reg 1 [(2,.callS (.ex (.int .i64 q.num.sign)) [])]]) Tryz.func44 (_∧(((decide ((q.num.sign:Int)=0):Bool)=(decide (q=0)))))
  ⟨sIntSign (z:=q.num),(sign_zero q)⟩
theorem sRatZero{q:Rat}:CallOK Tryz.prog 44 [.rat q] (bX (decide (q=0))) []:=(sRatZeroG).args fun _ _ _=>argQ1
theorem sRatNegG{q:Rat}:CallOK Tryz.prog 84 [.agg (c2 (.int q.num) (.nat (denW q)))] (.agg (c2 (.int ((-q).num)) (.nat (denW (-q))))) []:=by
 exact kP (ch:=[.reg 1 [(2,.callS (.int (-q.num)) [])]]) Tryz.func84 (_∧(((-q.num:Int)=((-q).num))∧((denW q:Nat)=(denW (-q)))))
  ⟨sIntNeg (z:=q.num),(by rw[Rat.neg_num]),(neg_denW q).symm⟩
theorem sRatNeg{q:Rat}:CallOK Tryz.prog 84 [.rat q] (.rat (-q)) []:=((sRatNegG).args fun _ _ _=>argQ1).res fun _ _ _ _=>rat_close
theorem sRatBare1{q:Rat}(hd:q.den=1):CallOK Tryz.prog 125 [.int q.num,.nat q.den] (.agg (c2 (.int q.num) (.ex (.slice none 0 0)))) []:=by
 exact kP (ch:=[.reg 1 [(1,.callS (c2 (.ex (.int .u64 (uintV q.den:Int))) (bX (uintOk q.den))) [])],.dec 16 true]) Tryz.func125 (_∧(((uintOk q.den)==true)=true→((uintOk q.den)==true)=true)∧((uintOk q.den)=true→((uintOk q.den)==true)=true)∧((bif (uintOk q.den) then(decide (((uintV q.den:Nat):Int)=1)) else false)=true)∧(_))
  ⟨sNatUint (x:=q.den),id,(fun h=>by simpa using h),(by rw[uint_one',decide_eq_true hd]),(rf (q.num:Int))⟩
theorem sRatBare2{q:Rat}(hd:q.den≠1):CallOK Tryz.prog 125 [.int q.num,.nat q.den] (.agg (c2 (.int q.num) (.nat (denW q)))) []:=by
 exact kP (ch:=[.reg 1 [(1,.callS (c2 (.ex (.int .u64 (uintV q.den:Int))) (bX (uintOk q.den))) [])],.dec 16 false]) Tryz.func125 (_∧(((uintOk q.den)==true)=true→((uintOk q.den)==true)=true)∧((uintOk q.den)=true→((uintOk q.den)==true)=true)∧((bif (uintOk q.den) then(decide (((uintV q.den:Nat):Int)=1)) else false)=false)∧(_∧((q.den:Nat)=(denW q))))
  ⟨sNatUint (x:=q.den),id,(fun h=>by simpa using h),(by rw[uint_one',decide_eq_false hd]),(rf (q.num:Int)),(denW_ne hd).symm⟩
theorem sRatBare{q:Rat}:CallOK Tryz.prog 125 [.int q.num,.nat q.den] (.rat q) []:=by
 by_cases hd:q.den=1
 ·exact(sRatBare1 hd).res fun _ _ _ _=>rat_close1 hd
 ·exact(sRatBare2 hd).res fun _ _ _ _=>rat_close
theorem sRatNew{y z:Int}(hy:nw y.natAbs<1099511627776)(hz:nw z.natAbs<1099511627776):CallOK Tryz.prog 92 [.int y,.int z] (c2 (.rat (Rat.divInt y z)) (bX (!decide (z=0)))) []:=by
 exact kP (ch:=[.reg 1 [(1,.callS (.ex (.int .i64 z.sign)) [])],.reg 3 [(1,.callS (.nat y.natAbs) []),(3,.callS (.nat z.natAbs) []),(4,.callS (c2 (.nat (y.natAbs/Nat.gcd y.natAbs z.natAbs)) (.nat (z.natAbs/Nat.gcd y.natAbs z.natAbs))) [])],.reg 4 [(1,.callS (bX (decide (y<0))) []),(3,.callS (bX (decide (z<0))) []),(6,.callS (.int (signed (!((decide (y<0))==(decide (z<0)))) (y.natAbs/Nat.gcd y.natAbs z.natAbs))) []),(8,.call [.int ((Rat.divInt y z).num),.nat ((Rat.divInt y z).den)] (.rat (Rat.divInt y z)) [])]]) Tryz.func92 (_∧(((decide ((z.sign:Int)=0))=true→(((Rat.divInt y z:Rat)=0)∧((false:Bool)=(!decide (z=0)))))∧((decide ((z.sign:Int)=0))=false→_∧_∧_∧_∧_∧_∧(CallOK Tryz.prog 125 [.int ((Rat.divInt y z).num),.nat ((Rat.divInt y z).den)] (.rat (Rat.divInt y z)) [])∧((signed (!((decide (y<0))==(decide (z<0)))) (y.natAbs/Nat.gcd y.natAbs z.natAbs):Int)=((Rat.divInt y z).num))∧((z.natAbs/Nat.gcd y.natAbs z.natAbs:Nat)=((Rat.divInt y z).den))∧(_∧((true:Bool)=(!decide (z=0)))))))
  ⟨sIntSign (z:=z),fun hc10=>have hc10:=dT hc10;have h0:z=0:=Int.sign_eq_zero_iff_zero.1 hc10;⟨(by rw[h0,divInt_zero]),(by rw[h0];rfl)⟩,fun hc10=>have hc10:=dF hc10;have h0:z≠0:=fun e=>hc10 (by rw[e];rfl);⟨sIntAbs (z:=y),sIntAbs (z:=z),sGcdReduce (x:=y.natAbs) (y:=z.natAbs) zo zo,sIntBelow (z:=y),sIntBelow (z:=z),sIntNew (b:=! ((decide (y<0))==(decide (z<0)))) (x:=y.natAbs/Nat.gcd y.natAbs z.natAbs),sRatBare,(by rw[new_num2 y z h0]),(by rw[new_den2 y z h0]),(rf (Rat.divInt y z:Rat)),(by simp[h0])⟩⟩
theorem sRatInvG{q:Rat}(hs:szq q≤17179869184):CallOK Tryz.prog 90 [.agg (c2 (.int q.num) (.nat (denW q)))] (c2 (.rat (q⁻¹)) (bX (!decide (q=0)))) []:=by
 have n2:=szq_num q;have d2:=szq_den q
 have e2:nw ((q.den:Nat):Int).natAbs≤szq q:=d2
 exact kP (ch:=[.reg 1 [(1,.callS (.int ((q.den:Nat):Int)) []),(4,.callS (c2 (.rat (Rat.divInt ((q.den:Nat):Int) q.num)) (bX (!decide (q.num=0)))) [])]]) Tryz.func90 (_∧_∧(((Rat.divInt ((q.den:Nat):Int) q.num:Rat)=(q⁻¹))∧((!decide (q.num=0):Bool)=(!decide (q=0)))))
  ⟨sRatBelowG (q:=q),sRatNew (y:=((q.den:Nat):Int)) (z:=q.num) zo zo,(Rat.inv_def q).symm,(num_zero q)⟩
theorem sRatInv{q:Rat}(hs:szq q≤17179869184):CallOK Tryz.prog 90 [.rat q] (c2 (.rat (q⁻¹)) (bX (!decide (q=0)))) []:=(sRatInvG hs).args fun _ _ _=>argQ1
theorem sRatAddG{p q:Rat}(hs:szq p+szq q≤17179869184):CallOK Tryz.prog 91 [.agg (c2 (.int p.num) (.nat (denW p))),.agg (c2 (.int q.num) (.nat (denW q)))] (.rat (p+q)) []:=by
 have hL:=LIM_eq
 have n1:=szq_num p;have d1:=szq_den p;have n2:=szq_num q;have d2:=szq_den q
 have e1:nw ((p.den:Nat):Int).natAbs≤szq p:=d1
 have e2:nw ((q.den:Nat):Int).natAbs≤szq q:=d2
 have m:=new_add p q hs
 have m2:nw (signed false (p.den*q.den)).natAbs<1099511627776:=by rw[natAbs_sg];exact m.2
 exact kP (ch:=[.reg 1 [(3,.callS (.int ((q.den:Nat):Int)) []),(4,.callS (.int (p.num*((q.den:Nat):Int))) []),(8,.callS (.int ((p.den:Nat):Int)) []),(9,.callS (.int (q.num*((p.den:Nat):Int))) []),(10,.callS (.int ((p.num*((q.den:Nat):Int))+(q.num*((p.den:Nat):Int)))) [])],.reg 2 [(2,.callS (.nat p.den) []),(4,.callS (.nat q.den) []),(5,.callS (.nat (p.den*q.den)) []),(6,.callS (.int (signed false (p.den*q.den))) []),(7,.callS (c2 (.rat (Rat.divInt ((p.num*((q.den:Nat):Int))+(q.num*((p.den:Nat):Int))) (signed false (p.den*q.den)))) (bX (!decide ((signed false (p.den*q.den))=0)))) [])]]) Tryz.func91 (_∧_∧(CallOK Tryz.prog 121 [.agg (c2 (.int p.num) (.nat (denW p)))] (.int ((p.den:Nat):Int)) [])∧_∧_∧(CallOK Tryz.prog 95 [.agg (c2 (.int p.num) (.nat (denW p)))] (.nat p.den) [])∧_∧_∧_∧_∧(((Rat.divInt ((p.num*((q.den:Nat):Int))+(q.num*((p.den:Nat):Int))) (signed false (p.den*q.den)):Rat)=(p+q))))
  ⟨sRatBelowG (q:=q),sIntMul (y:=p.num) (z:=((q.den:Nat):Int)) zo,sRatBelowG,sIntMul (y:=q.num) (z:=((p.den:Nat):Int)) zo,sIntAdd (y:=(p.num*((q.den:Nat):Int))) (z:=(q.num*((p.den:Nat):Int))) (small_add p q hs),sRatDenG,sRatDenG (q:=q),sMul (x:=p.den) (y:=q.den) zo,sIntNew (b:=false) (x:=p.den*q.den),sRatNew (y:=((p.num*((q.den:Nat):Int))+(q.num*((p.den:Nat):Int)))) (z:=signed false (p.den*q.den)) m.1 m2,(by rw[signed_false];exact(add_as p q).symm)⟩
theorem sRatAdd{p q:Rat}(hs:szq p+szq q≤17179869184):CallOK Tryz.prog 91 [.rat p,.rat q] (.rat (p+q)) []:=(sRatAddG hs).args fun _ _ _=>argQ2
theorem sRatMulG{p q:Rat}(hs:szq p+szq q≤17179869184):CallOK Tryz.prog 55 [.agg (c2 (.int p.num) (.nat (denW p))),.agg (c2 (.int q.num) (.nat (denW q)))] (.rat (p*q)) []:=by
 have hL:=LIM_eq
 have n1:=szq_num p;have d1:=szq_den p;have n2:=szq_num q;have d2:=szq_den q
 have e1:nw ((p.den:Nat):Int).natAbs≤szq p:=d1
 have e2:nw ((q.den:Nat):Int).natAbs≤szq q:=d2
 have m:=new_mul p q hs
 have m2:nw (signed false (p.den*q.den)).natAbs<1099511627776:=by rw[natAbs_sg];exact m.2
 exact kP (ch:=[.reg 1 [(4,.callS (.int (p.num*q.num)) []),(6,.callS (.nat p.den) []),(8,.callS (.nat q.den) []),(9,.callS (.nat (p.den*q.den)) []),(10,.callS (.int (signed false (p.den*q.den))) []),(11,.callS (c2 (.rat (Rat.divInt (p.num*q.num) (signed false (p.den*q.den)))) (bX (!decide ((signed false (p.den*q.den))=0)))) [])]]) Tryz.func55 (_∧(CallOK Tryz.prog 95 [.agg (c2 (.int p.num) (.nat (denW p)))] (.nat p.den) [])∧_∧_∧_∧_∧(((Rat.divInt (p.num*q.num) (signed false (p.den*q.den)):Rat)=(p*q))))
  ⟨sIntMul (y:=p.num) (z:=q.num) zo,sRatDenG,sRatDenG (q:=q),sMul (x:=p.den) (y:=q.den) zo,sIntNew (b:=false) (x:=p.den*q.den),sRatNew (y:=p.num*q.num) (z:=signed false (p.den*q.den)) m.1 m2,(by rw[signed_false];exact(mul_as p q).symm)⟩
theorem sRatMul{p q:Rat}(hs:szq p+szq q≤17179869184):CallOK Tryz.prog 55 [.rat p,.rat q] (.rat (p*q)) []:=(sRatMulG hs).args fun _ _ _=>argQ2
theorem sRatCmpG{p q:Rat}(hs:szq p+szq q≤17179869184):CallOK Tryz.prog 96 [.agg (c2 (.int p.num) (.nat (denW p))),.agg (c2 (.int q.num) (.nat (denW q)))] (.ex (.int .i64 (cmpQ p q))) []:=by
 have hL:=LIM_eq
 have n1:=szq_num p;have d1:=szq_den p;have n2:=szq_num q;have d2:=szq_den q
 have e1:nw ((p.den:Nat):Int).natAbs≤szq p:=d1
 have e2:nw ((q.den:Nat):Int).natAbs≤szq q:=d2
 exact kP (ch:=[.reg 1 [(3,.callS (.int ((q.den:Nat):Int)) []),(4,.callS (.int (p.num*((q.den:Nat):Int))) []),(8,.callS (.int ((p.den:Nat):Int)) []),(9,.callS (.int (q.num*((p.den:Nat):Int))) []),(10,.callS (.ex (.int .i64 (cmpV (p.num*((q.den:Nat):Int)) (q.num*((p.den:Nat):Int))))) [])]]) Tryz.func96 (_∧_∧(CallOK Tryz.prog 121 [.agg (c2 (.int p.num) (.nat (denW p)))] (.int ((p.den:Nat):Int)) [])∧_∧_∧(((cmpV (p.num*((q.den:Nat):Int)) (q.num*((p.den:Nat):Int)):Int)=(cmpQ p q))))
  ⟨sRatBelowG (q:=q),sIntMul (y:=p.num) (z:=((q.den:Nat):Int)) zo,sRatBelowG,sIntMul (y:=q.num) (z:=((p.den:Nat):Int)) zo,sIntCmp (y:=(p.num*((q.den:Nat):Int))) (z:=(q.num*((p.den:Nat):Int))),(cmpQ_eq p q)⟩
theorem sRatCmp{p q:Rat}(hs:szq p+szq q≤17179869184):CallOK Tryz.prog 96 [.rat p,.rat q] (.ex (.int .i64 (cmpQ p q))) []:=(sRatCmpG hs).args fun _ _ _=>argQ2
theorem sRatSub{p q:Rat}(hs:szq p+szq q≤17179869184):CallOK Tryz.prog 54 [.rat p,.rat q] (.rat (p-q)) []:=by
 exact kP (ch:=[.reg 1 [(2,.callS (.rat (-q)) []),(3,.callS (.rat (p+(-q))) [])]]) Tryz.func54 (_∧_∧(((p+(-q):Rat)=(p-q))))
  ⟨sRatNeg (q:=q),sRatAdd (p:=p) (q:=-q) (by rw[szq_neg];exact hs),(Rat.sub_eq_add_neg p q).symm⟩
theorem sRatDiv{p q:Rat}(hs:szq p+szq q+1≤17179869184):CallOK Tryz.prog 53 [.rat p,.rat q] (c2 (.rat (p/q)) (bX (!decide (q=0)))) []:=by
 have hi:=szq_inv q
 exact kP (ch:=[.reg 1 [(1,.callS (c2 (.rat (q⁻¹)) (bX (!decide (q=0)))) [])],.reg 4 [(2,.callS (.rat (p*(q⁻¹))) [])]]) Tryz.func53 (_∧(((!(!decide (q=0)))=true→(((p/q:Rat)=0)∧((false:Bool)=(!decide (q=0)))))∧((!(!decide (q=0)))=false→_∧(((p*(q⁻¹):Rat)=(p/q))∧((true:Bool)=(!decide (q=0)))))))
  ⟨sRatInv (q:=q) zo,fun hc14=>have hz:q=0:=(by simpa using hc14);⟨(by rw[hz,Rat.div_def,Rat.inv_zero,Rat.mul_zero]),(by rw[hz];rfl)⟩,fun hc14=>have hz:¬q=0:=(by simpa using hc14);⟨sRatMul (p:=p) (q:=q⁻¹) (by first | assumption | omega),(Rat.div_def p q).symm,(by simp[hz])⟩⟩
theorem sRatInt0{x:Int}(hl:-9223372036854775808≤x)(hu:x<9223372036854775808):CallOK Tryz.prog 16 [.ex (.int .i64 x)] (.agg (c2 (.int x) (.ex (.slice none 0 0)))) []:=by
 exact kP (ch:=[.reg 1 [(1,.callS (.int x) [])]]) Tryz.func16 (_∧(_))
  ⟨sIntOf (x:=x) zo zo,(rf (x:Int))⟩
theorem sRatInt{x:Int}(hl:-9223372036854775808≤x)(hu:x<9223372036854775808):CallOK Tryz.prog 16 [.ex (.int .i64 x)] (.rat ((x:Int):Rat)) []:=(sRatInt0 hl hu).res fun _ _ _ _ h=>rat_close1 (q:=((x:Int):Rat)) (Rat.den_intCast x) (by rw[Rat.num_intCast];exact h)
theorem sRatOf{x y:Int}(hl:-9223372036854775808≤x)(hu:x<9223372036854775808)(hl2:-9223372036854775808≤y)(hu2:y<9223372036854775808):CallOK Tryz.prog 87 [.ex (.int .i64 x),.ex (.int .i64 y)] (c2 (.rat (Rat.divInt x y)) (bX (!decide (y=0)))) []:=by
 exact kP (ch:=[.reg 1 [(1,.callS (.int x) []),(3,.callS (.int y) []),(4,.callS (c2 (.rat (Rat.divInt x y)) (bX (!decide (y=0)))) [])]]) Tryz.func87 (_∧_∧_∧(_∧_))
  ⟨sIntOf (x:=x) zo zo,sIntOf (x:=y) zo zo,sRatNew (y:=x) (z:=y) (new_of hl hu) (new_of hl2 hu2),(rf (Rat.divInt x y:Rat)),(rf (!decide (y=0):Bool))⟩
open Go.RowKit
def cmpFrom (a b:Nat→Rat):Nat→Nat→Int
 | 0,_=>0
 | k+1,i=>if a i=b i then cmpFrom a b k (i+1) else cmpQ (a i) (b i)
def cmpVec (a:Nat→Rat) (n:Nat) (b:Nat→Rat) (m:Nat):Int:=
 if cmpFrom a b (min n m) 0=0 then(if n<m then-1 else if n>m then 1 else 0) else cmpFrom a b (min n m) 0
theorem cmpQ_zero(p q:Rat):cmpQ p q=0↔p=q:=by unfold cmpQ;grind
theorem cmp_zero{p q:Rat}(h:((cmpQ p q:Int)!=(0:Int))=false):p=q:=(cmpQ_zero p q).1 (by simpa using h)
theorem cmp_nz{p q:Rat}(h:((cmpQ p q:Int)!=(0:Int))=true):p≠q:=fun e=>by
 rw[(cmpQ_zero p q).2 e] at h
 exact absurd h (by decide)
theorem eq_step{a b:Nat→Rat}{i:Nat}(h:∀j,j<i→a j=b j)(e:a i=b i):∀j,j<i+1→a j=b j:=fun j hj=>by
 by_cases hji:j=i
 ·subst hji;exact e
 ·exact h j zo
theorem cmpFrom_skip{a b:Nat→Rat}:∀(i:Nat) {N:Nat},i≤N→(∀j,j<i→a j=b j)→cmpFrom a b N 0=cmpFrom a b (N-i) i
 | 0,_,_,_=>rfl
 | i+1,N,h,he=>by
  rw[cmpFrom_skip i zo fun j hj=>he j zo]
  have e:N-i=(N-(i+1))+1:=by omega
  rw[e]
  show(if a i=b i then _ else _)=_
  rw[if_pos (he i zo)]
theorem cmpVec_at{a b:Nat→Rat}{n m i:Nat}(h1:i<n)(h2:i<m)(he:∀j,j<i→a j=b j)(hd:a i≠b i):cmpVec a n b m=cmpQ (a i) (b i):=by
 have e:cmpFrom a b (min n m) 0=cmpQ (a i) (b i):=by
  rw[cmpFrom_skip i zo he]
  have e:min n m-i=(min n m-(i+1))+1:=by omega
  rw[e]
  show(if a i=b i then _ else _)=_
  rw[if_neg hd]
 unfold cmpVec
 rw[e,if_neg fun h=>hd ((cmpQ_zero _ _).1 h)]
theorem cmpVec_end{a b:Nat→Rat}{n m i:Nat}{z:Int}(h1:i≤n)(h2:i≤m)(h3:min n m≤i)(he:∀j,j<i→a j=b j)
  (hz:(z=-1∧decide ((((n:Nat):Int):Int)<(((m:Nat):Int):Int))=true)∨(z=1∧decide ((((n:Nat):Int):Int)<(((m:Nat):Int):Int))=false∧decide ((((n:Nat):Int):Int)>(((m:Nat):Int):Int))=true)∨(z=0∧decide ((((n:Nat):Int):Int)<(((m:Nat):Int):Int))=false∧decide ((((n:Nat):Int):Int)>(((m:Nat):Int):Int))=false)):cmpVec a n b m=z:=by
 have e:cmpFrom a b (min n m) 0=0:=by
  rw[cmpFrom_skip i zo he,show min n m-i=0 by omega]
  rfl
 unfold cmpVec
 rw[if_pos e]
 rcases hz with⟨rfl,h⟩ | ⟨rfl,h,h'⟩ | ⟨rfl,h,h'⟩
 ·have:=of_decide_eq_true h
  rw[if_pos zo]
 ·have:=of_decide_eq_true h'
  rw[if_neg zo,if_pos zo]
 ·have:=of_decide_eq_false h
  have:=of_decide_eq_false h'
  rw[if_neg zo,if_neg zo]
theorem cmpVec_zero{a b:Nat→Rat}{n m:Nat}:cmpVec a n b m=0↔n=m∧∀j,j<n→a j=b j:=by
 have key:∀k i,cmpFrom a b k i=0↔∀j,i≤j→j<i+k→a j=b j:=by
  intro k
  induction k with
  | zero=>intro i;exact⟨fun _ j h1 h2=>by omega,fun _=>rfl⟩
  | succ k ih=>
   intro i
   show(if a i=b i then _ else _)=0↔_
   by_cases h:a i=b i
   ·rw[if_pos h,ih]
    exact⟨fun hh j h1 h2=>by
     by_cases e:j=i
     ·subst e;exact h
     ·exact hh j zo zo,fun hh j h1 h2=>hh j zo zo⟩
   ·rw[if_neg h,cmpQ_zero]
    exact⟨fun e=>absurd e h,fun hh=>absurd (hh i zo zo) h⟩
 unfold cmpVec
 by_cases h:cmpFrom a b (min n m) 0=0
 ·rw[if_pos h]
  rw[key] at h
  constructor
  ·intro hz
   have hnm:n=m:=by
    by_cases h1:n<m
    ·rw[if_pos h1] at hz;omega
    ·rw[if_neg h1] at hz
     by_cases h2:n>m
     ·rw[if_pos h2] at hz;omega
     ·omega
   exact⟨hnm,fun j hj=>h j zo zo⟩
  ·rintro⟨rfl,_⟩
   rw[if_neg zo,if_neg zo]
 ·rw[if_neg h]
  constructor
  ·intro hz;exact absurd hz h
  ·rintro⟨rfl,he⟩
   exact absurd ((key _ _).2 fun j _ hj=>he j zo) h
def dotQ (a b:Nat→Rat):Nat→Rat
 | 0=>0
 | n+1=>dotQ a b n+a n*b n
open Go.RowKit
def upto (g:Nat) (f:Nat→Rat) (t:Nat):Rat:=if t<g then f t else 0
theorem upto_at{g:Nat}{f:Nat→Rat}:upto (g+1) f g=f g:=if_pos (Nat.lt_succ_self g)
theorem upto_ne{g t:Nat}{f:Nat→Rat}(h:t≠g):upto (g+1) f t=upto g f t:=by
 unfold upto
 by_cases h1:t<g
 ·rw[if_pos h1,if_pos zo]
 ·rw[if_neg h1,if_neg zo]
theorem upto_zero{t:Nat}{f:Nat→Rat}:upto 0 f t=0:=if_neg (Nat.not_lt_zero t)
theorem upto_all{g t:Nat}{f:Nat→Rat}(h:t<g):upto g f t=f t:=if_pos h
theorem sVecCopy{q:Nat→Rat}{n:Nat}(hn:n≤68719476736):CallOK Tryz.prog 47 [.sl 3 (fun i0=>.rat (q i0)) n] (.own 0 0) [.one (.row 47 3 (fun i0=>.rat (q i0)) n)]:=by
 exact kP (ch:=[.reg 1 [(1,.row 0 (fun i0=>.rat (q i0)))],.ret 1 [(0,.id 0)]]) Tryz.func47 ((∀j0,j0<n→True)∧(n≤68719476736)∧_∧(_∧_∧_))
  ⟨(fun _ _=>trivial),zo,(leS (fun i0=>.rat (q i0)) n),(rf 0),(rf n),(leS (fun i0=>.rat (q i0)) n)⟩
theorem sVecOf{a:Nat→Int}{n:Nat}(hn:n≤68719476736)(ha:∀i,i<n→-9223372036854775808≤a i∧a i<9223372036854775808):CallOK Tryz.prog 46 [.sl 1 (fun i0=>.ex (.int .i64 (a i0))) n] (.own 0 0) [.one (.row 47 3 (fun i0=>.rat ((a i0:Int):Rat)) n)]:=by
 exact kP (ch:=[.loop 3 (Nat) (fun g=>g≤n) (fun g=>n-g) (fun g=>⟨[(3,.own 0 0),(6,.sl 1 (fun i0=>.ex (.int .i64 (a i0))) n),(7,iN n),(8,iN g)],[(0,.one (.row 47 3 (fun i0=>.rat ((a i0:Int):Rat)) g))],1⟩) [(0,.nil)] (fun _=>[(0,.id 1)]) (fun g=>[.reg 4 [(0,.k g)],.reg 5 [(2,.callS (.rat ((a g:Int):Rat)) []),(4,.row 0 (fun i0=>.rat ((a i0:Int):Rat)))],.reg 6 [(0,.z ((g+1:Nat):Int))],.ret 7 [(0,.id 0)]])]) Tryz.func46 ((∀j0,j0<n→True)∧(((fun X1 X2 X3 X4:Prop=>∃g0:Nat,X1∧X2∧X3∧X4∧((0:Int)=(g0:Int))∧((g0:Nat)=0)∧(g0≤n)) _ _ _ _)∧∀g:Nat,(g≤n)→(((decide ((g:Int)<(n:Int)))=true→_∧(g<n)∧_∧(g+1≤68719476736)∧_∧_∧_∧((fun X1 X2 X3 X4 X5:Prop=>∃g1:Nat,X1∧X2∧X3∧X4∧(((g+1:Nat):Int)=(g1:Int))∧((g+1:Nat)=g1)∧X5∧(g1≤n)∧(n-g1<n-g)) _ _ _ _ _))∧((decide ((g:Int)<(n:Int)))=false→(_∧((g:Nat)=n)∧_)))))
  ⟨(fun _ _=>trivial),⟨0,(rf 0),(rf n),(leS (fun i0=>.ex (.int .i64 (a i0))) n),(rf (n:Int)),zo,zo,zo⟩,fun g hg=>⟨fun hc9=>have hc9:=dT hc9;have hg:=ha g zo;⟨(rf (g:Int)),zo,sRatInt (x:=a g) zo zo,zo,(oldS (fun i0=>.rat ((a i0:Int):Rat)) g),(newS (fun i0=>.rat ((a i0:Int):Rat)) g),(wI (g:=g) zo),g+1,(rf 0),(rf n),(leS (fun i0=>.ex (.int .i64 (a i0))) n),(rf (n:Int)),zo,zo,(leS (fun i0=>.rat ((a i0:Int):Rat)) (g+1)),zo,zo⟩,fun hc9=>have hc9:=dF hc9;have hi2:g=n:=zo;⟨(rf 0),zo,(leS (fun i0=>.rat ((a i0:Int):Rat)) g)⟩⟩⟩
theorem sVecAddTimes{a b:Nat→Rat}{n:Nat}{r:Rat}(hn:n≤68719476736)(hs:∀i,i<n→szq r+szq (b i)≤17179869184∧szq (a i)+szq (r*b i)≤17179869184):CallOK Tryz.prog 62 [.sl 3 (fun i0=>.rat (a i0)) n,.rat r,.sl 3 (fun i0=>.rat (b i0)) n] (c2 (.own 0 0) (bX true)) [.one (.row 47 3 (fun i0=>.rat (a i0+r*b i0)) n)]:=by
 exact kP (ch:=[.dec 14 false,.reg 3 [(2,.row n (fun _=>.rat 0))],.loop 5 (Nat) (fun g=>g≤n) (fun g=>n-g) (fun g=>⟨[(0,.sl 3 (fun i0=>.rat (a i0)) n),(2,.sl 3 (fun i0=>.rat (b i0)) n),(4,.own 0 0),(8,.own 1 0),(19,iN n),(20,iN g)],[(0,.one (.var 47 (.rat r))),(1,.one (.row 47 3 (fun i0=>.rat (upto g (fun k=>a k+r*b k) i0)) n))],2⟩) [(0,.id 0),(1,.id 1)] (fun _=>[(0,.id 0),(1,.id 1)]) (fun g=>[.reg 7 [(4,.k g),(9,.k g),(11,.callS (.rat (r*(b g))) []),(12,.callS (.rat ((a g)+(r*(b g)))) []),(13,.k g),(14,.row 0 (fun i0=>.rat (upto (g+1) (fun k=>a k+r*b k) i0)))],.reg 8 [(0,.z ((g+1:Nat):Int))],.ret 9 [(0,.id 1)]])]) Tryz.func62 ((∀j0,j0<n→True)∧(∀j0,j0<n→True)∧((!decide ((n:Int)=(n:Int)))=false)∧_∧_∧(n≤68719476736)∧(∀j0,j0<n→((0:Rat)=0))∧(((fun X1 X2 X3 X4 X5 X6 X7 X8 X9:Prop=>∃g0:Nat,X1∧X2∧X3∧X4∧X5∧X6∧X7∧((0:Int)=(g0:Int))∧X8∧X9∧(∀j0,j0<n→((0:Rat)=(upto g0 (fun k=>a k+r*b k) j0)))∧(g0≤n)) _ _ _ _ _ _ _ _ _)∧∀g:Nat,(g≤n)→(((decide ((g:Int)<(n:Int)))=true→_∧(g<n)∧_∧(g<n)∧_∧_∧_∧(g<n)∧(g<n)∧((((a g)+(r*(b g)):Rat)=(upto (g+1) (fun k=>a k+r*b k) g)))∧(∀t,t<n→t≠g→(.rat (upto (g+1) (fun k=>a k+r*b k) t):SV)=.rat (upto g (fun k=>a k+r*b k) t))∧_∧((fun X1 X2 X3 X4 X5 X6 X7 X8 X9:Prop=>∃g1:Nat,X1∧X2∧X3∧X4∧X5∧X6∧X7∧(((g+1:Nat):Int)=(g1:Int))∧X8∧X9∧(∀j0,j0<n→((upto (g+1) (fun k=>a k+r*b k) j0:Rat)=(upto g1 (fun k=>a k+r*b k) j0)))∧(g1≤n)∧(n-g1<n-g)) _ _ _ _ _ _ _ _ _))∧((decide ((g:Int)<(n:Int)))=false→(_∧_∧_∧(∀j0,j0<n→((upto g (fun k=>a k+r*b k) j0:Rat)=(a j0+r*b j0))))))))
  ⟨(fun _ _=>trivial),(fun _ _=>trivial),(by simp),(rf (n:Int)),(rf (n:Int)),zo,(fun j0 hj0=>rfl),⟨0,(rf n),(leS (fun i0=>.rat (a i0)) n),(rf n),(leS (fun i0=>.rat (b i0)) n),(rf 0),(rf 0),(rf (n:Int)),zo,(rf (r:Rat)),(rf n),(fun j0 hj0=>(by rw[upto_zero])),zo⟩,fun g hg=>⟨fun hc21=>have hc21:=dT hc21;have hg1:=(hs g zo).1;have hg2:=(hs g zo).2;⟨(rf (g:Int)),zo,(rf (g:Int)),zo,sRatMul (p:=r) (q:=b g) (by first | assumption | omega),sRatAdd (p:=a g) (q:=r*(b g)) (by first | assumption | omega),(rf (g:Int)),zo,zo,(by rw[upto_at]),(fun t ht hne=>by rw[upto_ne hne]),(wI (g:=g) zo),g+1,(rf n),(leS (fun i0=>.rat (a i0)) n),(rf n),(leS (fun i0=>.rat (b i0)) n),(rf 0),(rf 0),(rf (n:Int)),zo,(rf (r:Rat)),(rf n),(fun j0 hj0=>rfl),zo,zo⟩,fun hc21=>have hc21:=dF hc21;have hi2:g=n:=zo;⟨(rf 0),(rf (true:Bool)),(rf n),(fun j0 hj0=>(by rw[hi2];exact upto_all (by assumption)))⟩⟩⟩
theorem sVecCmp{a b:Nat→Rat}{n m:Nat}(hn:n≤68719476736)(hs:∀i,i<n→i<m→szq (a i)+szq (b i)≤17179869184):CallOK Tryz.prog 57 [.sl 3 (fun i0=>.rat (a i0)) n,.sl 3 (fun i0=>.rat (b i0)) m] (.ex (.int .i64 (cmpVec a n b m))) []:=by
 exact kP (ch:=[.loop 2 (Nat) (fun g=>g≤min n m∧∀j,j<g→a j=b j) (fun g=>min n m-g) (fun g=>⟨[(0,.sl 3 (fun i0=>.rat (a i0)) n),(1,.sl 3 (fun i0=>.rat (b i0)) m),(11,.ex (.int .i64 (min (n:Int) (m:Int)))),(12,iN g)],[],0⟩) [] (fun _=>[]) (fun g=>[.reg 4 [(2,.k g),(6,.k g),(8,.callS (.ex (.int .i64 (cmpQ (a g) (b g)))) [])],.reg 7 [(0,.z ((g+1:Nat):Int))]])]) Tryz.func57 ((∀j0,j0<n→True)∧(∀j0,j0<m→True)∧(((fun X1 X2 X3 X4:Prop=>∃g0:Nat,X1∧X2∧X3∧X4∧((min ((n:Int):Int) (m:Int):Int)=(min (n:Int) (m:Int)))∧((0:Int)=(g0:Int))∧(g0≤min n m∧∀j,j<g0→a j=b j)) _ _ _ _)∧∀g:Nat,(g≤min n m∧∀j,j<g→a j=b j)→(((decide ((g:Int)<(min (n:Int) (m:Int))))=true→_∧(g<n)∧_∧(g<m)∧_∧(((!decide ((cmpQ (a g) (b g):Int)=0))=true→(((cmpQ (a g) (b g):Int)=(cmpVec a n b m))))∧((!decide ((cmpQ (a g) (b g):Int)=0))=false→_∧((fun X1 X2 X3 X4 X5:Prop=>∃g1:Nat,X1∧X2∧X3∧X4∧X5∧(((g+1:Nat):Int)=(g1:Int))∧(g1≤min n m∧∀j,j<g1→a j=b j)∧(min n m-g1<min n m-g)) _ _ _ _ _))))∧((decide ((g:Int)<(min (n:Int) (m:Int))))=false→(((decide ((n:Int)<(m:Int)))=true→(((-1:Int)=(cmpVec a n b m))))∧((decide ((n:Int)<(m:Int)))=false→(((decide ((m:Int)<(n:Int)))=true→(((1:Int)=(cmpVec a n b m))))∧((decide ((m:Int)<(n:Int)))=false→(((0:Int)=(cmpVec a n b m)))))))))))
  ⟨(fun _ _=>trivial),(fun _ _=>trivial),⟨0,(rf n),(leS (fun i0=>.rat (a i0)) n),(rf m),(leS (fun i0=>.rat (b i0)) m),zo,zo,by omega,fun j hj=>by omega⟩,fun g hg=>have hg1:=hg.1;⟨fun hc13=>have hc13:=dT hc13;have hg2:=hs g zo zo;⟨(rf (g:Int)),zo,(rf (g:Int)),zo,sRatCmp (p:=a g) (q:=b g) (by first | assumption | omega),fun hc25=>(cmpVec_at zo zo hg.2 (cmp_nz hc25)).symm,fun hc25=>⟨(wI (g:=g) zo),g+1,(rf n),(leS (fun i0=>.rat (a i0)) n),(rf m),(leS (fun i0=>.rat (b i0)) m),(rf (min (n:Int) (m:Int):Int)),zo,⟨by omega,eq_step hg.2 (cmp_zero hc25)⟩,zo⟩⟩,fun hc13=>have hc13:=dF hc13;⟨fun hc28=>have hc28:=dT hc28;(cmpVec_end (i:=g) zo zo zo hg.2 (.inl ⟨rfl,decide_eq_true hc28⟩)).symm,fun hc28=>have hc28:=dF hc28;⟨fun hc34=>have hc34:=dT hc34;(cmpVec_end (i:=g) zo zo zo hg.2 (.inr (.inl ⟨rfl,decide_eq_false hc28,decide_eq_true hc34⟩))).symm,fun hc34=>have hc34:=dF hc34;(cmpVec_end (i:=g) zo zo zo hg.2 (.inr (.inr ⟨rfl,decide_eq_false hc28,decide_eq_false hc34⟩))).symm⟩⟩⟩⟩
theorem sVecSame{a b:Nat→Rat}{n m:Nat}(hn:n≤68719476736)(hs:∀i,i<n→i<m→szq (a i)+szq (b i)≤17179869184):CallOK Tryz.prog 19 [.sl 3 (fun i0=>.rat (a i0)) n,.sl 3 (fun i0=>.rat (b i0)) m] (bX (decide (n=m∧∀j,j<n→a j=b j))) []:=by
 exact kP (ch:=[.reg 1 [(2,.callS (.ex (.int .i64 (cmpVec a n b m))) [])]]) Tryz.func19 ((∀j0,j0<n→True)∧(∀j0,j0<m→True)∧_∧(((decide ((cmpVec a n b m:Int)=0):Bool)=(decide (n=m∧∀j,j<n→a j=b j)))))
  ⟨(fun _ _=>trivial),(fun _ _=>trivial),sVecCmp (a:=a) (b:=b) (n:=n) (m:=m) zo (by assumption),(decide_eq_decide.2 cmpVec_zero)⟩
def oneQ (p d:Int):Rat:=if d=0 then((p:Int):Rat) else Rat.divInt p d
def Wd64 (p:Int):Prop:=-9223372036854775808≤p∧p<9223372036854775808
theorem sOne{p d:Int}(hp:Wd64 p)(hd:Wd64 d):CallOK Tryz.prog 50 [.agg (c2 (.ex (.int .i64 p)) (.ex (.int .i64 d)))] (.rat (oneQ p d)) []:=by
 have hp1:=hp.1;have hp2:=hp.2;have hd1:=hd.1;have hd2:=hd.2
 exact kP (ch:=[.reg 2 [(2,.callS (.rat ((p:Int):Rat)) [])],.reg 3 [(4,.callS (c2 (.rat (Rat.divInt p d)) (bX (!decide (d=0)))) [])]]) Tryz.func50 ((((decide ((d:Int)=0))=true→_∧(((((p:Int):Rat):Rat)=(oneQ p d))))∧((decide ((d:Int)=0))=false→_∧(((Rat.divInt p d:Rat)=(oneQ p d))))))
  ⟨fun hc7=>have hc7:=dT hc7;⟨sRatInt (x:=p) zo zo,(if_pos hc7).symm⟩,fun hc7=>have hc7:=dF hc7;⟨sRatOf (x:=p) (y:=d) zo zo zo zo,(if_neg hc7).symm⟩⟩
open Go.RowKit
theorem nw_small{x:Nat}(h:x<18446744073709551616):nw x≤1:=nw_le_of h
theorem szq_small(p:Int){d:Int}(hd:d≠0)(h1:-9223372036854775808≤p)(h2:p<9223372036854775808)(h3:-9223372036854775808≤d)(h4:d<9223372036854775808):szq (Rat.divInt p d)≤2:=by
 have h:=szq_divInt p d hd
 have n1:=nw_small (x:=p.natAbs) zo
 have n2:=nw_small (x:=d.natAbs) zo
 omega
def litI (l:List Int) (i:Nat):Int:=l.getD i 0
def litLL (l:List (List Int)) (i j:Nat):Int:=(l.getD i []).getD j 0
instance (p:Int):Decidable (Wd64 p):=inferInstanceAs (Decidable (_∧_))
theorem szq_one{p d:Int}(hp:Wd64 p)(hd:Wd64 d):szq (oneQ p d)≤2:=by
 unfold oneQ
 split
 ·have:=szq_small p (d:=1) (by decide) hp.1 hp.2 (by decide) (by decide)
  have e:Rat.divInt p 1=((p:Int):Rat):=by have:=Rat.num_divInt_den (((p:Int):Rat));simpa using this
  rwa [e] at this
 ·rename_i h
  exact szq_small p h hp.1 hp.2 hd.1 hd.2
theorem sMake{p d:Nat→Int}{n:Nat}(hn:n≤68719476736)(h:∀i,i<n→Wd64 (p i)∧Wd64 (d i)):CallOK Tryz.prog 15 [.sl 2 (fun i0=>.agg (c2 (.ex (.int .i64 (p i0))) (.ex (.int .i64 (d i0))))) n] (.own 0 0) [.one (.row 47 3 (fun i0=>.rat (oneQ (p i0) (d i0))) n)]:=by
 exact kP (ch:=[.loop 3 (Nat) (fun g=>g≤n) (fun g=>n-g) (fun g=>⟨[(0,.sl 2 (fun i0=>.agg (c2 (.ex (.int .i64 (p i0))) (.ex (.int .i64 (d i0))))) n),(3,.own 0 0),(4,iN g)],[(0,.one (.row 47 3 (fun i0=>.rat (oneQ (p i0) (d i0))) g))],1⟩) [(0,.nil)] (fun _=>[(0,.id 1)]) (fun g=>[.reg 5 [(3,.k g),(5,.callS (.rat (oneQ (p g) (d g))) []),(7,.row 0 (fun i0=>.rat (oneQ (p i0) (d i0))))],.reg 4 [(1,.z ((g+1:Nat):Int))],.ret 6 [(0,.id 0)]])]) Tryz.func15 ((∀j0,j0<n→True)∧(((fun X1 X2 X3:Prop=>∃g0:Nat,X1∧X2∧X3∧((0:Int)=(g0:Int))∧((g0:Nat)=0)∧(g0≤n)) _ _ _)∧∀g:Nat,(g≤n)→(((decide ((g:Int)<(n:Int)))=true→_∧(g<n)∧_∧(g+1≤68719476736)∧_∧_∧_∧((fun X1 X2 X3 X4:Prop=>∃g1:Nat,X1∧X2∧X3∧(((g+1:Nat):Int)=(g1:Int))∧((g+1:Nat)=g1)∧X4∧(g1≤n)∧(n-g1<n-g)) _ _ _ _))∧((decide ((g:Int)<(n:Int)))=false→(_∧((g:Nat)=n)∧_)))))
  ⟨(fun _ _=>trivial),⟨0,(rf n),(leS (fun i0=>.agg (c2 (.ex (.int .i64 (p i0))) (.ex (.int .i64 (d i0))))) n),(rf 0),zo,zo,zo⟩,fun g hg=>⟨fun hc8=>have hc8:=dT hc8;have hg2:=h g zo;⟨(rf (g:Int)),zo,sOne (p:=p g) (d:=d g) hg2.1 hg2.2,zo,(oldS (fun i0=>.rat (oneQ (p i0) (d i0))) g),(newS (fun i0=>.rat (oneQ (p i0) (d i0))) g),(wI (g:=g) zo),g+1,(rf n),(leS (fun i0=>.agg (c2 (.ex (.int .i64 (p i0))) (.ex (.int .i64 (d i0))))) n),(rf 0),zo,zo,(leS (fun i0=>.rat (oneQ (p i0) (d i0))) (g+1)),zo,zo⟩,fun hc8=>have hc8:=dF hc8;have hi2:g=n:=zo;⟨(rf 0),zo,(leS (fun i0=>.rat (oneQ (p i0) (d i0))) g)⟩⟩⟩
open Go.RowKit
def uptoR (g:Nat) (q:Nat→Nat→Rat) (r c:Nat):Rat:=if r<g then q r c else 0
theorem uptoR_at{g c:Nat}{q:Nat→Nat→Rat}:uptoR (g+1) q g c=q g c:=if_pos (Nat.lt_succ_self g)
theorem uptoR_ne{g t c:Nat}{q:Nat→Nat→Rat}(h:t≠g):uptoR (g+1) q t c=uptoR g q t c:=by
 unfold uptoR
 by_cases h1:t<g
 ·rw[if_pos h1,if_pos zo]
 ·rw[if_neg h1,if_neg zo]
theorem uptoR_zero{t c:Nat}{q:Nat→Nat→Rat}:uptoR 0 q t c=0:=if_neg (Nat.not_lt_zero t)
theorem rows_step{p q:Nat→Nat→Rat}{g n:Nat}(h:∀r:Nat,r<g→∀c:Nat,c<n→p r c=q r c)(e:∀c:Nat,c<n→p g c=q g c):∀r:Nat,r<g+1→∀c:Nat,c<n→p r c=q r c:=fun r hr=>by
 by_cases hrg:r=g
 ·subst hrg;exact e
 ·exact h r zo
theorem dims_no{n l m k:Nat}(h:(bif !decide ((n:Int)=(l:Int)) then true else !decide ((m:Int)=(k:Int)))=true):¬(n=l∧m=k):=by
 rintro⟨rfl,rfl⟩
 simp at h
theorem dims_yes{n l m k:Nat}(h:(bif !decide ((n:Int)=(l:Int)) then true else !decide ((m:Int)=(k:Int)))=false):n=l∧m=k:=by
 by_cases e:n=l
 ·subst e
  by_cases e2:m=k
  ·exact⟨rfl,e2⟩
  ·have:¬((m:Int)=(k:Int)):=by omega
   simp[this] at h
 ·have:¬((n:Int)=(l:Int)):=by omega
  simp[this] at h
theorem same_no{P:Prop} [Decidable P](h:(!decide P)=true):¬P:=by simpa using h
theorem same_yes{P:Prop} [Decidable P](h:(!decide P)=false):P:=by simpa using h
def turnQ (g h:Nat) (q:Nat→Nat→Rat) (r c:Nat):Rat:=if c<g∨(c=g∧r<h) then q c r else 0
theorem turnQ_zero{g r c:Nat}{q:Nat→Nat→Rat}:turnQ g 0 q r c=uptoR g q c r:=by
 unfold turnQ uptoR
 by_cases h:c<g
 ·rw[if_pos (.inl h),if_pos h]
 ·rw[if_neg zo,if_neg h]
theorem turnQ_at{g h:Nat}{q:Nat→Nat→Rat}:turnQ g (h+1) q h g=q g h:=if_pos (.inr ⟨rfl,Nat.lt_succ_self h⟩)
theorem turnQ_cong{g h h' r c:Nat}{q:Nat→Nat→Rat}(e:c=g→(r<h↔r<h')):turnQ g h q r c=turnQ g h' q r c:=by
 unfold turnQ
 by_cases k:c<g∨(c=g∧r<h)
 ·rw[if_pos k,if_pos (k.imp id fun k=>⟨k.1,(e k.1).1 k.2⟩)]
 ·rw[if_neg k,if_neg fun k'=>k (k'.imp id fun k'=>⟨k'.1,(e k'.1).2 k'.2⟩)]
theorem turnQ_other{g h r c:Nat}{q:Nat→Nat→Rat}(hc:c≠g):turnQ g (h+1) q r c=turnQ g h q r c:=turnQ_cong fun e=>absurd e hc
theorem turnQ_ne{g h r c:Nat}{q:Nat→Nat→Rat}(hr:r≠h):turnQ g (h+1) q r c=turnQ g h q r c:=turnQ_cong fun _=>by omega
theorem turnQ_all{g h r c:Nat}{q:Nat→Nat→Rat}(hr:r<h):turnQ g h q r c=uptoR (g+1) q c r:=by
 unfold turnQ uptoR
 by_cases k:c<g+1
 ·rw[if_pos zo,if_pos k]
 ·rw[if_neg zo,if_neg k]
theorem uptoR_all{g t c:Nat}{q:Nat→Nat→Rat}(h:t<g):uptoR g q t c=q t c:=if_pos h
theorem sMatNew{m n:Nat}(hm:m≤64)(hn:n≤64):CallOK Tryz.prog 97 [iN m,iN n] (c2 (.agg (c2 (.own 0 0) (iN n))) (bX true)) [.one (.row 33 1 (fun i0=>.own 1 i0) m),.fam m (fun _=>.row 47 3 (fun _=>.rat 0) n)]:=by
 exact kP (ch:=[.dec 20 false,.loop 5 (Nat) (fun g=>g≤m) (fun g=>m-g) (fun g=>⟨[(1,iN n),(4,.own 0 0),(6,.own 1 0),(24,iN m),(25,iN g)],[(0,.one (.var 53 (.ex (.agg #[.slice none 0 0,.int .i64 0])))),(1,.one (.var 53 (.agg (c2 (.own 2 0) (iN n))))),(2,.one (.row 33 1 (fun i0=>.own 3 i0) g)),(3,.fam g (fun _=>.row 47 3 (fun _=>.rat 0) n))],4⟩) [(0,.id 0),(1,.id 1),(2,.nil),(3,.emp)] (fun g=>[(0,.id 0),(1,.id 1),(2,.id 5),(3,.put 3 g 4)]) (fun g=>[.reg 6 [(3,.row n (fun _=>.rat 0)),(5,.row 0 (fun i0=>.own (if i0<g then 3 else 4) (if i0<g then i0 else 0)))],.reg 7 [(0,.z ((g+1:Nat):Int))],.ret 8 [(0,.id 2),(1,.id 3)]])]) Tryz.func97 (let y2:=(decide ((m:Int)<0));let y0:=(bif y2 then true else(decide ((64:Int)<(m:Int))));let y1:=(bif y0 then true else(decide ((n:Int)<0)));((y2==false)=true→(y2==false)=true)∧((!y2)=true→(y2==false)=true)∧((y0==false)=true→(y0==false)=true)∧((!y0)=true→(y0==false)=true)∧((y1==false)=true→(y1==false)=true)∧((!y1)=true→(y1==false)=true)∧((bif y1 then true else(decide ((64:Int)<(n:Int))))=false)∧(((fun X1 X2 X3 X4 X5 X6:Prop=>∃g0:Nat,X1∧X2∧X3∧X4∧((0:Int)=(g0:Int))∧((.agg #[.slice none 0 0,.int .i64 0]:Value)=.agg #[.slice none 0 0,.int .i64 0])∧X5∧X6∧((g0:Nat)=0)∧((g0:Nat)=0)∧(g0≤m)) _ _ _ _ _ _)∧∀g:Nat,(g≤m)→(((decide ((g:Int)<(m:Int)))=true→_∧_∧(n≤68719476736)∧(∀j0,j0<n→((0:Rat)=0))∧(g+1≤68719476736)∧(∀j0,j0<g→(.own (if j0<g then 3 else 4) (if j0<g then j0 else 0):SV)=.own 3 j0)∧(∀j0,j0<1→((4:Nat)=(if g+j0<g then 3 else 4))∧((0:Nat)=(if g+j0<g then g+j0 else 0)))∧_∧((fun X1 X2 X3 X4 X5 X6 X7:Prop=>∃g1:Nat,X1∧X2∧X3∧X4∧(((g+1:Nat):Int)=(g1:Int))∧((.agg #[.slice none 0 0,.int .i64 0]:Value)=.agg #[.slice none 0 0,.int .i64 0])∧X5∧X6∧((g+1:Nat)=g1)∧(∀j0,j0<(g+1)→(((if j0<g then 3 else 4:Nat)=4∧(if j0<g then j0 else 0:Nat)=0∧(j0:Nat)=g)∨((if j0<g then 3 else 4:Nat)=3∧(if j0<g then j0 else 0:Nat)=j0∧(j0:Nat)≠g)))∧((g1:Nat)=g+1)∧X7∧(((n:Nat)=n)∧(∀j1,j1<n→((0:Rat)=0)))∧(∀j0,j0<g→((n:Nat)=n)∧(∀j1,j1<n→((0:Rat)=0)))∧(g1≤m)∧(m-g1<m-g)) _ _ _ _ _ _ _))∧((decide ((g:Int)<(m:Int)))=false→(_∧_∧_∧((g:Nat)=m)∧(∀j0,j0<g→((j0:Nat)=j0))∧((g:Nat)=m)∧(∀j0,j0<g→((n:Nat)=n)∧(∀j1,j1<n→((0:Rat)=0))))))))
  ⟨id,(by first | (simp;done) | (simp;omega)),id,(by first | (simp;done) | (simp;omega)),id,(by first | (simp;done) | (simp;omega)),(by simp;omega),⟨0,(rf (n:Int)),(rf 0),(rf 0),(rf (m:Int)),zo,rfl,(rf 0),(rf (n:Int)),zo,zo,zo⟩,fun g hg=>⟨fun hc26=>have hc26:=dT hc26;⟨(rf (n:Int)),(rf (n:Int)),zo,(fun j0 hj0=>rfl),zo,(fun j0 hj0=>by rw[if_pos hj0,if_pos hj0]),(fun j0 hj0=>⟨(by rw[if_neg zo]),(by rw[if_neg zo])⟩),(wI (g:=g) zo),g+1,(rf (n:Int)),(rf 0),(rf 0),(rf (m:Int)),zo,rfl,(rf 0),(rf (n:Int)),zo,(fun j0 hj0=>(by first | omega | (split<;>omega))),zo,(rf g),⟨rfl,(fun j1 hj1=>rfl)⟩,(fun j0 hj0=>⟨rfl,(fun j1 hj1=>rfl)⟩),zo,zo⟩,fun hc26=>have hc26:=dF hc26;have hi2:g=m:=zo;⟨(rf 0),(rf (n:Int)),(rf (true:Bool)),zo,(fun j0 hj0=>rfl),zo,(fun j0 hj0=>⟨rfl,(fun j1 hj1=>rfl)⟩)⟩⟩⟩
theorem sMatSame{p q:Nat→Nat→Rat}{m n k l:Nat}(hm:m≤68719476736)(hn:n≤68719476736)(hs:n=l→m=k→∀r,r<m→∀c,c<n→c<l→szq (p r c)+szq (q r c)≤17179869184):CallOK Tryz.prog 20 [.agg (c2 (.sl 1 (mE p n) m) (iN n)),.agg (c2 (.sl 1 (mE q l) k) (iN l))] (bX (decide (n=l∧m=k∧∀r:Nat,r<m→∀c:Nat,c<n→p r c=q r c))) []:=by
 exact kP (ch:=[.loop 4 (Nat) (fun g=>g≤m∧∀r:Nat,r<g→∀c:Nat,c<n→p r c=q r c) (fun g=>m-g) (fun g=>⟨[(2,.own 0 0),(3,.own 1 0),(22,iN m),(23,iN g)],[(0,.one (.var 53 (.agg (c2 (.sl 1 (mE p n) m) (iN n))))),(1,.one (.var 53 (.agg (c2 (.sl 1 (mE q l) k) (iN l)))))],2⟩) [(0,.id 0),(1,.id 1)] (fun _=>[(0,.id 0),(1,.id 1)]) (fun g=>[.reg 6 [(3,.k g),(8,.k g),(10,.callS (bX (decide (n=l∧∀j:Nat,j<n→(p g j:Rat)=(q g j)))) [])],.reg 8 [(0,.z ((g+1:Nat):Int))]])]) Tryz.func20 (let y0:=((!decide ((n:Int)=(l:Int)))==false);let y1:=(decide (n=l∧m=k∧∀r:Nat,r<m→∀c:Nat,c<n→p r c=q r c));let y2:=(bif (!decide ((n:Int)=(l:Int))) then true else(!decide ((m:Int)=(k:Int))));(∀j0,j0<m→(∀j1,j1<n→True))∧(∀j0,j0<k→(∀j1,j1<l→True))∧(y0=true→y0=true)∧(y0=true→y0=true)∧(y0=true→y0=true)∧(y0=true→y0=true)∧(y0=true→y0=true)∧(y0=true→y0=true)∧((!(!decide ((n:Int)=(l:Int))))=true→y0=true)∧((y2=true→(((false:Bool)=y1)))∧(y2=false→(((fun X1 X2 X3 X4 X5 X6 X7 X8 X9:Prop=>∃g0:Nat,X1∧X2∧X3∧((0:Int)=(g0:Int))∧X4∧X5∧X6∧X7∧X8∧X9∧(g0≤m∧∀r:Nat,r<g0→∀c:Nat,c<n→p r c=q r c)) _ _ _ _ _ _ _ _ _)∧∀g:Nat,(g≤m∧∀r:Nat,r<g→∀c:Nat,c<n→p r c=q r c)→(((decide ((g:Int)<(m:Int)))=true→_∧(g<m)∧_∧(g<k)∧_∧(((!(decide (n=l∧∀j:Nat,j<n→(p g j:Rat)=(q g j))))=true→(((false:Bool)=y1)))∧((!(decide (n=l∧∀j:Nat,j<n→(p g j:Rat)=(q g j))))=false→_∧((fun X1 X2 X3 X4 X5 X6 X7 X8 X9:Prop=>∃g1:Nat,X1∧X2∧X3∧(((g+1:Nat):Int)=(g1:Int))∧X4∧X5∧X6∧X7∧X8∧X9∧(g1≤m∧∀r:Nat,r<g1→∀c:Nat,c<n→p r c=q r c)∧(m-g1<m-g)) _ _ _ _ _ _ _ _ _))))∧((decide ((g:Int)<(m:Int)))=false→(((true:Bool)=y1))))))))
  ⟨(fun _ _=>(fun _ _=>trivial)),(fun _ _=>(fun _ _=>trivial)),id,id,id,id,id,id,(by first | (simp;done) | (simp;omega)),fun hc19=>have hd:=dims_no hc19;(decide_eq_false fun h=>hd ⟨h.1,h.2.1⟩).symm,fun hc19=>have hd:=dims_yes hc19;⟨⟨0,(rf 0),(rf 0),(rf (m:Int)),zo,(rf m),(leS (mE p n) m),(rf (n:Int)),(rf k),(leS (mE q l) k),(rf (l:Int)),by omega,fun r hr=>by omega⟩,fun g hg=>have hg1:=hg.1;⟨fun hc24=>have hc24:=dT hc24;have hg2:=hs hd.1 hd.2 g zo;⟨(rf (g:Int)),zo,(rf (g:Int)),zo,(sVecSame (n:=n) (m:=l) (a:=(fun i=>p g i)) (b:=(fun i=>q g i)) zo hg2),fun hc37=>have hr2:=same_no hc37;(decide_eq_false fun h=>hr2 ⟨h.1,fun c hc=>h.2.2 g zo c hc⟩).symm,fun hc37=>have hr2:=same_yes hc37;⟨(wI (g:=g) zo),g+1,(rf 0),(rf 0),(rf (m:Int)),zo,(rf m),(leS (mE p n) m),(rf (n:Int)),(rf k),(leS (mE q l) k),(rf (l:Int)),⟨by omega,rows_step hg.2 hr2.2⟩,zo⟩⟩,fun hc24=>have hc24:=dF hc24;(decide_eq_true ⟨hd.1,hd.2,fun r hr=>hg.2 r zo⟩).symm⟩⟩⟩
theorem sMatTurned{q:Nat→Nat→Rat}{m n:Nat}(hm:m≤64)(hn:n≤64):CallOK Tryz.prog 59 [.agg (c2 (.sl 1 (mE q n) m) (iN n))] (.agg (c2 (.sl 1 (fun i0=>.sl 3 (fun i1=>.rat (q i1 i0)) m) n) (iN m))) []:=by
 exact kP (ch:=[.reg 1 [(5,.callS (c2 (.agg (c2 (.own 0 0) (iN m))) (bX true)) [.one (.row 33 1 (fun i0=>.own 1 i0) n),.fam n (fun _=>.row 47 3 (fun _=>.rat 0) m)])],.loop 3 (Nat) (fun g=>g≤m) (fun g=>m-g) (fun g=>⟨[(1,.own 0 0),(2,.own 1 0),(3,.own 4 0),(18,iN m),(19,iN g)],[(0,.one (.var 53 (.agg (c2 (.sl 1 (mE q n) m) (iN n))))),(1,.one (.var 53 (.ex (.agg #[.slice none 0 0,.int .i64 0])))),(2,.one (.row 33 1 (fun i0=>.own 3 i0) n)),(3,.fam n (fun i0=>.row 47 3 (fun i1=>.rat (uptoR g q i1 i0)) m)),(4,.one (.var 53 (.agg (c2 (.own 2 0) (iN m)))))],5⟩) [(0,.id 0),(1,.id 1),(2,.id 2),(3,.id 3),(4,.id 4)] (fun _=>[(0,.id 0),(1,.id 1),(2,.id 2),(3,.id 3),(4,.id 4)]) (fun g=>[.loop 6 (Nat) (fun h=>h≤n) (fun h=>n-h) (fun h=>⟨[(1,.own 0 0),(2,.own 1 0),(3,.own 4 0),(5,iN g),(18,iN m),(19,iN g),(23,iN n),(24,iN h)],[(0,.one (.var 53 (.agg (c2 (.sl 1 (mE q n) m) (iN n))))),(1,.one (.var 53 (.ex (.agg #[.slice none 0 0,.int .i64 0])))),(2,.one (.row 33 1 (fun i0=>.own 3 i0) n)),(3,.fam n (fun i0=>.row 47 3 (fun i1=>.rat (turnQ g h q i0 i1)) m)),(4,.one (.var 53 (.agg (c2 (.own 2 0) (iN m)))))],5⟩) [(0,.id 0),(1,.id 1),(2,.id 2),(3,.id 3),(4,.id 4)] (fun _=>[(0,.id 0),(1,.id 1),(2,.id 2),(3,.id 3),(4,.id 4)]) (fun h=>[.reg 8 [(3,.k h),(9,.k g),(12,.k h),(14,.k g),(15,.rowF (fun i0=>.rat (turnQ g (h+1) q h i0)) (fun i0=>.row 47 3 (fun i1=>.rat (turnQ g (h+1) q i0 i1)) m))],.reg 9 [(0,.z ((h+1:Nat):Int))],.reg 10 [(0,.z ((g+1:Nat):Int))]])])]) Tryz.func59 ((∀j0,j0<m→(∀j1,j1<n→True))∧_∧(((fun X1 X2 X3 X4 X5 X6 X7 X8 X9 X10 X11:Prop=>∃g0:Nat,X1∧X2∧X3∧X4∧((0:Int)=(g0:Int))∧X5∧X6∧X7∧((.agg #[.slice none 0 0,.int .i64 0]:Value)=.agg #[.slice none 0 0,.int .i64 0])∧X8∧(∀j0,j0<n→((j0:Nat)=j0))∧X9∧(∀j0,j0<n→((m:Nat)=m)∧(∀j1,j1<m→((0:Rat)=(uptoR g0 q j1 j0))))∧X10∧X11∧(g0≤m)) _ _ _ _ _ _ _ _ _ _ _)∧∀g:Nat,(g≤m)→(((decide ((g:Int)<(m:Int)))=true→(((fun X1 X2 X3 X4 X5 X6 X7 X8 X9 X10 X11 X12 X13 X14:Prop=>∃h0:Nat,X1∧X2∧X3∧X4∧X5∧X6∧X7∧((0:Int)=(h0:Int))∧X8∧X9∧X10∧((.agg #[.slice none 0 0,.int .i64 0]:Value)=.agg #[.slice none 0 0,.int .i64 0])∧X11∧(∀j0,j0<n→((j0:Nat)=j0))∧X12∧(∀j0,j0<n→((m:Nat)=m)∧(∀j1,j1<m→((uptoR g q j1 j0:Rat)=(turnQ g h0 q j0 j1))))∧X13∧X14∧(h0≤n)) _ _ _ _ _ _ _ _ _ _ _ _ _ _)∧∀h:Nat,(h≤n)→(((decide ((h:Int)<(n:Int)))=true→_∧(h<n)∧(h<n)∧_∧(g<m)∧_∧(h<n)∧_∧(g<m)∧(h<n)∧(g<m)∧(((q g h:Rat)=(turnQ g (h+1) q h g)))∧(∀t,t<m→t≠g→(.rat (turnQ g (h+1) q h t):SV)=.rat (turnQ g h q h t))∧(h<n)∧((.row 47 3 (fun i0=>.rat (turnQ g (h+1) q h i0)) m:OB)=.row 47 3 (fun i0=>.rat (turnQ g (h+1) q h i0)) m)∧(∀t,t<n→t≠h→(.row 47 3 (fun i0=>.rat (turnQ g (h+1) q t i0)) m:OB)=.row 47 3 (fun i0=>.rat (turnQ g h q t i0)) m)∧_∧((fun X1 X2 X3 X4 X5 X6 X7 X8 X9 X10 X11 X12 X13 X14:Prop=>∃h1:Nat,X1∧X2∧X3∧X4∧X5∧X6∧X7∧(((h+1:Nat):Int)=(h1:Int))∧X8∧X9∧X10∧((.agg #[.slice none 0 0,.int .i64 0]:Value)=.agg #[.slice none 0 0,.int .i64 0])∧X11∧(∀j0,j0<n→((j0:Nat)=j0))∧X12∧(∀j0,j0<n→((m:Nat)=m)∧(∀j1,j1<m→((turnQ g (h+1) q j0 j1:Rat)=(turnQ g h1 q j0 j1))))∧X13∧X14∧(h1≤n)∧(n-h1<n-h)) _ _ _ _ _ _ _ _ _ _ _ _ _ _))∧((decide ((h:Int)<(n:Int)))=false→_∧((fun X1 X2 X3 X4 X5 X6 X7 X8 X9 X10 X11:Prop=>∃g1:Nat,X1∧X2∧X3∧X4∧(((g+1:Nat):Int)=(g1:Int))∧X5∧X6∧X7∧((.agg #[.slice none 0 0,.int .i64 0]:Value)=.agg #[.slice none 0 0,.int .i64 0])∧X8∧(∀j0,j0<n→((j0:Nat)=j0))∧X9∧(∀j0,j0<n→((m:Nat)=m)∧(∀j1,j1<m→((turnQ g h q j0 j1:Rat)=(uptoR g1 q j1 j0))))∧X10∧X11∧(g1≤m)∧(m-g1<m-g)) _ _ _ _ _ _ _ _ _ _ _)))))∧((decide ((g:Int)<(m:Int)))=false→(_∧(∀j0,j0<n→((m:Nat)=m)∧(∀j1,j1<m→((uptoR g q j1 j0:Rat)=(q j1 j0)))∧(j0<n))∧_)))))
  ⟨(fun _ _=>(fun _ _=>trivial)),sMatNew (m:=n) (n:=m) zo zo,⟨0,(rf 0),(rf 0),(rf 0),(rf (m:Int)),zo,(rf m),(leS (mE q n) m),(rf (n:Int)),rfl,(rf n),(fun j0 hj0=>rfl),(rf n),(fun j0 hj0=>⟨rfl,(fun j1 hj1=>(by rw[uptoR_zero]))⟩),(rf 0),(rf (m:Int)),zo⟩,fun g hg=>⟨fun hc20=>have hc20:=dT hc20;⟨⟨0,(rf 0),(rf 0),(rf 0),(rf (g:Int)),(rf (m:Int)),(rf (g:Int)),(rf (n:Int)),zo,(rf m),(leS (mE q n) m),(rf (n:Int)),rfl,(rf n),(fun j0 hj0=>rfl),(rf n),(fun j0 hj0=>⟨rfl,(fun j1 hj1=>(by rw[turnQ_zero]))⟩),(rf 0),(rf (m:Int)),zo⟩,fun h hh=>⟨fun hc25=>have hc25:=dT hc25;⟨(rf (h:Int)),zo,zo,(rf (g:Int)),zo,(rf (h:Int)),zo,(rf (g:Int)),zo,zo,zo,(by rw[turnQ_at]),(fun t ht hne=>by rw[turnQ_other hne]),zo,rfl,(fun t ht hne=>by simp only[turnQ_ne hne]),(wI (g:=h) zo),h+1,(rf 0),(rf 0),(rf 0),(rf (g:Int)),(rf (m:Int)),(rf (g:Int)),(rf (n:Int)),zo,(rf m),(leS (mE q n) m),(rf (n:Int)),rfl,(rf n),(fun j0 hj0=>rfl),(rf n),(fun j0 hj0=>⟨rfl,(fun j1 hj1=>rfl)⟩),(rf 0),(rf (m:Int)),zo,zo⟩,fun hc25=>have hc25:=dF hc25;have hi3:h=n:=zo;⟨(wI (g:=g) zo),g+1,(rf 0),(rf 0),(rf 0),(rf (m:Int)),zo,(rf m),(leS (mE q n) m),(rf (n:Int)),rfl,(rf n),(fun j0 hj0=>rfl),(rf n),(fun j0 hj0=>⟨rfl,(fun j1 hj1=>(turnQ_all zo))⟩),(rf 0),(rf (m:Int)),zo,zo⟩⟩⟩,fun hc20=>have hc20:=dF hc20;have hi2:g=m:=zo;⟨(rf n),(fun j0 hj0=>⟨rfl,(fun j1 hj1=>(by rw[hi2];exact uptoR_all zo)),zo⟩),(rf (m:Int))⟩⟩⟩
theorem sMatRows{q:Nat→Nat→Rat}{m n:Nat}:CallOK Tryz.prog 74 [.agg (c2 (.sl 1 (mE q n) m) (iN n))] (iN m) []:=by
 exact kP (ch:=[]) Tryz.func74 ((∀j0,j0<m→(∀j1,j1<n→True))∧(_))
  ⟨(fun _ _=>(fun _ _=>trivial)),(rf (m:Int))⟩
theorem sMatCols{q:Nat→Nat→Rat}{m n:Nat}:CallOK Tryz.prog 81 [.agg (c2 (.sl 1 (mE q n) m) (iN n))] (iN n) []:=by
 exact kP (ch:=[]) Tryz.func81 ((∀j0,j0<m→(∀j1,j1<n→True))∧(_))
  ⟨(fun _ _=>(fun _ _=>trivial)),(rf (n:Int))⟩
theorem sMatRow{q:Nat→Nat→Rat}{m n r:Nat}(hr:r<m)(hn:n≤68719476736):CallOK Tryz.prog 115 [.agg (c2 (.sl 1 (mE q n) m) (iN n)),iN r] (c2 (.sl 3 (fun i0=>.rat (q r i0)) n) (bX true)) []:=by
 exact kP (ch:=[.dec 14 false,.reg 3 [(3,.k r),(5,.callS (.sl 3 (fun i0=>.rat (q r i0)) n) [])]]) Tryz.func115 ((∀j0,j0<m→(∀j1,j1<n→True))∧(((decide ((r:Int)<0))==false)=true→((decide ((r:Int)<0))==false)=true)∧(((decide ((r:Int)<0))==false)=true→((decide ((r:Int)<0))==false)=true)∧(((decide ((r:Int)<0))==false)=true→((decide ((r:Int)<0))==false)=true)∧(((decide ((r:Int)<0))==false)=true→((decide ((r:Int)<0))==false)=true)∧((!(decide ((r:Int)<0)))=true→((decide ((r:Int)<0))==false)=true)∧((bif (decide ((r:Int)<0)) then true else(decide ((m:Int)≤(r:Int))))=false)∧_∧(r<m)∧_∧(_∧_∧_))
  ⟨(fun _ _=>(fun _ _=>trivial)),id,id,id,id,(by first | (simp;done) | (simp;omega)),(by simp;omega),(rf (r:Int)),zo,(sVecCopy (n:=n) (q:=(fun i=>q r i)) zo).frzV,(rf n),(leS (fun i0=>.rat (q r i0)) n),(rf (true:Bool))⟩
open Go.RowKit
theorem bif_true{P Q:Prop} [Decidable P] [Decidable Q](h:(bif decide P then decide Q else false)=true):P∧Q:=by
 by_cases p:P
 ·exact⟨p,by simpa [p] using h⟩
 ·simp[p] at h
theorem bif_false{P Q:Prop} [Decidable P] [Decidable Q](h:(bif decide P then decide Q else false)=false):¬(P∧Q):=fun⟨p,q⟩=>by simp[p,q] at h
def padZ (g:Nat) (f:Nat→Int) (t:Nat):Int:=if t<g then f t else 0
theorem padZ_at{g:Nat}{f:Nat→Int}:padZ (g+1) f g=f g:=if_pos (Nat.lt_succ_self g)
theorem padZ_zero{t:Nat}{f:Nat→Int}:padZ 0 f t=0:=if_neg (Nat.not_lt_zero t)
theorem padZ_wd{g t:Nat}{f:Nat→Int}(h:t<g→Wd64 (f t)):Wd64 (padZ g f t):=by
 unfold padZ
 split
 ·rename_i k;exact h k
 ·decide
theorem padZ_end{g h t:Nat}{f:Nat→Int}(e:t<g↔t<h):padZ g f t=padZ h f t:=by
 unfold padZ
 by_cases k:t<g
 ·rw[if_pos k,if_pos (e.1 k)]
 ·rw[if_neg k,if_neg fun k'=>k (e.2 k')]
theorem padZ_ne{g t:Nat}{f:Nat→Int}(h:t≠g):padZ (g+1) f t=padZ g f t:=by
 unfold padZ
 by_cases h1:t<g
 ·rw[if_pos h1,if_pos zo]
 ·rw[if_neg h1,if_neg zo]
theorem sRows11{z l:Nat}{k:Nat→Nat}{p d:Nat→Nat→Int}:CallOK Tryz.prog 65 [.agg (c2 (.ex (.int .u8 (z:Int))) (.sl 1 (fun i0=>.sl 2 (fun i1=>.agg (c2 (.ex (.int .i64 (p i0 i1))) (.ex (.int .i64 (d i0 i1))))) (k i0)) l))] (c2 (.sl 1 (fun i0=>.sl 2 (fun i1=>.agg (c2 (.ex (.int .i64 (padZ (k i0) (p i0) i1))) (.ex (.int .i64 (padZ (k i0) (d i0) i1))))) (z%7)) (min l 6)) (iN (z%7))) []:=by
 exact kP (ch:=[.reg 1 [(2,.z ((z%7:Nat):Int)),(3,.z ((z%7:Nat):Int))],.loop 4 (Nat) (fun g=>g≤(min l 6)) (fun g=>min l 6-g) (fun g=>⟨[(1,.own 0 0),(4,iN (z%7)),(5,.own 1 0),(6,iN g)],[(0,.one (.var 24 (.agg (c2 (.ex (.int .u8 (z:Int))) (.sl 1 (fun i0=>.sl 2 (fun i1=>.agg (c2 (.ex (.int .i64 (p i0 i1))) (.ex (.int .i64 (d i0 i1))))) (k i0)) l))))),(1,.one (.row 26 1 (fun i0=>.sl 2 (fun i1=>.agg (c2 (.ex (.int .i64 (padZ (k i0) (p i0) i1))) (.ex (.int .i64 (padZ (k i0) (d i0) i1))))) (z%7)) g))],2⟩) [(0,.id 0),(1,.nil)] (fun _=>[(0,.id 0),(1,.id 3)]) (fun g=>[.reg 6 [(1,.row (z%7) (fun i0=>.agg (c2 (.ex (.int .i64 (padZ 0 (p g) i0))) (.ex (.int .i64 (padZ 0 (d g) i0))))))],.loop 8 (Nat) (fun h=>h≤z%7∧h≤k g) (fun h=>z%7-h) (fun h=>⟨[(1,.own 0 0),(4,iN (z%7)),(5,.own 1 0),(6,iN g),(7,.own 2 0),(8,iN h)],[(0,.one (.var 24 (.agg (c2 (.ex (.int .u8 (z:Int))) (.sl 1 (fun i0=>.sl 2 (fun i1=>.agg (c2 (.ex (.int .i64 (p i0 i1))) (.ex (.int .i64 (d i0 i1))))) (k i0)) l))))),(1,.one (.row 26 1 (fun i0=>.sl 2 (fun i1=>.agg (c2 (.ex (.int .i64 (padZ (k i0) (p i0) i1))) (.ex (.int .i64 (padZ (k i0) (d i0) i1))))) (z%7)) g)),(2,.one (.row 105 2 (fun i0=>.agg (c2 (.ex (.int .i64 (padZ h (p g) i0))) (.ex (.int .i64 (padZ h (d g) i0))))) (z%7)))],3⟩) [(0,.id 0),(1,.id 1),(2,.id 2)] (fun _=>[(0,.id 0),(1,.id 1),(2,.id 2)]) (fun h=>[.reg 8 [(8,.k g)],.reg 10 [(5,.k g),(8,.k h),(10,.k h),(11,.row 0 (fun i0=>.agg (c2 (.ex (.int .i64 (padZ (h+1) (p g) i0))) (.ex (.int .i64 (padZ (h+1) (d g) i0))))))],.reg 9 [(1,.z ((h+1:Nat):Int))],.conv 11 [(0,.id 0),(1,.id 1)] ⟨[(1,.own 0 0),(4,iN (z%7)),(5,.own 1 0),(6,iN g),(7,.sl 2 (fun i0=>.agg (c2 (.ex (.int .i64 (padZ (k g) (p g) i0))) (.ex (.int .i64 (padZ (k g) (d g) i0))))) (z%7))],[(0,.one (.var 24 (.agg (c2 (.ex (.int .u8 (z:Int))) (.sl 1 (fun i0=>.sl 2 (fun i1=>.agg (c2 (.ex (.int .i64 (p i0 i1))) (.ex (.int .i64 (d i0 i1))))) (k i0)) l))))),(1,.one (.row 26 1 (fun i0=>.sl 2 (fun i1=>.agg (c2 (.ex (.int .i64 (padZ (k i0) (p i0) i1))) (.ex (.int .i64 (padZ (k i0) (d i0) i1))))) (z%7)) g))],3⟩,.reg 11 [(3,.row 0 (fun i0=>.sl 2 (fun i1=>.agg (c2 (.ex (.int .i64 (padZ (k i0) (p i0) i1))) (.ex (.int .i64 (padZ (k i0) (d i0) i1))))) (z%7)))],.reg 5 [(1,.z ((g+1:Nat):Int))]])])]) Tryz.func65 ((∀j0,j0<l→(∀j1,j1<(k j0)→True))∧((7:Int)≠0)∧((z:Int).tmod 7=(((z%7:Nat):Int)))∧(IntKind.wrap .i64 ((z%7:Nat):Int)=(((z%7:Nat):Int)))∧(((fun X1 X2 X3 X4 X5 X6:Prop=>∃g0:Nat,X1∧X2∧X3∧((0:Int)=(g0:Int))∧X4∧X5∧X6∧((g0:Nat)=0)∧(g0≤(min l 6))) _ _ _ _ _ _)∧∀g:Nat,(g≤(min l 6))→(((decide ((g:Int)<(l:Int)))==true)=true→((decide ((g:Int)<(l:Int)))==true)=true)∧((decide ((g:Int)<(l:Int)))=true→((decide ((g:Int)<(l:Int)))==true)=true)∧(((bif (decide ((g:Int)<(l:Int))) then(decide ((g:Int)<6)) else false)=true→_∧_∧((z%7)≤68719476736)∧(∀j0,j0<(z%7)→((0:Int)=(padZ 0 (p g) j0))∧((0:Int)=(padZ 0 (d g) j0)))∧(((fun X1 X2 X3 X4 X5 X6 X7 X8 X9 X10 X11:Prop=>∃h0:Nat,X1∧X2∧X3∧X4∧X5∧((0:Int)=(h0:Int))∧X6∧X7∧X8∧X9∧X10∧X11∧(∀j0,j0<(z%7)→((padZ 0 (p g) j0:Int)=(padZ h0 (p g) j0))∧((padZ 0 (d g) j0:Int)=(padZ h0 (d g) j0)))∧(h0≤z%7∧h0≤k g)) _ _ _ _ _ _ _ _ _ _ _)∧∀h:Nat,(h≤z%7∧h≤k g)→(((decide ((h:Int)<((z%7:Nat):Int)))==true)=true→((decide ((h:Int)<((z%7:Nat):Int)))==true)=true)∧(((decide ((h:Int)<((z%7:Nat):Int)))==true)=true→((decide ((h:Int)<((z%7:Nat):Int)))==true)=true)∧(((decide ((h:Int)<((z%7:Nat):Int)))==true)=true→((decide ((h:Int)<((z%7:Nat):Int)))==true)=true)∧(((decide ((h:Int)<((z%7:Nat):Int)))==true)=true→_)∧(((decide ((h:Int)<((z%7:Nat):Int)))==true)=true→g<l)∧(((decide ((h:Int)<((z%7:Nat):Int)))==true)=true→((decide ((h:Int)<((z%7:Nat):Int)))==true)=true)∧(((decide ((h:Int)<((z%7:Nat):Int)))==true)=true→((decide ((h:Int)<((z%7:Nat):Int)))==true)=true)∧(((decide ((h:Int)<((z%7:Nat):Int)))==true)=true→((decide ((h:Int)<((z%7:Nat):Int)))==true)=true)∧(((decide ((h:Int)<((z%7:Nat):Int)))==true)=true→((decide ((h:Int)<((z%7:Nat):Int)))==true)=true)∧((decide ((h:Int)<((z%7:Nat):Int)))=true→((decide ((h:Int)<((z%7:Nat):Int)))==true)=true)∧(((bif (decide ((h:Int)<((z%7:Nat):Int))) then(decide ((h:Int)<(k g:Int))) else false)=true→_∧(g<l)∧_∧(h<(k g))∧_∧(h<(z%7))∧(h<(z%7))∧(((p g h:Int)=(padZ (h+1) (p g) h))∧((d g h:Int)=(padZ (h+1) (d g) h)))∧(∀t,t<(z%7)→t≠h→(.agg (c2 (.ex (.int .i64 (padZ (h+1) (p g) t))) (.ex (.int .i64 (padZ (h+1) (d g) t)))):SV)=.agg (c2 (.ex (.int .i64 (padZ h (p g) t))) (.ex (.int .i64 (padZ h (d g) t)))))∧_∧((fun X1 X2 X3 X4 X5 X6 X7 X8 X9 X10 X11:Prop=>∃h1:Nat,X1∧X2∧X3∧X4∧X5∧(((h+1:Nat):Int)=(h1:Int))∧X6∧X7∧X8∧X9∧X10∧X11∧(∀j0,j0<(z%7)→((padZ (h+1) (p g) j0:Int)=(padZ h1 (p g) j0))∧((padZ (h+1) (d g) j0:Int)=(padZ h1 (d g) j0)))∧(h1≤z%7∧h1≤k g)∧(z%7-h1<z%7-h)) _ _ _ _ _ _ _ _ _ _ _))∧((bif (decide ((h:Int)<((z%7:Nat):Int))) then(decide ((h:Int)<(k g:Int))) else false)=false→_∧_∧_∧_∧_∧(∀j0,j0<(z%7)→((padZ h (p g) j0:Int)=(padZ (k g) (p g) j0))∧((padZ h (d g) j0:Int)=(padZ (k g) (d g) j0)))∧_∧_∧_∧_∧_∧(g+1≤68719476736)∧_∧_∧_∧((fun X1 X2 X3 X4 X5 X6 X7:Prop=>∃g1:Nat,X1∧X2∧X3∧(((g+1:Nat):Int)=(g1:Int))∧X4∧X5∧X6∧((g+1:Nat)=g1)∧X7∧(g1≤(min l 6))∧(min l 6-g1<min l 6-g)) _ _ _ _ _ _ _)))))∧((bif (decide ((g:Int)<(l:Int))) then(decide ((g:Int)<6)) else false)=false→(((g:Nat)=(min l 6))∧_∧_)))))
  ⟨(fun _ _=>(fun _ _=>trivial)),(by decide),rfl,(by rw[IntKind.wrap_i64];omega),⟨0,(rf 0),(rf ((z%7:Nat):Int)),(rf 0),zo,(rf (z:Int)),(rf l),(leS (fun i0=>.sl 2 (fun i1=>.agg (c2 (.ex (.int .i64 (p i0 i1))) (.ex (.int .i64 (d i0 i1))))) (k i0)) l),zo,zo⟩,fun g hg=>⟨id,(by first | (simp;done) | (simp;omega)),fun hc21=>have hc:=bif_true hc21;⟨(rf ((z%7:Nat):Int)),(rf ((z%7:Nat):Int)),zo,(fun j0 hj0=>⟨(padZ_zero).symm,(padZ_zero).symm⟩),⟨0,(rf 0),(rf ((z%7:Nat):Int)),(rf 0),(rf (g:Int)),(rf 0),zo,(rf (z:Int)),(rf l),(leS (fun i0=>.sl 2 (fun i1=>.agg (c2 (.ex (.int .i64 (p i0 i1))) (.ex (.int .i64 (d i0 i1))))) (k i0)) l),(rf g),(leS (fun i0=>.sl 2 (fun i1=>.agg (c2 (.ex (.int .i64 (padZ (k i0) (p i0) i1))) (.ex (.int .i64 (padZ (k i0) (d i0) i1))))) (z%7)) g),(rf (z%7:Nat)),(fun j0 hj0=>⟨zo,zo⟩),zo⟩,fun h hh=>⟨id,id,id,(fun hg=>(rf (g:Int))),(fun hg=>zo),id,id,id,id,(by first | (simp;done) | (simp;omega)),fun hc38=>have hc2:=bif_true hc38;⟨(rf (g:Int)),zo,(rf (h:Int)),zo,(rf (h:Int)),zo,zo,⟨(padZ_at).symm,(padZ_at).symm⟩,(fun t ht hne=>by simp only[padZ_ne hne]),(wI (g:=h) zo),h+1,(rf 0),(rf ((z%7:Nat):Int)),(rf 0),(rf (g:Int)),(rf 0),zo,(rf (z:Int)),(rf l),(leS (fun i0=>.sl 2 (fun i1=>.agg (c2 (.ex (.int .i64 (p i0 i1))) (.ex (.int .i64 (d i0 i1))))) (k i0)) l),(rf g),(leS (fun i0=>.sl 2 (fun i1=>.agg (c2 (.ex (.int .i64 (padZ (k i0) (p i0) i1))) (.ex (.int .i64 (padZ (k i0) (d i0) i1))))) (z%7)) g),(rf (z%7:Nat)),(fun j0 hj0=>⟨zo,zo⟩),zo,zo⟩,fun hc38=>have hi3:=bif_false hc38;⟨(rf 0),(rf ((z%7:Nat):Int)),(rf 0),(rf (g:Int)),(rf (z%7:Nat)),(fun j0 hj0=>⟨(padZ_end zo),(padZ_end zo)⟩),(rf (z:Int)),(rf l),(leS (fun i0=>.sl 2 (fun i1=>.agg (c2 (.ex (.int .i64 (p i0 i1))) (.ex (.int .i64 (d i0 i1))))) (k i0)) l),(rf g),(leS (fun i0=>.sl 2 (fun i1=>.agg (c2 (.ex (.int .i64 (padZ (k i0) (p i0) i1))) (.ex (.int .i64 (padZ (k i0) (d i0) i1))))) (z%7)) g),zo,(oldS (fun i0=>.sl 2 (fun i1=>.agg (c2 (.ex (.int .i64 (padZ (k i0) (p i0) i1))) (.ex (.int .i64 (padZ (k i0) (d i0) i1))))) (z%7)) g),(newS (fun i0=>.sl 2 (fun i1=>.agg (c2 (.ex (.int .i64 (padZ (k i0) (p i0) i1))) (.ex (.int .i64 (padZ (k i0) (d i0) i1))))) (z%7)) g),(wI (g:=g) zo),g+1,(rf 0),(rf ((z%7:Nat):Int)),(rf 0),zo,(rf (z:Int)),(rf l),(leS (fun i0=>.sl 2 (fun i1=>.agg (c2 (.ex (.int .i64 (p i0 i1))) (.ex (.int .i64 (d i0 i1))))) (k i0)) l),zo,(leS (fun i0=>.sl 2 (fun i1=>.agg (c2 (.ex (.int .i64 (padZ (k i0) (p i0) i1))) (.ex (.int .i64 (padZ (k i0) (d i0) i1))))) (z%7)) (g+1)),zo,zo⟩⟩⟩,fun hc21=>have hi2:g=min l 6:=(by have:=bif_false hc21;omega);⟨hi2,(leS (fun i0=>.sl 2 (fun i1=>.agg (c2 (.ex (.int .i64 (padZ (k i0) (p i0) i1))) (.ex (.int .i64 (padZ (k i0) (d i0) i1))))) (z%7)) g),(rf ((z%7:Nat):Int))⟩⟩⟩
def sumQ (f:Nat→Rat):Nat→Rat
 | 0=>0
 | n+1=>sumQ f n+f n
theorem sumQ_congr{f g:Nat→Rat}:∀n,(∀i,i<n→f i=g i)→sumQ f n=sumQ g n
 | 0,_=>rfl
 | n+1,h=>by show sumQ f n+f n=sumQ g n+g n;rw[sumQ_congr n fun i hi=>h i zo,h n zo]
theorem sumQ_add(f g:Nat→Rat):∀n,sumQ (fun i=>f i+g i) n=sumQ f n+sumQ g n
 | 0=>by show(0:Rat)=0+0;grind
 | n+1=>by show sumQ (fun i=>f i+g i) n+(f n+g n)=_+f n+(_+g n);rw[sumQ_add f g n];grind
theorem sumQ_mul(t:Rat)(f:Nat→Rat):∀n,sumQ (fun i=>t*f i) n=t*sumQ f n
 | 0=>by show(0:Rat)=t*0;grind
 | n+1=>by show sumQ (fun i=>t*f i) n+t*f n=t*(_+f n);rw[sumQ_mul t f n];grind
theorem sumQ_zero:∀n,sumQ (fun _=>0) n=0
 | 0=>rfl
 | n+1=>by show sumQ (fun _=>0) n+0=0;rw[sumQ_zero n];grind
theorem sumQ_head(f:Nat→Rat):∀n,sumQ f (n+1)=f 0+sumQ (fun i=>f (i+1)) n
 | 0=>by show(0:Rat)+f 0=f 0+0;grind
 | n+1=>by show sumQ f (n+1)+f (n+1)=f 0+(sumQ (fun i=>f (i+1)) n+f (n+1));rw[sumQ_head f n];grind
theorem sumQ_comm(f:Nat→Nat→Rat)(m:Nat):∀n,sumQ (fun i=>sumQ (f i) m) n=sumQ (fun j=>sumQ (fun i=>f i j) n) m
 | 0=>by show 0=sumQ (fun _=>0) m;rw[sumQ_zero]
 | n+1=>by
  show sumQ (fun i=>sumQ (f i) m) n+sumQ (f n) m=sumQ (fun j=>sumQ (fun i=>f i j) n+f n j) m
  rw[sumQ_comm f m n,sumQ_add]
theorem sumQ_one{f:Nat→Rat}{k:Nat}:∀n,k<n→(∀i,i<n→i≠k→f i=0)→sumQ f n=f k
 | 0,h,_=>absurd h (Nat.not_lt_zero k)
 | n+1,h,hz=>by
  show sumQ f n+f n=f k
  by_cases e:k=n
  ·subst e
   rw[sumQ_congr k (g:=fun _=>0) (fun i hi=>hz i zo zo),sumQ_zero];grind
  ·rw[sumQ_one n zo (fun i hi=>hz i zo),hz n zo zo];grind
def sgn:Nat→Rat
 | 0=>1
 | n+1=>-sgn n
def skp (k i:Nat):Nat:=if i<k then i else i+1
def minor (A:Nat→Nat→Rat) (r c:Nat):Nat→Nat→Rat:=fun i j=>A (skp r i) (skp c j)
def trM (A:Nat→Nat→Rat):Nat→Nat→Rat:=fun i j=>A j i
def det:Nat→(Nat→Nat→Rat)→Rat
 | 0,_=>1
 | n+1,A=>sumQ (fun c=>sgn c*A 0 c*det n (minor A 0 c)) (n+1)
def cdet:Nat→(Nat→Nat→Rat)→Rat
 | 0,_=>1
 | n+1,A=>sumQ (fun r=>sgn r*A r 0*cdet n (minor A r 0)) (n+1)
theorem skp_lt{k i n:Nat}(hi:i<n):skp k i<n+1:=by unfold skp;split<;>omega
theorem cdet_congr:∀n {A B:Nat→Nat→Rat},(∀i,i<n→∀j,j<n→A i j=B i j)→cdet n A=cdet n B
 | 0,_,_,_=>rfl
 | n+1,A,B,h=>sumQ_congr _ fun c hc=>by
  rw[h c hc 0 zo,cdet_congr n (A:=minor A c 0) (B:=minor B c 0) fun i hi j hj=>h _ (skp_lt hi) _ (skp_lt hj)]
theorem det_tr:∀n (A:Nat→Nat→Rat),det n (trM A)=cdet n A
 | 0,_=>rfl
 | n+1,A=>sumQ_congr _ fun c _=>by
  show sgn c*A c 0*det n (minor (trM A) 0 c)=_
  rw[←det_tr n (minor A c 0)];rfl
theorem minor_minor(A:Nat→Nat→Rat)(r c:Nat):minor (minor A 0 (c+1)) r 0=minor (minor A (r+1) 0) 0 c:=by
 funext i j
 show A (skp 0 (skp r i)) (skp (c+1) (skp 0 j))=A (skp (r+1) (skp 0 i)) (skp 0 (skp c j))
 have e1:skp 0 (skp r i)=skp (r+1) (skp 0 i):=by unfold skp;repeat (first | split | omega)
 have e2:skp (c+1) (skp 0 j)=skp 0 (skp c j):=by unfold skp;repeat (first | split | omega)
 rw[e1,e2]
theorem det_cdet:∀n (A:Nat→Nat→Rat),det n A=cdet n A
 | 0,_=>rfl
 | 1,A=>by show(0:Rat)+sgn 0*A 0 0*1=0+sgn 0*A 0 0*1;rfl
 | n+2,A=>by
  refine(sumQ_head (fun c=>sgn c*A 0 c*det (n+1) (minor A 0 c)) (n+1)).trans (Eq.trans ?_ (sumQ_head (fun r=>sgn r*A r 0*cdet (n+1) (minor A r 0)) (n+1)).symm)
  show sgn 0*A 0 0*det (n+1) (minor A 0 0)+_=sgn 0*A 0 0*cdet (n+1) (minor A 0 0)+_
  rw[det_cdet (n+1) (minor A 0 0)]
  congr 1
  have h1:∀c,c<n+1→sgn (c+1)*A 0 (c+1)*det (n+1) (minor A 0 (c+1))=sumQ (fun r=>sgn (c+1)*sgn r*A 0 (c+1)*A (r+1) 0*det n (minor (minor A 0 (c+1)) r 0)) (n+1):=fun c _=>by
   rw[det_cdet (n+1) (minor A 0 (c+1))]
   show _*sumQ _ (n+1)=_
   rw[←sumQ_mul]
   refine sumQ_congr _ fun r _=>?_
   rw[←det_cdet n]
   show sgn (c+1)*A 0 (c+1)*(sgn r*A (skp 0 r) (skp (c+1) 0)*_)=_
   have e1:skp 0 r=r+1:=by unfold skp;rw[if_neg (Nat.not_lt_zero r)]
   have e2:skp (c+1) 0=0:=by unfold skp;rw[if_pos (Nat.succ_pos c)]
   rw[e1,e2];grind
  have h2:∀r,r<n+1→sgn (r+1)*A (r+1) 0*cdet (n+1) (minor A (r+1) 0)=sumQ (fun c=>sgn (c+1)*sgn r*A 0 (c+1)*A (r+1) 0*det n (minor (minor A 0 (c+1)) r 0)) (n+1):=fun r _=>by
   rw[←det_cdet (n+1) (minor A (r+1) 0)]
   show _*sumQ _ (n+1)=_
   rw[←sumQ_mul]
   refine sumQ_congr _ fun c _=>?_
   rw[minor_minor]
   show sgn (r+1)*A (r+1) 0*(sgn c*A (skp (r+1) 0) (skp 0 c)*_)=_
   have e1:skp 0 c=c+1:=by unfold skp;rw[if_neg (Nat.not_lt_zero c)]
   have e2:skp (r+1) 0=0:=by unfold skp;rw[if_pos (Nat.succ_pos r)]
   rw[e1,e2]
   show(-sgn r)*_*_=(-sgn c)*_*_*_*_
   grind
  exact(sumQ_congr _ h1).trans ((sumQ_comm _ _ _).trans (sumQ_congr _ h2).symm)
def setR (A:Nat→Nat→Rat) (r:Nat) (x:Nat→Rat):Nat→Nat→Rat:=fun i j=>if i=r then x j else A i j
def unsk (k i:Nat):Nat:=if i<k then i else i-1
theorem minor_setR_self(A:Nat→Nat→Rat)(r:Nat)(x:Nat→Rat)(c:Nat):minor (setR A r x) r c=minor A r c:=by
 funext i j
 show(if skp r i=r then _ else _)=_
 rw[if_neg (by unfold skp;split<;>omega)];rfl
theorem minor_setR(A:Nat→Nat→Rat){r i:Nat}(h:i≠r)(x:Nat→Rat)(c:Nat):minor (setR A r x) i c=setR (minor A i c) (unsk i r) (fun j=>x (skp c j)):=by
 funext k j
 show(if skp i k=r then _ else _)=(if k=unsk i r then _ else _)
 have e:skp i k=r↔k=unsk i r:=by unfold skp unsk;split<;>split<;>omega
 by_cases q:skp i k=r
 ·rw[if_pos q,if_pos (e.1 q)]
 ·rw[if_neg q,if_neg fun q'=>q (e.2 q')];rfl
theorem cdet_lin:∀n (A:Nat→Nat→Rat) (r:Nat) (x y:Nat→Rat) (s t:Rat),r<n→cdet n (setR A r (fun j=>s*x j+t*y j))=s*cdet n (setR A r x)+t*cdet n (setR A r y)
 | 0,_,_,_,_,_,_,h=>absurd h (Nat.not_lt_zero _)
 | n+1,A,r,x,y,s,t,h=>by
  show sumQ _ (n+1)=s*sumQ _ (n+1)+t*sumQ _ (n+1)
  rw[←sumQ_mul,←sumQ_mul,←sumQ_add]
  refine sumQ_congr _ fun i hi=>?_
  by_cases e:i=r
  ·subst e
   rw[minor_setR_self,minor_setR_self,minor_setR_self]
   show sgn i*(if i=i then _ else _)*_=s*(sgn i*(if i=i then _ else _)*_)+t*(sgn i*(if i=i then _ else _)*_)
   rw[if_pos rfl,if_pos rfl,if_pos rfl];grind
  ·rw[minor_setR A e,minor_setR A e,minor_setR A e,cdet_lin n _ _ (fun j=>x (skp 0 j)) (fun j=>y (skp 0 j)) s t (by unfold unsk;split<;>omega)]
   show sgn i*(if i=r then _ else _)*_=s*(sgn i*(if i=r then _ else _)*_)+t*(sgn i*(if i=r then _ else _)*_)
   rw[if_neg e,if_neg e,if_neg e];grind
def swapR (A:Nat→Nat→Rat) (k l:Nat):Nat→Nat→Rat:=fun i j=>A (if i=k then l else if i=l then k else i) j
theorem cdet_adj:∀n (A:Nat→Nat→Rat) (k:Nat),k+1<n→cdet n (swapR A k (k+1))=-cdet n A
 | 0,_,_,h=>absurd h (Nat.not_lt_zero _)
 | n+1,A,k,h=>by
  show sumQ _ (n+1)=-sumQ _ (n+1)
  have e:∀f:Nat→Rat,-sumQ f (n+1)=(-1:Rat)*sumQ f (n+1):=fun f=>by grind
  rw[e,←sumQ_mul]
  have key:∀i,i<n+1→(fun r=>sgn r*swapR A k (k+1) r 0*cdet n (minor (swapR A k (k+1)) r 0)) i=(-1:Rat)*(fun r=>sgn r*A r 0*cdet n (minor A r 0)) (if i=k then k+1 else if i=k+1 then k else i):=fun i hi=>by
   by_cases h1:i=k
   ·subst h1
    rw[if_pos rfl]
    show sgn i*A (if i=i then i+1 else _) 0*cdet n (minor (swapR A i (i+1)) i 0)=-1*((-sgn i)*A (i+1) 0*cdet n (minor A (i+1) 0))
    rw[if_pos rfl]
    have:minor (swapR A i (i+1)) i 0=minor A (i+1) 0:=by
     funext a b
     show A (if skp i a=i then i+1 else if skp i a=i+1 then i else skp i a) _=A (skp (i+1) a) _
     congr 1
     unfold skp;repeat (first | split | omega)
    rw[this];grind
   ·by_cases h2:i=k+1
    ·subst h2
     rw[if_neg h1,if_pos rfl]
     show(-sgn k)*A (if k+1=k then k+1 else if k+1=k+1 then k else _) 0*cdet n (minor (swapR A k (k+1)) (k+1) 0)=-1*(sgn k*A k 0*cdet n (minor A k 0))
     rw[if_neg h1,if_pos rfl]
     have:minor (swapR A k (k+1)) (k+1) 0=minor A k 0:=by
      funext a b
      show A (if skp (k+1) a=k then k+1 else if skp (k+1) a=k+1 then k else skp (k+1) a) _=A (skp k a) _
      congr 1
      unfold skp;repeat (first | split | omega)
     rw[this];grind
    ·rw[if_neg h1,if_neg h2]
     show sgn i*A (if i=k then k+1 else if i=k+1 then k else i) 0*cdet n (minor (swapR A k (k+1)) i 0)=-1*(sgn i*A i 0*cdet n (minor A i 0))
     rw[if_neg h1,if_neg h2]
     have:minor (swapR A k (k+1)) i 0=swapR (minor A i 0) (unsk i k) (unsk i k+1):=by
      funext a b
      show A (if skp i a=k then k+1 else if skp i a=k+1 then k else skp i a) _=A (skp i (if a=unsk i k then unsk i k+1 else if a=unsk i k+1 then unsk i k else a)) _
      congr 1
      unfold skp unsk;repeat (first | split | omega)
     rw[this,cdet_adj n (minor A i 0) (unsk i k) (by unfold unsk;split<;>omega)];grind
  rw[sumQ_congr _ key]
  show sumQ (fun i=>(-1:Rat)*(fun r=>sgn r*A r 0*cdet n (minor A r 0)) (if i=k then k+1 else if i=k+1 then k else i)) (n+1)=_
  rw[sumQ_mul,sumQ_mul]
  congr 1
  exact sumQ_swap (fun r=>sgn r*A r 0*cdet n (minor A r 0)) _ h
where sumQ_swap (f:Nat→Rat) {k:Nat}:∀n,k+1<n→sumQ (fun i=>f (if i=k then k+1 else if i=k+1 then k else i)) n=sumQ f n
 | 0,h=>absurd h (Nat.not_lt_zero _)
 | n+1,h=>by
  by_cases e:k+1=n
  ·subst e
   show sumQ _ k+f (if k=k then _ else _)+f (if k+1=k then _ else _)=sumQ f k+f k+f (k+1)
   rw[if_pos rfl,if_neg zo,if_pos rfl,sumQ_congr k (g:=f) fun i hi=>by rw[if_neg zo,if_neg zo]]
   grind
  ·show sumQ _ n+f (if n=k then _ else _)=sumQ f n+f n
   rw[sumQ_swap f n zo,if_neg zo,if_neg zo]
theorem cdet_eq0:∀(d n:Nat) (A:Nat→Nat→Rat) (k:Nat),k+d+1<n→(∀j,j<n→A k j=A (k+d+1) j)→cdet n A=0
 | 0,n,A,k,h,e=>by
  have h1:=cdet_adj n A k h
  have h2:cdet n (swapR A k (k+1))=cdet n A:=cdet_congr n fun i _ j hj=>by
   show A (if i=k then k+1 else if i=k+1 then k else i) j=A i j
   by_cases a:i=k
   ·rw[if_pos a,a];exact(e j hj).symm
   ·by_cases b:i=k+1
    ·rw[if_neg a,if_pos b,b];exact e j hj
    ·rw[if_neg a,if_neg b]
  grind
 | d+1,n,A,k,h,e=>by
  have h1:=cdet_adj n A (k+d+1) zo
  have h2:=cdet_eq0 d n (swapR A (k+d+1) (k+d+1+1)) k zo fun j hj=>by
   show A (if k=k+d+1 then _ else if k=k+d+1+1 then _ else k) j=A (if k+d+1=k+d+1 then _ else _) j
   rw[if_neg zo,if_neg zo,if_pos rfl]
   exact e j hj
  grind
theorem cdet_eq{n:Nat}{A:Nat→Nat→Rat}{k l:Nat}(hk:k<n)(hl:l<n)(hkl:k≠l)(e:∀j,j<n→A k j=A l j):cdet n A=0:=by
 by_cases h:k<l
 ·obtain⟨d,rfl⟩:∃d,l=k+d+1:=⟨l-k-1,by omega⟩
  exact cdet_eq0 d n A k hl e
 ·obtain⟨d,rfl⟩:∃d,k=l+d+1:=⟨k-l-1,by omega⟩
  exact cdet_eq0 d n A l hk fun j hj=>(e j hj).symm
theorem setR_self{A:Nat→Nat→Rat}{r:Nat}:setR A r (A r)=A:=by
 funext i j
 show(if i=r then A r j else A i j)=A i j
 by_cases e:i=r
 ·rw[if_pos e,e]
 ·rw[if_neg e]
theorem cdet_addR{n:Nat}(A:Nat→Nat→Rat){r k:Nat}(t:Rat)(hr:r<n)(hk:k<n)(h:r≠k):cdet n (setR A r (fun j=>A r j+t*A k j))=cdet n A:=by
 have h1:=cdet_lin n A r (A r) (A k) 1 t hr
 have h2:cdet n (setR A r (A k))=0:=cdet_eq hr hk h fun j _=>by
  show(if r=r then _ else _)=(if k=r then _ else _)
  rw[if_pos rfl,if_neg (Ne.symm h)]
 have h3:setR A r (fun j=>A r j+t*A k j)=setR A r (fun j=>1*A r j+t*A k j):=by congr 1;funext j;grind
 rw[h3,h1,h2,setR_self];grind
theorem cdet_swap{n:Nat}(A:Nat→Nat→Rat){k l:Nat}(hk:k<n)(hl:l<n)(h:k≠l):cdet n (swapR A k l)=-cdet n A:=by
 have S:∀x y x' y':Nat→Rat,cdet n (setR (setR A k x) l (fun j=>1*y j+1*y' j))=1*cdet n (setR (setR A k x) l y)+1*cdet n (setR (setR A k x) l y'):=fun x y _ y'=>cdet_lin n _ l y y' 1 1 hl
 have C:∀x y:Nat→Rat,setR (setR A k x) l y=setR (setR A l y) k x:=fun x y=>by
  funext i j
  show(if i=l then y j else if i=k then x j else A i j)=(if i=k then x j else if i=l then y j else A i j)
  by_cases a:i=l
  ·subst a;rw[if_pos rfl,if_neg (Ne.symm h),if_pos rfl]
  ·rw[if_neg a,if_neg a]
 have Z:∀x:Nat→Rat,cdet n (setR (setR A k x) l x)=0:=fun x=>cdet_eq hk hl h fun j _=>by
  show(if k=l then _ else if k=k then _ else _)=(if l=l then _ else _)
  rw[if_neg h,if_pos rfl,if_pos rfl]
 have z:=fun j=>(1:Rat)*A k j+1*A l j
 have e0:=Z (fun j=>1*A k j+1*A l j)
 have e1:=cdet_lin n (setR A k (fun j=>1*A k j+1*A l j)) l (A k) (A l) 1 1 hl
 have e2:∀y,cdet n (setR (setR A k (fun j=>1*A k j+1*A l j)) l y)=cdet n (setR (setR A k (A k)) l y)+cdet n (setR (setR A k (A l)) l y):=fun y=>by
  rw[C,cdet_lin n (setR A l y) k (A k) (A l) 1 1 hk,←C,←C];grind
 rw[e0,e2,e2,Z,Z,setR_self] at e1
 have e3:setR A l (A l)=A:=setR_self
 have e4:swapR A k l=setR (setR A k (A l)) l (A k):=by
  funext i j
  show A (if i=k then l else if i=l then k else i) j=(if i=l then A k j else if i=k then A l j else A i j)
  by_cases a:i=k
  ·subst a;rw[if_pos rfl,if_neg h,if_pos rfl]
  ·by_cases b:i=l
   ·rw[if_neg a,if_pos b,if_pos b]
   ·rw[if_neg a,if_neg b,if_neg b,if_neg a]
 rw[e3] at e1
 rw[e4];grind
theorem cdet_mulR{n:Nat}(A:Nat→Nat→Rat){r:Nat}(t:Rat)(hr:r<n):cdet n (setR A r (fun j=>t*A r j))=t*cdet n A:=by
 have h1:=cdet_lin n A r (A r) (A r) t 0 hr
 rw[setR_self] at h1
 have h3:setR A r (fun j=>t*A r j)=setR A r (fun j=>t*A r j+0*A r j):=by congr 1;funext j;grind
 rw[h3,h1];grind
def blk (c:Nat) (A:Nat→Nat→Rat):Nat→Nat→Rat:=fun i j=>A (c+i) (c+j)
theorem cdet_col0{n:Nat}{A:Nat→Nat→Rat}(h:∀i,0<i→i<n+1→A i 0=0):cdet (n+1) A=A 0 0*cdet n (blk 1 A):=by
 show sumQ _ (n+1)=_
 rw[sumQ_one (k:=0) (n+1) zo (fun i hi h0=>by rw[h i zo hi];grind)]
 have:minor A 0 0=blk 1 A:=by
  funext i j
  show A (skp 0 i) (skp 0 j)=A (1+i) (1+j)
  unfold skp;rw[if_neg (Nat.not_lt_zero i),if_neg (Nat.not_lt_zero j),Nat.add_comm,Nat.add_comm j]
 rw[this]
 show(1:Rat)*A 0 0*_=_
 grind
theorem cdet_zero0{n:Nat}{A:Nat→Nat→Rat}(h:∀i,i<n+1→A i 0=0):cdet (n+1) A=0:=by
 rw[cdet_col0 fun i _ hi=>h i hi,h 0 zo];grind
def elimQ (B:Nat→Nat→Rat) (c h:Nat):Nat→Nat→Rat:=fun i j=>if c<i∧i<h then B i j+-(B i c/B c c)*B c j else B i j
theorem elimQ_zero{B:Nat→Nat→Rat}{c i j:Nat}:B i j=elimQ B c (c+1) i j:=(if_neg zo).symm
theorem elimQ_at{B:Nat→Nat→Rat}{c h j:Nat}(hc:c<h):B h j+-(B h c/B c c)*B c j=elimQ B c (h+1) h j:=(if_pos ⟨hc,Nat.lt_succ_self h⟩).symm
theorem elimQ_ne{B:Nat→Nat→Rat}{c h i:Nat}(hi:i≠h):elimQ B c (h+1) i=elimQ B c h i:=by
 funext j
 unfold elimQ
 by_cases e:c<i∧i<h
 ·rw[if_pos e,if_pos ⟨e.1,by omega⟩]
 ·rw[if_neg e,if_neg fun e'=>e ⟨e'.1,by omega⟩]
theorem elimQ_top{B:Nat→Nat→Rat}{c h i:Nat}(hi:i≤c):elimQ B c h i=B i:=by
 funext j;exact if_neg zo
theorem elimQ_end{B:Nat→Nat→Rat}{c h i:Nat}(hi:h≤i):elimQ B c h i=B i:=by
 funext j;exact if_neg zo
theorem elimQ_det{B:Nat→Nat→Rat}{c n:Nat}:∀d,c+1+d≤n→cdet (n-c) (blk c (elimQ B c (c+1+d)))=cdet (n-c) (blk c B)
 | 0,_=>cdet_congr _ fun i _ j _=>(elimQ_zero (B:=B) (c:=c) (i:=c+i) (j:=c+j)).symm
 | d+1,h=>by
  refine Eq.trans ?_ (elimQ_det (B:=B) d zo)
  have h1:=cdet_addR (n:=n-c) (blk c (elimQ B c (c+1+d))) (r:=d+1) (k:=0) (-(B (c+(d+1)) c/B c c)) zo zo zo
  rw[←h1]
  refine cdet_congr _ fun i hi j hj=>?_
  show elimQ B c (c+1+d+1) (c+i) (c+j)=(if i=d+1 then elimQ B c (c+1+d) (c+(d+1)) (c+j)+-(B (c+(d+1)) c/B c c)*elimQ B c (c+1+d) (c+0) (c+j) else elimQ B c (c+1+d) (c+i) (c+j))
  by_cases e:i=d+1
  ·subst e
   rw[if_pos rfl,elimQ_end (B:=B) (h:=c+1+d) (i:=c+(d+1)) zo,elimQ_top (B:=B) (h:=c+1+d) (i:=c+0) zo]
   exact if_pos ⟨by omega,by omega⟩
  ·rw[if_neg e,elimQ_ne zo]
theorem swap_det{B:Nat→Nat→Rat}{c k n:Nat}(hc:c<k)(hk:k<n):cdet (n-c) (blk c (swapR B c k))=-cdet (n-c) (blk c B):=by
 rw[←cdet_swap (blk c B) (k:=0) (l:=k-c) zo zo zo]
 refine cdet_congr _ fun i _ j _=>?_
 show B (if c+i=c then k else if c+i=k then c else c+i) (c+j)=B (c+(if i=0 then k-c else if i=k-c then 0 else i)) (c+j)
 congr 1
 by_cases a:i=0
 ·rw[if_pos zo,if_pos a];omega
 ·by_cases b:i=k-c
  ·rw[if_neg zo,if_pos zo,if_neg a,if_pos b];rfl
  ·rw[if_neg zo,if_neg zo,if_neg a,if_neg b]
theorem det_none{B:Nat→Nat→Rat}{c n:Nat}{o:Rat}(hc:c<n)(h:∀i,c≤i→i<n→B i c=0):o*cdet (n-c) (blk c B)=0:=by
 obtain⟨m,hm⟩:∃m,n-c=m+1:=⟨n-c-1,by omega⟩
 rw[hm,cdet_zero0 fun i hi=>h (c+i) zo zo];grind
theorem det_step{B:Nat→Nat→Rat}{c n:Nat}{o D:Rat}(hc:c<n)(hp:B c c≠0)(h:o*cdet (n-c) (blk c B)=D):o*B c c*cdet (n-(c+1)) (blk (c+1) (elimQ B c n))=D:=by
 obtain⟨m,hm⟩:∃m,n-c=m+1:=⟨n-c-1,by omega⟩
 have h1:=elimQ_det (B:=B) (c:=c) (n:=n) (n-c-1) zo
 rw[show c+1+(n-c-1)=n by omega,hm,cdet_col0 fun i h0 hi=>by
  show elimQ B c n (c+i) (c+0)=0
  unfold elimQ
  rw[if_pos ⟨by omega,by omega⟩]
  show B (c+i) c+-(B (c+i) c/B c c)*B c c=0
  rw[Rat.neg_mul,Rat.div_mul_cancel hp];grind] at h1
 have h2:blk c (elimQ B c n) 0 0=B c c:=by show elimQ B c n (c+0) (c+0)=_;rw[elimQ_top zo];rfl
 have h3:cdet m (blk 1 (blk c (elimQ B c n)))=cdet (n-(c+1)) (blk (c+1) (elimQ B c n)):=by
  rw[show n-(c+1)=m by omega]
  refine cdet_congr _ fun i _ j _=>?_
  show elimQ B c n (c+(1+i)) (c+(1+j))=elimQ B c n (c+1+i) (c+1+j)
  rw[Nat.add_assoc,Nat.add_assoc]
 rw[h2,h3] at h1
 rw[←h,hm,←h1];grind
def leadK (B:Nat→Nat→Rat) (c:Nat):Nat→Nat→Nat
 | a,0=>a
 | a,d+1=>if B a c=0 then leadK B c (a+1) d else a
theorem leadK_le{B:Nat→Nat→Rat}{c:Nat}:∀d a,a≤leadK B c a d∧leadK B c a d≤a+d
 | 0,a=>⟨Nat.le_refl a,Nat.le_refl a⟩
 | d+1,a=>by
  unfold leadK
  split
  ·have:=leadK_le (B:=B) (c:=c) d (a+1);omega
  ·omega
theorem leadK_at{B:Nat→Nat→Rat}{c:Nat}:∀d a,leadK B c a d<a+d→B (leadK B c a d) c≠0
 | 0,a,h=>absurd h (Nat.lt_irrefl a)
 | d+1,a,h=>by
  unfold leadK at h⊢
  split
  ·rename_i e;rw[if_pos e] at h;exact leadK_at d (a+1) zo
  ·assumption
theorem leadK_none{B:Nat→Nat→Rat}{c:Nat}:∀d a i,a≤i→i<leadK B c a d→B i c=0
 | 0,a,i,h,h2=>absurd h2 (Nat.not_lt.2 h)
 | d+1,a,i,h,h2=>by
  unfold leadK at h2
  split at h2
  ·rename_i e
   by_cases q:i=a
   ·rw[q];exact e
   ·exact leadK_none d (a+1) i zo h2
  ·omega
theorem leadK_eq{B:Nat→Nat→Rat}{c:Nat}:∀d a k,a≤k→k≤a+d→(∀i,a≤i→i<k→B i c=0)→(k<a+d→B k c≠0)→leadK B c a d=k
 | 0,a,k,h,h2,_,_=>by show a=k;omega
 | d+1,a,k,h,h2,h3,h4=>by
  unfold leadK
  split
  ·rename_i e
   have:a≠k:=fun q=>h4 zo (by rw[←q];exact e)
   exact leadK_eq d (a+1) k zo zo (fun i hi=>h3 i zo) (fun hk=>h4 zo)
  ·rename_i e
   by_cases q:a=k
   ·exact q
   ·exact absurd (h3 a (Nat.le_refl a) zo) e
def scaleQ (B:Nat→Nat→Rat) (a c:Nat):Nat→Nat→Rat:=setR B a (fun j=>(B a c)⁻¹*B a j)
def clearQ (B:Nat→Nat→Rat) (a c:Nat):Nat→Nat→Rat:=fun r j=>if r=a then B a j else B r j+-(B r c)*B a j
abbrev RedS:=(Nat→Nat→Rat)×Nat×(Nat→Nat)
def redStep (m:Nat) (s:RedS) (c:Nat):RedS:=
 if leadK s.1 c s.2.1 (m-s.2.1)<m then(clearQ (scaleQ (swapR s.1 s.2.1 (leadK s.1 c s.2.1 (m-s.2.1))) s.2.1 c) s.2.1 c,s.2.1+1,fun i=>if i=s.2.1 then c else s.2.2 i) else s
def red (m:Nat) (A:Nat→Nat→Rat):Nat→RedS
 | 0=>(A,0,fun _=>0)
 | c+1=>redStep m (red m A c) c
def Spn (m:Nat) (B:Nat→Nat→Rat) (x:Nat→Rat):Prop:=∃t:Nat→Rat,∀j,x j=sumQ (fun k=>t k*B k j) m
theorem Spn.self{m:Nat}{B:Nat→Nat→Rat}{r:Nat}(hr:r<m):Spn m B (B r):=⟨fun k=>if k=r then 1 else 0,fun j=>by
 rw[sumQ_one (k:=r) m hr fun i _ hi=>by show(if i=r then(1:Rat) else 0)*B i j=0;rw[if_neg hi];grind]
 show B r j=(if r=r then(1:Rat) else 0)*B r j
 rw[if_pos rfl];grind⟩
theorem Spn.lin{m:Nat}{B:Nat→Nat→Rat}{x y:Nat→Rat}(s t:Rat)(hx:Spn m B x)(hy:Spn m B y):Spn m B (fun j=>s*x j+t*y j):=by
 obtain⟨u,hu⟩:=hx
 obtain⟨v,hv⟩:=hy
 refine⟨fun k=>s*u k+t*v k,fun j=>?_⟩
 show s*x j+t*y j=sumQ (fun k=>(s*u k+t*v k)*B k j) m
 rw[hu,hv,←sumQ_mul,←sumQ_mul,←sumQ_add]
 exact sumQ_congr m fun i _=>by grind
theorem Spn.sum{m p:Nat}{B:Nat→Nat→Rat}{X:Nat→Nat→Rat}{t:Nat→Rat}(h:∀k,k<p→Spn m B (X k)):Spn m B (fun j=>sumQ (fun k=>t k*X k j) p):=by
 induction p with
 | zero=>exact⟨fun _=>0,fun j=>by show 0=sumQ (fun k=>0*B k j) m;rw[sumQ_congr m (g:=fun _=>0) fun i _=>by grind,sumQ_zero]⟩
 | succ p ih=>
  have h1:=Spn.lin 1 (t p) (ih fun k hk=>h k zo) (h p zo)
  obtain⟨u,hu⟩:=h1
  exact⟨u,fun j=>by rw[←hu];show sumQ (fun k=>t k*X k j) p+t p*X p j=_;grind⟩
theorem Spn.trans{m p:Nat}{B C:Nat→Nat→Rat}{x:Nat→Rat}(hx:Spn p C x)(h:∀k,k<p→Spn m B (C k)):Spn m B x:=by
 obtain⟨t,ht⟩:=hx
 obtain⟨u,hu⟩:=Spn.sum (t:=t) h
 exact⟨u,fun j=>(ht j).trans (hu j)⟩
def Same2 (m:Nat) (A B:Nat→Nat→Rat):Prop:=(∀r,r<m→Spn m B (A r))∧∀r,r<m→Spn m A (B r)
theorem Same2.rfl{m:Nat}{A:Nat→Nat→Rat}:Same2 m A A:=⟨fun _ h=>.self h,fun _ h=>.self h⟩
theorem Same2.trans{m:Nat}{A B C:Nat→Nat→Rat}(h:Same2 m A B)(k:Same2 m B C):Same2 m A C:=⟨fun r hr=>(h.1 r hr).trans k.1,fun r hr=>(k.2 r hr).trans h.2⟩
structure RedInv (m:Nat) (A:Nat→Nat→Rat) (c:Nat) (s:RedS):Prop where
 am:s.2.1≤m
 ac:s.2.1≤c
 lt:∀i,i<s.2.1→s.2.2 i<c
 inc:∀i j,i<j→j<s.2.1→s.2.2 i<s.2.2 j
 one:∀i,i<s.2.1→s.1 i (s.2.2 i)=1
 zero:∀i,i<s.2.1→∀r,r<m→r≠i→s.1 r (s.2.2 i)=0
 left:∀i,i<s.2.1→∀j,j<s.2.2 i→s.1 i j=0
 low:∀r,s.2.1≤r→r<m→∀j,j<c→s.1 r j=0
 same:Same2 m A s.1
theorem sumQ_cut{f:Nat→Rat}{a:Nat}:∀m,a≤m→(∀k,a≤k→k<m→f k=0)→sumQ f m=sumQ f a
 | 0,h,_=>by rw[Nat.le_zero.1 h]
 | m+1,h,hz=>by
  by_cases e:a=m+1
  ·rw[e]
  ·show sumQ f m+f m=_
   rw[sumQ_cut m zo (fun k h1 h2=>hz k h1 zo),hz m zo zo];grind
theorem RedInv.row{m n:Nat}{A:Nat→Nat→Rat}{s:RedS}(H:RedInv m A n s){r:Nat}(hr:r<m):∀j,j<n→A r j=sumQ (fun k=>A r (s.2.2 k)*s.1 k j) s.2.1:=by
 obtain⟨t,ht⟩:=H.same.1 r hr
 have h1:∀j,j<n→A r j=sumQ (fun k=>t k*s.1 k j) s.2.1:=fun j hj=>by
  rw[ht,sumQ_cut m H.am fun k h1 h2=>by rw[H.low k h1 h2 j hj];grind]
 intro j hj
 rw[h1 j hj]
 refine sumQ_congr _ fun k hk=>?_
 have hl:=H.lt k hk
 rw[h1 _ hl,sumQ_one (k:=k) _ hk fun i hi hne=>by rw[H.zero k hk i (Nat.lt_of_lt_of_le hi H.am) hne];grind,H.one k hk];grind
theorem RedInv.inj{m n:Nat}{A:Nat→Nat→Rat}{s:RedS}(H:RedInv m A n s){i k:Nat}(hi:i<s.2.1)(hk:k<s.2.1)(e:s.2.2 i=s.2.2 k):i=k:=by
 rcases Nat.lt_trichotomy i k with h | h | h
 ·have:=H.inc i k h hk;omega
 ·exact h
 ·have:=H.inc k i h hi;omega
theorem RedInv.free{m n:Nat}{A:Nat→Nat→Rat}{s:RedS}(H:RedInv m A n s)(hn:s.2.1<n):∃c,c<n∧∀i,i<s.2.1→s.2.2 i≠c:=by
 refine Classical.byContradiction fun hc=>?_
 have all:∀c,c<n→∃i,i<s.2.1∧s.2.2 i=c:=fun c hcn=>Classical.byContradiction fun k=>hc ⟨c,hcn,fun i hi e=>k ⟨i,hi,e⟩⟩
 have key:∀c,c<n→c<s.2.1∧s.2.2 c=c:=by
  intro c
  induction c using Nat.strongRecOn with
  | _ c ih=>
   intro hcn
   obtain⟨i,hi,e⟩:=all c hcn
   rcases Nat.lt_trichotomy i c with q | q | q
   ·have:=(ih i q zo).2;omega
   ·subst q;exact⟨hi,e⟩
   ·have h1:=H.inc c i q hi
    by_cases c0:c=0
    ·omega
    ·have h2:=(ih (c-1) zo zo).2
     have h3:=H.inc (c-1) c zo zo
     omega
 have:=(key s.2.1 hn).1
 omega
theorem rat_mul_ne{x y:Rat}(hx:x≠0)(hy:y≠0):x*y≠0:=fun h=>(Rat.mul_eq_zero.1 h).elim hx hy
def wideQ (n:Nat) (q:Nat→Nat→Rat) (b:Nat→Rat):Nat→Nat→Rat:=fun r j=>if j<n then q r j else b r
def noSol (m n:Nat) (q:Nat→Nat→Rat) (b:Nat→Rat):Prop:=leadK (red m (wideQ n q b) n).1 n (red m (wideQ n q b) n).2.1 (m-(red m (wideQ n q b) n).2.1)<m
instance (m n:Nat) (q:Nat→Nat→Rat) (b:Nat→Rat):Decidable (noSol m n q b):=inferInstanceAs (Decidable (_<_))
theorem Spn.rel{m n:Nat}{A:Nat→Nat→Rat}{w x:Nat→Rat}(h:∀r,r<m→A r n=sumQ (fun j=>A r j*w j) n)(hx:Spn m A x):x n=sumQ (fun j=>x j*w j) n:=by
 obtain⟨t,ht⟩:=hx
 rw[ht n,sumQ_congr m (g:=fun k=>sumQ (fun j=>t k*(A k j*w j)) n) fun k hk=>by rw[h k hk,sumQ_mul],sumQ_comm (fun k j=>t k*(A k j*w j)) n m]
 refine sumQ_congr n fun j _=>?_
 rw[ht j]
 have:sumQ (fun k=>t k*A k j) m*w j=w j*sumQ (fun k=>t k*A k j) m:=by grind
 rw[this,←sumQ_mul]
 exact sumQ_congr m fun k _=>by grind
def putC (A:Nat→Nat→Rat) (c:Nat) (b:Nat→Rat):Nat→Nat→Rat:=fun i j=>if j=c then b i else A i j
theorem cdet_trM(n:Nat)(A:Nat→Nat→Rat):cdet n (trM A)=cdet n A:=by rw[←det_cdet,det_tr]
theorem cdet_sumR{n:Nat}(A:Nat→Nat→Rat){r:Nat}(hr:r<n)(X:Nat→Nat→Rat)(t:Nat→Rat):∀m,cdet n (setR A r (fun j=>sumQ (fun k=>t k*X k j) m))=sumQ (fun k=>t k*cdet n (setR A r (X k))) m
 | 0=>by
  have h:=cdet_mulR (setR A r (fun _=>0)) 0 hr
  show cdet n (setR A r fun _=>0)=0
  rw[cdet_congr n (B:=setR A r fun _=>0) fun i _ j _=>by
   unfold setR
   split
   ·dsimp only;rw[if_pos rfl];grind
   ·rfl] at h
  rw[h];grind
 | m+1=>by
  have h:=cdet_lin n A r (fun j=>sumQ (fun k=>t k*X k j) m) (X m) 1 (t m) hr
  have ih:=cdet_sumR A hr X t m
  show cdet n (setR A r (fun j=>sumQ (fun k=>t k*X k j) m+t m*X m j))=sumQ (fun k=>t k*cdet n (setR A r (X k))) m+t m*cdet n (setR A r (X m))
  rw[←ih]
  have e:(fun j=>sumQ (fun k=>t k*X k j) m+t m*X m j)=fun j=>1*sumQ (fun k=>t k*X k j) m+t m*X m j:=by funext j;grind
  rw[e,h];grind
theorem cramer{n:Nat}{A:Nat→Nat→Rat}{b x:Nat→Rat}(h:∀r,r<n→sumQ (fun j=>A r j*x j) n=b r){c:Nat}(hc:c<n):cdet n (putC A c b)=x c*cdet n A:=by
 rw[←cdet_trM n (putC A c b),←cdet_trM n A]
 rw[cdet_congr n (A:=trM (putC A c b)) (B:=setR (trM A) c (fun j=>sumQ (fun k=>x k*trM A k j) n)) fun i _ j hj=>by
  show(if i=c then b j else A j i)=if i=c then sumQ (fun k=>x k*A j k) n else A j i
  split
  ·rw[←h j hj];exact sumQ_congr n fun k _=>by grind
  ·rfl]
 rw[cdet_sumR _ hc,sumQ_one (k:=c) n hc fun k hk hkc=>by
  rw[cdet_eq (k:=c) (l:=k) hc hk (Ne.symm hkc) fun j _=>by
   show(if c=c then trM A k j else _)=if k=c then _ else trM A k j
   rw[if_pos rfl,if_neg hkc]]
  grind]
 rw[setR_self]
open Go.RowKit
def delI (k c:Nat):Nat:=if c<k then c else c+1
theorem CallOKm.cut [Fz]{P:Program}{f:FuncId}{c:Hl}{T:TypeId}{s n r i:Nat}{E:Nat→SV}(cal:Callable P f)(hg:c.get i=some (.row T s E n))(hr:r<n)
  (hraw : ∀ (g cc : Nat) (cs : Array Value) (w : World), Blk w g T cs → cs.size = s * cc → (∀ j u, j < s * n → cs[j]? = some u → u.oneCell' = true) → n ≤ cc →
   Calls P f #[.slice (some ⟨g,0,none⟩) n cc,.int .i64 ((r:Nat):Int),.int .i64 ((r+1:Nat):Int)] w fun e w'=>e=.returned (.slice (some ⟨g,0,none⟩) (r+(n-(r+1))) cc)∧Put w w' g∧∃cs':Array Value,Blk w' g T cs'∧cs'.size=cs.size∧∀t,t<s*(r+(n-(r+1)))→cs'[t]?=cs[if t<s*r then t else t+s*(r+1-r)]?):
  CallOKm P f [c] [.own 0 i,.ex (.int .i64 ((r:Nat):Int)),.ex (.int .i64 ((r+1:Nat):Int))] (.own 1 0) [c.kill i,.one (.row T s (fun t=>E (delI r t)) (n-1))]:=by
 refine⟨cal,fun η0 M F w vals H hA=>?_⟩
 match vals,hA with
 | [v0,v1,v2],hA=>
  obtain⟨hA0,e1,e2,_⟩:=hA
  obtain rfl:=e1
  obtain rfl:=e2
  have hk:(ownsOf 0 [c] 0).get i=some (.row T s E n):=hg
  obtain⟨hd,e,hok⟩:=H.ob 0 i _ hk
  rw[hA0.1] at e
  obtain rfl:=Option.some.inj e
  obtain⟨A0,cc,rfl,h1,h2,hT,h3⟩:=hok
  rcases h3 with⟨_,h5,_⟩ | ⟨g,cs,rfl,hB,hcs,hel⟩
  ·omega
  have hcell:∀j u,j<s*n→cs[j]?=some u→u.oneCell'=true:=fun j u hj hu=>by
   have hs:0<s:=Nat.pos_of_ne_zero fun e=>by rw[e,Nat.zero_mul] at hj;omega
   obtain⟨e0,⟨q1,q2⟩,_,q4⟩:=hel (j/s) (Nat.div_lt_of_lt_mul hj)
   have hm:j%s<e0.cells.size:=by rw[q1];exact Nat.mod_lt _ hs
   have h4:=q4 (j%s) e0.cells[j%s] (Array.getElem?_eq_getElem hm)
   rw[hB.cell,Nat.div_add_mod,hu] at h4
   rw[Option.some.inj h4]
   exact q2 _ (Array.getElem_mem_toList hm)
  refine(hraw g cc cs w hB hcs hcell h1).mono fun e w'=>?_
  rintro⟨rfl,hP,cs',hB',hcs',hc'⟩
  have hok':∀η' A',Keep η0 η' (Av F (ownsOf 0 [c]) η0) A' w w'→(OB.row T s (fun t=>E (delI r t)) (n-1)).ok η' A' w' (.slice (some ⟨g,0,none⟩) (r+(n-(r+1))) cc):=fun η' A' K=>by
   refine⟨some ⟨g,0,none⟩,cc,by rw[show r+(n-(r+1))=n-1 by omega],by omega,h2,hT,.inr ⟨g,cs',rfl,hB',hcs'.trans hcs,fun t ht=>?_⟩⟩
   obtain⟨e0,q1,q3,q4⟩:=hel (delI r t) (by unfold delI;split<;>omega)
   refine⟨e0,q1,SV.keep K _ _ q3,fun j u hj=>?_⟩
   have h4:=q4 j u hj
   have hjs:j<s:=by rw[←q1.1];exact(Array.getElem?_eq_some_iff.1 hj).1
   have hlt:s*t+j<s*(r+(n-(r+1))):=by
    have:=Nat.mul_le_mul_left s (show t+1≤r+(n-(r+1)) by omega)
    rw[Nat.mul_succ] at this
    omega
   rw[hB.cell] at h4
   rw[hB'.cell,hc' _ hlt]
   by_cases k:t<r
   ·have:s*t+j<s*r:=by
     have:=Nat.mul_le_mul_left s (show t+1≤r from k)
     rw[Nat.mul_succ] at this
     omega
    unfold delI at h4
    rw[if_pos k] at h4
    rw[if_pos this];exact h4
   ·have:¬s*t+j<s*r:=by
     have:=Nat.mul_le_mul_left s (show r≤t by omega)
     omega
    unfold delI at h4
    rw[if_neg k,Nat.mul_succ] at h4
    rw[if_neg this,show r+1-r=1 by omega,Nat.mul_one,show s*t+j+s=s*t+s+j by omega];exact h4
  obtain⟨t1,t2⟩:=H.turn (k:=0) (k':=1) (o':=.row T s (fun t=>E (delI r t)) (n-1)) (h':=.slice (some ⟨g,0,none⟩) (r+(n-(r+1))) cc) hk hA0.1 rfl (by rw[hP.size];exact Nat.le_refl _) (fun b _ hb=>hP.other b fun e=>hb (by rw[e];rfl)) hP.os hP.tape hP.output (fun b hb=>.inl hb) fun K=>hok' _ _ K
  have eo:upOwn (upOwn (ownsOf 0 [c]) 0 ((ownsOf 0 [c] 0).kill i)) 1 (.one (.row T s (fun t=>E (delI r t)) (n-1)))=ownsOf 0 [c.kill i,.one (.row T s (fun t=>E (delI r t)) (n-1))]:=funext fun k=>by
   match k with
   | 0=>rfl
   | 1=>rfl
   | k+2=>rfl
  rw[eo] at t1 t2
  refine⟨_,_,rfl,t1,⟨by unfold upEta;rw[if_pos rfl];rfl,rfl⟩,fun k hk i v hv=>?_⟩
  have hk:k<1:=hk
  unfold upEta at hv
  rw[if_neg zo] at hv
  exact hv
def htq (q:Rat):Nat:=max (nw q.num.natAbs) (nw q.den)
theorem ht_sz(q:Rat):htq q≤szq q:=by unfold htq szq;omega
theorem sz_ht(q:Rat):szq q≤2*htq q:=by unfold htq szq;omega
theorem ht_divInt(a b:Int)(hb:b≠0):htq (Rat.divInt a b)≤max (nw a.natAbs) (nw b.natAbs):=by
 unfold htq
 rw[new_den a b hb,new_num a b hb]
 have e:∀(s:Bool) (x:Nat),(signed s x).natAbs=x:=fun s x=>by cases s<;>simp[signed]
 rw[e]
 have h1:=nw_mono' (Nat.div_le_self a.natAbs (Nat.gcd a.natAbs b.natAbs))
 have h2:=nw_mono' (Nat.div_le_self b.natAbs (Nat.gcd a.natAbs b.natAbs))
 omega
theorem ht_mul(p q:Rat):htq (p*q)≤htq p+htq q:=by
 rw[mul_as]
 have h:=ht_divInt (p.num*q.num) ((p.den*q.den:Nat):Int) (den2_ne p q)
 rw[Int.natAbs_mul,Int.natAbs_natCast] at h
 have h1:=nw_mul p.num.natAbs q.num.natAbs
 have h2:=nw_mul p.den q.den
 unfold htq at*
 omega
theorem ht_add(p q:Rat):htq (p+q)≤htq p+htq q+1:=by
 rw[add_as]
 have h:=ht_divInt (p.num*q.den+q.num*p.den) ((p.den*q.den:Nat):Int) (den2_ne p q)
 rw[Int.natAbs_natCast] at h
 have h0:=nw_mono' (natAbs_add_nat (p.num*q.den) (q.num*p.den))
 rw[Int.natAbs_mul,Int.natAbs_mul,Int.natAbs_natCast,Int.natAbs_natCast] at h0
 have h3:=nw_add (p.num.natAbs*q.den) (q.num.natAbs*p.den)
 have h4:=nw_mul p.num.natAbs q.den
 have h5:=nw_mul q.num.natAbs p.den
 have h2:=nw_mul p.den q.den
 unfold htq at*
 omega
theorem ht_neg(p:Rat):htq (-p)=htq p:=by unfold htq;rw[Rat.neg_num,Rat.neg_den,Int.natAbs_neg]
theorem ht_zero:htq 0=1:=by decide+kernel
theorem ht_one:htq 1=1:=by decide+kernel
theorem ht_inv(p:Rat):htq p⁻¹≤htq p:=by
 by_cases h:p=0
 ·rw[h,Rat.inv_zero];exact Nat.le_refl _
 ·rw[Rat.inv_def]
  have h1:p.num≠0:=fun e=>h (Rat.num_eq_zero.1 e)
  have:=ht_divInt p.den p.num h1
  rw[Int.natAbs_natCast] at this
  unfold htq at*
  omega
theorem ht_sub(p q:Rat):htq (p-q)≤htq p+htq q+1:=by
 have:=ht_add p (-q)
 rw[ht_neg] at this
 rw[Rat.sub_eq_add_neg];exact this
theorem ht_div(p q:Rat):htq (p/q)≤htq p+htq q:=by
 rw[Rat.div_def]
 have:=ht_mul p q⁻¹
 have:=ht_inv q
 omega
theorem ht_dot{a b:Nat→Rat}{S T:Nat}:∀n,(∀i,i<n→htq (a i)≤S)→(∀i,i<n→htq (b i)≤T)→htq (dotQ a b n)≤n*(S+T+1)+1
 | 0,_,_=>by show htq 0≤_;rw[ht_zero];omega
 | n+1,ha,hb=>by
  have ih:=ht_dot n (fun i hi=>ha i zo) (fun i hi=>hb i zo)
  have h1:=ht_add (dotQ a b n) (a n*b n)
  have h2:=ht_mul (a n) (b n)
  have h3:=ha n zo
  have h4:=hb n zo
  show htq (dotQ a b n+a n*b n)≤_
  rw[Nat.add_mul]
  omega
theorem ht_room2{a b r:Rat}{S:Nat}(ha:htq a≤S)(hb:htq b≤S)(hr:htq r≤S)(hS:S≤1073741824):szq r+szq b≤17179869184∧szq a+szq (r*b)≤17179869184:=by
 have:=sz_ht a
 have:=sz_ht b
 have:=sz_ht r
 have:=sz_ht (r*b)
 have:=ht_mul r b
 omega
def hE (s c:Nat):Nat:=(s+1)*4^c
theorem hE_succ(s c:Nat):hE s (c+1)=4*hE s c:=by unfold hE;rw[Nat.pow_succ,←Nat.mul_assoc,Nat.mul_comm]
theorem hE_zero(s:Nat):hE s 0=s+1:=by unfold hE;omega
def HtB (m n B:Nat) (A:Nat→Nat→Rat):Prop:=∀i,i<m→∀j,j<n→htq (A i j)+1≤B
theorem HtB.swap{m n B k l:Nat}{A:Nat→Nat→Rat}(hk:k<m)(hl:l<m)(h:HtB m n B A):HtB m n B (swapR A k l):=fun i hi j hj=>by
 show htq (A (if i=k then l else if i=l then k else i) j)+1≤B
 refine h _ ?_ j hj
 split
 ·exact hl
 ·split
  ·exact hk
  ·exact hi
theorem HtB.scale{m n B a c:Nat}{A:Nat→Nat→Rat}(ha:a<m)(hc:c<n)(h:HtB m n B A){j:Nat}(hj:j<n):htq ((A a c)⁻¹*A a j)+2≤2*B:=by
 have h1:=h a ha c hc
 have h2:=h a ha j hj
 have h3:=ht_mul (A a c)⁻¹ (A a j)
 have h4:=ht_inv (A a c)
 omega
theorem HtB.clear{m n B a c:Nat}{A:Nat→Nat→Rat}(ha:a<m)(hc:c<n)(h:HtB m n B A):HtB m n (4*B) (clearQ (scaleQ A a c) a c):=fun i hi j hj=>by
 have h1:=h.scale ha hc hj
 unfold clearQ scaleQ setR
 dsimp only
 rw[if_pos rfl]
 split
 ·omega
 ·have h2:=h i hi j hj
  have h3:=h i hi c hc
  have h4:=ht_add (A i j) (-(A i c)*((A a c)⁻¹*A a j))
  have h5:=ht_mul (-(A i c)) ((A a c)⁻¹*A a j)
  rw[ht_neg] at h5
  omega
def szE (s c:Nat):Nat:=(s+3)*9^c
theorem szE_succ(s c:Nat):szE s (c+1)=9*szE s c:=by unfold szE;rw[Nat.pow_succ,←Nat.mul_assoc,Nat.mul_comm]
theorem szE_ge(s c:Nat):s+3≤szE s c:=by
 unfold szE
 exact Nat.le_mul_of_pos_right _ (Nat.pow_pos (by decide))
structure DetI (s n:Nat) (q:Nat→Nat→Rat) (g:Nat×(Nat→Nat→Rat)×Rat):Prop where
 le:g.1≤n
 eq:g.2.2*cdet (n-g.1) (blk g.1 g.2.1)=cdet n q
 sz:∀i,i<n→∀j,j<n→szq (g.2.1 i j)≤szE s g.1
 so:szq g.2.2≤2+g.1*szE s g.1
theorem blk_zero(A:Nat→Nat→Rat):blk 0 A=A:=by
 funext i j
 show A (0+i) (0+j)=A i j
 rw[Nat.zero_add,Nat.zero_add]
theorem DetI.start{s n:Nat}{q:Nat→Nat→Rat}(hs:∀i,i<n→∀j,j<n→szq (q i j)≤s):DetI s n q (0,q,1):=
 ⟨Nat.zero_le n,by show(1:Rat)*cdet (n-0) (blk 0 q)=_;rw[blk_zero,Nat.sub_zero];grind,fun i hi j hj=>Nat.le_trans (hs i hi j hj) (by have:=szE_ge s 0;show s≤szE s 0;omega),by show szq 1≤2+0*_;rw[Nat.zero_mul];decide+kernel⟩
theorem setR_ne{A:Nat→Nat→Rat}{r t:Nat}{x:Nat→Rat}(h:t≠r):setR A r x t=A t:=by funext j;exact if_neg h
theorem swap_self{A:Nat→Nat→Rat}{k:Nat}:swapR A k k=A:=by
 funext i j
 show A (if i=k then k else if i=k then k else i) j=A i j
 by_cases z:i=k
 ·rw[if_pos z,z]
 ·rw[if_neg z,if_neg z]
theorem swap_sz{A:Nat→Nat→Rat}{k l n B:Nat}(hk:k<n)(hl:l<n)(h:∀i,i<n→∀j,j<n→szq (A i j)≤B):∀i,i<n→∀j,j<n→szq (swapR A k l i j)≤B:=fun i hi j hj=>by
 show szq (A (if i=k then l else if i=l then k else i) j)≤B
 refine h _ ?_ j hj
 split
 ·exact hl
 ·split
  ·exact hk
  ·exact hi
theorem elim_sz1{a b c d:Rat}{S:Nat}(h0:3≤S)(ha:szq a≤S)(hb:szq b≤S)(hc:szq c≤S)(hd:szq d≤S):szq (b/c)≤2*S+1∧szq (-(b/c)*d)≤3*S+1∧szq (a+-(b/c)*d)≤9*S:=by
 have h1:szq (b/c)≤2*S+1:=by
  rw[Rat.div_def]
  have:=szq_mul b c⁻¹
  have:=szq_inv c
  omega
 have h2:szq (-(b/c)*d)≤3*S+1:=by
  have:=szq_mul (-(b/c)) d
  rw[szq_neg] at this
  omega
 have h3:=szq_add a (-(b/c)*d)
 exact⟨h1,h2,by omega⟩
theorem elim_szB{B:Nat→Nat→Rat}{c h n S:Nat}(h0:3≤S)(hc:c<n)(hB:∀i,i<n→∀j,j<n→szq (B i j)≤S):∀i,i<n→∀j,j<n→szq (elimQ B c h i j)≤9*S:=fun i hi j hj=>by
 unfold elimQ
 split
 ·exact(elim_sz1 h0 (hB i hi j hj) (hB i hi c hc) (hB c hc c hc) (hB c hc j hj)).2.2
 ·have:=hB i hi j hj;omega
theorem DetI.next{s n K:Nat}{q:Nat→Nat→Rat}{g:Nat×(Nat→Nat→Rat)×Rat}(H:DetI s n q g)(hc:g.1<n)(h1:g.1≤K)(h2:K<n)(hp:g.2.1 K g.1≠0):
  DetI s n q (g.1+1,elimQ (swapR g.2.1 g.1 K) g.1 n,(if K=g.1 then g.2.2 else-g.2.2)*swapR g.2.1 g.1 K g.1 g.1):=by
 have hsw:=swap_sz hc h2 H.sz
 have h0:3≤szE s g.1:=by have:=szE_ge s g.1;omega
 have hpp:swapR g.2.1 g.1 K g.1 g.1≠0:=by
  show g.2.1 (if g.1=g.1 then K else _) g.1≠0
  rw[if_pos rfl];exact hp
 refine⟨hc,?_,fun i hi j hj=>?_,?_⟩
 ·refine det_step hc hpp ?_
  by_cases e:K=g.1
  ·subst e;rw[if_pos rfl,swap_self];exact H.eq
  ·rw[if_neg e,swap_det zo h2,←H.eq];grind
 ·rw[szE_succ];exact elim_szB h0 hc hsw i hi j hj
 ·show szq (_*_)≤2+(g.1+1)*szE s (g.1+1)
  have h3:=szq_mul (if K=g.1 then g.2.2 else-g.2.2) (swapR g.2.1 g.1 K g.1 g.1)
  have h4:szq (if K=g.1 then g.2.2 else-g.2.2)=szq g.2.2:=by split;rfl;exact szq_neg _
  have h5:=hsw g.1 hc g.1 hc
  have h6:=H.so
  rw[szE_succ,Nat.add_mul,Nat.one_mul]
  have h7:g.1*szE s g.1≤g.1*(9*szE s g.1):=Nat.mul_le_mul_left _ zo
  omega
theorem DetI.none{s n:Nat}{q:Nat→Nat→Rat}{g:Nat×(Nat→Nat→Rat)×Rat}(H:DetI s n q g)(hc:g.1<n)(h:leadK g.2.1 g.1 g.1 (n-g.1)=n):cdet n q=0:=by
 rw[←H.eq]
 exact det_none hc fun i h1 h2=>leadK_none _ _ i h1 (by rw[h];exact h2)
theorem DetI.done{s n:Nat}{q:Nat→Nat→Rat}{g:Nat×(Nat→Nat→Rat)×Rat}(H:DetI s n q g)(h:g.1=n):g.2.2=cdet n q:=by
 rw[←H.eq,h,Nat.sub_self]
 show _=g.2.2*1
 grind
open Go.RowKit
theorem leadK_step{q:Nat→Nat→Rat}{m g c:Nat}(hg:g<m)(hz:q g c=0):leadK q c g (m-g)=leadK q c (g+1) (m-(g+1)):=by
 rw[show m-g=(m-(g+1))+1 by omega]
 exact if_pos hz
theorem swap_at{A:Nat→Nat→Rat}{a k c:Nat}:A a c=swapR A a k k c:=by
 show A a c=A (if k=a then k else if k=k then a else k) c
 by_cases e:k=a
 ·rw[if_pos e,e]
 ·rw[if_neg e,if_pos rfl]
theorem swap_other{A:Nat→Nat→Rat}{a k t:Nat}(h:t≠k):swapR A a k t=setR A a (A k) t:=by
 funext j
 show A (if t=a then k else if t=k then a else t) j=if t=a then A k j else A t j
 by_cases e:t=a
 ·rw[if_pos e,if_pos e]
 ·rw[if_neg e,if_neg h,if_neg e]
theorem of_guard{P:Prop} [Decidable P](h:(decide P==true)=true):P:=by simpa using h
theorem swap_same{A:Nat→Nat→Rat}{a k i j:Nat}(h:k=a):swapR A a k i j=A i j:=by rw[h,swap_self]
theorem elim_now{B:Nat→Nat→Rat}{c h j:Nat}(hc:c<h):elimQ B c h h j+-(elimQ B c h h c/elimQ B c h c c)*elimQ B c h c j=elimQ B c (h+1) h j:=by
 rw[elimQ_end (Nat.le_refl h),elimQ_top (Nat.le_refl c)]
 exact elimQ_at hc
def sw (c k i:Nat):Nat:=if i=c then k else if i=k then c else i
theorem sw_sw(c k i:Nat):sw c k (sw c k i)=i:=by
 unfold sw
 by_cases h:i=c
 ·rw[if_pos h]
  by_cases e:k=c
  ·rw[if_pos e];omega
  ·rw[if_neg e,if_pos rfl];omega
 ·rw[if_neg h]
  by_cases e:i=k
  ·rw[if_pos e,if_pos rfl];omega
  ·rw[if_neg e,if_neg h,if_neg e]
theorem sw_lt{c k i n:Nat}(hc:c<n)(hk:k<n)(hi:i<n):sw c k i<n:=by unfold sw;split;exact hk;split;exact hc;exact hi
theorem sw_c{c k:Nat}:sw c k c=k:=if_pos rfl
theorem sw_same(c i:Nat):sw c c i=i:=by unfold sw;split;omega;rfl
theorem swapR_sw(A:Nat→Nat→Rat)(c k i:Nat):swapR A c k i=A (sw c k i):=rfl
def pSw (P:Nat→Nat) (c k i:Nat):Nat:=P (sw c k i)
def rSw (ρ:Nat→Nat) (c k j:Nat):Nat:=sw c k (ρ j)
structure Bij (n:Nat) (P ρ:Nat→Nat):Prop where
 lt:∀i,i<n→P i<n
 lt':∀i,i<n→ρ i<n
 inv:∀i,ρ (P i)=i
 inv':∀i,P (ρ i)=i
theorem Bij.id{n:Nat}:Bij n (fun i=>i) (fun i=>i):=⟨fun _ h=>h,fun _ h=>h,fun _=>rfl,fun _=>rfl⟩
theorem Bij.sw{n c k:Nat}{P ρ:Nat→Nat}(H:Bij n P ρ)(hc:c<n)(hk:k<n):Bij n (pSw P c k) (rSw ρ c k):=
 ⟨fun i hi=>H.lt _ (sw_lt hc hk hi),fun i hi=>sw_lt hc hk (H.lt' i hi),fun i=>by unfold pSw rSw;rw[H.inv,sw_sw],fun i=>by unfold pSw rSw;rw[sw_sw,H.inv']⟩
theorem Bij.inj{n:Nat}{P ρ:Nat→Nat}(H:Bij n P ρ){i j:Nat}(e:P i=P j):i=j:=by rw[←H.inv i,e,H.inv]
def lowQ (L U:Nat→Nat→Rat) (c h:Nat):Nat→Nat→Rat:=fun i j=>if j=c∧c≤i∧i<h then(if i=c then 1 else U i c/U c c) else L i j
section
variable {L U:Nat→Nat→Rat} {c h i j:Nat}
theorem lowQ_corner:(1:Rat)=lowQ L U c (c+1) c c:=by
 unfold lowQ;rw[if_pos ⟨rfl,Nat.le_refl c,Nat.lt_succ_self c⟩,if_pos rfl]
theorem lowQ_at(hc:c<h):U h c/U c c=lowQ L U c (h+1) h c:=by
 unfold lowQ;rw[if_pos ⟨rfl,by omega,Nat.lt_succ_self h⟩,if_neg zo]
theorem lowQ_col(e:j≠c):lowQ L U c h i j=L i j:=if_neg fun k=>e k.1
theorem lowQ_row(e:i≠h):lowQ L U c (h+1) i=lowQ L U c h i:=by
 funext j
 unfold lowQ
 by_cases q:j=c∧c≤i∧i<h
 ·rw[if_pos q,if_pos ⟨q.1,q.2.1,by omega⟩]
 ·rw[if_neg q,if_neg fun k=>q ⟨k.1,k.2.1,by omega⟩]
theorem lowQ_sames:lowQ L U c c=L:=by funext i j;exact if_neg zo
end
abbrev LuS:=(Nat→Nat→Rat)×(Nat→Nat→Rat)×(Nat→Nat)×(Nat→Nat)×Bool
def luK (n:Nat) (s:LuS) (c:Nat):Nat:=leadK s.1 c c (n-c)
def luStep (n:Nat) (s:LuS) (c:Nat):LuS:=
 (elimQ (swapR s.1 c (luK n s c)) c n,lowQ (swapR s.2.1 c (luK n s c)) (swapR s.1 c (luK n s c)) c n,pSw s.2.2.1 c (luK n s c),rSw s.2.2.2.1 c (luK n s c),if luK n s c=c then s.2.2.2.2 else !s.2.2.2.2)
def luS (n:Nat) (A:Nat→Nat→Rat):Nat→LuS
 | 0=>(A,fun _ _=>0,fun i=>i,fun i=>i,false)
 | c+1=>luStep n (luS n A c) c
def luOK (n:Nat) (A:Nat→Nat→Rat) (c:Nat):Prop:=∀k,k<c→luK n (luS n A k) k<n
theorem luK_ge{n c:Nat}{s:LuS}:c≤luK n s c:=(leadK_le _ _).1
theorem lu_bij{n:Nat}{A:Nat→Nat→Rat}:∀c,c≤n→luOK n A c→Bij n (luS n A c).2.2.1 (luS n A c).2.2.2.1
 | 0,_,_=>Bij.id
 | c+1,hc,h=>(lu_bij c zo fun k hk=>h k zo).sw hc (h c (Nat.lt_succ_self c))
theorem HtB.elim{n B c:Nat}{A:Nat→Nat→Rat}(hc:c<n)(h:HtB n n B A)(k:Nat):HtB n n (4*B) (elimQ A c k):=fun i hi j hj=>by
 have h1:=h i hi j hj
 unfold elimQ
 split
 ·have h2:=h i hi c hc
  have h3:=h c hc c hc
  have h4:=h c hc j hj
  have h5:=ht_add (A i j) (-(A i c/A c c)*A c j)
  have h6:=ht_mul (-(A i c/A c c)) (A c j)
  have h7:=ht_div (A i c) (A c c)
  rw[ht_neg] at h6
  omega
 ·omega
theorem lu_ht{n s:Nat}{A:Nat→Nat→Rat}(h:HtB n n (s+1) A):∀c,c≤n→luOK n A c→HtB n n (hE s c) (luS n A c).1
 | 0,_,_=>by rw[hE_zero];exact h
 | c+1,hc,hk=>by
  rw[hE_succ]
  exact HtB.elim zo ((lu_ht h c zo fun k hk2=>hk k zo).swap zo (hk c (Nat.lt_succ_self c))) n
structure LuInv (n:Nat) (A:Nat→Nat→Rat) (c:Nat) (s:LuS):Prop where
 one:∀k,k<c→s.2.1 k k=1
 above:∀i k,i<n→i<k→s.2.1 i k=0
 left:∀i k,i<n→c≤k→s.2.1 i k=0
 below:∀i k,i<n→k<c→k<i→s.1 i k=0
 piv:∀k,k<c→s.1 k k≠0
 eq:∀i,i<n→∀j,j<n→A (s.2.2.1 i) j=(if c≤i then s.1 i j else 0)+sumQ (fun k=>s.2.1 i k*s.1 k j) c
theorem lu_inv{n:Nat}{A:Nat→Nat→Rat}:∀c,c≤n→luOK n A c→LuInv n A c (luS n A c)
 | 0,_,_=>⟨fun _ h=>absurd h (Nat.not_lt_zero _),fun _ _ _ _=>rfl,fun _ _ _ _=>rfl,fun _ _ _ h=>absurd h (Nat.not_lt_zero _),fun _ h=>absurd h (Nat.not_lt_zero _),fun i _ j _=>by
  rw[if_pos (Nat.zero_le i)];show A i j=A i j+0;grind⟩
 | c+1,hc,hok=>by
  have H:=lu_inv c zo fun k hk=>hok k zo
  have hK:=hok c (Nat.lt_succ_self c)
  have hge:=luK_ge (n:=n) (s:=luS n A c) (c:=c)
  have hpv:(luS n A c).1 (luK n (luS n A c) c) c≠0:=leadK_at _ _ (show leadK _ c c (n-c)<_ by have:luK n (luS n A c) c<n:=hK;unfold luK at this;omega)
  show LuInv n A (c+1) (luStep n (luS n A c) c)
  unfold luStep
  generalize luK n (luS n A c) c=K at hK hge hpv
  generalize luS n A c=s at H hpv
  obtain⟨U,L,P,ρ,o⟩:=s
  have eU:∀i j,elimQ (swapR U c K) c n i j=if c<i∧i<n then U (sw c K i) j+-(U (sw c K i) c/U (sw c K c) c)*U (sw c K c) j else U (sw c K i) j:=fun _ _=>rfl
  have eL:∀i j,lowQ (swapR L c K) (swapR U c K) c n i j=if j=c∧c≤i∧i<n then(if i=c then 1 else U (sw c K i) c/U (sw c K c) c) else L (sw c K i) j:=fun _ _=>rfl
  have slt:∀i,i<n→sw c K i<n:=fun i hi=>sw_lt zo hK hi
  have stop:∀i,i<c→sw c K i=i:=fun i hi=>by unfold sw;rw[if_neg zo,if_neg zo]
  have sge:∀i,c≤i→c≤sw c K i:=fun i hi=>by unfold sw;split;exact hge;split;omega;exact hi
  have h1:=H.one;have h2:=H.above;have h3:=H.left;have h4:=H.below;have h5:=H.piv;have h6:=H.eq
  simp only at h1 h2 h3 h4 h5 h6 hpv
  refine⟨fun k hk=>?_,fun i k hi hik=>?_,fun i k hi hk=>?_,fun i k hi hk hki=>?_,fun k hk=>?_,fun i hi j hj=>?_⟩<;>(try dsimp only)<;>(try rw[eL])<;>(try rw[eU])
  ·by_cases e:k=c
   ·rw[if_pos ⟨e,by omega,by omega⟩,if_pos e]
   ·rw[if_neg zo,stop k zo];exact h1 k zo
  ·by_cases e:k=c∧c≤i∧i<n
   ·omega
   ·rw[if_neg e]
    by_cases q:c≤k
    ·exact h3 _ k (slt i hi) q
    ·rw[stop i zo];exact h2 i k hi hik
  ·rw[if_neg zo];exact h3 _ k (slt i hi) zo
  ·by_cases e:k=c
   ·subst e
    rw[if_pos ⟨hki,hi⟩,sw_c,Rat.neg_mul,Rat.div_mul_cancel hpv];grind
   ·have hz:∀i,c≤i→i<n→U i k=0:=fun i h7 h8=>h4 i k h8 zo zo
    split
    ·rename_i q
     rw[hz _ (sge i zo) (slt i hi),sw_c,hz K hge hK];grind
    ·by_cases q:c≤i
     ·rw[hz _ (sge i q) (slt i hi)]
     ·rw[stop i zo];exact h4 i k hi zo hki
  ·rw[if_neg zo]
   by_cases e:k=c
   ·rw[e,sw_c];exact hpv
   ·rw[stop k zo];exact h5 k zo
  ·show A (P (sw c K i)) j=(if c+1≤i then elimQ (swapR U c K) c n i j else 0)+(sumQ (fun k=>lowQ (swapR L c K) (swapR U c K) c n i k*elimQ (swapR U c K) c n k j) c+lowQ (swapR L c K) (swapR U c K) c n i c*elimQ (swapR U c K) c n c j)
   have e1:sumQ (fun k=>lowQ (swapR L c K) (swapR U c K) c n i k*elimQ (swapR U c K) c n k j) c=sumQ (fun k=>L (sw c K i) k*U k j) c:=sumQ_congr c fun k hk=>by
    rw[eL,eU,if_neg zo,if_neg zo,stop k hk]
   have e2:elimQ (swapR U c K) c n c j=U K j:=by rw[eU,if_neg zo,sw_c]
   rw[h6 _ (slt i hi) j hj,e1,e2]
   generalize sumQ (fun k=>L (sw c K i) k*U k j) c=S
   by_cases q:i<c
   ·have e3:lowQ (swapR L c K) (swapR U c K) c n i c=0:=by rw[eL,if_neg zo,stop i q];exact h3 i c hi (Nat.le_refl c)
    rw[if_neg (by have:=stop i q;omega),if_neg zo,e3];grind
   ·rw[if_pos (sge i zo)]
    by_cases e:i=c
    ·have e3:lowQ (swapR L c K) (swapR U c K) c n i c=1:=by rw[eL,if_pos ⟨rfl,by omega,hi⟩,if_pos e]
     rw[if_neg zo,e3,e,sw_c];grind
    ·have e3:lowQ (swapR L c K) (swapR U c K) c n i c=U (sw c K i) c/U K c:=by rw[eL,if_pos ⟨rfl,by omega,hi⟩,if_neg e,sw_c]
     have e4:elimQ (swapR U c K) c n i j=U (sw c K i) j+-(U (sw c K i) c/U K c)*U K j:=by rw[eU,if_pos ⟨by omega,hi⟩,sw_c]
     rw[if_pos zo,e3,e4];grind
theorem lu_prod{n:Nat}{A:Nat→Nat→Rat}(h:luOK n A n){i j:Nat}(hi:i<n)(hj:j<n):A ((luS n A n).2.2.1 i) j=sumQ (fun k=>(luS n A n).2.1 i k*(luS n A n).1 k j) n:=by
 have:=(lu_inv (A:=A) n (Nat.le_refl n) h).eq i hi j hj
 rw[if_neg zo] at this
 rw[this];grind
open Go.RowKit
def setN (P:Nat→Nat) (c x i:Nat):Nat:=if i=c then x else P i
theorem setN_ne{P:Nat→Nat}{c x i:Nat}(h:i≠c):setN P c x i=P i:=if_neg h
theorem pSw_at{P:Nat→Nat}{c g:Nat}:P c=pSw P c g g:=by
 unfold pSw sw
 by_cases e:g=c
 ·rw[if_pos e,e]
 ·rw[if_neg e,if_pos rfl]
theorem pSw_other{P:Nat→Nat}{c g t:Nat}(h:t≠g):pSw P c g t=setN P c (P g) t:=by
 unfold pSw sw setN
 by_cases e:t=c
 ·rw[if_pos e,if_pos e]
 ·rw[if_neg e,if_neg h,if_neg e]
theorem pSw_same{P:Nat→Nat}{c g t:Nat}(h:g=c):pSw P c g t=P t:=by unfold pSw;rw[h,sw_same]
theorem elimQ_zero0{B:Nat→Nat→Rat}{c i j:Nat}:B i j=elimQ B c c i j:=(if_neg zo).symm
theorem elimQ_from{B:Nat→Nat→Rat}{c i j:Nat}:elimQ B c c i j=elimQ B c (c+1) i j:=elimQ_zero0.symm.trans elimQ_zero
theorem low_conv{L U:Nat→Nat→Rat}{ρ:Nat→Nat}{c g j k:Nat}:L (ρ j) k=lowQ (swapR L c g) U c c (rSw ρ c g j) k:=by
 rw[lowQ_sames,swapR_sw,rSw,sw_sw]
theorem lowQ_now2{L B:Nat→Nat→Rat}{c h:Nat}(hc:c<h):elimQ B c h h c/elimQ B c h c c=lowQ L B c (h+1) h c:=by
 rw[elimQ_end (Nat.le_refl h),elimQ_top (Nat.le_refl c),lowQ_at hc]
theorem rSw_ne{n c g t x:Nat}{P ρ:Nat→Nat}(H:Bij n (pSw P c g) (rSw ρ c g))(h:t≠pSw P c g x):rSw ρ c g t≠x:=fun e=>h (by rw[←e,H.inv'])
theorem step_yes{n g c:Nat}{U:Nat→Nat→Rat}(h:(bif decide ((g:Int)<(n:Int)) then decide (U g c=0) else false)=true):g<n∧U g c=0:=by
 obtain⟨h1,h2⟩:=bif_true h
 exact⟨by omega,h2⟩
theorem step_no{n g c:Nat}{U:Nat→Nat→Rat}(hg:g≤n)(h:(bif decide ((g:Int)<(n:Int)) then decide (U g c=0) else false)=false):leadK U c g (n-g)=g:=by
 have h2:=bif_false h
 refine leadK_eq _ _ _ (Nat.le_refl _) zo (fun i h3 h4=>by omega) fun h3 z=>h2 ⟨by omega,z⟩
theorem step_K{n g c:Nat}{U L:Nat→Nat→Rat}{P ρ:Nat→Nat}{o:Bool}(h1:leadK U c c (n-c)=leadK U c g (n-g))(h2:leadK U c g (n-g)=g):luK n (U,L,P,ρ,o) c=g:=h1.trans h2
theorem div_room{n c h B:Nat}{A:Nat→Nat→Rat}(H:HtB n n B A)(hc:c<n)(h2:h<n)(hB:B≤100000000:=by decide):szq (elimQ A c h h c)+szq (elimQ A c h c c)+1≤17179869184:=by
 rw[elimQ_end (Nat.le_refl h),elimQ_top (Nat.le_refl c)]
 have:=H h h2 c hc
 have:=H c hc c hc
 have:=sz_ht (A h c)
 have:=sz_ht (A c c)
 omega
theorem lu_room{n c h B:Nat}{A:Nat→Nat→Rat}(H:HtB n n B A)(hc:c<n)(h2:h<n)(hB:B≤100000000:=by decide):∀j,j<n→szq (-(elimQ A c h h c/elimQ A c h c c))+szq (elimQ A c h c j)≤17179869184∧szq (elimQ A c h h j)+szq (-(elimQ A c h h c/elimQ A c h c c)*elimQ A c h c j)≤17179869184:=fun j hj=>by
 rw[elimQ_end (Nat.le_refl h),elimQ_top (Nat.le_refl c)]
 have e1:=H h h2 c hc
 have e2:=H c hc c hc
 have e3:=H h h2 j hj
 have e4:=H c hc j hj
 have e5:=ht_div (A h c) (A c c)
 exact ht_room2 (S:=200000000) zo zo (by rw[ht_neg];omega) (by decide)
section
variable {n g c:Nat} {U L:Nat→Nat→Rat} {P ρ:Nat→Nat} {o:Bool}
theorem lu_U(h:luK n (U,L,P,ρ,o) c=g):(luStep n (U,L,P,ρ,o) c).1=elimQ (swapR U c g) c n:=by unfold luStep;rw[h]
theorem lu_L(h:luK n (U,L,P,ρ,o) c=g):(luStep n (U,L,P,ρ,o) c).2.1=lowQ (swapR L c g) (swapR U c g) c n:=by unfold luStep;rw[h]
theorem lu_P(h:luK n (U,L,P,ρ,o) c=g):(luStep n (U,L,P,ρ,o) c).2.2.1=pSw P c g:=by unfold luStep;rw[h]
theorem lu_R(h:luK n (U,L,P,ρ,o) c=g):(luStep n (U,L,P,ρ,o) c).2.2.2.1=rSw ρ c g:=by unfold luStep;rw[h]
theorem lu_o(h:luK n (U,L,P,ρ,o) c=g):(luStep n (U,L,P,ρ,o) c).2.2.2.2=if g=c then o else !o:=by unfold luStep;rw[h]
end
theorem sLuStep{U L:Nat→Nat→Rat}{P ρ:Nat→Nat}{o:Bool}{n c:Nat}(hn:n≤68719476736)(hc:c<n)(hB:Bij n P ρ)(hH:HtB n n 100000000 U)(hk:luK n (U,L,P,ρ,o) c<n):CallOKm Tryz.prog 118 [.one (.var 147 (.agg (.cn (.own 1 0) (c3 (.own 2 0) (.own 3 0) (bX o))))),.one (.row 33 1 (fun i0=>.own 4 (P i0)) n),.one (.row 33 1 (mE U n) n),.one (.row 3 1 (fun i0=>iN (P i0)) n),.fam n (fun i0=>.row 47 3 (fun i1=>.rat (L (ρ i0) i1)) n)] [.own 0 0,iN c] (bX true) [.one (.var 147 (.agg (.cn (.own 5 0) (c3 (.own 6 0) (.own 7 0) (bX ((luStep n (U,L,P,ρ,o) c).2.2.2.2)))))),.dead,.dead,.dead,.dead,.one (.row 33 1 (fun i0=>.own 8 ((luStep n (U,L,P,ρ,o) c).2.2.1 i0)) n),.one (.row 33 1 (mE ((luStep n (U,L,P,ρ,o) c).1) n) n),.one (.row 3 1 (fun i0=>iN ((luStep n (U,L,P,ρ,o) c).2.2.1 i0)) n),.fam n (fun i0=>.row 47 3 (fun i1=>.rat ((luStep n (U,L,P,ρ,o) c).2.1 ((luStep n (U,L,P,ρ,o) c).2.2.2.1 i0) i1)) n)]:=by
 exact callOKm_P (ch:=fun B=>[.loop 2 (Nat) (fun g=>c≤g∧g≤n∧leadK U c c (n-c)=leadK U c g (n-g)) (fun g=>n-g) (fun g=>⟨[(0,.own 0 0),(1,iN c),(5,iN g)],[(0,.one (.var 147 (.agg (.cn (.own 1 0) (c3 (.own 2 0) (.own 3 0) (bX o)))) (some (B 0)))),(1,.one (.row 33 1 (fun i0=>.own 4 (P i0)) n)),(2,.one (.row 33 1 (mE U n) n)),(3,.one (.row 3 1 (fun i0=>iN (P i0)) n)),(4,.fam n (fun i0=>.row 47 3 (fun i1=>.rat (L (ρ i0) i1)) n))],5⟩) [(0,.id 0),(1,.id 1),(2,.id 2),(3,.id 3),(4,.id 4)] (fun _=>[(0,.id 0),(1,.id 1),(2,.id 2),(3,.id 3),(4,.id 4)]) (fun g=>[.reg 2 [(13,.k g),(16,.k c),(18,.callS (bX (decide (U g c=0))) [])],.reg 3 [(1,.z ((g+1:Nat):Int))],.dec 38 false,.reg 7 [(15,.k g),(22,.k c),(24,.k c),(25,.row 0 (mE (setR U c (U g)) n)),(26,.k g),(27,.row 0 (mE (swapR U c g) n))],.reg 8 [(15,.k g),(22,.k c),(24,.k c),(25,.row 0 (fun i0=>.own 4 (setN P c (P g) i0))),(26,.k g),(27,.row 0 (fun i0=>.own 4 (pSw P c g i0)))],.reg 9 [(15,.k g),(22,.k c),(24,.k c),(25,.row 0 (fun i0=>iN (setN P c (P g) i0))),(26,.k g),(27,.row 0 (fun i0=>iN (pSw P c g i0)))],.conv 11 [(0,.id 0),(1,.id 1),(2,.id 2),(3,.id 3),(4,.id 4)] ⟨[(0,.own 0 0),(1,iN c),(5,iN g)],[(0,.one (.var 147 (.agg (.cn (.own 1 0) (c3 (.own 2 0) (.own 3 0) (bX (if g=c then o else !o))))) (some (B 0)))),(1,.one (.row 33 1 (fun i0=>.own 4 (pSw P c g i0)) n)),(2,.one (.row 33 1 (mE (elimQ (swapR U c g) c c) n) n)),(3,.one (.row 3 1 (fun i0=>iN (pSw P c g i0)) n)),(4,.fam n (fun i0=>.row 47 3 (fun i1=>.rat ((lowQ (swapR L c g) (swapR U c g) c c) (rSw ρ c g i0) i1)) n))],5⟩,.reg 11 [(5,.k c),(8,.callS (.rat ((1:Int):Rat)) []),(9,.k c),(10,.rowF (fun i0=>.rat ((lowQ (swapR L c g) (swapR U c g) c (c+1)) c i0)) (fun i0=>.row 47 3 (fun i1=>.rat ((lowQ (swapR L c g) (swapR U c g) c (c+1)) (rSw ρ c g i0) i1)) n))],.reg 12 [(1,.z ((c+1:Nat):Int))],.loop 13 (Nat) (fun h=>c+1≤h∧h≤n) (fun h=>n-h) (fun h=>⟨[(0,.own 0 0),(1,iN c),(5,iN g),(6,iN h)],[(0,.one (.var 147 (.agg (.cn (.own 1 0) (c3 (.own 2 0) (.own 3 0) (bX (if g=c then o else !o))))) (some (B 0)))),(1,.one (.row 33 1 (fun i0=>.own 4 (pSw P c g i0)) n)),(2,.one (.row 33 1 (mE (elimQ (swapR U c g) c h) n) n)),(3,.one (.row 3 1 (fun i0=>iN (pSw P c g i0)) n)),(4,.fam n (fun i0=>.row 47 3 (fun i1=>.rat ((lowQ (swapR L c g) (swapR U c g) c h) (rSw ρ c g i0) i1)) n))],5⟩) [(0,.id 0),(1,.id 1),(2,.id 2),(3,.id 3),(4,.id 4)] (fun _=>[(0,.id 0),(1,.id 1),(2,.id 2),(3,.id 3),(4,.id 4)]) (fun h=>[.reg 15 [(5,.k h),(8,.k c),(15,.k c),(18,.k c),(20,.callS (c2 (.rat (((elimQ (swapR U c g) c h) h c)/((elimQ (swapR U c g) c h) c c))) (bX (!decide (((elimQ (swapR U c g) c h) c c)=0)))) [])],.reg 16 [(5,.k h),(9,.k c),(10,.rowF (fun i0=>.rat ((lowQ (swapR L c g) (swapR U c g) c (h+1)) h i0)) (fun i0=>.row 47 3 (fun i1=>.rat ((lowQ (swapR L c g) (swapR U c g) c (h+1)) (rSw ρ c g i0) i1)) n))],.reg 17 [(10,.k h),(13,.callS (.rat (-(((elimQ (swapR U c g) c h) h c)/((elimQ (swapR U c g) c h) c c)))) []),(19,.k c),(21,.callS (c2 (.sl 3 (fun i0=>.rat (((elimQ (swapR U c g) c h) h i0)+(-(((elimQ (swapR U c g) c h) h c)/((elimQ (swapR U c g) c h) c c)))*((elimQ (swapR U c g) c h) c i0))) n) (bX true)) []),(25,.k h),(26,.row 0 (mE (elimQ (swapR U c g) c (h+1)) n))],.reg 14 [(1,.z ((h+1:Nat):Int))],.ret 18 [(0,.id 0),(5,.id 1),(6,.id 2),(7,.id 3),(8,.id 4)]]),.conv 11 [(0,.id 0),(1,.id 1),(2,.id 2),(3,.id 3),(4,.id 4)] ⟨[(0,.own 0 0),(1,iN c),(5,iN g)],[(0,.one (.var 147 (.agg (.cn (.own 1 0) (c3 (.own 2 0) (.own 3 0) (bX (if g=c then o else !o))))) (some (B 0)))),(1,.one (.row 33 1 (fun i0=>.own 4 (pSw P c g i0)) n)),(2,.one (.row 33 1 (mE (elimQ (swapR U c g) c c) n) n)),(3,.one (.row 3 1 (fun i0=>iN (pSw P c g i0)) n)),(4,.fam n (fun i0=>.row 47 3 (fun i1=>.rat ((lowQ (swapR L c g) (swapR U c g) c c) (rSw ρ c g i0) i1)) n))],5⟩,.reg 11 [(5,.k c),(8,.callS (.rat ((1:Int):Rat)) []),(9,.k c),(10,.rowF (fun i0=>.rat ((lowQ (swapR L c g) (swapR U c g) c (c+1)) c i0)) (fun i0=>.row 47 3 (fun i1=>.rat ((lowQ (swapR L c g) (swapR U c g) c (c+1)) (rSw ρ c g i0) i1)) n))],.reg 12 [(1,.z ((c+1:Nat):Int))],.loop 13 (Nat) (fun h=>c+1≤h∧h≤n) (fun h=>n-h) (fun h=>⟨[(0,.own 0 0),(1,iN c),(5,iN g),(6,iN h)],[(0,.one (.var 147 (.agg (.cn (.own 1 0) (c3 (.own 2 0) (.own 3 0) (bX (if g=c then o else !o))))) (some (B 0)))),(1,.one (.row 33 1 (fun i0=>.own 4 (pSw P c g i0)) n)),(2,.one (.row 33 1 (mE (elimQ (swapR U c g) c h) n) n)),(3,.one (.row 3 1 (fun i0=>iN (pSw P c g i0)) n)),(4,.fam n (fun i0=>.row 47 3 (fun i1=>.rat ((lowQ (swapR L c g) (swapR U c g) c h) (rSw ρ c g i0) i1)) n))],5⟩) [(0,.id 0),(1,.id 1),(2,.id 2),(3,.id 3),(4,.id 4)] (fun _=>[(0,.id 0),(1,.id 1),(2,.id 2),(3,.id 3),(4,.id 4)]) (fun h=>[.reg 15 [(5,.k h),(8,.k c),(15,.k c),(18,.k c),(20,.callS (c2 (.rat (((elimQ (swapR U c g) c h) h c)/((elimQ (swapR U c g) c h) c c))) (bX (!decide (((elimQ (swapR U c g) c h) c c)=0)))) [])],.reg 16 [(5,.k h),(9,.k c),(10,.rowF (fun i0=>.rat ((lowQ (swapR L c g) (swapR U c g) c (h+1)) h i0)) (fun i0=>.row 47 3 (fun i1=>.rat ((lowQ (swapR L c g) (swapR U c g) c (h+1)) (rSw ρ c g i0) i1)) n))],.reg 17 [(10,.k h),(13,.callS (.rat (-(((elimQ (swapR U c g) c h) h c)/((elimQ (swapR U c g) c h) c c)))) []),(19,.k c),(21,.callS (c2 (.sl 3 (fun i0=>.rat (((elimQ (swapR U c g) c h) h i0)+(-(((elimQ (swapR U c g) c h) h c)/((elimQ (swapR U c g) c h) c c)))*((elimQ (swapR U c g) c h) c i0))) n) (bX true)) []),(25,.k h),(26,.row 0 (mE (elimQ (swapR U c g) c (h+1)) n))],.reg 14 [(1,.z ((h+1:Nat):Int))],.ret 18 [(0,.id 0),(5,.id 1),(6,.id 2),(7,.id 3),(8,.id 4)]])])]) hMix Tryz.func118 rfl (by kernel_rfl) (by kernel_rfl) (by kernel_rfl) (fun B=>(((fun X1 X2 X3 X4 X5 X6 X7 X8 X9 X10 X11 X12 X13:Prop=>∃g0:Nat,X1∧X2∧((c:Int)=(g0:Int))∧X3∧X4∧X5∧X6∧X7∧X8∧(∀j0,j0<n→((P j0:Nat)=(P j0)))∧X9∧X10∧X11∧X12∧X13∧(∀j0,j0<n→((n:Nat)=n)∧(∀j1,j1<n→((L (ρ j0) j1:Rat)=(L (ρ j0) j1))))∧(c≤g0∧g0≤n∧leadK U c c (n-c)=leadK U c g0 (n-g0))) _ _ _ _ _ _ _ _ _ _ _ _ _)∧∀g:Nat,(c≤g∧g≤n∧leadK U c c (n-c)=leadK U c g (n-g))→(((decide ((g:Int)<(n:Int)))==true)=true→((decide ((g:Int)<(n:Int)))==true)=true)∧(((decide ((g:Int)<(n:Int)))==true)=true→((decide ((g:Int)<(n:Int)))==true)=true)∧(((decide ((g:Int)<(n:Int)))==true)=true→((decide ((g:Int)<(n:Int)))==true)=true)∧(((decide ((g:Int)<(n:Int)))==true)=true→((decide ((g:Int)<(n:Int)))==true)=true)∧(((decide ((g:Int)<(n:Int)))==true)=true→((decide ((g:Int)<(n:Int)))==true)=true)∧(((decide ((g:Int)<(n:Int)))==true)=true→_)∧(((decide ((g:Int)<(n:Int)))==true)=true→g<n)∧(((decide ((g:Int)<(n:Int)))==true)=true→((decide ((g:Int)<(n:Int)))==true)=true)∧(((decide ((g:Int)<(n:Int)))==true)=true→g<n)∧(((decide ((g:Int)<(n:Int)))==true)=true→((decide ((g:Int)<(n:Int)))==true)=true)∧(((decide ((g:Int)<(n:Int)))==true)=true→((decide ((g:Int)<(n:Int)))==true)=true)∧(((decide ((g:Int)<(n:Int)))==true)=true→_)∧(((decide ((g:Int)<(n:Int)))==true)=true→c<n)∧(((decide ((g:Int)<(n:Int)))==true)=true→((decide ((g:Int)<(n:Int)))==true)=true)∧(((decide ((g:Int)<(n:Int)))==true)=true→((decide ((g:Int)<(n:Int)))==true)=true)∧(((decide ((g:Int)<(n:Int)))==true)=true→_)∧((decide ((g:Int)<(n:Int)))=true→((decide ((g:Int)<(n:Int)))==true)=true)∧(((bif (decide ((g:Int)<(n:Int))) then(decide (U g c=0)) else false)=true→(IntKind.wrap .i64 ((g:Int)+1)=(((g+1:Nat):Int)))∧((fun X1 X2 X3 X4 X5 X6 X7 X8 X9 X10 X11 X12 X13:Prop=>∃g1:Nat,X1∧X2∧(((g+1:Nat):Int)=(g1:Int))∧X3∧X4∧X5∧X6∧X7∧X8∧(∀j0,j0<n→((P j0:Nat)=(P j0)))∧X9∧X10∧X11∧X12∧X13∧(∀j0,j0<n→((n:Nat)=n)∧(∀j1,j1<n→((L (ρ j0) j1:Rat)=(L (ρ j0) j1))))∧(c≤g1∧g1≤n∧leadK U c c (n-c)=leadK U c g1 (n-g1))∧(n-g1<n-g)) _ _ _ _ _ _ _ _ _ _ _ _ _))∧((bif (decide ((g:Int)<(n:Int))) then(decide (U g c=0)) else false)=false→((decide ((g:Int)=(n:Int)))=false)∧(((!decide ((g:Int)=(c:Int)))=true→_∧(g<n)∧(g<n)∧_∧(c<n)∧(c<n)∧_∧(c<n)∧(c<n)∧(((n:Nat)=n)∧(∀j0,j0<n→((U g j0:Rat)=((setR U c (U g)) c j0))))∧(∀t,t<n→t≠c→(.sl 3 (fun i0=>.rat ((setR U c (U g)) t i0)) n:SV)=.sl 3 (fun i0=>.rat (U t i0)) n)∧_∧(g<n)∧(g<n)∧(((n:Nat)=n)∧(∀j0,j0<n→((U c j0:Rat)=((swapR U c g) g j0))))∧(∀t,t<n→t≠g→(.sl 3 (fun i0=>.rat ((swapR U c g) t i0)) n:SV)=.sl 3 (fun i0=>.rat ((setR U c (U g)) t i0)) n)∧_∧(g<n)∧(g<n)∧_∧(c<n)∧(c<n)∧_∧(c<n)∧(c<n)∧(((4:Nat)=4)∧((P g:Nat)=(setN P c (P g) c)))∧(∀t,t<n→t≠c→(.own 4 (setN P c (P g) t):SV)=.own 4 (P t))∧_∧(g<n)∧(g<n)∧(((4:Nat)=4)∧((P c:Nat)=(pSw P c g g)))∧(∀t,t<n→t≠g→(.own 4 (pSw P c g t):SV)=.own 4 (setN P c (P g) t))∧_∧(g<n)∧(g<n)∧_∧(c<n)∧(c<n)∧_∧(c<n)∧(c<n)∧(((P g:Int)=(setN P c (P g) c:Int)))∧(∀t,t<n→t≠c→(iN (setN P c (P g) t):SV)=iN (P t))∧_∧(g<n)∧(g<n)∧(((P c:Int)=(pSw P c g g:Int)))∧(∀t,t<n→t≠g→(iN (pSw P c g t):SV)=iN (setN P c (P g) t))∧_∧_∧_∧_∧_∧_∧_∧((!o:Bool)=(if g=c then o else !o))∧_∧(∀j0,j0<n→((pSw P c g j0:Nat)=(pSw P c g j0)))∧_∧(∀j0,j0<n→((n:Nat)=n)∧(∀j1,j1<n→(((swapR U c g) j0 j1:Rat)=((elimQ (swapR U c g) c c) j0 j1))))∧_∧_∧_∧(∀j0,j0<n→((n:Nat)=n)∧(∀j1,j1<n→((L (ρ j0) j1:Rat)=((lowQ (swapR L c g) (swapR U c g) c c) (rSw ρ c g j0) j1))))∧_∧(c<n)∧(c<n)∧_∧_∧(c<n)∧((pSw P c g c)<n)∧(c<n)∧(((((1:Int):Rat):Rat)=((lowQ (swapR L c g) (swapR U c g) c (c+1)) c c)))∧(∀t,t<n→t≠c→(.rat ((lowQ (swapR L c g) (swapR U c g) c (c+1)) c t):SV)=.rat ((lowQ (swapR L c g) (swapR U c g) c c) (rSw ρ c g (pSw P c g c)) t))∧((pSw P c g c)<n)∧((.row 47 3 (fun i0=>.rat ((lowQ (swapR L c g) (swapR U c g) c (c+1)) (rSw ρ c g (pSw P c g c)) i0)) n:OB)=.row 47 3 (fun i0=>.rat ((lowQ (swapR L c g) (swapR U c g) c (c+1)) c i0)) n)∧(∀t,t<n→t≠(pSw P c g c)→(.row 47 3 (fun i0=>.rat ((lowQ (swapR L c g) (swapR U c g) c (c+1)) (rSw ρ c g t) i0)) n:OB)=.row 47 3 (fun i0=>.rat ((lowQ (swapR L c g) (swapR U c g) c c) (rSw ρ c g t) i0)) n)∧_∧(((fun X1 X2 X3 X4 X5 X6 X7 X8 X9 X10 X11 X12 X13:Prop=>∃h0:Nat,X1∧X2∧X3∧(((c+1:Nat):Int)=(h0:Int))∧X4∧X5∧X6∧X7∧X8∧X9∧(∀j0,j0<n→((pSw P c g j0:Nat)=(pSw P c g j0)))∧X10∧(∀j0,j0<n→((n:Nat)=n)∧(∀j1,j1<n→(((elimQ (swapR U c g) c c) j0 j1:Rat)=((elimQ (swapR U c g) c h0) j0 j1))))∧X11∧X12∧X13∧(∀j0,j0<n→((n:Nat)=n)∧(∀j1,j1<n→(((lowQ (swapR L c g) (swapR U c g) c (c+1)) (rSw ρ c g j0) j1:Rat)=((lowQ (swapR L c g) (swapR U c g) c h0) (rSw ρ c g j0) j1))))∧(c+1≤h0∧h0≤n)) _ _ _ _ _ _ _ _ _ _ _ _ _)∧∀h:Nat,(c+1≤h∧h≤n)→(((decide ((h:Int)<(n:Int)))=true→_∧(h<n)∧(h<n)∧_∧(c<n)∧_∧(c<n)∧(c<n)∧_∧(c<n)∧_∧_∧(h<n)∧(h<n)∧_∧(c<n)∧((pSw P c g h)<n)∧(c<n)∧(((((elimQ (swapR U c g) c h) h c)/((elimQ (swapR U c g) c h) c c):Rat)=((lowQ (swapR L c g) (swapR U c g) c (h+1)) h c)))∧(∀t,t<n→t≠c→(.rat ((lowQ (swapR L c g) (swapR U c g) c (h+1)) h t):SV)=.rat ((lowQ (swapR L c g) (swapR U c g) c h) (rSw ρ c g (pSw P c g h)) t))∧((pSw P c g h)<n)∧((.row 47 3 (fun i0=>.rat ((lowQ (swapR L c g) (swapR U c g) c (h+1)) (rSw ρ c g (pSw P c g h)) i0)) n:OB)=.row 47 3 (fun i0=>.rat ((lowQ (swapR L c g) (swapR U c g) c (h+1)) h i0)) n)∧(∀t,t<n→t≠(pSw P c g h)→(.row 47 3 (fun i0=>.rat ((lowQ (swapR L c g) (swapR U c g) c (h+1)) (rSw ρ c g t) i0)) n:OB)=.row 47 3 (fun i0=>.rat ((lowQ (swapR L c g) (swapR U c g) c h) (rSw ρ c g t) i0)) n)∧_∧(h<n)∧(h<n)∧_∧_∧(c<n)∧(c<n)∧_∧_∧(h<n)∧(h<n)∧(((n:Nat)=n)∧(∀j0,j0<n→((((elimQ (swapR U c g) c h) h j0)+(-(((elimQ (swapR U c g) c h) h c)/((elimQ (swapR U c g) c h) c c)))*((elimQ (swapR U c g) c h) c j0):Rat)=((elimQ (swapR U c g) c (h+1)) h j0))))∧(∀t,t<n→t≠h→(.sl 3 (fun i0=>.rat ((elimQ (swapR U c g) c (h+1)) t i0)) n:SV)=.sl 3 (fun i0=>.rat ((elimQ (swapR U c g) c h) t i0)) n)∧_∧((fun X1 X2 X3 X4 X5 X6 X7 X8 X9 X10 X11 X12 X13:Prop=>∃h1:Nat,X1∧X2∧X3∧(((h+1:Nat):Int)=(h1:Int))∧X4∧X5∧X6∧X7∧X8∧X9∧(∀j0,j0<n→((pSw P c g j0:Nat)=(pSw P c g j0)))∧X10∧(∀j0,j0<n→((n:Nat)=n)∧(∀j1,j1<n→(((elimQ (swapR U c g) c (h+1)) j0 j1:Rat)=((elimQ (swapR U c g) c h1) j0 j1))))∧X11∧X12∧X13∧(∀j0,j0<n→((n:Nat)=n)∧(∀j1,j1<n→(((lowQ (swapR L c g) (swapR U c g) c (h+1)) (rSw ρ c g j0) j1:Rat)=((lowQ (swapR L c g) (swapR U c g) c h1) (rSw ρ c g j0) j1))))∧(c+1≤h1∧h1≤n)∧(n-h1<n-h)) _ _ _ _ _ _ _ _ _ _ _ _ _))∧((decide ((h:Int)<(n:Int)))=false→(_∧_∧_∧_∧_∧((if g=c then o else !o:Bool)=((luStep n (U,L,P,ρ,o) c).2.2.2.2))∧_∧(∀j0,j0<n→((pSw P c g j0:Nat)=((luStep n (U,L,P,ρ,o) c).2.2.1 j0)))∧_∧(∀j0,j0<n→((n:Nat)=n)∧(∀j1,j1<n→(((elimQ (swapR U c g) c h) j0 j1:Rat)=(((luStep n (U,L,P,ρ,o) c).1) j0 j1))))∧_∧(∀j0,j0<n→(((pSw P c g j0:Nat):Int)=(((luStep n (U,L,P,ρ,o) c).2.2.1 j0:Nat):Int)))∧_∧(∀j0,j0<n→((n:Nat)=n)∧(∀j1,j1<n→(((lowQ (swapR L c g) (swapR U c g) c h) (rSw ρ c g j0) j1:Rat)=((luStep n (U,L,P,ρ,o) c).2.1 ((luStep n (U,L,P,ρ,o) c).2.2.2.1 j0) j1)))))))))∧((!decide ((g:Int)=(c:Int)))=false→_∧_∧_∧_∧_∧_∧_∧((o:Bool)=(if g=c then o else !o))∧_∧(∀j0,j0<n→((P j0:Nat)=(pSw P c g j0)))∧_∧(∀j0,j0<n→((n:Nat)=n)∧(∀j1,j1<n→((U j0 j1:Rat)=((elimQ (swapR U c g) c c) j0 j1))))∧_∧(∀j0,j0<n→(((P j0:Nat):Int)=(pSw P c g j0:Int)))∧_∧(∀j0,j0<n→((n:Nat)=n)∧(∀j1,j1<n→((L (ρ j0) j1:Rat)=((lowQ (swapR L c g) (swapR U c g) c c) (rSw ρ c g j0) j1))))∧_∧(c<n)∧(c<n)∧_∧_∧(c<n)∧((pSw P c g c)<n)∧(c<n)∧(((((1:Int):Rat):Rat)=((lowQ (swapR L c g) (swapR U c g) c (c+1)) c c)))∧(∀t,t<n→t≠c→(.rat ((lowQ (swapR L c g) (swapR U c g) c (c+1)) c t):SV)=.rat ((lowQ (swapR L c g) (swapR U c g) c c) (rSw ρ c g (pSw P c g c)) t))∧((pSw P c g c)<n)∧((.row 47 3 (fun i0=>.rat ((lowQ (swapR L c g) (swapR U c g) c (c+1)) (rSw ρ c g (pSw P c g c)) i0)) n:OB)=.row 47 3 (fun i0=>.rat ((lowQ (swapR L c g) (swapR U c g) c (c+1)) c i0)) n)∧(∀t,t<n→t≠(pSw P c g c)→(.row 47 3 (fun i0=>.rat ((lowQ (swapR L c g) (swapR U c g) c (c+1)) (rSw ρ c g t) i0)) n:OB)=.row 47 3 (fun i0=>.rat ((lowQ (swapR L c g) (swapR U c g) c c) (rSw ρ c g t) i0)) n)∧_∧(((fun X1 X2 X3 X4 X5 X6 X7 X8 X9 X10 X11 X12 X13:Prop=>∃h0:Nat,X1∧X2∧X3∧(((c+1:Nat):Int)=(h0:Int))∧X4∧X5∧X6∧X7∧X8∧X9∧(∀j0,j0<n→((pSw P c g j0:Nat)=(pSw P c g j0)))∧X10∧(∀j0,j0<n→((n:Nat)=n)∧(∀j1,j1<n→(((elimQ (swapR U c g) c c) j0 j1:Rat)=((elimQ (swapR U c g) c h0) j0 j1))))∧X11∧X12∧X13∧(∀j0,j0<n→((n:Nat)=n)∧(∀j1,j1<n→(((lowQ (swapR L c g) (swapR U c g) c (c+1)) (rSw ρ c g j0) j1:Rat)=((lowQ (swapR L c g) (swapR U c g) c h0) (rSw ρ c g j0) j1))))∧(c+1≤h0∧h0≤n)) _ _ _ _ _ _ _ _ _ _ _ _ _)∧∀h:Nat,(c+1≤h∧h≤n)→(((decide ((h:Int)<(n:Int)))=true→_∧(h<n)∧(h<n)∧_∧(c<n)∧_∧(c<n)∧(c<n)∧_∧(c<n)∧_∧_∧(h<n)∧(h<n)∧_∧(c<n)∧((pSw P c g h)<n)∧(c<n)∧(((((elimQ (swapR U c g) c h) h c)/((elimQ (swapR U c g) c h) c c):Rat)=((lowQ (swapR L c g) (swapR U c g) c (h+1)) h c)))∧(∀t,t<n→t≠c→(.rat ((lowQ (swapR L c g) (swapR U c g) c (h+1)) h t):SV)=.rat ((lowQ (swapR L c g) (swapR U c g) c h) (rSw ρ c g (pSw P c g h)) t))∧((pSw P c g h)<n)∧((.row 47 3 (fun i0=>.rat ((lowQ (swapR L c g) (swapR U c g) c (h+1)) (rSw ρ c g (pSw P c g h)) i0)) n:OB)=.row 47 3 (fun i0=>.rat ((lowQ (swapR L c g) (swapR U c g) c (h+1)) h i0)) n)∧(∀t,t<n→t≠(pSw P c g h)→(.row 47 3 (fun i0=>.rat ((lowQ (swapR L c g) (swapR U c g) c (h+1)) (rSw ρ c g t) i0)) n:OB)=.row 47 3 (fun i0=>.rat ((lowQ (swapR L c g) (swapR U c g) c h) (rSw ρ c g t) i0)) n)∧_∧(h<n)∧(h<n)∧_∧_∧(c<n)∧(c<n)∧_∧_∧(h<n)∧(h<n)∧(((n:Nat)=n)∧(∀j0,j0<n→((((elimQ (swapR U c g) c h) h j0)+(-(((elimQ (swapR U c g) c h) h c)/((elimQ (swapR U c g) c h) c c)))*((elimQ (swapR U c g) c h) c j0):Rat)=((elimQ (swapR U c g) c (h+1)) h j0))))∧(∀t,t<n→t≠h→(.sl 3 (fun i0=>.rat ((elimQ (swapR U c g) c (h+1)) t i0)) n:SV)=.sl 3 (fun i0=>.rat ((elimQ (swapR U c g) c h) t i0)) n)∧_∧((fun X1 X2 X3 X4 X5 X6 X7 X8 X9 X10 X11 X12 X13:Prop=>∃h1:Nat,X1∧X2∧X3∧(((h+1:Nat):Int)=(h1:Int))∧X4∧X5∧X6∧X7∧X8∧X9∧(∀j0,j0<n→((pSw P c g j0:Nat)=(pSw P c g j0)))∧X10∧(∀j0,j0<n→((n:Nat)=n)∧(∀j1,j1<n→(((elimQ (swapR U c g) c (h+1)) j0 j1:Rat)=((elimQ (swapR U c g) c h1) j0 j1))))∧X11∧X12∧X13∧(∀j0,j0<n→((n:Nat)=n)∧(∀j1,j1<n→(((lowQ (swapR L c g) (swapR U c g) c (h+1)) (rSw ρ c g j0) j1:Rat)=((lowQ (swapR L c g) (swapR U c g) c h1) (rSw ρ c g j0) j1))))∧(c+1≤h1∧h1≤n)∧(n-h1<n-h)) _ _ _ _ _ _ _ _ _ _ _ _ _))∧((decide ((h:Int)<(n:Int)))=false→(_∧_∧_∧_∧_∧((if g=c then o else !o:Bool)=((luStep n (U,L,P,ρ,o) c).2.2.2.2))∧_∧(∀j0,j0<n→((pSw P c g j0:Nat)=((luStep n (U,L,P,ρ,o) c).2.2.1 j0)))∧_∧(∀j0,j0<n→((n:Nat)=n)∧(∀j1,j1<n→(((elimQ (swapR U c g) c h) j0 j1:Rat)=(((luStep n (U,L,P,ρ,o) c).1) j0 j1))))∧_∧(∀j0,j0<n→(((pSw P c g j0:Nat):Int)=(((luStep n (U,L,P,ρ,o) c).2.2.1 j0:Nat):Int)))∧_∧(∀j0,j0<n→((n:Nat)=n)∧(∀j1,j1<n→(((lowQ (swapR L c g) (swapR U c g) c h) (rSw ρ c g j0) j1:Rat)=((luStep n (U,L,P,ρ,o) c).2.1 ((luStep n (U,L,P,ρ,o) c).2.2.2.1 j0) j1)))))))))))))) (fun B=>by kernel_rfl)
  (fun B=>⟨⟨c,(rf 0),(rf (c:Int)),zo,(rf (some (B 0))),(rf 0),(rf 0),(rf 0),(rf (o:Bool)),(rf n),(fun j0 hj0=>rfl),(rf n),(leS (mE U n) n),(rf n),(leS (fun i0=>iN (P i0)) n),(rf n),(fun j0 hj0=>⟨rfl,(fun j1 hj1=>rfl)⟩),Nat.le_refl _,by omega,rfl⟩,fun g hg0=>have hg1:=hg0.1;have hg2:=hg0.2.1;⟨id,id,id,id,id,(fun hg=>(rf (g:Int))),(fun hg=>(by have hg2:=of_guard hg;omega)),id,(fun hg=>(by have hg2:=of_guard hg;omega)),id,id,(fun hg=>(rf (c:Int))),(fun hg=>zo),id,id,(fun hg=>sRatZero (q:=U g c)),(by simp),fun hc29=>have hz:=step_yes hc29;⟨(by rw[IntKind.wrap_i64];omega),g+1,(rf 0),(rf (c:Int)),zo,(rf (some (B 0))),(rf 0),(rf 0),(rf 0),(rf (o:Bool)),(rf n),(fun j0 hj0=>rfl),(rf n),(leS (mE U n) n),(rf n),(leS (fun i0=>iN (P i0)) n),(rf n),(fun j0 hj0=>⟨rfl,(fun j1 hj1=>rfl)⟩),⟨by omega,by omega,hg0.2.2.trans (leadK_step hz.1 hz.2)⟩,zo⟩,fun hc29=>have hz:=step_no hg2 hc29;have hK:=step_K hg0.2.2 hz;have hgn:g<n:=(by rw[←hK];exact hk);have hB1:=hB.sw hc hgn;have hP1:=hB1.lt c hc;have H4:=hH.swap hc hgn;have hne0:=fun {t:Nat} (k:t≠pSw P c g c)=>rSw_ne hB1 k;⟨(by simp;omega),fun hc41=>have hk3:g≠c:=(by simp at hc41;omega);⟨(rf (g:Int)),zo,zo,(rf (c:Int)),zo,zo,(rf (c:Int)),zo,zo,⟨rfl,(fun j0 hj0=>(if_pos rfl).symm)⟩,(fun t ht hne=>by simp only[setR_ne hne]),(rf (g:Int)),zo,zo,⟨rfl,(fun j0 hj0=>(swap_at))⟩,(fun t ht hne=>by simp only[swap_other hne]),(rf (g:Int)),zo,zo,(rf (c:Int)),zo,zo,(rf (c:Int)),zo,zo,⟨rfl,(if_pos rfl).symm⟩,(fun t ht hne=>by rw[setN_ne hne]),(rf (g:Int)),zo,zo,⟨rfl,(pSw_at)⟩,(fun t ht hne=>by rw[pSw_other hne]),(rf (g:Int)),zo,zo,(rf (c:Int)),zo,zo,(rf (c:Int)),zo,zo,(congrArg (fun x:Nat=>(x:Int)) (if_pos rfl).symm),(fun t ht hne=>by rw[setN_ne hne]),(rf (g:Int)),zo,zo,(congrArg (fun x:Nat=>(x:Int)) pSw_at),(fun t ht hne=>by rw[pSw_other hne]),(rf 0),(rf (c:Int)),(rf (g:Int)),(rf (some (B 0))),(rf 0),(rf 0),(rf 0),(by first | exact(if_neg hk3).symm | exact(if_pos hk3).symm),(rf n),(fun j0 hj0=>rfl),(rf n),(fun j0 hj0=>⟨rfl,(fun j1 hj1=>(by first | exact elimQ_zero0 | exact(swap_same hk3).symm.trans elimQ_zero0))⟩),(rf n),(leS (fun i0=>iN (pSw P c g i0)) n),(rf n),(fun j0 hj0=>⟨rfl,(fun j1 hj1=>(low_conv))⟩),(rf (c:Int)),zo,zo,sRatInt (x:=1) zo zo,(rf (c:Int)),zo,zo,zo,(lowQ_corner),(fun t ht hne=>by rw[lowQ_col hne,hB1.inv,lowQ_col hne]),zo,(by rw[hB1.inv]),(fun t ht hne=>by rw[lowQ_row (hne0 hne)]),(wI (g:=c) zo),⟨c+1,(rf 0),(rf (c:Int)),(rf (g:Int)),zo,(rf (some (B 0))),(rf 0),(rf 0),(rf 0),(rf (if g=c then o else !o:Bool)),(rf n),(fun j0 hj0=>rfl),(rf n),(fun j0 hj0=>⟨rfl,(fun j1 hj1=>elimQ_from)⟩),(rf n),(leS (fun i0=>iN (pSw P c g i0)) n),(rf n),(fun j0 hj0=>⟨rfl,(fun j1 hj1=>rfl)⟩),Nat.le_refl _,by omega⟩,fun h hh0=>have hh1:=hh0.1;have hh2:=hh0.2;have hne0:=fun {t:Nat} (k:t≠pSw P c g h)=>rSw_ne hB1 k;⟨fun hc146=>have hc146:=dT hc146;have hh:c<h∧h<n:=⟨by omega,by omega⟩;have hP2:=hB1.lt h hh.2;⟨(rf (h:Int)),zo,zo,(rf (c:Int)),zo,(rf (c:Int)),zo,zo,(rf (c:Int)),zo,sRatDiv (p:=(elimQ (swapR U c g) c h) h c) (q:=(elimQ (swapR U c g) c h) c c) (div_room H4 zo hh.2),(rf (h:Int)),zo,zo,(rf (c:Int)),zo,zo,zo,(lowQ_now2 zo),(fun t ht hne=>by rw[lowQ_col hne,hB1.inv,lowQ_col hne]),zo,(by rw[hB1.inv]),(fun t ht hne=>by rw[lowQ_row (hne0 hne)]),(rf (h:Int)),zo,zo,sRatNeg (q:=((elimQ (swapR U c g) c h) h c)/((elimQ (swapR U c g) c h) c c)),(rf (c:Int)),zo,zo,(sVecAddTimes (a:=(elimQ (swapR U c g) c h) h) (b:=(elimQ (swapR U c g) c h) c) (n:=n) (r:=-(((elimQ (swapR U c g) c h) h c)/((elimQ (swapR U c g) c h) c c))) zo (lu_room H4 zo hh.2)).frzV2,(rf (h:Int)),zo,zo,⟨rfl,(fun j0 hj0=>(elim_now zo))⟩,(fun t ht hne=>by simp only[elimQ_ne hne]),(wI (g:=h) zo),h+1,(rf 0),(rf (c:Int)),(rf (g:Int)),zo,(rf (some (B 0))),(rf 0),(rf 0),(rf 0),(rf (if g=c then o else !o:Bool)),(rf n),(fun j0 hj0=>rfl),(rf n),(fun j0 hj0=>⟨rfl,(fun j1 hj1=>rfl)⟩),(rf n),(leS (fun i0=>iN (pSw P c g i0)) n),(rf n),(fun j0 hj0=>⟨rfl,(fun j1 hj1=>rfl)⟩),⟨by omega,by omega⟩,zo⟩,fun hc146=>have hc146:=dF hc146;have hi3:h=n:=zo;⟨(rf (true:Bool)),(rf (some (B 0))),(rf 0),(rf 0),(rf 0),(by rw[lu_o hK]),(rf n),(fun j0 hj0=>(by rw[lu_P hK])),(rf n),(fun j0 hj0=>⟨rfl,(fun j1 hj1=>(by rw[lu_U hK,hi3]))⟩),(rf n),(fun j0 hj0=>(by rw[lu_P hK])),(rf n),(fun j0 hj0=>⟨rfl,(fun j1 hj1=>(by rw[lu_L hK,lu_R hK,hi3]))⟩)⟩⟩⟩,fun hc41=>have hk3:g=c:=(by simp at hc41;omega);⟨(rf 0),(rf (c:Int)),(rf (g:Int)),(rf (some (B 0))),(rf 0),(rf 0),(rf 0),(by first | exact(if_neg hk3).symm | exact(if_pos hk3).symm),(rf n),(fun j0 hj0=>(by first | rfl | exact(pSw_same hk3).symm)),(rf n),(fun j0 hj0=>⟨rfl,(fun j1 hj1=>(by first | exact elimQ_zero0 | exact(swap_same hk3).symm.trans elimQ_zero0))⟩),(rf n),(fun j0 hj0=>(by first | rfl | exact congrArg (fun x:Nat=>(x:Int)) (pSw_same hk3).symm)),(rf n),(fun j0 hj0=>⟨rfl,(fun j1 hj1=>(low_conv))⟩),(rf (c:Int)),zo,zo,sRatInt (x:=1) zo zo,(rf (c:Int)),zo,zo,zo,(lowQ_corner),(fun t ht hne=>by rw[lowQ_col hne,hB1.inv,lowQ_col hne]),zo,(by rw[hB1.inv]),(fun t ht hne=>by rw[lowQ_row (hne0 hne)]),(wI (g:=c) zo),⟨c+1,(rf 0),(rf (c:Int)),(rf (g:Int)),zo,(rf (some (B 0))),(rf 0),(rf 0),(rf 0),(rf (if g=c then o else !o:Bool)),(rf n),(fun j0 hj0=>rfl),(rf n),(fun j0 hj0=>⟨rfl,(fun j1 hj1=>elimQ_from)⟩),(rf n),(leS (fun i0=>iN (pSw P c g i0)) n),(rf n),(fun j0 hj0=>⟨rfl,(fun j1 hj1=>rfl)⟩),Nat.le_refl _,by omega⟩,fun h hh0=>have hh1:=hh0.1;have hh2:=hh0.2;have hne0:=fun {t:Nat} (k:t≠pSw P c g h)=>rSw_ne hB1 k;⟨fun hc146=>have hc146:=dT hc146;have hh:c<h∧h<n:=⟨by omega,by omega⟩;have hP2:=hB1.lt h hh.2;⟨(rf (h:Int)),zo,zo,(rf (c:Int)),zo,(rf (c:Int)),zo,zo,(rf (c:Int)),zo,sRatDiv (p:=(elimQ (swapR U c g) c h) h c) (q:=(elimQ (swapR U c g) c h) c c) (div_room H4 zo hh.2),(rf (h:Int)),zo,zo,(rf (c:Int)),zo,zo,zo,(lowQ_now2 zo),(fun t ht hne=>by rw[lowQ_col hne,hB1.inv,lowQ_col hne]),zo,(by rw[hB1.inv]),(fun t ht hne=>by rw[lowQ_row (hne0 hne)]),(rf (h:Int)),zo,zo,sRatNeg (q:=((elimQ (swapR U c g) c h) h c)/((elimQ (swapR U c g) c h) c c)),(rf (c:Int)),zo,zo,(sVecAddTimes (a:=(elimQ (swapR U c g) c h) h) (b:=(elimQ (swapR U c g) c h) c) (n:=n) (r:=-(((elimQ (swapR U c g) c h) h c)/((elimQ (swapR U c g) c h) c c))) zo (lu_room H4 zo hh.2)).frzV2,(rf (h:Int)),zo,zo,⟨rfl,(fun j0 hj0=>(elim_now zo))⟩,(fun t ht hne=>by simp only[elimQ_ne hne]),(wI (g:=h) zo),h+1,(rf 0),(rf (c:Int)),(rf (g:Int)),zo,(rf (some (B 0))),(rf 0),(rf 0),(rf 0),(rf (if g=c then o else !o:Bool)),(rf n),(fun j0 hj0=>rfl),(rf n),(fun j0 hj0=>⟨rfl,(fun j1 hj1=>rfl)⟩),(rf n),(leS (fun i0=>iN (pSw P c g i0)) n),(rf n),(fun j0 hj0=>⟨rfl,(fun j1 hj1=>rfl)⟩),⟨by omega,by omega⟩,zo⟩,fun hc146=>have hc146:=dF hc146;have hi3:h=n:=zo;⟨(rf (true:Bool)),(rf (some (B 0))),(rf 0),(rf 0),(rf 0),(by rw[lu_o hK]),(rf n),(fun j0 hj0=>(by rw[lu_P hK])),(rf n),(fun j0 hj0=>⟨rfl,(fun j1 hj1=>(by rw[lu_U hK,hi3]))⟩),(rf n),(fun j0 hj0=>(by rw[lu_P hK])),(rf n),(fun j0 hj0=>⟨rfl,(fun j1 hj1=>(by rw[lu_L hK,lu_R hK,hi3]))⟩)⟩⟩⟩⟩⟩⟩)
end Go.Proofs.YtgighdoacajmfaaGreatDoor
