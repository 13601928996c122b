/- TabSwaps: for all problems, picks and scripts that together are at most 1048576 long: a swap that is done leads to what the new basis is seen from anew; one that is refused changes nothing. -/
import Derived.Test.YtjhfkgpjcdbjaaaGreatDoorR7
set_option maxRecDepth 100000
namespace Go.Proofs.YtjhfkgpjcdbjaaaGreatDoor.tabSwaps
open Go.ChangeShapes Go.WideShapes Go.ChangeAt Go.RowKit
theorem one_le{H:Type}(d:DataW H):1<=Rows.uptoBulk d:=by
 cases d with
 | lit l=>cases l<;>simp[Rows.uptoBulk]
 | _=>simp[Rows.uptoBulk]
theorem length_le{H:Type}(l:List (DataW H)):l.length<=Rows.uptoBulkAll l:=by
 induction l with
 | nil=>simp[Rows.uptoBulkAll]
 | cons x r ih=>have:=one_le x;simp only[Rows.uptoBulkAll,List.length_cons];omega
theorem part_le{H:Type}{d:DataW H}{l:List (DataW H)}(h:d∈l):Rows.uptoBulk d<=Rows.uptoBulkAll l:=by
 induction l with
 | nil=>cases h
 | cons x r ih=>
  simp only[Rows.uptoBulkAll]
  cases List.mem_cons.1 h with
  | inl e=>subst e;omega
  | inr e=>have:=ih e;omega
theorem longc_le{H:Type}{n:Nat}{d:DataW H}{C:Nat->DataW H->Prop}(h:LongC n d C):n<=Rows.uptoBulk d/\∀i,i<n->∃d',C i d'/\Rows.uptoBulk d'<=Rows.uptoBulk d:=by
 rcases h with⟨rfl,rfl⟩ | ⟨D,sp,rfl,h⟩
 ·exact⟨Nat.zero_le _,λi hi=>by omega⟩
 ·refine⟨?_,λi hi=>⟨D i,h i hi,?_⟩⟩
  ·have:=length_le ((List.range n).map D)
   simp only[List.length_map,List.length_range] at this
   simp only[Rows.uptoBulk]
   omega
  ·have:=part_le (List.mem_map_of_mem (f:=D) (List.mem_range.2 hi))
   simp only[Rows.uptoBulk]
   omega
theorem et:Tryz.prog.globalNamed "errors.errorType" =some 0:=by kernel_rfl
theorem rt:(Tryz.prog.cutTypes.find? (·.1== "internal/reflectlite.rtype")).map (·.2)=some 180:=by kernel_rfl
theorem sizeT:Tryz.prog.types.size=275:=by kernel_rfl
theorem oneRow:((List.range 275).filter λt=>Tryz.prog.rowNamed t [101,114,114,111,114])=[45]:=by kernel_rfl
theorem handle_of_laid{W:World}(h:laidMetH Tryz.prog Rows.tabSwapsUptoRow.laid W):W.cell? ⟨0,0,none⟩=some (.iface 180 (.agg #[.pointer (some ⟨1,45,none⟩)])):=by
 have h':laidMet Tryz.prog [] W/\handlesMet Tryz.prog Rows.tabSwapsUptoRow.laid W:=h
 obtain⟨name,u,ty,e1,e2,e3,e4,e5⟩:=h'.2 _ (List.mem_singleton.2 rfl)
 have en:name=[101,114,114,111,114]:=(Option.some.inj e1).symm
 subst en
 obtain rfl:=Option.some.inj (rt.symm.trans e2)
 have hm:ty∈(List.range 275).filter λt=>Tryz.prog.rowNamed t [101,114,114,111,114]:=List.mem_filter.2 ⟨List.mem_range.2 (by rw[←sizeT];exact e3),e4⟩
 rw[oneRow] at hm
 obtain rfl:=List.mem_singleton.1 hm
 have hh:typeHandle Tryz.prog 45=.pointer (some ⟨1,45,none⟩):=by kernel_rfl
 rw[hh] at e5
 simpa using World.var?_cell et e5 0
theorem gl_of_laid{W:World}(h:laidMetH Tryz.prog Rows.tabSwapsUptoRow.laid W):Gl W:=λv e=>by
 obtain rfl:=Option.some.inj e
 have hc:=handle_of_laid h
 refine⟨?_,hc⟩
 rcases Nat.eq_zero_or_pos W.heap.size with h0 | h0
 ·simp[World.cell?,h0] at hc
 ·exact h0
noncomputable def laidWorld (os:Os):World:=
 let w0:=World.holding Tryz.prog os ⟨#[],#[],[]⟩
 { w0 with heap := w0.heap.modify 0 λ
   | .cells _ t frozen=>.cells #[.iface 180 (.agg #[.pointer (some ⟨1,45,none⟩)])] t frozen
   | o=>o}
theorem contract(H:Type)(enc:TypeId×Value->H)(W:World)(base:Nat)(args:Array Value)(ds gs:List (DataW H))(before:List MemPlace)
  (hval0:∀(j:Nat) t v,Tryz.f8.params[j]?=some t->args[j]?=some v->Value.okWide Tryz.prog W .any base t v)
  (hW:DataW.Whole enc Tryz.prog Tryz.f8.params.toList Rows.tabSwapsSpec.vars false W args.toList ds gs before)(hk:Rows.uptoSmall H (ds++gs)=true)(hL:laidMetH Tryz.prog Rows.tabSwapsUptoRow.laid W):
  Calls Tryz.prog 8 args W λe W'=>∃v,e=.returned v/\Rows.tabSwapsSpec.post enc Tryz.prog Tryz.f8 false true false false W args v W':=by
 have hval:∀(j:Nat) t v,Tryz.f8.params[j]?=some t->args[j]?=some v->Value.okWide Tryz.prog W .any base t v:=hval0
 have hW0:=hW
 obtain⟨p,q,hA0,hV,rfl,hfz,hnd⟩:=hW
 have hA:DataW.TrodAll enc Tryz.prog W 0 (λ_=>true) true Tryz.f8.params.toList args.toList ds p:=hA0
 rw[Tryz.params8] at hA hval
 obtain⟨v0,vs0,d0,ds0,p0,q0,hargs,rfl,rfl,h0,r0⟩:=trodAll_cons hA
 obtain⟨v1,vs1,d1,ds1,p1,q1,rfl,rfl,rfl,h1,r1⟩:=trodAll_cons r0
 obtain⟨v2,vs2,d2,ds2,p2,q2,rfl,rfl,rfl,h2,r2⟩:=trodAll_cons r1
 obtain⟨v3,vs3,d3,ds3,p3,q3,rfl,rfl,rfl,h3,r3⟩:=trodAll_cons r2
 obtain⟨rfl,rfl,rfl⟩:=trodAll_nil r3
 obtain rfl:args=#[v0,v1,v2,v3]:=by cases args;simp_all
 obtain⟨rfl,rfl⟩:=trodVars_none hV
 obtain⟨t0,R0,d00,d01,e0,k0,l0⟩:=top_raw (hval 0 62 v0 rfl rfl) h0
 obtain⟨n1,t1,R1,w1⟩:=top_bytes (hval 1 63 v1 rfl rfl) h1
 obtain⟨n2,t2,R2,w2⟩:=top_bytes (hval 2 63 v2 rfl rfl) h2
 obtain⟨n3,t3,R3,w3⟩:=top_bytes (hval 3 63 v3 rfl rfl) h3
 have hB:Rows.uptoBulkAll _<=1048576:=of_decide_eq_true hk
 simp only[List.append_nil,Rows.uptoBulkAll] at hB
 have hs:Rows.uptoBulk d00+Rows.uptoBulk d01<=1048576:=by subst e0;simp only[Rows.uptoBulk,Rows.uptoBulkAll] at hB;omega
 have b0:=longc_le k0
 have a0:=longc_le l0
 have hc:t0.1.1<=68719476736:=by have:=b0.1;omega
 have hr:t0.2.1<=68719476736:=by have:=a0.1;omega
 have wc:∀j,j<t0.1.1->Wd64 (t0.1.2 j).1/\Wd64 (t0.1.2 j).2:=λj hj=>by obtain⟨_,⟨_,_,_,w⟩,_⟩:=b0.2 j hj;exact w
 have hl:∀i,i<t0.2.1->(t0.2.2 i).1.1<=68719476736:=λi hi=>by obtain⟨_,⟨d0,d1,d2,e,l,_⟩,h⟩:=a0.2 i hi;have h1:=(longc_le l).1;subst e;simp only[Rows.uptoBulk,Rows.uptoBulkAll] at h;omega
 have wl:∀i,i<t0.2.1->∀j,j<(t0.2.2 i).1.1->Wd64 ((t0.2.2 i).1.2 j).1/\Wd64 ((t0.2.2 i).1.2 j).2:=λi hi j hj=>by obtain⟨_,⟨_,_,_,_,l,_⟩,_⟩:=a0.2 i hi;obtain⟨_,⟨_,_,_,w⟩,_⟩:=(longc_le l).2 j hj;exact w
 have wr:∀i,i<t0.2.1->Wd64 (t0.2.2 i).2.2.1/\Wd64 (t0.2.2 i).2.2.2:=λi hi=>by obtain⟨_,⟨_,_,_,_,_,_,_,_,_,w⟩,_⟩:=a0.2 i hi;exact w
 refine(CallOK.law (vals:=[v0,v1,v2,v3]) (sTabSwaps (lc:=t0.1.1) (lr:=t0.2.1) (pc:=λi=>(t0.1.2 i).1) (dc:=λi=>(t0.1.2 i).2) (pa:=λi c=>((t0.2.2 i).1.2 c).1) (da:=λi c=>((t0.2.2 i).1.2 c).2) (la:=λi=>(t0.2.2 i).1.1) (K:=λi=>(t0.2.2 i).2.1) (pr:=λi=>(t0.2.2 i).2.2.1) (dr:=λi=>(t0.2.2 i).2.2.2) (lp:=n1) (pk:=t1) (lk:=n2) (ks:=t2) (lj:=n3) (js:=t3) hc hr hl wc wl wr w1) ⟨R0,R1,R2,R3,trivial⟩ (gl_of_laid hL)).mono λe W' ⟨v,he,hb,hv⟩=>?_
 subst he
 subst hv
 exact⟨_,rfl,law_post (P:=Tryz.prog) TryzlaidOut (by rw[Tryz.params8];intro t ht;simp only[List.mem_cons,List.not_mem_nil,or_false] at ht;rcases ht with rfl | rfl | rfl | rfl<;>exact⟨by kernel_rfl,of_decide_eq_true zk⟩) rfl zk Tryz.underlying4 hW0 rfl rfl rfl hb⟩
theorem laid_met(os:Os):laidMetH Tryz.prog Rows.tabSwapsUptoRow.laid ((laidWorld os).forCall (λ_ _=>0) ⟨#[],#[.agg #[.slice none 0 0,.slice none 0 0],.slice none 0 0,.slice none 0 0,.slice none 0 0],[]⟩).memory:=
 laidMetH_of_parts (laidMet_nil _ _) zk
theorem reads(os:Os){H:Type}(enc:TypeId×Value->H):∃places,DataW.whole enc Tryz.prog ((laidWorld os).forCall (λ_ _=>0) ⟨#[],#[.agg #[.slice none 0 0,.slice none 0 0],.slice none 0 0,.slice none 0 0,.slice none 0 0],[]⟩).memory Tryz.f8.params.toList Rows.tabSwapsSpec.vars false (#[.agg #[.slice none 0 0,.slice none 0 0],.slice none 0 0,.slice none 0 0,.slice none 0 0]:Array Value).toList 8=some ([.agg [.nil,.nil],.nil,.nil,.nil],[],places):=
 ⟨[],by kernel_rfl⟩
theorem lifted(os:Os)(started:os.Started)(H:Type)(enc:TypeId×Value->H)(F:Stop.Interp):
  ReturnsInHanded {} Tryz.checked os 8 .any ((Rows.OpenSpec.upto Rows.tabSwapsSpec).preRow enc Tryz.prog Tryz.f8 Rows.tabSwapsUptoRow.domain false Rows.tabSwapsUptoRow.laid) (((Rows.OpenSpec.upto Rows.tabSwapsSpec).at F).post enc Tryz.prog Tryz.f8 false true false false):=by
 obtain⟨places,hx⟩:=reads os enc
 refine returnsInHanded_of_row (C:=Tryz.checked) (s:=Rows.OpenSpec.upto Rows.tabSwapsSpec) Tryzown started zk Tryz.func8
  (witness_row_at (enc := enc) (C := Tryz.checked) false (laidWorld os) #[.agg #[.slice none 0 0, .slice none 0 0], .slice none 0 0, .slice none 0 0, .slice none 0 0] rfl zk zk zk
   (OpenSpec.preRow_of_cond 8 hx zk (λk hk=>by cases hk;kernel_rfl) zk (laid_met os))) ?_
 intro W base args ds gs before hval hW _ hcond _ hL _ _
 exact contract H enc W base args ds gs before hval hW (hcond _ rfl) hL
theorem said:Rows.TabSwapsUptoSaid:=
 OpenClaim.holds_of_cond 8 Tryz.f8 rfl rfl rfl rfl rfl rfl rfl ⟨rfl,rfl,rfl,rfl,rfl⟩ rfl rfl rfl rfl rfl zk Tryz.func8 zk
  (of_decide_eq_true zk) (by unfold Func.isWrapper;first | (rw[if_pos (by decide+kernel)];kernel_rfl) | (rw[if_neg (by decide+kernel)];exact⟨rfl,rfl⟩))
  (λos started H enc _ F=>by rw[OpenClaim.pre_eq_preRow];exact lifted os started H enc F)
theorem plain(f:FuncId)(fn:Func)(hf:Tryz.pinned.checked.prog.funcNamed "actuary/actuarylaw17.TabSwaps" =some f)(hfn:Tryz.pinned.checked.prog.funcs[f]?=some fn):
  true=Tryz.pinned.checked.prog.looks []/\∀(j:Nat) t,fn.params[j]?=some t->Tryz.pinned.checked.prog.wantsStandIn t=false:=by
 obtain rfl:f=8:=Option.some.inj ((show Tryz.prog.funcNamed "actuary/actuarylaw17.TabSwaps" =some 8 by kernel_rfl).symm.trans hf) |>.symm
 obtain rfl:fn=Tryz.f8:=(Option.some.inj (Tryz.func8.symm.trans hfn)).symm
 refine⟨by kernel_rfl,λj t ht=>?_⟩
 rw[Tryz.params8] at ht
 have hm:=Array.mem_of_getElem? ht
 simp only[List.mem_toArray,List.mem_cons,List.not_mem_nil,or_false] at hm
 rcases hm with rfl | rfl | rfl | rfl
 ·exact(show Tryz.prog.wantsStandIn 62=false by kernel_rfl)
 ·exact(show Tryz.prog.wantsStandIn 63=false by kernel_rfl)
 ·exact(show Tryz.prog.wantsStandIn 63=false by kernel_rfl)
 ·exact(show Tryz.prog.wantsStandIn 63=false by kernel_rfl)
theorem proved:Rows.TabSwapsUptoCardSaid:=
 Claim7.holds_tied_plain_at .later [] _ _ _ _ said (λ_ h=>by cases h) zk (λ_ h=>by cases h) tabSwapsUpto_row_tie rfl ⟨rfl,rfl⟩ zk rfl plain zk
#print axioms proved
end Go.Proofs.YtjhfkgpjcdbjaaaGreatDoor.tabSwaps
