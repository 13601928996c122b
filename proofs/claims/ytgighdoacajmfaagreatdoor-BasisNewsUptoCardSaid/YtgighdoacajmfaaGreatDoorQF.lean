/- BasisNews: for all columns that together are at most 1048576 long: there is a basis of them just if they are as long as they are many, and independent: of up to 6. -/
import Derived.Test.YtgighdoacajmfaaGreatDoorQ6
set_option maxRecDepth 100000
namespace Go.Proofs.YtgighdoacajmfaaGreatDoor.basisNews
open Go.ChangeShapes Go.WideShapes Go.ChangeAt Go.RowKit
theorem one_le{H:Type}(d:DataW H):1<=Rows.uptoBulk d:=by
 cases d with
 | lit l=>cases l<;>simp[Rows.uptoBulk]
 | _=>simp[Rows.uptoBulk]
theorem length_le{H:Type}(l:List (DataW H)):l.length<=Rows.uptoBulkAll l:=by
 induction l with
 | nil=>simp[Rows.uptoBulkAll]
 | cons x r ih=>have:=one_le x;simp only[Rows.uptoBulkAll,List.length_cons];omega
theorem part_le{H:Type}{d:DataW H}{l:List (DataW H)}(h:d∈l):Rows.uptoBulk d<=Rows.uptoBulkAll l:=by
 induction l with
 | nil=>cases h
 | cons x r ih=>
  simp only[Rows.uptoBulkAll]
  cases List.mem_cons.1 h with
  | inl e=>subst e;omega
  | inr e=>have:=ih e;omega
theorem longc_le{H:Type}{n:Nat}{d:DataW H}{C:Nat->DataW H->Prop}(h:LongC n d C):n<=Rows.uptoBulk d/\∀i,i<n->∃d',C i d'/\Rows.uptoBulk d'<=Rows.uptoBulk d:=by
 rcases h with⟨rfl,rfl⟩ | ⟨D,sp,rfl,h⟩
 ·exact⟨Nat.zero_le _,λi hi=>by omega⟩
 ·refine⟨?_,λi hi=>⟨D i,h i hi,?_⟩⟩
  ·have:=length_le ((List.range n).map D)
   simp only[List.length_map,List.length_range] at this
   simp only[Rows.uptoBulk]
   omega
  ·have:=part_le (List.mem_map_of_mem (f:=D) (List.mem_range.2 hi))
   simp only[Rows.uptoBulk]
   omega
theorem et:Tryz.prog.globalNamed "errors.errorType" =some 0:=by kernel_rfl
theorem rt:(Tryz.prog.cutTypes.find? (·.1== "internal/reflectlite.rtype")).map (·.2)=some 169:=by kernel_rfl
theorem sizeT:Tryz.prog.types.size=277:=by kernel_rfl
theorem oneRow:((List.range 277).filter λt=>Tryz.prog.rowNamed t [101,114,114,111,114])=[37]:=by kernel_rfl
theorem handle_of_laid{W:World}(h:laidMetH Tryz.prog Rows.basisNewsUptoRow.laid W):W.cell? ⟨0,0,none⟩=some (.iface 169 (.agg #[.pointer (some ⟨1,37,none⟩)])):=by
 have h':laidMet Tryz.prog [] W/\handlesMet Tryz.prog Rows.basisNewsUptoRow.laid W:=h
 obtain⟨name,u,ty,e1,e2,e3,e4,e5⟩:=h'.2 _ (List.mem_singleton.2 rfl)
 have en:name=[101,114,114,111,114]:=(Option.some.inj e1).symm
 subst en
 obtain rfl:=Option.some.inj (rt.symm.trans e2)
 have hm:ty∈(List.range 277).filter λt=>Tryz.prog.rowNamed t [101,114,114,111,114]:=List.mem_filter.2 ⟨List.mem_range.2 (by rw[←sizeT];exact e3),e4⟩
 rw[oneRow] at hm
 obtain rfl:=List.mem_singleton.1 hm
 have hh:typeHandle Tryz.prog 37=.pointer (some ⟨1,37,none⟩):=by kernel_rfl
 rw[hh] at e5
 simpa using World.var?_cell et e5 0
theorem gl_of_laid{W:World}(h:laidMetH Tryz.prog Rows.basisNewsUptoRow.laid W):Gl W:=λv e=>by
 obtain rfl:=Option.some.inj e
 have hc:=handle_of_laid h
 refine⟨?_,hc⟩
 rcases Nat.eq_zero_or_pos W.heap.size with h0 | h0
 ·simp[World.cell?,h0] at hc
 ·exact h0
noncomputable def laidWorld (os:Os):World:=
 let w0:=World.holding Tryz.prog os ⟨#[],#[],[]⟩
 { w0 with heap := w0.heap.modify 0 λ
   | .cells _ t frozen=>.cells #[.iface 169 (.agg #[.pointer (some ⟨1,37,none⟩)])] t frozen
   | o=>o}
theorem contract(H:Type)(enc:TypeId×Value->H)(W:World)(base:Nat)(args:Array Value)(ds gs:List (DataW H))(before:List MemPlace)
  (hval0:∀(j:Nat) t v,Tryz.f6.params[j]?=some t->args[j]?=some v->Value.okWide Tryz.prog W .any base t v)
  (hW:DataW.Whole enc Tryz.prog Tryz.f6.params.toList Rows.basisNewsSpec.vars false W args.toList ds gs before)(hk:Rows.uptoSmall H (ds++gs)=true)(hL:laidMetH Tryz.prog Rows.basisNewsUptoRow.laid W):
  Calls Tryz.prog 6 args W λe W'=>∃v,e=.returned v/\Rows.basisNewsSpec.post enc Tryz.prog Tryz.f6 false true false false W args v W':=by
 have hval:∀(j:Nat) t v,Tryz.f6.params[j]?=some t->args[j]?=some v->Value.okWide Tryz.prog W .any base t v:=hval0
 have hW0:=hW
 obtain⟨p,q,hA0,hV,rfl,hfz,hnd⟩:=hW
 have hA:DataW.TrodAll enc Tryz.prog W 0 (λ_=>true) true Tryz.f6.params.toList args.toList ds p:=hA0
 rw[Tryz.params6] at hA hval
 obtain⟨v0,vs0,d0,ds0,p0,q0,hargs,rfl,rfl,h0,r0⟩:=trodAll_cons hA
 obtain⟨rfl,rfl,rfl⟩:=trodAll_nil r0
 obtain rfl:args=#[v0]:=by cases args;simp_all
 obtain⟨rfl,rfl⟩:=trodVars_none hV
 obtain⟨n0,t0,R0,L0⟩:=top_rows (hval 0 22 v0 rfl rfl) h0
 have hB:Rows.uptoBulkAll _<=1048576:=of_decide_eq_true hk
 simp only[List.append_nil,Rows.uptoBulkAll] at hB
 have B0:=longc_le L0
 have m0:∀i,i<n0->(t0 i).1<=1048576:=λi hi=>by obtain⟨_,l,h⟩:=B0.2 i hi;have:=(longc_le l).1;omega
 have w0:∀i,i<n0->∀j,j<(t0 i).1->Wd64 ((t0 i).2 j).1/\Wd64 ((t0 i).2 j).2:=λi hi j hj=>by obtain⟨_,l,_⟩:=B0.2 i hi;obtain⟨_,⟨_,_,_,w⟩,_⟩:=(longc_le l).2 j hj;exact w
 refine(CallOK.law (vals:=[v0]) (sBasisNews (N1:=n0) (L1:=λi=>(t0 i).1) (p1:=λi c=>((t0 i).2 c).1) (d1:=λi c=>((t0 i).2 c).2) (λi hi=>by have:=m0 i hi;omega) w0) ⟨R0,trivial⟩ (gl_of_laid hL)).mono λe W' ⟨v,he,hb,hv⟩=>?_
 subst he
 subst hv
 exact⟨_,rfl,law_post (P:=Tryz.prog) TryzlaidOut (by rw[Tryz.params6];intro t ht;simp only[List.mem_cons,List.not_mem_nil,or_false] at ht;rcases ht with rfl<;>exact⟨by kernel_rfl,of_decide_eq_true zk⟩) rfl zk Tryz.underlying4 hW0 rfl rfl rfl hb⟩
theorem laid_met(os:Os):laidMetH Tryz.prog Rows.basisNewsUptoRow.laid ((laidWorld os).forCall (λ_ _=>0) ⟨#[],#[.slice none 0 0],[]⟩).memory:=
 laidMetH_of_parts (laidMet_nil _ _) zk
theorem reads(os:Os){H:Type}(enc:TypeId×Value->H):∃places,DataW.whole enc Tryz.prog ((laidWorld os).forCall (λ_ _=>0) ⟨#[],#[.slice none 0 0],[]⟩).memory Tryz.f6.params.toList Rows.basisNewsSpec.vars false (#[.slice none 0 0]:Array Value).toList 8=some ([.nil],[],places):=
 ⟨[],by kernel_rfl⟩
theorem lifted(os:Os)(started:os.Started)(H:Type)(enc:TypeId×Value->H)(F:Stop.Interp):
  ReturnsInHanded {} Tryz.checked os 6 .any ((Rows.OpenSpec.upto Rows.basisNewsSpec).preRow enc Tryz.prog Tryz.f6 Rows.basisNewsUptoRow.domain false Rows.basisNewsUptoRow.laid) (((Rows.OpenSpec.upto Rows.basisNewsSpec).at F).post enc Tryz.prog Tryz.f6 false true false false):=by
 obtain⟨places,hx⟩:=reads os enc
 refine returnsInHanded_of_row (C:=Tryz.checked) (s:=Rows.OpenSpec.upto Rows.basisNewsSpec) Tryzown started zk Tryz.func6
  (witness_row_at (enc := enc) (C := Tryz.checked) false (laidWorld os) #[.slice none 0 0] rfl zk zk zk
   (OpenSpec.preRow_of_cond 8 hx zk (λk hk=>by cases hk;kernel_rfl) zk (laid_met os))) ?_
 intro W base args ds gs before hval hW _ hcond _ hL _ _
 exact contract H enc W base args ds gs before hval hW (hcond _ rfl) hL
theorem said:Rows.BasisNewsUptoSaid:=
 OpenClaim.holds_of_cond 6 Tryz.f6 rfl rfl rfl rfl rfl rfl rfl ⟨rfl,rfl,rfl,rfl,rfl⟩ rfl rfl rfl rfl rfl zk Tryz.func6 zk
  (of_decide_eq_true zk) (by unfold Func.isWrapper;first | (rw[if_pos (by decide+kernel)];kernel_rfl) | (rw[if_neg (by decide+kernel)];exact⟨rfl,rfl⟩))
  (λos started H enc _ F=>by rw[OpenClaim.pre_eq_preRow];exact lifted os started H enc F)
theorem plain(f:FuncId)(fn:Func)(hf:Tryz.pinned.checked.prog.funcNamed "actuary/actuarylaw14.BasisNews" =some f)(hfn:Tryz.pinned.checked.prog.funcs[f]?=some fn):
  true=Tryz.pinned.checked.prog.looks []/\∀(j:Nat) t,fn.params[j]?=some t->Tryz.pinned.checked.prog.wantsStandIn t=false:=by
 obtain rfl:f=6:=Option.some.inj ((show Tryz.prog.funcNamed "actuary/actuarylaw14.BasisNews" =some 6 by kernel_rfl).symm.trans hf) |>.symm
 obtain rfl:fn=Tryz.f6:=(Option.some.inj (Tryz.func6.symm.trans hfn)).symm
 refine⟨by kernel_rfl,λj t ht=>?_⟩
 rw[Tryz.params6] at ht
 have hm:=Array.mem_of_getElem? ht
 simp only[List.mem_toArray,List.mem_cons,List.not_mem_nil,or_false] at hm
 rcases hm with rfl
 ·exact(show Tryz.prog.wantsStandIn 22=false by kernel_rfl)
theorem proved:Rows.BasisNewsUptoCardSaid:=
 Claim7.holds_tied_plain_at .later [] _ _ _ _ said (λ_ h=>by cases h) zk (λ_ h=>by cases h) basisNewsUpto_row_tie rfl ⟨rfl,rfl⟩ zk rfl plain zk
#print axioms proved
end Go.Proofs.YtgighdoacajmfaaGreatDoor.basisNews
