/- TabSees: for all small problems, picks and costs: what the columns of a basis have, what the rows are worth, and the prices, are what the document says, by determinants. -/
import Derived.Test.YtjhfkgpjcdbjaaaGreatDoorQ7
set_option maxRecDepth 100000
namespace Go.Proofs.YtjhfkgpjcdbjaaaGreatDoor.tabSees
open Go.ChangeShapes Go.WideShapes Go.ChangeAt Go.RowKit
theorem et:Tryz.prog.globalNamed "errors.errorType" =some 0:=by kernel_rfl
theorem rt:(Tryz.prog.cutTypes.find? (·.1== "internal/reflectlite.rtype")).map (·.2)=some 180:=by kernel_rfl
theorem sizeT:Tryz.prog.types.size=275:=by kernel_rfl
theorem oneRow:((List.range 275).filter λt=>Tryz.prog.rowNamed t [101,114,114,111,114])=[45]:=by kernel_rfl
theorem handle_of_laid{W:World}(h:laidMetH Tryz.prog Rows.tabSeesRow.laid W):W.cell? ⟨0,0,none⟩=some (.iface 180 (.agg #[.pointer (some ⟨1,45,none⟩)])):=by
 have h':laidMet Tryz.prog [] W/\handlesMet Tryz.prog Rows.tabSeesRow.laid W:=h
 obtain⟨name,u,ty,e1,e2,e3,e4,e5⟩:=h'.2 _ (List.mem_singleton.2 rfl)
 have en:name=[101,114,114,111,114]:=(Option.some.inj e1).symm
 subst en
 obtain rfl:=Option.some.inj (rt.symm.trans e2)
 have hm:ty∈(List.range 275).filter λt=>Tryz.prog.rowNamed t [101,114,114,111,114]:=List.mem_filter.2 ⟨List.mem_range.2 (by rw[←sizeT];exact e3),e4⟩
 rw[oneRow] at hm
 obtain rfl:=List.mem_singleton.1 hm
 have hh:typeHandle Tryz.prog 45=.pointer (some ⟨1,45,none⟩):=by kernel_rfl
 rw[hh] at e5
 simpa using World.var?_cell et e5 0
theorem gl_of_laid{W:World}(h:laidMetH Tryz.prog Rows.tabSeesRow.laid W):Gl W:=λv e=>by
 obtain rfl:=Option.some.inj e
 have hc:=handle_of_laid h
 refine⟨?_,hc⟩
 rcases Nat.eq_zero_or_pos W.heap.size with h0 | h0
 ·simp[World.cell?,h0] at hc
 ·exact h0
noncomputable def laidWorld (os:Os):World:=
 let w0:=World.holding Tryz.prog os ⟨#[],#[],[]⟩
 { w0 with heap := w0.heap.modify 0 λ
   | .cells _ t frozen=>.cells #[.iface 180 (.agg #[.pointer (some ⟨1,45,none⟩)])] t frozen
   | o=>o}
theorem contract(H:Type)(enc:TypeId×Value->H)(W:World)(base:Nat)(args:Array Value)(ds gs:List (DataW H))(before:List MemPlace)
  (hval0:∀(j:Nat) t v,Tryz.f5.params[j]?=some t->args[j]?=some v->Value.okWide Tryz.prog W .any base t v)
  (hW:DataW.Whole enc Tryz.prog Tryz.f5.params.toList Rows.tabSeesSpec.vars false W args.toList ds gs before)(hL:laidMetH Tryz.prog Rows.tabSeesRow.laid W):
  Calls Tryz.prog 5 args W λe W'=>∃v,e=.returned v/\Rows.tabSeesSpec.post enc Tryz.prog Tryz.f5 false true false false W args v W':=by
 have hval:∀(j:Nat) t v,Tryz.f5.params[j]?=some t->args[j]?=some v->Value.okWide Tryz.prog W .any base t v:=hval0
 have hW0:=hW
 obtain⟨p,q,hA0,hV,rfl,hfz,hnd⟩:=hW
 have hA:DataW.TrodAll enc Tryz.prog W 0 (λ_=>true) true Tryz.f5.params.toList args.toList ds p:=hA0
 rw[Tryz.params5] at hA hval
 obtain⟨v0,vs0,d0,ds0,p0,q0,hargs,rfl,rfl,h0,r0⟩:=trodAll_cons hA
 obtain⟨v1,vs1,d1,ds1,p1,q1,rfl,rfl,rfl,h1,r1⟩:=trodAll_cons r0
 obtain⟨v2,vs2,d2,ds2,p2,q2,rfl,rfl,rfl,h2,r2⟩:=trodAll_cons r1
 obtain⟨rfl,rfl,rfl⟩:=trodAll_nil r2
 obtain rfl:args=#[v0,v1,v2]:=by cases args;simp_all
 obtain⟨rfl,rfl⟩:=trodVars_none hV
 obtain⟨t0,R0⟩:=top_small (hval 0 26 v0 rfl rfl) h0
 obtain⟨n1,t1,R1,w1⟩:=top_bytes (hval 1 63 v1 rfl rfl) h1
 obtain⟨n2,t2,R2⟩:=top_i8s (hval 2 82 v2 rfl rfl) h2
 refine(CallOK.law (vals:=[v0,v1,v2]) (sTabSees (cz:=t0.1) (cs:=t0.2.1) (lr:=t0.2.2.1) (R:=t0.2.2.2) (lp:=n1) (pk:=t1) (lc:=n2) (co:=t2) w1) ⟨R0,R1,R2,trivial⟩ (gl_of_laid hL)).mono λe W' ⟨v,he,hb,hv⟩=>?_
 subst he
 subst hv
 exact⟨_,rfl,law_post (P:=Tryz.prog) TryzlaidOut (by rw[Tryz.params5];intro t ht;simp only[List.mem_cons,List.not_mem_nil,or_false] at ht;rcases ht with rfl | rfl | rfl<;>exact⟨by kernel_rfl,of_decide_eq_true zk⟩) rfl zk Tryz.underlying4 hW0 rfl rfl rfl hb⟩
theorem laid_met(os:Os):laidMetH Tryz.prog Rows.tabSeesRow.laid ((laidWorld os).forCall (λ_ _=>0) ⟨#[],#[.agg #[.int .u8 0,.int .i8 0,.int .i8 0,.int .i8 0,.slice none 0 0],.slice none 0 0,.slice none 0 0],[]⟩).memory:=
 laidMetH_of_parts (laidMet_nil _ _) zk
theorem lifted(os:Os)(started:os.Started)(H:Type)(enc:TypeId×Value->H):
  ReturnsInHanded {} Tryz.checked os 5 .any (λw args=>(Rows.tabSeesSpec.pre enc Tryz.prog Tryz.f5 Rows.tabSeesRow.domain false w args/\laidMetH Tryz.prog Rows.tabSeesRow.laid w)/\sizedMet enc Tryz.prog Tryz.f5 (OpenSpec.ofChange Rows.tabSeesSpec) false w args) (Rows.tabSeesSpec.post enc Tryz.prog Tryz.f5 false true false false):=by
 refine returnsInHanded_of_change_and (C:=Tryz.checked) (X:=λw _=>laidMetH Tryz.prog Rows.tabSeesRow.laid w) (λ_ _ _ hh h=>h.of_heap hh) Tryzown started zk Tryz.func5
  (ChangeSpec.witness_at (enc:=enc) (C:=Tryz.checked) (os:=os) (X:=λw _=>laidMetH Tryz.prog Rows.tabSeesRow.laid w) false (laidWorld os) #[.agg #[.int .u8 0,.int .i8 0,.int .i8 0,.int .i8 0,.slice none 0 0],.slice none 0 0,.slice none 0 0] 8 rfl zk zk zk zk zk (laid_met os)) ?_
 intro W base args ds gs before hval hW _ _ hL _
 exact contract H enc W base args ds gs before hval hW hL
theorem said:Rows.TabSeesSaid:=
 OpenClaim.holds_of_wide 5 Tryz.f5 rfl rfl rfl rfl rfl rfl rfl ⟨rfl,rfl,rfl,rfl,rfl⟩ rfl rfl rfl rfl rfl zk Tryz.func5 zk
  (of_decide_eq_true zk) (by unfold Func.isWrapper;first | (rw[if_pos (by decide+kernel)];kernel_rfl) | (rw[if_neg (by decide+kernel)];exact⟨rfl,rfl⟩))
  (λos started H enc _=>lifted os started H enc)
theorem plain(f:FuncId)(fn:Func)(hf:Tryz.pinned.checked.prog.funcNamed "actuary/actuarylaw17.TabSees" =some f)(hfn:Tryz.pinned.checked.prog.funcs[f]?=some fn):
  true=Tryz.pinned.checked.prog.looks []/\∀(j:Nat) t,fn.params[j]?=some t->Tryz.pinned.checked.prog.wantsStandIn t=false:=by
 obtain rfl:f=5:=Option.some.inj ((show Tryz.prog.funcNamed "actuary/actuarylaw17.TabSees" =some 5 by kernel_rfl).symm.trans hf) |>.symm
 obtain rfl:fn=Tryz.f5:=(Option.some.inj (Tryz.func5.symm.trans hfn)).symm
 refine⟨by kernel_rfl,λj t ht=>?_⟩
 rw[Tryz.params5] at ht
 have hm:=Array.mem_of_getElem? ht
 simp only[List.mem_toArray,List.mem_cons,List.not_mem_nil,or_false] at hm
 rcases hm with rfl | rfl | rfl
 ·exact(show Tryz.prog.wantsStandIn 26=false by kernel_rfl)
 ·exact(show Tryz.prog.wantsStandIn 63=false by kernel_rfl)
 ·exact(show Tryz.prog.wantsStandIn 82=false by kernel_rfl)
theorem proved:Rows.TabSeesCardSaid:=
 Claim7.holds_tied_plain_at .later [] _ _ _ _ said (λ_ h=>by cases h) zk (λ_ h=>by cases h) tabSees_row_tie rfl ⟨rfl,rfl⟩ zk rfl plain zk
#print axioms proved
end Go.Proofs.YtjhfkgpjcdbjaaaGreatDoor.tabSees
