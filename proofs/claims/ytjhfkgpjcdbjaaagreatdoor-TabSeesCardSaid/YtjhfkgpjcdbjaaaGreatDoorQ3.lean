/- The parts SyP, Nadd, Nsub, Nshl, Nshr, Con, School, ByWord. -/
import Derived.Test.YtjhfkgpjcdbjaaaGreatDoorQ2
set_option maxRecDepth 100000
namespace Go.Proofs.YtjhfkgpjcdbjaaaGreatDoor
open Go.RowKit
section
variable {P:Program} {o:Oper} {ρ:Operand->Value} {M F:Nat->Prop} {w0 w w':World} {own:Nat->Hl} {η:Eta} {x y:Operand} {a b:SV}
def bldL (P:Program) (fs:Array Field) (a:SV):List (Nat×SV)->Option SV
  | []=>some a
  | (i, b) :: r => match fs[i]? with
    | none=>none
    | some f => match tyNK P f.type with
      | none=>none
      | some (n, kk) => if b.solid = true /\ b.sz = n /\ b.kind = some kk then (match SV.upd n kk b a f.offset with
        | some a'=>bldL P fs a' r
        | none=>none) else none
def buildR (P:Program) (T:TypeId) (ps:List (Nat×SV)):Res:=match P.underlying T,P.info? T with
  | some (.struct fs), some i => match i.zero with
    | some (.agg cs) => if cs.all (·.oneCell') = true /\ fs.toList.all (λf => (P.info? f.type).isSome) = true then (match bldL P fs (.ex (.agg cs)) ps with
      | some a=>vl a []
      | none=>bad) else bad
    | _=>bad
  | _,_=>bad
theorem mapM_get{α β:Type}{g:α->Option β}:∀(l:List α) (r:List β),l.mapM g=some r->∀(i:Nat) (a:α),l[i]?=some a->∃b,g a=some b/\r[i]?=some b
 | [],r,h,i,a,ha=>by simp at ha
 | x::l,r,h,i,a,ha=>by
  rw[List.mapM_cons] at h
  cases hx:g x with
  | none=>rw[hx] at h;cases h
  | some y=>
   cases hl:l.mapM g with
   | none=>rw[hx,hl] at h;cases h
   | some r'=>
    rw[hx,hl] at h
    obtain rfl:=Option.some.inj h
    cases i with
    | zero=>simp at ha;subst ha;exact⟨y,hx,rfl⟩
    | succ i=>exact mapM_get l r' hl i a (by simpa using ha)
theorem mapM_some{α β:Type}{g:α->Option β}:∀(l:List α),(∀a∈l,(g a).isSome=true)->∃r,l.mapM g=some r
 | [],_=>⟨[],rfl⟩
 | x::l,h=>by
  obtain⟨y,hy⟩:=Option.isSome_iff_exists.1 (h x (by simp))
  obtain⟨r,hr⟩:=mapM_some l λa ha=>h a (by simp[ha])
  exact⟨y::r,by rw[List.mapM_cons,hy,hr];rfl⟩
theorem bldL_ok [Fz]{A:Nat->Prop}{fs:Array Field}{places:List (Nat×Nat)}(hp:fs.toList.mapM (λf=>(P.info? f.type).map λi=>(f.offset,i.size))=some places):∀(ps:List (Nat×SV)) (vs:List (Nat×Value)) (a c:SV) (cells:Array Value),ps.map (·.1)=vs.map (·.1)->(∀(i:Nat) (p:Nat×SV) (q:Nat×Value),ps[i]?=some p->vs[i]?=some q->p.2.R η A w q.2)->a.solid=true->a.kind=some true->a.R η A w (.agg cells)->bldL P fs a ps=some c->
  ∃cells',Instr.fill (places.toArray[·]?) cells vs=some cells'/\c.R η A w (.agg cells')
 | [],vs,a,c,cells,hk,_,_,_,hR,h=>by
  cases vs with
  | cons=>simp at hk
  | nil=>
   obtain rfl:=Option.some.inj h
   exact⟨cells,rfl,hR⟩
 | (i,b)::ps,vs,a,c,cells,hk,hv,h1,h2,hR,h=>by
  cases vs with
  | nil=>simp at hk
  | cons q vs=>
   obtain⟨i',v⟩:=q
   simp only[List.map_cons,List.cons.injEq] at hk
   obtain⟨rfl,hk⟩:=hk
   unfold bldL at h
   split at h
   ·cases h
   ·rename_i f hf
    split at h
    ·cases h
    ·rename_i n kk hT
     split at h
     ·rename_i hb
      obtain⟨b1,b2,b3⟩:=hb
      split at h
      ·rename_i a' hu
       have hbv:=hv 0 _ _ rfl rfl
       obtain⟨v',p1,p2,p3,p4,p5,p6⟩:=upd_ok b1 b3 b2 hbv h1 h2 hR hu
       have hsv':=(SV.shape a' v' p2 p1).1 true p3
       obtain⟨cs',rfl⟩:=hsv'.2.2.1 rfl
       have hsb:=b2▸(SV.shape b v b1 hbv).1 kk b3
       obtain⟨d,inf,_,hi,hz,_⟩:=tyNK_spec hT
       obtain⟨pl,e1,e2⟩:=mapM_get _ _ hp i f (by rw[Array.getElem?_toList];exact hf)
       rw[hi] at e1
       obtain rfl:=Option.some.inj e1
       obtain⟨cells',g1,g2⟩:=bldL_ok hp ps vs a' c cs' hk (λj p q hp hq=>hv (j+1) p q (by simpa using hp) (by simpa using hq)) p2 p3 p1 h
       refine⟨cells',?_,g2⟩
       have hfit:f.offset+v.cells.size<=cells.size:=by
        have h1:=hsb.1
        have:(Value.agg cells).cells.toList.length=cells.size:=by simp[Value.cells]
        rw[this] at p6
        omega
       have hsz:v.cells.size=inf.size:=by rw[hsb.1,hz]
       unfold Instr.fill
       simp only[List.getElem?_toArray,e2]
       rw[if_neg (by simp[hsz];rw[←hsz];omega)]
       have hff:=fill_fold hfit
       have:v.cells.zipIdx.foldl (λcs (c,j)=>cs.setIfInBounds (f.offset+j) c) cells=cs':=by
        rw[←Array.toList_inj,hff,hsb.1]
        exact p5.symm
       rw[this]
       simpa only[List.getElem?_toArray] using g1
      ·cases h
     ·cases h
theorem snd_build [Fz]{T:TypeId}{ps:Array (Nat×Operand)}{xs:List (Nat×SV)}(H:Hp M F w0 own η w)(h:o.op=.build T ps)(hk:xs.map (·.1)=ps.toList.map (·.1))(hx:∀(i:Nat) (p:Nat×Operand) (q:Nat×SV),ps.toList[i]?=some p->xs[i]?=some q->q.2.R η (Av F own η) w (ρ p.2)){r:Res}(hr:buildR P T xs=r)(hs:conj r.side):Snd P o ρ M F w0 own η w r:=by
 unfold buildR at hr
 split at hr
 ·rename_i fs i hu hi
  split at hr
  ·rename_i cs hz
   split at hr
   ·rename_i hc
    split at hr
    ·rename_i a ha
     subst hr
     obtain⟨places,hp⟩:=mapM_some (g:=λf=>(P.info? f.type).map λi=>(f.offset,i.size)) fs.toList λf hf=>by
      have:=List.all_eq_true.1 hc.2 f hf
      obtain⟨i,e⟩:=Option.isSome_iff_exists.1 this
      simp[e]
     obtain⟨cells',g1,g2⟩:=bldL_ok (η:=η) (A:=Av F own η) (w:=w) hp xs (ps.toList.map λp=>(p.1,ρ p.2)) (.ex (.agg cs)) a cs (by rw[hk];simp) (λi p q hp hq=>by
      rw[List.getElem?_map] at hq
      obtain⟨p',hp',rfl⟩:=Option.map_eq_some_iff.1 hq
      exact hx i p' p hp' hp) hc.1 rfl rfl ha
     have hb:P.built T (ps.toList.map λp=>(p.1,ρ p.2))=some cells':=by
      unfold Program.built
      rw[hi,hu]
      simp only[hz,hp]
      exact g1
     refine zR H (v:=.agg cells') ?_ g2
     unfold execOp
     rw[h]
     have:=run_build (P:=P) w T (ps.map λ(i,x)=>(i,ρ x)) cells' (by rw[←hb];congr 1;simp)
     simp only[Sem.run_bind,this];rfl
    ·subst hr;exact hs.elim
   ·subst hr;exact hs.elim
  ·subst hr;exact hs.elim
 ·subst hr;exact hs.elim
def sliR (P:Program) (T:TypeId) (a:SV) (lo hi:Option SV) (h:Hint):Res:=match elemOf P T,a,h with
  | some (_, s), .sl s' E n, .kk l r => if s = s' then
      match lo,hi with
      | none,some (.ex (.int _ z))=>vl (.sl s E r) [z=((r:Nat):Int),r<=n]
      | some (.ex (.int .i64 y)),none=>vl (.sl s (λi=>E (l+i)) (n-l)) [y=((l:Nat):Int),l<=n]
      | some (.ex (.int .i64 y)),some (.ex (.int .i64 z))=>vl (.sl s (λi=>E (l+i)) (r-l)) [y=((l:Nat):Int),z=((r:Nat):Int),l<=r,r<=n]
      | _,_=>bad
    else bad
  | _,_,_=>bad
theorem elem_eq{T e:TypeId}(h:P.underlying T=some (.slice e)):P.elem T=e:=by
 unfold Program.elem
 rw[h]
theorem part_sl [Fz]{A:Nat->Prop}{A0:Option Addr}{s n c l r:Nat}{E:Nat->SV}(h1:Nilled A0 n c)(h2:n<=c)(h3:c<=maxLen)(k:∀i,i<n->∃g o,A0=some ⟨g,o,none⟩/\¬A g/\g<w.heap.size/\∃e:Value,(e.cells.size=s/\One e)/\(E i).R η A w e/\∀j u,e.cells[j]?=some u->w.cell? ⟨g,(o+s*i)+j,none⟩=some u)(hl:l<=r)(hr:r<=n):
  (SV.sl s (λi=>E (l+i)) (r-l)).R η A w (sliced A0 l r c s):=by
 refine⟨_,c-l,rfl,λe=>?_,by omega,by omega,λi hi=>?_⟩
 ·split at e
  ·omega
  ·cases A0 with
   | none=>have:=h1 rfl;omega
   | some a=>cases e
 ·obtain⟨g,o,ea,q1,q2,e0,q3,q4,q5⟩:=k (l+i) zo
  refine⟨g,o+s*l,?_,q1,q2,e0,q3,q4,λj u hj=>?_⟩
  ·rw[if_neg zo,ea]
   simp[add_plain,Nat.mul_comm]
  ·have:=q5 j u hj
   rw[Nat.mul_add,←Nat.add_assoc] at this
   exact this
theorem snd_sli [Fz]{T:TypeId}{xl xh:Option Operand}{lo hi:Option SV}{hh:Hint}(H:Hp M F w0 own η w)(h:o.op=.slice T x xl xh none)(hx:a.R η (Av F own η) w (ρ x))(hl:∀p,xl=some p->∃c,lo=some c/\c.R η (Av F own η) w (ρ p))(hln:xl=none->lo=none)(hhi:∀p,xh=some p->∃c,hi=some c/\c.R η (Av F own η) w (ρ p))(hhn:xh=none->hi=none){r:Res}(hr:sliR P T a lo hi hh=r)(hs:conj r.side):Snd P o ρ M F w0 own η w r:=by
 unfold sliR at hr
 split at hr
 ·rename_i e s s' E n l r' hT
  obtain⟨hu,i0,hi0,hz0⟩:=xS hT
  have hel:=elem_eq hu
  have hu':P.underlying T=some (.slice (P.elem T)):=by rw[hel];exact hu
  have hsz:(sizeOf (P.elem T)).run P w=.ok s w:=by rw[hel];simp[sizeOf,typeInfo,hi0,hz0]
  split at hr
  ·rename_i hes
   subst hes
   obtain⟨A0,c,ev,h1,h2,h3,k⟩:=hx
   split at hr
   ·rename_i kd z
    subst hr
    obtain⟨rfl,hrn⟩:=hs
    cases xl with
    | some p=>obtain⟨c,e,_⟩:=hl p rfl;cases e
    | none=>
     cases xh with
     | none=>cases hhn rfl
     | some p=>
      obtain⟨c',e,hR⟩:=hhi p rfl
      obtain rfl:=Option.some.inj e
      have hp:ρ p=.int kd ((r':Nat):Int):=hR
      have hrn':r'<=n:=hrn
      refine zR H (v:=sliced A0 0 r' c s) ?_ ?_
      ·unfold execOp
       rw[h]
       simp only[ev,hp,Option.map_some,Option.map_none,Sem.run_bind,run_sliceAt_slice w _ _ _ _ _ hu']
       rw[run_slice_h w _ _ _ _ hu' _ _ zo zo,hsz]
       simp
      ·have:=part_sl (l:=0) (r:=r') h1 h2 h3 k (Nat.zero_le _) hrn'
       simpa using this
   ·rename_i yy
    subst hr
    obtain⟨rfl,hln'⟩:=hs
    have hln':l<=n:=hln'
    cases xh with
    | some p=>obtain⟨c,e,_⟩:=hhi p rfl;cases e
    | none=>
     cases xl with
     | none=>cases hln rfl
     | some p=>
      obtain⟨c',e,hR⟩:=hl p rfl
      obtain rfl:=Option.some.inj e
      have hp:ρ p=.int .i64 ((l:Nat):Int):=hR
      refine zR H (v:=sliced A0 l n c s) ?_ (part_sl h1 h2 h3 k hln' (Nat.le_refl _))
      unfold execOp
      rw[h]
      simp only[ev,hp,Option.map_some,Option.map_none,Sem.run_bind,run_sliceAt_slice w _ _ _ _ _ hu']
      rw[run_slice_l w _ _ _ _ hu' _ _ zo zo,hsz]
      simp
   ·rename_i yy z
    subst hr
    obtain⟨rfl,rfl,hlr,hrn⟩:=hs
    have hrn:r'<=n:=hrn
    cases xh with
    | none=>cases hhn rfl
    | some p2=>
     cases xl with
     | none=>cases hln rfl
     | some p=>
      obtain⟨c',e,hR⟩:=hl p rfl
      obtain rfl:=Option.some.inj e
      obtain⟨c2,e,hR2⟩:=hhi p2 rfl
      obtain rfl:=Option.some.inj e
      have hp:ρ p=.int .i64 ((l:Nat):Int):=hR
      have hp2:ρ p2=.int .i64 ((r':Nat):Int):=hR2
      refine zR H (v:=sliced A0 l r' c s) ?_ (part_sl h1 h2 h3 k hlr hrn)
      unfold execOp
      rw[h]
      simp only[ev,hp,hp2,Option.map_some,Option.map_none,Sem.run_bind,run_sliceAt_slice w _ _ _ _ _ hu']
      rw[run_slice_lh w _ _ _ _ hu' _ _ _ _ zo zo zo,hsz]
      simp
   ·subst hr;exact hs.elim
  ·subst hr;exact hs.elim
 ·subst hr;exact hs.elim
def sliO [Fz] (P:Program) (T:TypeId) (a:SV) (lo hi:Option SV) (own:Nat->Hl) (nx:Nat) (h:Hint):Res:=match a with
  | .own k i => match elemOf P T, lo, hi, h with
    | some (_, s), none, some (.ex (.int _ z)), .kk _ r => match (own k).gs i with
      | (some (.row e' s' E n),sd)=>if s'=s then⟨.own nx 0,[z=((r:Nat):Int),r<=n]++sd,[(k,(own k).kill i),(nx,.one (.row e' s' E r))],[k]⟩ else bad
      | _=>bad
    | _,_,_,_=>bad
  | a=>sliR P T a lo hi h
theorem snd_sliO [Fz]{T:TypeId}{xl xh:Option Operand}{lo hi:Option SV}{hh:Hint}{nx:Nat}{own':Nat->Hl}(H:Hp M F w0 own η w)(h:o.op=.slice T x xl xh none)(hx:a.R η (Av F own η) w (ρ x))(hl:∀p,xl=some p->∃c,lo=some c/\c.R η (Av F own η) w (ρ p))(hln:xl=none->lo=none)(hhi:∀p,xh=some p->∃c,hi=some c/\c.R η (Av F own η) w (ρ p))(hhn:xh=none->hi=none){r:Res}(hr:sliO P T a lo hi own' nx hh=r)(ho:∀k∈r.rd,own k=own' k)(hk:∀p∈r.new,nx<=p.1->own p.1=.unborn)(hs:conj r.side):Snd P o ρ M F w0 own η w r:=by
 unfold sliO at hr
 split at hr
 ·rename_i k i
  split at hr
  ·rename_i e0 s kd z l r' hT
   obtain⟨hu,i0,hi0,hz0⟩:=xS hT
   have hel:=elem_eq hu
   have hu':P.underlying T=some (.slice (P.elem T)):=by rw[hel];exact hu
   have hsz:(sizeOf (P.elem T)).run P w=.ok s w:=by rw[hel];simp[sizeOf,typeInfo,hi0,hz0]
   split at hr
   ·rename_i e' s' E n sd hob
    split at hr
    ·rename_i hes
     subst hes
     subst hr
     replace hk:=hk (nx,_) (List.mem_cons_of_mem _ (List.mem_cons_self ..)) (Nat.le_refl _)
     obtain⟨hs1,hsd⟩:=zD hs
     obtain⟨hz,hrn⟩:=hs1
     have hrn:r'<=n:=hrn
     subst hz
     have hkk:own k=own' k:=ho k (by simp)
     rw[←hkk] at hob
     have hob:=xG hob hsd
     obtain⟨hd,he,hok⟩:=H.ob k i _ hob
     have hx1:=hx.1
     obtain⟨A0,c,rfl,h1,h2,hT0,h3⟩:=hok
     rw[hx1] at he
     have ex:=Option.some.inj he
     have he':η k i=some (.slice A0 n c):=by rw[hx1];exact he
     cases xl with
     | some p=>obtain⟨c,e,_⟩:=hl p rfl;cases e
     | none=>
      cases xh with
      | none=>cases hhn rfl
      | some p=>
       obtain⟨c',e,hR⟩:=hhi p rfl
       obtain rfl:=Option.some.inj e
       have hp:ρ p=.int kd ((r':Nat):Int):=hR
       have hrun:(execOp ρ o).run P w=.ok (.value (sliced A0 0 r' c s')) w:=by
        unfold execOp
        rw[h]
        simp only[ex,hp,Option.map_some,Option.map_none,Sem.run_bind,run_sliceAt_slice w _ _ _ _ _ hu']
        rw[run_slice_h w _ _ _ _ hu' _ _ zo zo,hsz]
        simp
       rcases h3 with⟨rfl,rfl,rfl⟩ | ⟨g,cs,rfl,hB,hcs,hel0⟩
       ·obtain rfl:r'=0:=by omega
        exact snd_turn (h':=.slice none 0 0) H (by simpa [sliced] using hrun) hob he' hk hkk.symm (Nat.le_refl _) (λ_ _ _=>rfl) rfl rfl rfl (λb hb=>by cases hb) λη' A' K=>⟨none,0,rfl,Nat.le_refl _,Nat.zero_le _,hT0,.inl ⟨rfl,rfl,rfl⟩⟩
       ·have e1:sliced (some ⟨g,0,none⟩) 0 r' c s'=.slice (some ⟨g,0,none⟩) r' c:=by simp[sliced,add_plain]
        rw[e1] at hrun
        refine snd_turn (h':=.slice (some ⟨g,0,none⟩) r' c) H hrun hob he' hk hkk.symm (Nat.le_refl _) (λ_ _ _=>rfl) rfl rfl rfl (λb hb=>.inl hb) λη' A' K=>?_
        refine⟨_,c,rfl,by omega,h2,hT0,.inr ⟨g,cs,rfl,hB,hcs,λt ht=>?_⟩⟩
        obtain⟨e0,a1,a2,a3⟩:=hel0 t zo
        exact⟨e0,a1,SV.keep K _ _ a2,a3⟩
    ·subst hr;exact hs.elim
   ·subst hr;exact hs.elim
  ·subst hr;exact hs.elim
 ·exact snd_sli H h hx hl hln hhi hhn hr hs
end
open Go.RowKit
def lk {α:Type} (d:α):List (Nat×α)->Nat->α
 | [],_=>d
 | (t',a)::l,t=>if t=t' then a else lk d l t
def lko {α:Type}:List (Nat×α)->Nat->Option α
 | [],_=>none
 | (t',a)::l,t=>if t=t' then some a else lko l t
structure Stt where
 fr:List (Nat×SV)
 own:List (Nat×Hl)
 nx:Nat
def Stt.ss (s:Stt):SSt:=⟨lk .any s.fr,lk .unborn s.own⟩
inductive Src where
 | id (k:Nat)
 | put (K i k2:Nat)
 | nil
 | emp
def Src.used:Src->List Nat
 | .id k=>[k]
 | .put K _ k2=>[K,k2]
 | _=>[]
def srcP:Src->Nat->Option (Nat×Nat)
 | .id k,i=>some (k,i)
 | .put K i0 k2,i=>if i=i0 then some (k2,0) else some (K,i)
 | _,_=>none
def srcEta (η:Eta):Src->Nat->Option Value
  | .nil,i=>if i=0 then some (.slice none 0 0) else none
  | s, i => match srcP s i with
    | some (k,j)=>η k j
    | none=>none
def etaC (ss:List (Nat×Src)) (η:Eta):Eta:=λk=>match lko ss k with
 | some s=>srcEta η s
 | none=>λ_=>none
def kG:List (Nat×Src)->List Nat
 | []=>[]
 | (_,s)::l=>s.used++kG l
def distinct:List Nat->Bool
 | []=>true
 | x::l=>!l.contains x&&distinct l
def exLsG [Fz] (g:Nat->Nat->List Prop):List Value->SV->List Prop
 | [],.nl=>[]
 | .slice none 0 0::cs,.cn (.own k i) l=>g k i++exLsG g cs l
 | c::cs,.cn a l=>exLe c a++exLsG g cs l
 | _,_=>[False]
def SV.hasOwn:SV->Bool
 | .cn (.own ..) _=>true
 | .cn _ l=>l.hasOwn
 | _=>false
def exLsH [Fz] (g:Nat->Nat->List Prop) (cs:List Value) (l:SV):List Prop:=if l.hasOwn=true then exLsG g cs l else exLs cs l
def SV.cle [Fz] (f:Nat->Nat->SV->List Prop) (g:Nat->Nat->List Prop):SV->SV->List Prop
 | .own k i,b=>f k i b
 | .ex (.slice none 0 0),.own k' i'=>g k' i'
 | .ex (.agg cs),.agg l=>if cs.all (·.oneCell')=true then exLsH g cs.toList l else[False]
 | .ex u,b=>exLe u b
 | _,.any=>[]
 | .nat x,.nat y=>[x=y]
 | .int x,.int y=>[x=y]
 | .rat x,.rat y=>[x=y]
 | .sl s E n,.sl s' E' n'=>if s=s' then[n=n',∀i,i<n->conj (SV.cle f g (E i) (E' i))] else[False]
 | .ep a,.ep b=>SV.cle f g a b
 | .nl,.nl=>[]
 | .cn a b,.cn a' b'=>SV.cle f g a a'++SV.cle f g b b'
 | .agg l,.agg l'=>SV.cle f g l l'
 | .opt c a,.opt c' a'=>(c=c')::SV.cle f g a a'
 | .ifc T a,.ifc T' a'=>if T=T' then SV.cle f g a a' else[False]
 | .alt c a b,.alt c' a' b'=>(c=c')::(SV.cle f g a a'++SV.cle f g b b')
 | _,_=>[False]
def ren (ss:List (Nat×Src)) (k i:Nat):SV->List Prop
  | .any=>[]
  | .own k' i' => match lko ss k' with
    | some (.id k0)=>if k0=k then[i=i'] else[False]
    | some (.put K i0 k2)=>[(k=k2/\i=0/\i'=i0)∨(k=K/\i=i'/\i'≠i0)]
    | _=>[False]
  | _=>[False]
def nilG (ss:List (Nat×Src)) (k' i':Nat):List Prop:=match lko ss k' with
 | some .nil=>[i'=0]
 | _=>[False]
def frz [Fz] (ss:List (Nat×Src)) (own:Nat->Hl) (f:Nat->Nat->SV->List Prop) (k i:Nat):SV->List Prop
  | .sl s' E' n' => if (kG ss).contains k = true then [False] else match (own k).gs i with
    | (some (.row _ s E n),sd)=>if s=s' then[n=n',∀j,j<n->conj (SV.cle f (nilG ss) (E j) (E' j))]++sd else[False]
    | _=>[False]
  | .ep c' => if (kG ss).contains k = true then [False] else match (own k).gs i with
    | (some (.var _ c _),sd)=>SV.cle f (nilG ss) c c'++sd
    | _=>[False]
  | b=>ren ss k i b
def cleA [Fz] (ss:List (Nat×Src)) (own:Nat->Hl):SV->SV->List Prop:=SV.cle (frz ss own (frz ss own (ren ss))) (nilG ss)
def obq (q:Option Nat):Option Nat->List Prop
 | none=>[]
 | some b=>[q=some b]
def OB.cle [Fz] (ss:List (Nat×Src)) (own:Nat->Hl):OB->OB->List Prop
 | .var T a q,.var T' a' q'=>if T=T' then obq q q'++cleA ss own a a' else[False]
 | .row T s E n,.row T' s' E' n'=>if T=T'/\s=s' then[n=n',∀j,j<n->conj (cleA ss own (E j) (E' j))] else[False]
 | _,_=>[False]
def hlC [Fz] (ss:List (Nat×Src)) (own:Nat->Hl) (s:Option Src) (c':Hl):List Prop:=match s,c' with
  | some (.id k), .one o' => match own k with
    | .one o=>o.cle ss own o'
    | _=>[False]
  | some (.id k), .fam n' f' => match own k with
    | .fam n f=>[n=n',∀i,i<n->conj ((f i).cle ss own (f' i))]
    | _=>[False]
  | some (.id k), .hole n' f' m' => match own k with
    | .hole n f m=>[n=n',m=m',∀i,i<n->i≠m->conj ((f i).cle ss own (f' i))]
    | _=>[False]
  | some (.put K i0 k2), .fam n' f' => match own K, own k2 with
    | .hole n f m,.one o2=>[n'=n,i0=m,m<n,conj (o2.cle ss own (f' i0)),∀i,i<n->i≠i0->conj ((f i).cle ss own (f' i))]
    | .fam n f,.one o2=>[n'=n+1,i0=n,conj (o2.cle ss own (f' n)),∀i,i<n->conj ((f i).cle ss own (f' i))]
    | _,_=>[False]
  | some .nil,.one (.row T _ _ n)=>if uT T then[False] else[n=0]
  | some .emp,.fam n _=>[n=0]
  | none,.dead=>[]
  | _,_=>[False]
def convS [Fz] (ss:List (Nat×Src)) (s:Stt):List (Nat×SV)->List Prop
 | []=>[]
 | (t,a)::l=>cleA ss (lk .unborn s.own) (lk .any s.fr t) a++convS ss s l
def convO [Fz] (ss:List (Nat×Src)) (s:Stt):List (Nat×Hl)->List Prop
 | []=>[]
 | (k,c)::l=>hlC ss (lk .unborn s.own) (lko ss k) c++convO ss s l
def convB (ss:List (Nat×Src)) (s':Stt):Bool:=distinct (kG ss)&&distinct (ss.map (·.1))&&distinct (s'.own.map (·.1))&&ss.all (λp=>(s'.own.map (·.1)).contains p.1)&&s'.own.all (λp=>decide (p.1<s'.nx))
def conv [Fz] (ss:List (Nat×Src)) (s s':Stt):List Prop:=if convB ss s'=true then convS ss s s'.fr++convO ss s s'.own else[False]
section
variable {ss:List (Nat×Src)} {η η':Eta} {A A':Nat->Prop} {w:World} {v:Value} {M F:Nat->Prop} {w0:World} {own own':Nat->Hl}
theorem exLsG_ok [Fz]{g:Nat->Nat->List Prop}(hg:∀k i,conj (g k i)->(SV.own k i).R η A w (.slice none 0 0)):∀(cs:List Value) (l:SV),(∀c∈cs,c.oneCell'=true)->conj (exLsG g cs l)->∃vs:List Value,l.R η A w (.tuple vs.toArray)/\flat vs=cs:=by
 intro cs l
 fun_induction exLsG g cs l with
 | case1=>intro _ _;exact⟨[],rfl,rfl⟩
 | case2 cs k i l ih=>
  intro hc h
  obtain⟨h1,h2⟩:=zD h
  obtain⟨vs,h3,h4⟩:=ih (λc h=>hc c (by simp[h])) h2
  exact⟨.slice none 0 0::vs,⟨_,vs,rfl,hg k i h1,h3⟩,by rw[yV,h4];rfl⟩
 | case3 c cs a l _ ih=>
  intro hc h
  obtain⟨h1,h2⟩:=zD h
  obtain⟨vs,h3,h4⟩:=ih (λc h=>hc c (by simp[h])) h2
  exact⟨c::vs,⟨c,vs,rfl,kW h1,h3⟩,by rw[yV,h4,xC (hc c (by simp))];rfl⟩
 | case4=>intro _ h;exact h.elim
theorem exLsH_ok [Fz]{g:Nat->Nat->List Prop}(hg:∀k i,conj (g k i)->(SV.own k i).R η A w (.slice none 0 0))(cs:List Value)(l:SV)(hc:∀c∈cs,c.oneCell'=true)(h:conj (exLsH g cs l)):∃vs:List Value,l.R η A w (.tuple vs.toArray)/\flat vs=cs:=by
 unfold exLsH at h
 split at h
 ·exact exLsG_ok hg cs l hc h
 ·exact exLs_ok cs l hc h
theorem SV.cle_ok [Fz]{f:Nat->Nat->SV->List Prop}{g:Nat->Nat->List Prop}(hA:∀b,b<w.heap.size->¬A b->¬A' b)(hf:∀k i b v,conj (f k i b)->(SV.own k i).R η A w v->b.R η' A' w v)(hg:∀k i,conj (g k i)->(SV.own k i).R η' A' w (.slice none 0 0)):
  ∀(a b:SV) (v:Value),conj (SV.cle f g a b)->a.R η A w v->b.R η' A' w v:=by
 intro a
 induction a with
 | any=>intro b v h _;cases b<;>first | trivial | exact h.elim
 | ex u=>
  intro b v h hv
  obtain rfl:v=u:=hv
  cases b with
  | agg l=>
   cases v with
   | agg cs=>
    have h':conj (if cs.all (·.oneCell')=true then exLsH g cs.toList l else[False]):=h
    split at h'
    ·rename_i hs
     obtain⟨vs,h1,h2⟩:=exLsH_ok (η:=η') (A:=A') (w:=w) hg cs.toList l (λc hc=>Array.all_eq_true_iff_forall_mem.1 hs c (by simpa using hc)) h'
     exact⟨vs,by rw[h2],h1⟩
    ·exact h'.elim
   | slice a n c=>cases a<;>cases n<;>cases c<;>exact kW h
   | _=>exact kW h
  | own k i=>
   cases v with
   | slice a n c=>
    cases a with
    | none=>
     cases n with
     | zero=>
      cases c with
      | zero=>exact hg k i h
      | succ c=>exact kW h
     | succ n=>cases c<;>exact kW h
    | some a=>cases n<;>cases c<;>exact kW h
   | _=>exact kW h
  | _=>
   cases v with
   | slice a n c=>cases a<;>cases n<;>cases c<;>exact kW h
   | _=>exact kW h
 | nat x=>intro b v h hv;cases b<;>first | trivial | exact h.elim | (rw[←show x=_ from h];exact hv)
 | int x=>intro b v h hv;cases b<;>first | trivial | exact h.elim | (rw[←show x=_ from h];exact hv)
 | rat x=>intro b v h hv;cases b<;>first | trivial | exact h.elim | (rw[←show x=_ from h];exact hv)
 | sl s E n ih=>
  intro b v h hv
  cases b<;>first | trivial | exact h.elim | skip
  rename_i s' E' n'
  have h':conj (if s=s' then[n=n',∀i,i<n->conj (SV.cle f g (E i) (E' i))] else[False]):=h
  split at h'
  ·rename_i e
   subst e
   obtain⟨e,h2⟩:=h'
   subst e
   obtain⟨A0,c,ev,h3,h4,h5,k⟩:=hv
   refine⟨A0,c,ev,h3,h4,h5,λi hi=>?_⟩
   obtain⟨gg,o,e1,e2,e3,e0,e4,e5,e6⟩:=k i hi
   exact⟨gg,o,e1,hA gg e3 e2,e3,e0,e4,ih i _ _ (h2 i hi) e5,e6⟩
  ·exact h'.elim
 | ep a ih=>
  intro b v h hv
  cases b<;>first | trivial | exact h.elim | skip
  obtain⟨gg,o,e1,e2,e3,e0,e5,e6⟩:=hv
  exact⟨gg,o,e1,hA gg e3 e2,e3,e0,ih _ _ h e5,e6⟩
 | own k i=>intro b v h hv;exact hf k i b v h hv
 | ref k i s j off=>
  intro b v h hv
  cases b<;>first | trivial | exact h.elim
 | nl=>intro b v h hv;cases b<;>first | trivial | exact h.elim | exact hv
 | cn a b iha ihb=>
  intro b v h hv
  cases b<;>first | trivial | exact h.elim | skip
  obtain⟨h1,h2⟩:=zD h
  obtain⟨x,xs,e,e1,e2⟩:=hv
  exact⟨x,xs,e,iha _ _ h1 e1,ihb _ _ h2 e2⟩
 | agg l ih=>
  intro b v h hv
  cases b<;>first | trivial | exact h.elim | skip
  obtain⟨vs,e,e1⟩:=hv
  exact⟨vs,e,ih _ _ h e1⟩
 | opt c a ih=>
  intro b v h hv
  cases b<;>first | trivial | exact h.elim | skip
  obtain⟨h1,h2⟩:=xJ h
  subst h1
  exact⟨λhc=>ih _ _ h2 (hv.1 hc),hv.2⟩
 | ifc T a ih=>
  intro b v h hv
  cases b<;>first | trivial | exact h.elim | skip
  rename_i T' a'
  have h':conj (if T=T' then SV.cle f g a a' else[False]):=h
  split at h'
  ·rename_i e
   subst e
   obtain⟨u,e1,h1⟩:=hv
   exact⟨u,e1,ih _ _ h' h1⟩
  ·exact h'.elim
 | alt c a b iha ihb=>
  intro b v h hv
  cases b<;>first | trivial | exact h.elim | skip
  obtain⟨h1,h2⟩:=xJ h
  obtain⟨h2,h3⟩:=zD h2
  subst h1
  exact⟨λhc=>iha _ _ h2 (hv.1 hc),λhc=>ihb _ _ h3 (hv.2 hc)⟩
theorem etaC_of{k i:Nat}{s:Src}{p:Nat×Nat}(h:lko ss k=some s)(hp:srcP s i=some p):etaC ss η k i=η p.1 p.2:=by
 unfold etaC
 rw[h]
 cases s<;>simp only[srcEta,hp]<;>first | rfl | cases hp
theorem ren_ok [Fz]{k i:Nat}{b:SV}(h:conj (ren ss k i b))(hv:(SV.own k i).R η A w v):b.R (etaC ss η) A' w v:=by
 unfold ren at h
 split at h
 ·trivial
 ·rename_i k' i'
  split at h
  ·rename_i k0 hs
   split at h
   ·rename_i e
    subst e
    obtain rfl:i=i':=h
    exact⟨by rw[etaC_of hs rfl];exact hv.1,hv.2⟩
   ·exact h.elim
  ·rename_i K i0 k2 hs
   rcases(show(k=k2/\i=0/\i'=i0)∨(k=K/\i=i'/\i'≠i0) from h) with⟨rfl,rfl,rfl⟩ | ⟨rfl,rfl,e2⟩
   ·exact⟨by rw[etaC_of hs (p:=(k,0)) (by simp[srcP])];exact hv.1,hv.2⟩
   ·exact⟨by rw[etaC_of hs (p:=(k,i)) (by simp[srcP,e2])];exact hv.1,hv.2⟩
  ·exact h.elim
 ·exact h.elim
theorem nilG_ok [Fz]{k i:Nat}(h:conj (nilG ss k i)):(SV.own k i).R (etaC ss η) A' w (.slice none 0 0):=by
 unfold nilG at h
 split at h
 ·rename_i hs
  obtain rfl:i=0:=h
  refine⟨?_,rfl⟩
  unfold etaC
  rw[hs]
  rfl
 ·exact h.elim
theorem used_mem:∀(l:List (Nat×Src)) {k:Nat} {s:Src},lko l k=some s->∀x∈s.used,x∈kG l
 | (k',s')::l,k,s,h,x,hx=>by
  unfold lko at h
  split at h
  ·obtain rfl:=Option.some.inj h
   exact List.mem_append_left _ hx
  ·exact List.mem_append_right _ (used_mem l h x hx)
theorem distinct_app:∀(l m:List Nat),distinct (l++m)=true->distinct l=true/\distinct m=true/\∀x∈l,x∉m
 | [],m,h=>⟨rfl,h,λx hx=>by cases hx⟩
 | a::l,m,h=>by
  simp only[List.cons_append,distinct,Bool.and_eq_true,Bool.not_eq_true'] at h
  obtain⟨h1,h2⟩:=h
  obtain⟨i1,i2,i3⟩:=distinct_app l m h2
  have h1':a∉l++m:=by
   intro hx
   rw[←List.contains_iff_mem] at hx
   rw[hx] at h1
   cases h1
  refine⟨?_,i2,λx hx=>?_⟩
  ·simp only[distinct,Bool.and_eq_true,Bool.not_eq_true',i1,and_true]
   cases hc:l.contains a with
   | false=>rfl
   | true=>exact absurd (List.mem_append_left _ (List.contains_iff_mem.1 hc)) h1'
  ·rcases List.mem_cons.1 hx with e | hx
   ·subst e;exact λhm=>h1' (List.mem_append_right _ hm)
   ·exact i3 x hx
theorem used_apart [Fz]:∀(l:List (Nat×Src)),distinct (kG l)=true->∀{k1 k2:Nat} {s1 s2:Src},lko l k1=some s1->lko l k2=some s2->k1≠k2->∀x∈s1.used,x∉s2.used
 | [],_,_,_,_,_,h1,_,_,_,_=>by cases h1
 | (k',s')::l,hd,k1,k2,s1,s2,h1,h2,hne,x,hx=>by
  obtain⟨_,d2,d3⟩:=distinct_app s'.used (kG l) hd
  unfold lko at h1 h2
  split at h1
  ·obtain rfl:=Option.some.inj h1
   split at h2
   ·rename_i e1 e2;exact absurd (e1.trans e2.symm) hne
   ·exact λhm=>d3 x hx (used_mem l h2 x hm)
  ·split at h2
   ·obtain rfl:=Option.some.inj h2
    exact λhm=>d3 x hm (used_mem l h1 x hx)
   ·exact used_apart l d2 h1 h2 hne x hx
theorem used_self:∀(l:List (Nat×Src)),distinct (kG l)=true->∀{k:Nat} {s:Src},lko l k=some s->distinct s.used=true
 | [],_,_,_,h=>by cases h
 | (k',s')::l,hd,k,s,h=>by
  obtain⟨d1,d2,_⟩:=distinct_app s'.used (kG l) hd
  unfold lko at h
  split at h
  ·obtain rfl:=Option.some.inj h;exact d1
  ·exact used_self l d2 h
theorem srcP_used{s:Src}{i:Nat}{p:Nat×Nat}(h:srcP s i=some p):p.1∈s.used:=by
 cases s with
 | id k=>obtain rfl:=Option.some.inj h;simp[Src.used]
 | put K i0 k2=>
  have h:(if i=i0 then some (k2,0) else some (K,i))=some p:=h
  split at h<;>obtain rfl:=Option.some.inj h<;>simp[Src.used]
 | nil=>cases h
 | emp=>cases h
theorem srcP_inj{s:Src}{i j:Nat}{p:Nat×Nat}(hd:distinct s.used=true)(h1:srcP s i=some p)(h2:srcP s j=some p):i=j:=by
 cases s with
 | id k=>
  obtain rfl:=Option.some.inj h1
  have:=Option.some.inj h2
  simp at this
  exact this.symm
 | put K i0 k2=>
  have hne:K≠k2:=by
   intro e
   subst e
   simp[Src.used,distinct] at hd
  have h1:(if i=i0 then some (k2,0) else some (K,i))=some p:=h1
  have h2:(if j=i0 then some (k2,0) else some (K,j))=some p:=h2
  rw[←h1] at h2
  split at h2<;>split at h2<;>simp at h2
  ·omega
  ·exact absurd h2.1 (Ne.symm hne)
  ·exact absurd h2.1 hne
  ·exact h2.symm
 | nil=>cases h1
 | emp=>cases h1
def Stands [Fz] (ss:List (Nat×Src)) (own:Nat->Hl) (c:Option Src) (i:Nat) (o':OB):Prop:=
 (c=some .nil/\i=0/\∃T s E,o'=.row T s E 0/\¬uT T)∨∃s p o0,c=some s/\srcP s i=some p/\(own p.1).get p.2=some o0/\conj (o0.cle ss own o')
theorem hlC_ok [Fz]{c:Option Src}{c':Hl}{i:Nat}{o':OB}(h:conj (hlC ss own c c'))(hg:c'.get i=some o'):Stands ss own c i o':=by
 unfold hlC at h
 split at h
 ·rename_i k o1
  split at h
  ·rename_i o hk
   cases i with
   | succ i=>cases hg
   | zero=>
    obtain rfl:=Option.some.inj hg
    exact .inr ⟨_,(k,0),o,rfl,rfl,by rw[hk];rfl,h⟩
  ·exact h.elim
 ·rename_i k n' f'
  split at h
  ·rename_i n f hk
   obtain⟨rfl,h2⟩:=h
   rw[xK] at hg
   split at hg
   ·rename_i hi
    obtain rfl:=Option.some.inj hg
    exact .inr ⟨_,(k,i),f i,rfl,rfl,by rw[hk];rw[xK,if_pos hi],h2 i hi⟩
   ·cases hg
  ·exact h.elim
 ·rename_i k n' f' m'
  split at h
  ·rename_i n f m hk
   obtain⟨rfl,rfl,h2⟩:=h
   rw[jI] at hg
   split at hg
   ·rename_i hi
    obtain rfl:=Option.some.inj hg
    exact .inr ⟨_,(k,i),f i,rfl,rfl,by rw[hk];rw[jI,if_pos hi],h2 i hi.1 hi.2⟩
   ·cases hg
  ·exact h.elim
 ·rename_i K i0 k2 n' f'
  split at h
  ·rename_i n f m o2 hK hk2
   obtain⟨rfl,rfl,_,h2,h3⟩:=h
   rw[xK] at hg
   split at hg
   ·rename_i hi
    obtain rfl:=Option.some.inj hg
    by_cases e:i=i0
    ·subst e
     exact .inr ⟨_,(k2,0),o2,rfl,by simp[srcP],by rw[hk2];rfl,h2⟩
    ·exact .inr ⟨_,(K,i),f i,rfl,by simp[srcP,e],by rw[hK,jI,if_pos ⟨hi,e⟩],h3 i hi e⟩
   ·cases hg
  ·rename_i n f o2 hK hk2
   obtain⟨rfl,rfl,h2,h3⟩:=h
   rw[xK] at hg
   split at hg
   ·rename_i hi
    obtain rfl:=Option.some.inj hg
    by_cases e:i=i0
    ·subst e
     exact .inr ⟨_,(k2,0),o2,rfl,by simp[srcP],by rw[hk2];rfl,h2⟩
    ·exact .inr ⟨_,(K,i),f i,rfl,by simp[srcP,e],by rw[hK,xK,if_pos zo],h3 i zo⟩
   ·cases hg
  ·exact h.elim
 ·rename_i T s E n
  split at h
  ·exact h.elim
  ·rename_i hT
   obtain rfl:n=0:=h
   cases i with
   | succ i=>cases hg
   | zero=>
    obtain rfl:=Option.some.inj hg
    exact .inl ⟨rfl,rfl,T,s,E,rfl,hT⟩
 ·rename_i n f
  obtain rfl:n=0:=h
  rw[xK] at hg
  split at hg
  ·omega
  ·cases hg
 ·cases i<;>cases hg
 ·exact h.elim
theorem hlC_out [Fz]{s:Src}{c':Hl}{i:Nat}(h:conj (hlC ss own (some s) c'))(hg:c'.out i):(s=.nil->i≠0)/\∀p,srcP s i=some p->(own p.1).out p.2:=by
 unfold hlC at h
 split at h
 ·rename_i k o1 e
  obtain rfl:=Option.some.inj e
  split at h
  ·rename_i o hk
   refine⟨λe=>(by cases e),λp hp=>?_⟩
   obtain rfl:=Option.some.inj hp
   show(own k).out i
   rw[hk];exact hg
  ·exact h.elim
 ·rename_i k n' f' e
  obtain rfl:=Option.some.inj e
  split at h
  ·rename_i n f hk
   obtain⟨rfl,_⟩:=h
   refine⟨λe=>(by cases e),λp hp=>?_⟩
   obtain rfl:=Option.some.inj hp
   show(own k).out i
   rw[hk];exact hg
  ·exact h.elim
 ·rename_i k n' f' m' e
  obtain rfl:=Option.some.inj e
  split at h
  ·rename_i n f m hk
   obtain⟨rfl,rfl,_⟩:=h
   refine⟨λe=>(by cases e),λp hp=>?_⟩
   obtain rfl:=Option.some.inj hp
   show(own k).out i
   rw[hk];exact hg
  ·exact h.elim
 ·rename_i K i0 k2 n' f' e
  obtain rfl:=Option.some.inj e
  refine⟨λe=>(by cases e),λp hp=>?_⟩
  split at h
  ·rename_i n f m o2 hK hk2
   obtain⟨rfl,rfl,h1,_⟩:=h
   have hg:n'<=i:=hg
   simp only[srcP,if_neg (show i≠i0 by omega)] at hp
   obtain rfl:=Option.some.inj hp
   show(own K).out i
   rw[hK];exact hg
  ·rename_i n f o2 hK hk2
   obtain⟨rfl,rfl,_⟩:=h
   have hg:i0+1<=i:=hg
   simp only[srcP,if_neg (show i≠i0 by omega)] at hp
   obtain rfl:=Option.some.inj hp
   show(own K).out i
   rw[hK];exact Nat.le_trans (Nat.le_succ _) hg
  ·exact h.elim
 ·rename_i e
  obtain rfl:=Option.some.inj e
  exact⟨λ_=>hg,λp hp=>(by cases hp)⟩
 ·rename_i n f e
  obtain rfl:=Option.some.inj e
  exact⟨λe=>(by cases e),λp hp=>(by cases hp)⟩
 ·exact hg.elim
 ·exact h.elim
structure Based [Fz] (ss:List (Nat×Src)) (own own':Nat->Hl):Prop where
 st:∀k i o',(own' k).get i=some o'->Stands ss own (lko ss k) i o'
 un:∀k i,(own' k).out i->∀s,lko ss k=some s->(s=.nil->i≠0)/\∀p,srcP s i=some p->(own p.1).out p.2
 dis:distinct (kG ss)=true
theorem Based.av [Fz](B:Based ss own own'){b:Nat}(h:Av F own' (etaC ss η) b):F b∨∃k i o hd,(own k).get i=some o/\η k i=some hd/\hb hd=some b/\k∈kG ss:=by
 rcases h with h | ⟨k,i,o',hd,h1,h2,h3⟩
 ·exact .inl h
 ·rcases B.st k i o' h1 with⟨e,rfl,_⟩ | ⟨s,p,o0,e1,e2,e3,_⟩
  ·unfold etaC at h2
   rw[e] at h2
   obtain rfl:Value.slice none 0 0=hd:=Option.some.inj h2
   cases h3
  ·rw[etaC_of e1 e2] at h2
   exact .inr ⟨p.1,p.2,o0,hd,e3,h2,h3,used_mem ss e1 _ (srcP_used e2)⟩
theorem frz_ok [Fz]{f:Nat->Nat->SV->List Prop}(H:Hp M F w0 own η w)(B:Based ss own own')(hf:∀k i b v,conj (f k i b)->(SV.own k i).R η (Av F own η) w v->b.R (etaC ss η) (Av F own' (etaC ss η)) w v){k i:Nat}{b:SV}(h:conj (frz ss own f k i b))(hv:(SV.own k i).R η (Av F own η) w v):b.R (etaC ss η) (Av F own' (etaC ss η)) w v:=by
 have hA:∀b,b<w.heap.size->¬Av F own η b->¬Av F own' (etaC ss η) b:=λb _ h1 h2=>h1 ((B.av h2).imp id λ⟨k,i,o,hd,a1,a2,a3,_⟩=>⟨k,i,o,hd,a1,a2,a3⟩)
 have in_:∀a b v,conj (SV.cle f (nilG ss) a b)->a.R η (Av F own η) w v->b.R (etaC ss η) (Av F own' (etaC ss η)) w v:=SV.cle_ok hA hf λk i h=>nilG_ok h
 have notin:∀{o:OB} {g:Nat},(own k).get i=some o->k∉kG ss->hb v=some g->¬Av F own' (etaC ss η) g:=λ{o g} ho hk hg hx=>by
  rcases B.av hx with hx | ⟨k',i',o',hd,a1,a2,a3,a4⟩
  ·exact(H.low k i o v g ho hv.1 hg).2 hx
  ·obtain⟨rfl,_⟩:=H.apart k i o k' i' o' v hd g ho a1 hv.1 a2 hg a3
   exact hk a4
 unfold frz at h
 split at h
 ·rename_i s' E' n'
  split at h
  ·exact h.elim
  ·rename_i hu
   have hk:k∉kG ss:=λhm=>hu (List.contains_iff_mem.2 hm)
   split at h
   ·rename_i T s E n sd hob
    split at h
    ·rename_i e
     subst e
     obtain⟨h,hsd⟩:=zD h
     obtain⟨rfl,hE⟩:=h
     have hob:=xG hob hsd
     obtain⟨hd,he,hok⟩:=H.ob k i _ hob
     have hv1:=hv.1
     rw[hv1] at he
     obtain rfl:=Option.some.inj he
     obtain⟨A0,c,rfl,h1,h2,h3,h4⟩:=hok
     refine⟨A0,c,rfl,λe=>?_,h1,h2,λj hj=>?_⟩
     ·subst e
      rcases h4 with⟨_,h5,h6⟩ | ⟨g,cs,e,_⟩
      ·exact⟨h5,h6⟩
      ·cases e
     ·rcases h4 with⟨_,h5,h6⟩ | ⟨g,cs,rfl,hB,hcs,hel⟩
      ·omega
      ·obtain⟨e0,q1,q2,q3⟩:=hel j hj
       exact⟨g,0,rfl,notin hob hk rfl,hB.lt,e0,q1,in_ _ _ _ (hE j hj) q2,λz u hz=>by rw[Nat.zero_add];exact q3 z u hz⟩
    ·exact h.elim
   ·exact h.elim
 ·rename_i c'
  split at h
  ·exact h.elim
  ·rename_i hu
   have hk:k∉kG ss:=λhm=>hu (List.contains_iff_mem.2 hm)
   split at h
   ·rename_i T c sd hob
    obtain⟨h,hsd⟩:=zD h
    have hob:=xG hob hsd
    obtain⟨hd,he,hok⟩:=H.ob k i _ hob
    have hv1:=hv.1
    rw[hv1] at he
    obtain rfl:=Option.some.inj he
    obtain⟨b,u,rfl,hB,hR,hT⟩:=hok
    exact⟨b,0,rfl,notin hob hk rfl,hB.lt,u,in_ _ _ _ h hR,λz y hz=>by rw[Nat.zero_add,hB.cell];exact hz⟩
   ·exact h.elim
 ·exact ren_ok h hv
theorem cleA_ok [Fz](H:Hp M F w0 own η w)(B:Based ss own own')(a b:SV)(v:Value)(h:conj (cleA ss own a b))(hv:a.R η (Av F own η) w v):b.R (etaC ss η) (Av F own' (etaC ss η)) w v:=by
 have hA:∀b,b<w.heap.size->¬Av F own η b->¬Av F own' (etaC ss η) b:=λb _ h1 h2=>h1 ((B.av h2).imp id λ⟨k,i,o,hd,a1,a2,a3,_⟩=>⟨k,i,o,hd,a1,a2,a3⟩)
 exact SV.cle_ok hA (λk i b v h hv=>frz_ok H B (λk i b v h hv=>frz_ok H B (λk i b v h hv=>ren_ok h hv) h hv) h hv) (λk i h=>nilG_ok h) a b v h hv
theorem obq_ok{q q':Option Nat}{b:Nat}(h:conj (obq q q'))(e:q'=some b):q=some b:=by
 subst e;exact h
theorem OB.cle_ok [Fz](H:Hp M F w0 own η w)(B:Based ss own own'){o o':OB}{hd:Value}(h:conj (o.cle ss own o'))(k:o.ok η (Av F own η) w hd):o'.ok (etaC ss η) (Av F own' (etaC ss η)) w hd:=by
 unfold OB.cle at h
 split at h
 ·rename_i T a q T' a' q'
  split at h
  ·rename_i e
   subst e
   obtain⟨hq,h⟩:=zD h
   obtain⟨b,u,h1,h2,h3,h4,h5⟩:=k
   exact⟨b,u,h1,h2,cleA_ok H B _ _ _ h h3,h4,λb0 e0=>h5 b0 (obq_ok hq e0)⟩
  ·exact h.elim
 ·rename_i T s E n T' s' E' n'
  split at h
  ·rename_i e
   obtain⟨rfl,rfl⟩:=e
   obtain⟨rfl,hE⟩:=h
   obtain⟨A0,c,h1,h2,h3,h4,h5⟩:=k
   refine⟨A0,c,h1,h2,h3,h4,h5.imp id λ⟨g,cs,e1,e2,e3,e4⟩=>⟨g,cs,e1,e2,e3,λi hi=>?_⟩⟩
   obtain⟨e0,q1,q2,q3⟩:=e4 i hi
   exact⟨e0,q1,cleA_ok H B _ _ _ (hE i hi) q2,q3⟩
  ·exact h.elim
 ·exact h.elim
theorem Hp.based [Fz](H:Hp M F w0 own η w)(B:Based ss own own'):Hp M F w0 own' (etaC ss η) w:=by
 refine⟨H.mod,λk i o' hk=>?_,λk i o' hd b hk h2 h3=>?_,λk1 i1 o1 k2 i2 o2 h1 h2 b a1 a2 e1 e2 b1 b2=>?_,λk i hk=>?_,H.fl,H.gl⟩
 ·rcases B.st k i o' hk with⟨e,rfl,T,s,E,rfl,hT⟩ | ⟨s,p,o0,e1,e2,e3,e4⟩
  ·refine⟨.slice none 0 0,?_,none,0,rfl,Nat.le_refl _,Nat.zero_le _,hT,.inl ⟨rfl,rfl,rfl⟩⟩
   unfold etaC
   rw[e]
   rfl
  ·obtain⟨hd,e5,hok⟩:=H.ob p.1 p.2 o0 e3
   exact⟨hd,by rw[etaC_of e1 e2];exact e5,OB.cle_ok H B e4 hok⟩
 ·rcases B.st k i o' hk with⟨e,rfl,_⟩ | ⟨s,p,o0,e1,e2,e3,e4⟩
  ·unfold etaC at h2
   rw[e] at h2
   obtain rfl:Value.slice none 0 0=hd:=Option.some.inj h2
   cases h3
  ·rw[etaC_of e1 e2] at h2
   exact H.low p.1 p.2 o0 hd b e3 h2 h3
 ·rcases B.st k1 i1 o1 a1 with⟨e,rfl,_⟩ | ⟨s,p,o0,q1,q2,q3,q4⟩
  ·unfold etaC at e1
   rw[e] at e1
   obtain rfl:Value.slice none 0 0=h1:=Option.some.inj e1
   cases b1
  ·rcases B.st k2 i2 o2 a2 with⟨e,rfl,_⟩ | ⟨s',p',o0',r1,r2,r3,r4⟩
   ·unfold etaC at e2
    rw[e] at e2
    obtain rfl:Value.slice none 0 0=h2:=Option.some.inj e2
    cases b2
   ·rw[etaC_of q1 q2] at e1
    rw[etaC_of r1 r2] at e2
    obtain⟨x1,x2⟩:=H.apart p.1 p.2 o0 p'.1 p'.2 o0' h1 h2 b q3 r3 e1 e2 b1 b2
    have hp:p=p':=Prod.ext x1 x2
    subst hp
    by_cases e:k1=k2
    ·subst e
     rw[q1] at r1
     obtain rfl:=Option.some.inj r1
     exact⟨rfl,srcP_inj (used_self ss B.dis q1) q2 r2⟩
    ·exact absurd (srcP_used r2) (used_apart ss B.dis q1 r1 e _ (srcP_used q2))
 ·unfold etaC
  cases hl:lko ss k with
  | none=>rfl
  | some s=>
   obtain⟨a,b⟩:=B.un k i hk s hl
   show srcEta η s i=none
   cases s with
   | id k0=>exact H.born k0 i (b (k0,i) rfl)
   | put K i0 k2=>
    show(match srcP (.put K i0 k2) i with | some (k,j)=>η k j | none=>none)=none
    cases e:srcP (.put K i0 k2) i with
    | none=>rfl
    | some p=>exact H.born p.1 p.2 (b p e)
   | nil=>exact if_neg (a rfl)
   | emp=>rfl
theorem lk_mem{α:Type}{d:α}:∀(l:List (Nat×α)) (k:Nat),lk d l k=d∨(k,lk d l k)∈l
 | [],_=>.inl rfl
 | (k',a)::l,k=>by
  unfold lk
  split
  ·rename_i e;subst e;exact .inr (List.mem_cons_self ..)
  ·exact(lk_mem l k).imp id (List.mem_cons_of_mem _)
theorem convS_mem [Fz]{s:Stt}:∀(l:List (Nat×SV)),conj (convS ss s l)->∀p∈l,conj (cleA ss (lk .unborn s.own) (lk .any s.fr p.1) p.2)
 | (t,a)::l,h,p,hp=>by
  obtain⟨h1,h2⟩:=zD h
  rcases List.mem_cons.1 hp with e | hp
  ·subst e;exact h1
  ·exact convS_mem l h2 p hp
theorem convO_mem [Fz]{s:Stt}:∀(l:List (Nat×Hl)),conj (convO ss s l)->∀p∈l,conj (hlC ss (lk .unborn s.own) (lko ss p.1) p.2)
 | (t,a)::l,h,p,hp=>by
  obtain⟨h1,h2⟩:=zD h
  rcases List.mem_cons.1 hp with e | hp
  ·subst e;exact h1
  ·exact convO_mem l h2 p hp
theorem lko_mem{α:Type}:∀(l:List (Nat×α)) {k:Nat} {a:α},lko l k=some a->(k,a)∈l
 | (k',b)::l,k,a,h=>by
  unfold lko at h
  split at h
  ·rename_i e;subst e;obtain rfl:=Option.some.inj h;exact List.mem_cons_self ..
  ·exact List.mem_cons_of_mem _ (lko_mem l h)
theorem lk_key{α:Type}{d:α}:∀(l:List (Nat×α)) {k:Nat},k∈l.map (·.1)->(k,lk d l k)∈l
 | (k',b)::l,k,h=>by
  unfold lk
  split
  ·rename_i e;subst e;exact List.mem_cons_self ..
  ·rename_i e
   refine List.mem_cons_of_mem _ (lk_key l ?_)
   simp only[List.map_cons,List.mem_cons] at h
   exact h.resolve_left e
theorem conv_based [Fz]{s s':Stt}(h:conj (conv ss s s')):Based ss (lk .unborn s.own) (lk .unborn s'.own)/\(∀p∈s'.fr,conj (cleA ss (lk .unborn s.own) (lk .any s.fr p.1) p.2))/\∀k,s'.nx<=k->lk .unborn s'.own k=.unborn:=by
 unfold conv at h
 split at h
 ·rename_i hb
  obtain⟨h1,h2⟩:=zD h
  unfold convB at hb
  simp only[Bool.and_eq_true,List.all_eq_true,decide_eq_true_eq] at hb
  obtain⟨⟨⟨⟨b1,b2⟩,b3⟩,b4⟩,b5⟩:=hb
  refine⟨⟨λk i o' hk=>?_,λk i hk sr hl=>?_,b1⟩,convS_mem _ h1,λk hk=>?_⟩
  ·rcases lk_mem (d:=Hl.unborn) s'.own k with e | e
   ·rw[e] at hk;cases i<;>cases hk
   ·exact hlC_ok (convO_mem _ h2 _ e) hk
  ·have hm:=lko_mem ss hl
   have:=b4 _ hm
   have hkey:k∈s'.own.map (·.1):=List.contains_iff_mem.1 this
   have he:=lk_key (d:=Hl.unborn) s'.own hkey
   have:=convO_mem _ h2 _ he
   simp only[hl] at this
   exact hlC_out this hk
  ·rcases lk_mem (d:=Hl.unborn) s'.own k with e | e
   ·exact e
   ·have:=b5 _ e
    simp only at this
    omega
 ·exact h.elim
theorem Sat.conv [Fz]{N:Nat}{s s':Stt}{a:Act}(h:Sat M F w0 N s.ss η a w)(hc:conj (conv ss s s')):Sat M F w0 N s'.ss (etaC ss η) a w:=by
 obtain⟨B,hs,_⟩:=conv_based hc
 refine⟨h.hp.based B,λt=>?_,h.size,h.dfr⟩
 rcases lk_mem (d:=SV.any) s'.fr t with e | e
 ·show(lk .any s'.fr t).R _ _ _ _
  rw[e];trivial
 ·exact cleA_ok h.hp B _ _ _ (hs _ e) (h.sl t)
end
open Go.RowKit
def SV.nr:SV->List Prop
 | .sl .. | .ep _=>[False]
 | .cn a b=>a.nr++b.nr
 | .agg l=>l.nr
 | .opt _ a=>a.nr
 | .ifc _ a=>a.nr
 | .alt _ a b=>a.nr++b.nr
 | _=>[]
def OB.nr:OB->List Prop
 | .var _ a _=>a.nr
 | .row _ _ E n=>[∀i,i<n->conj (E i).nr]
def Hl.nr:Hl->List Prop
 | .one o=>o.nr
 | .fam n f=>[∀i,i<n->conj (f i).nr]
 | .hole ..=>[False]
 | _=>[]
def zM (nx:Nat) (l:List Hl):Nat->Hl:=λk=>if nx<=k then l.getD (k-nx) .unborn else .unborn
def yR:Nat->List Hl->List (Nat×Hl)
 | _,[]=>[]
 | nx,c::l=>(nx,c)::yR (nx+1) l
theorem newsL_up:∀(l:List Hl) (nx:Nat) (own:Nat->Hl) (k:Nat),yA own (yR nx l) k=if nx<=k/\k<nx+l.length then l.getD (k-nx) .unborn else own k
 | [],nx,own,k=>by
  rw[if_neg (by simp only[List.length_nil];omega)];rfl
 | c::l,nx,own,k=>by
  show yA (zY own nx c) (yR (nx+1) l) k=_
  rw[newsL_up l (nx+1)]
  by_cases h:nx+1<=k/\k<nx+1+l.length
  ·rw[if_pos h,if_pos (by simp only[List.length_cons];omega),show k-nx=(k-(nx+1))+1 by omega];rfl
  ·rw[if_neg h]
   unfold zY
   by_cases e:k=nx
   ·subst e
    rw[if_pos rfl,if_pos (by simp only[List.length_cons];omega),Nat.sub_self];rfl
   ·rw[if_neg e,if_neg (by simp only[List.length_cons];omega)]
def xY [Fz]:List SV->Eta->(Nat->Prop)->World->List Value->Prop
 | [],_,_,_,[]=>True
 | a::l,η,F,w,v::vs=>a.R η F w v/\xY l η F w vs
 | _,_,_,_,_=>False
structure CallOK [Fz] (P:Program) (f:FuncId) (A:List SV) (R:SV) (news:List Hl):Prop where
 cal:yJ P f
 run:∀(η0:Eta) (F:Nat->Prop) (w:World) (vals:List Value),Fl F w->xY A η0 F w vals->
  Calls P f vals.toArray w λe w'=>∃v η',e=.returned v/\Hp (λ_=>False) F w (zM 0 news) η' w'/\R.R η' (Av F (zM 0 news) η') w' v
def SV.shift (d:Nat):SV->SV
 | .own k i=>.own (d+k) i
 | .ref k i s j off=>.ref (d+k) i s j off
 | .sl s E n=>.sl s (λi=>(E i).shift d) n
 | .ep a=>.ep (a.shift d)
 | .cn a b=>.cn (a.shift d) (b.shift d)
 | .agg l=>.agg (l.shift d)
 | .opt c a=>.opt c (a.shift d)
 | .ifc T a=>.ifc T (a.shift d)
 | .alt c a b=>.alt c (a.shift d) (b.shift d)
 | a=>a
def OB.shift (d:Nat):OB->OB
 | .var T a q=>.var T (a.shift d) q
 | .row T s E n=>.row T s (λi=>(E i).shift d) n
def Hl.shift (d:Nat):Hl->Hl
 | .one o=>.one (o.shift d)
 | .fam n f=>.fam n λi=>(f i).shift d
 | .hole n f m=>.hole n (λi=>(f i).shift d) m
 | c=>c
def shEta (d:Nat) (η:Eta):Eta:=λk i=>if d<=k then η (k-d) i else none
def shOwn (d:Nat) (own:Nat->Hl):Nat->Hl:=λk=>if d<=k then(own (k-d)).shift d else .unborn
section
variable {η:Eta} {A:Nat->Prop} {M F:Nat->Prop} {w0 w:World} {own:Nat->Hl}
theorem sh_eta(d k i:Nat):shEta d η (d+k) i=η k i:=by unfold shEta;rw[if_pos zo,show d+k-d=k by omega]
theorem SV.shift_ok [Fz](d:Nat):∀(a:SV) (v:Value),a.R η A w v->(a.shift d).R (shEta d η) A w v:=by
 intro a
 induction a with
 | own k i=>intro v h;exact⟨by rw[sh_eta];exact h.1,h.2⟩
 | ref k i s j off=>
  rintro v ⟨hd,b,h1,h2,h3⟩
  exact⟨hd,b,by rw[sh_eta];exact h1,h2,h3⟩
 | sl s E n ih=>
  rintro v ⟨A0,c,e,h1,h2,h3,k⟩
  refine⟨A0,c,e,h1,h2,h3,λi hi=>?_⟩
  obtain⟨g,o,e1,e2,e3,e0,e4,e5,e6⟩:=k i hi
  exact⟨g,o,e1,e2,e3,e0,e4,ih i _ e5,e6⟩
 | ep a ih=>
  rintro v ⟨g,o,e1,e2,e3,e0,e5,e6⟩
  exact⟨g,o,e1,e2,e3,e0,ih _ e5,e6⟩
 | cn a b iha ihb=>
  rintro v ⟨x,xs,e,h1,h2⟩
  exact⟨x,xs,e,iha _ h1,ihb _ h2⟩
 | agg l ih=>
  rintro v ⟨vs,e,h1⟩
  exact⟨vs,e,ih _ h1⟩
 | opt c a ih=>
  rintro v ⟨h1,h2⟩
  exact⟨λhc=>ih _ (h1 hc),h2⟩
 | ifc T a ih=>
  rintro v ⟨u,e,h1⟩
  exact⟨u,e,ih _ h1⟩
 | alt c a b iha ihb=>
  rintro v ⟨h1,h2⟩
  exact⟨λhc=>iha _ (h1 hc),λhc=>ihb _ (h2 hc)⟩
 | _=>intro v h;exact h
theorem OB.shift_ok [Fz](d:Nat){o:OB}{h:Value}(k:o.ok η A w h):(o.shift d).ok (shEta d η) A w h:=by
 cases o with
 | var T a q=>
  obtain⟨b,v,h1,h2,h3,h4⟩:=k
  exact⟨b,v,h1,h2,SV.shift_ok d _ _ h3,h4⟩
 | row T s E n=>
  obtain⟨A0,c,h1,h2,h3,h4,h5⟩:=k
  refine⟨A0,c,h1,h2,h3,h4,h5.imp id λ⟨g,cs,e1,e2,e3,e4⟩=>⟨g,cs,e1,e2,e3,λi hi=>?_⟩⟩
  obtain⟨e0,q1,q2,q3⟩:=e4 i hi
  exact⟨e0,q1,SV.shift_ok d _ _ q2,q3⟩
theorem shift_get [Fz]{d:Nat}{c:Hl}{i:Nat}{o:OB}(h:(c.shift d).get i=some o):∃o0,c.get i=some o0/\o=o0.shift d:=by
 cases c with
 | one ob=>
  cases i with
  | zero=>exact⟨ob,rfl,(Option.some.inj h).symm⟩
  | succ i=>cases h
 | fam n f=>
  have h':(if i<n then some ((f i).shift d) else none)=some o:=by rw[←xK (f:=λi=>(f i).shift d)];exact h
  split at h'
  ·rename_i hi
   exact⟨f i,by rw[xK,if_pos hi],(Option.some.inj h').symm⟩
  ·cases h'
 | hole n f m=>
  have h':(if i<n/\i≠m then some ((f i).shift d) else none)=some o:=by rw[←jI (f:=λi=>(f i).shift d)];exact h
  split at h'
  ·rename_i hi
   exact⟨f i,by rw[jI,if_pos hi],(Option.some.inj h').symm⟩
  ·cases h'
 | unborn=>cases i<;>cases h
 | dead=>cases i<;>cases h
theorem shift_get2 [Fz]{d:Nat}{c:Hl}{i:Nat}{o:OB}(h:c.get i=some o):(c.shift d).get i=some (o.shift d):=by
 cases c with
 | one ob=>
  cases i with
  | zero=>obtain rfl:=Option.some.inj h;rfl
  | succ i=>cases h
 | fam n f=>
  rw[xK] at h
  split at h
  ·rename_i hi
   obtain rfl:=Option.some.inj h
   show(Hl.fam n λi=>(f i).shift d).get i=_
   rw[xK,if_pos hi]
  ·cases h
 | hole n f m=>
  rw[jI] at h
  split at h
  ·rename_i hi
   obtain rfl:=Option.some.inj h
   show(Hl.hole n (λi=>(f i).shift d) m).get i=_
   rw[jI,if_pos hi]
  ·cases h
 | unborn=>cases i<;>cases h
 | dead=>cases i<;>cases h
theorem Hp.shift [Fz](d:Nat)(H:Hp M F w0 own η w):Hp M F w0 (shOwn d own) (shEta d η) w/\Av F (shOwn d own) (shEta d η)=Av F own η:=by
 have hg:∀k i o,(shOwn d own k).get i=some o->∃k0 o0,k=d+k0/\(own k0).get i=some o0/\o=o0.shift d:=λk i o h=>by
  unfold shOwn at h
  split at h
  ·rename_i hk
   obtain⟨o0,h1,h2⟩:=shift_get h
   exact⟨k-d,o0,by omega,h1,h2⟩
  ·cases i<;>cases h
 have hg2:∀k i o,(own k).get i=some o->(shOwn d own (d+k)).get i=some (o.shift d):=λk i o h=>by
  unfold shOwn
  rw[if_pos zo,show d+k-d=k by omega]
  exact shift_get2 h
 have hav:Av F (shOwn d own) (shEta d η)=Av F own η:=funext λb=>propext ⟨λh=>h.imp id λ⟨k,i,o,hd,h1,h2,h3⟩=>by
  obtain⟨k0,o0,rfl,h4,_⟩:=hg k i o h1
  exact⟨k0,i,o0,hd,h4,by rw[sh_eta] at h2;exact h2,h3⟩,λh=>h.imp id λ⟨k,i,o,hd,h1,h2,h3⟩=>⟨d+k,i,_,hd,hg2 k i o h1,by rw[sh_eta];exact h2,h3⟩⟩
 refine⟨⟨H.mod,λk i o hk=>?_,λk i o hd b hk h2 h3=>?_,λk i o k' i' o' hd hd' b a1 a2 e1 e2 b1 b2=>?_,λk i hk=>?_,H.fl,H.gl⟩,hav⟩
 ·obtain⟨k0,o0,rfl,h4,rfl⟩:=hg k i o hk
  obtain⟨hd,e,hok⟩:=H.ob k0 i o0 h4
  exact⟨hd,by rw[sh_eta];exact e,by rw[hav];exact OB.shift_ok d hok⟩
 ·obtain⟨k0,o0,rfl,h4,rfl⟩:=hg k i o hk
  rw[sh_eta] at h2
  exact H.low k0 i o0 hd b h4 h2 h3
 ·obtain⟨k0,o0,rfl,h4,rfl⟩:=hg k i o a1
  obtain⟨k1,o1,rfl,h5,rfl⟩:=hg k' i' o' a2
  rw[sh_eta] at e1 e2
  obtain⟨rfl,rfl⟩:=H.apart k0 i o0 k1 i' o1 hd hd' b h4 h5 e1 e2 b1 b2
  exact⟨rfl,rfl⟩
 ·unfold shEta
  split
  ·rename_i hd
   refine H.born _ _ ?_
   unfold shOwn at hk
   rw[if_pos hd] at hk
   cases hc:own (k-d)<;>rw[hc] at hk<;>first | trivial | exact hk | exact hk.elim
  ·rfl
theorem shOwn_of [Fz](d:Nat)(l:List Hl):shOwn d (zM 0 l)=zM d (l.map (·.shift d)):=funext λk=>by
 unfold shOwn zM
 split
 ·rw[if_pos (Nat.zero_le _),Nat.sub_zero,List.getD_eq_getElem?_getD,List.getD_eq_getElem?_getD,List.getElem?_map]
  cases l[k-d]?<;>rfl
 ·rfl
end
section
variable {η η':Eta} {A A':Nat->Prop} {w w':World} {v:Value}
theorem SV.nr_ok [Fz](he:∀k i v,η k i=some v->η' k i=some v):∀(a:SV) (v:Value),conj a.nr->a.R η A w v->a.R η' A' w v:=by
 intro a
 induction a with
 | sl s E n=>intro _ h;exact h.elim
 | ep a=>intro _ h;exact h.elim
 | own k i=>intro v _ h;exact⟨he _ _ _ h.1,h.2⟩
 | ref k i s j off=>
  rintro v _ ⟨hd,b,h1,h2,h3⟩
  exact⟨hd,b,he _ _ _ h1,h2,h3⟩
 | cn a b iha ihb=>
  rintro v h ⟨x,xs,e,h1,h2⟩
  obtain⟨n1,n2⟩:=zD h
  exact⟨x,xs,e,iha _ n1 h1,ihb _ n2 h2⟩
 | agg l ih=>
  rintro v h ⟨vs,e,h1⟩
  exact⟨vs,e,ih _ h h1⟩
 | opt c a ih=>
  rintro v h h1
  exact⟨λhc=>ih _ h (h1.1 hc),h1.2⟩
 | ifc T a ih=>
  rintro v h ⟨u,e,h1⟩
  exact⟨u,e,ih _ h h1⟩
 | alt c a b iha ihb=>
  rintro v h ⟨h1,h2⟩
  obtain⟨n1,n2⟩:=zD h
  exact⟨λhc=>iha _ n1 (h1 hc),λhc=>ihb _ n2 (h2 hc)⟩
 | any=>intro _ _ _;trivial
 | _=>intro _ _ h;exact h
theorem OB.nr_ok [Fz](he:∀k i v,η k i=some v->η' k i=some v){o:OB}{h:Value}(hn:conj o.nr)(k:o.ok η A w h):o.ok η' A' w h:=by
 cases o with
 | var T a q=>
  obtain⟨b,v,h1,h2,h3,h4⟩:=k
  exact⟨b,v,h1,h2,SV.nr_ok he _ _ hn h3,h4⟩
 | row T s E n=>
  obtain⟨A0,c,h1,h2,h3,h4,h5⟩:=k
  refine⟨A0,c,h1,h2,h3,h4,h5.imp id λ⟨g,cs,e1,e2,e3,e4⟩=>⟨g,cs,e1,e2,e3,λi hi=>?_⟩⟩
  obtain⟨e0,q1,q2,q3⟩:=e4 i hi
  exact⟨e0,q1,SV.nr_ok he _ _ (hn i hi) q2,q3⟩
end
def SV.map (ρ:Nat->Nat):SV->SV
 | .own k i=>.own (ρ k) i
 | .ref k i s j off=>.ref (ρ k) i s j off
 | .sl s E n=>.sl s (λi=>(E i).map ρ) n
 | .ep a=>.ep (a.map ρ)
 | .cn a b=>.cn (a.map ρ) (b.map ρ)
 | .agg l=>.agg (l.map ρ)
 | .opt c a=>.opt c (a.map ρ)
 | .ifc T a=>.ifc T (a.map ρ)
 | .alt c a b=>.alt c (a.map ρ) (b.map ρ)
 | a=>a
def OB.map (ρ:Nat->Nat):OB->OB
 | .var T a q=>.var T (a.map ρ) q
 | .row T s E n=>.row T s (λi=>(E i).map ρ) n
def Hl.map (ρ:Nat->Nat):Hl->Hl
 | .one o=>.one (o.map ρ)
 | .fam n f=>.fam n λi=>(f i).map ρ
 | .hole n f m=>.hole n (λi=>(f i).map ρ) m
 | c=>c
theorem SV.map_R [Fz]{η:Eta}{A:Nat->Prop}{w:World}(ρ:Nat->Nat):∀(a:SV) (v:Value),(a.map ρ).R η A w v↔a.R (λk=>η (ρ k)) A w v:=by
 intro a
 induction a with
 | sl s E n ih=>
  intro v
  constructor
  ·rintro⟨A0,c,e,h1,h2,h3,k⟩
   refine⟨A0,c,e,h1,h2,h3,λi hi=>?_⟩
   obtain⟨g,o,e1,e2,e3,e0,e4,e5,e6⟩:=k i hi
   exact⟨g,o,e1,e2,e3,e0,e4,(ih i _).1 e5,e6⟩
  ·rintro⟨A0,c,e,h1,h2,h3,k⟩
   refine⟨A0,c,e,h1,h2,h3,λi hi=>?_⟩
   obtain⟨g,o,e1,e2,e3,e0,e4,e5,e6⟩:=k i hi
   exact⟨g,o,e1,e2,e3,e0,e4,(ih i _).2 e5,e6⟩
 | ep a ih=>
  intro v
  constructor
  ·rintro⟨g,o,e1,e2,e3,e0,e5,e6⟩
   exact⟨g,o,e1,e2,e3,e0,(ih _).1 e5,e6⟩
  ·rintro⟨g,o,e1,e2,e3,e0,e5,e6⟩
   exact⟨g,o,e1,e2,e3,e0,(ih _).2 e5,e6⟩
 | cn a b iha ihb=>
  intro v
  constructor
  ·rintro⟨x,xs,e,h1,h2⟩
   exact⟨x,xs,e,(iha _).1 h1,(ihb _).1 h2⟩
  ·rintro⟨x,xs,e,h1,h2⟩
   exact⟨x,xs,e,(iha _).2 h1,(ihb _).2 h2⟩
 | agg l ih=>
  intro v
  constructor
  ·rintro⟨vs,e,h1⟩
   exact⟨vs,e,(ih _).1 h1⟩
  ·rintro⟨vs,e,h1⟩
   exact⟨vs,e,(ih _).2 h1⟩
 | opt c a ih=>
  intro v
  exact⟨λh=>⟨λhc=>(ih _).1 (h.1 hc),h.2⟩,λh=>⟨λhc=>(ih _).2 (h.1 hc),h.2⟩⟩
 | ifc T a ih=>
  intro v
  exact⟨λ⟨u,e,h1⟩=>⟨u,e,(ih _).1 h1⟩,λ⟨u,e,h1⟩=>⟨u,e,(ih _).2 h1⟩⟩
 | alt c a b iha ihb=>
  intro v
  exact⟨λh=>⟨λhc=>(iha _).1 (h.1 hc),λhc=>(ihb _).1 (h.2 hc)⟩,λh=>⟨λhc=>(iha _).2 (h.1 hc),λhc=>(ihb _).2 (h.2 hc)⟩⟩
 | _=>intro v;exact Iff.rfl
theorem OB.map_ok [Fz]{η:Eta}{A:Nat->Prop}{w:World}{ρ:Nat->Nat}{o:OB}{h:Value}:(o.map ρ).ok η A w h↔o.ok (λk=>η (ρ k)) A w h:=by
 cases o with
 | var T a q=>
  constructor
  ·rintro⟨b,v,h1,h2,h3,h4⟩
   exact⟨b,v,h1,h2,(SV.map_R ρ _ _).1 h3,h4⟩
  ·rintro⟨b,v,h1,h2,h3,h4⟩
   exact⟨b,v,h1,h2,(SV.map_R ρ _ _).2 h3,h4⟩
 | row T s E n=>
  constructor
  ·rintro⟨A0,c,h1,h2,h3,h4,h5⟩
   refine⟨A0,c,h1,h2,h3,h4,h5.imp id λ⟨g,cs,e1,e2,e3,e4⟩=>⟨g,cs,e1,e2,e3,λi hi=>?_⟩⟩
   obtain⟨e0,q1,q2,q3⟩:=e4 i hi
   exact⟨e0,q1,(SV.map_R ρ _ _).1 q2,q3⟩
  ·rintro⟨A0,c,h1,h2,h3,h4,h5⟩
   refine⟨A0,c,h1,h2,h3,h4,h5.imp id λ⟨g,cs,e1,e2,e3,e4⟩=>⟨g,cs,e1,e2,e3,λi hi=>?_⟩⟩
   obtain⟨e0,q1,q2,q3⟩:=e4 i hi
   exact⟨e0,q1,(SV.map_R ρ _ _).2 q2,q3⟩
theorem map_get{ρ:Nat->Nat}{c:Hl}{i:Nat}:(c.map ρ).get i=(c.get i).map (λo:OB=>o.map ρ):=by
 cases c with
 | one ob=>cases i<;>rfl
 | fam n f=>
  show(Hl.fam n λi=>(f i).map ρ).get i=_
  have e:∀g:Nat->OB,(Hl.fam n g).get i=if i<n then some (g i) else none:=λg=>by cases i<;>rfl
  rw[e,e]
  split<;>rfl
 | hole n f m=>
  show(Hl.hole n (λi=>(f i).map ρ) m).get i=_
  have e:∀g:Nat->OB,(Hl.hole n g m).get i=if i<n/\i≠m then some (g i) else none:=λg=>by cases i<;>rfl
  rw[e,e]
  split<;>rfl
 | unborn=>cases i<;>rfl
 | dead=>cases i<;>rfl
theorem map_out{ρ:Nat->Nat}{c:Hl}{i:Nat}:(c.map ρ).out i↔c.out i:=by cases c<;>exact Iff.rfl
def rho (ids:List Nat) (nx k:Nat):Nat:=if k<ids.length then ids.getD k 0 else nx+(k-ids.length)
def rhoI (ids:List Nat) (B k:Nat):Nat:=if k<ids.length then ids.getD k 0 else B
structure CallOKm [Fz] (P:Program) (f:FuncId) (ins:List Hl) (A:List SV) (R:SV) (outs:List Hl):Prop where
 cal:yJ P f
 run:∀(η0:Eta) (M F:Nat->Prop) (w:World) (vals:List Value),Hp M F w (zM 0 ins) η0 w->xY A η0 (Av F (zM 0 ins) η0) w vals->
  Calls P f vals.toArray w λe w'=>∃v η',e=.returned v/\Hp M F w (zM 0 outs) η' w'/\R.R η' (Av F (zM 0 outs) η') w' v/\∀k,k<ins.length->∀i v,η' k i=some v->η0 k i=some v
def keptB:Hl->Hl->Bool
 | _,.dead=>true
 | .one (.var _ _ _),.one (.var _ _ _)=>true
 | _,_=>false
def keptL:List Hl->List Hl->Bool
 | [],_=>true
 | a::l,b::m=>keptB a b&&keptL l m
 | _::_,[]=>false
def keptC:Hl->Hl->List Prop
 | _,.dead=>[]
 | .one (.var _ _ _),.one (.var _ _ _)=>[]
 | .fam n _,.hole n' _ _=>[n=n']
 | _,_=>[False]
def keptCL:List Hl->List Hl->List Prop
 | [],_=>[]
 | a::l,b::m=>keptC a b++keptCL l m
 | _::_,[]=>[False]
def insEq (own:Nat->Hl) (ρ:Nat->Nat):List Nat->List Hl->List Prop
 | [],[]=>[]
 | i::is,c::cs=>(own i=c.map ρ)::insEq own ρ is cs
 | _,_=>[False]
def zipU:List Nat->List Hl->List (Nat×Hl)
 | i::is,c::cs=>(i,c)::zipU is cs
 | _,_=>[]
def dist:List Nat->Bool
 | []=>true
 | x::l=>!l.contains x&&dist l
theorem keptL_at:∀(l m:List Hl),keptL l m=true->l.length<=m.length/\∀k,k<l.length->keptB (l.getD k .unborn) (m.getD k .unborn)=true
 | [],m,_=>⟨Nat.zero_le _,λk hk=>absurd hk (Nat.not_lt_zero k)⟩
 | a::l,b::m,h=>by
  unfold keptL at h
  rw[Bool.and_eq_true] at h
  obtain⟨h1,h2⟩:=keptL_at l m h.2
  refine⟨Nat.succ_le_succ h1,λk hk=>?_⟩
  cases k with
  | zero=>exact h.1
  | succ k=>exact h2 k (Nat.lt_of_succ_lt_succ hk)
 | _::_,[],h=>by cases h
theorem keptC_out{x y:Hl}{i:Nat}(h:conj (keptC x y))(ho:y.out i):x.out i:=by
 unfold keptC at h
 split at h
 ·exact ho.elim
 ·exact ho
 ·obtain rfl:=h;exact ho
 ·exact h.elim
theorem keptCL_at:∀(l m:List Hl),conj (keptCL l m)->l.length<=m.length/\∀k,k<l.length->conj (keptC (l.getD k .unborn) (m.getD k .unborn))
 | [],m,_=>⟨Nat.zero_le _,λk hk=>absurd hk (Nat.not_lt_zero k)⟩
 | a::l,b::m,h=>by
  obtain⟨h0,h⟩:=zD (show conj (keptC a b++keptCL l m) from h)
  obtain⟨h1,h2⟩:=keptCL_at l m h
  refine⟨Nat.succ_le_succ h1,λk hk=>?_⟩
  cases k with
  | zero=>exact h0
  | succ k=>exact h2 k (Nat.lt_of_succ_lt_succ hk)
 | _::_,[],h=>h.elim
theorem insEq_at{own:Nat->Hl}{ρ:Nat->Nat}:∀(ids:List Nat) (ins:List Hl),conj (insEq own ρ ids ins)->ids.length=ins.length/\∀k,k<ids.length->own (ids.getD k 0)=(ins.getD k .unborn).map ρ
 | [],[],_=>⟨rfl,λk hk=>absurd hk (Nat.not_lt_zero k)⟩
 | i::is,c::cs,h=>by
  obtain⟨h0,h⟩:=xJ h
  obtain⟨h1,h2⟩:=insEq_at is cs h
  refine⟨congrArg (·+1) h1,λk hk=>?_⟩
  cases k with
  | zero=>exact h0
  | succ k=>exact h2 k (Nat.lt_of_succ_lt_succ hk)
 | [],_::_,h=>h.elim
 | _::_,[],h=>h.elim
theorem dist_inj:∀(ids:List Nat),dist ids=true->∀j k,j<ids.length->k<ids.length->ids.getD j 0=ids.getD k 0->j=k
 | [],_,j,_,h,_,_=>absurd h (Nat.not_lt_zero j)
 | x::l,hd,j,k,hj,hk,e=>by
  unfold dist at hd
  rw[Bool.and_eq_true] at hd
  have mem:∀i,i<l.length->l.getD i 0≠x:=λi hi he=>by
   have:l.contains x=true:=List.contains_iff_mem.2 (by rw[←he,List.getD_eq_getElem?_getD,List.getElem?_eq_getElem hi];exact List.getElem_mem hi)
   rw[this] at hd
   exact absurd hd.1 (by decide)
  cases j with
  | zero=>
   cases k with
   | zero=>rfl
   | succ k=>exact absurd e.symm (mem k (Nat.lt_of_succ_lt_succ hk))
  | succ j=>
   cases k with
   | zero=>exact absurd e (mem j (Nat.lt_of_succ_lt_succ hj))
   | succ k=>exact congrArg (·+1) (dist_inj l hd.2 j k (Nat.lt_of_succ_lt_succ hj) (Nat.lt_of_succ_lt_succ hk) e)
theorem zipU_ne:∀(ids:List Nat) (l:List Hl) (own:Nat->Hl) (j:Nat),(∀k,k<ids.length->ids.getD k 0≠j)->yA own (zipU ids l) j=own j
 | [],_,_,_,_=>rfl
 | _::_,[],_,_,_=>rfl
 | i::is,c::cs,own,j,h=>by
  show yA (zY own i c) (zipU is cs) j=_
  rw[zipU_ne is cs (zY own i c) j λk hk=>h (k+1) (Nat.succ_lt_succ hk)]
  unfold zY
  exact if_neg λe=>h 0 (Nat.zero_lt_succ _) e.symm
theorem zipU_at:∀(ids:List Nat) (l:List Hl) (own:Nat->Hl),dist ids=true->ids.length<=l.length->∀k,k<ids.length->yA own (zipU ids l) (ids.getD k 0)=l.getD k .unborn
 | [],_,_,_,_,k,hk=>absurd hk (Nat.not_lt_zero k)
 | _::_,[],_,_,h,_,_=>absurd h (Nat.not_succ_le_zero _)
 | i::is,c::cs,own,hd,hl,k,hk=>by
  have hd0:=hd
  unfold dist at hd
  rw[Bool.and_eq_true] at hd
  show yA (zY own i c) (zipU is cs) ((i::is).getD k 0)=_
  cases k with
  | zero=>
   rw[zipU_ne is cs (zY own i c) _ λk hk e=>absurd (dist_inj (i::is) hd0 (k+1) 0 (Nat.succ_lt_succ hk) (Nat.zero_lt_succ _) e) zo]
   exact if_pos rfl
  | succ k=>exact zipU_at is cs (zY own i c) hd.2 (Nat.le_of_succ_le_succ hl) k (Nat.lt_of_succ_lt_succ hk)
theorem upOwns_app(own:Nat->Hl)(l m:List (Nat×Hl)):yA own (l++m)=yA (yA own l) m:=List.foldl_append ..
def newM (ids:List Nat) (nx:Nat) (outs:List Hl):List (Nat×Hl):=zipU ids (outs.map (λc:Hl=>c.map (rho ids nx)))++yR nx ((outs.drop ids.length).map (λc:Hl=>c.map (rho ids nx))++[Hl.dead])
theorem getD_map{ρ:Nat->Nat}:∀(l:List Hl) (k:Nat),(l.map (λc:Hl=>c.map ρ)).getD k .unborn=(l.getD k .unborn).map ρ
 | [],_=>rfl
 | _::_,0=>rfl
 | _::l,k+1=>getD_map l k
theorem getD_drop:∀(p:Nat) (l:List Hl) (k:Nat),(l.drop p).getD k .unborn=l.getD (p+k) .unborn
 | 0,_,_=>by rw[Nat.zero_add];rfl
 | _+1,[],_=>rfl
 | p+1,_::l,k=>by rw[show p+1+k=(p+k)+1 by omega];exact getD_drop p l k
theorem newM_at{ids:List Nat}{nx:Nat}{outs:List Hl}{own:Nat->Hl}(hd:dist ids=true)(hn:∀k,k<ids.length->ids.getD k 0<nx)(hl:ids.length<=outs.length):
  (∀k,k<outs.length->yA own (newM ids nx outs) (rho ids nx k)=(outs.getD k .unborn).map (rho ids nx))/\(∀j,j≠nx+(outs.length-ids.length)->(∀k,k<outs.length->rho ids nx k≠j)->yA own (newM ids nx outs) j=own j)/\yA own (newM ids nx outs) (nx+(outs.length-ids.length))=.dead:=by
 unfold newM
 rw[upOwns_app]
 have hlen:((outs.drop ids.length).map (λc:Hl=>c.map (rho ids nx))++[Hl.dead]).length=outs.length-ids.length+1:=by simp
 refine⟨?_,?_,?_⟩
 ·intro k hk
  rw[newsL_up]
  by_cases h:k<ids.length
  ·have e:rho ids nx k=ids.getD k 0:=if_pos h
   have:=hn k h
   rw[e,if_neg zo,zipU_at ids _ _ hd (by rw[List.length_map];exact hl) k h,getD_map]
  ·have e:rho ids nx k=nx+(k-ids.length):=if_neg h
   rw[e,if_pos ⟨by omega,by rw[hlen];omega⟩,show nx+(k-ids.length)-nx=k-ids.length by omega,List.getD_eq_getElem?_getD,List.getElem?_append_left (by simp;omega),←List.getD_eq_getElem?_getD,getD_map,getD_drop,show ids.length+(k-ids.length)=k by omega]
 ·intro j hjB hj
  rw[newsL_up,if_neg λh=>?_]
  ·exact zipU_ne ids _ _ j λk hk e=>hj k zo (by unfold rho;rw[if_pos hk];exact e)
  ·rw[hlen] at h
   refine hj (j-nx+ids.length) zo ?_
   unfold rho
   rw[if_neg zo];omega
 ·rw[newsL_up,if_pos ⟨by omega,by rw[hlen];omega⟩,show nx+(outs.length-ids.length)-nx=outs.length-ids.length by omega,List.getD_eq_getElem?_getD,List.getElem?_append_right (by simp)]
  simp
section
variable {M F:Nat->Prop} {w0 w w':World} {own:Nat->Hl} {η η':Eta} {ids:List Nat} {ins outs:List Hl} {nx:Nat}
def inM (own:Nat->Hl) (η:Eta) (ids:List Nat):Nat->Prop:=λb=>∃k i o h,k<ids.length/\(own (ids.getD k 0)).get i=some o/\η (ids.getD k 0) i=some h/\hb h=some b
def inF (F:Nat->Prop) (own:Nat->Hl) (η:Eta) (ids:List Nat):Nat->Prop:=λb=>F b∨∃k i o h,(∀j,j<ids.length->ids.getD j 0≠k)/\(own k).get i=some o/\η k i=some h/\hb h=some b
theorem xW(l:List Hl)(k:Nat):zM 0 l k=l.getD k .unborn:=by unfold zM;rw[if_pos (Nat.zero_le _),Nat.sub_zero]
theorem ownGet_lt{l:List Hl}{k i:Nat}{o:OB}(h:(l.getD k .unborn).get i=some o):k<l.length:=by
 refine Nat.lt_of_not_le λhk=>?_
 rw[List.getD_eq_getElem?_getD,List.getElem?_eq_none hk] at h
 cases i<;>cases h
theorem Hp.give [Fz](H:Hp M F w0 own η w)(hd:dist ids=true){B:Nat}(hB:own B=.unborn)(hi:conj (insEq own (rhoI ids B) ids ins)):
  Hp (inM own η ids) (inF F own η ids) w (zM 0 ins) (λk=>η (rhoI ids B k)) w/\Av (inF F own η ids) (zM 0 ins) (λk=>η (rhoI ids B k))=Av F own η:=by
 obtain⟨hl,hat⟩:=insEq_at ids ins hi
 have hr:∀k,k<ids.length->rhoI ids B k=ids.getD k 0:=λk h=>if_pos h
 have hg:∀k i o,(zM 0 ins k).get i=some o->k<ids.length/\(own (ids.getD k 0)).get i=some (o.map (rhoI ids B)):=λk i o h=>by
  rw[xW] at h
  have hk:=ownGet_lt h
  refine⟨by omega,?_⟩
  rw[hat k zo,map_get,h];rfl
 have hg2:∀k i o,k<ids.length->(own (ids.getD k 0)).get i=some o->∃o0,(zM 0 ins k).get i=some o0/\o=o0.map (rhoI ids B):=λk i o hk h=>by
  rw[hat k hk,map_get] at h
  obtain⟨o0,h1,h2⟩:=Option.map_eq_some_iff.1 h
  exact⟨o0,by rw[xW];exact h1,h2.symm⟩
 have hav:Av (inF F own η ids) (zM 0 ins) (λk=>η (rhoI ids B k))=Av F own η:=funext λb=>propext ⟨λh=>by
  rcases h with(h | ⟨k,i,o,hd,_,h1,h2,h3⟩) | ⟨k,i,o,hd,h1,h2,h3⟩
  ·exact .inl h
  ·exact .inr ⟨k,i,o,hd,h1,h2,h3⟩
  ·obtain⟨hk,h1⟩:=hg k i o h1
   exact .inr ⟨_,i,_,hd,h1,by rw[←hr k hk];exact h2,h3⟩,λh=>by
  rcases h with h | ⟨k,i,o,hd,h1,h2,h3⟩
  ·exact .inl (.inl h)
  ·by_cases e:∀j,j<ids.length->ids.getD j 0≠k
   ·exact .inl (.inr ⟨k,i,o,hd,e,h1,h2,h3⟩)
   ·obtain⟨j,hj0⟩:=Classical.not_forall.1 e
    obtain⟨hj,e2⟩:=Classical.not_imp.1 hj0
    obtain rfl:=Classical.not_not.1 e2
    obtain⟨o0,h4,_⟩:=hg2 j i o hj h1
    exact .inr ⟨j,i,o0,hd,h4,by show η (rhoI ids B j) i=_;rw[hr j hj];exact h2,h3⟩⟩
 refine⟨⟨ModM.refl _ _,λk i o hk=>?_,λk i o hd b hk h2 h3=>?_,λk i o k' i' o' hd hd' b a1 a2 e1 e2 b1 b2=>?_,λk i hk=>?_,λb hb=>?_,H.glw,λhne ⟨k,i,o,h,_,h1,h2,h3⟩=>?_⟩,hav⟩
 ·obtain⟨h0,h1⟩:=hg k i o hk
  obtain⟨h,e,hok⟩:=H.ob _ i _ h1
  exact⟨h,by show η (rhoI ids B k) i=_;rw[hr k h0];exact e,by rw[hav];exact OB.map_ok.1 hok⟩
 ·obtain⟨h0,h1⟩:=hg k i o hk
  have h2:η (ids.getD k 0) i=some hd:=by rw[←hr k h0];exact h2
  refine⟨.inr ⟨k,i,_,hd,h0,h1,h2,h3⟩,λhF=>?_⟩
  rcases hF with hF | ⟨k',i',o',hd',hne,a1,a2,a3⟩
  ·exact(H.low _ i _ hd b h1 h2 h3).2 hF
  ·exact hne k h0 (H.apart _ i _ k' i' o' hd hd' b h1 a1 h2 a2 h3 a3).1
 ·obtain⟨h0,h1⟩:=hg k i o a1
  obtain⟨h0',h1'⟩:=hg k' i' o' a2
  have e1:η (ids.getD k 0) i=some hd:=by rw[←hr k h0];exact e1
  have e2:η (ids.getD k' 0) i'=some hd':=by rw[←hr k' h0'];exact e2
  obtain⟨q,rfl⟩:=H.apart _ i _ _ i' _ hd hd' b h1 h1' e1 e2 b1 b2
  exact⟨dist_inj ids ‹_› k k' h0 h0' q,rfl⟩
 ·show η (rhoI ids B k) i=none
  by_cases h:k<ids.length
  ·rw[hr k h]
   refine H.born _ i ?_
   rw[hat k h,map_out]
   rw[xW] at hk;exact hk
  ·refine H.born _ i ?_
   rw[show rhoI ids B k=B from if_neg h,hB];trivial
 ·rcases hb with hb | ⟨k,i,o,hd,_,h1,h2,h3⟩
  ·exact Nat.lt_of_lt_of_le (H.fl b hb) H.mod.size
  ·exact H.av_lt (.inr ⟨k,i,o,hd,h1,h2,h3⟩)
 ·rcases(H.low _ i o h 0 h1 h2 h3).1 with e | e
  ·obtain⟨v,e2⟩:=Option.ne_none_iff_exists'.1 hne
   have:=(H.gl.1 v e2).1
   omega
  ·exact H.gl.2 hne e
def yX (η η':Eta) (ids:List Nat) (nx n:Nat):Eta:=λj=>if nx<=j/\j<nx+(n-ids.length) then η' (j-nx+ids.length) else η j
theorem Hp.take [Fz](H:Hp M F w0 own η w)(hd:dist ids=true)(hn:∀k,k<ids.length->ids.getD k 0<nx)(hu:∀k,nx<=k->k<=nx+(outs.length-ids.length)->own k=.unborn)(hi:conj (insEq own (rhoI ids (nx+(outs.length-ids.length))) ids ins))(hkept:conj (keptCL ins outs))
  (C:Hp (inM own η ids) (inF F own η ids) w (zM 0 outs) η' w')(hx:∀k,k<ins.length->∀i v,η' k i=some v->η (ids.getD k 0) i=some v):
  Hp M F w0 (yA own (newM ids nx outs)) (yX η η' ids nx outs.length) w'/\Keep η (yX η η' ids nx outs.length) (Av F own η) (Av F (yA own (newM ids nx outs)) (yX η η' ids nx outs.length)) w w'/\
  ∀(a:SV) (v:Value),a.R η' (Av (inF F own η ids) (zM 0 outs) η') w' v->(a.map (rho ids nx)).R (yX η η' ids nx outs.length) (Av F (yA own (newM ids nx outs)) (yX η η' ids nx outs.length)) w' v:=by
 obtain⟨hl,hat⟩:=insEq_at ids ins hi
 obtain⟨hlo,hkb⟩:=keptCL_at ins outs hkept
 obtain⟨n1,n2,n3⟩:=newM_at (own:=own) (outs:=outs) hd hn zo
 have hr:∀k,k<ids.length->rho ids nx k=ids.getD k 0:=λk h=>if_pos h
 have hr2:∀k,¬k<ids.length->rho ids nx k=nx+(k-ids.length):=λk h=>if_neg h
 have eta1:∀k i v,η' k i=some v->yX η η' ids nx outs.length (rho ids nx k) i=some v:=λk i v h=>by
  unfold yX
  by_cases hk:k<ids.length
  ·have:=hn k hk
   rw[hr k hk,if_neg zo]
   exact hx k zo i v h
  ·by_cases hk2:k<outs.length
   ·rw[hr2 k hk,if_pos zo,show nx+(k-ids.length)-nx+ids.length=k by omega];exact h
   ·rw[C.born k i (by rw[xW,List.getD_eq_getElem?_getD,List.getElem?_eq_none zo];trivial)] at h;cases h
 have eta2:∀j,(∀k,k<outs.length->rho ids nx k≠j)->yX η η' ids nx outs.length j=η j:=λj hj=>by
  unfold yX
  refine if_neg λh=>hj (j-nx+ids.length) zo ?_
  rw[hr2 _ zo];omega
 have eta3:∀j i v,η j i=some v->yX η η' ids nx outs.length j i=some v:=λj i v h=>by
  unfold yX
  rw[if_neg λhj=>?_]
  ·exact h
  ·rw[H.born j i (by rw[hu j hj.1 zo];trivial)] at h;cases h
 have cas:∀j i o,(yA own (newM ids nx outs) j).get i=some o->(∃k o0,k<outs.length/\j=rho ids nx k/\(zM 0 outs k).get i=some o0/\o=o0.map (rho ids nx))∨((∀k,k<outs.length->rho ids nx k≠j)/\(own j).get i=some o):=λj i o h=>by
  by_cases e:∀k,k<outs.length->rho ids nx k≠j
  ·by_cases eB:j=nx+(outs.length-ids.length)
   ·rw[eB,n3] at h;cases i<;>cases h
   ·rw[n2 j eB e] at h;exact .inr ⟨e,h⟩
  ·obtain⟨k,hk0⟩:=Classical.not_forall.1 e
   obtain⟨hk,e2⟩:=Classical.not_imp.1 hk0
   obtain rfl:=Classical.not_not.1 e2
   rw[n1 k hk,map_get] at h
   obtain⟨o0,h1,h2⟩:=Option.map_eq_some_iff.1 h
   exact .inl ⟨k,o0,hk,rfl,by rw[xW];exact h1,h2.symm⟩
 have etaC:∀k i o0 h,k<outs.length->(zM 0 outs k).get i=some o0->yX η η' ids nx outs.length (rho ids nx k) i=some h->η' k i=some h:=λk i o0 h hk hg he=>by
  obtain⟨h',e1,_⟩:=C.ob k i o0 hg
  have:=eta1 k i h' e1
  rw[this] at he
  rw[←Option.some.inj he];exact e1
 have other:∀j i o h b,(∀k,k<outs.length->rho ids nx k≠j)->(own j).get i=some o->η j i=some h->hb h=some b->inF F own η ids b/\b<w.heap.size/\¬inM own η ids b:=λj i o h b hj h1 h2 h3=>by
  refine⟨.inr ⟨j,i,o,h,λk hk e=>hj k zo (by rw[hr k hk];exact e),h1,h2,h3⟩,H.av_lt (.inr ⟨j,i,o,h,h1,h2,h3⟩),λ⟨k,i',o',h',hk,a1,a2,a3⟩=>?_⟩
  exact hj k zo (by rw[hr k hk];exact(H.apart _ i' o' j i o h' h b a1 h1 a2 h2 a3 h3).1)
 have av1:∀b,Av F (yA own (newM ids nx outs)) (yX η η' ids nx outs.length) b->Av (inF F own η ids) (zM 0 outs) η' b:=λb hb=>by
  rcases hb with hb | ⟨j,i,o,h,h1,h2,h3⟩
  ·exact .inl (.inl hb)
  ·rcases cas j i o h1 with⟨k,o0,hk,rfl,h4,_⟩ | ⟨hj,h4⟩
   ·exact .inr ⟨k,i,o0,h,h4,etaC k i o0 h hk h4 h2,h3⟩
   ·rw[eta2 j hj] at h2
    exact .inl (other j i o h b hj h4 h2 h3).1
 have mav:∀b,inM own η ids b->Av F own η b:=λb ⟨k,i,o,h,_,h1,h2,h3⟩=>.inr ⟨_,i,o,h,h1,h2,h3⟩
 have fav:∀b,inF F own η ids b->Av F own η b:=λb hb=>hb.imp id λ⟨k,i,o,h,_,h1⟩=>⟨k,i,o,h,h1⟩
 have av2:∀b,b<w.heap.size->¬Av F own η b->¬Av F (yA own (newM ids nx outs)) (yX η η' ids nx outs.length) b:=λb hb hna h=>by
  rcases av1 b h with h | ⟨k,i,o,hd,h1,h2,h3⟩
  ·exact hna (fav b h)
  ·rcases(C.low k i o hd b h1 h2 h3).1 with h | h
   ·omega
   ·exact hna (mav b h)
 have K:Keep η (yX η η' ids nx outs.length) (Av F own η) (Av F (yA own (newM ids nx outs)) (yX η η' ids nx outs.length)) w w':=
  ⟨eta3,C.mod.size,C.mod.u64,λg hg ha=>C.mod.low g hg λh=>ha (mav g h),av2⟩
 have K2:Keep η' (λk=>yX η η' ids nx outs.length (rho ids nx k)) (Av (inF F own η ids) (zM 0 outs) η') (Av F (yA own (newM ids nx outs)) (yX η η' ids nx outs.length)) w' w':=
  ⟨eta1,Nat.le_refl _,λ_ _=>rfl,λ_ _ _=>rfl,λg _ ha h=>ha (av1 g h)⟩
 refine⟨⟨⟨C.mod.os.trans H.mod.os,C.mod.tape.trans H.mod.tape,C.mod.output.trans H.mod.output,Nat.le_trans H.mod.size C.mod.size,λb hb hM=>?_,λb hb=>?_⟩,λj i o hj=>?_,λj i o h b hj h2 h3=>?_,λj i o j' i' o' h h' b a1 a2 e1 e2 b1 b2=>?_,λj i hj=>?_,H.fl,H.gl⟩,K,λa v ha=>(SV.map_R _ _ _).2 (SV.keep K2 _ _ ha)⟩
 ·refine(C.mod.low b (Nat.lt_of_lt_of_le hb H.mod.size) λ⟨k,i,o,h,hk,h1,h2,h3⟩=>?_).trans (H.mod.low b hb hM)
  rcases(H.low _ i o h b h1 h2 h3).1 with e | e
  ·omega
  ·exact hM e
 ·exact(C.mod.u64 b (by obtain⟨on,cs,m,e⟩:=hb;exact⟨on,cs,m,(H.mod.u64 b ⟨on,cs,m,e⟩).trans e⟩)).trans (H.mod.u64 b hb)
 ·rcases cas j i o hj with⟨k,o0,hk,rfl,h4,rfl⟩ | ⟨hne,h4⟩
  ·obtain⟨h,e,hok⟩:=C.ob k i o0 h4
   exact⟨h,eta1 k i h e,OB.map_ok.2 (OB.keep hok K2 λ_ _=>rfl)⟩
  ·obtain⟨h,e,hok⟩:=H.ob j i o h4
   exact⟨h,eta3 j i h e,OB.keep hok K λb hb=>C.mod.low b (OB.blk_lt hok hb).1 (other j i o h b hne h4 e hb).2.2⟩
 ·rcases cas j i o hj with⟨k,o0,hk,rfl,h4,rfl⟩ | ⟨hne,h4⟩
  ·obtain⟨q1,q2⟩:=C.low k i o0 h b h4 (etaC k i o0 h hk h4 h2) h3
   refine⟨?_,λhF=>q2 (.inl hF)⟩
   rcases q1 with q1 | ⟨k',i',o',h',hk',a1,a2,a3⟩
   ·exact .inl (Nat.le_trans H.mod.size q1)
   ·exact(H.low _ i' o' h' b a1 a2 a3).1
  ·rw[eta2 j hne] at h2
   exact H.low j i o h b h4 h2 h3
 ·rcases cas j i o a1 with⟨k,o0,hk,rfl,h4,rfl⟩ | ⟨hne,h4⟩
  ·have e1:=etaC k i o0 h hk h4 e1
   rcases cas j' i' o' a2 with⟨k',o0',hk',rfl,h4',rfl⟩ | ⟨hne',h4'⟩
   ·obtain⟨rfl,rfl⟩:=C.apart k i o0 k' i' o0' h h' b h4 h4' e1 (etaC k' i' o0' h' hk' h4' e2) b1 b2
    exact⟨rfl,rfl⟩
   ·rw[eta2 j' hne'] at e2
    exact absurd (other j' i' o' h' b hne' h4' e2 b2).1 (C.low k i o0 h b h4 e1 b1).2
  ·rw[eta2 j hne] at e1
   rcases cas j' i' o' a2 with⟨k',o0',hk',rfl,h4',rfl⟩ | ⟨hne',h4'⟩
   ·exact absurd (other j i o h b hne h4 e1 b1).1 (C.low k' i' o0' h' b h4' (etaC k' i' o0' h' hk' h4' e2) b2).2
   ·rw[eta2 j' hne'] at e2
    exact H.apart j i o j' i' o' h h' b h4 h4' e1 e2 b1 b2
 ·by_cases e:∀k,k<outs.length->rho ids nx k≠j
  ·by_cases eB:j=nx+(outs.length-ids.length)
   ·rw[eB,n3] at hj;exact hj.elim
   ·rw[n2 j eB e] at hj
    rw[eta2 j e]
    exact H.born j i hj
  ·obtain⟨k,hk0⟩:=Classical.not_forall.1 e
   obtain⟨hk,e2⟩:=Classical.not_imp.1 hk0
   obtain rfl:=Classical.not_not.1 e2
   rw[n1 k hk,map_out] at hj
   by_cases hki:k<ids.length
   ·have hb:=hkb k zo
    have hu':=hat k hki
    have:=hn k hki
    unfold yX
    rw[hr k hki,if_neg zo]
    refine H.born _ i ?_
    rw[hu',map_out]
    exact keptC_out hb hj
   ·have hC:=C.born k i (by rw[xW];exact hj)
    unfold yX
    rw[hr2 k hki,if_pos zo,show nx+(k-ids.length)-nx+ids.length=k by omega];exact hC
variable {P:Program} {o:Oper} {ρ:Operand->Value}
def leAll [Fz]:List SV->List SV->List Prop
 | [],[]=>[]
 | x::xs,a::bs=>SV.le x a++leAll xs bs
 | _,_=>[False]
theorem leAll_ok [Fz]{A:Nat->Prop}{η:Eta}{σ:Nat->Nat}:∀(xs bs:List SV) (vs:List Value),conj (leAll xs (bs.map (λa:SV=>a.map σ)))->vs.length=xs.length->(∀(i:Nat) (x:SV) (v:Value),xs[i]?=some x->vs[i]?=some v->x.R η A w v)->xY bs (λk=>η (σ k)) A w vs
 | [],[],[],_,_,_=>trivial
 | x::xs,a::bs,v::vs,h,hl,hv=>by
  obtain⟨h1,h2⟩:=zD (show conj (SV.le x (a.map σ)++leAll xs (bs.map (λa:SV=>a.map σ))) from h)
  exact⟨(SV.map_R σ _ _).1 (SV.le_ok _ _ _ h1 (hv 0 x v rfl rfl)),leAll_ok xs bs vs h2 (by simpa using hl) λi x v hx hv'=>hv (i+1) x v (by simpa using hx) (by simpa using hv')⟩
 | [],_::_,_,h,_,_=>h.elim
 | _::_,[],_,h,_,_=>h.elim
 | [],[],_::_,_,hl,_=>by simp at hl
 | _::_,_::_,[],_,hl,_=>by simp at hl
def okM (ids:List Nat) (nx:Nat):Bool:=dist ids&&ids.all (λk=>decide (k<nx))
def callMR [Fz] (P:Program) (f:FuncId) (xs:List SV) (own:Nat->Hl) (nx:Nat) (ids:List Nat) (ins:List Hl) (A:List SV) (R:SV) (outs:List Hl):Res:=
 ⟨R.map (rho ids nx),[CallOKm P f ins A R outs]++(insEq own (rhoI ids (nx+(outs.length-ids.length))) ids ins++(leAll xs (A.map (λa:SV=>a.map (rhoI ids (nx+(outs.length-ids.length)))))++(keptCL ins outs++(if okM ids nx=true then[] else[False])))),newM ids nx outs,ids⟩
theorem insEq_cong{own own':Nat->Hl}{σ:Nat->Nat}:∀(ids:List Nat) (ins:List Hl),(∀k∈ids,own k=own' k)->conj (insEq own' σ ids ins)->conj (insEq own σ ids ins)
 | [],[],_,_=>trivial
 | i::is,c::cs,h,hc=>by
  obtain⟨h1,h2⟩:=xJ hc
  have h3:=insEq_cong is cs (λk hk=>h k (List.mem_cons_of_mem _ hk)) h2
  have h4:own i=c.map σ:=(h i (List.mem_cons_self ..)).trans h1
  show conj ((own i=c.map σ)::insEq own σ is cs)
  cases hq:insEq own σ is cs with
  | nil=>exact h4
  | cons q r=>rw[hq] at h3;exact⟨h4,h3⟩
 | [],_::_,_,h=>h.elim
 | _::_,[],_,h=>h.elim
theorem newsL_mem:∀(l:List Hl) (nx k:Nat),nx<=k->k<nx+l.length->∃c,(k,c)∈yR nx l
 | [],nx,k,h1,h2=>by simp at h2;omega
 | c::l,nx,k,h1,h2=>by
  by_cases e:k=nx
  ·subst e;exact⟨c,List.mem_cons_self ..⟩
  ·obtain⟨d,hd⟩:=newsL_mem l (nx+1) k zo (by simp at h2;omega)
   exact⟨d,List.mem_cons_of_mem _ hd⟩
theorem snd_callM [Fz]{f:FuncId}{ops:List Operand}{ts:Array TypeId}{xs:List SV}{A:List SV}{R:SV}{own':Nat->Hl}(H:Hp M F w0 own η w)(h:o.op=.call {callee:=.value (.func f),args:=ops.toArray,argTypes:=ts})(hρ:ρ (.func f)=.func (.func f) #[] #[])(hl:xs.length=ops.length)
  (hx:∀(i:Nat) (x:SV) (v:Value),xs[i]?=some x->(ops.map ρ)[i]?=some v->x.R η (Av F own η) w v)(ho:∀k∈ids,own k=own' k)(hk:∀p∈newM ids nx outs,nx<=p.1->own p.1=.unborn)(hs:conj (callMR P f xs own' nx ids ins A R outs).side):Snd P o ρ M F w0 own η w (callMR P f xs own' nx ids ins A R outs):=by
 obtain⟨hc,hs⟩:=zD hs
 obtain⟨hi,hs⟩:=zD hs
 obtain⟨ha,hs⟩:=zD hs
 obtain⟨hkept,hb⟩:=zD hs
 have hb:okM ids nx=true:=by
  split at hb
  ·assumption
  ·exact hb.elim
 unfold okM at hb
 rw[Bool.and_eq_true,List.all_eq_true] at hb
 obtain⟨hd,hn⟩:=hb
 have hi:=insEq_cong ids ins ho hi
 obtain⟨hlen,_⟩:=insEq_at ids ins hi
 have hn:∀k,k<ids.length->ids.getD k 0<nx:=λk hk=>by
  have:=hn (ids.getD k 0) (by rw[List.getD_eq_getElem?_getD,List.getElem?_eq_getElem hk];exact List.getElem_mem hk)
  exact of_decide_eq_true this
 have hu:∀k,nx<=k->k<=nx+(outs.length-ids.length)->own k=.unborn:=λk h1 h2=>by
  obtain⟨c,hc⟩:=newsL_mem ((outs.drop ids.length).map (λc:Hl=>c.map (rho ids nx))++[Hl.dead]) nx k h1 (by simp;omega)
  exact hk (k,c) (List.mem_append_right _ hc) h1
 have hB:=hu (nx+(outs.length-ids.length)) zo (Nat.le_refl _)
 obtain⟨g1,g2⟩:=H.give hd hB hi
 have hargs:xY A (λk=>η (rhoI ids (nx+(outs.length-ids.length)) k)) (Av (inF F own η ids) (zM 0 ins) (λk=>η (rhoI ids (nx+(outs.length-ids.length)) k))) w (ops.map ρ):=by
  rw[g2]
  exact leAll_ok xs A (ops.map ρ) ha (by simp[hl]) hx
 refine zV h hc.cal hρ ((hc.run _ _ _ w (ops.map ρ) g1 hargs).mono λe w'=>?_)
 rintro⟨v,η',rfl,C,hR,hx'⟩
 obtain⟨t1,t2,t3⟩:=H.take hd hn hu hi hkept C (λk hk i v hv=>by
  have:=hx' k hk i v hv
  have e:rhoI ids (nx+(outs.length-ids.length)) k=ids.getD k 0:=if_pos zo
  rw[e] at this
  exact this)
 exact⟨v,rfl,_,t1,t2,t3 _ _ hR⟩
end
section
variable {P:Program} {o:Oper} {ρ:Operand->Value} {M F F':Nat->Prop} {w0 w w':World} {own:Nat->Hl} {η η':Eta} {x y:Operand} {a b:SV} {nx:Nat} {l:List Hl}
def kQ (η η':Eta) (nx n:Nat):Eta:=λk=>if nx<=k/\k<nx+n then η' k else η k
theorem Hp.merge [Fz](H:Hp M F w0 own η w)(C:Hp (λ_=>False) F' w (zM nx l) η' w')(hu:∀k,nx<=k->k<nx+l.length->own k=.unborn)
  (hA:(∀b,Av F own η b->F' b)∨∀c∈l,conj c.nr):
  Hp M F w0 (yA own (yR nx l)) (kQ η η' nx l.length) w'/\Keep η (kQ η η' nx l.length) (Av F own η) (Av F (yA own (yR nx l)) (kQ η η' nx l.length)) w w'/\
  ∀(a:SV) (v:Value),((∀b,Av F own η b->F' b)∨conj a.nr)->a.R η' (Av F' (zM nx l) η') w' v->a.R (kQ η η' nx l.length) (Av F (yA own (yR nx l)) (kQ η η' nx l.length)) w' v:=by
 have hin:∀k,nx<=k/\k<nx+l.length->yA own (yR nx l) k=zM nx l k/\kQ η η' nx l.length k=η' k:=λk hk=>by
  rw[newsL_up,if_pos hk]
  unfold zM kQ
  rw[if_pos hk.1,if_pos hk]
  exact⟨rfl,rfl⟩
 have hout:∀k,¬(nx<=k/\k<nx+l.length)->yA own (yR nx l) k=own k/\kQ η η' nx l.length k=η k/\zM nx l k=.unborn:=λk hk=>by
  rw[newsL_up,if_neg hk]
  unfold kQ zM
  rw[if_neg hk]
  refine⟨rfl,rfl,?_⟩
  split
  ·rw[List.getD_eq_getElem?_getD,List.getElem?_eq_none zo];rfl
  ·rfl
 have he1:∀k i v,η k i=some v->kQ η η' nx l.length k i=some v:=λk i v hv=>by
  by_cases h:nx<=k/\k<nx+l.length
  ·rw[H.born k i (by rw[hu k h.1 h.2];trivial)] at hv;cases hv
  ·rw[(hout k h).2.1];exact hv
 have he2:∀k i v,η' k i=some v->kQ η η' nx l.length k i=some v:=λk i v hv=>by
  by_cases h:nx<=k/\k<nx+l.length
  ·rw[(hin k h).2];exact hv
  ·rw[C.born k i (by rw[(hout k h).2.2];trivial)] at hv;cases hv
 have hold:∀k i o hd b,(own k).get i=some o->η k i=some hd->hb hd=some b->b<w.heap.size:=λk i o hd b h1 h2 h3=>by
  obtain⟨hd',e,hk'⟩:=H.ob k i o h1
  rw[h2] at e
  obtain rfl:=Option.some.inj e
  exact(OB.blk_lt hk' h3).1
 have hnew:∀k i o hd b,(zM nx l k).get i=some o->η' k i=some hd->hb hd=some b->w.heap.size<=b:=λk i o hd b h1 h2 h3=>((C.low k i o hd b h1 h2 h3).1).resolve_right id
 have hav:∀b,Av F (yA own (yR nx l)) (kQ η η' nx l.length) b->Av F own η b∨(w.heap.size<=b/\Av F' (zM nx l) η' b):=λb hx=>by
  rcases hx with hx | ⟨k,i,o,hd,h1,h2,h3⟩
  ·exact .inl (.inl hx)
  ·by_cases h:nx<=k/\k<nx+l.length
   ·rw[(hin k h).1] at h1
    rw[(hin k h).2] at h2
    exact .inr ⟨hnew k i o hd b h1 h2 h3,.inr ⟨k,i,o,hd,h1,h2,h3⟩⟩
   ·rw[(hout k h).1] at h1
    rw[(hout k h).2.1] at h2
    exact .inl (.inr ⟨k,i,o,hd,h1,h2,h3⟩)
 have K:Keep η (kQ η η' nx l.length) (Av F own η) (Av F (yA own (yR nx l)) (kQ η η' nx l.length)) w w':=
  ⟨he1,C.mod.size,C.mod.u64,λg hg _=>C.mod.low g hg id,λg hg ha hx=>(hav g hx).elim ha λe=>by omega⟩
 have K2:(∀b,Av F own η b->F' b)->Keep η' (kQ η η' nx l.length) (Av F' (zM nx l) η') (Av F (yA own (yR nx l)) (kQ η η' nx l.length)) w' w':=λhf=>
  ⟨he2,Nat.le_refl _,λ_ _=>rfl,λ_ _ _=>rfl,λg _ ha hx=>ha ((hav g hx).elim (λe=>.inl (hf g e)) λe=>e.2)⟩
 refine⟨⟨H.mod.trans ⟨C.mod.os,C.mod.tape,C.mod.output,C.mod.size,λb hb _=>C.mod.low b hb id,C.mod.u64⟩,λk i o hk=>?_,λk i o hd b hk h2 h3=>?_,λk i o k' i' o' hd hd' b a1 a2 e1 e2 b1 b2=>?_,λk i hk=>?_,H.fl,H.gl⟩,K,λa v hn ha=>?_⟩
 ·by_cases h:nx<=k/\k<nx+l.length
  ·rw[(hin k h).1] at hk
   obtain⟨hd,e,hok⟩:=C.ob k i o hk
   refine⟨hd,by rw[(hin k h).2];exact e,?_⟩
   rcases hA with hA | hA
   ·exact OB.keep hok (K2 hA) λ_ _=>rfl
   ·refine OB.nr_ok he2 ?_ hok
    unfold zM at hk
    rw[if_pos h.1,List.getD_eq_getElem?_getD,List.getElem?_eq_getElem zo,Option.getD_some] at hk
    have:=hA _ (List.getElem_mem (l:=l) (n:=k-nx) zo)
    cases hc:l[k-nx] with
    | one ob=>
     rw[hc] at hk this
     cases i with
     | zero=>obtain rfl:=Option.some.inj hk;exact this
     | succ i=>cases hk
    | fam n f=>
     rw[hc] at hk this
     rw[xK] at hk
     split at hk
     ·rename_i hi
      obtain rfl:=Option.some.inj hk
      exact this i hi
     ·cases hk
    | hole n f m=>rw[hc] at this;exact this.elim
    | unborn=>rw[hc] at hk;cases i<;>cases hk
    | dead=>rw[hc] at hk;cases i<;>cases hk
  ·rw[(hout k h).1] at hk
   obtain⟨hd,e,hok⟩:=H.ob k i o hk
   exact⟨hd,by rw[(hout k h).2.1];exact e,OB.keep hok K λb hb=>C.mod.low b (OB.blk_lt hok hb).1 id⟩
 ·by_cases h:nx<=k/\k<nx+l.length
  ·rw[(hin k h).1] at hk
   rw[(hin k h).2] at h2
   have:=hnew k i o hd b hk h2 h3
   exact⟨.inl (Nat.le_trans H.mod.size this),λhF=>by have:=H.fl b hF;have:=H.mod.size;omega⟩
  ·rw[(hout k h).1] at hk
   rw[(hout k h).2.1] at h2
   exact H.low k i o hd b hk h2 h3
 ·by_cases h:nx<=k/\k<nx+l.length
  ·rw[(hin k h).1] at a1
   rw[(hin k h).2] at e1
   by_cases h':nx<=k'/\k'<nx+l.length
   ·rw[(hin k' h').1] at a2
    rw[(hin k' h').2] at e2
    exact C.apart k i o k' i' o' hd hd' b a1 a2 e1 e2 b1 b2
   ·rw[(hout k' h').1] at a2
    rw[(hout k' h').2.1] at e2
    have:=hnew k i o hd b a1 e1 b1
    have:=hold k' i' o' hd' b a2 e2 b2
    omega
  ·rw[(hout k h).1] at a1
   rw[(hout k h).2.1] at e1
   by_cases h':nx<=k'/\k'<nx+l.length
   ·rw[(hin k' h').1] at a2
    rw[(hin k' h').2] at e2
    have:=hnew k' i' o' hd' b a2 e2 b2
    have:=hold k i o hd b a1 e1 b1
    omega
   ·rw[(hout k' h').1] at a2
    rw[(hout k' h').2.1] at e2
    exact H.apart k i o k' i' o' hd hd' b a1 a2 e1 e2 b1 b2
 ·by_cases h:nx<=k/\k<nx+l.length
  ·rw[(hin k h).1] at hk
   rw[(hin k h).2]
   exact C.born k i hk
  ·rw[(hout k h).1] at hk
   rw[(hout k h).2.1]
   exact H.born k i hk
 ·rcases hn with hn | hn
  ·exact SV.keep (K2 hn) _ _ ha
  ·exact SV.nr_ok he2 _ _ hn ha
def argLe [Fz] (own:Nat->Hl) (x a:SV):List Prop:=match x with
  | .own k i => match (own k).gs i, a with
    | _,.any=>[]
    | (some (.row _ s E n),sd),.sl s' E' n'=>if s=s' then[n=n',∀j,j<n->conj (SV.le (E j) (E' j))]++sd else[False]
    | (some (.var _ c _),sd),.ep c'=>SV.le c c'++sd
    | _,_=>[False]
  | x=>SV.le x a
def argsLe [Fz] (own:Nat->Hl):List SV->List SV->List Prop
 | [],[]=>[]
 | x::xs,a::bs=>argLe own x a++argsLe own xs bs
 | _,_=>[False]
def jO:List SV->List (Nat×Nat)
 | []=>[]
 | .own k i::l=>(k,i)::jO l
 | _::l=>jO l
def less (F:Nat->Prop) (own:Nat->Hl) (η:Eta) (ids:List (Nat×Nat)):Nat->Prop:=λb=>Av F own η b/\∀p∈ids,∀h,η p.1 p.2=some h->hb h≠some b
theorem argLe_ok [Fz]{ids:List (Nat×Nat)}{own':Nat->Hl}{xx a:SV}{v:Value}(H:Hp M F w0 own η w)(hid:∀k i,xx=.own k i->(k,i)∈ids/\own k=own' k)(h:conj (argLe own' xx a))(hv:xx.R η (Av F own η) w v):a.R η (less F own η ids) w v:=by
 have Kw:Keep η η (Av F own η) (less F own η ids) w w:=Keep.weak λg _ h hx=>h hx.1
 have gen:conj (SV.le xx a)->a.R η (less F own η ids) w v:=λh=>SV.keep Kw _ _ (SV.le_ok _ _ _ h hv)
 unfold argLe at h
 split at h
 ·rename_i k i
  obtain⟨hmem,hk⟩:=hid k i rfl
  rw[←hk] at h
  split at h
  ·trivial
  ·rename_i T s E n sd s' E' n' hob
   split at h
   ·rename_i e
    subst e
    obtain⟨h,hsd⟩:=zD h
    obtain⟨rfl,hE⟩:=h
    have hob:=xG hob hsd
    obtain⟨hd,he,hok⟩:=H.ob k i _ hob
    have hv1:=hv.1
    rw[hv1] at he
    obtain rfl:=Option.some.inj he
    obtain⟨A0,c,rfl,h1,h2,h3,h4⟩:=hok
    refine⟨A0,c,rfl,λe=>?_,h1,h2,λj hj=>?_⟩
    ·subst e
     rcases h4 with⟨_,h5,h6⟩ | ⟨g,cs,e,_⟩
     ·exact⟨h5,h6⟩
     ·cases e
    ·rcases h4 with⟨_,h5,h6⟩ | ⟨g,cs,rfl,hB,hcs,hel⟩
     ·omega
     ·obtain⟨e0,q1,q2,q3⟩:=hel j hj
      exact⟨g,0,rfl,λhx=>hx.2 _ hmem _ hv1 rfl,hB.lt,e0,q1,SV.keep Kw _ _ (SV.le_ok _ _ _ (hE j hj) q2),λz u hz=>by rw[Nat.zero_add];exact q3 z u hz⟩
   ·exact h.elim
  ·rename_i T c sd c' hob
   obtain⟨h,hsd⟩:=zD h
   have hob:=xG hob hsd
   obtain⟨hd,he,hok⟩:=H.ob k i _ hob
   have hv1:=hv.1
   rw[hv1] at he
   obtain rfl:=Option.some.inj he
   obtain⟨b,u,rfl,hB,hR,hT⟩:=hok
   exact⟨b,0,rfl,λhx=>hx.2 _ hmem _ hv1 rfl,hB.lt,u,SV.keep Kw _ _ (SV.le_ok _ _ _ h hR),λz y hz=>by rw[Nat.zero_add,hB.cell];exact hz⟩
  ·exact h.elim
 ·exact gen h
theorem argsLe_ok [Fz]{ids:List (Nat×Nat)}{own':Nat->Hl}(H:Hp M F w0 own η w):∀(xs bs:List SV) (vs:List Value),(∀k i,SV.own k i∈xs->(k,i)∈ids/\own k=own' k)->conj (argsLe own' xs bs)->vs.length=xs.length->(∀(i:Nat) (x:SV) (v:Value),xs[i]?=some x->vs[i]?=some v->x.R η (Av F own η) w v)->xY bs η (less F own η ids) w vs
 | [],[],[],_,_,_,_=>trivial
 | x::xs,a::bs,v::vs,hid,h,hl,hv=>by
  obtain⟨h1,h2⟩:=zD h
  exact⟨argLe_ok H (λk i e=>hid k i (by rw[e];simp)) h1 (hv 0 x v rfl rfl),argsLe_ok H xs bs vs (λk i hm=>hid k i (by simp[hm])) h2 (by simpa using hl) λi x v hx hv'=>hv (i+1) x v (by simpa using hx) (by simpa using hv')⟩
 | [],_::_,_,_,h,_,_=>h.elim
 | _::_,[],_,_,h,_,_=>h.elim
 | [],[],_::_,_,_,hl,_=>by simp at hl
 | _::_,_::_,[],_,_,hl,_=>by simp at hl
theorem ownIds_mem:∀(xs:List SV) (k i:Nat),SV.own k i∈xs->(k,i)∈jO xs
 | x::xs,k,i,h=>by
  rcases List.mem_cons.1 h with h | h
  ·subst h;exact List.mem_cons_self ..
  ·have:=ownIds_mem xs k i h
   cases x<;>first | exact this | exact List.mem_cons_of_mem _ this
def nrs:List Hl->List Prop
 | []=>[]
 | c::l=>c.nr++nrs l
theorem nrs_ok [Fz]:∀(l:List Hl),conj (nrs l)->∀c∈l,conj c.nr
 | c::l,h,d,hd=>by
  obtain⟨h1,h2⟩:=zD h
  rcases List.mem_cons.1 hd with e | e
  ·subst e;exact h1
  ·exact nrs_ok l h2 d e
def viewA (own:Nat->Hl):SV->SV×List Prop
  | .own k i => match (own k).gs i with
    | (some (.row _ s E n),sd)=>(.sl s E n,sd)
    | (some (.var _ c _),sd)=>(.ep c,sd)
    | _=>(.any,[False])
  | x=>(x,[])
def viewsA (own:Nat->Hl):List SV->List SV
 | []=>[]
 | x::l=>(viewA own x).1::viewsA own l
def viewsSd (own:Nat->Hl):List SV->List Prop
 | []=>[]
 | x::l=>(viewA own x).2++viewsSd own l
theorem viewA_ok [Fz]{ids:List (Nat×Nat)}{own':Nat->Hl}{xx:SV}{v:Value}(H:Hp M F w0 own η w)(hid:∀k i,xx=.own k i->(k,i)∈ids/\own k=own' k)(h:conj (viewA own' xx).2)(hv:xx.R η (Av F own η) w v):(viewA own' xx).1.R η (less F own η ids) w v:=by
 have Kw:Keep η η (Av F own η) (less F own η ids) w w:=Keep.weak λg _ h hx=>h hx.1
 unfold viewA at h⊢
 split at h
 ·rename_i k i
  obtain⟨hmem,hk⟩:=hid k i rfl
  rw[←hk] at h⊢
  split at h
  ·rename_i T s E n sd hob
   show(SV.sl s E n).R η (less F own η ids) w _
   have hob:=xG hob (show conj sd from h)
   obtain⟨hd,he,hok⟩:=H.ob k i _ hob
   have hv1:=hv.1
   rw[hv1] at he
   obtain rfl:=Option.some.inj he
   obtain⟨A0,c,rfl,h1,h2,h3,h4⟩:=hok
   refine⟨A0,c,rfl,λe=>?_,h1,h2,λj hj=>?_⟩
   ·subst e
    rcases h4 with⟨_,h5,h6⟩ | ⟨g,cs,e,_⟩
    ·exact⟨h5,h6⟩
    ·cases e
   ·rcases h4 with⟨_,h5,h6⟩ | ⟨g,cs,rfl,hB,hcs,hel⟩
    ·omega
    ·obtain⟨e0,q1,q2,q3⟩:=hel j hj
     exact⟨g,0,rfl,λhx=>hx.2 _ hmem _ hv1 rfl,hB.lt,e0,q1,SV.keep Kw _ _ q2,λz u hz=>by rw[Nat.zero_add];exact q3 z u hz⟩
  ·rename_i T c q sd hob
   show(SV.ep c).R η (less F own η ids) w _
   have hob:=xG hob (show conj sd from h)
   obtain⟨hd,he,hok⟩:=H.ob k i _ hob
   have hv1:=hv.1
   rw[hv1] at he
   obtain rfl:=Option.some.inj he
   obtain⟨b,u,rfl,hB,hR,hT⟩:=hok
   exact⟨b,0,rfl,λhx=>hx.2 _ hmem _ hv1 rfl,hB.lt,u,SV.keep Kw _ _ hR,λz y hz=>by rw[Nat.zero_add,hB.cell];exact hz⟩
  ·exact h.elim
 ·exact SV.keep Kw _ _ hv
theorem viewsA_ok [Fz]{ids:List (Nat×Nat)}{own':Nat->Hl}(H:Hp M F w0 own η w):∀(xs:List SV) (vs:List Value),(∀k i,SV.own k i∈xs->(k,i)∈ids/\own k=own' k)->conj (viewsSd own' xs)->vs.length=xs.length->(∀(i:Nat) (x:SV) (v:Value),xs[i]?=some x->vs[i]?=some v->x.R η (Av F own η) w v)->xY (viewsA own' xs) η (less F own η ids) w vs
 | [],[],_,_,_,_=>trivial
 | x::xs,v::vs,hid,h,hl,hv=>by
  obtain⟨h1,h2⟩:=zD h
  exact⟨viewA_ok H (λk i e=>hid k i (by rw[e];simp)) h1 (hv 0 x v rfl rfl),viewsA_ok H xs vs (λk i hm=>hid k i (by simp[hm])) h2 (by simpa using hl) λi x v hx hv'=>hv (i+1) x v (by simpa using hx) (by simpa using hv')⟩
 | [],_::_,_,_,hl,_=>by simp at hl
 | _::_,[],_,_,hl,_=>by simp at hl
def callR [Fz] (P:Program) (f:FuncId) (xs:List SV) (own:Nat->Hl) (nx:Nat):Hint->Res
 | .call A R news=>⟨R.shift nx,[CallOK P f A R news]++(argsLe own xs A++(if(jO xs).isEmpty=true then[] else(R.shift nx).nr++nrs (news.map (·.shift nx)))),yR nx (news.map (·.shift nx)),(jO xs).map (·.1)⟩
 | .callS R news=>⟨R.shift nx,[CallOK P f (viewsA own xs) R news]++(viewsSd own xs++(if(jO xs).isEmpty=true then[] else(R.shift nx).nr++nrs (news.map (·.shift nx)))),yR nx (news.map (·.shift nx)),(jO xs).map (·.1)⟩
 | .callM ids ins A R outs=>callMR P f xs own nx ids ins A R outs
 | _=>bad
theorem snd_callA [Fz]{f:FuncId}{ops:List Operand}{ts:Array TypeId}{xs:List SV}{A:List SV}{R:SV}{news:List Hl}{rd:List Nat}{sd sd2:List Prop}(H:Hp M F w0 own η w)(h:o.op=.call {callee:=.value (.func f),args:=ops.toArray,argTypes:=ts})(hρ:ρ (.func f)=.func (.func f) #[] #[])(hargs:xY A η (less F own η (jO xs)) w (ops.map ρ))(hk:∀p∈yR nx (news.map (·.shift nx)),nx<=p.1->own p.1=.unborn)(hs:conj ([CallOK P f A R news]++(sd++(if(jO xs).isEmpty=true then[] else(R.shift nx).nr++nrs (news.map (·.shift nx)))))):Snd P o ρ M F w0 own η w ⟨R.shift nx,sd2,yR nx (news.map (·.shift nx)),rd⟩:=by
 obtain⟨hc,hs⟩:=zD hs
 obtain⟨_,hn⟩:=zD hs
 have hnn:(∀b,Av F own η b->less F own η (jO xs) b)∨(conj (R.shift nx).nr/\∀c∈news.map (·.shift nx),conj c.nr):=by
  split at hn
  ·rename_i e
   left
   intro b hb
   refine⟨hb,λp hp=>?_⟩
   rw[List.isEmpty_iff.1 e] at hp
   cases hp
  ·obtain⟨n1,n2⟩:=zD hn
   exact .inr ⟨n1,nrs_ok _ n2⟩
 have hun:∀k,nx<=k->k<nx+(news.map (·.shift nx)).length->own k=.unborn:=λk h1 h2=>by
  have key:∀(l:List Hl) (nx:Nat),nx<=k->k<nx+l.length->∃c,(k,c)∈yR nx l:=by
   intro l
   induction l with
   | nil=>intro nx h1 h2;simp at h2;omega
   | cons c l ih=>
    intro nx h1 h2
    by_cases e:k=nx
    ·subst e;exact⟨c,List.mem_cons_self ..⟩
    ·obtain⟨d,hd⟩:=ih (nx+1) zo (by simp at h2;omega)
     exact⟨d,List.mem_cons_of_mem _ hd⟩
  obtain⟨c,hm⟩:=key _ nx h1 h2
  exact hk _ hm h1
 refine zV h hc.cal hρ ((hc.run η (less F own η (jO xs)) w (ops.map ρ) ⟨λb hb=>H.av_lt hb.1,H.glw⟩ hargs).mono λe w'=>?_)
 rintro⟨v,η',rfl,C,hR⟩
 obtain⟨C',hav⟩:=C.shift nx
 have hR':=SV.shift_ok nx _ _ hR
 rw[shOwn_of] at C' hav
 rw[←hav] at hR'
 obtain⟨m1,m2,m3⟩:=H.merge C' hun (hnn.imp id λh=>h.2)
 exact⟨v,rfl,_,m1,m2,m3 _ _ (hnn.imp id λh=>h.1) hR'⟩
theorem snd_callF [Fz]{f:FuncId}{ops:List Operand}{ts:Array TypeId}{xs:List SV}{own':Nat->Hl}{hi:Hint}(H:Hp M F w0 own η w)(h:o.op=.call {callee:=.value (.func f),args:=ops.toArray,argTypes:=ts})(hρ:ρ (.func f)=.func (.func f) #[] #[])(hl:xs.length=ops.length)(hx:∀(i:Nat) (p:Operand) (x:SV),ops[i]?=some p->xs[i]?=some x->x.R η (Av F own η) w (ρ p)){r:Res}(hr:callR P f xs own' nx hi=r)(ho:∀k∈r.rd,own k=own' k)(hk:∀p∈r.new,nx<=p.1->own p.1=.unborn)(hs:conj r.side):Snd P o ρ M F w0 own η w r:=by
 have hx2:∀(i:Nat) (x:SV) (v:Value),xs[i]?=some x->(ops.map ρ)[i]?=some v->x.R η (Av F own η) w v:=λi x v hxi hv=>by
  rw[List.getElem?_map] at hv
  obtain⟨p,hp,rfl⟩:=Option.map_eq_some_iff.1 hv
  exact hx i p x hp hxi
 unfold callR at hr
 split at hr
 ·rename_i A R news
  subst hr
  have hle:=(zD (zD hs).2).1
  exact snd_callA H h hρ (argsLe_ok (ids:=jO xs) H xs A (ops.map ρ) (λk i hm=>⟨ownIds_mem xs k i hm,ho k (List.mem_map.2 ⟨(k,i),ownIds_mem xs k i hm,rfl⟩)⟩) hle (by simp[hl]) hx2) hk hs
 ·rename_i R news
  subst hr
  have hle:=(zD (zD hs).2).1
  exact snd_callA H h hρ (viewsA_ok (ids:=jO xs) H xs (ops.map ρ) (λk i hm=>⟨ownIds_mem xs k i hm,ho k (List.mem_map.2 ⟨(k,i),ownIds_mem xs k i hm,rfl⟩)⟩) hle (by simp[hl]) hx2) hk hs
 ·subst hr
  exact snd_callM H h hρ (by simp[hl]) hx2 ho hk hs
 ·subst hr;exact hs.elim
end
open Go.RowKit
def mmR (mx:Bool):List SV->Res
 | [.ex (.int .i64 p),.ex (.int .i64 q)]=>vl (.ex (.int .i64 (if mx=true then max p q else min p q))) []
 | [.ex (.int .i64 p),.ex (.int .i64 q),.ex (.int .i64 r)]=>vl (.ex (.int .i64 (if mx=true then max (max p q) r else min (min p q) r))) []
 | _=>bad
def leL [Fz]:List SV->(Nat->SV)->Nat->List Prop
 | [],_,_=>[]
 | a::l,E,i=>SV.le a (E i)++leL l E (i+1)
def litT [Fz] (P:Program) (T:TypeId) (len:Nat) (ks:List Nat) (xs:List SV):Hint->Res
  | .row _ E => match litR P T len ks xs with
    | ⟨.sl s _ n,side,[],[]⟩=>if xs.length=n then⟨.sl s E n,leL xs E 0++side,[],[]⟩ else bad
    | _=>bad
  | _=>litR P T len ks xs
theorem leL_ok [Fz]:∀{xs:List SV} {E:Nat->SV} {i:Nat},conj (leL xs E i)->∀j a,xs[j]?=some a->conj (SV.le a (E (i+j)))
 | [],_,_,_,j,a,h=>by simp at h
 | b::l,E,i,hc,j,a,h=>by
  obtain⟨h1,h2⟩:=zD hc
  cases j with
  | zero=>simp at h;subst h;exact h1
  | succ j=>
   have:=leL_ok h2 j a (by simpa using h)
   rw[show i+(j+1)=i+1+j by omega]
   exact this
theorem litR_E{P:Program}{T:TypeId}{len n s:Nat}{ks:List Nat}{xs:List SV}{E0:Nat->SV}{side:List Prop}(h:litR P T len ks xs=⟨.sl s E0 n,side,[],[]⟩):E0=litE xs:=by
 unfold litR at h
 split at h
 ·split at h
  ·split at h
   ·split at h
    ·simp only[vl,Res.mk.injEq,SV.sl.injEq] at h
     exact h.1.2.1.symm
    ·cases h
   ·cases h
  ·cases h
 ·cases h
def opR [Fz] (P:Program) (fr:Tmp->SV) (own:Nat->Hl) (nx:Nat) (op:Op) (h:Hint):Res:=match op with
  | .move x=>vl (opd fr x) []
  | .assign x=>vl (opd fr x) []
  | .pick c a b=>pickH (opd fr c) (opd fr a) (opd fr b) h
  | .alloc T=>allocR P T nx
  | .box T x=>boxR T (opd fr x) nx
  | .build T ps=>buildR P T (ps.toList.map λp=>(p.1,opd fr p.2))
  | .buildSlice T len ps => match len, ps.toList with
    | 0,[]=>lit0R P T nx
    | len,_=>litT P T len (ps.toList.map (·.1)) (ps.toList.map λp=>opd fr p.2) h
  | .load T x=>loadR P T (opd fr x) own
  | .store T x y=>storeR P T (opd fr x) (opd fr y) own h
  | .binOp op t x y _=>ifR P op t (isK y) (opd fr x) (opd fr y) own h
  | .makeInterface T x=>mkiR P T (opd fr x)
  | .nilCheck x=>nilR own (opd fr x)
  | .unOp op _ x=>unR op (opd fr x) h
  | .convert s d x=>convR P s d (opd fr x) h
  | .makeSlice T x y=>makeR P T (opd fr x) (opd fr y) nx h
  | .slice T x lo hi none=>sliO P T (opd fr x) (lo.map (opd fr)) (hi.map (opd fr)) own nx h
  | .fieldAddr T x f=>faddrR P T f (opd fr x) own
  | .field T x f=>fieldR P T f (opd fr x)
  | .indexAddr T x y=>idxB P T (opd fr x) (opd fr y) own h
  | .extract x i=>extR (opd fr x) i
  | .call c => match c.callee, c.args.toList, c.argTypes.toList with
    | .builtin .len,[x],[T]=>lenR P T (opd fr x) own
    | .builtin .append,[x,y],[T,T']=>appR P T T' (opd fr x) (opd fr y) own nx h
    | .builtin .copy,[x,y],[T,T']=>copyR P T T' (opd fr x) (opd fr y) own h
    | .builtin .max,xs,_=>mmR true (xs.map (opd fr))
    | .builtin .min,xs,_=>mmR false (xs.map (opd fr))
    | .value (.func f),xs,_=>callR P f (xs.map (opd fr)) own nx h
    | _,_,_=>bad
  | _=>bad
section
variable {P:Program} {o:Oper} {ρ:Operand->Value} {M F:Nat->Prop} {w0 w:World} {own own':Nat->Hl} {η:Eta} {fr:Tmp->SV} {nx:Nat} {hh:Hint}
theorem yld_min3s{P:Program}{Φ:Value->World->Prop}{ts:Array TypeId}{p q r:Int}{x y z:Operand}(h:o.op=.call {callee:=.builtin .min,args:=#[x,y,z],argTypes:=ts})(hx:ρ x=.int .i64 p)(hy:ρ y=.int .i64 q)(hz:ρ z=.int .i64 r)(K:Φ (.int .i64 (min (min p q) r)) w):Yld P o ρ w Φ:=
 yQ (v:=.int .i64 (min (min p q) r)) (by unfold execOp;rw[h];simp[resolve,invoke,builtin,hx,hy,hz,Builtin.min_,Builtin.min2];omega) K
theorem yld_max3s{P:Program}{Φ:Value->World->Prop}{ts:Array TypeId}{p q r:Int}{x y z:Operand}(h:o.op=.call {callee:=.builtin .max,args:=#[x,y,z],argTypes:=ts})(hx:ρ x=.int .i64 p)(hy:ρ y=.int .i64 q)(hz:ρ z=.int .i64 r)(K:Φ (.int .i64 (max (max p q) r)) w):Yld P o ρ w Φ:=
 yQ (v:=.int .i64 (max (max p q) r)) (by unfold execOp;rw[h];simp[resolve,invoke,builtin,hx,hy,hz,Builtin.max_,Builtin.max2];omega) K
theorem snd_mm [Fz]{mx:Bool}{args:List Operand}{ts:Array TypeId}(H:Hp M F w0 own η w)(h:o.op=.call {callee:=.builtin (if mx=true then .max else .min),args:=args.toArray,argTypes:=ts})(hx:∀x∈args,(opd fr x).R η (Av F own η) w (ρ x)){r:Res}(hr:mmR mx (args.map (opd fr))=r)(hs:conj r.side):Snd P o ρ M F w0 own η w r:=by
 unfold mmR at hr
 split at hr
 ·rename_i p q hl
  subst hr
  obtain⟨x,y,rfl⟩:∃x y,args=[x,y]:=by
   have:=congrArg List.length hl
   simp only[List.length_map,List.length_cons,List.length_nil] at this
   match args,this with
   | [x,y],_=>exact⟨x,y,rfl⟩
  simp only[List.map_cons,List.map_nil,List.cons.injEq,and_true] at hl
  have h1:ρ x=.int .i64 p:=by have:=hx x (by simp);rw[hl.1] at this;exact this
  have h2:ρ y=.int .i64 q:=by have:=hx y (by simp);rw[hl.2] at this;exact this
  cases mx with
  | true=>exact yld_max h h1 h2 ⟨η,H,Keep.weak λ_ _ h=>h,rfl⟩
  | false=>exact yld_min h h1 h2 ⟨η,H,Keep.weak λ_ _ h=>h,rfl⟩
 ·rename_i p q r0 hl
  subst hr
  obtain⟨x,y,z,rfl⟩:∃x y z,args=[x,y,z]:=by
   have:=congrArg List.length hl
   simp only[List.length_map,List.length_cons,List.length_nil] at this
   match args,this with
   | [x,y,z],_=>exact⟨x,y,z,rfl⟩
  simp only[List.map_cons,List.map_nil,List.cons.injEq,and_true] at hl
  have h1:ρ x=.int .i64 p:=by have:=hx x (by simp);rw[hl.1] at this;exact this
  have h2:ρ y=.int .i64 q:=by have:=hx y (by simp);rw[hl.2.1] at this;exact this
  have h3:ρ z=.int .i64 r0:=by have:=hx z (by simp);rw[hl.2.2] at this;exact this
  cases mx with
  | true=>exact yld_max3s h h1 h2 h3 ⟨η,H,Keep.weak λ_ _ h=>h,rfl⟩
  | false=>exact yld_min3s h h1 h2 h3 ⟨η,H,Keep.weak λ_ _ h=>h,rfl⟩
 ·subst hr;exact hs.elim
theorem snd_litT [Fz]{T:TypeId}{len:Nat}{ps:Array (Nat×Operand)}{xs:List SV}(H:Hp M F w0 own η w)(h:o.op=.buildSlice T len ps)(hx:∀(i:Nat) (p:Nat×Operand) (a:SV),ps.toList[i]?=some p->xs[i]?=some a->a.R η (Av F own η) w (ρ p.2)){r:Res}(hr:litT P T len (ps.toList.map (·.1)) xs hh=r)(hs:conj r.side):Snd P o ρ M F w0 own η w r:=by
 unfold litT at hr
 split at hr
 ·rename_i j E
  split at hr
  ·rename_i s E0 n side e
   split at hr
   ·rename_i hl
    subst hr
    obtain⟨h1,h2⟩:=zD hs
    refine Yld.mono (snd_lit H h hx e h2) λv w' ⟨η',k1,k2,k3⟩=>⟨η',k1,k2,SV.le_ok (.sl s E0 n) (.sl s E n) v ?_ k3⟩
    obtain rfl:=litR_E e
    unfold SV.le
    rw[if_pos rfl]
    refine⟨rfl,λi hi=>?_⟩
    have hx:xs[i]?=some xs[i]:=List.getElem?_eq_getElem zo
    have:=leL_ok h1 i _ hx
    rw[Nat.zero_add] at this
    rw[litE_get hx]
    exact this
   ·subst hr;exact hs.elim
  ·subst hr;exact hs.elim
 ·exact snd_lit H h hx hr hs
theorem op_snd [Fz](H:Hp M F w0 own η w)(hx:∀x∈o.op.operands.toList,(opd fr x).R η (Av F own η) w (ρ x))(hρ:∀f,ρ (.func f)=.func (.func f) #[] #[]){r:Res}(hr:opR P fr own' nx o.op hh=r)(ho:∀k∈r.rd,own k=own' k)(hk:∀p∈r.new,nx<=p.1->own p.1=.unborn)(hs:conj r.side):Snd P o ρ M F w0 own η w r:=by
 unfold opR at hr
 split at hr
 ·rename_i x e;subst hr;exact snd_move H (.inl e) (hx x (by rw[e];simp[Op.operands]))
 ·rename_i x e;subst hr;exact snd_move H (.inr e) (hx x (by rw[e];simp[Op.operands]))
 ·rename_i c a b e;subst hr;exact snd_pickH H e (hx c (by rw[e];simp[Op.operands])) (hx a (by rw[e];simp[Op.operands])) (hx b (by rw[e];simp[Op.operands])) hs
 ·rename_i T e;exact snd_alloc H e hr hk hs
 ·rename_i T x e;exact snd_box H e (hx x (by rw[e];simp[Op.operands])) hr hk hs
 ·rename_i T ps e
  refine snd_build H e (by simp) (λi p q hp hq=>?_) hr hs
  rw[List.getElem?_map,hp] at hq
  obtain rfl:=Option.some.inj hq
  refine hx p.2 ?_
  rw[e]
  simp only[Op.operands]
  exact List.mem_map.2 ⟨p,List.mem_of_getElem? hp,rfl⟩
 ·rename_i T len ps e
  split at hr
  ·rename_i hps
   exact snd_lit0 H e (by rw[←Array.toList_inj];exact hps) hr hk hs
  refine snd_litT H e (λi p a hp ha=>?_) hr hs
  rw[List.getElem?_map,hp] at ha
  obtain rfl:=Option.some.inj ha
  refine hx p.2 ?_
  rw[e]
  simp only[Op.operands]
  exact List.mem_map.2 ⟨p,List.mem_of_getElem? hp,rfl⟩
 ·rename_i T x e;exact snd_load H e (hx x (by rw[e];simp[Op.operands])) hr ho hs
 ·rename_i T x y e;exact snd_store H e (hx x (by rw[e];simp[Op.operands])) (hx y (by rw[e];simp[Op.operands])) hr ho hs
 ·rename_i op t x y t' e;exact snd_if H e (hx x (by rw[e];simp[Op.operands])) (hx y (by rw[e];simp[Op.operands])) hr ho hs
 ·rename_i T x e;subst hr;exact snd_mki H e (hx x (by rw[e];simp[Op.operands])) hs
 ·rename_i x e;exact snd_nil H e (hx x (by rw[e];simp[Op.operands])) hr ho hs
 ·rename_i op t x e;subst hr;exact snd_un H e (hx x (by rw[e];simp[Op.operands])) hs
 ·rename_i s d x e;subst hr;exact snd_conv H e (hx x (by rw[e];simp[Op.operands])) hs
 ·rename_i T x y e;exact snd_make H e (hx x (by rw[e];simp[Op.operands])) (hx y (by rw[e];simp[Op.operands])) hr hk hs
 ·rename_i T x lo hi e
  refine snd_sliO H e (hx x (by rw[e];simp[Op.operands])) (λp hp=>⟨opd fr p,by rw[hp];rfl,hx p (by rw[e,hp];simp[Op.operands])⟩) (λhp=>by rw[hp];rfl) (λp hp=>⟨opd fr p,by rw[hp];rfl,hx p (by rw[e,hp];simp[Op.operands])⟩) (λhp=>by rw[hp];rfl) hr ho hk hs
 ·rename_i T x f e;exact snd_faddr H e (hx x (by rw[e];simp[Op.operands])) hr ho hs
 ·rename_i T x f e;exact snd_field H e (hx x (by rw[e];simp[Op.operands])) hr hs
 ·rename_i T x y e;exact snd_idxB H e (hx x (by rw[e];simp[Op.operands])) (hx y (by rw[e];simp[Op.operands])) hr ho hs
 ·rename_i x i e;subst hr;exact snd_ext H e (hx x (by rw[e];simp[Op.operands])) hs
 ·rename_i c e
  obtain⟨cal,args,ts⟩:=c
  have ha:∀x∈args.toList,(opd fr x).R η (Av F own η) w (ρ x):=λx hm=>hx x (by rw[e];simp only[Op.operands,Call.operands];split<;>simp at hm⊢<;>simp[hm])
  simp only at hr
  split at hr
  ·rename_i x T h2 h3
   have e1:args=#[x]:=by rw[←Array.toList_inj];exact h2
   have e2:ts=#[T]:=by rw[←Array.toList_inj];exact h3
   subst e1;subst e2
   exact snd_len H e (ha x (by simp)) hr ho hs
  ·rename_i x y T T' h2 h3
   have e1:args=#[x,y]:=by rw[←Array.toList_inj];exact h2
   have e2:ts=#[T,T']:=by rw[←Array.toList_inj];exact h3
   subst e1;subst e2
   exact snd_app H e (ha x (by simp)) (ha y (by simp)) hr ho hk hs
  ·rename_i x y T T' h2 h3
   have e1:args=#[x,y]:=by rw[←Array.toList_inj];exact h2
   have e2:ts=#[T,T']:=by rw[←Array.toList_inj];exact h3
   subst e1;subst e2
   exact snd_copy H e (ha x (by simp)) (ha y (by simp)) hr ho hs
  ·exact snd_mm (mx:=true) (ts:=ts) H (by rw[e];simp) ha hr hs
  ·exact snd_mm (mx:=false) (ts:=ts) H (by rw[e];simp) ha hr hs
  ·rename_i f
   exact snd_callF H (by rw[e]) (hρ f) (by simp) (λi p x hp hxx=>by
    rw[List.getElem?_map,hp] at hxx
    obtain rfl:=Option.some.inj hxx
    exact ha p (List.mem_of_getElem? hp)) hr ho hk hs
  ·subst hr;exact hs.elim
 ·subst hr;exact hs.elim
def strip (fr:Tmp->SV):Tmp->SV:=λt=>match fr t with
 | .opt _ s=>s
 | s=>s
def optC (fr:Tmp->SV) (c:Bool):List Operand->List Prop
  | []=>[]
  | .tmp t :: l => (match fr t with
    | .opt c' _=>[c=true->c'=true]
    | _=>[])++optC fr c l
  | _::l=>optC fr c l
def keepT:Op->List Tmp
 | .pick c a b=>([a,b].filterMap λx=>match x with | .tmp t=>some t | _=>none).filter λt=>match c with | .tmp u=>t !=u | _=>true
 | _=>[]
def stripK (K:List Tmp) (fr:Tmp->SV):Tmp->SV:=λt=>if t∈K then fr t else strip fr t
def maskK (K:List Tmp) (fr:Tmp->SV):Tmp->SV:=λt=>if t∈K then .any else fr t
def opG [Fz] (P:Program) (ops:Array Oper) (fr:Tmp->SV) (own:Nat->Hl) (nx:Nat) (o:Oper) (h:Hint):Res:=match o.guard with
  | none=>opR P fr own nx o.op h
  | some (g, want) => match yH ops g with
    | none=>bad
    | some d => match boolOf (fr d) with
      | none=>bad
      | some (t,cs)=>
        let c:=cs.all id&&(t==want)
        let r:=opR P (stripK (keepT o.op) fr) own nx o.op h
        if r.new.isEmpty=true then⟨.opt c r.sv,optC (maskK (keepT o.op) fr) c o.op.operands.toList++r.side.map (λp=>c=true->p),[],r.rd⟩ else⟨.opt c r.sv,(c=true)::(optC (maskK (keepT o.op) fr) c o.op.operands.toList++r.side),r.new,r.rd⟩
theorem optC_ok [Fz]{c:Bool}{A:Nat->Prop}(hc:c=true):∀(l:List Operand),conj (optC fr c l)->(∀x∈l,(opd fr x).R η A w (ρ x))->∀x∈l,(opd (strip fr) x).R η A w (ρ x)
 | [],_,_,x,hx=>by cases hx
 | y::l,h,hall,x,hx=>by
  have rest:conj (optC fr c l)->x∈l->(opd (strip fr) x).R η A w (ρ x):=λh' hm=>optC_ok hc l h' (λz hz=>hall z (by simp[hz])) x hm
  cases y with
  | tmp t=>
   obtain⟨h1,h2⟩:=zD h
   rcases List.mem_cons.1 hx with e | hm
   ·subst e
    have:=hall (.tmp t) (by simp)
    show(strip fr t).R η A w _
    unfold strip
    have h3:(fr t).R η A w (ρ (.tmp t)):=this
    split
    ·rename_i c' s e
     rw[e] at h3
     have h1':conj [c=true->c'=true]:=by
      rw[e] at h1;exact h1
     exact h3.1 (h1' hc)
    ·exact h3
   ·exact rest h2 hm
  | const v=>
   rcases List.mem_cons.1 hx with e | hm
   ·subst e;exact hall (.const v) (by simp)
   ·exact rest h hm
  | global g=>
   rcases List.mem_cons.1 hx with e | hm
   ·subst e;trivial
   ·exact rest h hm
  | func f=>
   rcases List.mem_cons.1 hx with e | hm
   ·subst e;trivial
   ·exact rest h hm
theorem optK_ok [Fz]{c:Bool}{A:Nat->Prop}{K:List Tmp}(hc:c=true)(l:List Operand)(h:conj (optC (maskK K fr) c l))(hall:∀x∈l,(opd fr x).R η A w (ρ x)):∀x∈l,(opd (stripK K fr) x).R η A w (ρ x):=λx hx=>by
 have h2:=optC_ok (fr:=maskK K fr) hc l h (λy hy=>by
  have:=hall y hy
  cases y with
  | tmp t=>
   show(maskK K fr t).R η A w _
   unfold maskK
   split
   ·trivial
   ·exact this
  | const v=>exact this
  | global g=>exact this
  | func f=>exact this) x hx
 cases x with
 | tmp t=>
  have h3:(strip (maskK K fr) t).R η A w (ρ (.tmp t)):=h2
  show(stripK K fr t).R η A w _
  unfold stripK
  by_cases e:t∈K
  ·rw[if_pos e];exact hall _ hx
  ·rw[if_neg e]
   have:strip (maskK K fr) t=strip fr t:=by unfold strip maskK;rw[if_neg e]
   rw[←this];exact h3
 | const v=>exact h2
 | global g=>exact h2
 | func f=>exact h2
theorem conj_imp{c:Bool}(hc:c=true):∀(l:List Prop),conj (l.map λp=>c=true->p)->conj l
 | [],_=>trivial
 | [_],h=>h hc
 | _::q::l,h=>⟨h.1 hc,conj_imp hc (q::l) h.2⟩
theorem yielded_getD{ops:Array Oper}{g:Nat}{t:Tmp}{tmps:Array Value}(hd:yH ops g=some t):yielded ops tmps g=guardV (tmps.getD t undef):=by
 cases ht:tmps[t]? with
 | some v=>rw[yielded_of hd ht];simp[ht]
 | none=>
  unfold yielded
  unfold yH at hd
  rw[hd]
  simp[ht]
  rfl
theorem boolOf_val [Fz]{a:SV}{t:Bool}{cs:List Bool}{A:Nat->Prop}{v:Value}(h:boolOf a=some (t,cs))(hv:a.R η A w v)(want:Bool):(guardV v==some want)=(cs.all id&&(t==want)):=by
 unfold boolOf at h
 split at h
 ·simp only[Option.some.injEq,Prod.mk.injEq] at h
  obtain⟨rfl,rfl⟩:=h
  obtain rfl:v=.bool _:=hv
  simp[guardV]
 ·rename_i c t0
  simp only[Option.some.injEq,Prod.mk.injEq] at h
  obtain⟨rfl,rfl⟩:=h
  cases c with
  | true=>obtain rfl:v=.bool _:=hv.1 rfl;simp[guardV]
  | false=>rw[hv.2 rfl];rfl
 ·cases h
theorem jY:∀(l:List (Nat×Hl)) (own own':Nat->Hl) (k:Nat),yA own l k=if k∈l.map (·.1) then yA own' l k else own k
 | [],own,own',k=>by simp[yA]
 | p::l,own,own',k=>by
  show yA (zY own p.1 p.2) l k=if k∈(p::l).map (·.1) then yA (zY own' p.1 p.2) l k else own k
  rw[jY l (zY own p.1 p.2) (zY own' p.1 p.2) k]
  by_cases h:k∈l.map (·.1)
  ·rw[if_pos h,if_pos (by simp at h⊢;exact .inr h)]
  ·rw[if_neg h]
   by_cases e:k=p.1
   ·subst e
    rw[if_pos (by simp),jY l (zY own' p.1 p.2) own p.1,if_neg h]
    unfold zY
    rw[if_pos rfl,if_pos rfl]
   ·rw[if_neg (by simp at h⊢;exact⟨e,h⟩)]
    unfold zY
    rw[if_neg e]
theorem opG_ok [Fz]{ops:Array Oper}{σ:Nat->SSt}{wr rd:Nat->List Nat}{N i:Nat}{r:Res}(ho:ops[i]?=some o)(hr:opG P ops (σ i).fr (σ i).own nx o hh=r)(hs:conj r.side)(hd:∀d,o.dst=some d->d<N)(hu:∀k,nx<=k->(σ i).own k=.unborn)
  (hwr:wr i=r.new.map (·.1))(hrd:rd i=r.rd)(hfr:∀d,o.dst=some d->(σ (i+1)).fr d=r.sv)(hown:(σ (i+1)).own=yA (σ i).own r.new):OpOK P ops σ wr rd M F w0 N i:=by
 intro o' ψ η a w ho' hsl hkn hS
 rw[ho] at ho'
 obtain rfl:=Option.some.inj ho'
 have hdst:yH ops i=o.dst:=by simp[yH,ho]
 have hstep:(ψ.step ops σ wr i).own=yA ψ.own r.new:=funext λk=>by
  show(if k∈wr i then _ else _)=_
  rw[hwr,hown,jY r.new ψ.own (σ i).own k]
 have hin:∀x∈o.op.operands.toList,(opd (σ i).fr x).R η (Av F ψ.own η) w (a.eval x):=λx hx=>by
  cases x with
  | tmp t=>
   have:ψ.fr t=(σ i).fr t:=hsl t (List.mem_append_left _ (List.mem_filterMap.2 ⟨.tmp t,hx,rfl⟩))
   show((σ i).fr t).R η _ w _
   rw[←this]
   exact hS.sl t
  | const v=>exact rfl
  | global g=>trivial
  | func f=>trivial
 have hko:∀k∈r.rd,ψ.own k=(σ i).own k:=λk hk=>hkn k (.inl (by rw[hrd];exact hk))
 have hkk:∀p∈r.new,nx<=p.1->ψ.own p.1=.unborn:=λp hp hle=>by
  rw[hkn p.1 (.inr (by rw[hwr];exact List.mem_map.2 ⟨p,hp,rfl⟩)),hu _ hle]
 have fin:∀v w' η',Hp M F w0 (yA ψ.own r.new) η' w'->Keep η η' (Av F ψ.own η) (Av F (yA ψ.own r.new) η') w w'->r.sv.R η' (Av F (yA ψ.own r.new) η') w' v->Sat M F w0 N (ψ.step ops σ wr i) η' (a.put o.dst v) w':=λv w' η' h1 h2 h3=>by
  refine⟨by rw[hstep];exact h1,λt=>?_,by rw[put_size];exact hS.size,by rw[put_def];exact hS.dfr⟩
  rw[hstep]
  show(if yH ops i=some t then(σ (i+1)).fr t else ψ.fr t).R _ _ _ _
  rw[hdst]
  by_cases e:o.dst=some t
  ·rw[if_pos e,hfr t e,e]
   have hlt:=hd t e
   have:(a.put (some t) v).tmps.getD t undef=v:=by rw[kF,put_get,if_pos rfl,if_pos (by rw[hS.size];exact hlt)];rfl
   rw[this];exact h3
  ·rw[if_neg e]
   have:(a.put o.dst v).tmps.getD t undef=a.tmps.getD t undef:=by
    cases hdd:o.dst with
    | none=>rfl
    | some d=>rw[kF,put_get,if_neg (λe'=>e (by rw[hdd,e'])),kF]
   rw[this]
   exact SV.keep h2 _ _ (hS.sl t)
 unfold opG at hr
 split at hr
 ·rename_i hg
  have hw:Region.wanted o (yielded ops a.tmps)=true:=wanted_none hg
  rw[if_pos hw]
  exact(op_snd hS.hp hin (λf=>rfl) hr hko hkk hs).mono λv w' ⟨η',h1,h2,h3⟩=>⟨η',fin v w' η' h1 h2 h3⟩
 ·rename_i g want hg
  split at hr
  ·subst hr;exact hs.elim
  ·rename_i d hgd
   split at hr
   ·subst hr;exact hs.elim
   ·rename_i t cs hb
    simp only at hr
    split at hr
    ·rename_i hne
     have hdl:d∈o.looksAt ops:=List.mem_append_right _ (by
      have:(ops[g]?).bind (·.dst)=some d:=hgd
      simp[hg,this])
     have hvd:((σ i).fr d).R η (Av F ψ.own η) w (a.tmps.getD d undef):=by rw[←hsl d hdl];exact hS.sl d
     have hwant:Region.wanted o (yielded ops a.tmps)=(cs.all id&&(t==want)):=by
      rw[←boolOf_val hb hvd want,←yielded_getD hgd]
      simp[Region.wanted,hg]
     generalize hcc:(cs.all id&&(t==want))=c at hr hwant
     generalize hq:opR P (stripK (keepT o.op) (σ i).fr) (σ i).own nx o.op hh=q at hr hne
     subst hr
     obtain⟨s1,s2⟩:=zD hs
     rw[hwant]
     cases c with
     | true=>
      rw[if_pos rfl]
      have hn:q.new=[]:=List.isEmpty_iff.1 hne
      refine(op_snd hS.hp (optK_ok rfl _ s1 hin) (λf=>rfl) hq hko (λp hp=>by rw[hn] at hp;cases hp) (conj_imp rfl _ s2)).mono λv w' ⟨η',h1,h2,h3⟩=>⟨η',fin v w' η' ?_ ?_ ?_⟩
      ·rw[hn] at h1;exact h1
      ·rw[hn] at h2;exact h2
      ·rw[hn] at h3;exact⟨λ_=>h3,λe=>by cases e⟩
     | false=>
      rw[if_neg (by decide)]
      exact⟨η,fin undef w η hS.hp (Keep.weak λ_ _ h=>h) ⟨(λe=>by cases e),λ_=>rfl⟩⟩
    ·have hdl:d∈o.looksAt ops:=List.mem_append_right _ (by
      have:(ops[g]?).bind (·.dst)=some d:=hgd
      simp[hg,this])
     have hvd:((σ i).fr d).R η (Av F ψ.own η) w (a.tmps.getD d undef):=by rw[←hsl d hdl];exact hS.sl d
     have hwant:Region.wanted o (yielded ops a.tmps)=(cs.all id&&(t==want)):=by
      rw[←boolOf_val hb hvd want,←yielded_getD hgd]
      simp[Region.wanted,hg]
     generalize hcc:(cs.all id&&(t==want))=c at hr hwant
     generalize hq:opR P (stripK (keepT o.op) (σ i).fr) (σ i).own nx o.op hh=q at hr
     subst hr
     obtain⟨hct,hs⟩:=xJ hs
     obtain⟨s1,s2⟩:=zD hs
     rw[hwant,if_pos hct]
     subst hct
     exact(op_snd hS.hp (optK_ok rfl _ s1 hin) (λf=>rfl) hq hko hkk s2).mono λv w' ⟨η',h1,h2,h3⟩=>⟨η',fin v w' η' h1 h2 ⟨λ_=>h3,λe=>by cases e⟩⟩
end
open Go.RowKit
def Stt.put (s:Stt) (o:Oper) (r:Res):Stt:=
  { fr := match o.dst with
      | some d=>(d,r.sv)::s.fr
      | none=>s.fr
    own:=r.new.reverse++s.own,nx:=r.new.foldl (λm p=>max m (p.1+1)) s.nx}
def resAt [Fz] (P:Program) (ops:Array Oper) (hs:List (Nat×Hint)) (s:Stt) (i:Nat) (o:Oper):Res:=opG P ops (lk .any s.fr) (lk .unborn s.own) s.nx o (lk .no hs i)
def regF [Fz] (P:Program) (ops:Array Oper) (hs:List (Nat×Hint)):List Oper->Nat->Stt->List Prop×Stt×List (List Nat×List Nat)
 | [],_,s=>([],s,[])
 | o::os,i,s=>
  let r:=resAt P ops hs s i o
  let q:=regF P ops hs os (i+1) (s.put o r)
  (r.side++q.1,q.2.1,(r.new.map (·.1),r.rd)::q.2.2)
def regB (draw:Bool) (ops:Array Oper) (N:Nat) (q:List (List Nat×List Nat)):Bool:=
 ops.toList.all (λo=>match o.dst with | some d=>decide (d<N) | none=>true)&&(!draw||regOK .any ops N (λi=>(q.getD i ([],[])).1) (λi=>(q.getD i ([],[])).2))
def Unb (s:Stt):Prop:=∀k,s.nx<=k->lk Hl.unborn s.own k=.unborn
section
variable {P:Program} {ops:Array Oper} {hs:List (Nat×Hint)} {s:Stt}
theorem lk_rev:∀(l m:List (Nat×Hl)),lk Hl.unborn (l.reverse++m)=yA (lk .unborn m) l:=by
 intro l
 induction l with
 | nil=>intro m;rfl
 | cons p l ih=>
  intro m
  rw[List.reverse_cons,List.append_assoc,ih ([p]++m)]
  show yA _ l=yA (zY (lk .unborn m) p.1 p.2) l
  congr 1
def seqS [Fz] (P:Program) (ops:Array Oper) (hs:List (Nat×Hint)) (s:Stt):Nat->Stt
  | 0=>s
  | i + 1 => match ops[i]? with
    | some o=>(seqS P ops hs s i).put o (resAt P ops hs (seqS P ops hs s i) i o)
    | none=>seqS P ops hs s i
theorem seqS_succ [Fz]{i:Nat}{o:Oper}(h:ops[i]?=some o):seqS P ops hs s (i+1)=(seqS P ops hs s i).put o (resAt P ops hs (seqS P ops hs s i) i o):=by
 show(match ops[i]? with | some o=>_ | none=>_)=_
 rw[h]
theorem regF_spec [Fz]:∀(d i:Nat),i+d=ops.size->(regF P ops hs (ops.toList.drop i) i (seqS P ops hs s i)).2.1=seqS P ops hs s ops.size/\
  (conj (regF P ops hs (ops.toList.drop i) i (seqS P ops hs s i)).1->∀j o,i<=j->ops[j]?=some o->conj (resAt P ops hs (seqS P ops hs s j) j o).side)/\
  ∀j o,i<=j->ops[j]?=some o->(regF P ops hs (ops.toList.drop i) i (seqS P ops hs s i)).2.2[j-i]?=some ((resAt P ops hs (seqS P ops hs s j) j o).new.map (·.1),(resAt P ops hs (seqS P ops hs s j) j o).rd)
 | 0,i,h=>by
  obtain rfl:i=ops.size:=by omega
  rw[List.drop_eq_nil_of_le (by simp)]
  refine⟨rfl,λ_ j o hj ho=>?_,λj o hj ho=>?_⟩<;>exact absurd (Array.getElem?_eq_some_iff.1 ho).1 zo
 | d+1,i,h=>by
  have hi:i<ops.size:=by omega
  have ho:ops[i]?=some ops[i]:=Array.getElem?_eq_getElem hi
  have hdrop:ops.toList.drop i=ops[i]::ops.toList.drop (i+1):=by
   rw[List.drop_eq_getElem_cons (by simpa using hi)]
   congr 1
  obtain⟨h1,h2,h3⟩:=regF_spec d (i+1) zo
  rw[hdrop]
  unfold regF
  simp only
  rw[←seqS_succ ho]
  refine⟨h1,λhc j o hj hjo=>?_,λj o hj hjo=>?_⟩
  ·obtain⟨c1,c2⟩:=zD hc
   by_cases e:j=i
   ·subst e
    rw[ho] at hjo
    obtain rfl:=Option.some.inj hjo
    exact c1
   ·exact h2 c2 j o zo hjo
  ·by_cases e:j=i
   ·subst e
    rw[ho] at hjo
    obtain rfl:=Option.some.inj hjo
    rw[Nat.sub_self]
    rfl
   ·rw[show j-i=(j-(i+1))+1 by omega,List.getElem?_cons_succ]
    exact h3 j o zo hjo
theorem fold_max:∀(l:List (Nat×Hl)) (m:Nat),m<=l.foldl (λm p=>max m (p.1+1)) m/\∀p∈l,p.1<l.foldl (λm p=>max m (p.1+1)) m
 | [],m=>⟨Nat.le_refl _,λp h=>by cases h⟩
 | q::l,m=>by
  obtain⟨h1,h2⟩:=fold_max l (max m (q.1+1))
  refine⟨Nat.le_trans (Nat.le_max_left ..) h1,λp hp=>?_⟩
  rcases List.mem_cons.1 hp with e | hp
  ·subst e
   exact Nat.lt_of_lt_of_le (Nat.lt_of_lt_of_le (Nat.lt_succ_self _) (Nat.le_max_right ..)) h1
  ·exact h2 p hp
theorem Unb.put{o:Oper}{r:Res}(h:Unb s):Unb (s.put o r):=λk hk=>by
 obtain⟨h1,h2⟩:=fold_max r.new s.nx
 have hk:r.new.foldl (λm p=>max m (p.1+1)) s.nx<=k:=hk
 show lk .unborn (r.new.reverse++s.own) k=_
 rw[lk_rev,jY r.new _ (λ_=>.unborn) k,if_neg ?_]
 ·exact h k zo
 ·intro hm
  obtain⟨p,hp,rfl⟩:=List.mem_map.1 hm
  have:=h2 p hp
  omega
theorem Unb.seq [Fz](h:Unb s):∀i,Unb (seqS P ops hs s i)
 | 0=>h
 | i+1=>by
  show Unb (match ops[i]? with | some o=>_ | none=>_)
  split
  ·exact(Unb.seq h i).put
  ·exact Unb.seq h i
variable {M F:Nat->Prop} {w0 w:World} {N:Nat} {Q:Exit->Act->World->Prop} {η:Eta} {a:Act}
theorem region_stt [Fz]{id:Nat}{draw:Bool}(hm:P.follows .mixedOrders=true)(hu:Unb s)(hB:regB draw ops N (regF P ops hs ops.toList 0 s).2.2=true)(hsd:conj (regF P ops hs ops.toList 0 s).1)(hS:Sat M F w0 N s.ss η a w)
  (hfin:∀η a w,Sat M F w0 N (regF P ops hs ops.toList 0 s).2.1.ss η a w->Q .normal a w):(Code.region id ops draw).wp P Q a w:=by
 obtain⟨h1,h2,h3⟩:=regF_spec (P:=P) (ops:=ops) (hs:=hs) (s:=s) ops.size 0 zo
 have e0:ops.toList.drop 0=ops.toList:=rfl
 rw[e0] at h1 h2 h3
 have h1:(regF P ops hs ops.toList 0 s).2.1=seqS P ops hs s ops.size:=h1
 have h2:∀j o,ops[j]?=some o->conj (resAt P ops hs (seqS P ops hs s j) j o).side:=λj o=>h2 hsd j o (Nat.zero_le _)
 have h3:∀j o,ops[j]?=some o->(regF P ops hs ops.toList 0 s).2.2[j]?=some ((resAt P ops hs (seqS P ops hs s j) j o).new.map (·.1),(resAt P ops hs (seqS P ops hs s j) j o).rd):=λj o=>h3 j o (Nat.zero_le _)
 rw[h1] at hfin
 unfold regB at hB
 simp only[Bool.and_eq_true,Bool.or_eq_true,Bool.not_eq_true',List.all_eq_true] at hB
 obtain⟨hN,hreg⟩:=hB
 have hd:∀(i:Nat) (o:Oper),ops[i]?=some o->∀d,o.dst=some d->d<N:=λi o ho d hd=>by
  have:=hN o (by rw[Array.mem_toList_iff];exact Array.mem_of_getElem? ho)
  rw[hd] at this
  simpa using this
 have hw:∀(i:Nat) (o:Oper),ops[i]?=some o->((regF P ops hs ops.toList 0 s).2.2.getD i ([],[])).1=(resAt P ops hs (seqS P ops hs s i) i o).new.map (·.1)/\((regF P ops hs ops.toList 0 s).2.2.getD i ([],[])).2=(resAt P ops hs (seqS P ops hs s i) i o).rd:=λi o ho=>by
  rw[List.getD_eq_getElem?_getD,h3 i o ho]
  exact⟨rfl,rfl⟩
 refine region_go (σ:=λi=>(seqS P ops hs s i).ss) (wr:=λi=>((regF P ops hs ops.toList 0 s).2.2.getD i ([],[])).1) (rd:=λi=>((regF P ops hs ops.toList 0 s).2.2.getD i ([],[])).2) hm (λe=>hreg.resolve_left (by rw[e];decide)) ⟨λi hi t ht=>?_,λi hi k hk=>?_⟩ (λi hi=>?_) hS hfin
 ·have ho:ops[i]?=some ops[i]:=Array.getElem?_eq_getElem hi
  simp only[seqS_succ ho]
  have hne:ops[i].dst≠some t:=by
   intro e
   exact ht (by simp[yH,ho,e])
  show lk SV.any ((seqS P ops hs s i).put ops[i] (resAt P ops hs (seqS P ops hs s i) i ops[i])).fr t=_
  cases hdd:ops[i].dst with
  | none=>simp only[Stt.put,hdd];rfl
  | some d=>
   simp only[Stt.put,hdd]
   show(if t=d then _ else _)=_
   rw[if_neg (λe'=>hne (by rw[hdd,e']))]
   rfl
 ·have ho:ops[i]?=some ops[i]:=Array.getElem?_eq_getElem hi
  rw[(hw i _ ho).1] at hk
  simp only[seqS_succ ho]
  show lk Hl.unborn ((resAt P ops hs (seqS P ops hs s i) i ops[i]).new.reverse++(seqS P ops hs s i).own) k=_
  rw[lk_rev,jY _ _ (λ_=>.unborn) k,if_neg hk]
  rfl
 ·have ho:ops[i]?=some ops[i]:=Array.getElem?_eq_getElem hi
  refine opG_ok (r:=resAt P ops hs (seqS P ops hs s i) i ops[i]) ho rfl (h2 i _ ho) (hd i _ ho) ((hu.seq i)) (hw i _ ho).1 (hw i _ ho).2 (λd e=>?_) ?_
  ·simp only[seqS_succ ho]
   show lk SV.any ((seqS P ops hs s i).put ops[i] (resAt P ops hs (seqS P ops hs s i) i ops[i])).fr d=_
   simp only[Stt.put,e]
   show(if d=d then _ else _)=_
   rw[if_pos rfl]
  ·simp only[seqS_succ ho]
   exact lk_rev _ _
end
inductive Ex where
 | normal
 | exit (id:Nat)
 | ret
inductive CE:Type 1 where
 | reg (id:Nat) (h:List (Nat×Hint))
 | conv (id:Nat) (ss:List (Nat×Src)) (s:Stt)
 | conv2 (id t:Nat) (s1 s2:List (Nat×Src)) (s:Stt)
 | dec (t:Nat) (b:Bool)
 | loop (id:Nat) (G:Type) (inv:G->Prop) (mu:G->Nat) (st:G->Stt) (s0:List (Nat×Src)) (s1:G->List (Nat×Src)) (ch:G->List CE)
 | ret (id:Nat) (ss:List (Nat×Src))
 | join (id t:Nat) (s1 s2:List (Nat×Src)) (s:Stt) (inv:Prop)
 | once (id:Nat)
def fReg:List CE->Nat->List (Nat×Hint)
 | .reg id h::l,k=>if k=id then h else fReg l k
 | _::l,k=>fReg l k
 | [],_=>[]
def fJoin (l:List CE) (k:Nat):Option (Nat×List (Nat×Src)×List (Nat×Src)×Stt×Prop):=match l with
 | .join id t s1 s2 s inv::l=>if k=id then some (t,s1,s2,s,inv) else fJoin l k
 | _::l=>fJoin l k
 | []=>none
def srcBy (own:List (Nat×Hl)) (t:Nat) (s1 s2:List (Nat×Src)):List (Nat×Src):=match lk Hl.unborn own t with
 | .one _=>s1
 | _=>s2
def fConv (own:List (Nat×Hl)):List CE->Nat->Option (List (Nat×Src)×Stt)
 | .conv id ss s::l,k=>if k=id then some (ss,s) else fConv own l k
 | .conv2 id t s1 s2 s::l,k=>if k=id then some (match lk .unborn own t with | .one _=>s1 | _=>s2,s) else fConv own l k
 | _::l,k=>fConv own l k
 | [],_=>none
def fDec:List CE->Operand->Option Bool
 | .dec t b::l,.tmp k=>if k=t then some b else fDec l (.tmp k)
 | _::l,k=>fDec l k
 | [],_=>none
def fLoop:List CE->Nat->Option CE
 | .loop id G inv mu st s0 s1 ch::l,k=>if k=id then some (.loop id G inv mu st s0 s1 ch) else fLoop l k
 | _::l,k=>fLoop l k
 | [],_=>none
def fOnce:List CE->Nat->Bool
 | .once id::l,k=>if k=id then true else fOnce l k
 | _::l,k=>fOnce l k
 | [],_=>false
def fRet:List CE->Nat->List (Nat×Src)
 | .ret id ss::l,k=>if k=id then ss else fRet l k
 | _::l,k=>fRet l k
 | [],_=>[]
def firstReg:Code->Nat
 | .region id _ _=>id
 | .seq a _=>firstReg a
 | .block _ c=>firstReg c
 | .loop c=>firstReg c
 | _=>0
structure HS:Type 1 where
 s:Stt
 ch:List CE
 last:Nat
def pre:List Prop->Prop->Prop
 | [],K=>K
 | p::ps,K=>p/\pre ps K
def regV [Fz] (P:Program) (N id:Nat) (ops:Array Oper) (draw:Bool) (K:HS->Prop) (s:HS):Prop:=
 let q:=regF P ops (fReg s.ch id) ops.toList 0 s.s
 pre q.1 (if regB draw ops N q.2.2=true then K ⟨q.2.1,s.ch,id⟩ else False)
def vc [Fz] (P:Program) (N:Nat):Code->(Ex->HS->Prop)->HS->Prop
  | .skip,K,s=>K .normal s
  | .region id ops draw, K, s => match fConv s.s.own s.ch id with
    | none=>regV P N id ops draw (K .normal) s
    | some (ss,s')=>pre (conv ss s.s s') (regV P N id ops draw (K .normal) ⟨s',s.ch,s.last⟩)
  | .seq a b, K, s => match fJoin s.ch (firstReg b) with
    | none => vc P N a (λe s' => match e with
      | .normal=>vc P N b K s'
      | e=>K e s') s
    | some (t, s1, s2, st, inv) => vc P N a (λe s' => match e with
      | .normal=>pre (conv (srcBy s'.s.own t s1 s2) s'.s st) inv
      | e=>K e s') s/\(inv->vc P N b K ⟨st,s.ch,s.last⟩)
  | .cond c x y, K, s => match opd (lk .any s.s.fr) c with
    | .ex (.bool t) => match fDec s.ch c with
      | some true=>t=true/\vc P N x K s
      | some false=>t=false/\vc P N y K s
      | none=>(t=true->vc P N x K s)/\(t=false->vc P N y K s)
    | _=>False
  | .block id c, K, s => vc P N c (λe s' => match e with
    | .exit i=>if i=id then K .normal s' else K (.exit i) s'
    | e=>K e s') s
  | .loop c, K, s => match fLoop s.ch (firstReg c) with
    | some (.loop _ G inv mu st s0 s1 ch) => (if fOnce s.ch (firstReg c) = true then vc P N c (λe s' => match e with
      | .normal=>∃g0:G,pre (conv s0 s'.s (st g0)) (inv g0)
      | e=>K e s') s else∃g0:G,pre (conv s0 s.s (st g0)) (inv g0))/\∀g:G,inv g->vc P N c (λe s'=>match e with
      | .normal=>∃g':G,pre (conv (s1 g) s'.s (st g')) (inv g'/\mu g'<mu g)
      | e=>K e s') ⟨st g,ch g++s.ch,s.last⟩
    | _=>False
  | .exit id,K,s=>K (.exit id) s
  | .ret,K,s=>K .ret s
  | _,_,_=>False
theorem wp_loop_first{P:Program}{Q:Exit->Act->World->Prop}{a:Act}{w:World}{c:Code}(I:Nat->Act->World->Prop)(h:c.wp P (Exit.then (λa w=>∃n,I n a w) Q) a w)
  (round:∀n a w,I n a w->c.wp P (Exit.then (λa' w'=>∃n',n'<n/\I n' a' w') Q) a w):(Code.loop c).wp P Q a w:=by
 intro b k cs
 have key:∀n a w,I n a w->∃e a' w',Q e a' w'/\Arrives P (lone (b.at a (.code c::.inLoop c::k)) cs w) b k cs e a' w':=by
  intro n
  induction n using Nat.strongRecOn with
  | _ n ih=>
   intro a w hI
   obtain⟨e,a₁,w₁,hq,harr⟩:=round n a w hI b (.inLoop c::k) cs
   cases e with
   | normal=>
    obtain⟨n',hn,hI'⟩:=hq
    obtain⟨e₂,a₂,w₂,hq₂,harr₂⟩:=ih n' hn a₁ w₁ hI'
    exact⟨e₂,a₂,w₂,hq₂,.of_steps (Steps.trans harr (.one step_inLoop)) harr₂⟩
   | exit id=>exact⟨_,a₁,w₁,hq,.pass (x:=.inLoop c) rfl (λ_ _=>.inl (by simp)) harr⟩
   | goto l=>exact⟨_,a₁,w₁,hq,.pass (x:=.inLoop c) rfl (λ_ _=>.inl (by simp)) harr⟩
   | ret=>exact⟨_,a₁,w₁,hq,.pass (x:=.inLoop c) rfl (λ_ _=>.inl (by simp)) harr⟩
   | panic ch=>exact⟨_,a₁,w₁,hq,.pass (x:=.inLoop c) rfl (λ_ _=>.inl (by simp)) harr⟩
   | outgrown=>exact⟨_,a₁,w₁,hq,.pass (x:=.inLoop c) rfl (λ_ _=>.inl (by simp)) harr⟩
 obtain⟨e,a₁,w₁,hq,harr⟩:=h b (.inLoop c::k) cs
 cases e with
 | normal=>
  obtain⟨n,hI⟩:=hq
  obtain⟨e₂,a₂,w₂,hq₂,harr₂⟩:=key n a₁ w₁ hI
  exact⟨e₂,a₂,w₂,hq₂,.of_steps (.one step_loop) (.of_steps (Steps.trans harr (.one step_inLoop)) harr₂)⟩
 | exit id=>exact⟨_,a₁,w₁,hq,.of_steps (.one step_loop) (.pass (x:=.inLoop c) rfl (λ_ _=>.inl (by simp)) harr)⟩
 | goto l=>exact⟨_,a₁,w₁,hq,.of_steps (.one step_loop) (.pass (x:=.inLoop c) rfl (λ_ _=>.inl (by simp)) harr)⟩
 | ret=>exact⟨_,a₁,w₁,hq,.of_steps (.one step_loop) (.pass (x:=.inLoop c) rfl (λ_ _=>.inl (by simp)) harr)⟩
 | panic ch=>exact⟨_,a₁,w₁,hq,.of_steps (.one step_loop) (.pass (x:=.inLoop c) rfl (λ_ _=>.inl (by simp)) harr)⟩
 | outgrown=>exact⟨_,a₁,w₁,hq,.of_steps (.one step_loop) (.pass (x:=.inLoop c) rfl (λ_ _=>.inl (by simp)) harr)⟩
theorem pre_ok:∀{l:List Prop} {K:Prop},pre l K->conj l/\K
 | [],_,h=>⟨trivial,h⟩
 | [_],_,h=>h
 | _::q::l,K,h=>by
  obtain⟨h1,h2⟩:=pre_ok (l:=q::l) h.2
  exact⟨⟨h.1,h1⟩,h2⟩
def toX:Ex->Exit
 | .normal=>.normal
 | .exit id=>.exit id
 | .ret=>.ret
section
variable {P:Program} {M F:Nat->Prop} {w0:World} {N:Nat}
def Rel [Fz] (M F:Nat->Prop) (w0:World) (N:Nat) (K:Ex->HS->Prop) (Q:Exit->Act->World->Prop):Prop:=∀e s η a w,K e s->Unb s.s->Sat M F w0 N s.s.ss η a w->Q (toX e) a w
theorem Unb.conv [Fz]{ss:List (Nat×Src)}{s s':Stt}(h:conj (conv ss s s')):Unb s':=(conv_based h).2.2
theorem regV_ok [Fz]{id:Nat}{ops:Array Oper}{draw:Bool}{K:Ex->HS->Prop}{s:HS}{Q:Exit->Act->World->Prop}{η:Eta}{a:Act}{w:World}(hm:P.follows .mixedOrders=true)(h:regV P N id ops draw (K .normal) s)(hu:Unb s.s)(hS:Sat M F w0 N s.s.ss η a w)(hK:Rel M F w0 N K Q):(Code.region id ops draw).wp P Q a w:=by
 unfold regV at h
 simp only at h
 obtain⟨h1,h2⟩:=pre_ok h
 split at h2
 ·rename_i hB
  refine region_stt hm hu hB h1 hS λη a w hs=>hK .normal _ η a w h2 ?_ hs
  have:=(regF_spec (P:=P) (ops:=ops) (hs:=fReg s.ch id) (s:=s.s) ops.size 0 zo).1
  have e:(regF P ops (fReg s.ch id) ops.toList 0 s.s).2.1=seqS P ops (fReg s.ch id) s.s ops.size:=this
  show Unb (regF P ops (fReg s.ch id) ops.toList 0 s.s).2.1
  rw[e]
  exact hu.seq _
 ·exact h2.elim
theorem vc_ok [Fz](hm:P.follows .mixedOrders=true):∀(c:Code) (K:Ex->HS->Prop) (Q:Exit->Act->World->Prop) (s:HS) (η:Eta) (a:Act) (w:World),vc P N c K s->Unb s.s->Sat M F w0 N s.s.ss η a w->Rel M F w0 N K Q->c.wp P Q a w:=by
 intro c
 induction c with
 | skip=>intro K Q s η a w h hu hS hK;exact wp_skip (hK .normal s η a w h hu hS)
 | region id ops draw=>
  intro K Q s η a w h hu hS hK
  unfold vc at h
  split at h
  ·exact regV_ok hm h hu hS hK
  ·rename_i ss s' _
   obtain⟨h1,h2⟩:=pre_ok h
   exact regV_ok (s:=⟨s',s.ch,s.last⟩) hm h2 (Unb.conv h1) (hS.conv h1) hK
 | seq x y ihx ihy=>
  intro K Q s η a w h hu hS hK
  unfold vc at h
  split at h
  ·refine wp_seq (ihx _ _ s η a w h hu hS λe s' η' a' w' h' hu' hS'=>?_)
   cases e with
   | normal=>exact ihy K Q s' η' a' w' h' hu' hS' hK
   | exit id=>exact hK (.exit id) s' η' a' w' h' hu' hS'
   | ret=>exact hK .ret s' η' a' w' h' hu' hS'
  ·refine wp_seq (ihx _ _ s η a w h.1 hu hS λe s' η' a' w' h' hu' hS'=>?_)
   cases e with
   | normal=>
    obtain⟨h1,h2⟩:=pre_ok h'
    exact ihy K Q _ _ a' w' (h.2 h2) (Unb.conv h1) (hS'.conv h1) hK
   | exit id=>exact hK (.exit id) s' η' a' w' h' hu' hS'
   | ret=>exact hK .ret s' η' a' w' h' hu' hS'
 | cond c x y ihx ihy=>
  intro K Q s η a w h hu hS hK
  unfold vc at h
  split at h
  ·rename_i t hc
   have hev:a.eval c=.bool t:=by
    cases c with
    | tmp k=>
     have:=hS.sl k
     have e:(lk SV.any s.s.fr k)=.ex (.bool t):=hc
     have this:(lk SV.any s.s.fr k).R _ _ _ _:=this
     rw[e] at this
     exact this
    | const v=>simp only[opd,SV.ex.injEq] at hc;exact hc
    | global g=>cases hc
    | func f=>cases hc
   split at h
   ·obtain⟨rfl,h⟩:=h
    exact wp_cond_true hev (ihx K Q s η a w h hu hS hK)
   ·obtain⟨rfl,h⟩:=h
    exact wp_cond_false hev (ihy K Q s η a w h hu hS hK)
   ·exact wp_cond_split hev (λht=>ihx K Q s η a w (h.1 ht) hu hS hK) λht=>ihy K Q s η a w (h.2 ht) hu hS hK
  ·exact h.elim
 | block id c ih=>
  intro K Q s η a w h hu hS hK
  refine wp_block (ih _ _ s η a w h hu hS λe s' η' a' w' h' hu' hS'=>?_)
  cases e with
  | normal=>exact hK .normal s' η' a' w' h' hu' hS'
  | exit i=>
   show(if i=id then Q .normal a' w' else Q (.exit i) a' w')
   have h':(if i=id then K .normal s' else K (.exit i) s'):=h'
   split at h'
   ·rename_i e;rw[if_pos e];exact hK .normal s' η' a' w' h' hu' hS'
   ·rename_i e;rw[if_neg e];exact hK (.exit i) s' η' a' w' h' hu' hS'
  | ret=>exact hK .ret s' η' a' w' h' hu' hS'
 | loop c ih=>
  intro K Q s η a w h hu hS hK
  unfold vc at h
  split at h
  ·rename_i id G inv mu st s0 s1 ch _
   obtain⟨hf,hr⟩:=h
   have round:∀(n:Nat) (a':Act) (w':World),(∃g η,mu g=n/\inv g/\Unb (st g)/\Sat M F w0 N (st g).ss η a' w')->c.wp P (Exit.then (λa'' w''=>∃n',n'<n/\∃g η,mu g=n'/\inv g/\Unb (st g)/\Sat M F w0 N (st g).ss η a'' w'') Q) a' w':=by
    rintro n a' w' ⟨g,η',rfl,hi,hug,hSg⟩
    refine ih _ _ ⟨st g,ch g++s.ch,s.last⟩ η' a' w' (hr g hi) hug hSg λe s' η2 a2 w2 h' hu' hS'=>?_
    cases e with
    | normal=>
     obtain⟨g',hg⟩:=h'
     obtain⟨c1,i1,i2⟩:=pre_ok hg
     exact⟨mu g',i2,g',_,rfl,i1,Unb.conv c1,hS'.conv c1⟩
    | exit id=>exact hK (.exit id) s' η2 a2 w2 h' hu' hS'
    | ret=>exact hK .ret s' η2 a2 w2 h' hu' hS'
   split at hf
   ·refine wp_loop_first (λn a w=>∃g η,mu g=n/\inv g/\Unb (st g)/\Sat M F w0 N (st g).ss η a w) ?_ round
    refine ih _ _ s η a w hf hu hS λe s' η2 a2 w2 h' hu' hS'=>?_
    cases e with
    | normal=>
     obtain⟨g0,hg⟩:=h'
     obtain⟨c0,i0⟩:=pre_ok hg
     exact⟨mu g0,g0,_,rfl,i0,Unb.conv c0,hS'.conv c0⟩
    | exit id=>exact hK (.exit id) s' η2 a2 w2 h' hu' hS'
    | ret=>exact hK .ret s' η2 a2 w2 h' hu' hS'
   ·obtain⟨g0,h0⟩:=hf
    obtain⟨c0,i0⟩:=pre_ok h0
    exact wp_loop_ghost (λn a w=>∃g η,mu g=n/\inv g/\Unb (st g)/\Sat M F w0 N (st g).ss η a w) (mu g0) ⟨g0,_,rfl,i0,Unb.conv c0,hS.conv c0⟩ round
  ·exact h.elim
 | exit id=>intro K Q s η a w h hu hS hK;exact wp_exit (hK (.exit id) s η a w h hu hS)
 | ret=>intro K Q s η a w h hu hS hK;exact wp_ret (hK .ret s η a w h hu hS)
 | _=>intro _ _ _ _ _ _ h;exact h.elim
end
def SV.no:SV->List Prop
 | .own .. | .ref ..=>[False]
 | .sl _ E n=>[∀i,i<n->conj (E i).no]
 | .ep a=>a.no
 | .cn a b=>a.no++b.no
 | .agg l=>l.no
 | .opt _ a=>a.no
 | .ifc _ a=>a.no
 | .alt _ a b=>a.no++b.no
 | _=>[]
def noAll:List SV->List Prop
 | []=>[]
 | a::l=>a.no++noAll l
def jM:Nat->List SV->List (Nat×SV)
 | _,[]=>[]
 | i,a::l=>(i,a)::jM (i+1) l
def rvF (tmps:Array Value):ResultVar->Sem Value
 | .tmp t=>pure (tmps.getD t undef)
 | .cell a t=>do loadVar t (←asAddr (tmps.getD a undef))
def resSV [Fz] (P:Program) (s:Stt):ResultVar->Option SV
  | .tmp t=>some (lk .any s.fr t)
  | .cell t T => match lk SV.any s.fr t, tyNK P T with
    | .own k i, some (n, kk) => match (lk Hl.unborn s.own k).gs i with
      | (ob, []) => match readO n kk ob 0 0 0 with
        | some (a,[])=>some a
        | _=>none
      | _=>none
    | _,_=>none
def lstSV:List SV->SV
 | []=>.nl
 | a::l=>.cn a (lstSV l)
def retSV [Fz] (P:Program) (s:Stt) (rs:List ResultVar):Option SV:=match rs with
  | [r]=>resSV P s r
  | []=>some .nl
  | [r1, r2] => match resSV P s r1, resSV P s r2 with
    | some a,some b=>some (lstSV [a,b])
    | _,_=>none
  | [r1, r2, r3] => match resSV P s r1, resSV P s r2, resSV P s r3 with
    | some a,some b,some c=>some (lstSV [a,b,c])
    | _,_,_=>none
  | _=>none
def retV [Fz] (P:Program) (fn:Func) (R:SV) (news:List Hl) (s:HS):Prop:=match retSV P s.s fn.results.toList with
 | some a=>conj (conv (fRet s.ch s.last) ⟨[(0,a)],s.s.own,s.s.nx⟩ ⟨[(0,R)],yR 0 news,news.length⟩)
 | none=>False
def retK [Fz] (P:Program) (fn:Func) (R:SV) (news:List Hl):Ex->HS->Prop
 | .exit _,_=>False
 | _,s=>retV P fn R news s
section
variable {P:Program} {M F:Nat->Prop} {w0 w:World} {N:Nat} {η η':Eta} {A:Nat->Prop}
theorem SV.no_ok [Fz]:∀(a:SV) (v:Value),conj a.no->a.R η A w v->a.R η' A w v:=by
 intro a
 induction a with
 | own k i=>intro _ h;exact h.elim
 | ref k i s j off=>intro _ h;exact h.elim
 | sl s E n ih=>
  rintro v h ⟨A0,c,e,h1,h2,h3,k⟩
  refine⟨A0,c,e,h1,h2,h3,λi hi=>?_⟩
  obtain⟨g,o,e1,e2,e3,e0,e4,e5,e6⟩:=k i hi
  exact⟨g,o,e1,e2,e3,e0,e4,ih i _ (h i hi) e5,e6⟩
 | ep a ih=>
  rintro v h ⟨g,o,e1,e2,e3,e0,e5,e6⟩
  exact⟨g,o,e1,e2,e3,e0,ih _ h e5,e6⟩
 | cn a b iha ihb=>
  rintro v h ⟨x,xs,e,h1,h2⟩
  obtain⟨n1,n2⟩:=zD h
  exact⟨x,xs,e,iha _ n1 h1,ihb _ n2 h2⟩
 | agg l ih=>
  rintro v h ⟨vs,e,h1⟩
  exact⟨vs,e,ih _ h h1⟩
 | opt c a ih=>
  rintro v h ⟨h1,h2⟩
  exact⟨λhc=>ih _ h (h1 hc),h2⟩
 | ifc T a ih=>
  rintro v h ⟨u,e,h1⟩
  exact⟨u,e,ih _ h h1⟩
 | alt c a b iha ihb=>
  rintro v h ⟨h1,h2⟩
  obtain⟨n1,n2⟩:=zD h
  exact⟨λhc=>iha _ n1 (h1 hc),λhc=>ihb _ n2 (h2 hc)⟩
 | any=>intro _ _ _;trivial
 | _=>intro _ _ h;exact h
theorem resSV_ok [Fz]{s:Stt}{r:ResultVar}{c:SV}{a:Act}(h:resSV P s r=some c)(hS:Sat M F w0 N s.ss η a w):∃v,(rvF a.tmps r).run P w=.ok v w/\c.R η (Av F (lk .unborn s.own) η) w v:=by
 cases r with
 | tmp t=>obtain rfl:=Option.some.inj h;exact⟨_,rfl,hS.sl t⟩
 | cell t T=>
  unfold resSV at h
  simp only at h
  split at h
  ·rename_i k i n kk hl hT
   split at h
   ·rename_i ob hg
    split at h
    ·rename_i a' hr
     obtain rfl:=Option.some.inj h
     have hv:=hS.sl t
     have hv:(lk SV.any s.fr t).R η _ w (a.tmps.getD t undef):=hv
     rw[hl] at hv
     cases ob with
     | none=>cases hr
     | some ob=>
      have hob:=xG hg trivial
      obtain⟨hd,he,hok⟩:=hS.hp.ob k i ob hob
      obtain⟨b,oo,u,e1,e2,e3,e4,e5,e6⟩:=readO_ok (a:=.own k i) rfl hr hv he hok trivial
      refine⟨u,?_,e4⟩
      have:=load_at (P:=P) hT e5 e6
      show(do loadVar T (←asAddr (a.tmps.getD t undef)):Sem Value).run P w=_
      rw[e1]
      simpa [Instr.loadAt,Instr.sureAddr,Sem.run_bind,asAddr] using this
    ·cases h
   ·cases h
  ·cases h
theorem retSV_ok [Fz]{s:Stt}{fn:Func}{c:SV}{a:Act}(h:retSV P s fn.results.toList=some c)(hS:Sat M F w0 N s.ss η a w):∃v,(results fn a.tmps).run P w=.ok v w/\c.R η (Av F (lk .unborn s.own) η) w v:=by
 have hres:results fn a.tmps=(do
  let vs←fn.results.mapM (rvF a.tmps)
  pure (if h:vs.size=1 then vs[0] else .tuple vs)):=by
   unfold results
   congr 1
 unfold retSV at h
 split at h
 ·rename_i r hr
  have hr:fn.results=#[r]:=by rw[←Array.toList_inj];exact hr
  obtain⟨v,h1,h2⟩:=resSV_ok h hS
  exact⟨v,by rw[hres,hr];simp[h1],h2⟩
 ·rename_i hr
  have hr:fn.results=#[]:=by rw[←Array.toList_inj];exact hr
  obtain rfl:=Option.some.inj h
  exact⟨.tuple #[],by rw[hres,hr];simp,rfl⟩
 ·rename_i r1 r2 hr
  have hr:fn.results=#[r1,r2]:=by rw[←Array.toList_inj];exact hr
  split at h
  ·rename_i c1 c2 q1 q2
   obtain rfl:=Option.some.inj h
   obtain⟨v1,h1,h2⟩:=resSV_ok q1 hS
   obtain⟨v2,h3,h4⟩:=resSV_ok q2 hS
   exact⟨.tuple #[v1,v2],by rw[hres,hr];simp[h1,h3],v1,[v2],rfl,h2,v2,[],rfl,h4,rfl⟩
  ·cases h
 ·rename_i r1 r2 r3 hr
  have hr:fn.results=#[r1,r2,r3]:=by rw[←Array.toList_inj];exact hr
  split at h
  ·rename_i c1 c2 c3 q1 q2 q3
   obtain rfl:=Option.some.inj h
   obtain⟨v1,h1,h2⟩:=resSV_ok q1 hS
   obtain⟨v2,h3,h4⟩:=resSV_ok q2 hS
   obtain⟨v3,h5,h6⟩:=resSV_ok q3 hS
   exact⟨.tuple #[v1,v2,v3],by rw[hres,hr];simp[h1,h3,h5],v1,[v2,v3],rfl,h2,v2,[v3],rfl,h4,v3,[],rfl,h6,rfl⟩
  ·cases h
 ·cases h
theorem newsL_lk:∀(l:List Hl) (nx k:Nat),lk Hl.unborn (yR nx l) k=zM nx l k
 | [],nx,k=>by
  unfold zM
  split<;>rfl
 | c::l,nx,k=>by
  show(if k=nx then c else lk Hl.unborn (yR (nx+1) l) k)=_
  split
  ·rename_i e
   subst e
   unfold zM
   rw[if_pos (Nat.le_refl _),Nat.sub_self];rfl
  ·rename_i e
   rw[newsL_lk l (nx+1)]
   unfold zM
   by_cases h:nx+1<=k
   ·rw[if_pos h,if_pos zo,show k-nx=(k-(nx+1))+1 by omega];rfl
   ·rw[if_neg h]
    split
    ·omega
    ·rfl
theorem startF_lk:∀(l:List SV) (i t:Nat),lk SV.any (jM i l) t=if i<=t then l.getD (t-i) .any else .any
 | [],i,t=>by split<;>rfl
 | a::l,i,t=>by
  show(if t=i then a else lk SV.any (jM (i+1) l) t)=_
  split
  ·rename_i e
   subst e
   rw[if_pos (Nat.le_refl _),Nat.sub_self];rfl
  ·rename_i e
   rw[startF_lk l (i+1)]
   by_cases h:i+1<=t
   ·rw[if_pos h,if_pos zo,show t-i=(t-(i+1))+1 by omega];rfl
   ·rw[if_neg h,if_neg zo]
theorem argsR_get [Fz]:∀(l:List SV) (vs:List Value),conj (noAll l)->xY l η A w vs->vs.length=l.length/\∀i,(l.getD i .any).R η' A w (vs.getD i undef)
 | [],[],_,_=>⟨rfl,λi=>trivial⟩
 | a::l,v::vs,hn,h=>by
  obtain⟨n1,n2⟩:=zD hn
  obtain⟨h1,h2⟩:=argsR_get l vs n2 h.2
  refine⟨by simp[h1],λi=>?_⟩
  cases i with
  | zero=>exact SV.no_ok _ _ n1 h.1
  | succ i=>exact h2 i
 | [],_::_,_,h=>h.elim
 | _::_,[],_,h=>h.elim
theorem callOK_of [Fz]{f:FuncId}{fn:Func}{c:Code}{As:List SV}{R:SV}{news:List Hl}{ch:List CE}(hm:P.follows .mixedOrders=true)(hf:P.funcs[f]?=some fn)(hb:fn.body=some c)(hn:(fn.name== "runtime.NumGoroutine")=false)(hl:decide (As.length<=fn.ntmps)=true)
  (h:pre (noAll As) (vc P fn.ntmps c (retK P fn R news) ⟨⟨jM 0 As,[],0⟩,ch,0⟩)):CallOK P f As R news:=by
 obtain⟨hno,h⟩:=pre_ok h
 refine⟨zL hf hb hn,λη0 F w vals hF hA=>?_⟩
 obtain⟨hlen,hR⟩:=argsR_get (η':=λ_ _=>none) As vals hno hA
 have hl:As.length<=fn.ntmps:=by simpa using hl
 have hS:Sat (λ_=>False) F w fn.ntmps (Stt.ss ⟨jM 0 As,[],0⟩) (λ_ _=>none) {tmps:=vals.toArray++Array.replicate (fn.ntmps-vals.toArray.size) undef,defers:=[]} w:=by
  have hav:∀b,Av F (λ_=>Hl.unborn) (λ_ _=>none) b->F b:=λb hx=>by
   rcases hx with hx | ⟨k,i,o,hd,h1,_⟩
   ·exact hx
   ·cases i<;>cases h1
  refine⟨⟨ModM.refl _ _,λk i o hk=>?_,λk i o hd b hk=>?_,λk i o k' i' o' hd hd' b hk=>?_,λk _ i=>rfl,hF.lt,hF.gl,λ_ h=>h⟩,λt=>?_,?_,rfl⟩
  ·cases i<;>cases hk
  ·cases i<;>cases hk
  ·cases i<;>cases hk
  ·show(lk SV.any (jM 0 As) t).R _ _ _ _
   rw[startF_lk,if_pos (Nat.zero_le _),Nat.sub_zero]
   rcases Nat.lt_or_ge t As.length with ht | ht
   ·have:=hR t
    have e:(vals.toArray++Array.replicate (fn.ntmps-vals.toArray.size) undef).getD t undef=vals.getD t undef:=by
     simp only[kF ⟨_,[]⟩,List.getD_eq_getElem?_getD]
     rw[Array.getElem?_append_left (by simp;omega)]
     simp
    show SV.R _ _ _ _ ((vals.toArray++Array.replicate (fn.ntmps-vals.toArray.size) undef).getD t undef)
    rw[e]
    exact SV.keep (Keep.weak λg _ hg hx=>hg (hav g hx)) _ _ this
   ·rw[List.getD_eq_getElem?_getD,List.getElem?_eq_none ht]
    trivial
  ·simp;omega
 refine calls_of_wp hf hb (vc_ok (M:=λ_=>False) (F:=F) (w0:=w) hm c _ _ _ _ _ _ h (λk _=>rfl) hS λe s η a w' hK hu hS'=>?_)
 have key:retV P fn R news s->a.defers=[]/\∃v,(results fn a.tmps).run P w'=.ok v w'/\∃v' η',Ending.returned v=.returned v'/\Hp (λ_=>False) F w (zM 0 news) η' w'/\R.R η' (Av F (zM 0 news) η') w' v':=λhK=>by
  unfold retV at hK
  split at hK
  ·rename_i c0 hr
   obtain⟨v,h1,h2⟩:=retSV_ok hr hS'
   have hS2:Sat (λ_=>False) F w 1 (Stt.ss ⟨[(0,c0)],s.s.own,s.s.nx⟩) η ⟨#[v],[]⟩ w':=⟨hS'.hp,λt=>by
    show(if t=0 then c0 else SV.any).R _ _ _ _
    split
    ·rename_i e;subst e;exact h2
    ·trivial,rfl,rfl⟩
   have hC:=hS2.conv hK
   have he:(Stt.ss ⟨[(0,R)],yR 0 news,news.length⟩).own=zM 0 news:=funext λk=>newsL_lk news 0 k
   refine⟨hS'.dfr,v,h1,v,etaC (fRet s.ch s.last) η,rfl,?_,?_⟩
   ·have:=hC.hp
    rw[he] at this
    exact this
   ·have:=hC.sl 0
    rw[he] at this
    exact this
  ·exact hK.elim
 cases e with
 | normal=>exact key hK
 | exit id=>exact hK.elim
 | ret=>exact key hK
theorem callOK_P [Fz]{f:FuncId}{fn:Func}{c:Code}{As:List SV}{R:SV}{news:List Hl}{ch:List CE}(hm:P.follows .mixedOrders=true)(hf:P.funcs[f]?=some fn)(hb:fn.body=some c)(hn:(fn.name== "runtime.NumGoroutine")=false)(hl:decide (As.length<=fn.ntmps)=true)
  (p:Prop)(e:p=pre (noAll As) (vc P fn.ntmps c (retK P fn R news) ⟨⟨jM 0 As,[],0⟩,ch,0⟩))(h:p):CallOK P f As R news:=callOK_of hm hf hb hn hl (e▸h)
theorem conj_app{ps qs:List Prop}(h:conj ps)(k:conj qs):conj (ps++qs):=by
 induction ps with
 | nil=>exact k
 | cons p ps ih=>
  obtain⟨h1,h2⟩:=xJ h
  have h3:=ih h2
  show conj (p::(ps++qs))
  cases hq:ps++qs with
  | nil=>exact h1
  | cons q r=>rw[hq] at h3;exact⟨h1,h3⟩
theorem exEq_refl(u:Value):conj (exEq u u):=by
 unfold exEq
 split<;>simp_all [conj]
theorem SV.le_refl [Fz]:∀a:SV,conj (SV.le a a)
 | .any=>by simp[SV.le,conj]
 | .ex u=>by
  have h:conj (exEq u u):=exEq_refl u
  simpa [SV.le,exLe] using h
 | .nat _ | .int _ | .rat _=>by simp[SV.le,conj]
 | .sl s E n=>by
  rw[SV.le,if_pos rfl]
  exact⟨rfl,λi _=>SV.le_refl (E i)⟩
 | .ep a=>by simpa [SV.le] using SV.le_refl a
 | .own _ _=>by simp[SV.le,conj]
 | .ref ..=>by simp[SV.le,conj]
 | .nl=>by simp[SV.le,conj]
 | .cn a b=>by
  simp only[SV.le]
  exact conj_app (SV.le_refl a) (SV.le_refl b)
 | .agg l=>by simpa [SV.le] using SV.le_refl l
 | .opt c a=>by
  rw[SV.le]
  exact conj_app (ps:=[c=c]) rfl (SV.le_refl a)
 | .ifc T a=>by
  rw[SV.le,if_pos rfl]
  exact SV.le_refl a
 | .alt c a b=>by
  rw[SV.le]
  exact conj_app (ps:=[c=c]) rfl (conj_app (SV.le_refl a) (SV.le_refl b))
theorem leS [Fz](E:Nat->SV)(n:Nat):∀j,j<n->conj (SV.le (E j) (E j)):=λ_ _=>SV.le_refl _
theorem newS [Fz](E:Nat->SV)(n:Nat):∀j,j<1->conj (SV.le (E n) (E (n+j))):=λj hj=>by
 obtain rfl:j=0:=by omega
 exact SV.le_refl _
theorem oldS(E:Nat->SV)(n:Nat):∀j,j<n->E j=E j:=λ_ _=>rfl
theorem rf{α:Sort _}(a:α):a=a:=rfl
theorem wI{g:Nat}(h:g<9223372036854775807):IntKind.wrap .i64 (((g:Nat):Int)+1)=((g+1:Nat):Int):=by rw[IntKind.wrap_i64];omega
end
def tagO (b:Nat):Hl->Hl
 | .one (.var T a _)=>.one (.var T a (some b))
 | c=>c
def tagL (B:Nat->Nat):Nat->Nat->List Hl->List Hl
 | _,0,l=>l
 | i,p+1,c::l=>tagO (B i) c::tagL B (i+1) p l
 | _,_,[]=>[]
theorem tagL_at(B:Nat->Nat):∀(p i:Nat) (l:List Hl) (k:Nat),(tagL B i p l).getD k .unborn=if k<p then tagO (B (i+k)) (l.getD k .unborn) else l.getD k .unborn
 | 0,_,_,_=>by rw[if_neg (Nat.not_lt_zero _)];rfl
 | p+1,i,c::l,k=>by
  cases k with
  | zero=>rw[if_pos (Nat.zero_lt_succ _)];rfl
  | succ k=>
   show(tagL B (i+1) p l).getD k .unborn=_
   rw[tagL_at B p (i+1) l k,show i+1+k=i+(k+1) by omega]
   by_cases h:k<p
   ·rw[if_pos h,if_pos zo];rfl
   ·rw[if_neg h,if_neg zo];rfl
 | p+1,i,[],k=>by split<;>rfl
theorem tagL_len(B:Nat->Nat):∀(p i:Nat) (l:List Hl),(tagL B i p l).length=l.length
 | 0,_,_=>rfl
 | p+1,i,_::l=>congrArg (·+1) (tagL_len B p (i+1) l)
 | _+1,_,[]=>rfl
theorem tag_get{b:Nat}{c:Hl}{i:Nat}{o:OB}(h:(tagO b c).get i=some o):(∃T a q,c=.one (.var T a q)/\i=0/\o=.var T a (some b))∨c.get i=some o:=by
 cases c with
 | one ob=>
  cases ob with
  | var T a q=>
   cases i with
   | zero=>exact .inl ⟨T,a,q,rfl,rfl,(Option.some.inj h).symm⟩
   | succ i=>cases h
  | row T s E n=>exact .inr h
 | _=>exact .inr h
theorem tag_get2{b:Nat}{c:Hl}{i:Nat}{o:OB}(h:c.get i=some o):(∃T a q,c=.one (.var T a q)/\i=0/\o=.var T a q/\(tagO b c).get i=some (.var T a (some b)))∨(tagO b c).get i=some o:=by
 cases c with
 | one ob=>
  cases ob with
  | var T a q=>
   cases i with
   | zero=>exact .inl ⟨T,a,q,rfl,rfl,(Option.some.inj h).symm,rfl⟩
   | succ i=>cases h
  | row T s E n=>exact .inr h
 | _=>exact .inr h
theorem tag_out{b:Nat}{c:Hl}{i:Nat}:(tagO b c).out i↔c.out i:=by
 cases c with
 | one ob=>cases ob<;>exact Iff.rfl
 | _=>exact Iff.rfl
section
variable {P:Program} {M F:Nat->Prop} {w0 w:World} {N:Nat} {η η':Eta} {own own':Nat->Hl}
theorem Hp.retell [Fz](H:Hp M F w0 own η w)(h1:∀k i o',(own' k).get i=some o'->∃o,(own k).get i=some o/\∀A h,η k i=some h->o.ok η A w h->o'.ok η A w h)(h2:∀k i o,(own k).get i=some o->∃o',(own' k).get i=some o')(h3:∀k i,(own' k).out i->(own k).out i):
  Hp M F w0 own' η w/\Av F own' η=Av F own η:=by
 have hav:Av F own' η=Av F own η:=funext λb=>propext ⟨λh=>h.imp id λ⟨k,i,o,hd,a1,a2⟩=>by
  obtain⟨o2,a3,_⟩:=h1 k i o a1
  exact⟨k,i,o2,hd,a3,a2⟩,λh=>h.imp id λ⟨k,i,o,hd,a1,a2⟩=>by
  obtain⟨o2,a3⟩:=h2 k i o a1
  exact⟨k,i,o2,hd,a3,a2⟩⟩
 refine⟨⟨H.mod,λk i o hk=>?_,λk i o hd b hk=>?_,λk i o k' i' o' hd hd' b a1 a2=>?_,λk i hk=>H.born k i (h3 k i hk),H.fl,H.gl⟩,hav⟩
 ·obtain⟨o2,a1,a2⟩:=h1 k i o hk
  obtain⟨hd,e,hok⟩:=H.ob k i o2 a1
  exact⟨hd,e,by rw[hav];exact a2 _ hd e hok⟩
 ·obtain⟨o2,a1,_⟩:=h1 k i o hk
  exact H.low k i o2 hd b a1
 ·obtain⟨o2,b1,_⟩:=h1 k i o a1
  obtain⟨o3,b2,_⟩:=h1 k' i' o' a2
  exact H.apart k i o2 k' i' o3 hd hd' b b1 b2
def kH (η:Eta) (k:Nat):Nat:=match η k 0 with
 | some (.pointer (some a))=>a.block
 | _=>0
theorem Hp.tag [Fz]{l:List Hl}{p:Nat}(H:Hp M F w0 (zM 0 l) η w):Hp M F w0 (zM 0 (tagL (kH η) 0 p l)) η w/\Av F (zM 0 (tagL (kH η) 0 p l)) η=Av F (zM 0 l) η:=by
 have e:∀k,zM 0 (tagL (kH η) 0 p l) k=if k<p then tagO (kH η k) (zM 0 l k) else zM 0 l k:=λk=>by
  rw[xW,xW,tagL_at,Nat.zero_add]
 refine H.retell (λk i o' h=>?_) (λk i o h=>?_) λk i h=>?_
 ·rw[e] at h
  split at h
  ·rcases tag_get h with⟨T,a,q,hc,rfl,rfl⟩ | h
   ·refine⟨.var T a q,by rw[hc];rfl,λA hd he ⟨b,v,e1,e2,e3,e4,e5⟩=>⟨b,v,e1,e2,e3,e4,λb0 hb=>?_⟩⟩
    have:kH η k=b:=by unfold kH;rw[he,e1]
    rw[←Option.some.inj hb,this]
   ·exact⟨o',h,λ_ _ _ h=>h⟩
  ·exact⟨o',h,λ_ _ _ h=>h⟩
 ·rw[e]
  split
  ·rcases tag_get2 (b:=kH η k) h with⟨T,a,q,_,_,_,h5⟩ | h5
   ·exact⟨_,h5⟩
   ·exact⟨_,h5⟩
  ·exact⟨o,h⟩
 ·rw[e] at h
  split at h
  ·exact tag_out.1 h
  ·exact h
theorem Hp.untag [Fz]{l:List Hl}{p:Nat}{B:Nat->Nat}(hq:∀k T a b,zM 0 l k=.one (.var T a (some b))->k<p->False)(H:Hp M F w0 (zM 0 (tagL B 0 p l)) η w):Hp M F w0 (zM 0 l) η w/\Av F (zM 0 l) η=Av F (zM 0 (tagL B 0 p l)) η:=by
 have e:∀k,zM 0 (tagL B 0 p l) k=if k<p then tagO (B k) (zM 0 l k) else zM 0 l k:=λk=>by
  rw[xW,xW,tagL_at,Nat.zero_add]
 refine H.retell (λk i o' h=>?_) (λk i o h=>?_) λk i h=>?_
 ·rw[e]
  by_cases hk:k<p
  ·rw[if_pos hk]
   rcases tag_get2 (b:=B k) h with⟨T,a,q,hc,rfl,rfl,h5⟩ | h5
   ·refine⟨_,h5,λA hd he ⟨b,v,e1,e2,e3,e4,e5⟩=>⟨b,v,e1,e2,e3,e4,λb0 hb=>?_⟩⟩
    subst hb
    exact(hq k T a b0 hc hk).elim
   ·exact⟨o',h5,λ_ _ _ h=>h⟩
  ·rw[if_neg hk]
   exact⟨o',h,λ_ _ _ h=>h⟩
 ·rw[e] at h
  split at h
  ·rcases tag_get h with⟨T,a,q,hc,rfl,rfl⟩ | h5
   ·exact⟨_,by rw[hc];rfl⟩
   ·exact⟨_,h5⟩
  ·exact⟨o,h⟩
 ·rw[e]
  split
  ·exact tag_out.2 h
  ·exact h
def noQ:List Hl->Bool
 | []=>true
 | .one (.var _ _ (some _))::_=>false
 | _::l=>noQ l
theorem noQ_at:∀(l:List Hl) (k:Nat) (T:TypeId) (a:SV) (b:Nat),noQ l=true->l.getD k .unborn=.one (.var T a (some b))->False
 | [],k,T,a,b,_,e=>by cases k<;>cases e
 | _::_,0,T,a,b,h,e=>by
  obtain rfl:_=Hl.one (.var T a (some b)):=e
  cases h
 | _::l,k+1,T,a,b,h,e=>by
  refine noQ_at l k T a b ?_ e
  unfold noQ at h
  split at h
  ·rename_i hl;exact absurd hl (by simp)
  ·cases h
  ·rename_i hl;obtain⟨rfl,rfl⟩:=List.cons.inj hl;exact h
theorem argsR_len [Fz]{A:Nat->Prop}:∀(l:List SV) (vs:List Value),xY l η A w vs->vs.length=l.length/\∀i,(l.getD i .any).R η A w (vs.getD i undef)
 | [],[],_=>⟨rfl,λi=>trivial⟩
 | a::l,v::vs,h=>by
  obtain⟨h1,h2⟩:=argsR_len l vs h.2
  refine⟨by simp[h1],λi=>?_⟩
  cases i with
  | zero=>exact h.1
  | succ i=>exact h2 i
 | [],_::_,h=>h.elim
 | _::_,[],h=>h.elim
theorem zZ [Fz]{f:FuncId}{fn:Func}{c:Code}{ins:List Hl}{As:List SV}{R:SV}{outs:List Hl}{ch:(Nat->Nat)->List CE}(hm:P.follows .mixedOrders=true)(hf:P.funcs[f]?=some fn)(hb:fn.body=some c)(hn:(fn.name== "runtime.NumGoroutine")=false)(hl:decide (As.length<=fn.ntmps)=true)
    (hkept:(keptL ins outs&&noQ outs)=true)(p:(Nat->Nat)->Prop)(e:∀B,p B=vc P fn.ntmps c (retK P fn R (tagL B 0 ins.length outs)) ⟨⟨jM 0 As,yR 0 (tagL B 0 ins.length ins),ins.length⟩,ch B,0⟩)(h:∀B,p B):CallOKm P f ins As R outs:=by
  refine⟨zL hf hb hn,λη0 M F w vals H hA=>?_⟩
  rw[Bool.and_eq_true] at hkept
  obtain⟨hkl,hkb⟩:=keptL_at ins outs hkept.1
  have hvc:=(e (kH η0))▸h (kH η0)
  obtain⟨hlen,hR⟩:=argsR_len As vals hA
  have hl:As.length<=fn.ntmps:=by simpa using hl
  obtain⟨H1,hav⟩:=H.tag (p:=ins.length)
  have eown:∀l,(λk=>lk Hl.unborn (yR 0 l) k)=zM 0 l:=λl=>funext λk=>newsL_lk l 0 k
  have hS:Sat M F w fn.ntmps (Stt.ss ⟨jM 0 As,yR 0 (tagL (kH η0) 0 ins.length ins),ins.length⟩) η0 {tmps:=vals.toArray++Array.replicate (fn.ntmps-vals.toArray.size) undef,defers:=[]} w:=by
    have eo:(Stt.ss ⟨jM 0 As,yR 0 (tagL (kH η0) 0 ins.length ins),ins.length⟩).own=zM 0 (tagL (kH η0) 0 ins.length ins):=eown _
    refine⟨by rw[eo];exact H1,λt=>?_,?_,rfl⟩
    · rw[eo,hav]
      show(lk SV.any (jM 0 As) t).R _ _ _ _
      rw[startF_lk,if_pos (Nat.zero_le _),Nat.sub_zero]
      rcases Nat.lt_or_ge t As.length with ht | ht
      · have:=hR t
        have e:(vals.toArray++Array.replicate (fn.ntmps-vals.toArray.size) undef).getD t undef=vals.getD t undef:=by
          simp only[kF ⟨_,[]⟩,List.getD_eq_getElem?_getD]
          rw[Array.getElem?_append_left (by simp;omega)]
          simp
        show SV.R _ _ _ _ ((vals.toArray++Array.replicate (fn.ntmps-vals.toArray.size) undef).getD t undef)
        rw[e]
        exact this
      · rw[List.getD_eq_getElem?_getD,List.getElem?_eq_none ht]
        trivial
    · simp;omega
  have hunb:Unb ⟨jM 0 As,yR 0 (tagL (kH η0) 0 ins.length ins),ins.length⟩:=λk hk=>by
    have hk:ins.length<=k:=hk
    show lk Hl.unborn (yR 0 _) k=_
    rw[newsL_lk,xW,List.getD_eq_getElem?_getD,List.getElem?_eq_none (by rw[tagL_len];exact hk)];rfl
  refine calls_of_wp hf hb (vc_ok (M:=M) (F:=F) (w0:=w) hm c _ _ _ _ _ _ hvc hunb hS λe s η a w' hK hu hS'=>?_)
  have key:retV P fn R (tagL (kH η0) 0 ins.length outs) s->a.defers=[]/\∃v,(results fn a.tmps).run P w'=.ok v w'/\∃v' η',Ending.returned v=.returned v'/\Hp M F w (zM 0 outs) η' w'/\R.R η' (Av F (zM 0 outs) η') w' v'/\∀k,k<ins.length->∀i v,η' k i=some v->η0 k i=some v:=λhK=>by
    unfold retV at hK
    split at hK
    · rename_i c0 hr
      obtain⟨v,h1,h2⟩:=retSV_ok hr hS'
      have hS2:Sat M F w 1 (Stt.ss ⟨[(0,c0)],s.s.own,s.s.nx⟩) η ⟨#[v],[]⟩ w':=⟨hS'.hp,λt=>by
        show(if t=0 then c0 else SV.any).R _ _ _ _
        split
        · rename_i e;subst e;exact h2
        · trivial,rfl,rfl⟩
      have hC:=hS2.conv hK
      have he:(Stt.ss ⟨[(0,R)],yR 0 (tagL (kH η0) 0 ins.length outs),(tagL (kH η0) 0 ins.length outs).length⟩).own=zM 0 (tagL (kH η0) 0 ins.length outs):=eown _
      have hp:=hC.hp
      rw[he] at hp
      have hr0:=hC.sl 0
      rw[he] at hr0
      obtain⟨u1,u2⟩:=hp.untag (λk T a b hk _=>noQ_at outs k T a b hkept.2 (by rw[←xW];exact hk))
      refine⟨hS'.dfr,v,h1,v,etaC (fRet s.ch s.last) η,rfl,u1,by rw[u2];exact hr0,λk hk i v hv=>?_⟩
      have hb:=hkb k hk
      have hto:zM 0 (tagL (kH η0) 0 ins.length outs) k=tagO (kH η0 k) (outs.getD k .unborn):=by
        rw[xW,tagL_at,if_pos hk,Nat.zero_add]
      cases hc:outs.getD k .unborn with
      | dead=>
        exfalso
        have hdead:lk Hl.unborn (yR 0 (tagL (kH η0) 0 ins.length outs)) k=.dead:=by rw[newsL_lk,hto,hc];rfl
        rcases lk_mem (d:=Hl.unborn) (yR 0 (tagL (kH η0) 0 ins.length outs)) k with e | e
        · rw[e] at hdead;cases hdead
        · rw[hdead] at e
          have h3:=hK
          unfold conv at h3
          split at h3
          · have h4:=convO_mem _ (zD h3).2 _ e
            unfold etaC at hv
            cases hs:lko (fRet s.ch s.last) k with
            | none=>rw[hs] at hv;cases hv
            | some sr=>
              simp only[hs] at h4
              cases sr<;>exact h4.elim
          · exact h3.elim
      | one ob=>
        rw[hc] at hb
        cases ob with
        | row T sz E n => cases hi : ins.getD k .unborn with
          | one oi=>rw[hi] at hb;cases oi<;>cases hb
          | _=>rw[hi] at hb;cases hb
        | var T a1 q=>
          cases hi:ins.getD k .unborn with
          | one oi=>
            rw[hi] at hb
            cases oi with
            | row T sz E n=>cases hb
            | var Ti ai qi=>
              by_cases h0:i=0
              · subst h0
                obtain⟨hd,e1,b,u,e2,_,_,_,e5⟩:=hp.ob k 0 (.var T a1 (some (kH η0 k))) (by rw[hto,hc];rfl)
                have hb1:=e5 _ rfl
                obtain⟨hd0,e6,b0,u0,e7,_⟩:=H.ob k 0 (.var Ti ai qi) (by rw[xW,hi];rfl)
                have hb2:kH η0 k=b0:=by unfold kH;rw[e6,e7]
                rw[hv] at e1
                rw[Option.some.inj e1,e2,hb1,hb2,e6,e7]
              · have:=hp.born k i (by rw[hto,hc];exact h0)
                rw[this] at hv;cases hv
          | _=>rw[hi] at hb;cases hb
      | _=>rw[hc] at hb;cases hi:ins.getD k .unborn<;>rw[hi] at hb<;>(try cases hb)<;>(rename_i oi;cases oi<;>cases hb)
    · exact hK.elim
  cases e with
  | normal=>exact key hK
  | exit id=>exact hK.elim
  | ret=>exact key hK
end
open Go.RowKit
def AddInv (x y:Nat) (f:Nat->Nat) (N k c:Nat):Prop:=Wf f N/\c<=1/\val f k+c*2^(64*k)=val (wd x) k+val (wd y) k
theorem addInv_step(x y:Nat)(f:Nat->Nat)(N k c s d:Nat)(h:AddInv x y f N k c)(hs:s<18446744073709551616)(hd:d<=1)(e:s+18446744073709551616*d=wd x k+wd y k+c):AddInv x y (upd f k s) N (k+1) d:=by
 obtain⟨h1,h2,h3⟩:=h
 refine⟨jB f N k s h1 hs,hd,?_⟩
 rw[uK,p64,val,val]
 have e2:s*2^(64*k)+d*(18446744073709551616*2^(64*k))=(wd x k+wd y k+c)*2^(64*k):=by
  rw[←e,Nat.add_mul,Nat.mul_comm 18446744073709551616 d,Nat.mul_assoc]
 rw[Nat.add_mul,Nat.add_mul] at e2
 omega
theorem addInv_end(x y:Nat)(f:Nat->Nat)(N c:Nat)(h:AddInv x y f N N c)(hx:nw x<N)(hy:nw y<N):val f N=x+y:=by
 obtain⟨h1,h2,h3⟩:=h
 rw[jD x N zo,jD y N zo] at h3
 have hxy:x+y<2^(64*N):=by
  obtain⟨n,rfl⟩:∃n,N=n+1:=⟨N-1,by omega⟩
  have a1:=(kD x n).1 zo
  have a2:=(kD y n).1 zo
  rw[p64];omega
 have:c=0:=by
  rcases Nat.eq_zero_or_pos c with h | h
  ·exact h
  ·obtain rfl:c=1:=by omega
   omega
 subst this
 omega
theorem addRel_nat{a b c:Nat}{s d:Int}(h:AddRel a b c s d):∃s' d':Nat,s=s'/\d=d'/\s'<18446744073709551616/\d'<=1/\s'+18446744073709551616*d'=a+b+c:=by
 obtain⟨⟨h1,h2⟩,h3,h4,h5⟩:=h
 obtain⟨s',rfl⟩:=Int.eq_ofNat_of_zero_le h1
 obtain⟨d',rfl⟩:=Int.eq_ofNat_of_zero_le h3
 exact⟨s',d',rfl,rfl,by omega,by omega,by omega⟩
theorem W64_nat{a:Nat}(h:a<18446744073709551616):W64 (a:Int):=⟨by omega,by omega⟩
theorem W64_wd(x k:Nat):W64 (wd x k:Nat):=W64_nat (xH x k)
theorem kM{G:Nat->Prop}{w:World}{O n:Nat}{f:Nat->Nat}(h:Blk w O 177 (wa f n))(hG:¬G O):USlice G w (some ⟨O,0,none⟩) n f:=λi hi=>
 ⟨O,0,rfl,hG,h.lt,by rw[Nat.zero_add,h.cell,kZ f n i hi]⟩
set_option maxHeartbeats 1000000 in
theorem nAdd_x(F:Nat->Prop)(va vb:Value)(x y:Nat)(w:World)(hF:Lows F w)(ha:NatAt F w va x)(hb:NatAt F w vb y)(hs:Small (x+y))(hN:nw y<=nw x):
  Calls Tryz.prog 126 #[va,vb] w λe w'=>∃v,e=.returned v/\NatAt F w' v (x+y)/\Below w.heap.size w w':=by
 have hx:=ha.own (G:=Own F [w.heap.size+1+1]) (Own.new (by simp;omega))
 have hy:=hb.own (G:=Own F [w.heap.size+1+1]) (Own.new (by simp;omega))
 obtain⟨A,c,rfl,_,_,hsx,_⟩:=ha
 obtain⟨B,d,rfl,_,_,hsy,_⟩:=hb
 unfold Small at hsx hsy
 have hNI:(nw y:Int)<=nw x:=by omega
 have hmk:=λw=>mk64 (nw x+1) zo w
 rw[show((nw x+1:Nat):Int)=(nw x:Int)+1 by simp] at hmk
 have hx0:=Lib.hid hx
 have hy0:=Lib.hid hy
 clear hx hy
 go_enter Tryz.func126,Tryz.ntmps126
 go_wp2_with fail
 go_loopw [6,19] (λcc i wr=>∃(k c':Nat) (f:Nat->Nat),i=.int .i64 k/\cc=.int .u64 c'/\k<=nw x+1/\AddInv x y f (nw x+1) k c'/\Cur (Own F [w.heap.size+1+1]) w wr/\Below w.heap.size w wr/\
   Blk wr w.heap.size 72 #[.slice A (nw x) c]/\Blk wr (w.heap.size+1) 72 #[.slice B (nw y) d]/\Blk wr (w.heap.size+1+1) 72 #[.slice none 0 0]/\Blk wr (w.heap.size+1+1+1) 177 (wa f (nw x+1))) (λcc i wr=>nw x+1-(intOf i).toNat)
 case atStart=>
  refine⟨0,0,λ_=>0,rfl,rfl,by omega,⟨λi hi=>by show 0<_;omega,by omega,by simp[val]⟩,Cur.mk Kz,Wz,?_,?_,?_,?_⟩
  ·exact(((Blk.new w 72 _).alloc _).alloc _).alloc _
  ·exact((Blk.new_at (w.alloc _) 72 _ (w.heap.size+1) (by simp)).alloc _).alloc _
  ·exact(Blk.new_at ((w.alloc _).alloc _) 72 _ (w.heap.size+1+1) (by simp)).alloc _
  ·exact Blk.new_at (((w.alloc _).alloc _).alloc _) 177 _ (w.heap.size+1+1+1) (by simp)
 case round=>
  obtain⟨k,c',f,rfl,rfl,hk,hi,C,BW,l0,l1,l2,l3⟩:=hrel
  have K:Keeps (Own F [w.heap.size+1+1]) w wr:=C
  have hI:=Lib.hid hi
  have hc':c'<=1:=hi.2.1
  clear hi
  by_cases hlt:k<nw x+1
  ·have k3:(wa f (nw x+1))[k]?=some (.int .u64 (f k:Nat)):=kZ f _ k hlt
   have c0:=l0.cell
   have c1:=l1.cell
   have hk0:(0:Int)<=k:=by omega
   have hk1:(k:Int)<(nw x:Int)+1:=by omega
   go_wp2_with fail
   go_region_held3 (λw'=>(∀o,w'.cell? ⟨w.heap.size,o,none⟩=(#[.slice A (nw x) c]:Array Value)[o]?)/\(∀o,w'.cell? ⟨w.heap.size+1,o,none⟩=(#[.slice B (nw y) d]:Array Value)[o]?))
    (first | exact⟨l0.cell,l1.cell⟩ | exact⟨(l0.far (by first | (simp;done) | (simp;omega)) _).cell,(l1.far (by first | (simp;done) | (simp;omega)) _).cell⟩ | go_keep)
    (first
     | (go_at_call 143;refine(nWord (Own F [w.heap.size+1+1]) _ _ _ zo _ (by first | exact NatAt.keep hx0.out Kz | exact NatAt.keep hy0.out Kz)).mono ?_;rintro e wM ⟨rfl,hb⟩;obtain⟨K,C⟩:=Cur.step C Kz hb;have BW:=zJ (w:=w) Wz hb;have l0:=Blk.next l0 (λh=>Bz) hb;have l1:=Blk.next l1 (λh=>Bz) hb;have l2:=Blk.next l2 (λh=>Bz) hb;have l3:=Blk.next l3 (λh=>Bz) hb;have c0:=l0.cell;have f0:=l0.frozen;have z0:=l0.lt;have c1:=l1.cell;have f1:=l1.frozen;have z1:=l1.lt;have c2:=l2.cell;have f2:=l2.frozen;have z2:=l2.lt;have c3:=l3.cell;have f3:=l3.frozen;have z3:=l3.lt)
     | (go_at_call 145;refine(wAdd _ _ _ (W64_wd _ _) (W64_wd _ _) zo zo _).mono ?_;rintro e wM ⟨s,dd,rfl,hadd,rfl⟩;obtain⟨s',d',rfl,rfl,hq⟩:=addRel_nat hadd;have HQ:=Lib.hid hq;clear hq))
   go_wp2_with fail
   go_roundw
   case rel=>
    have KW:Keeps (Own F [w.heap.size+1+1]) w wM:=C
    have l3':=l3.set_ k (.int .u64 (s':Nat))
    rw[wa_upd] at l3'
    refine⟨k+1,d',upd f k s',rfl,rfl,by omega,addInv_step x y f _ k c' s' d' hI.out HQ.out.1 HQ.out.2.1 HQ.out.2.2,Cur.mk Kz,Wz,?_,?_,?_,l3'⟩
    ·exact l0.far (by first | (simp;done) | (simp;omega)) _
    ·exact l1.far (by first | (simp;done) | (simp;omega)) _
    ·exact l2.far (by first | (simp;done) | (simp;omega)) _
   case measure=>simp[intOf];omega
  ·obtain rfl:nw x+1=k:=by omega
   have hv:=Lib.hid (addInv_end x y f _ c' hI.out zo zo)
   have hsl:=Lib.hid (kM (G:=Own F [w.heap.size+1+1]) l3 (by intro hh;rcases hh with hh | hh;exact Nat.lt_irrefl _ (Nat.lt_trans (hF _ hh) zo);simp at hh))
   have hwf:=Lib.hid hI.out.1
   go_wp2_with fail
   (refine(nTrim (Own F [w.heap.size+1+1]) (some ⟨w.heap.size+1+1+1,0,none⟩) (nw x+1) (nw x+1) f _ hsl.out (blk_typ l3) hwf.out (by rw[hv.out];exact hs) (Nat.le_refl _) (by unfold maxLen;omega)).mono ?_;rintro e wM ⟨v',rfl,hr,hb⟩;obtain⟨A',n',c',rfl⟩:=hr.form;obtain⟨K,C⟩:=Cur.step C Kz hb;have BW:=zJ (w:=w) Wz hb;have l2:=Blk.next l2 (λh=>Bz) hb;have c2:=l2.cell;have f2:=l2.frozen;have z2:=l2.lt)
   rw[hv.out] at hr
   have H:=Lib.hid hr
   clear hr
   go_wp2_with fail
   exact bodyPost_ret (v:=.agg #[.slice A' n' c']) (by simp[results,Tryz.results126,go_sem,c2]) rfl ⟨_,rfl,(H.out.keep Kz).sub Own.sub,Wz⟩
set_option maxHeartbeats 1000000 in
theorem nAdd_y(F:Nat->Prop)(va vb:Value)(x y:Nat)(w:World)(hF:Lows F w)(ha:NatAt F w va x)(hb:NatAt F w vb y)(hs:Small (x+y))(hN:nw x<nw y):
  Calls Tryz.prog 126 #[va,vb] w λe w'=>∃v,e=.returned v/\NatAt F w' v (x+y)/\Below w.heap.size w w':=by
 have hx:=ha.own (G:=Own F [w.heap.size+1+1]) (Own.new (by simp;omega))
 have hy:=hb.own (G:=Own F [w.heap.size+1+1]) (Own.new (by simp;omega))
 obtain⟨A,c,rfl,_,_,hsx,_⟩:=ha
 obtain⟨B,d,rfl,_,_,hsy,_⟩:=hb
 unfold Small at hsx hsy
 have hNI:(nw x:Int)<nw y:=by omega
 have hmk:=λw=>mk64 (nw y+1) zo w
 rw[show((nw y+1:Nat):Int)=(nw y:Int)+1 by simp] at hmk
 have hx0:=Lib.hid hx
 have hy0:=Lib.hid hy
 clear hx hy
 go_enter Tryz.func126,Tryz.ntmps126
 go_wp2_with fail
 go_loopw [6,19] (λcc i wr=>∃(k c':Nat) (f:Nat->Nat),i=.int .i64 k/\cc=.int .u64 c'/\k<=nw y+1/\AddInv x y f (nw y+1) k c'/\Cur (Own F [w.heap.size+1+1]) w wr/\Below w.heap.size w wr/\
   Blk wr w.heap.size 72 #[.slice A (nw x) c]/\Blk wr (w.heap.size+1) 72 #[.slice B (nw y) d]/\Blk wr (w.heap.size+1+1) 72 #[.slice none 0 0]/\Blk wr (w.heap.size+1+1+1) 177 (wa f (nw y+1))) (λcc i wr=>nw y+1-(intOf i).toNat)
 case atStart=>
  refine⟨0,0,λ_=>0,rfl,rfl,by omega,⟨λi hi=>by show 0<_;omega,by omega,by simp[val]⟩,Cur.mk Kz,Wz,?_,?_,?_,?_⟩
  ·exact(((Blk.new w 72 _).alloc _).alloc _).alloc _
  ·exact((Blk.new_at (w.alloc _) 72 _ (w.heap.size+1) (by simp)).alloc _).alloc _
  ·exact(Blk.new_at ((w.alloc _).alloc _) 72 _ (w.heap.size+1+1) (by simp)).alloc _
  ·exact Blk.new_at (((w.alloc _).alloc _).alloc _) 177 _ (w.heap.size+1+1+1) (by simp)
 case round=>
  obtain⟨k,c',f,rfl,rfl,hk,hi,C,BW,l0,l1,l2,l3⟩:=hrel
  have K:Keeps (Own F [w.heap.size+1+1]) w wr:=C
  have hI:=Lib.hid hi
  have hc':c'<=1:=hi.2.1
  clear hi
  by_cases hlt:k<nw y+1
  ·have k3:(wa f (nw y+1))[k]?=some (.int .u64 (f k:Nat)):=kZ f _ k hlt
   have c0:=l0.cell
   have c1:=l1.cell
   have hk0:(0:Int)<=k:=by omega
   have hk1:(k:Int)<(nw y:Int)+1:=by omega
   go_wp2_with fail
   go_region_held3 (λw'=>(∀o,w'.cell? ⟨w.heap.size,o,none⟩=(#[.slice A (nw x) c]:Array Value)[o]?)/\(∀o,w'.cell? ⟨w.heap.size+1,o,none⟩=(#[.slice B (nw y) d]:Array Value)[o]?))
    (first | exact⟨l0.cell,l1.cell⟩ | exact⟨(l0.far (by first | (simp;done) | (simp;omega)) _).cell,(l1.far (by first | (simp;done) | (simp;omega)) _).cell⟩ | go_keep)
    (first
     | (go_at_call 143;refine(nWord (Own F [w.heap.size+1+1]) _ _ _ zo _ (by first | exact NatAt.keep hx0.out Kz | exact NatAt.keep hy0.out Kz)).mono ?_;rintro e wM ⟨rfl,hb⟩;obtain⟨K,C⟩:=Cur.step C Kz hb;have BW:=zJ (w:=w) Wz hb;have l0:=Blk.next l0 (λh=>Bz) hb;have l1:=Blk.next l1 (λh=>Bz) hb;have l2:=Blk.next l2 (λh=>Bz) hb;have l3:=Blk.next l3 (λh=>Bz) hb;have c0:=l0.cell;have f0:=l0.frozen;have z0:=l0.lt;have c1:=l1.cell;have f1:=l1.frozen;have z1:=l1.lt;have c2:=l2.cell;have f2:=l2.frozen;have z2:=l2.lt;have c3:=l3.cell;have f3:=l3.frozen;have z3:=l3.lt)
     | (go_at_call 145;refine(wAdd _ _ _ (W64_wd _ _) (W64_wd _ _) zo zo _).mono ?_;rintro e wM ⟨s,dd,rfl,hadd,rfl⟩;obtain⟨s',d',rfl,rfl,hq⟩:=addRel_nat hadd;have HQ:=Lib.hid hq;clear hq))
   go_wp2_with fail
   go_roundw
   case rel=>
    have KW:Keeps (Own F [w.heap.size+1+1]) w wM:=C
    have l3':=l3.set_ k (.int .u64 (s':Nat))
    rw[wa_upd] at l3'
    refine⟨k+1,d',upd f k s',rfl,rfl,by omega,addInv_step x y f _ k c' s' d' hI.out HQ.out.1 HQ.out.2.1 HQ.out.2.2,Cur.mk Kz,Wz,?_,?_,?_,l3'⟩
    ·exact l0.far (by first | (simp;done) | (simp;omega)) _
    ·exact l1.far (by first | (simp;done) | (simp;omega)) _
    ·exact l2.far (by first | (simp;done) | (simp;omega)) _
   case measure=>simp[intOf];omega
  ·obtain rfl:nw y+1=k:=by omega
   have hv:=Lib.hid (addInv_end x y f _ c' hI.out zo zo)
   have hsl:=Lib.hid (kM (G:=Own F [w.heap.size+1+1]) l3 (by intro hh;rcases hh with hh | hh;exact Nat.lt_irrefl _ (Nat.lt_trans (hF _ hh) zo);simp at hh))
   have hwf:=Lib.hid hI.out.1
   go_wp2_with fail
   (refine(nTrim (Own F [w.heap.size+1+1]) (some ⟨w.heap.size+1+1+1,0,none⟩) (nw y+1) (nw y+1) f _ hsl.out (blk_typ l3) hwf.out (by rw[hv.out];exact hs) (Nat.le_refl _) (by unfold maxLen;omega)).mono ?_;rintro e wM ⟨v',rfl,hr,hb⟩;obtain⟨A',n',c',rfl⟩:=hr.form;obtain⟨K,C⟩:=Cur.step C Kz hb;have BW:=zJ (w:=w) Wz hb;have l2:=Blk.next l2 (λh=>Bz) hb;have c2:=l2.cell;have f2:=l2.frozen;have z2:=l2.lt)
   rw[hv.out] at hr
   have H:=Lib.hid hr
   clear hr
   go_wp2_with fail
   exact bodyPost_ret (v:=.agg #[.slice A' n' c']) (by simp[results,Tryz.results126,go_sem,c2]) rfl ⟨_,rfl,(H.out.keep Kz).sub Own.sub,Wz⟩
theorem nAdd(F:Nat->Prop)(va vb:Value)(x y:Nat)(w:World)(hF:Lows F w)(ha:NatAt F w va x)(hb:NatAt F w vb y)(hs:Small (x+y)):
  Calls Tryz.prog 126 #[va,vb] w λe w'=>∃v,e=.returned v/\NatAt F w' v (x+y)/\Below w.heap.size w w':=by
 by_cases h:nw x<nw y
 ·exact nAdd_y F va vb x y w hF ha hb hs h
 ·exact nAdd_x F va vb x y w hF ha hb hs zo
open Go.RowKit
def SubInv (x y:Nat) (f:Nat->Nat) (N k c:Nat):Prop:=Wf f N/\c<=1/\val f k+val (wd y) k=val (wd x) k+c*2^(64*k)
theorem subInv_step(x y:Nat)(f:Nat->Nat)(N k c s d:Nat)(h:SubInv x y f N k c)(hs:s<18446744073709551616)(hd:d<=1)(e:s+wd y k+c=wd x k+18446744073709551616*d):SubInv x y (upd f k s) N (k+1) d:=by
 obtain⟨h1,h2,h3⟩:=h
 refine⟨jB f N k s h1 hs,hd,?_⟩
 rw[uK,p64,val,val]
 have e2:(s+wd y k+c)*2^(64*k)=wd x k*2^(64*k)+d*(18446744073709551616*2^(64*k)):=by
  rw[e,Nat.add_mul,Nat.mul_comm 18446744073709551616 d,Nat.mul_assoc]
 rw[Nat.add_mul,Nat.add_mul] at e2
 omega
theorem subInv_end(x y:Nat)(f:Nat->Nat)(c:Nat)(h:SubInv x y f (nw x) (nw x) c)(hxy:y<=x):val f (nw x)=x-y:=by
 obtain⟨h1,h2,h3⟩:=h
 have hy:nw y<=nw x:=(kD y _).2 (Nat.lt_of_le_of_lt hxy (kE x))
 rw[jD x _ (Nat.le_refl _),jD y _ hy] at h3
 have hf:=val_lt f _ h1
 have:c=0:=by
  rcases Nat.eq_zero_or_pos c with h | h
  ·exact h
  ·obtain rfl:c=1:=by omega
   omega
 subst this
 omega
theorem subRel_nat{a b c:Nat}{s d:Int}(h:SubRel a b c s d):∃s' d':Nat,s=s'/\d=d'/\s'<18446744073709551616/\d'<=1/\s'+b+c=a+18446744073709551616*d':=by
 obtain⟨⟨h1,h2⟩,h3,h4,h5⟩:=h
 obtain⟨s',rfl⟩:=Int.eq_ofNat_of_zero_le h1
 obtain⟨d',rfl⟩:=Int.eq_ofNat_of_zero_le h3
 exact⟨s',d',rfl,rfl,by omega,by omega,by omega⟩
theorem nw_mono{x y:Nat}(h:x<=y):nw x<=nw y:=(kD x _).2 (Nat.lt_of_le_of_lt h (kE y))
theorem cmpV_lt{x y:Int}(h:x<y):cmpV x y=-1:=by unfold cmpV;rw[if_pos h]
theorem cmpV_ge{x y:Int}(h:y<=x):0<=cmpV x y:=by unfold cmpV;rw[if_neg zo];split<;>omega
theorem far_cell{w:World}{p q:Addr}{u v:Value}(h:w.cell? q=some v)(hp:p.block≠q.block):(w.setCell p u).cell? q=some v:=(World.cell?_setCell_other (w:=w) (a:=p) (b:=q) (v:=u) (h:=λe=>hp (congrArg Addr.block e))).trans h
set_option maxHeartbeats 4000000 in
theorem nSub_no(F:Nat->Prop)(va vb:Value)(x y:Nat)(w:World)(ha:NatAt F w va x)(hb:NatAt F w vb y)(hlt:x<y):
  Calls Tryz.prog 127 #[va,vb] w λe w'=>e=.returned (.tuple #[.agg #[.slice none 0 0],.bool false])/\Below w.heap.size w w':=by
 have hc:=cmpV_lt (show(x:Int)<y by omega)
 have ha0:=ha
 have hb0:=hb
 obtain⟨A,n,c,rfl⟩:=ha.form
 obtain⟨B,m,d,rfl⟩:=hb.form
 have ha:=Lib.hid ha0
 have hb:=Lib.hid hb0
 clear ha0 hb0
 have C:=Cur.start F w
 have l2:=Blk.new_at ((w.alloc (.cells #[.slice A n c] 72)).alloc (.cells #[.slice B m d] 72)) 72 #[.slice none 0 0] (w.heap.size+1+1) (by simp)
 go_enter Tryz.func127,Tryz.ntmps127
 go_wp2_with fail
 (refine(nCmp F _ _ x y _ (ha.out.keep Kz) (hb.out.keep Kz)).mono ?_;rintro e wM ⟨rfl,hb⟩;obtain⟨K,C⟩:=Cur.step C Kz hb;have BW:=zJ (w:=w) Wz hb;have l2:=Blk.next l2 (λh=>Bz) hb;have c2:=l2.cell;have f2:=l2.frozen;have z2:=l2.lt)
 rw[hc]
 go_wp2_with fail
 exact bodyPost_ret (v:=.tuple #[.agg #[.slice none 0 0],.bool false]) (by simp[results,Tryz.results127,go_sem,c2]) rfl ⟨rfl,Wz⟩
set_option maxHeartbeats 4000000 in
theorem nSub_pos(F:Nat->Prop)(g o c:Nat)(vb:Value)(x y:Nat)(w:World)(hF:Lows F w)(ha:NatAt F w (.agg #[.slice (some ⟨g,o,none⟩) (nw x) c]) x)(hb:NatAt F w vb y)(hyx:y<=x):
  Calls Tryz.prog 127 #[.agg #[.slice (some ⟨g,o,none⟩) (nw x) c],vb] w λe w'=>∃v,e=.returned (.tuple #[v,.bool true])/\NatAt F w' v (x-y)/\Below w.heap.size w w':=by
 have hcm:=cmpV_ge (show(y:Int)<=x by omega)
 have hcm':¬cmpV (x:Int) y<0:=by omega
 have hx:=ha.own (G:=Own F [w.heap.size+1+1]) (Own.new (by simp;omega))
 have hy:=hb.own (G:=Own F [w.heap.size+1+1]) (Own.new (by simp;omega))
 have hsx:=ha.small
 have hwx:=ha.words
 clear ha
 obtain⟨B,m,d,rfl⟩:=hb.form
 clear hb
 unfold Small at hsx
 have hmk:=λw=>mk64 (nw x) zo w
 have hx0:=Lib.hid hx
 have hy0:=Lib.hid hy
 have HW:=Lib.hid hwx
 clear hx hy hwx
 have l0:=((Blk.new w 72 #[.slice (some ⟨g,o,none⟩) (nw x) c]).alloc (.cells #[.slice B m d] 72)).alloc (.cells #[.slice none 0 0] 72)
 have l1:=(Blk.new_at (w.alloc (.cells #[.slice (some ⟨g,o,none⟩) (nw x) c] 72)) 72 #[.slice B m d] (w.heap.size+1) (by simp)).alloc (.cells #[.slice none 0 0] 72)
 have l2:=Blk.new_at ((w.alloc (.cells #[.slice (some ⟨g,o,none⟩) (nw x) c] 72)).alloc (.cells #[.slice B m d] 72)) 72 #[.slice none 0 0] (w.heap.size+1+1) (by simp)
 have C:=Cur.start (Own F [w.heap.size+1+1]) w
 go_enter Tryz.func127,Tryz.ntmps127
 go_wp2_with fail
 (refine(nCmp (Own F [w.heap.size+1+1]) _ _ x y _ (hx0.out.keep Kz) (hy0.out.keep Kz)).mono ?_;rintro e wM ⟨rfl,hb⟩;obtain⟨K,C⟩:=Cur.step C Kz hb;have BW:=zJ (w:=w) Wz hb;have l0:=Blk.next l0 (λh=>Bz) hb;have l1:=Blk.next l1 (λh=>Bz) hb;have l2:=Blk.next l2 (λh=>Bz) hb;have c0:=l0.cell;have f0:=l0.frozen;have z0:=l0.lt;have c1:=l1.cell;have f1:=l1.frozen;have z1:=l1.lt;have c2:=l2.cell;have f2:=l2.frozen;have z2:=l2.lt)
 obtain⟨wO,rfl⟩:∃z:World,z=wM:=⟨_,rfl⟩
 have KW:Keeps (Own F [w.heap.size+1+1]) w wO:=C
 have q2:w.heap.size+1+1<wO.heap.size:=l2.lt
 go_wp2_with fail
 go_loopw [7,20] (λcc i wr=>∃(k c':Nat) (f:Nat->Nat),i=.int .i64 k/\cc=.int .u64 c'/\k<=nw x/\SubInv x y f (nw x) k c'/\Cur (Own F [w.heap.size+1+1]) w wr/\Below w.heap.size w wr/\
   Blk wr w.heap.size 72 #[.slice (some ⟨g,o,none⟩) (nw x) c]/\Blk wr (w.heap.size+1) 72 #[.slice B m d]/\Blk wr (w.heap.size+1+1) 72 #[.slice none 0 0]/\Blk wr wO.heap.size 177 (wa f (nw x))) (λcc i wr=>nw x-(intOf i).toNat)
 case atStart=>
  refine⟨0,0,λ_=>0,rfl,rfl,by omega,⟨λi hi=>by show 0<_;omega,by omega,by simp[val]⟩,Cur.mk Kz,Wz,l0.alloc _,l1.alloc _,l2.alloc _,Blk.new _ _ _⟩
 case round=>
  obtain⟨k,c',f,rfl,rfl,hk,hi,C,BW,l0,l1,l2,l3⟩:=hrel
  have K:Keeps (Own F [w.heap.size+1+1]) w wr:=C
  have hI:=Lib.hid hi
  have hc':c'<=1:=hi.2.1
  clear hi
  by_cases hlt:k<nw x
  ·have k3:(wa f (nw x))[k]?=some (.int .u64 (f k:Nat)):=kZ f _ k hlt
   have hl:g<w.heap.size:=by
    obtain⟨g',o',e,_,hl,_⟩:=HW.out k hlt
    simp only[Option.some.injEq,Addr.mk.injEq] at e
    obtain⟨rfl,rfl,_⟩:=e
    exact hl
   have hcx:wr.cell? ⟨g,o+k,none⟩=some (.int .u64 (wd x k:Nat)):=by
    obtain⟨g',o',e,_,_,hcell⟩:=(hx0.out.keep K).words k hlt
    simp only[Option.some.injEq,Addr.mk.injEq] at e
    obtain⟨rfl,rfl,_⟩:=e
    exact hcell
   have c0:=l0.cell
   have c1:=l1.cell
   have hk0:(0:Int)<=k:=by omega
   have hk1:(k:Int)<(nw x:Int):=by omega
   have zz:g<wO.heap.size:=Nat.lt_of_lt_of_le hl KW.1
   go_wp2_with fail
   go_region_held3 (λw'=>(∀i,w'.cell? ⟨w.heap.size,i,none⟩=(#[.slice (some ⟨g,o,none⟩) (nw x) c]:Array Value)[i]?)/\(∀i,w'.cell? ⟨w.heap.size+1,i,none⟩=(#[.slice B m d]:Array Value)[i]?)/\w'.cell? ⟨g,o+k,none⟩=some (.int .u64 (wd x k:Nat)))
    (first | exact⟨l0.cell,l1.cell,hcx⟩ | (refine⟨?_,?_,?_⟩;all_goals (first | exact(l0.far (by first | (simp;done) | (simp;omega)) _).cell | exact(l1.far (by first | (simp;done) | (simp;omega)) _).cell | exact far_cell hcx (Nat.ne_of_gt zz))) | go_keep)
    (first
     | ((go_at_call 143;refine(nWord (Own F [w.heap.size+1+1]) _ _ _ zo _ (NatAt.keep hy0.out Kz)).mono ?_;rintro e wM ⟨rfl,hb⟩;obtain⟨K,C⟩:=Cur.step C Kz hb;have BW:=zJ (w:=w) Wz hb;have l0:=Blk.next l0 (λh=>Bz) hb;have l1:=Blk.next l1 (λh=>Bz) hb;have l2:=Blk.next l2 (λh=>Bz) hb;have l3:=Blk.next l3 (λh=>Bz) hb;have c0:=l0.cell;have f0:=l0.frozen;have z0:=l0.lt;have c1:=l1.cell;have f1:=l1.frozen;have z1:=l1.lt;have c2:=l2.cell;have f2:=l2.frozen;have z2:=l2.lt;have c3:=l3.cell;have f3:=l3.frozen;have z3:=l3.lt);have hcx:=keepC hb hcx)
     | (go_at_call 146;refine(wSub _ _ _ (W64_wd _ _) (W64_wd _ _) zo zo _).mono ?_;rintro e wM ⟨s,dd,rfl,hadd,rfl⟩;obtain⟨s',d',rfl,rfl,hq⟩:=subRel_nat hadd;have HQ:=Lib.hid hq;clear hq))
   go_wp2_with fail
   go_roundw
   case rel=>
    have KW:Keeps (Own F [w.heap.size+1+1]) w wM:=C
    have l3':=l3.set_ k (.int .u64 (s':Nat))
    rw[wa_upd] at l3'
    refine⟨k+1,d',upd f k s',rfl,rfl,by omega,subInv_step x y f _ k c' s' d' hI.out HQ.out.1 HQ.out.2.1 HQ.out.2.2,Cur.mk Kz,Wz,?_,?_,?_,l3'⟩
    ·exact l0.far (by first | (simp;done) | (simp;omega)) _
    ·exact l1.far (by first | (simp;done) | (simp;omega)) _
    ·exact l2.far (by first | (simp;done) | (simp;omega)) _
   case measure=>simp[intOf];omega
  ·obtain rfl:nw x=k:=by omega
   have hv:=Lib.hid (subInv_end x y f c' hI.out hyx)
   have hsl:=Lib.hid (kM (G:=Own F [w.heap.size+1+1]) l3 (by intro hh;rcases hh with hh | hh;exact Nat.lt_irrefl _ (Nat.lt_of_lt_of_le (hF _ hh) KW.1);simp at hh;omega))
   have hwf:=Lib.hid hI.out.1
   go_wp2_with fail
   (refine(nTrim (Own F [w.heap.size+1+1]) (some ⟨wO.heap.size,0,none⟩) (nw x) (nw x) f _ hsl.out (blk_typ l3) hwf.out (by rw[hv.out];exact Nat.le_trans (nw_mono (Nat.sub_le _ _)) hsx) (Nat.le_refl _) (by unfold maxLen;omega)).mono ?_;rintro e wM ⟨v',rfl,hr,hb⟩;obtain⟨A',n',c',rfl⟩:=hr.form;obtain⟨K,C⟩:=Cur.step C Kz hb;have BW:=zJ (w:=w) Wz hb;have l2:=Blk.next l2 (λh=>Bz) hb;have c2:=l2.cell;have f2:=l2.frozen;have z2:=l2.lt)
   rw[hv.out] at hr
   have H:=Lib.hid hr
   clear hr
   go_wp2_with fail
   exact bodyPost_ret (v:=.tuple #[.agg #[.slice A' n' c'],.bool true]) (by simp[results,Tryz.results127,go_sem,c2]) rfl ⟨_,rfl,(H.out.keep Kz).sub Own.sub,Wz⟩
set_option maxHeartbeats 4000000 in
theorem nSub_nil(F:Nat->Prop)(A:Option Addr)(c:Nat)(vb:Value)(x y:Nat)(w:World)(hF:Lows F w)(ha:NatAt F w (.agg #[.slice A (nw x) c]) x)(hb:NatAt F w vb y)(hyx:y<=x)(hx0:nw x=0):
  Calls Tryz.prog 127 #[.agg #[.slice A (nw x) c],vb] w λe w'=>∃v,e=.returned (.tuple #[v,.bool true])/\NatAt F w' v (x-y)/\Below w.heap.size w w':=by
 have HX:=Lib.hid hx0
 clear hx0
 have hcm:=cmpV_ge (show(y:Int)<=x by omega)
 have hcm':¬cmpV (x:Int) y<0:=by omega
 have hx:=ha.own (G:=Own F [w.heap.size+1+1]) (Own.new (by simp;omega))
 have hy:=hb.own (G:=Own F [w.heap.size+1+1]) (Own.new (by simp;omega))
 have hsx:=ha.small
 have hwx:=ha.words
 clear ha
 obtain⟨B,m,d,rfl⟩:=hb.form
 clear hb
 unfold Small at hsx
 have hmk:=λw=>mk64 (nw x) zo w
 have hxx:=Lib.hid hx
 have hy0:=Lib.hid hy
 clear hx hy hwx
 have l0:=((Blk.new w 72 #[.slice A (nw x) c]).alloc (.cells #[.slice B m d] 72)).alloc (.cells #[.slice none 0 0] 72)
 have l1:=(Blk.new_at (w.alloc (.cells #[.slice A (nw x) c] 72)) 72 #[.slice B m d] (w.heap.size+1) (by simp)).alloc (.cells #[.slice none 0 0] 72)
 have l2:=Blk.new_at ((w.alloc (.cells #[.slice A (nw x) c] 72)).alloc (.cells #[.slice B m d] 72)) 72 #[.slice none 0 0] (w.heap.size+1+1) (by simp)
 have C:=Cur.start (Own F [w.heap.size+1+1]) w
 go_enter Tryz.func127,Tryz.ntmps127
 go_wp2_with fail
 (refine(nCmp (Own F [w.heap.size+1+1]) _ _ x y _ (hxx.out.keep Kz) (hy0.out.keep Kz)).mono ?_;rintro e wM ⟨rfl,hb⟩;obtain⟨K,C⟩:=Cur.step C Kz hb;have BW:=zJ (w:=w) Wz hb;have l0:=Blk.next l0 (λh=>Bz) hb;have l1:=Blk.next l1 (λh=>Bz) hb;have l2:=Blk.next l2 (λh=>Bz) hb;have c0:=l0.cell;have f0:=l0.frozen;have z0:=l0.lt;have c1:=l1.cell;have f1:=l1.frozen;have z1:=l1.lt;have c2:=l2.cell;have f2:=l2.frozen;have z2:=l2.lt)
 obtain⟨wO,rfl⟩:∃z:World,z=wM:=⟨_,rfl⟩
 have KW:Keeps (Own F [w.heap.size+1+1]) w wO:=C
 have q2:w.heap.size+1+1<wO.heap.size:=l2.lt
 go_wp2_with fail
 go_loopw [7,20] (λcc i wr=>∃(k c':Nat) (f:Nat->Nat),i=.int .i64 k/\cc=.int .u64 c'/\k<=nw x/\SubInv x y f (nw x) k c'/\Cur (Own F [w.heap.size+1+1]) w wr/\Below w.heap.size w wr/\
   Blk wr w.heap.size 72 #[.slice A (nw x) c]/\Blk wr (w.heap.size+1) 72 #[.slice B m d]/\Blk wr (w.heap.size+1+1) 72 #[.slice none 0 0]/\Blk wr wO.heap.size 177 (wa f (nw x))) (λcc i wr=>nw x-(intOf i).toNat)
 case atStart=>
  refine⟨0,0,λ_=>0,rfl,rfl,by omega,⟨λi hi=>by show 0<_;omega,by omega,by simp[val]⟩,Cur.mk Kz,Wz,l0.alloc _,l1.alloc _,l2.alloc _,Blk.new _ _ _⟩
 case round=>
  obtain⟨k,c',f,rfl,rfl,hk,hi,C,BW,l0,l1,l2,l3⟩:=hrel
  have K:Keeps (Own F [w.heap.size+1+1]) w wr:=C
  have hI:=Lib.hid hi
  have hc':c'<=1:=hi.2.1
  clear hi
  by_cases hlt:k<nw x
  ·exact absurd HX.out zo
  ·obtain rfl:nw x=k:=by omega
   have hv:=Lib.hid (subInv_end x y f c' hI.out hyx)
   have hsl:=Lib.hid (kM (G:=Own F [w.heap.size+1+1]) l3 (by intro hh;rcases hh with hh | hh;exact Nat.lt_irrefl _ (Nat.lt_of_lt_of_le (hF _ hh) KW.1);simp at hh;omega))
   have hwf:=Lib.hid hI.out.1
   go_wp2_with fail
   (refine(nTrim (Own F [w.heap.size+1+1]) (some ⟨wO.heap.size,0,none⟩) (nw x) (nw x) f _ hsl.out (blk_typ l3) hwf.out (by rw[hv.out];exact Nat.le_trans (nw_mono (Nat.sub_le _ _)) hsx) (Nat.le_refl _) (by unfold maxLen;omega)).mono ?_;rintro e wM ⟨v',rfl,hr,hb⟩;obtain⟨A',n',c',rfl⟩:=hr.form;obtain⟨K,C⟩:=Cur.step C Kz hb;have BW:=zJ (w:=w) Wz hb;have l2:=Blk.next l2 (λh=>Bz) hb;have c2:=l2.cell;have f2:=l2.frozen;have z2:=l2.lt)
   rw[hv.out] at hr
   have H:=Lib.hid hr
   clear hr
   go_wp2_with fail
   exact bodyPost_ret (v:=.tuple #[.agg #[.slice A' n' c'],.bool true]) (by simp[results,Tryz.results127,go_sem,c2]) rfl ⟨_,rfl,(H.out.keep Kz).sub Own.sub,Wz⟩
theorem nSub_yes(F:Nat->Prop)(va vb:Value)(x y:Nat)(w:World)(hF:Lows F w)(ha:NatAt F w va x)(hb:NatAt F w vb y)(hyx:y<=x):
  Calls Tryz.prog 127 #[va,vb] w λe w'=>∃v,e=.returned (.tuple #[v,.bool true])/\NatAt F w' v (x-y)/\Below w.heap.size w w':=by
 have ha0:=ha
 obtain⟨A,c,rfl,_,_,_,hw⟩:=ha
 by_cases h0:nw x=0
 ·exact nSub_nil F A c vb x y w hF ha0 hb hyx h0
 ·obtain⟨g,o,rfl,_⟩:=hw 0 zo
  exact nSub_pos F g o c vb x y w hF ha0 hb hyx
open Go.RowKit
set_option maxHeartbeats 400000 in
theorem clone_none(n c:Nat)(w:World):
  Calls Tryz.prog 132 #[.slice none n c] w λe w'=>e=.returned (.slice none 0 0)/\Below w.heap.size w w':=by
 have hnil:=λ(w:World) (n c n' c':Nat)=>Lib.run_eql_slice_nil (P:=Tryz.prog) w 70 177 none n c n' c' Tryz.underlying70
 go_enter Tryz.func132,Tryz.ntmps132
 go_wp2_with fail
 go_ret
 exact⟨rfl,Below.refl _ _⟩
def WordsGot (b:Nat) (w':World) (v:Value) (x:Nat):Prop:=
 ∃A c,v=.slice A (nw x) c/\(∀G:Nat->Prop,(∀k,G k->k<b)->USlice G w' A (nw x) (wd x))/\nw x<=c/\c<=maxLen/\Nilled A (nw x) c/\w'.ownsRow b 177 1 v (nw x) (words (wd x) (nw x))
set_option maxHeartbeats 400000 in
theorem nWords(F:Nat->Prop)(va:Value)(x:Nat)(w:World)(ha:NatAt F w va x):
  Calls Tryz.prog 144 #[va] w λe w'=>∃v,e=.returned v/\WordsGot w.heap.size w' v x/\Below w.heap.size w w':=by
 have hsx:=ha.small
 unfold Small at hsx
 obtain⟨A,c,rfl,h1,h2,hsm,h3⟩:=ha
 have h3:=h3.slice
 rcases A with _ | a
 ·have h0:nw x=0:=by
   rcases Nat.eq_zero_or_pos (nw x) with h | h
   ·exact h
   ·obtain⟨_,_,e,_⟩:=h3 0 h
    cases e
  have H0:=Lib.hid h0
  clear h0 h3
  go_enter Tryz.func144,Tryz.ntmps144
  go_wp2_with fail
  refine(clone_none _ _ _).mono ?_
  rintro e wM ⟨rfl,hb⟩
  have BW:=zJ (w:=w) Wz hb
  go_wp2_with fail
  go_ret
  refine⟨.slice none 0 0,rfl,⟨none,0,by rw[H0.out],λG _ i hi=>by rw[H0.out] at hi;omega,by rw[H0.out];exact Nat.le_refl _,by unfold maxLen;omega,λ_=>⟨H0.out,rfl⟩,by rw[H0.out];exact World.ownsRow_nil _ _ _ _⟩,Wz⟩
 ·have C:=Cur.start F w
  go_enter Tryz.func144,Tryz.ntmps144
  go_wp2_with fail
  refine(clone_some F a _ c (wd x) _ (h3.keep Kz) hsx).mono ?_
  rintro e wM ⟨v0,rfl,hcl,hb⟩
  obtain⟨g,c0',rfl,hn1,hn2,hg,hg2,hsl,hown⟩:=cloned_slice hcl
  have BW:=zJ (w:=w) Wz hb
  have HH:=Lib.hid (And.intro hown hsl)
  clear hcl hsl hown h3
  go_wp2_with fail
  go_ret
  refine⟨_,rfl,⟨some ⟨g,0,none⟩,c0',rfl,λG hG=>HH.out.2 G λhh=>?_,hn1,hn2,λe=>(by cases e),ownBase HH.out.1 (by simp)⟩,Wz⟩
  have:=hG _ hh
  simp at hg;omega
theorem or_shl(a b k:Nat)(ha:a<2^k)(hk:k<64):bits .or .u64 (a:Int) (IntKind.u64.wrap ((b:Int)*2^k))=((a+b*2^k%18446744073709551616:Nat):Int):=by
 have h1:IntKind.u64.wrap ((b:Int)*2^k)=((b*2^k%18446744073709551616:Nat):Int):=by rw[IntKind.wrap_u64];simp
 have h2:a<18446744073709551616:=Nat.lt_of_lt_of_le ha (show 2^k<=2^64 from Nat.pow_le_pow_right zo zo)
 have h3:(b*2^k%18446744073709551616)%2^k=0:=by
  rw[show(18446744073709551616:Nat)=2^k*2^(64-k) by rw[←Nat.pow_add,show k+(64-k)=64 by omega]]
  rw[Nat.mod_mul_right_mod];simp
 rw[h1,u64_or_nat a _ h2 (Nat.mod_lt _ zo),Nat.or_comm,nat_join k _ a h3 ha,Nat.add_comm]
def ShlInv (x k:Nat) (f:Nat->Nat) (N i:Nat):Prop:=Wf f N/\val f (i+1)=x%2^(64*i)*2^k/\∀j,i<j->f j=0
theorem shl_low(x k:Nat)(f:Nat->Nat)(N j:Nat)(h:ShlInv x k f N j):f j<2^k:=by
 obtain⟨h1,h2,h3⟩:=h
 rw[val] at h2
 have h4:x%2^(64*j)<2^(64*j):=Nat.mod_lt _ (Nat.two_pow_pos _)
 have h5:f j*2^(64*j)<2^k*2^(64*j):=by
  have:x%2^(64*j)*2^k<2^(64*j)*2^k:=Nat.mul_lt_mul_of_pos_right h4 (Nat.two_pow_pos _)
  rw[Nat.mul_comm (2^k)]
  exact Nat.lt_of_le_of_lt (by rw[←h2];exact Nat.le_add_left _ _) this
 exact Nat.lt_of_mul_lt_mul_right h5
theorem shl_step(x k:Nat)(f:Nat->Nat)(N j u v:Nat)(h:ShlInv x k f N j)(hk:k<64)(hu:u=f j+wd x j*2^k%18446744073709551616)(hv:v=wd x j/2^(64-k)):ShlInv x k (upd (upd f j u) (j+1) v) N (j+1):=by
 have hlow:=shl_low x k f N j h
 obtain⟨h1,h2,h3⟩:=h
 have e64:(18446744073709551616:Nat)=2^k*2^(64-k):=by rw[←Nat.pow_add,show k+(64-k)=64 by omega]
 have hm:wd x j*2^k%18446744073709551616=wd x j%2^(64-k)*2^k:=by
  rw[e64,Nat.mul_comm (wd x j),Nat.mul_mod_mul_left,Nat.mul_comm]
 have hw:=xH x j
 have hu2:u<18446744073709551616:=by
  have:wd x j%2^(64-k)+1<=2^(64-k):=Nat.mod_lt _ (Nat.two_pow_pos _)
  have:(wd x j%2^(64-k)+1)*2^k<=2^(64-k)*2^k:=Nat.mul_le_mul_right _ this
  rw[Nat.add_mul,Nat.one_mul] at this
  rw[hu,hm,e64,Nat.mul_comm (2^k)]
  omega
 have hv2:v<18446744073709551616:=by rw[hv];exact Nat.lt_of_le_of_lt (Nat.div_le_self _ _) hw
 refine⟨jB _ _ _ _ (jB _ _ _ _ h1 hu2) hv2,?_,λi hi=>?_⟩
 ·rw[uK,uK,hu,hm,hv]
  have e1:x%2^(64*(j+1))=x%2^(64*j)+wd x j*2^(64*j):=by
   rw[←val_wd,←val_wd,val]
  have e2:wd x j=wd x j%2^(64-k)+wd x j/2^(64-k)*2^(64-k):=by
   rw[Nat.mul_comm];exact(Nat.mod_add_div _ _).symm
  rw[e1,p64,e64,Nat.add_mul (x%2^(64*j)),←h2,val]
  generalize hA:wd x j%2^(64-k)=A at*
  generalize hB:wd x j/2^(64-k)=B at*
  generalize 2^(64*j)=P
  rw[e2]
  generalize 2^(64-k)=Q
  generalize 2^k=R
  simp only[Nat.add_mul]
  have:B*(R*Q*P)=B*Q*P*R:=by
   rw[Nat.mul_comm R Q,Nat.mul_assoc Q R P,Nat.mul_comm R P,←Nat.mul_assoc Q,←Nat.mul_assoc B,←Nat.mul_assoc B]
  have h':A*R*P=A*P*R:=by rw[Nat.mul_assoc,Nat.mul_comm R P,←Nat.mul_assoc]
  omega
 ·unfold upd
  rw[if_neg zo,if_neg zo]
  exact h3 i zo
theorem shl_end(x k:Nat)(f:Nat->Nat)(h:ShlInv x k f (nw x+1) (nw x)):val f (nw x+1)=x*2^k:=by
 rw[h.2.1,Nat.mod_eq_of_lt (kE x)]
set_option maxHeartbeats 1000000 in
theorem nShl_pos(F:Nat->Prop)(g o c:Nat)(x k:Nat)(w:World)(hF:Lows F w)(ha:NatAt F w (.agg #[.slice (some ⟨g,o,none⟩) (nw x) c]) x)(hk:k<64)(hs:Small (x*2^k)):
  Calls Tryz.prog 152 #[.agg #[.slice (some ⟨g,o,none⟩) (nw x) c],.int .i64 (k:Nat)] w λe w'=>∃v,e=.returned (.tuple #[v,.bool true])/\NatAt F w' v (x*2^k)/\Below w.heap.size w w':=by
 have hx:=ha.own (G:=Own F [w.heap.size+1]) (Own.new (by simp))
 have hsx:=ha.small
 have hwx:=ha.words
 clear ha
 unfold Small at hsx
 have hmk:=λw=>mk64 (nw x+1) zo w
 have hx0:=Lib.hid hx
 have HW:=Lib.hid hwx
 clear hx hwx
 rw[show((nw x+1:Nat):Int)=(nw x:Int)+1 by simp] at hmk
 have hk0:(0:Int)<=k:=by omega
 have hk1:(k:Int)<64:=by omega
 have hq:(k:Int).tdiv 64=0:=Int.tdiv_eq_zero_of_lt hk0 hk1
 have hr:(k:Int).tmod 64=k:=Int.tmod_eq_of_lt hk0 hk1
 have l0:=(Blk.new w 72 #[.slice (some ⟨g,o,none⟩) (nw x) c]).alloc (.cells #[.slice none 0 0] 72)
 have l1:=Blk.new_at (w.alloc (.cells #[.slice (some ⟨g,o,none⟩) (nw x) c] 72)) 72 #[.slice none 0 0] (w.heap.size+1) (by simp)
 have C:=Cur.start (Own F [w.heap.size+1]) w
 go_enter Tryz.func152,Tryz.ntmps152
 go_wp2_with fail
 go_loopw [30] (λi wr=>∃(j:Nat) (f:Nat->Nat),i=.int .i64 j/\j<=nw x/\ShlInv x k f (nw x+1) j/\Cur (Own F [w.heap.size+1]) w wr/\Below w.heap.size w wr/\
   Blk wr w.heap.size 72 #[.slice (some ⟨g,o,none⟩) (nw x) c]/\Blk wr (w.heap.size+1) 72 #[.slice none 0 0]/\Blk wr (w.heap.size+1+1) 177 (wa f (nw x+1))) (λi wr=>nw x-(intOf i).toNat)
 case atStart=>
  refine⟨0,λ_=>0,rfl,by omega,⟨λi hi=>by show 0<_;omega,by simp[val,Nat.mod_one],λ_ _=>rfl⟩,Cur.mk Kz,Wz,l0.alloc _,l1.alloc _,Blk.new_at _ _ _ _ (by simp)⟩
 case round=>
  obtain⟨j,f,rfl,hj,hi,C,BW,l0,l1,l2⟩:=hrel
  have K:Keeps (Own F [w.heap.size+1]) w wr:=C
  have hI:=Lib.hid hi
  clear hi
  by_cases hlt:j<nw x
  ·have k2:(wa f (nw x+1))[j]?=some (.int .u64 (f j:Nat)):=kZ f _ j zo
   have hl:g<w.heap.size:=by
    obtain⟨g',o',e,_,hl,_⟩:=HW.out j hlt
    simp only[Option.some.injEq,Addr.mk.injEq] at e
    obtain⟨rfl,rfl,_⟩:=e
    exact hl
   have hcx:wr.cell? ⟨g,o+j,none⟩=some (.int .u64 (wd x j:Nat)):=by
    obtain⟨g',o',e,_,_,hcell⟩:=(hx0.out.keep K).words j hlt
    simp only[Option.some.injEq,Addr.mk.injEq] at e
    obtain⟨rfl,rfl,_⟩:=e
    exact hcell
   have c0:=l0.cell
   have c2:=l2.cell
   have f2:=l2.frozen
   have hj0:(0:Int)<=j:=by omega
   have hj1:(j:Int)<(nw x:Int):=by omega
   have hj2:(j:Int)<(nw x:Int)+1:=by omega
   have hw1:(wd x j:Int)<18446744073709551616:=by have:=xH x j;omega
   have hw2:(f j:Int)<18446744073709551616:=by have:=hI.out.1 j zo;omega
   go_wp2_with fail
   go_region
   rw[or_shl (f j) (wd x j) k (shl_low x k f _ j hI.out) hk]
   obtain⟨u,hu⟩:∃u:Nat,u=f j+wd x j*2^k%18446744073709551616:=⟨_,rfl⟩
   rw[←hu]
   have HU:=Lib.hid hu
   clear hu
   have l2':=l2.set_ j (.int .u64 (u:Nat))
   rw[wa_upd] at l2'
   have l0':=l0.far (p:=⟨w.heap.size+1+1,j,none⟩) (by first | (simp;done) | (simp;omega)) (.int .u64 (u:Nat))
   have l1':=l1.far (p:=⟨w.heap.size+1+1,j,none⟩) (by first | (simp;done) | (simp;omega)) (.int .u64 (u:Nat))
   have BW':Below w.heap.size w (wr.setCell ⟨w.heap.size+1+1,j,none⟩ (.int .u64 (u:Nat))).drew:=Wz
   have C':Cur (Own F [w.heap.size+1]) w (wr.setCell ⟨w.heap.size+1+1,j,none⟩ (.int .u64 (u:Nat))).drew:=Cur.mk Kz
   have l0:=l0'.drew
   have l1:=l1'.drew
   have l2:=l2'.drew
   clear l0' l1' l2' c0 c2 f2 k2 hcx BW C K
   revert l0 l1 l2 BW' C'
   generalize (wr.setCell ⟨w.heap.size+1+1,j,none⟩ (.int .u64 (u:Nat))).drew=wP
   intro BW C l0 l1 l2
   have K:Keeps (Own F [w.heap.size+1]) w wP:=C
   have c2:=l2.cell
   have f2:=l2.frozen
   have k2:(wa (upd f j u) (nw x+1))[j+1]?=some (.int .u64 (upd f j u (j+1):Nat)):=kZ _ _ _ zo
   go_wp2_with fail
   rw[show((wd x j:Nat):Int)/2^(64-k)=((wd x j/2^(64-k):Nat):Int) by simp]
   go_roundw
   case rel=>
    have l2':=l2.set_ (j+1) (.int .u64 (wd x j/2^(64-k):Nat))
    rw[wa_upd] at l2'
    exact⟨j+1,_,rfl,by omega,shl_step x k f _ j u _ hI.out hk HU.out rfl,Cur.mk Kz,Wz,l0.far (by first | (simp;done) | (simp;omega)) _,l1.far (by first | (simp;done) | (simp;omega)) _,l2'⟩
   case measure=>simp[intOf];omega
  ·obtain rfl:nw x=j:=by omega
   have hv:=Lib.hid (shl_end x k f hI.out)
   have hsl:=Lib.hid (kM (G:=Own F [w.heap.size+1]) l2 (by intro hh;rcases hh with hh | hh;exact absurd (hF _ hh) zo;simp at hh))
   have hwf:=Lib.hid hI.out.1
   go_wp2_with fail
   (refine(nTrim (Own F [w.heap.size+1]) (some ⟨w.heap.size+1+1,0,none⟩) (nw x+1) (nw x+1) f _ hsl.out (blk_typ l2) hwf.out (by rw[hv.out];exact hs) (Nat.le_refl _) (by unfold maxLen;omega)).mono ?_;rintro e wM ⟨v',rfl,hr,hb⟩;obtain⟨A',n',c',rfl⟩:=hr.form;obtain⟨K,C⟩:=Cur.step C Kz hb;have BW:=zJ (w:=w) Wz hb;have l1:=Blk.next l1 (λh=>Bz) hb;have c1:=l1.cell;have f1:=l1.frozen;have z1:=l1.lt)
   rw[hv.out] at hr
   have H:=Lib.hid hr
   clear hr
   go_wp2_with fail
   exact bodyPost_ret (v:=.tuple #[.agg #[.slice A' n' c'],.bool true]) (by simp[results,Tryz.results152,go_sem,c1]) rfl ⟨_,rfl,(H.out.keep Kz).sub Own.sub,Wz⟩
set_option maxHeartbeats 1000000 in
theorem nShl_nil(F:Nat->Prop)(A:Option Addr)(c:Nat)(k:Nat)(w:World)(hF:Lows F w)(hk:k<64):
  Calls Tryz.prog 152 #[.agg #[.slice A 0 c],.int .i64 (k:Nat)] w λe w'=>∃v,e=.returned (.tuple #[v,.bool true])/\NatAt F w' v 0/\Below w.heap.size w w':=by
 have hmk:=λw=>mk64 (0+1) zo w
 rw[show((0+1:Nat):Int)=1 by simp] at hmk
 have hk0:(0:Int)<=k:=by omega
 have hk1:(k:Int)<64:=by omega
 have hq:(k:Int).tdiv 64=0:=Int.tdiv_eq_zero_of_lt hk0 hk1
 have hr:(k:Int).tmod 64=k:=Int.tmod_eq_of_lt hk0 hk1
 have l1:=Blk.new_at (w.alloc (.cells #[.slice A 0 c] 72)) 72 #[.slice none 0 0] (w.heap.size+1) (by simp)
 have C:=Cur.start (Own F [w.heap.size+1]) w
 go_enter Tryz.func152,Tryz.ntmps152
 go_wp2_with fail
 have l1':=l1.alloc (.cells (wa (λ_=>0) (0+1)) 177)
 have l2:=Blk.new_at ((w.alloc (.cells #[.slice A 0 c] 72)).alloc (.cells #[.slice none 0 0] 72)) 177 (wa (λ_=>0) (0+1)) (w.heap.size+1+1) (by simp)
 have BW:Below w.heap.size w (((w.alloc (.cells #[.slice A 0 c] 72)).alloc (.cells #[.slice none 0 0] 72)).alloc (.cells (wa (λ_=>0) (0+1)) 177)):=Wz
 have C':Cur (Own F [w.heap.size+1]) w (((w.alloc (.cells #[.slice A 0 c] 72)).alloc (.cells #[.slice none 0 0] 72)).alloc (.cells (wa (λ_=>0) (0+1)) 177)):=Cur.mk Kz
 clear C l1
 go_loopw [30] (λi wr=>i=.int .i64 0/\Cur (Own F [w.heap.size+1]) w wr/\Below w.heap.size w wr/\Blk wr (w.heap.size+1) 72 #[.slice none 0 0]/\Blk wr (w.heap.size+1+1) 177 (wa (λ_=>0) (0+1))) (λ_ _=>0)
 case atStart=>exact⟨rfl,C',BW,l1',l2⟩
 case round=>
  obtain⟨rfl,C,BW,l1,l2⟩:=hrel
  have K:Keeps (Own F [w.heap.size+1]) w wr:=C
  have hsl:=Lib.hid (kM (G:=Own F [w.heap.size+1]) l2 (by intro hh;rcases hh with hh | hh;exact absurd (hF _ hh) zo;simp at hh))
  go_wp2_with fail
  (refine(nTrim (Own F [w.heap.size+1]) (some ⟨w.heap.size+1+1,0,none⟩) (0+1) (0+1) (λ_=>0) _ hsl.out (blk_typ l2) (λ_ _=>by show(0:Nat)<_;omega) (by simp[val];exact Nat.zero_le _) (Nat.le_refl _) (by unfold maxLen;omega)).mono ?_;rintro e wM ⟨v',rfl,hr,hb⟩;obtain⟨A',n',c',rfl⟩:=hr.form;obtain⟨K,C⟩:=Cur.step C Kz hb;have BW:=zJ (w:=w) Wz hb;have l1:=Blk.next l1 (λh=>Bz) hb;have c1:=l1.cell;have f1:=l1.frozen;have z1:=l1.lt)
  rw[show val (λ_=>0) (0+1)=0 from rfl] at hr
  have H:=Lib.hid hr
  clear hr
  go_wp2_with fail
  exact bodyPost_ret (v:=.tuple #[.agg #[.slice A' n' c'],.bool true]) (by simp[results,Tryz.results152,go_sem,c1]) rfl ⟨_,rfl,(H.out.keep Kz).sub Own.sub,Wz⟩
theorem nShl(F:Nat->Prop)(va:Value)(x k:Nat)(w:World)(hF:Lows F w)(ha:NatAt F w va x)(hk:k<64)(hs:Small (x*2^k)):
  Calls Tryz.prog 152 #[va,.int .i64 (k:Nat)] w λe w'=>∃v,e=.returned (.tuple #[v,.bool true])/\NatAt F w' v (x*2^k)/\Below w.heap.size w w':=by
 have ha0:=ha
 obtain⟨A,c,rfl,_,_,_,hw⟩:=ha
 by_cases h0:nw x=0
 ·obtain rfl:=(kY x).1 h0
  rw[Nat.zero_mul]
  exact nShl_nil F A c k w hF hk
 ·obtain⟨g,o,rfl,_⟩:=hw 0 zo
  exact nShl_pos F g o c x k w hF ha0 hk hs
open Go.RowKit
theorem wrapI{n:Int}(h0:-9223372036854775808<=n)(h1:n<9223372036854775808):IntKind.i64.wrap n=n:=by rw[IntKind.wrap_i64];omega
theorem or_shr(a b k:Nat)(ha:a<18446744073709551616)(hk:k<64):bits .or .u64 ((a:Int)/2^k) (IntKind.u64.wrap ((b:Int)*2^(64-k)))=((a/2^k+b*2^(64-k)%18446744073709551616:Nat):Int):=by
 have h1:IntKind.u64.wrap ((b:Int)*2^(64-k))=((b*2^(64-k)%18446744073709551616:Nat):Int):=by rw[IntKind.wrap_u64];simp
 have h0:((a:Int)/2^k)=((a/2^k:Nat):Int):=by simp
 have e64:(18446744073709551616:Nat)=2^(64-k)*2^k:=by rw[←Nat.pow_add,show 64-k+k=64 by omega]
 have h4:a/2^k<2^(64-k):=by rw[Nat.div_lt_iff_lt_mul (Nat.two_pow_pos _),←e64];exact ha
 have h2:a/2^k<18446744073709551616:=Nat.lt_of_le_of_lt (Nat.div_le_self _ _) ha
 have h3:(b*2^(64-k)%18446744073709551616)%2^(64-k)=0:=by
  rw[e64,Nat.mod_mul_right_mod];simp
 rw[h0,h1,u64_or_nat _ _ h2 (Nat.mod_lt _ zo),Nat.or_comm,nat_join (64-k) _ _ h3 h4,Nat.add_comm]
theorem wd_shr(x k i:Nat)(hk:k<64):wd (x/2^k) i=wd x i/2^k+wd x (i+1)*2^(64-k)%18446744073709551616:=by
 have e64:(18446744073709551616:Nat)=2^k*2^(64-k):=by rw[←Nat.pow_add,show k+(64-k)=64 by omega]
 have hL:x/2^k/2^(64*i)=x/2^(64*i)/2^k:=by rw[Nat.div_div_eq_div_mul,Nat.mul_comm (2^k),←Nat.div_div_eq_div_mul]
 have h1:x/2^(64*i)=x/2^(64*i)%18446744073709551616+18446744073709551616*(x/2^(64*(i+1))):=by
  have:=hi_step x i
  unfold wd at this
  omega
 have hw:x/2^(64*i)%18446744073709551616<18446744073709551616:=Nat.mod_lt _ zo
 unfold wd
 rw[hL]
 generalize x/2^(64*(i+1))=z at*
 generalize x/2^(64*i)=y at*
 generalize y%18446744073709551616=a at*
 subst h1
 have h2:(a+18446744073709551616*z)/2^k=a/2^k+2^(64-k)*z:=by
  rw[e64,Nat.mul_assoc,Nat.add_mul_div_left _ _ (Nat.two_pow_pos _)]
 have h3:z%18446744073709551616*2^(64-k)%18446744073709551616=2^(64-k)*(z%2^k):=by
  rw[e64,Nat.mul_comm (2^k) (2^(64-k)),Nat.mul_comm (z%_),Nat.mul_mod_mul_left,Nat.mod_mul_left_mod]
 have h4:(2^(64-k)*z)%18446744073709551616=2^(64-k)*(z%2^k):=by
  rw[e64,Nat.mul_comm (2^k) (2^(64-k)),Nat.mul_mod_mul_left]
 have h5:a/2^k<2^(64-k):=by rw[Nat.div_lt_iff_lt_mul (Nat.two_pow_pos _),Nat.mul_comm,←e64];exact hw
 have h6:2^(64-k)*(z%2^k+1)<=18446744073709551616:=by
  rw[e64,Nat.mul_comm (2^k)]
  exact Nat.mul_le_mul_left _ (Nat.mod_lt _ (Nat.two_pow_pos _))
 rw[Nat.mul_add,Nat.mul_one] at h6
 rw[h2,h3,Nat.add_mod,h4,Nat.mod_eq_of_lt (Nat.lt_of_lt_of_le h5 zo),Nat.mod_eq_of_lt zo]
def ShrInv (x k:Nat) (f:Nat->Nat) (N j:Nat):Prop:=Wf f N/\∀i,i<j->f i=wd (x/2^k) i
theorem shr_step(x k:Nat)(f:Nat->Nat)(N j u:Nat)(h:ShrInv x k f N j)(hk:k<64)(hu:u=wd x j/2^k+wd x (j+1)*2^(64-k)%18446744073709551616):ShrInv x k (upd f j u) N (j+1):=by
 rw[←wd_shr x k j hk] at hu
 refine⟨jB _ _ _ _ h.1 (by rw[hu];exact xH _ _),λi hi=>?_⟩
 unfold upd
 by_cases e:i=j
 ·subst e;rw[if_pos rfl];exact hu
 ·rw[if_neg e];exact h.2 i zo
theorem shr_end(x k:Nat)(f:Nat->Nat)(h:ShrInv x k f (nw x) (nw x)):val f (nw x)=x/2^k:=by
 rw[val_congr f (wd (x/2^k)) _ h.2,jD _ _ (nw_mono (Nat.div_le_self _ _))]
set_option maxHeartbeats 1000000 in
theorem nShr_pos(F:Nat->Prop)(A:Option Addr)(c:Nat)(x k:Nat)(w:World)(hF:Lows F w)(ha:NatAt F w (.agg #[.slice A (nw x) c]) x)(hk:k<64)(h0:0<nw x):
  Calls Tryz.prog 156 #[.agg #[.slice A (nw x) c],.int .i64 (k:Nat)] w λe w'=>∃v,e=.returned v/\NatAt F w' v (x/2^k)/\Below w.heap.size w w':=by
 have hx:=ha.own (G:=Own F [w.heap.size+1]) (Own.new (by simp))
 have hsx:=ha.small
 clear ha
 unfold Small at hsx
 have hmk:=λw=>mk64 (nw x) zo w
 have hx0:=Lib.hid hx
 clear hx
 have hk0:(0:Int)<=k:=by omega
 have hk1:(k:Int)<64:=by omega
 have hq:(k:Int).tdiv 64=0:=Int.tdiv_eq_zero_of_lt hk0 hk1
 have hr:(k:Int).tmod 64=k:=Int.tmod_eq_of_lt hk0 hk1
 have h0':¬((nw x:Int)<=0):=by omega
 have l0:=(Blk.new w 72 #[.slice A (nw x) c]).alloc (.cells #[.slice none 0 0] 72)
 have l1:=Blk.new_at (w.alloc (.cells #[.slice A (nw x) c] 72)) 72 #[.slice none 0 0] (w.heap.size+1) (by simp)
 have C:=Cur.start (Own F [w.heap.size+1]) w
 go_enter Tryz.func156,Tryz.ntmps156
 go_wp2_with fail
 go_loopw [30] (λi wr=>∃(j:Nat) (f:Nat->Nat),i=.int .i64 j/\j<=nw x/\ShrInv x k f (nw x) j/\Cur (Own F [w.heap.size+1]) w wr/\Below w.heap.size w wr/\
   Blk wr w.heap.size 72 #[.slice A (nw x) c]/\Blk wr (w.heap.size+1) 72 #[.slice none 0 0]/\Blk wr (w.heap.size+1+1) 177 (wa f (nw x))) (λi wr=>nw x-(intOf i).toNat)
 case atStart=>
  refine⟨0,λ_=>0,rfl,by omega,⟨λi hi=>by show 0<_;omega,λ_ h=>by omega⟩,Cur.mk Kz,Wz,l0.alloc _,l1.alloc _,Blk.new_at _ _ _ _ (by simp)⟩
 case round=>
  obtain⟨j,f,rfl,hj,hi,C,BW,l0,l1,l2⟩:=hrel
  have K:Keeps (Own F [w.heap.size+1]) w wr:=C
  have hI:=Lib.hid hi
  clear hi
  by_cases hlt:j<nw x
  ·have k2:(wa f (nw x))[j]?=some (.int .u64 (f j:Nat)):=kZ f _ j zo
   have c0:=l0.cell
   have c2:=l2.cell
   have f2:=l2.frozen
   have hj0:(0:Int)<=j:=by omega
   have hj1:(j:Int)<(nw x:Int):=by omega
   have hw0:IntKind.i64.wrap 0=0:=by decide
   have hw1:IntKind.i64.wrap (j:Int)=j:=wrapI zo zo
   have hw2:IntKind.i64.wrap ((j:Int)+1)=(j:Int)+1:=wrapI zo zo
   have hw3:IntKind.i64.wrap (64-(k:Int))=64-(k:Int):=wrapI zo zo
   have hw4:(0:Int)<=64-(k:Int):=by omega
   have hw5:(64:Int)-(k:Int)<=64:=by omega
   go_wp2_with fail
   go_region_held3 (λw'=>(∀i,w'.cell? ⟨w.heap.size,i,none⟩=(#[.slice A (nw x) c]:Array Value)[i]?))
    (first | exact l0.cell | exact(l0.far (by first | (simp;done) | (simp;omega)) _).cell | go_keep)
    (first
     | (go_at_call 143;refine(nWord (Own F [w.heap.size+1]) _ _ _ zo _ (NatAt.keep hx0.out Kz)).mono ?_;rintro e wM ⟨rfl,hb⟩;obtain⟨K,C⟩:=Cur.step C Kz hb;have BW:=zJ (w:=w) Wz hb;have l0:=Blk.next l0 (λh=>Bz) hb;have l1:=Blk.next l1 (λh=>Bz) hb;have l2:=Blk.next l2 (λh=>Bz) hb;have c0:=l0.cell;have f0:=l0.frozen;have z0:=l0.lt;have c1:=l1.cell;have f1:=l1.frozen;have z1:=l1.lt;have c2:=l2.cell;have f2:=l2.frozen;have z2:=l2.lt))
   rw[or_shr (wd x j) (wd x (j+1)) k (xH _ _) hk]
   obtain⟨u,hu⟩:∃u:Nat,u=wd x j/2^k+wd x (j+1)*2^(64-k)%18446744073709551616:=⟨_,rfl⟩
   rw[←hu]
   have HU:=Lib.hid hu
   clear hu
   go_wp2_with fail
   go_roundw
   case rel=>
    have KW:Keeps (Own F [w.heap.size+1]) w wM:=C
    have l2':=l2.set_ j (.int .u64 (u:Nat))
    rw[wa_upd] at l2'
    exact⟨j+1,_,rfl,by omega,shr_step x k f _ j u hI.out hk HU.out,Cur.mk Kz,Wz,l0.far (by first | (simp;done) | (simp;omega)) _,l1.far (by first | (simp;done) | (simp;omega)) _,l2'⟩
   case measure=>simp[intOf];omega
  ·obtain rfl:nw x=j:=by omega
   have hv:=Lib.hid (shr_end x k f hI.out)
   have hsl:=Lib.hid (kM (G:=Own F [w.heap.size+1]) l2 (by intro hh;rcases hh with hh | hh;exact absurd (hF _ hh) zo;simp at hh))
   have hwf:=Lib.hid hI.out.1
   go_wp2_with fail
   (refine(nTrim (Own F [w.heap.size+1]) (some ⟨w.heap.size+1+1,0,none⟩) (nw x) (nw x) f _ hsl.out (blk_typ l2) hwf.out (by rw[hv.out];exact Nat.le_trans (nw_mono (Nat.div_le_self _ _)) hsx) (Nat.le_refl _) (by unfold maxLen;omega)).mono ?_;rintro e wM ⟨v',rfl,hr,hb⟩;obtain⟨A',n',c',rfl⟩:=hr.form;obtain⟨K,C⟩:=Cur.step C Kz hb;have BW:=zJ (w:=w) Wz hb;have l1:=Blk.next l1 (λh=>Bz) hb;have c1:=l1.cell;have f1:=l1.frozen;have z1:=l1.lt)
   rw[hv.out] at hr
   have H:=Lib.hid hr
   clear hr
   go_wp2_with fail
   exact bodyPost_ret (v:=.agg #[.slice A' n' c']) (by simp[results,Tryz.results156,go_sem,c1]) rfl ⟨_,rfl,(H.out.keep Kz).sub Own.sub,Wz⟩
set_option maxHeartbeats 1000000 in
theorem nShr_nil(F:Nat->Prop)(A:Option Addr)(c k:Nat)(w:World)(hk:k<64):
  Calls Tryz.prog 156 #[.agg #[.slice A 0 c],.int .i64 (k:Nat)] w λe w'=>∃v,e=.returned v/\NatAt F w' v 0/\Below w.heap.size w w':=by
 have hk0:(0:Int)<=k:=by omega
 have hk1:(k:Int)<64:=by omega
 have hq:(k:Int).tdiv 64=0:=Int.tdiv_eq_zero_of_lt hk0 hk1
 have l1:=Blk.new_at (w.alloc (.cells #[.slice A 0 c] 72)) 72 #[.slice none 0 0] (w.heap.size+1) (by simp)
 go_enter Tryz.func156,Tryz.ntmps156
 go_wp2_with fail
 exact bodyPost_ret (v:=.agg #[.slice none 0 0]) (by simp[results,Tryz.results156,go_sem,l1.cell]) rfl ⟨_,rfl,NatAt.zero _ _,Wz⟩
theorem nShr(F:Nat->Prop)(va:Value)(x k:Nat)(w:World)(hF:Lows F w)(ha:NatAt F w va x)(hk:k<64):
  Calls Tryz.prog 156 #[va,.int .i64 (k:Nat)] w λe w'=>∃v,e=.returned v/\NatAt F w' v (x/2^k)/\Below w.heap.size w w':=by
 have ha0:=ha
 obtain⟨A,c,rfl,_,_,_,hw⟩:=ha
 by_cases h0:nw x=0
 ·obtain rfl:=(kY x).1 h0
  rw[Nat.zero_div]
  exact nShr_nil F A c k w hk
 ·exact nShr_pos F A c x k w hF ha0 hk zo
open Go.RowKit
theorem lows0(w:World):Lows (λ_=>False) w:=λ_ h=>h.elim
def MR.lits (l:List Nat):MR:=⟨λw v=>∃g,v=.slice (some ⟨g,0,none⟩) l.length l.length/\USlice (λ_=>False) w (some ⟨g,0,none⟩) l.length (λi=>l.getD i 0),λh ⟨g,e,k⟩=>⟨g,e,k.keep (Keeps.of_below h)⟩⟩
theorem run_lit{w:World}{k:Nat}:(Instr.buildSlice 70 1 #[(0,.int .u64 (k:Nat))]).run Tryz.prog w=.ok (.slice (some ⟨w.heap.size,0,none⟩) 1 1) (w.alloc (.cells #[.int .u64 (k:Nat)] 177)):=by
 obtain⟨i0,hi0,hz0,hz1,hz2⟩:=xQ jE
 simp[Instr.buildSlice,Sem.run_bind,run_underlying Tryz.underlying70 w,sizeOf,zeroValue,typeInfo,hi0,hz0,hz1,newRow,Instr.fill,Value.cells]
 rw[show Array.range 1=#[0] from by decide]
 simp
theorem yld_lit{o:Oper}{ρ:Operand->Value}{w:World}{x:Operand}{k:Nat}(h:o.op=.buildSlice 70 1 #[(0,x)])(hx:ρ x=.int .u64 (k:Nat)):Yld Tryz.prog o ρ w (λv w'=>Grow w w'/\(MR.lits [k]).R w' v):=by
 unfold Yld execOp
 rw[h]
 have e:(#[(0,x)]:Array (Nat×Operand)).map (λ(i,x)=>(i,ρ x))=#[(0,.int .u64 (k:Nat))]:=by simp[hx]
 simp only[e,Sem.run_bind,run_lit,Result.andThen_ok]
 refine⟨(Grow.refl w).alloc _,w.heap.size,rfl,λi hi=>?_⟩
 obtain rfl:i=0:=by simp at hi;omega
 have hb:=Blk.new w 177 #[.int .u64 (k:Nat)]
 exact⟨w.heap.size,0,rfl,id,hb.lt,by rw[hb.cell];rfl⟩
theorem cNatOf1{v:Value}{k:Nat}{w:World}(h:(MR.lits [k]).R w v)(hk:k<18446744073709551616):Calls Tryz.prog 110 #[v] w (Ret (.nat k) w):=by
 obtain⟨g,rfl,hs⟩:=h
 have e:val (λi=>[k].getD i 0) 1=k:=by simp[val]
 have:=nOf (λ_=>False) (some ⟨g,0,none⟩) 1 1 (λi=>[k].getD i 0) w (lows0 w) hs (λi hi=>by obtain rfl:i=0:=zo;exact hk) zo (λe=>by cases e)
 rw[e] at this
 exact this.mono λ_ _ ⟨v,e,h1,h2⟩=>⟨v,e,h2,h1⟩
section
variable {va vb:Value} {x y:Nat} {w:World}
theorem cNatAdd(ha:(MR.nat x).R w va)(hb:(MR.nat y).R w vb)(hs:Small (x+y)):Calls Tryz.prog 126 #[va,vb] w (Ret (.nat (x+y)) w):=
 (nAdd (λ_=>False) va vb x y w (lows0 w) ha hb hs).mono λ_ _ ⟨v,e,h1,h2⟩=>⟨v,e,h2,h1⟩
theorem cNatSub(ha:(MR.nat x).R w va)(hb:(MR.nat y).R w vb):Calls Tryz.prog 127 #[va,vb] w (Ret (.tup2 (.nat (x-y)) (.eq (.bool (decide (y<=x))))) w):=by
 by_cases h:y<=x
 ·exact(nSub_yes (λ_=>False) va vb x y w (lows0 w) ha hb h).mono λ_ _ ⟨v,e,h1,h2⟩=>⟨_,e,h2,v,_,rfl,h1,by rw[decide_eq_true h];rfl⟩
 ·exact(nSub_no (λ_=>False) va vb x y w ha hb zo).mono λ_ _ ⟨e,h2⟩=>⟨_,e,h2,_,_,rfl,by rw[show x-y=0 by omega];exact zNat _,by rw[decide_eq_false h];rfl⟩
theorem cNatCmp(ha:(MR.nat x).R w va)(hb:(MR.nat y).R w vb):Calls Tryz.prog 84 #[va,vb] w (Ret (.eq (.int .i64 (cmpV x y))) w):=
 (nCmp (λ_=>False) va vb x y w ha hb).mono λ_ _ ⟨e,h2⟩=>⟨_,e,h2,rfl⟩
theorem cNatLen(ha:(MR.nat x).R w va):Calls Tryz.prog 123 #[va] w (Ret (.eq (.int .i64 (nw x))) w):=
 (nLen (λ_=>False) va x w ha).mono λ_ _ ⟨e,h2⟩=>⟨_,e,h2,rfl⟩
theorem cNatUint(ha:(MR.nat x).R w va):Calls Tryz.prog 141 #[va] w (Ret (.tup2 (.eq (.int .u64 (uintV x))) (.eq (.bool (xI x)))) w):=
 (nUint (λ_=>False) va x w ha).mono λ_ _ ⟨e,h2⟩=>⟨_,e,h2,_,_,rfl,rfl,rfl⟩
theorem cNatZero(ha:(MR.nat x).R w va):Calls Tryz.prog 101 #[va] w (Ret (.eq (.bool (decide (x=0)))) w):=
 (nZero (λ_=>False) va x w ha).mono λ_ _ ⟨e,h2⟩=>⟨_,e,h2,rfl⟩
end
open Go.RowKit
theorem jC(f:Nat->Nat)(j v:Nat):∀n,j<n->val (upd f j v) n+f j*2^(64*j)=val f n+v*2^(64*j)
 | 0,h=>by omega
 | n+1,h=>by
  rw[val,val]
  by_cases e:j=n
  ·subst e
   rw[val_upd]
   unfold upd
   rw[if_pos rfl]
   omega
  ·have:=jC f j v n zo
   have e2:upd f j v n=f n:=by unfold upd;rw[if_neg (λh=>e h.symm)]
   rw[e2]
   omega
def RowInv (x y:Nat) (f:Nat->Nat) (N i:Nat):Prop:=Wf f N/\val f N=x%2^(64*i)*y/\∀j,i+nw y<=j->f j=0
def ColInv (x y:Nat) (f:Nat->Nat) (N i k o:Nat):Prop:=Wf f N/\o<18446744073709551616/\val f N+o*2^(64*(i+k))=x%2^(64*i)*y+wd x i*(y%2^(64*k))*2^(64*i)/\∀j,i+nw y<=j->f j=0
theorem mod_succ(x i:Nat):x%2^(64*(i+1))=x%2^(64*i)+wd x i*2^(64*i):=by rw[←val_wd,←val_wd,val]
theorem col_start{x y:Nat}{f:Nat->Nat}{N i:Nat}(h:RowInv x y f N i):ColInv x y f N i 0 0:=by
 obtain⟨h1,h2,h3⟩:=h
 refine⟨h1,by omega,?_,h3⟩
 simp[h2,Nat.mod_one]
theorem lin4{V' V fP lP oP A B C H:Nat}(h1:V'+fP=V+lP)(h2:V+oP=A+B)(h3:H+lP=C+fP+oP):V'+H=A+(B+C):=by omega
theorem col_step{x y:Nat}{f:Nat->Nat}{N i k o hi lo:Nat}(h:ColInv x y f N i k o)(hj:i+k<N)(hk:k<nw y)(hh:hi<18446744073709551616)(hl:lo<18446744073709551616)(e:hi*18446744073709551616+lo=wd x i*wd y k+f (i+k)+o):ColInv x y (upd f (i+k) lo) N i (k+1) hi:=by
 obtain⟨h1,h2,h3,h4⟩:=h
 refine⟨jB _ _ _ _ h1 hl,hh,?_,λj hj'=>?_⟩
 ·have hsw:=jC f (i+k) lo N hj
  have ep:2^(64*(i+(k+1)))=18446744073709551616*2^(64*(i+k)):=by rw[show i+(k+1)=i+k+1 from rfl];exact p64 (i+k)
  have eq:2^(64*(i+k))=2^(64*k)*2^(64*i):=by rw[←Nat.pow_add,←Nat.mul_add,Nat.add_comm]
  have e3:wd x i*(wd y k*2^(64*k))*2^(64*i)=wd x i*wd y k*2^(64*(i+k)):=by rw[eq,Nat.mul_assoc,Nat.mul_assoc,Nat.mul_assoc]
  have e4:hi*(18446744073709551616*2^(64*(i+k)))=hi*18446744073709551616*2^(64*(i+k)):=(Nat.mul_assoc _ _ _).symm
  have e2:hi*18446744073709551616*2^(64*(i+k))+lo*2^(64*(i+k))=wd x i*wd y k*2^(64*(i+k))+f (i+k)*2^(64*(i+k))+o*2^(64*(i+k)):=by
   rw[←Nat.add_mul,e,Nat.add_mul,Nat.add_mul]
  rw[ep,mod_succ y k,Nat.mul_add (wd x i),Nat.add_mul (wd x i*_),e3,e4]
  exact lin4 hsw h3 e2
 ·unfold upd
  rw[if_neg zo]
  exact h4 j hj'
theorem row_step{x y:Nat}{f:Nat->Nat}{N i o:Nat}(h:ColInv x y f N i (nw y) o)(hj:i+nw y<N):RowInv x y (upd f (i+nw y) o) N (i+1):=by
 obtain⟨h1,h2,h3,h4⟩:=h
 refine⟨jB _ _ _ _ h1 h2,?_,λj hj'=>?_⟩
 ·have hsw:=jC f (i+nw y) o N hj
  rw[h4 (i+nw y) (Nat.le_refl _),Nat.zero_mul,Nat.add_zero] at hsw
  rw[hsw,h3,mod_succ,Nat.mod_eq_of_lt (kE y),Nat.add_mul,Nat.mul_assoc (wd x i),Nat.mul_comm y,Nat.mul_assoc (wd x i)]
 ·unfold upd
  rw[if_neg zo]
  exact h4 j zo
theorem row_end{x y:Nat}{f:Nat->Nat}{N:Nat}(h:RowInv x y f N (nw x)):val f N=x*y:=by
 rw[h.2.1,Nat.mod_eq_of_lt (kE x)]
theorem row_start(x y N:Nat):RowInv x y (λ_=>0) N 0:=by
 refine⟨λi hi=>by show 0<_;omega,?_,λ_ _=>rfl⟩
 have:∀n,val (λ_=>0) n=0:=by
  intro n
  induction n with
  | zero=>rfl
  | succ n ih=>rw[val,ih];simp
 rw[this];simp[Nat.mod_one]
theorem mulRel_nat{a b c d:Nat}{hi lo:Int}(h:MulRel a b c d hi lo):∃hi' lo':Nat,hi=hi'/\lo=lo'/\hi'<18446744073709551616/\lo'<18446744073709551616/\hi'*18446744073709551616+lo'=a*b+c+d:=by
 obtain⟨⟨h1,h2⟩,⟨h3,h4⟩,h5⟩:=h
 obtain⟨hi',rfl⟩:=Int.eq_ofNat_of_zero_le h1
 obtain⟨lo',rfl⟩:=Int.eq_ofNat_of_zero_le h3
 refine⟨hi',lo',rfl,rfl,by omega,by omega,?_⟩
 have:((hi'*18446744073709551616+lo':Nat):Int)=((a*b+c+d:Nat):Int):=by simpa using h5
 exact Int.ofNat_inj.1 this
set_option maxHeartbeats 2000000 in
theorem pSchool(F:Nat->Prop)(va vb:Value)(x y:Nat)(w:World)(hF:Lows F w)(ha:NatAt F w va x)(hb:NatAt F w vb y)(hs:nw x+nw y<=1099511627776):
  Calls Tryz.prog 124 #[va,vb] w λe w'=>∃v,e=.returned v/\NatAt F w' v (x*y)/\Below w.heap.size w w':=by
 have hx:=ha.own (G:=Own F [w.heap.size+1+1]) (Own.new (by simp;omega))
 have hy:=hb.own (G:=Own F [w.heap.size+1+1]) (Own.new (by simp;omega))
 obtain⟨A,n,c,rfl⟩:=ha.form
 obtain⟨B,m,d,rfl⟩:=hb.form
 clear ha hb
 have hmk:=λw=>mk64 (nw x+nw y) zo w
 rw[show((nw x+nw y:Nat):Int)=(nw x:Int)+(nw y:Int) by simp] at hmk
 have hw0:IntKind.i64.wrap ((nw x:Int)+(nw y:Int))=(nw x:Int)+(nw y:Int):=wrapI zo zo
 have hx0:=Lib.hid hx
 have hy0:=Lib.hid hy
 clear hx hy
 have l0:=((Blk.new w 72 #[.slice A n c]).alloc (.cells #[.slice B m d] 72)).alloc (.cells #[.slice none 0 0] 72)
 have l1:=(Blk.new_at (w.alloc (.cells #[.slice A n c] 72)) 72 #[.slice B m d] (w.heap.size+1) (by simp)).alloc (.cells #[.slice none 0 0] 72)
 have l2:=Blk.new_at ((w.alloc (.cells #[.slice A n c] 72)).alloc (.cells #[.slice B m d] 72)) 72 #[.slice none 0 0] (w.heap.size+1+1) (by simp)
 have C:=Cur.start (Own F [w.heap.size+1+1]) w
 go_enter Tryz.func124,Tryz.ntmps124
 go_wp2_with fail
 go_region_held3 (λw'=>(∀i,w'.cell? ⟨w.heap.size,i,none⟩=(#[.slice A n c]:Array Value)[i]?)/\(∀i,w'.cell? ⟨w.heap.size+1,i,none⟩=(#[.slice B m d]:Array Value)[i]?))
  (first | exact⟨l0.cell,l1.cell⟩ | exact⟨(l0.alloc _).cell,(l1.alloc _).cell⟩ | go_keep)
  (first
   | ((go_at_call 123;refine(nLen (Own F [w.heap.size+1+1]) _ x _ (NatAt.keep hx0.out Kz)).mono ?_;rintro e wM ⟨rfl,hb⟩;obtain⟨K,C⟩:=Cur.step C Kz hb;have BW:=zJ (w:=w) Wz hb;have l0:=Blk.next l0 (λh=>Bz) hb;have l1:=Blk.next l1 (λh=>Bz) hb;have l2:=Blk.next l2 (λh=>Bz) hb;have c0:=l0.cell;have f0:=l0.frozen;have z0:=l0.lt;have c1:=l1.cell;have f1:=l1.frozen;have z1:=l1.lt;have c2:=l2.cell;have f2:=l2.frozen;have z2:=l2.lt))
   | ((go_at_call 123;refine(nLen (Own F [w.heap.size+1+1]) _ y _ (NatAt.keep hy0.out Kz)).mono ?_;rintro e wM ⟨rfl,hb⟩;obtain⟨K,C⟩:=Cur.step C Kz hb;have BW:=zJ (w:=w) Wz hb;have l0:=Blk.next l0 (λh=>Bz) hb;have l1:=Blk.next l1 (λh=>Bz) hb;have l2:=Blk.next l2 (λh=>Bz) hb;have c0:=l0.cell;have f0:=l0.frozen;have z0:=l0.lt;have c1:=l1.cell;have f1:=l1.frozen;have z1:=l1.lt;have c2:=l2.cell;have f2:=l2.frozen;have z2:=l2.lt)))
 obtain⟨wO,rfl⟩:∃z:World,z=wM:=⟨_,rfl⟩
 have KW:Keeps (Own F [w.heap.size+1+1]) w wO:=C
 have BO:=BW
 have q2:w.heap.size+1+1<wO.heap.size:=l2.lt
 have l3:=Blk.new wO 177 (wa (λ_=>0) (nw x+nw y))
 go_wp2_with fail
 (refine(nLen (Own F [w.heap.size+1+1]) _ x _ (NatAt.keep hx0.out Kz)).mono ?_;rintro e wM ⟨rfl,hb⟩;obtain⟨K,C⟩:=Cur.step C Kz hb;have BW:=zJ (w:=w) Wz hb;have l0:=Blk.next l0 (λh=>Bz) hb;have l1:=Blk.next l1 (λh=>Bz) hb;have l2:=Blk.next l2 (λh=>Bz) hb;have l3:=Blk.next l3 (λh=>Bz) hb;have c0:=l0.cell;have f0:=l0.frozen;have z0:=l0.lt;have c1:=l1.cell;have f1:=l1.frozen;have z1:=l1.lt;have c2:=l2.cell;have f2:=l2.frozen;have z2:=l2.lt;have c3:=l3.cell;have f3:=l3.frozen;have z3:=l3.lt)
 go_wp2_with fail
 go_loopw [17] (λi wr=>∃(j:Nat) (f:Nat->Nat),i=.int .i64 j/\j<=nw x/\RowInv x y f (nw x+nw y) j/\Cur (Own F [w.heap.size+1+1]) w wr/\Below w.heap.size w wr/\
   Blk wr w.heap.size 72 #[.slice A n c]/\Blk wr (w.heap.size+1) 72 #[.slice B m d]/\Blk wr (w.heap.size+1+1) 72 #[.slice none 0 0]/\Blk wr wO.heap.size 177 (wa f (nw x+nw y))) (λi wr=>nw x-(intOf i).toNat)
 case atStart=>
  exact⟨0,λ_=>0,rfl,by omega,row_start x y (nw x+nw y),Cur.mk Kz,Wz,l0,l1,l2,l3⟩
 case round=>
  obtain⟨j,f,rfl,hj,hi,C,BW,l0,l1,l2,l3⟩:=hrel
  have K:Keeps (Own F [w.heap.size+1+1]) w wr:=C
  have hI:=Lib.hid hi
  clear hi
  have c0:=l0.cell
  have c1:=l1.cell
  by_cases hlt:j<nw x
  ·have hj0:(0:Int)<=j:=by omega
   have hj1:(j:Int)<(nw x:Int):=by omega
   go_wp2_with fail
   (refine(nLen (Own F [w.heap.size+1+1]) _ y _ (NatAt.keep hy0.out Kz)).mono ?_;rintro e wM ⟨rfl,hb⟩;obtain⟨K,C⟩:=Cur.step C Kz hb;have BW:=zJ (w:=w) Wz hb;have l0:=Blk.next l0 (λh=>Bz) hb;have l1:=Blk.next l1 (λh=>Bz) hb;have l2:=Blk.next l2 (λh=>Bz) hb;have l3:=Blk.next l3 (λh=>Bz) hb;have c0:=l0.cell;have f0:=l0.frozen;have z0:=l0.lt;have c1:=l1.cell;have f1:=l1.frozen;have z1:=l1.lt;have c2:=l2.cell;have f2:=l2.frozen;have z2:=l2.lt;have c3:=l3.cell;have f3:=l3.frozen;have z3:=l3.lt)
   have KW:Keeps (Own F [w.heap.size+1+1]) w wM:=C
   go_wp2_with fail
   go_loopw [7,22] (λcc i wr=>∃(k o:Nat) (f:Nat->Nat),i=.int .i64 k/\cc=.int .u64 o/\k<=nw y/\ColInv x y f (nw x+nw y) j k o/\Cur (Own F [w.heap.size+1+1]) w wr/\Below w.heap.size w wr/\
   Blk wr w.heap.size 72 #[.slice A n c]/\Blk wr (w.heap.size+1) 72 #[.slice B m d]/\Blk wr (w.heap.size+1+1) 72 #[.slice none 0 0]/\Blk wr wO.heap.size 177 (wa f (nw x+nw y))) (λcc i wr=>nw y-(intOf i).toNat)
   case atStart=>
    exact⟨0,0,f,rfl,rfl,by omega,col_start hI.out,Cur.mk Kz,Wz,l0,l1,l2,l3⟩
   case round=>
    clear C BW l0 l1 l2 l3 K hI c0 c1 f0 f1 f2 f3 z0 z1 z2 z3 c2 c3 KW hb
    obtain⟨k,o,f,rfl,rfl,hk,hi,C,BW,l0,l1,l2,l3⟩:=hrel
    have K:Keeps (Own F [w.heap.size+1+1]) w wr:=C
    have hI:=Lib.hid hi
    have ho:o<18446744073709551616:=hi.2.1
    clear hi
    have c0:=l0.cell
    have c1:=l1.cell
    have c3:=l3.cell
    have f3:=l3.frozen
    by_cases hlk:k<nw y
    ·have k3:(wa f (nw x+nw y))[j+k]?=some (.int .u64 (f (j+k):Nat)):=kZ f _ (j+k) zo
     have hk0:(0:Int)<=k:=by omega
     have hk1:(k:Int)<(nw y:Int):=by omega
     have hw1:IntKind.i64.wrap ((j:Int)+(k:Int))=(j:Int)+(k:Int):=wrapI zo zo
     have hw2:(0:Int)<=(j:Int)+(k:Int):=by omega
     have hw4:((j:Int)+(k:Int)).toNat=j+k:=by omega
     have hw3:(j:Int)+(k:Int)<(nw x:Int)+(nw y:Int):=by omega
     go_wp2_with fail
     refine jW 23 (λw'=>(∀i,w'.cell? ⟨w.heap.size,i,none⟩=(#[.slice A n c]:Array Value)[i]?)/\(∀i,w'.cell? ⟨w.heap.size+1,i,none⟩=(#[.slice B m d]:Array Value)[i]?)/\w'.cell? ⟨wO.heap.size,j+k,none⟩=some (.int .u64 (f (j+k):Nat))) zk ⟨c0,c1,(c3 _).trans k3⟩ (λhHeld=>?_)
     (refine zH (i:=0) (v:=?_) rfl (by kernel_rfl) (by kernel_rfl) (by kernel_rfl) (by kernel_rfl) (by kernel_rfl) (λ_ _ _ h=>h) (Or.inl ⟨by rfl,?_⟩) (by assumption) ?_;rotate_left;focus (intro w hSw;(try dsimp only at hSw);go_simp;(try with_reducible rfl));(try simp only[Act.put,List.setIfInBounds_toArray,List.set_cons_zero,List.set_cons_succ]));(refine zH (i:=1) (v:=?_) rfl (by kernel_rfl) (by kernel_rfl) (by kernel_rfl) (by kernel_rfl) (by kernel_rfl) (λ_ _ _ h=>h) (Or.inl ⟨by rfl,?_⟩) (by assumption) ?_;rotate_left;focus (intro w hSw;(try dsimp only at hSw);go_simp;(try with_reducible rfl));(try simp only[Act.put,List.setIfInBounds_toArray,List.set_cons_zero,List.set_cons_succ]));(refine zH (i:=2) (v:=?_) rfl (by kernel_rfl) (by kernel_rfl) (by kernel_rfl) (by kernel_rfl) (by kernel_rfl) (λ_ _ _ h=>h) (Or.inl ⟨by rfl,?_⟩) (by assumption) ?_;rotate_left;focus (intro w hSw;(try dsimp only at hSw);go_simp;(try with_reducible rfl));(try simp only[Act.put,List.setIfInBounds_toArray,List.set_cons_zero,List.set_cons_succ]));(refine zH (i:=3) (v:=?_) rfl (by kernel_rfl) (by kernel_rfl) (by kernel_rfl) (by kernel_rfl) (by kernel_rfl) (λ_ _ _ h=>h) (Or.inl ⟨by rfl,?_⟩) (by assumption) ?_;rotate_left;focus (intro w hSw;(try dsimp only at hSw);go_simp;(try with_reducible rfl));(try simp only[Act.put,List.setIfInBounds_toArray,List.set_cons_zero,List.set_cons_succ]));(refine zH (i:=4) (v:=?_) rfl (by kernel_rfl) (by kernel_rfl) (by kernel_rfl) (by kernel_rfl) (by kernel_rfl) (λ_ _ _ h=>h) (Or.inl ⟨by rfl,?_⟩) (by assumption) ?_;rotate_left;focus (intro w hSw;(try dsimp only at hSw);go_simp;(try with_reducible rfl));(try simp only[Act.put,List.setIfInBounds_toArray,List.set_cons_zero,List.set_cons_succ]));(refine zH (i:=5) (v:=?_) rfl (by kernel_rfl) (by kernel_rfl) (by kernel_rfl) (by kernel_rfl) (by kernel_rfl) (λ_ _ _ h=>h) (Or.inl ⟨by rfl,?_⟩) (by assumption) ?_;rotate_left;focus (intro w hSw;(try dsimp only at hSw);go_simp;(try with_reducible rfl));(try simp only[Act.put,List.setIfInBounds_toArray,List.set_cons_zero,List.set_cons_succ]));(refine zH (i:=7) (v:=?_) rfl (by kernel_rfl) (by kernel_rfl) (by kernel_rfl) (by kernel_rfl) (by kernel_rfl) (λ_ _ _ h=>h) (Or.inl ⟨by rfl,?_⟩) (by assumption) ?_;rotate_left;focus (intro w hSw;(try dsimp only at hSw);go_simp;(try with_reducible rfl));(try simp only[Act.put,List.setIfInBounds_toArray,List.set_cons_zero,List.set_cons_succ]));(refine zH (i:=8) (v:=?_) rfl (by kernel_rfl) (by kernel_rfl) (by kernel_rfl) (by kernel_rfl) (by kernel_rfl) (λ_ _ _ h=>h) (Or.inl ⟨by rfl,?_⟩) (by assumption) ?_;rotate_left;focus (intro w hSw;(try dsimp only at hSw);go_simp;(try with_reducible rfl));(try simp only[Act.put,List.setIfInBounds_toArray,List.set_cons_zero,List.set_cons_succ]));(refine zH (i:=10) (v:=?_) rfl (by kernel_rfl) (by kernel_rfl) (by kernel_rfl) (by kernel_rfl) (by kernel_rfl) (λ_ _ _ h=>h) (Or.inl ⟨by rfl,?_⟩) (by assumption) ?_;rotate_left;focus (intro w hSw;(try dsimp only at hSw);go_simp;(try with_reducible rfl));(try simp only[Act.put,List.setIfInBounds_toArray,List.set_cons_zero,List.set_cons_succ]));(refine zH (i:=11) (v:=?_) rfl (by kernel_rfl) (by kernel_rfl) (by kernel_rfl) (by kernel_rfl) (by kernel_rfl) (λ_ _ _ h=>h) (Or.inl ⟨by rfl,?_⟩) (by assumption) ?_;rotate_left;focus (intro w hSw;(try dsimp only at hSw);go_simp;(try with_reducible rfl));(try simp only[Act.put,List.setIfInBounds_toArray,List.set_cons_zero,List.set_cons_succ]));(refine zH (i:=12) (v:=?_) rfl (by kernel_rfl) (by kernel_rfl) (by kernel_rfl) (by kernel_rfl) (by kernel_rfl) (λ_ _ _ h=>h) (Or.inl ⟨by rfl,?_⟩) (by assumption) ?_;rotate_left;focus (intro w hSw;(try dsimp only at hSw);go_simp;(try with_reducible rfl));(try simp only[Act.put,List.setIfInBounds_toArray,List.set_cons_zero,List.set_cons_succ]));(refine zH (i:=13) (v:=?_) rfl (by kernel_rfl) (by kernel_rfl) (by kernel_rfl) (by kernel_rfl) (by kernel_rfl) (λ_ _ _ h=>h) (Or.inl ⟨by rfl,?_⟩) (by assumption) ?_;rotate_left;focus (intro w hSw;(try dsimp only at hSw);go_simp;(try with_reducible rfl));(try simp only[Act.put,List.setIfInBounds_toArray,List.set_cons_zero,List.set_cons_succ]));(refine zH (i:=14) (v:=?_) rfl (by kernel_rfl) (by kernel_rfl) (by kernel_rfl) (by kernel_rfl) (by kernel_rfl) (λ_ _ _ h=>h) (Or.inl ⟨by rfl,?_⟩) (by assumption) ?_;rotate_left;focus (intro w hSw;(try dsimp only at hSw);go_simp;(try with_reducible rfl));(try simp only[Act.put,List.setIfInBounds_toArray,List.set_cons_zero,List.set_cons_succ]));(refine zH (i:=15) (v:=?_) rfl (by kernel_rfl) (by kernel_rfl) (by kernel_rfl) (by kernel_rfl) (by kernel_rfl) (λ_ _ _ h=>h) (Or.inl ⟨by rfl,?_⟩) (by assumption) ?_;rotate_left;focus (intro w hSw;(try dsimp only at hSw);go_simp;(try with_reducible rfl));(try simp only[Act.put,List.setIfInBounds_toArray,List.set_cons_zero,List.set_cons_succ]));(refine zH (i:=16) (v:=?_) rfl (by kernel_rfl) (by kernel_rfl) (by kernel_rfl) (by kernel_rfl) (by kernel_rfl) (λ_ _ _ h=>h) (Or.inl ⟨by rfl,?_⟩) (by assumption) ?_;rotate_left;focus (intro w hSw;(try dsimp only at hSw);go_simp;(try with_reducible rfl));(try simp only[Act.put,List.setIfInBounds_toArray,List.set_cons_zero,List.set_cons_succ]))
     (refine zX (rs:=[6]) (by kernel_rfl) (by simp) ?_;refine AllReadyT.cons rfl (λKK hK=>?_) AllReadyT.nil;go_simp;(go_at_call 143;refine(nWord (Own F [w.heap.size+1+1]) _ x _ zo _ (NatAt.keep hx0.out Kz)).mono ?_;rintro e wM ⟨rfl,hb⟩;obtain⟨K,C⟩:=Cur.step C Kz hb;have BW:=zJ (w:=w) Wz hb;have l0:=Blk.next l0 (λh=>Bz) hb;have l1:=Blk.next l1 (λh=>Bz) hb;have l2:=Blk.next l2 (λh=>Bz) hb;have l3:=Blk.next l3 (λh=>Bz) hb;have c0:=l0.cell;have f0:=l0.frozen;have z0:=l0.lt;have c1:=l1.cell;have f1:=l1.frozen;have z1:=l1.lt;have c2:=l2.cell;have f2:=l2.frozen;have z2:=l2.lt;have c3:=l3.cell;have f3:=l3.frozen;have z3:=l3.lt);go_wp2_with fail;refine hK.out _ _ (λ_=>⟨l0.cell,l1.cell,(l3.cell _).trans k3⟩) (λhHeld=>?_);have hHeld:=hHeld (by decide);clear hK KK;(try simp only[Act.put,List.setIfInBounds_toArray,List.set_cons_zero,List.set_cons_succ]))
     (refine zX (rs:=[9]) (by kernel_rfl) (by simp) ?_;refine AllReadyT.cons rfl (λKK hK=>?_) AllReadyT.nil;go_simp;(go_at_call 143;refine(nWord (Own F [w.heap.size+1+1]) _ y _ zo _ (NatAt.keep hy0.out Kz)).mono ?_;rintro e wM ⟨rfl,hb⟩;obtain⟨K,C⟩:=Cur.step C Kz hb;have BW:=zJ (w:=w) Wz hb;have l0:=Blk.next l0 (λh=>Bz) hb;have l1:=Blk.next l1 (λh=>Bz) hb;have l2:=Blk.next l2 (λh=>Bz) hb;have l3:=Blk.next l3 (λh=>Bz) hb;have c0:=l0.cell;have f0:=l0.frozen;have z0:=l0.lt;have c1:=l1.cell;have f1:=l1.frozen;have z1:=l1.lt;have c2:=l2.cell;have f2:=l2.frozen;have z2:=l2.lt;have c3:=l3.cell;have f3:=l3.frozen;have z3:=l3.lt);go_wp2_with fail;refine hK.out _ _ (λ_=>⟨l0.cell,l1.cell,(l3.cell _).trans k3⟩) (λhHeld=>?_);have hHeld:=hHeld (by decide);clear hK KK;(try simp only[Act.put,List.setIfInBounds_toArray,List.set_cons_zero,List.set_cons_succ]))
     (refine zX (rs:=[17]) (by kernel_rfl) (by simp) ?_;refine AllReadyT.cons rfl (λKK hK=>?_) AllReadyT.nil;go_simp;go_at_call 142;refine(wMulAdd _ _ _ _ (W64_wd _ _) (W64_wd _ _) (W64_nat (hI.out.1 _ zo)) (W64_nat ho) _).mono ?_;rintro e wN ⟨hi,lo,rfl,hmul,rfl⟩;obtain⟨hi',lo',rfl,rfl,h1,h2,h3⟩:=mulRel_nat hmul;have HM:=Lib.hid (And.intro h1 (And.intro h2 h3));clear hmul h1 h2 h3;go_wp2_with fail;refine hK.out _ _ (λ_=>⟨l0.cell,l1.cell,(l3.cell _).trans k3⟩) (λhHeld=>?_);have hHeld:=hHeld (by decide);clear hK KK;(try simp only[Act.put,List.setIfInBounds_toArray,List.set_cons_zero,List.set_cons_succ]))
     (refine zH (i:=18) (v:=?_) rfl (by kernel_rfl) (by kernel_rfl) (by kernel_rfl) (by kernel_rfl) (by kernel_rfl) (λ_ _ _ h=>h) (Or.inl ⟨by rfl,?_⟩) (by assumption) ?_;rotate_left;focus (intro w hSw;(try dsimp only at hSw);go_simp;(try with_reducible rfl));(try simp only[Act.put,List.setIfInBounds_toArray,List.set_cons_zero,List.set_cons_succ]));(refine zH (i:=19) (v:=?_) rfl (by kernel_rfl) (by kernel_rfl) (by kernel_rfl) (by kernel_rfl) (by kernel_rfl) (λ_ _ _ h=>h) (Or.inl ⟨by rfl,?_⟩) (by assumption) ?_;rotate_left;focus (intro w hSw;(try dsimp only at hSw);go_simp;(try with_reducible rfl));(try simp only[Act.put,List.setIfInBounds_toArray,List.set_cons_zero,List.set_cons_succ]));(refine zH (i:=20) (v:=?_) rfl (by kernel_rfl) (by kernel_rfl) (by kernel_rfl) (by kernel_rfl) (by kernel_rfl) (λ_ _ _ h=>h) (Or.inl ⟨by rfl,?_⟩) (by assumption) ?_;rotate_left;focus (intro w hSw;(try dsimp only at hSw);go_simp;(try with_reducible rfl));(try simp only[Act.put,List.setIfInBounds_toArray,List.set_cons_zero,List.set_cons_succ]));(refine zH (i:=21) (v:=?_) rfl (by kernel_rfl) (by kernel_rfl) (by kernel_rfl) (by kernel_rfl) (by kernel_rfl) (λ_ _ _ h=>h) (Or.inl ⟨by rfl,?_⟩) (by assumption) ?_;rotate_left;focus (intro w hSw;(try dsimp only at hSw);go_simp;(try with_reducible rfl));(try simp only[Act.put,List.setIfInBounds_toArray,List.set_cons_zero,List.set_cons_succ]));(refine zH (i:=22) (v:=?_) rfl (by kernel_rfl) (by kernel_rfl) (by kernel_rfl) (by kernel_rfl) (by kernel_rfl) (λ_ _ _ h=>h) (Or.inl ⟨by rfl,?_⟩) (by assumption) ?_;rotate_left;focus (intro w hSw;(try dsimp only at hSw);go_simp;(try with_reducible rfl));(try simp only[Act.put,List.setIfInBounds_toArray,List.set_cons_zero,List.set_cons_succ]))
     (refine zX (rs:=[23]) (by kernel_rfl) (by simp) ?_;refine AllReadyT.cons rfl (λKK hK=>?_) AllReadyT.nil;go_simp;skip;refine hK.out _ _ (λh=>absurd h (by decide)) (λ_=>?_);refine jX (by kernel_rfl) ?_ _;clear hK KK)
     go_wp2_with fail
     go_roundw
     case rel=>
      have KW:Keeps (Own F [w.heap.size+1+1]) w wM:=C
      have l3':=l3.set_ (j+k) (.int .u64 (lo':Nat))
      rw[wa_upd] at l3'
      exact⟨k+1,hi',_,rfl,rfl,by omega,col_step hI.out zo hlk HM.out.1 HM.out.2.1 HM.out.2.2,Cur.mk Kz,Wz,l0.far (by first | (simp;done) | (simp;omega)) _,l1.far (by first | (simp;done) | (simp;omega)) _,l2.far (by first | (simp;done) | (simp;omega)) _,l3'⟩
     case measure=>simp[intOf];omega
    ·obtain rfl:nw y=k:=by omega
     have k3:(wa f (nw x+nw y))[j+nw y]?=some (.int .u64 (f (j+nw y):Nat)):=kZ f _ (j+nw y) zo
     have hw2:(0:Int)<=(j:Int)+(nw y:Int):=by omega
     have hw4:((j:Int)+(nw y:Int)).toNat=j+nw y:=by omega
     have hw3:(j:Int)+(nw y:Int)<(nw x:Int)+(nw y:Int):=by omega
     go_wp2_with fail
     (refine(nLen (Own F [w.heap.size+1+1]) _ y _ (NatAt.keep hy0.out Kz)).mono ?_;rintro e wM ⟨rfl,hb⟩;obtain⟨K,C⟩:=Cur.step C Kz hb;have BW:=zJ (w:=w) Wz hb;have l0:=Blk.next l0 (λh=>Bz) hb;have l1:=Blk.next l1 (λh=>Bz) hb;have l2:=Blk.next l2 (λh=>Bz) hb;have l3:=Blk.next l3 (λh=>Bz) hb;have c0:=l0.cell;have f0:=l0.frozen;have z0:=l0.lt;have c1:=l1.cell;have f1:=l1.frozen;have z1:=l1.lt;have c2:=l2.cell;have f2:=l2.frozen;have z2:=l2.lt;have c3:=l3.cell;have f3:=l3.frozen;have z3:=l3.lt)
     have KW:Keeps (Own F [w.heap.size+1+1]) w wM:=C
     go_wp2_with fail
     go_roundw
     case rel=>
      have l3':=l3.set_ (j+nw y) (.int .u64 (o:Nat))
      rw[wa_upd] at l3'
      exact⟨j+1,_,rfl,by omega,row_step hI.out zo,Cur.mk Kz,Wz,l0.far (by first | (simp;done) | (simp;omega)) _,l1.far (by first | (simp;done) | (simp;omega)) _,l2.far (by first | (simp;done) | (simp;omega)) _,l3'⟩
     case measure=>simp[intOf];omega
  ·obtain rfl:nw x=j:=by omega
   have hv:=Lib.hid (row_end hI.out)
   have hsl:=Lib.hid (kM (G:=Own F [w.heap.size+1+1]) l3 (by intro hh;rcases hh with hh | hh;exact Nat.lt_irrefl _ (Nat.lt_of_lt_of_le (hF _ hh) KW.1);simp at hh;omega))
   have hwf:=Lib.hid hI.out.1
   have z2:=l2.lt
   go_wp2_with fail
   (refine(nOf (Own F [w.heap.size+1+1]) (some ⟨wO.heap.size,0,none⟩) (nw x+nw y) (nw x+nw y) f _ (Lows.own hF (by first | (simp;done) | (simp;omega) | omega) (by first | (simp;done) | (simp;omega) | omega)) hsl.out hwf.out hs (λe=>(by cases e))).mono ?_;rintro e wM ⟨v',rfl,hr,hb⟩;obtain⟨A',n',c',rfl⟩:=hr.form;obtain⟨K,C⟩:=Cur.step C Kz hb;have BW:=zJ (w:=w) Wz hb;have l2:=Blk.next l2 (λh=>Bz) hb;have c2:=l2.cell;have f2:=l2.frozen;have z2:=l2.lt)
   rw[hv.out] at hr
   have H:=Lib.hid hr
   clear hr
   go_wp2_with fail
   exact bodyPost_ret (v:=.agg #[.slice A' n' c']) (by simp[results,Tryz.results124,go_sem,c2]) rfl ⟨_,rfl,(H.out.keep Kz).sub Own.sub,Wz⟩
open Go.RowKit
def remV (x d j:Nat):Nat:=x/2^(64*j)%d
theorem remV_lt(x d j:Nat)(h:0<d):remV x d j<d:=Nat.mod_lt _ h
theorem remV_top(x d:Nat):remV x d (nw x)=0:=by unfold remV;rw[Nat.div_eq_of_lt (kE x),Nat.zero_mod]
theorem quot_word(x d j:Nat)(hd:0<d):wd (x/d) j=(remV x d (j+1)*18446744073709551616+wd x j)/d/\remV x d j=(remV x d (j+1)*18446744073709551616+wd x j)%d:=by
 have h1:=hi_step x j
 have hL:x/d/2^(64*j)=x/2^(64*j)/d:=by rw[Nat.div_div_eq_div_mul,Nat.mul_comm d,←Nat.div_div_eq_div_mul]
 have hw:=xH x j
 unfold remV
 have hu:wd (x/d) j=x/2^(64*j)/d%18446744073709551616:=by unfold wd;rw[hL]
 rw[hu,h1]
 generalize x/2^(64*(j+1))=H
 generalize wd x j=a at*
 have h2:H*18446744073709551616+a=d*(H/d*18446744073709551616)+(H%d*18446744073709551616+a):=by
  have h:=Nat.div_add_mod H d
  have:H*18446744073709551616=(d*(H/d)+H%d)*18446744073709551616:=by rw[h]
  rw[this,Nat.add_mul,Nat.mul_assoc,Nat.add_assoc]
 have h3:(H%d*18446744073709551616+a)/d<18446744073709551616:=by
  rw[Nat.div_lt_iff_lt_mul hd]
  have:(H%d+1)*18446744073709551616<=d*18446744073709551616:=Nat.mul_le_mul_right _ (Nat.mod_lt _ hd)
  rw[Nat.mul_comm 18446744073709551616 d]
  omega
 constructor
 ·rw[h2,Nat.mul_add_div hd,Nat.mul_comm (H/d),Nat.mul_add_mod,Nat.mod_eq_of_lt h3]
 ·rw[h2,Nat.mul_add_mod]
def ByInv (x d:Nat) (f:Nat->Nat) (N j:Nat):Prop:=Wf f N/\∀i,j<=i->i<N->f i=wd (x/d) i
theorem by_step(x d:Nat)(f:Nat->Nat)(N j u:Nat)(h:ByInv x d f N (j+1))(hd:0<d)(hu:u=(remV x d (j+1)*18446744073709551616+wd x j)/d):ByInv x d (upd f j u) N j:=by
 rw[←(quot_word x d j hd).1] at hu
 refine⟨jB _ _ _ _ h.1 (by rw[hu];exact xH _ _),λi hi hn=>?_⟩
 unfold upd
 by_cases e:i=j
 ·subst e;rw[if_pos rfl];exact hu
 ·rw[if_neg e];exact h.2 i zo hn
theorem by_end(x d:Nat)(f:Nat->Nat)(h:ByInv x d f (nw x) 0):val f (nw x)=x/d:=by
 rw[val_congr f (wd (x/d)) _ λi hi=>h.2 i (Nat.zero_le _) hi,jD _ _ (nw_mono (Nat.div_le_self _ _))]
set_option maxHeartbeats 1000000 in
theorem qByWord(F:Nat->Prop)(va:Value)(x d:Nat)(w:World)(hF:Lows F w)(ha:NatAt F w va x)(hd:0<d)(hd2:d<18446744073709551616):
  Calls Tryz.prog 150 #[va,.int .u64 (d:Nat)] w λe w'=>∃v,e=.returned (.tuple #[v,.int .u64 (remV x d 0:Nat),.bool true])/\NatAt F w' v (x/d)/\Below w.heap.size w w':=by
 have hx:=ha.own (G:=Own F [w.heap.size+1]) (Own.new (by simp))
 have hsx:=ha.small
 obtain⟨A,n,c,rfl⟩:=ha.form
 clear ha
 unfold Small at hsx
 have hmk:=λw=>mk64 (nw x) zo w
 have hx0:=Lib.hid hx
 clear hx
 have hd0:((d:Int)==0)=false:=by simp;omega
 have l0:=(Blk.new w 72 #[.slice A n c]).alloc (.cells #[.slice none 0 0] 72)
 have l1:=Blk.new_at (w.alloc (.cells #[.slice A n c] 72)) 72 #[.slice none 0 0] (w.heap.size+1) (by simp)
 have C:=Cur.start (Own F [w.heap.size+1]) w
 go_enter Tryz.func150,Tryz.ntmps150
 go_wp2_with fail
 (refine(nLen (Own F [w.heap.size+1]) _ x _ (NatAt.keep hx0.out Kz)).mono ?_;rintro e wM ⟨rfl,hb⟩;obtain⟨K,C⟩:=Cur.step C Kz hb;have BW:=zJ (w:=w) Wz hb;have l0:=Blk.next l0 (λh=>Bz) hb;have l1:=Blk.next l1 (λh=>Bz) hb;have c0:=l0.cell;have f0:=l0.frozen;have z0:=l0.lt;have c1:=l1.cell;have f1:=l1.frozen;have z1:=l1.lt)
 obtain⟨wO,rfl⟩:∃z:World,z=wM:=⟨_,rfl⟩
 have KW:Keeps (Own F [w.heap.size+1]) w wO:=C
 have q2:w.heap.size+1<wO.heap.size:=l1.lt
 have l2:=Blk.new wO 177 (wa (λ_=>0) (nw x))
 go_wp2_with fail
 (refine(nLen (Own F [w.heap.size+1]) _ x _ (NatAt.keep hx0.out Kz)).mono ?_;rintro e wM ⟨rfl,hb⟩;obtain⟨K,C⟩:=Cur.step C Kz hb;have BW:=zJ (w:=w) Wz hb;have l0:=Blk.next l0 (λh=>Bz) hb;have l1:=Blk.next l1 (λh=>Bz) hb;have l2:=Blk.next l2 (λh=>Bz) hb;have c0:=l0.cell;have f0:=l0.frozen;have z0:=l0.lt;have c1:=l1.cell;have f1:=l1.frozen;have z1:=l1.lt;have c2:=l2.cell;have f2:=l2.frozen;have z2:=l2.lt)
 go_wp2_with fail
 go_loopw [8,9] (λl i wr=>∃(j:Nat) (f:Nat->Nat),i=.int .i64 ((j:Int)-1)/\l=.int .u64 (remV x d j:Nat)/\j<=nw x/\ByInv x d f (nw x) j/\Cur (Own F [w.heap.size+1]) w wr/\Below w.heap.size w wr/\
   Blk wr w.heap.size 72 #[.slice A n c]/\Blk wr (w.heap.size+1) 72 #[.slice none 0 0]/\Blk wr wO.heap.size 177 (wa f (nw x))) (λl i wr=>(intOf i+1).toNat)
 case atStart=>
  exact⟨nw x,λ_=>0,rfl,by rw[remV_top];rfl,by omega,⟨λi hi=>by show 0<_;omega,λi h1 h2=>by omega⟩,Cur.mk Kz,Wz,l0,l1,l2⟩
 case round=>
  obtain⟨j,f,rfl,rfl,hj,hi,C,BW,l0,l1,l2⟩:=hrel
  have K:Keeps (Own F [w.heap.size+1]) w wr:=C
  have hI:=Lib.hid hi
  clear hi
  have c0:=l0.cell
  rcases j with _ | m
  ·have hv:=Lib.hid (by_end x d f hI.out)
   have hsl:=Lib.hid (kM (G:=Own F [w.heap.size+1]) l2 (by intro hh;rcases hh with hh | hh;exact Nat.lt_irrefl _ (Nat.lt_of_lt_of_le (hF _ hh) KW.1);simp at hh;omega))
   have hwf:=Lib.hid hI.out.1
   have z1:=l1.lt
   go_wp2_with fail
   (refine(nOf (Own F [w.heap.size+1]) (some ⟨wO.heap.size,0,none⟩) (nw x) (nw x) f _ (Lows.own hF (by first | (simp;done) | (simp;omega) | omega) (by first | (simp;done) | (simp;omega) | omega)) hsl.out hwf.out hsx (λe=>(by cases e))).mono ?_;rintro e wM ⟨v',rfl,hr,hb⟩;obtain⟨A',n',c',rfl⟩:=hr.form;obtain⟨K,C⟩:=Cur.step C Kz hb;have BW:=zJ (w:=w) Wz hb;have l1:=Blk.next l1 (λh=>Bz) hb;have c1:=l1.cell;have f1:=l1.frozen;have z1:=l1.lt)
   rw[hv.out] at hr
   have H:=Lib.hid hr
   clear hr
   go_wp2_with fail
   exact bodyPost_ret (v:=.tuple #[.agg #[.slice A' n' c'],.int .u64 (remV x d 0:Nat),.bool true]) (by simp[results,Tryz.results150,go_sem,c1]) rfl ⟨_,rfl,(H.out.keep Kz).sub Own.sub,Wz⟩
  ·rw[show((m+1:Nat):Int)-1=(m:Int) by omega]
   have hm0:(0:Int)<=m:=by omega
   have hm1:(m:Int)<(nw x:Int):=by omega
   have k2:(wa f (nw x))[m]?=some (.int .u64 (f m:Nat)):=kZ f _ m zo
   have hw1:IntKind.i64.wrap ((m:Int)-1)=(m:Int)-1:=wrapI zo zo
   go_wp2_with fail
   (refine(nWord (Own F [w.heap.size+1]) _ x _ zo _ (NatAt.keep hx0.out Kz)).mono ?_;rintro e wM ⟨rfl,hb⟩;obtain⟨K,C⟩:=Cur.step C Kz hb;have BW:=zJ (w:=w) Wz hb;have l0:=Blk.next l0 (λh=>Bz) hb;have l1:=Blk.next l1 (λh=>Bz) hb;have l2:=Blk.next l2 (λh=>Bz) hb;have c0:=l0.cell;have f0:=l0.frozen;have z0:=l0.lt;have c1:=l1.cell;have f1:=l1.frozen;have z1:=l1.lt;have c2:=l2.cell;have f2:=l2.frozen;have z2:=l2.lt)
   have KX:Keeps (Own F [w.heap.size+1]) w wM:=C
   go_wp2_with fail
   refine(wDiv_yes (remV x d (m+1)) (wd x m) d (remV_lt _ _ _ hd) (xH _ _) hd2 _).mono ?_
   rintro e wN ⟨rfl,nn,rfl⟩
   go_wp2_with fail
   go_roundw
   case rel=>
    have l2':=l2.drewN nn |>.set_ m (.int .u64 (divQ (remV x d (m+1)) (wd x m) d:Nat))
    rw[wa_upd] at l2'
    refine⟨m,_,rfl,by unfold divR;rw[←(quot_word x d m hd).2],by omega,by_step x d f _ m _ hI.out hd rfl,Cur.mk Kz,Wz,(l0.drewN nn).far (by first | (simp;done) | (simp;omega)) _,(l1.drewN nn).far (by first | (simp;done) | (simp;omega)) _,l2'⟩
   case measure=>simp[intOf]
theorem qByWord_no(F:Nat->Prop)(va:Value)(x:Nat)(w:World)(ha:NatAt F w va x):
  Calls Tryz.prog 150 #[va,.int .u64 0] w λe w'=>e=.returned (.tuple #[.agg #[.slice none 0 0],.int .u64 0,.bool false])/\Below w.heap.size w w':=by
 obtain⟨A,n,c,rfl⟩:=ha.form
 clear ha
 have l1:=Blk.new_at (w.alloc (.cells #[.slice A n c] 72)) 72 #[.slice none 0 0] (w.heap.size+1) (by simp)
 go_enter Tryz.func150,Tryz.ntmps150
 go_wp2_with fail
 exact bodyPost_ret (v:=.tuple #[.agg #[.slice none 0 0],.int .u64 0,.bool false]) (by simp[results,Tryz.results150,go_sem,l1.cell]) rfl ⟨rfl,Wz⟩
end Go.Proofs.YtjhfkgpjcdbjaaaGreatDoor
